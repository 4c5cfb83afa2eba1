-- By a program of this session, out of the translation (the print of the kit, with turns of its own). Lean checks it.
import Derived.Test.YtemjmefacifdeaaGreatDoorPFnExactBlockNewx0
import Derived.Test.YtemjmefacifdeaaGreatDoorPFnExactBlockNewx1
import Derived.Test.YtemjmefacifdeaaGreatDoorPFnExactBlockNewx9
import Derived.Test.YtemjmefacifdeaaGreatDoorPFnExactBlockNewx10
import Derived.Test.YtemjmefacifdeaaGreatDoorPFnExactBlockNewx17
import Derived.Test.YtemjmefacifdeaaGreatDoorPFnExactBlockNewx18
namespace Go.Proofs.YtemjmefacifdeaaGreatDoor.PFnExactBlockNew
open Go.RowKit Go.Proofs.YtemjmefacifdeaaGreatDoorW.PrintWords Go.Proofs.YtemjmefacifdeaaGreatDoorW.PrintLast Go.Proofs.YtemjmefacifdeaaGreatDoorW.PrintMore
attribute [local go_sem] max2_int min2_int max_two min_two max_three min_three max_four min_four   -- for this text's walks alone
set_option linter.unusedVariables false
set_option linter.unusedSimpArgs false

/-! ### laws_FnExactBlockNew: function 5 -/
def laws_FnExactBlockNew.f (k : Nat) (a0_0 : Int) (a0_1 : Int) (a1_0 : Int) (a1_1 : ByteArray) (l1_2 : List Int) (a2 : Int) (l3 : List (S101)) : Option (Bool) := (laws_szQc.f a1_0 a1_1 l1_2 1048576).bind fun t447 => (if t447 < 0 then (some true) else ((laws_szTxS.f l3 t447).bind fun t448 => (if t448 < 0 then (some true) else ((laws_toConf.f a0_0 a0_1).bind fun bt449 => ((laws_toQc.f k a1_0 a1_1 l1_2).bind fun bt451 => ((laws_toTxS.f k l3).bind fun t456 => ((spec_BlockNew.f k bt449.1 bt449.2 bt451.1 bt451.2.1 bt451.2.2 a2 t456).bind fun bt459 => ((laws_toQc.f k a1_0 a1_1 l1_2).bind fun bt467 => ((laws_toTxS.f k l3).bind fun t473 => ((laws_toConf.f a0_0 a0_1).bind fun bt476 => ((impl_BlockNew.f k bt476.1 bt476.2 bt467.1 bt467.2.1 bt467.2.2 a2 t473).bind fun bt478 => ((laws_eqBlock.f k bt478.1 bt478.2.1 bt478.2.2.1 bt478.2.2.2.1 bt459.1 bt459.2.1 bt459.2.2.1 bt459.2.2.2.1).bind fun t486 => (if t486 = true then (if (bt478.2.2.2.2 != bt459.2.2.2.2) = true then (some false) else ((laws_toQc.f k a1_0 a1_1 l1_2).bind fun bt487 => ((laws_eqQc.f k bt467.1 bt467.2.1 bt467.2.2 bt487.1 bt487.2.1 bt487.2.2).bind fun t492 => (if t492 = true then ((laws_toTxS.f k l3).bind fun t493 => ((laws_eqTxS.f k t473 t493).bind fun t496 => (if t496 = true then ((laws_markQc.f k bt467.1 bt467.2.1 bt467.2.2 1).bind fun bt497 => ((laws_markTxS.f k t473 bt497.1).bind fun bt499 => (if bt499.1 < 0 then (some false) else ((laws_eqBlock.f k bt478.1 bt478.2.1 bt478.2.2.1 bt478.2.2.2.1 bt459.1 bt459.2.1 bt459.2.2.1 bt459.2.2.2.1).bind fun t501 => (if t501 = true then ((laws_markBlock.f k bt478.1 bt478.2.1 bt478.2.2.1 bt478.2.2.2.1 1).bind fun bt502 => ((laws_heldBlock.f k bt478.1 bt478.2.1 bt478.2.2.1 bt502.2 1).bind fun t504 => (if t504 < 0 then (some false) else (if t504 = bt502.1 then ((laws_toConf.f a0_0 a0_1).bind fun bt505 => ((laws_toQc.f k a1_0 a1_1 l1_2).bind fun bt507 => ((laws_toTxS.f k l3).bind fun t512 => ((impl_BlockNew.f k bt505.1 bt505.2 bt507.1 bt507.2.1 bt507.2.2 a2 t512).bind fun bt515 => ((laws_eqBlock.f k bt515.1 bt515.2.1 bt515.2.2.1 bt515.2.2.2.1 bt459.1 bt459.2.1 bt459.2.2.1 bt459.2.2.2.1).bind fun t523 => (if t523 = true then (if (bt515.2.2.2.2 != bt459.2.2.2.2) = true then (some false) else ((laws_heldBlock.f k bt478.1 bt478.2.1 bt478.2.2.1 bt502.2 1).bind fun t524 => (if t524 < 0 then (some false) else (if t524 = bt502.1 then (some true) else (some false))))) else (some false))))))) else (some false))))) else (some false)))))) else (some false)))) else (some false))))) else (some false))))))))))))))
theorem laws_FnExactBlockNew.mono : ∀ a0 a1 a2 a3 a4 a5 a6 k, LeO (laws_FnExactBlockNew.f k a0 a1 a2 a3 a4 a5 a6) (laws_FnExactBlockNew.f (k + 1) a0 a1 a2 a3 a4 a5 a6) := by
 intro a0 a1 a2 a3 a4 a5 a6 k
 unfold laws_FnExactBlockNew.f
 repeat' first | (with_reducible exact impl_BlockNew.mono _ _ _ _ _ _ _ _) | (with_reducible exact laws_eqBlock.mono _ _ _ _ _ _ _ _ _) | (with_reducible exact laws_eqQc.mono _ _ _ _ _ _ _) | (with_reducible exact laws_eqTxS.mono _ _ _) | (with_reducible exact laws_heldBlock.mono _ _ _ _ _ _) | (with_reducible exact laws_markBlock.mono _ _ _ _ _ _) | (with_reducible exact laws_markQc.mono _ _ _ _ _) | (with_reducible exact laws_markTxS.mono _ _ _) | (with_reducible exact laws_toQc.mono _ _ _ _) | (with_reducible exact laws_toTxS.mono _ _) | (with_reducible exact spec_BlockNew.mono _ _ _ _ _ _ _ _) | (with_reducible exact LeO.refl _) | (with_reducible exact LeO.none _) | (with_reducible refine LeO.ite ?_ ?_) | (with_reducible refine LeO.bind ?_ (fun _ => ?_))
def laws_FnExactBlockNew.T8 : Bool × List (List Nat × List Nat) := (true, [([], []), ([0], [0]), ([], []), ([2, 1], [2]), ([], []), ([], []), ([5, 3], [5]), ([1, 3, 4, 6, 6], [1, 3, 4, 6]), ([7], [7]), ([8], [8]), ([8], [8]), ([], []), ([11, 9, 7, 0, 1, 2, 3, 4, 5, 6, 7, 8, 9, 11], [9, 11]), ([10, 12, 0, 1, 2, 3, 4, 5, 6, 7, 8, 9, 10, 11, 12], [10])])
def laws_FnExactBlockNew.B8 : List Nat := [0, 1, 0, 7, 0, 0, 47, 127, 255, 511, 511, 0, 3071, 8191]
theorem laws_FnExactBlockNew.tab8 : rtab .any (opsOf Tryz.f5 8) = laws_FnExactBlockNew.T8 := by kernel_rfl
theorem laws_FnExactBlockNew.bits8 : waitsOk laws_FnExactBlockNew.T8.2 laws_FnExactBlockNew.B8 = true := by kernel_rfl
def laws_FnExactBlockNew.T11 : Bool × List (List Nat × List Nat) := (true, [([], []), ([0], [0]), ([], []), ([], []), ([], []), ([1, 2, 3, 4, 1], [1, 2, 3, 4]), ([5], [5]), ([6], [6]), ([6], [6]), ([], []), ([9, 7, 5, 0, 1, 2, 3, 4, 5, 6, 7, 9], [7, 9]), ([8, 10, 0, 1, 2, 3, 4, 5, 6, 7, 8, 9, 10], [8])])
def laws_FnExactBlockNew.B11 : List Nat := [0, 1, 0, 0, 0, 31, 63, 127, 127, 0, 767, 2047]
theorem laws_FnExactBlockNew.tab11 : rtab .any (opsOf Tryz.f5 11) = laws_FnExactBlockNew.T11 := by kernel_rfl
theorem laws_FnExactBlockNew.bits11 : waitsOk laws_FnExactBlockNew.T11.2 laws_FnExactBlockNew.B11 = true := by kernel_rfl
def laws_FnExactBlockNew.T31 : Bool × List (List Nat × List Nat) := (true, [([], []), ([0], [0]), ([], []), ([2, 1], [2]), ([], []), ([], []), ([5, 3], [5]), ([1, 3, 4, 6, 6], [1, 3, 4, 6]), ([7], [7]), ([8], [8]), ([8], [8]), ([], []), ([11, 9, 7, 0, 1, 2, 3, 4, 5, 6, 7, 8, 9, 11], [9, 11]), ([10, 12, 0, 1, 2, 3, 4, 5, 6, 7, 8, 9, 10, 11, 12], [10])])
def laws_FnExactBlockNew.B31 : List Nat := [0, 1, 0, 7, 0, 0, 47, 127, 255, 511, 511, 0, 3071, 8191]
theorem laws_FnExactBlockNew.tab31 : rtab .any (opsOf Tryz.f5 31) = laws_FnExactBlockNew.T31 := by kernel_rfl
theorem laws_FnExactBlockNew.bits31 : waitsOk laws_FnExactBlockNew.T31.2 laws_FnExactBlockNew.B31 = true := by kernel_rfl
set_option maxHeartbeats 8000000 in
set_option maxRecDepth 100000 in
theorem laws_FnExactBlockNew.calls (k : Nat) (a0_0 : Int) (a0_1 : Int) (a1_0 : Int) (a1_1 : ByteArray) (A1_2 : Option Addr) (c1_2 : Nat) (l1_2 : List Int) (a2 : Int) (A3 : Option Addr) (c3 : Nat) (l3 : List (S101)) (r : Bool) (hrt : Aside0 (r = true)) (w : World) (hr1_2 : Kd.C (Kd.int .i64) w A1_2 l1_2.length l1_2) (hc1_2 : l1_2.length ≤ c1_2) (hr3 : Kd.C k101 w A3 l3.length l3) (hc3 : l3.length ≤ c3) (h : laws_FnExactBlockNew.f k a0_0 a0_1 a1_0 a1_1 l1_2 a2 l3 = some r) (hG : Glob w := by exact gG HG HB) :
  Calls Tryz.prog 5 #[.agg #[.int .i64 a0_0, .int .i64 a0_1], .agg #[.int .i64 a1_0, .string a1_1, .slice A1_2 l1_2.length c1_2], .int .i64 a2, .slice A3 l3.length c3] w fun e w' => e = .returned (.bool r) ∧ Below w.heap.size w w' := by
 have HG := Aside0.mk hG; clear hG; have hu23 := Tryz.underlying23; have hu26 := Tryz.underlying26; have hu42 := Tryz.underlying42; have hu33 := Tryz.underlying33; have HR1_2 := Aside0.mk hr1_2; have HC1_2 := Aside0.mk hc1_2; clear hr1_2 hc1_2; have HR3 := Aside0.mk hr3; have HC3 := Aside0.mk hc3; clear hr3 hc3; have HB := Aside0.mk (Below.refl w.heap.size w)
 have H : ((laws_szQc.f a1_0 a1_1 l1_2 1048576).bind fun t447 => (if t447 < 0 then (some true) else ((laws_szTxS.f l3 t447).bind fun t448 => (if t448 < 0 then (some true) else ((laws_toConf.f a0_0 a0_1).bind fun bt449 => ((laws_toQc.f k a1_0 a1_1 l1_2).bind fun bt451 => ((laws_toTxS.f k l3).bind fun t456 => ((spec_BlockNew.f k bt449.1 bt449.2 bt451.1 bt451.2.1 bt451.2.2 a2 t456).bind fun bt459 => ((laws_toQc.f k a1_0 a1_1 l1_2).bind fun bt467 => ((laws_toTxS.f k l3).bind fun t473 => ((laws_toConf.f a0_0 a0_1).bind fun bt476 => ((impl_BlockNew.f k bt476.1 bt476.2 bt467.1 bt467.2.1 bt467.2.2 a2 t473).bind fun bt478 => ((laws_eqBlock.f k bt478.1 bt478.2.1 bt478.2.2.1 bt478.2.2.2.1 bt459.1 bt459.2.1 bt459.2.2.1 bt459.2.2.2.1).bind fun t486 => (if t486 = true then (if (bt478.2.2.2.2 != bt459.2.2.2.2) = true then (some false) else ((laws_toQc.f k a1_0 a1_1 l1_2).bind fun bt487 => ((laws_eqQc.f k bt467.1 bt467.2.1 bt467.2.2 bt487.1 bt487.2.1 bt487.2.2).bind fun t492 => (if t492 = true then ((laws_toTxS.f k l3).bind fun t493 => ((laws_eqTxS.f k t473 t493).bind fun t496 => (if t496 = true then ((laws_markQc.f k bt467.1 bt467.2.1 bt467.2.2 1).bind fun bt497 => ((laws_markTxS.f k t473 bt497.1).bind fun bt499 => (if bt499.1 < 0 then (some false) else ((laws_eqBlock.f k bt478.1 bt478.2.1 bt478.2.2.1 bt478.2.2.2.1 bt459.1 bt459.2.1 bt459.2.2.1 bt459.2.2.2.1).bind fun t501 => (if t501 = true then ((laws_markBlock.f k bt478.1 bt478.2.1 bt478.2.2.1 bt478.2.2.2.1 1).bind fun bt502 => ((laws_heldBlock.f k bt478.1 bt478.2.1 bt478.2.2.1 bt502.2 1).bind fun t504 => (if t504 < 0 then (some false) else (if t504 = bt502.1 then ((laws_toConf.f a0_0 a0_1).bind fun bt505 => ((laws_toQc.f k a1_0 a1_1 l1_2).bind fun bt507 => ((laws_toTxS.f k l3).bind fun t512 => ((impl_BlockNew.f k bt505.1 bt505.2 bt507.1 bt507.2.1 bt507.2.2 a2 t512).bind fun bt515 => ((laws_eqBlock.f k bt515.1 bt515.2.1 bt515.2.2.1 bt515.2.2.2.1 bt459.1 bt459.2.1 bt459.2.2.1 bt459.2.2.2.1).bind fun t523 => (if t523 = true then (if (bt515.2.2.2.2 != bt459.2.2.2.2) = true then (some false) else ((laws_heldBlock.f k bt478.1 bt478.2.1 bt478.2.2.1 bt502.2 1).bind fun t524 => (if t524 < 0 then (some false) else (if t524 = bt502.1 then (some true) else (some false))))) else (some false))))))) else (some false))))) else (some false)))))) else (some false)))) else (some false))))) else (some false))))))))))))))) = some r := h
 clear h; obtain ⟨t447, A50, H⟩ := Option.bind_eq_some_iff.mp H
 try dsimp only at H
 have A5 := Aside0.mk A50; clear A50
 by_cases c6 : t447 < 0
 ·
  rw [if_pos c6] at H
  have c6b0 : decide (t447 < 0) = true := decide_eq_true c6; clear c6; obtain rfl := Option.some.inj H
  go_enter Tryz.func5, Tryz.ntmps5
  go_wp2_with (first | ((with_reducible refine gd 4 ?_); refine bA 4 #[.int .i64 a0_0, .int .i64 a0_1] 23 ?_; intro gb445 hg w7 hbox hb; have BK445 := Aside0.mk (hbox); have GW445 := bg hg HB; have GJ445 := gi GW445; have GE445 := GW445; replace HB := bs HB hb; clear hb hbox hg) | ((with_reducible refine gd 5 ?_); refine bA 5 #[.int .i64 a1_0, .string a1_1, .slice A1_2 l1_2.length c1_2] 26 ?_; intro gb446 hg w8 hbox hb; have BK446 := Aside0.mk (hbox); have GW446 := bg hg HB; have GJ446 := gi GW446; have GE446 := GW446; replace HB := bs HB hb; have NB445_446 := b1 BK445 hg; have NI445_446 := ni NB445_446; have NB446_445 := b2 BK445 hg; have NI446_445 := ni NB446_445; replace BK445 := bk BK445 hb; clear hb hbox hg; have hnb9 := NB446_445.out; have hnc9 := NB445_446.out; obtain ⟨hcz10_0, hcz10_1, hcz10_2, hfz10_0, hfz10_1, hfz10_2⟩ := cs3 BK446) | ((with_reducible refine gate_callee (f := 23) rfl ?_); refine gB (some 23) Tryz.func23 #[.agg #[.int .i64 a1_0, .string a1_1, .slice A1_2 l1_2.length c1_2], .int .i64 1048576] ?_; (with_reducible refine (laws_szQc.calls a1_0 a1_1 _ _ l1_2 1048576 t447 _ ?side1 ?side2 A5.out).mono ?_); (case side1 => exact ch HR1_2 HB); (case side2 => exact HC1_2.out); rintro e w11 ⟨rfl, hb⟩; refine ⟨_, rfl, ?_⟩; replace BK445 := bk BK445 hb; replace BK446 := bk BK446 hb; replace HB := bs HB hb; (try clear hb); (try clear hb2); (try clear hk); (try clear hi)))
  go_ret
  exact ⟨y0_10, bI HB.out⟩
 rw [if_neg c6] at H
 have c6b0 : decide (t447 < 0) = false := decide_eq_false c6; clear c6; obtain ⟨t448, A120, H⟩ := Option.bind_eq_some_iff.mp H
 try dsimp only at H
 have A12 := Aside0.mk A120; clear A120
 by_cases c13 : t448 < 0
 ·
  rw [if_pos c13] at H
  have c13b0 : decide (t448 < 0) = true := decide_eq_true c13; clear c13; obtain rfl := Option.some.inj H
  go_enter Tryz.func5, Tryz.ntmps5
  go_wp2_with (first | ((with_reducible refine gd 4 ?_); refine bA 4 #[.int .i64 a0_0, .int .i64 a0_1] 23 ?_; intro gb445 hg w14 hbox hb; have BK445 := Aside0.mk (hbox); have GW445 := bg hg HB; have GJ445 := gi GW445; have GE445 := GW445; replace HB := bs HB hb; clear hb hbox hg) | ((with_reducible refine gd 5 ?_); refine bA 5 #[.int .i64 a1_0, .string a1_1, .slice A1_2 l1_2.length c1_2] 26 ?_; intro gb446 hg w15 hbox hb; have BK446 := Aside0.mk (hbox); have GW446 := bg hg HB; have GJ446 := gi GW446; have GE446 := GW446; replace HB := bs HB hb; have NB445_446 := b1 BK445 hg; have NI445_446 := ni NB445_446; have NB446_445 := b2 BK445 hg; have NI446_445 := ni NB446_445; replace BK445 := bk BK445 hb; clear hb hbox hg; have hnb16 := NB446_445.out; have hnc16 := NB445_446.out; obtain ⟨hcz17_0, hcz17_1, hcz17_2, hfz17_0, hfz17_1, hfz17_2⟩ := cs3 BK446) | ((with_reducible refine gate_callee (f := 23) rfl ?_); refine gB (some 23) Tryz.func23 #[.agg #[.int .i64 a1_0, .string a1_1, .slice A1_2 l1_2.length c1_2], .int .i64 1048576] ?_; (with_reducible refine (laws_szQc.calls a1_0 a1_1 _ _ l1_2 1048576 t447 _ ?side1 ?side2 A5.out).mono ?_); (case side1 => exact ch HR1_2 HB); (case side2 => exact HC1_2.out); rintro e w18 ⟨rfl, hb⟩; refine ⟨_, rfl, ?_⟩; replace BK445 := bk BK445 hb; replace BK446 := bk BK446 hb; replace HB := bs HB hb; (try clear hb); (try clear hb2); (try clear hk); (try clear hi)) | ((with_reducible refine gate_callee (f := 29) rfl ?_); refine gB (some 28) Tryz.func29 #[.slice A3 l3.length c3, .int .i64 t447] ?_; (with_reducible refine (laws_szTxS.calls _ _ l3 t447 t448 _ ?side1 ?side2 A12.out).mono ?_); (case side1 => exact ch HR3 HB); (case side2 => exact HC3.out); rintro e w' ⟨rfl, ⟨nd, rfl⟩⟩; refine ⟨_, rfl, ?_⟩))
  go_ret
  exact ⟨y0_10, bI HB.out⟩
 rw [if_neg c13] at H
 have c13b0 : decide (t448 < 0) = false := decide_eq_false c13; clear c13; obtain ⟨⟨t449, t450⟩, A190, H⟩ := Option.bind_eq_some_iff.mp H
 try dsimp only at H
 have A19 := Aside0.mk A190; clear A190; obtain ⟨⟨t451, t452, t453⟩, A200, H⟩ := Option.bind_eq_some_iff.mp H
 try dsimp only at H
 have A20 := Aside0.mk A200; clear A200; obtain ⟨t456, A210, H⟩ := Option.bind_eq_some_iff.mp H
 try dsimp only at H
 have A21 := Aside0.mk A210; clear A210; obtain ⟨⟨t459, t460, t461, t462, t465⟩, A220, H⟩ := Option.bind_eq_some_iff.mp H
 try dsimp only at H
 have A22 := Aside0.mk A220; clear A220; obtain ⟨⟨t467, t468, t469⟩, A230, H⟩ := Option.bind_eq_some_iff.mp H
 try dsimp only at H
 have A23 := Aside0.mk A230; clear A230; obtain ⟨t473, A240, H⟩ := Option.bind_eq_some_iff.mp H
 try dsimp only at H
 have A24 := Aside0.mk A240; clear A240; obtain ⟨⟨t476, t477⟩, A250, H⟩ := Option.bind_eq_some_iff.mp H
 try dsimp only at H
 have A25 := Aside0.mk A250; clear A250; obtain ⟨⟨t478, t479, t480, t481, t484⟩, A260, H⟩ := Option.bind_eq_some_iff.mp H
 try dsimp only at H
 have A26 := Aside0.mk A260; clear A260; obtain ⟨t486, A270, H⟩ := Option.bind_eq_some_iff.mp H
 try dsimp only at H
 have A27 := Aside0.mk A270; clear A270
 by_cases c28 : t486 = true
 ·
  subst c28
  rw [if_pos rfl] at H
  by_cases c29 : (t484 != t465) = true
  ·
   rw [if_pos c29] at H
   have c29b0 : (t484 != t465) = true := c29
   (try (have c29b1 : decide (t484 = t465) = false := by simpa using c29))
   (try (have c29b2 : (t484 == t465) = false := by simpa using c29))
   (try (have c29b3 : ¬ (t484 = t465) := by simpa using c29))
   clear c29
   exact absurd (hrt.out.symm.trans (Option.some.inj H).symm) (by decide)
  rw [if_neg c29] at H
  have c29b0 : (t484 != t465) = false := by simpa using c29
  (try (have c29b1 : decide (t484 = t465) = true := by simpa using c29))
  (try (have c29b2 : (t484 == t465) = true := by simpa using c29))
  clear c29; obtain ⟨⟨t487, t488, t489⟩, A300, H⟩ := Option.bind_eq_some_iff.mp H
  try dsimp only at H
  have A30 := Aside0.mk A300; clear A300; obtain ⟨t492, A310, H⟩ := Option.bind_eq_some_iff.mp H
  try dsimp only at H
  have A31 := Aside0.mk A310; clear A310
  by_cases c32 : t492 = true
  rotate_left
  ·
   replace c32 := Bool.eq_false_iff.mpr c32; subst c32
   rw [if_neg (show ¬ (false = true) by decide)] at H
   exact absurd (hrt.out.symm.trans (Option.some.inj H).symm) (by decide)
  subst c32
  rw [if_pos rfl] at H
  obtain ⟨t493, A330, H⟩ := Option.bind_eq_some_iff.mp H
  try dsimp only at H
  have A33 := Aside0.mk A330; clear A330; obtain ⟨t496, A340, H⟩ := Option.bind_eq_some_iff.mp H
  try dsimp only at H
  have A34 := Aside0.mk A340; clear A340
  by_cases c35 : t496 = true
  rotate_left
  ·
   replace c35 := Bool.eq_false_iff.mpr c35; subst c35
   rw [if_neg (show ¬ (false = true) by decide)] at H
   exact absurd (hrt.out.symm.trans (Option.some.inj H).symm) (by decide)
  subst c35
  rw [if_pos rfl] at H
  obtain ⟨⟨t497, t498⟩, A360, H⟩ := Option.bind_eq_some_iff.mp H
  try dsimp only at H
  have A36 := Aside0.mk A360; clear A360; obtain ⟨⟨t499, t500⟩, A370, H⟩ := Option.bind_eq_some_iff.mp H
  try dsimp only at H
  have A37 := Aside0.mk A370; clear A370
  by_cases c38 : t499 < 0
  ·
   rw [if_pos c38] at H
   have c38b0 : decide (t499 < 0) = true := decide_eq_true c38; clear c38
   exact absurd (hrt.out.symm.trans (Option.some.inj H).symm) (by decide)
  rw [if_neg c38] at H
  have c38b0 : decide (t499 < 0) = false := decide_eq_false c38; clear c38; obtain ⟨t501, A390, H⟩ := Option.bind_eq_some_iff.mp H
  try dsimp only at H
  have A39 := Aside0.mk A390; clear A390
  by_cases c40 : t501 = true
  rotate_left
  ·
   replace c40 := Bool.eq_false_iff.mpr c40; subst c40
   rw [if_neg (show ¬ (false = true) by decide)] at H
   exact absurd (hrt.out.symm.trans (Option.some.inj H).symm) (by decide)
  subst c40
  rw [if_pos rfl] at H
  obtain ⟨⟨t502, t503⟩, A410, H⟩ := Option.bind_eq_some_iff.mp H
  try dsimp only at H
  have A41 := Aside0.mk A410; clear A410; obtain ⟨t504, A420, H⟩ := Option.bind_eq_some_iff.mp H
  try dsimp only at H
  have A42 := Aside0.mk A420; clear A420
  by_cases c43 : t504 < 0
  ·
   rw [if_pos c43] at H
   have c43b0 : decide (t504 < 0) = true := decide_eq_true c43; clear c43
   exact absurd (hrt.out.symm.trans (Option.some.inj H).symm) (by decide)
  rw [if_neg c43] at H
  have c43b0 : decide (t504 < 0) = false := decide_eq_false c43; clear c43
  by_cases c44 : t504 = t502
  rotate_left
  ·
   rw [if_neg c44] at H
   have c44b0 : (t504 == t502) = false := beq_eq_false_iff_ne.mpr c44; have c44b1 : (t504 != t502) = true := bne_iff_ne.mpr c44
   exact absurd (hrt.out.symm.trans (Option.some.inj H).symm) (by decide)
  rw [if_pos c44] at H
  have c44b0 : (t504 == t502) = true := beq_iff_eq.mpr c44; have c44b1 : (t504 != t502) = false := bne_eq_false_iff_eq.mpr c44; clear c44; obtain ⟨⟨t505, t506⟩, A450, H⟩ := Option.bind_eq_some_iff.mp H
  try dsimp only at H
  have A45 := Aside0.mk A450; clear A450; obtain ⟨⟨t507, t508, t509⟩, A460, H⟩ := Option.bind_eq_some_iff.mp H
  try dsimp only at H
  have A46 := Aside0.mk A460; clear A460; obtain ⟨t512, A470, H⟩ := Option.bind_eq_some_iff.mp H
  try dsimp only at H
  have A47 := Aside0.mk A470; clear A470; obtain ⟨⟨t515, t516, t517, t518, t521⟩, A480, H⟩ := Option.bind_eq_some_iff.mp H
  try dsimp only at H
  have A48 := Aside0.mk A480; clear A480; obtain ⟨t523, A490, H⟩ := Option.bind_eq_some_iff.mp H
  try dsimp only at H
  have A49 := Aside0.mk A490; clear A490
  by_cases c50 : t523 = true
  rotate_left
  ·
   replace c50 := Bool.eq_false_iff.mpr c50; subst c50
   rw [if_neg (show ¬ (false = true) by decide)] at H
   exact absurd (hrt.out.symm.trans (Option.some.inj H).symm) (by decide)
  subst c50
  rw [if_pos rfl] at H
  by_cases c51 : (t521 != t465) = true
  ·
   rw [if_pos c51] at H
   have c51b0 : (t521 != t465) = true := c51
   (try (have c51b1 : decide (t521 = t465) = false := by simpa using c51))
   (try (have c51b2 : (t521 == t465) = false := by simpa using c51))
   (try (have c51b3 : ¬ (t521 = t465) := by simpa using c51))
   clear c51
   exact absurd (hrt.out.symm.trans (Option.some.inj H).symm) (by decide)
  rw [if_neg c51] at H
  have c51b0 : (t521 != t465) = false := by simpa using c51
  (try (have c51b1 : decide (t521 = t465) = true := by simpa using c51))
  (try (have c51b2 : (t521 == t465) = true := by simpa using c51))
  clear c51; obtain ⟨t524, A520, H⟩ := Option.bind_eq_some_iff.mp H
  try dsimp only at H
  have A52 := Aside0.mk A520; clear A520
  by_cases c53 : t524 < 0
  ·
   rw [if_pos c53] at H
   have c53b0 : decide (t524 < 0) = true := decide_eq_true c53; clear c53
   exact absurd (hrt.out.symm.trans (Option.some.inj H).symm) (by decide)
  rw [if_neg c53] at H
  have c53b0 : decide (t524 < 0) = false := decide_eq_false c53; clear c53
  by_cases c54 : t524 = t502
  rotate_left
  ·
   rw [if_neg c54] at H
   have c54b0 : (t524 == t502) = false := beq_eq_false_iff_ne.mpr c54; have c54b1 : (t524 != t502) = true := bne_iff_ne.mpr c54
   exact absurd (hrt.out.symm.trans (Option.some.inj H).symm) (by decide)
  rw [if_pos c54] at H
  have c54b0 : (t524 == t502) = true := beq_iff_eq.mpr c54; have c54b1 : (t524 != t502) = false := bne_eq_false_iff_eq.mpr c54; clear c54; obtain rfl := Option.some.inj H
  go_enter Tryz.func5, Tryz.ntmps5
  try go_wp2_with (first | ((with_reducible refine gd 4 ?_); refine bA 4 #[.int .i64 a0_0, .int .i64 a0_1] 23 ?_; intro gb445 hg w55 hbox hb; have BK445 := Aside0.mk (hbox); have GW445 := bg hg HB; have GJ445 := gi GW445; have GE445 := GW445; replace HB := bs HB hb; clear hb hbox hg) | ((with_reducible refine gd 5 ?_); refine bA 5 #[.int .i64 a1_0, .string a1_1, .slice A1_2 l1_2.length c1_2] 26 ?_; intro gb446 hg w56 hbox hb; have BK446 := Aside0.mk (hbox); have GW446 := bg hg HB; have GJ446 := gi GW446; have GE446 := GW446; replace HB := bs HB hb; have NB445_446 := b1 BK445 hg; have NI445_446 := ni NB445_446; have NB446_445 := b2 BK445 hg; have NI446_445 := ni NB446_445; replace BK445 := bk BK445 hb; clear hb hbox hg; have hnb57 := NB446_445.out; have hnc57 := NB445_446.out; obtain ⟨hcz58_0, hcz58_1, hcz58_2, hfz58_0, hfz58_1, hfz58_2⟩ := cs3 BK446) | ((with_reducible refine gate_callee (f := 23) rfl ?_); refine gB (some 23) Tryz.func23 #[.agg #[.int .i64 a1_0, .string a1_1, .slice A1_2 l1_2.length c1_2], .int .i64 1048576] ?_; (with_reducible refine (laws_szQc.calls a1_0 a1_1 _ _ l1_2 1048576 t447 _ ?side1 ?side2 A5.out).mono ?_); (case side1 => exact ch HR1_2 HB); (case side2 => exact HC1_2.out); rintro e w59 ⟨rfl, hb⟩; refine ⟨_, rfl, ?_⟩; replace BK445 := bk BK445 hb; replace BK446 := bk BK446 hb; replace HB := bs HB hb; (try clear hb); (try clear hb2); (try clear hk); (try clear hi)) | ((with_reducible refine gate_callee (f := 29) rfl ?_); refine gB (some 28) Tryz.func29 #[.slice A3 l3.length c3, .int .i64 t447] ?_; (with_reducible refine (laws_szTxS.calls _ _ l3 t447 t448 _ ?side1 ?side2 A12.out).mono ?_); (case side1 => exact ch HR3 HB); (case side2 => exact HC3.out); rintro e w' ⟨rfl, ⟨nd, rfl⟩⟩; refine ⟨_, rfl, ?_⟩; (try (rw [drewN_self w59]; generalize hq_ : World.drewN w59 _ = w59; have n0_ : Aside0 (w59.heap[gb445]? = some (.cells #[.int .i64 a0_0, .int .i64 a0_1] 23 (0, 0))) := ⟨by rw [← hq_]; exact (kI BK445.out)⟩; have n1_ : Aside0 (w59.heap[gb446]? = some (.cells #[.int .i64 a1_0, .string a1_1, .slice A1_2 l1_2.length c1_2] 26 (0, 0))) := ⟨by rw [← hq_]; exact (kI BK446.out)⟩; have n2_ : Aside0 (Below w.heap.size w w59) := ⟨y0_17⟩; clear BK445 BK446 HB hq_; have BK445 := n0_; have BK446 := n1_; have HB := n2_; clear n0_ n1_ n2_))))
  replace BK445 := Aside0.mk (blk_drew BK445.out); replace BK446 := Aside0.mk (blk_drew BK446.out); replace HB := Aside0.mk (below_drew1 HB.out)
  refine start_ (n := 14) (S := fun w' => w'.cell? ⟨gb445, 0, none⟩ = some (.int .i64 a0_0) ∧ w'.cell? ⟨gb445, 1, none⟩ = some (.int .i64 a0_1) ∧ w'.cell? ⟨gb446, 0, none⟩ = some (.int .i64 a1_0) ∧ w'.cell? ⟨gb446, 1, none⟩ = some (.string a1_1) ∧ w'.cell? ⟨gb446, 2, none⟩ = some (.slice A1_2 l1_2.length c1_2)) (ds := []) #[false, false, false, false, false, false, false, false, false, false, false, false, false, false] (by kernel_rfl) rfl rfl ⟨bc0 BK445.out, bc1 BK445.out, bc0 BK446.out, bc1 BK446.out, bc2 BK446.out⟩ (fun hHeld => ?_); refine with_tabW laws_FnExactBlockNew.tab8 laws_FnExactBlockNew.bits8 (fun HT_ HW_ => ?_)
  generalize w59.drew = w60 at BK445 BK446 HB hHeld ⊢
  refine pA 4 (some 36) (bz 14 16) HT_ ?_
  refine pA 5 (some 37) (bz 14 48) HT_ ?_
  refine tA 0 (some 32) (bz 14 49) HT_ HW_ hHeld ?_
  refine tA 2 (some 34) (bz 14 53) HT_ HW_ hHeld ?_
  refine join_ (σ := Value × Value × Value × Nat) 2 #[true, true, true, true, true, true, true, true, true, true, true, true, false, false] (fun s_ => [(33, .agg #[.int .i64 t449, .int .i64 t450]), (35, .agg #[.int .i64 t451, .string t452, s_.1]), (38, s_.2.1), (39, .tuple #[.agg #[.string t459, .int .i64 t460, .string t461, s_.2.2.1], .bool t465]), (10, .pointer (some ⟨s_.2.2.2, 0, none⟩)), (31, .tuple #[.agg #[.string t459, .int .i64 t460, .string t461, s_.2.2.1], .bool t465]), (40, .agg #[.string t459, .int .i64 t460, .string t461, s_.2.2.1]), (41, .bool t465)]) (fun s_ w' => (w'.cell? ⟨gb445, 0, none⟩ = some (.int .i64 a0_0) ∧ w'.cell? ⟨gb445, 1, none⟩ = some (.int .i64 a0_1) ∧ w'.cell? ⟨gb446, 0, none⟩ = some (.int .i64 a1_0) ∧ w'.cell? ⟨gb446, 1, none⟩ = some (.string a1_1) ∧ w'.cell? ⟨gb446, 2, none⟩ = some (.slice A1_2 l1_2.length c1_2)) ∧ (Kd.R (Kd.int .i64) 3 w' w.heap.size (fun k_ => some k_ ≠ (s_.2.2.1 : Value).ownBlock) s_.1 t453) ∧ (Kd.R k99 99 w' w.heap.size (fun _ => True) s_.2.1 t456) ∧ (Kd.R (Kd.int .i64) 3 w' w.heap.size (fun k_ => some k_ ≠ (s_.1 : Value).ownBlock) s_.2.2.1 t462) ∧ (w'.heap[gb445]? = some (.cells #[.int .i64 a0_0, .int .i64 a0_1] 23 (0, 0))) ∧ (w'.heap[gb446]? = some (.cells #[.int .i64 a1_0, .string a1_1, .slice A1_2 l1_2.length c1_2] 26 (0, 0))) ∧ (w'.heap[s_.2.2.2]? = some (.cells #[.string (⟨#[]⟩ : ByteArray), .int .i64 0, .string (⟨#[]⟩ : ByteArray), .slice none 0 0] 42 (0, 0))) ∧ (w.heap.size ≤ s_.2.2.2) ∧ (w.heap.size ≤ s_.2.2.2) ∧ (gb445 ≠ s_.2.2.2) ∧ (s_.2.2.2 ≠ gb445) ∧ (gb446 ≠ s_.2.2.2) ∧ (s_.2.2.2 ≠ gb446) ∧ (Below w.heap.size w w')) ?_ ?_
  rotate_left
  ·
   intro hJ1_3_6_7_11
   refine join_ (σ := Value × Value × Value) 3 #[true, true, true, true, true, true, true, true, true, true, true, false, false, false] (fun s_ => [(33, .agg #[.int .i64 t449, .int .i64 t450]), (35, .agg #[.int .i64 t451, .string t452, s_.1]), (38, s_.2.1), (39, .tuple #[.agg #[.string t459, .int .i64 t460, .string t461, s_.2.2], .bool t465]), (31, .tuple #[.agg #[.string t459, .int .i64 t460, .string t461, s_.2.2], .bool t465]), (40, .agg #[.string t459, .int .i64 t460, .string t461, s_.2.2]), (41, .bool t465)]) (fun s_ w' => (w'.cell? ⟨gb445, 0, none⟩ = some (.int .i64 a0_0) ∧ w'.cell? ⟨gb445, 1, none⟩ = some (.int .i64 a0_1) ∧ w'.cell? ⟨gb446, 0, none⟩ = some (.int .i64 a1_0) ∧ w'.cell? ⟨gb446, 1, none⟩ = some (.string a1_1) ∧ w'.cell? ⟨gb446, 2, none⟩ = some (.slice A1_2 l1_2.length c1_2)) ∧ (Kd.R (Kd.int .i64) 3 w' w.heap.size (fun k_ => some k_ ≠ (s_.2.2 : Value).ownBlock) s_.1 t453) ∧ (Kd.R k99 99 w' w.heap.size (fun _ => True) s_.2.1 t456) ∧ (Kd.R (Kd.int .i64) 3 w' w.heap.size (fun k_ => some k_ ≠ (s_.1 : Value).ownBlock) s_.2.2 t462) ∧ (w'.heap[gb445]? = some (.cells #[.int .i64 a0_0, .int .i64 a0_1] 23 (0, 0))) ∧ (w'.heap[gb446]? = some (.cells #[.int .i64 a1_0, .string a1_1, .slice A1_2 l1_2.length c1_2] 26 (0, 0))) ∧ (Below w.heap.size w w')) ?_ ?_
   rotate_left
   ·
    intro hJ1_3_6_7
    refine join_ (σ := Value × Value × Nat) 6 #[true, true, true, true, true, true, true, false, false, false, false, true, false, false] (fun s_ => [(33, .agg #[.int .i64 t449, .int .i64 t450]), (35, .agg #[.int .i64 t451, .string t452, s_.1]), (38, s_.2.1), (10, .pointer (some ⟨s_.2.2, 0, none⟩))]) (fun s_ w' => (w'.cell? ⟨gb445, 0, none⟩ = some (.int .i64 a0_0) ∧ w'.cell? ⟨gb445, 1, none⟩ = some (.int .i64 a0_1) ∧ w'.cell? ⟨gb446, 0, none⟩ = some (.int .i64 a1_0) ∧ w'.cell? ⟨gb446, 1, none⟩ = some (.string a1_1) ∧ w'.cell? ⟨gb446, 2, none⟩ = some (.slice A1_2 l1_2.length c1_2)) ∧ (Kd.R (Kd.int .i64) 3 w' w.heap.size (fun _ => True) s_.1 t453) ∧ (Kd.R k99 99 w' w.heap.size (fun _ => True) s_.2.1 t456) ∧ (w'.heap[gb445]? = some (.cells #[.int .i64 a0_0, .int .i64 a0_1] 23 (0, 0))) ∧ (w'.heap[gb446]? = some (.cells #[.int .i64 a1_0, .string a1_1, .slice A1_2 l1_2.length c1_2] 26 (0, 0))) ∧ (w'.heap[s_.2.2]? = some (.cells #[.string (⟨#[]⟩ : ByteArray), .int .i64 0, .string (⟨#[]⟩ : ByteArray), .slice none 0 0] 42 (0, 0))) ∧ (w.heap.size ≤ s_.2.2) ∧ (w.heap.size ≤ s_.2.2) ∧ (gb445 ≠ s_.2.2) ∧ (s_.2.2 ≠ gb445) ∧ (gb446 ≠ s_.2.2) ∧ (s_.2.2 ≠ gb446) ∧ (Below w.heap.size w w')) ?_ ?_
    rotate_left
    ·
     intro hJ1_3_6_11
     refine join_ (σ := Value × Value) 7 #[true, true, true, true, true, true, true, false, false, false, false, false, false, false] (fun s_ => [(33, .agg #[.int .i64 t449, .int .i64 t450]), (35, .agg #[.int .i64 t451, .string t452, s_.1]), (38, s_.2)]) (fun s_ w' => (w'.cell? ⟨gb445, 0, none⟩ = some (.int .i64 a0_0) ∧ w'.cell? ⟨gb445, 1, none⟩ = some (.int .i64 a0_1) ∧ w'.cell? ⟨gb446, 0, none⟩ = some (.int .i64 a1_0) ∧ w'.cell? ⟨gb446, 1, none⟩ = some (.string a1_1) ∧ w'.cell? ⟨gb446, 2, none⟩ = some (.slice A1_2 l1_2.length c1_2)) ∧ (Kd.R (Kd.int .i64) 3 w' w.heap.size (fun _ => True) s_.1 t453) ∧ (Kd.R k99 99 w' w.heap.size (fun _ => True) s_.2 t456) ∧ (w'.heap[gb445]? = some (.cells #[.int .i64 a0_0, .int .i64 a0_1] 23 (0, 0))) ∧ (w'.heap[gb446]? = some (.cells #[.int .i64 a1_0, .string a1_1, .slice A1_2 l1_2.length c1_2] 26 (0, 0))) ∧ (Below w.heap.size w w')) ?_ ?_
     rotate_left
     ·
      intro hJ1_3_6
      refine join_ (σ := Value × Nat) 7 #[true, true, true, true, true, true, false, false, false, false, false, true, false, false] (fun s_ => [(33, .agg #[.int .i64 t449, .int .i64 t450]), (35, .agg #[.int .i64 t451, .string t452, s_.1]), (10, .pointer (some ⟨s_.2, 0, none⟩))]) (fun s_ w' => (w'.cell? ⟨gb445, 0, none⟩ = some (.int .i64 a0_0) ∧ w'.cell? ⟨gb445, 1, none⟩ = some (.int .i64 a0_1) ∧ w'.cell? ⟨gb446, 0, none⟩ = some (.int .i64 a1_0) ∧ w'.cell? ⟨gb446, 1, none⟩ = some (.string a1_1) ∧ w'.cell? ⟨gb446, 2, none⟩ = some (.slice A1_2 l1_2.length c1_2)) ∧ (Kd.R (Kd.int .i64) 3 w' w.heap.size (fun _ => True) s_.1 t453) ∧ (w'.heap[gb445]? = some (.cells #[.int .i64 a0_0, .int .i64 a0_1] 23 (0, 0))) ∧ (w'.heap[gb446]? = some (.cells #[.int .i64 a1_0, .string a1_1, .slice A1_2 l1_2.length c1_2] 26 (0, 0))) ∧ (w'.heap[s_.2]? = some (.cells #[.string (⟨#[]⟩ : ByteArray), .int .i64 0, .string (⟨#[]⟩ : ByteArray), .slice none 0 0] 42 (0, 0))) ∧ (w.heap.size ≤ s_.2) ∧ (w.heap.size ≤ s_.2) ∧ (gb445 ≠ s_.2) ∧ (s_.2 ≠ gb445) ∧ (gb446 ≠ s_.2) ∧ (s_.2 ≠ gb446) ∧ (Below w.heap.size w w')) ?_ ?_
      rotate_left
      ·
       intro hJ1_3_11
       refine join_ (σ := Value) 8 #[true, true, true, true, true, true, false, false, false, false, false, false, false, false] (fun s_ => [(33, .agg #[.int .i64 t449, .int .i64 t450]), (35, .agg #[.int .i64 t451, .string t452, s_])]) (fun s_ w' => (w'.cell? ⟨gb445, 0, none⟩ = some (.int .i64 a0_0) ∧ w'.cell? ⟨gb445, 1, none⟩ = some (.int .i64 a0_1) ∧ w'.cell? ⟨gb446, 0, none⟩ = some (.int .i64 a1_0) ∧ w'.cell? ⟨gb446, 1, none⟩ = some (.string a1_1) ∧ w'.cell? ⟨gb446, 2, none⟩ = some (.slice A1_2 l1_2.length c1_2)) ∧ (Kd.R (Kd.int .i64) 3 w' w.heap.size (fun _ => True) s_ t453) ∧ (w'.heap[gb445]? = some (.cells #[.int .i64 a0_0, .int .i64 a0_1] 23 (0, 0))) ∧ (w'.heap[gb446]? = some (.cells #[.int .i64 a1_0, .string a1_1, .slice A1_2 l1_2.length c1_2] 26 (0, 0))) ∧ (Below w.heap.size w w')) ?_ ?_
       rotate_left
       ·
        intro hJ1_3
        refine join_ (σ := Nat) 8 #[true, true, true, false, true, true, false, false, false, false, false, true, false, false] (fun s_ => [(33, .agg #[.int .i64 t449, .int .i64 t450]), (10, .pointer (some ⟨s_, 0, none⟩))]) (fun s_ w' => (w'.cell? ⟨gb445, 0, none⟩ = some (.int .i64 a0_0) ∧ w'.cell? ⟨gb445, 1, none⟩ = some (.int .i64 a0_1) ∧ w'.cell? ⟨gb446, 0, none⟩ = some (.int .i64 a1_0) ∧ w'.cell? ⟨gb446, 1, none⟩ = some (.string a1_1) ∧ w'.cell? ⟨gb446, 2, none⟩ = some (.slice A1_2 l1_2.length c1_2)) ∧ (w'.heap[gb445]? = some (.cells #[.int .i64 a0_0, .int .i64 a0_1] 23 (0, 0))) ∧ (w'.heap[gb446]? = some (.cells #[.int .i64 a1_0, .string a1_1, .slice A1_2 l1_2.length c1_2] 26 (0, 0))) ∧ (w'.heap[s_]? = some (.cells #[.string (⟨#[]⟩ : ByteArray), .int .i64 0, .string (⟨#[]⟩ : ByteArray), .slice none 0 0] 42 (0, 0))) ∧ (w.heap.size ≤ s_) ∧ (w.heap.size ≤ s_) ∧ (gb445 ≠ s_) ∧ (s_ ≠ gb445) ∧ (gb446 ≠ s_) ∧ (s_ ≠ gb446) ∧ (Below w.heap.size w w')) ?_ ?_
        rotate_left
        ·
         intro hJ1_11
         refine join_ (σ := Unit) 9 #[true, true, true, false, true, true, false, false, false, false, false, false, false, false] (fun s_ => [(33, .agg #[.int .i64 t449, .int .i64 t450])]) (fun s_ w' => (w'.cell? ⟨gb445, 0, none⟩ = some (.int .i64 a0_0) ∧ w'.cell? ⟨gb445, 1, none⟩ = some (.int .i64 a0_1) ∧ w'.cell? ⟨gb446, 0, none⟩ = some (.int .i64 a1_0) ∧ w'.cell? ⟨gb446, 1, none⟩ = some (.string a1_1) ∧ w'.cell? ⟨gb446, 2, none⟩ = some (.slice A1_2 l1_2.length c1_2)) ∧ (w'.heap[gb445]? = some (.cells #[.int .i64 a0_0, .int .i64 a0_1] 23 (0, 0))) ∧ (w'.heap[gb446]? = some (.cells #[.int .i64 a1_0, .string a1_1, .slice A1_2 l1_2.length c1_2] 26 (0, 0))) ∧ (Below w.heap.size w w')) ?_ ?_
         rotate_left
         ·
          intro hJ1
          refine join_ (σ := Nat) 9 #[true, false, true, false, true, true, false, false, false, false, false, true, false, false] (fun s_ => [(10, .pointer (some ⟨s_, 0, none⟩))]) (fun s_ w' => (w'.cell? ⟨gb445, 0, none⟩ = some (.int .i64 a0_0) ∧ w'.cell? ⟨gb445, 1, none⟩ = some (.int .i64 a0_1) ∧ w'.cell? ⟨gb446, 0, none⟩ = some (.int .i64 a1_0) ∧ w'.cell? ⟨gb446, 1, none⟩ = some (.string a1_1) ∧ w'.cell? ⟨gb446, 2, none⟩ = some (.slice A1_2 l1_2.length c1_2)) ∧ (w'.heap[gb445]? = some (.cells #[.int .i64 a0_0, .int .i64 a0_1] 23 (0, 0))) ∧ (w'.heap[gb446]? = some (.cells #[.int .i64 a1_0, .string a1_1, .slice A1_2 l1_2.length c1_2] 26 (0, 0))) ∧ (w'.heap[s_]? = some (.cells #[.string (⟨#[]⟩ : ByteArray), .int .i64 0, .string (⟨#[]⟩ : ByteArray), .slice none 0 0] 42 (0, 0))) ∧ (w.heap.size ≤ s_) ∧ (w.heap.size ≤ s_) ∧ (gb445 ≠ s_) ∧ (s_ ≠ gb445) ∧ (gb446 ≠ s_) ∧ (s_ ≠ gb446) ∧ (Below w.heap.size w w')) ?_ ?_
          rotate_left
          ·
           intro hJ11
           refine two_ (i := 1) (j := 11) (Ni := some 33) (Nj := some 10) #[true, true, true, false, true, true, false, false, false, false, false, false, false, false] #[true, false, true, false, true, true, false, false, false, false, false, true, false, false] rfl rfl rfl rfl (two_of HT_.out (by kernel_rfl)) (by decide) (by decide) (fun K hK => ?_) (fun K hK => ?_)
           ·
            skip
            refine gA Tryz.func14 #[.agg #[.int .i64 a0_0, .int .i64 a0_1]] ?_
            with_reducible refine (laws_toConf.calls a0_0 a0_1 t449 t450 _ A19.out).mono ?_
            rintro e w61 ⟨rfl, hb⟩
            refine ⟨_, rfl, ?_⟩
            replace BK445 := bk BK445 hb; replace BK446 := bk BK446 hb; replace HB := bs HB hb
            (try clear hb)
            (try clear hb2)
            (try clear hk)
            (try clear hi)
            refine hK.out _ _ ⟨bc0 BK445.out, bc1 BK445.out, bc0 BK446.out, bc1 BK446.out, bc2 BK446.out⟩ (fun hHeld => ?_)
            clear hK K
            refine nA (some 33) ?_
            exact norm_ y0_0 (hJ1 () _ ⟨hHeld, (kI BK445.out), (kI BK446.out), (bI HB.out)⟩)
           skip
           refine box_step ?hg (N := 10) ?hd (cs := #[.string (⟨#[]⟩ : ByteArray), .int .i64 0, .string (⟨#[]⟩ : ByteArray), .slice none 0 0]) (t := 42) ?hr ?_; (case hd => rfl); (case hg => rfl); (case hr => first | (go_simp; done) | (go_simp; rfl))
           intro gb466 hg w61 hbox hb
           have BK466 := Aside0.mk (hbox); have GW466 := bg hg HB; have GJ466 := gi GW466; have GE466 := bg hg HB; have GI466 := gi GE466; replace HB := bs HB hb; have NB445_466 := b1 BK445 hg; have NI445_466 := ni NB445_466; have NB466_445 := b2 BK445 hg; have NI466_445 := ni NB466_445; replace BK445 := bk BK445 hb; have NB446_466 := b1 BK446 hg; have NI446_466 := ni NB446_466; have NB466_446 := b2 BK446 hg; have NI466_446 := ni NB466_446; replace BK446 := bk BK446 hb; clear hb hbox hg
           refine hK.out _ _ ⟨bc0 BK445.out, bc1 BK445.out, bc0 BK446.out, bc1 BK446.out, bc2 BK446.out⟩ (fun hHeld => ?_)
           clear hK K
           refine nA (some 10) ?_
           exact norm_ y0_0 (hJ11 (gb466) _ ⟨hHeld, (kI BK445.out), (kI BK446.out), (kI BK466.out), GW466.out, GE466.out, NB445_466.out, NB466_445.out, NB446_466.out, NB466_446.out, (bI HB.out)⟩)
          skip
          rintro gb466 w62 ⟨hS_, h0_, h1_, h2_, h3_, h4_, h5_, h6_, h7_, h8_, h9_⟩
          try dsimp only at h0_ h1_ h2_ h3_ h4_ h5_ h6_ h7_ h8_ h9_
          have n0_ := Aside0.mk h0_; have n1_ := Aside0.mk h1_; have n2_ := Aside0.mk h2_; have n3_ := Aside0.mk h3_; have n4_ := Aside0.mk h4_; have n5_ := Aside0.mk h5_; have n6_ := Aside0.mk h6_; have n7_ := Aside0.mk h7_; have n8_ := Aside0.mk h8_; have n9_ := Aside0.mk h9_; clear BK445; clear BK446; clear HB; clear h0_ h1_ h2_ h3_ h4_ h5_ h6_ h7_ h8_ h9_; have BK445 := n0_; have BK446 := n1_; have BK466 := n2_; have GW466 := n3_; have GJ466 := gi GW466; have GE466 := n4_; have GI466 := gi GE466; have NB445_466 := n5_; have NI445_466 := ni NB445_466; have NB466_445 := n6_; have NI466_445 := ni NB466_445; have NB446_466 := n7_; have NI446_466 := ni NB446_466; have NB466_446 := n8_; have NI466_446 := ni NB466_446; have HB := n9_; clear n0_ n1_ n2_ n3_ n4_ n5_ n6_ n7_ n8_ n9_; have hHeld : w62.cell? ⟨gb445, 0, none⟩ = some (.int .i64 a0_0) ∧ w62.cell? ⟨gb445, 1, none⟩ = some (.int .i64 a0_1) ∧ w62.cell? ⟨gb446, 0, none⟩ = some (.int .i64 a1_0) ∧ w62.cell? ⟨gb446, 1, none⟩ = some (.string a1_1) ∧ w62.cell? ⟨gb446, 2, none⟩ = some (.slice A1_2 l1_2.length c1_2) := hS_
          refine norm_ (a' := ?_) ?_ ?_
          rotate_left
          ·
           simp only [putAll, Act.put, List.setIfInBounds_toArray, List.set_cons_zero, List.set_cons_succ]
           rfl
          refine oA 1 (some 33) (bz 14 2103) HT_ (fun K hK => ?_)
          refine gA Tryz.func14 #[.agg #[.int .i64 a0_0, .int .i64 a0_1]] ?_
          with_reducible refine (laws_toConf.calls a0_0 a0_1 t449 t450 _ A19.out).mono ?_
          rintro e w63 ⟨rfl, hb⟩
          refine ⟨_, rfl, ?_⟩
          replace BK445 := bk BK445 hb; replace BK446 := bk BK446 hb; replace BK466 := bk BK466 hb; replace HB := bs HB hb
          (try clear hb)
          (try clear hb2)
          (try clear hk)
          (try clear hi)
          refine hK.out _ _ ⟨bc0 BK445.out, bc1 BK445.out, bc0 BK446.out, bc1 BK446.out, bc2 BK446.out⟩ (fun hHeld => ?_)
          clear hK K
          refine nA (some 33) ?_
          exact norm_ y0_0 (hJ1_11 (gb466) _ ⟨hHeld, (kI BK445.out), (kI BK446.out), (kI BK466.out), GW466.out, GE466.out, NB445_466.out, NB466_445.out, NB446_466.out, NB466_446.out, (bI HB.out)⟩)
         skip
         rintro _ w62 ⟨hS_, h0_, h1_, h2_⟩
         try dsimp only at h0_ h1_ h2_
         have n0_ := Aside0.mk h0_; have n1_ := Aside0.mk h1_; have n2_ := Aside0.mk h2_; clear BK445; clear BK446; clear HB; clear h0_ h1_ h2_; have BK445 := n0_; have BK446 := n1_; have HB := n2_; clear n0_ n1_ n2_; have hHeld : w62.cell? ⟨gb445, 0, none⟩ = some (.int .i64 a0_0) ∧ w62.cell? ⟨gb445, 1, none⟩ = some (.int .i64 a0_1) ∧ w62.cell? ⟨gb446, 0, none⟩ = some (.int .i64 a1_0) ∧ w62.cell? ⟨gb446, 1, none⟩ = some (.string a1_1) ∧ w62.cell? ⟨gb446, 2, none⟩ = some (.slice A1_2 l1_2.length c1_2) := hS_
         refine norm_ (a' := ?_) ?_ ?_
         rotate_left
         ·
          simp only [putAll, Act.put, List.setIfInBounds_toArray, List.set_cons_zero, List.set_cons_succ]
          rfl
         refine two_ (i := 3) (j := 11) (Ni := some 35) (Nj := some 10) #[true, true, true, true, true, true, false, false, false, false, false, false, false, false] #[true, true, true, false, true, true, false, false, false, false, false, true, false, false] rfl rfl rfl rfl (two_of HT_.out (by kernel_rfl)) (by decide) (by decide) (fun K hK => ?_) (fun K hK => ?_)
         ·
          skip
          refine gA Tryz.func25 #[.agg #[.int .i64 a1_0, .string a1_1, .slice A1_2 l1_2.length c1_2]] ?_
          with_reducible refine (laws_toQc.calls k a1_0 a1_1 _ _ l1_2 t451 t452 t453 _ ?side1 ?side2 A20.out).mono ?_
          (case side1 => exact ch HR1_2 HB)
          (case side2 => exact HC1_2.out)
          rintro e w63 ⟨v454, rfl, ho0, hb⟩
          refine ⟨_, rfl, ?_⟩
          have HO455 := Aside0.mk (Kd.R_lower ho0 (below_size (bI HB.out))); replace BK445 := bk BK445 hb; replace BK446 := bk BK446 hb; replace HB := bs HB hb
          (try clear hb)
          (try clear hb2)
          (try clear hk)
          (try clear hi)
          (try clear ho0)
          refine hK.out _ _ ⟨bc0 BK445.out, bc1 BK445.out, bc0 BK446.out, bc1 BK446.out, bc2 BK446.out⟩ (fun hHeld => ?_)
          clear hK K
          refine nA (some 35) ?_
          exact norm_ y0_0 (hJ1_3 (_) _ ⟨hHeld, (rI HO455.out), (kI BK445.out), (kI BK446.out), (bI HB.out)⟩)
         skip
         refine box_step ?hg (N := 10) ?hd (cs := #[.string (⟨#[]⟩ : ByteArray), .int .i64 0, .string (⟨#[]⟩ : ByteArray), .slice none 0 0]) (t := 42) ?hr ?_; (case hd => rfl); (case hg => rfl); (case hr => first | (go_simp; done) | (go_simp; rfl))
         intro gb466 hg w63 hbox hb
         have BK466 := Aside0.mk (hbox); have GW466 := bg hg HB; have GJ466 := gi GW466; have GE466 := bg hg HB; have GI466 := gi GE466; replace HB := bs HB hb; have NB445_466 := b1 BK445 hg; have NI445_466 := ni NB445_466; have NB466_445 := b2 BK445 hg; have NI466_445 := ni NB466_445; replace BK445 := bk BK445 hb; have NB446_466 := b1 BK446 hg; have NI446_466 := ni NB446_466; have NB466_446 := b2 BK446 hg; have NI466_446 := ni NB466_446; replace BK446 := bk BK446 hb; clear hb hbox hg
         refine hK.out _ _ ⟨bc0 BK445.out, bc1 BK445.out, bc0 BK446.out, bc1 BK446.out, bc2 BK446.out⟩ (fun hHeld => ?_)
         clear hK K
         refine nA (some 10) ?_
         exact norm_ y0_0 (hJ1_11 (gb466) _ ⟨hHeld, (kI BK445.out), (kI BK446.out), (kI BK466.out), GW466.out, GE466.out, NB445_466.out, NB466_445.out, NB446_466.out, NB466_446.out, (bI HB.out)⟩)
        skip
        rintro gb466 w63 ⟨hS_, h0_, h1_, h2_, h3_, h4_, h5_, h6_, h7_, h8_, h9_⟩
        try dsimp only at h0_ h1_ h2_ h3_ h4_ h5_ h6_ h7_ h8_ h9_
        have n0_ := Aside0.mk h0_; have n1_ := Aside0.mk h1_; have n2_ := Aside0.mk h2_; have n3_ := Aside0.mk h3_; have n4_ := Aside0.mk h4_; have n5_ := Aside0.mk h5_; have n6_ := Aside0.mk h6_; have n7_ := Aside0.mk h7_; have n8_ := Aside0.mk h8_; have n9_ := Aside0.mk h9_; clear BK445; clear BK446; clear HB; clear h0_ h1_ h2_ h3_ h4_ h5_ h6_ h7_ h8_ h9_; have BK445 := n0_; have BK446 := n1_; have BK466 := n2_; have GW466 := n3_; have GJ466 := gi GW466; have GE466 := n4_; have GI466 := gi GE466; have NB445_466 := n5_; have NI445_466 := ni NB445_466; have NB466_445 := n6_; have NI466_445 := ni NB466_445; have NB446_466 := n7_; have NI446_466 := ni NB446_466; have NB466_446 := n8_; have NI466_446 := ni NB466_446; have HB := n9_; clear n0_ n1_ n2_ n3_ n4_ n5_ n6_ n7_ n8_ n9_; have hHeld : w63.cell? ⟨gb445, 0, none⟩ = some (.int .i64 a0_0) ∧ w63.cell? ⟨gb445, 1, none⟩ = some (.int .i64 a0_1) ∧ w63.cell? ⟨gb446, 0, none⟩ = some (.int .i64 a1_0) ∧ w63.cell? ⟨gb446, 1, none⟩ = some (.string a1_1) ∧ w63.cell? ⟨gb446, 2, none⟩ = some (.slice A1_2 l1_2.length c1_2) := hS_
        refine norm_ (a' := ?_) ?_ ?_
        rotate_left
        ·
         simp only [putAll, Act.put, List.setIfInBounds_toArray, List.set_cons_zero, List.set_cons_succ]
         rfl
        refine oA 3 (some 35) (bz 14 2111) HT_ (fun K hK => ?_)
        refine gA Tryz.func25 #[.agg #[.int .i64 a1_0, .string a1_1, .slice A1_2 l1_2.length c1_2]] ?_
        with_reducible refine (laws_toQc.calls k a1_0 a1_1 _ _ l1_2 t451 t452 t453 _ ?side1 ?side2 A20.out).mono ?_
        (case side1 => exact ch HR1_2 HB)
        (case side2 => exact HC1_2.out)
        rintro e w64 ⟨v454, rfl, ho0, hb⟩
        refine ⟨_, rfl, ?_⟩
        have HO455 := Aside0.mk (Kd.R_lower ho0 (below_size (bI HB.out))); replace BK445 := bk BK445 hb; replace BK446 := bk BK446 hb; replace BK466 := bk BK466 hb; replace HB := bs HB hb
        (try clear hb)
        (try clear hb2)
        (try clear hk)
        (try clear hi)
        (try clear ho0)
        refine hK.out _ _ ⟨bc0 BK445.out, bc1 BK445.out, bc0 BK446.out, bc1 BK446.out, bc2 BK446.out⟩ (fun hHeld => ?_)
        clear hK K
        refine nA (some 35) ?_
        exact norm_ y0_0 (hJ1_3_11 (_, gb466) _ ⟨hHeld, (rI HO455.out), (kI BK445.out), (kI BK446.out), (kI BK466.out), GW466.out, GE466.out, NB445_466.out, NB466_445.out, NB446_466.out, NB466_446.out, (bI HB.out)⟩)
       skip
       rintro v454 w63 ⟨hS_, h0_, h1_, h2_, h3_⟩
       try dsimp only at h0_ h1_ h2_ h3_
       have n0_ := Aside0.mk h0_; have n1_ := Aside0.mk h1_; have n2_ := Aside0.mk h2_; have n3_ := Aside0.mk h3_; clear BK445; clear BK446; clear HB; clear h0_ h1_ h2_ h3_; have HO455 := n0_; have BK445 := n1_; have BK446 := n2_; have HB := n3_; clear n0_ n1_ n2_ n3_; have hHeld : w63.cell? ⟨gb445, 0, none⟩ = some (.int .i64 a0_0) ∧ w63.cell? ⟨gb445, 1, none⟩ = some (.int .i64 a0_1) ∧ w63.cell? ⟨gb446, 0, none⟩ = some (.int .i64 a1_0) ∧ w63.cell? ⟨gb446, 1, none⟩ = some (.string a1_1) ∧ w63.cell? ⟨gb446, 2, none⟩ = some (.slice A1_2 l1_2.length c1_2) := hS_
       refine norm_ (a' := ?_) ?_ ?_
       rotate_left
       ·
        simp only [putAll, Act.put, List.setIfInBounds_toArray, List.set_cons_zero, List.set_cons_succ]
        rfl
       refine two_ (i := 6) (j := 11) (Ni := some 38) (Nj := some 10) #[true, true, true, true, true, true, true, false, false, false, false, false, false, false] #[true, true, true, true, true, true, false, false, false, false, false, true, false, false] rfl rfl rfl rfl (two_of HT_.out (by kernel_rfl)) (by decide) (by decide) (fun K hK => ?_) (fun K hK => ?_)
       ·
        skip
        refine gA Tryz.func31 #[.slice A3 l3.length c3] ?_
        with_reducible refine (laws_toTxS.calls k _ _ l3 t456 _ ?side1 ?side2 A21.out).mono ?_
        (case side1 => exact ch HR3 HB)
        (case side2 => exact HC3.out)
        rintro e w64 ⟨v457, rfl, ho0, hb⟩
        refine ⟨_, rfl, ?_⟩
        replace HO455 := rb HO455 hb; have HO458 := Aside0.mk (Kd.R_lower ho0 (below_size (bI HB.out))); replace BK445 := bk BK445 hb; replace BK446 := bk BK446 hb; replace HB := bs HB hb
        (try clear hb)
        (try clear hb2)
        (try clear hk)
        (try clear hi)
        (try clear ho0)
        refine hK.out _ _ ⟨bc0 BK445.out, bc1 BK445.out, bc0 BK446.out, bc1 BK446.out, bc2 BK446.out⟩ (fun hHeld => ?_)
        clear hK K
        refine nA (some 38) ?_
        exact norm_ y0_0 (hJ1_3_6 (_, _) _ ⟨hHeld, (rI HO455.out), (rI HO458.out), (kI BK445.out), (kI BK446.out), (bI HB.out)⟩)
       skip
       refine box_step ?hg (N := 10) ?hd (cs := #[.string (⟨#[]⟩ : ByteArray), .int .i64 0, .string (⟨#[]⟩ : ByteArray), .slice none 0 0]) (t := 42) ?hr ?_; (case hd => rfl); (case hg => rfl); (case hr => first | (go_simp; done) | (go_simp; rfl))
       intro gb466 hg w64 hbox hb
       replace HO455 := rb HO455 hb; have BK466 := Aside0.mk (hbox); have GW466 := bg hg HB; have GJ466 := gi GW466; have GE466 := bg hg HB; have GI466 := gi GE466; replace HB := bs HB hb; have NB445_466 := b1 BK445 hg; have NI445_466 := ni NB445_466; have NB466_445 := b2 BK445 hg; have NI466_445 := ni NB466_445; replace BK445 := bk BK445 hb; have NB446_466 := b1 BK446 hg; have NI446_466 := ni NB446_466; have NB466_446 := b2 BK446 hg; have NI466_446 := ni NB466_446; replace BK446 := bk BK446 hb; clear hb hbox hg
       refine hK.out _ _ ⟨bc0 BK445.out, bc1 BK445.out, bc0 BK446.out, bc1 BK446.out, bc2 BK446.out⟩ (fun hHeld => ?_)
       clear hK K
       refine nA (some 10) ?_
       exact norm_ y0_0 (hJ1_3_11 (_, gb466) _ ⟨hHeld, (rI HO455.out), (kI BK445.out), (kI BK446.out), (kI BK466.out), GW466.out, GE466.out, NB445_466.out, NB466_445.out, NB446_466.out, NB466_446.out, (bI HB.out)⟩)
      skip
      rintro ⟨v454, gb466⟩ w64 ⟨hS_, h0_, h1_, h2_, h3_, h4_, h5_, h6_, h7_, h8_, h9_, h10_⟩
      try dsimp only at h0_ h1_ h2_ h3_ h4_ h5_ h6_ h7_ h8_ h9_ h10_
      have n0_ := Aside0.mk h0_; have n1_ := Aside0.mk h1_; have n2_ := Aside0.mk h2_; have n3_ := Aside0.mk h3_; have n4_ := Aside0.mk h4_; have n5_ := Aside0.mk h5_; have n6_ := Aside0.mk h6_; have n7_ := Aside0.mk h7_; have n8_ := Aside0.mk h8_; have n9_ := Aside0.mk h9_; have n10_ := Aside0.mk h10_; clear BK445; clear BK446; clear HB; clear h0_ h1_ h2_ h3_ h4_ h5_ h6_ h7_ h8_ h9_ h10_; have HO455 := n0_; have BK445 := n1_; have BK446 := n2_; have BK466 := n3_; have GW466 := n4_; have GJ466 := gi GW466; have GE466 := n5_; have GI466 := gi GE466; have NB445_466 := n6_; have NI445_466 := ni NB445_466; have NB466_445 := n7_; have NI466_445 := ni NB466_445; have NB446_466 := n8_; have NI446_466 := ni NB446_466; have NB466_446 := n9_; have NI466_446 := ni NB466_446; have HB := n10_; clear n0_ n1_ n2_ n3_ n4_ n5_ n6_ n7_ n8_ n9_ n10_; have hHeld : w64.cell? ⟨gb445, 0, none⟩ = some (.int .i64 a0_0) ∧ w64.cell? ⟨gb445, 1, none⟩ = some (.int .i64 a0_1) ∧ w64.cell? ⟨gb446, 0, none⟩ = some (.int .i64 a1_0) ∧ w64.cell? ⟨gb446, 1, none⟩ = some (.string a1_1) ∧ w64.cell? ⟨gb446, 2, none⟩ = some (.slice A1_2 l1_2.length c1_2) := hS_
      refine norm_ (a' := ?_) ?_ ?_
      rotate_left
      ·
       simp only [putAll, Act.put, List.setIfInBounds_toArray, List.set_cons_zero, List.set_cons_succ]
       rfl
      refine oA 6 (some 38) (bz 14 2175) HT_ (fun K hK => ?_)
      refine gA Tryz.func31 #[.slice A3 l3.length c3] ?_
      with_reducible refine (laws_toTxS.calls k _ _ l3 t456 _ ?side1 ?side2 A21.out).mono ?_
      (case side1 => exact ch HR3 HB)
      (case side2 => exact HC3.out)
      rintro e w65 ⟨v457, rfl, ho0, hb⟩
      refine ⟨_, rfl, ?_⟩
      replace HO455 := rb HO455 hb; have HO458 := Aside0.mk (Kd.R_lower ho0 (below_size (bI HB.out))); replace BK445 := bk BK445 hb; replace BK446 := bk BK446 hb; replace BK466 := bk BK466 hb; replace HB := bs HB hb
      (try clear hb)
      (try clear hb2)
      (try clear hk)
      (try clear hi)
      (try clear ho0)
      refine hK.out _ _ ⟨bc0 BK445.out, bc1 BK445.out, bc0 BK446.out, bc1 BK446.out, bc2 BK446.out⟩ (fun hHeld => ?_)
      clear hK K
      refine nA (some 38) ?_
      exact norm_ y0_0 (hJ1_3_6_11 (_, _, gb466) _ ⟨hHeld, (rI HO455.out), (rI HO458.out), (kI BK445.out), (kI BK446.out), (kI BK466.out), GW466.out, GE466.out, NB445_466.out, NB466_445.out, NB446_466.out, NB466_446.out, (bI HB.out)⟩)
     skip
     rintro ⟨v454, v457⟩ w64 ⟨hS_, h0_, h1_, h2_, h3_, h4_⟩
     try dsimp only at h0_ h1_ h2_ h3_ h4_
     have n0_ := Aside0.mk h0_; have n1_ := Aside0.mk h1_; have n2_ := Aside0.mk h2_; have n3_ := Aside0.mk h3_; have n4_ := Aside0.mk h4_; clear BK445; clear BK446; clear HB; clear h0_ h1_ h2_ h3_ h4_; have HO455 := n0_; have HO458 := n1_; have BK445 := n2_; have BK446 := n3_; have HB := n4_; clear n0_ n1_ n2_ n3_ n4_; have hHeld : w64.cell? ⟨gb445, 0, none⟩ = some (.int .i64 a0_0) ∧ w64.cell? ⟨gb445, 1, none⟩ = some (.int .i64 a0_1) ∧ w64.cell? ⟨gb446, 0, none⟩ = some (.int .i64 a1_0) ∧ w64.cell? ⟨gb446, 1, none⟩ = some (.string a1_1) ∧ w64.cell? ⟨gb446, 2, none⟩ = some (.slice A1_2 l1_2.length c1_2) := hS_; obtain ⟨Ao65, co65, eo65⟩ := Kd.R_slice HO455.out
     (first | subst eo65 | (injection eo65 with f1_ f2_ f3_; have f4_ := f1_.symm; have f5_ := f3_.symm; clear f1_ f2_ f3_; subst f4_; subst f5_))
     obtain ⟨Ao66, co66, eo66⟩ := Kd.R_slice HO458.out
     (first | subst eo66 | (injection eo66 with f1_ f2_ f3_; have f4_ := f1_.symm; have f5_ := f3_.symm; clear f1_ f2_ f3_; subst f4_; subst f5_))
     refine norm_ (a' := ?_) ?_ ?_
     rotate_left
     ·
      simp only [putAll, Act.put, List.setIfInBounds_toArray, List.set_cons_zero, List.set_cons_succ]
      rfl
     refine two_ (i := 7) (j := 11) (Ni := some 39) (Nj := some 10) #[true, true, true, true, true, true, true, true, false, false, false, false, false, false] #[true, true, true, true, true, true, true, false, false, false, false, true, false, false] rfl rfl rfl rfl (two_of HT_.out (by kernel_rfl)) (by decide) (by decide) (fun K hK => ?_) (fun K hK => ?_)
     ·
      skip
      refine gA Tryz.func30 #[.agg #[.int .i64 t449, .int .i64 t450], .agg #[.int .i64 t451, .string t452, .slice Ao65 t453.length co65], .int .i64 a2, .slice Ao66 t456.length co66] ?_
      with_reducible refine (spec_BlockNew.calls k t449 t450 t451 t452 _ _ t453 a2 _ _ t456 t459 t460 t461 t462 t465 _ ?side1 ?side2 ?side3 ?side4 A22.out).mono ?_
      (case side1 => repeat (first | exact (Kd.R_reads' HO455.out).2.2 | (with_reducible refine Kd.C_alloc ?_ _) | (with_reducible refine Kd.C_drewN ?_ _) | (with_reducible refine Kd.C_drew ?_)))
      (case side2 => exact (Kd.R_reads' HO455.out).2.1)
      (case side3 => repeat (first | exact (Kd.R_reads' HO458.out).2.2 | (with_reducible refine Kd.C_alloc ?_ _) | (with_reducible refine Kd.C_drewN ?_ _) | (with_reducible refine Kd.C_drew ?_)))
      (case side4 => exact (Kd.R_reads' HO458.out).2.1)
      rintro e w67 ⟨v463, rfl, ho0, hb⟩
      refine ⟨_, rfl, ?_⟩
      replace HO458 := rb HO458 hb; have HO464 := Aside0.mk (Kd.R_lower (Kd.R_new' ho0 (Kd.R_lt (rI HO455.out))) (below_size (bI HB.out))); replace HO455 := Aside0.mk (Kd.R_elder' (rI HO455.out) (Kd.R_base ho0) hb); replace BK445 := bk BK445 hb; replace BK446 := bk BK446 hb; replace HB := bs HB hb
      (try clear hb)
      (try clear hb2)
      (try clear hk)
      (try clear hi)
      (try clear ho0)
      refine hK.out _ _ ⟨bc0 BK445.out, bc1 BK445.out, bc0 BK446.out, bc1 BK446.out, bc2 BK446.out⟩ (fun hHeld => ?_)
      clear hK K
      refine nA (some 39) ?_
      refine pA 8 (some 31) (bz 14 511) HT_ ?_
      refine pA 9 (some 40) (bz 14 1023) HT_ ?_
      refine pA 10 (some 41) (bz 14 2047) HT_ ?_
      exact norm_ y0_0 (hJ1_3_6_7 (.slice Ao65 t453.length co65, .slice Ao66 t456.length co66, v463) _ ⟨hHeld, (rI (Kd.R_mono HO455.out (fun _ hk => hk.2))), (rI HO458.out), (rI (Kd.R_mono HO464.out (fun _ hk => hk.2))), (kI BK445.out), (kI BK446.out), (bI HB.out)⟩)
     skip
     refine box_step ?hg (N := 10) ?hd (cs := #[.string (⟨#[]⟩ : ByteArray), .int .i64 0, .string (⟨#[]⟩ : ByteArray), .slice none 0 0]) (t := 42) ?hr ?_; (case hd => rfl); (case hg => rfl); (case hr => first | (go_simp; done) | (go_simp; rfl))
     intro gb466 hg w65 hbox hb
     replace HO455 := rb HO455 hb; replace HO458 := rb HO458 hb; have BK466 := Aside0.mk (hbox); have GW466 := bg hg HB; have GJ466 := gi GW466; have GE466 := bg hg HB; have GI466 := gi GE466; replace HB := bs HB hb; have NB445_466 := b1 BK445 hg; have NI445_466 := ni NB445_466; have NB466_445 := b2 BK445 hg; have NI466_445 := ni NB466_445; replace BK445 := bk BK445 hb; have NB446_466 := b1 BK446 hg; have NI446_466 := ni NB446_466; have NB466_446 := b2 BK446 hg; have NI466_446 := ni NB466_446; replace BK446 := bk BK446 hb; clear hb hbox hg
     refine hK.out _ _ ⟨bc0 BK445.out, bc1 BK445.out, bc0 BK446.out, bc1 BK446.out, bc2 BK446.out⟩ (fun hHeld => ?_)
     clear hK K
     refine nA (some 10) ?_
     exact norm_ y0_0 (hJ1_3_6_11 (_, _, gb466) _ ⟨hHeld, (rI HO455.out), (rI HO458.out), (kI BK445.out), (kI BK446.out), (kI BK466.out), GW466.out, GE466.out, NB445_466.out, NB466_445.out, NB446_466.out, NB466_446.out, (bI HB.out)⟩)
    skip
    rintro ⟨v454, v457, gb466⟩ w65 ⟨hS_, h0_, h1_, h2_, h3_, h4_, h5_, h6_, h7_, h8_, h9_, h10_, h11_⟩
    try dsimp only at h0_ h1_ h2_ h3_ h4_ h5_ h6_ h7_ h8_ h9_ h10_ h11_
    have n0_ := Aside0.mk h0_; have n1_ := Aside0.mk h1_; have n2_ := Aside0.mk h2_; have n3_ := Aside0.mk h3_; have n4_ := Aside0.mk h4_; have n5_ := Aside0.mk h5_; have n6_ := Aside0.mk h6_; have n7_ := Aside0.mk h7_; have n8_ := Aside0.mk h8_; have n9_ := Aside0.mk h9_; have n10_ := Aside0.mk h10_; have n11_ := Aside0.mk h11_; clear BK445; clear BK446; clear HB; clear h0_ h1_ h2_ h3_ h4_ h5_ h6_ h7_ h8_ h9_ h10_ h11_; have HO455 := n0_; have HO458 := n1_; have BK445 := n2_; have BK446 := n3_; have BK466 := n4_; have GW466 := n5_; have GJ466 := gi GW466; have GE466 := n6_; have GI466 := gi GE466; have NB445_466 := n7_; have NI445_466 := ni NB445_466; have NB466_445 := n8_; have NI466_445 := ni NB466_445; have NB446_466 := n9_; have NI446_466 := ni NB446_466; have NB466_446 := n10_; have NI466_446 := ni NB466_446; have HB := n11_; clear n0_ n1_ n2_ n3_ n4_ n5_ n6_ n7_ n8_ n9_ n10_ n11_; have hHeld : w65.cell? ⟨gb445, 0, none⟩ = some (.int .i64 a0_0) ∧ w65.cell? ⟨gb445, 1, none⟩ = some (.int .i64 a0_1) ∧ w65.cell? ⟨gb446, 0, none⟩ = some (.int .i64 a1_0) ∧ w65.cell? ⟨gb446, 1, none⟩ = some (.string a1_1) ∧ w65.cell? ⟨gb446, 2, none⟩ = some (.slice A1_2 l1_2.length c1_2) := hS_; obtain ⟨Ao66, co66, eo66⟩ := Kd.R_slice HO455.out
    (first | subst eo66 | (injection eo66 with f1_ f2_ f3_; have f4_ := f1_.symm; have f5_ := f3_.symm; clear f1_ f2_ f3_; subst f4_; subst f5_))
    obtain ⟨Ao67, co67, eo67⟩ := Kd.R_slice HO458.out
    (first | subst eo67 | (injection eo67 with f1_ f2_ f3_; have f4_ := f1_.symm; have f5_ := f3_.symm; clear f1_ f2_ f3_; subst f4_; subst f5_))
    refine norm_ (a' := ?_) ?_ ?_
    rotate_left
    ·
     simp only [putAll, Act.put, List.setIfInBounds_toArray, List.set_cons_zero, List.set_cons_succ]
     rfl
    refine oA 7 (some 39) (bz 14 2303) HT_ (fun K hK => ?_)
    refine gA Tryz.func30 #[.agg #[.int .i64 t449, .int .i64 t450], .agg #[.int .i64 t451, .string t452, .slice Ao66 t453.length co66], .int .i64 a2, .slice Ao67 t456.length co67] ?_
    with_reducible refine (spec_BlockNew.calls k t449 t450 t451 t452 _ _ t453 a2 _ _ t456 t459 t460 t461 t462 t465 _ ?side1 ?side2 ?side3 ?side4 A22.out).mono ?_
    (case side1 => repeat (first | exact (Kd.R_reads' HO455.out).2.2 | (with_reducible refine Kd.C_alloc ?_ _) | (with_reducible refine Kd.C_drewN ?_ _) | (with_reducible refine Kd.C_drew ?_)))
    (case side2 => exact (Kd.R_reads' HO455.out).2.1)
    (case side3 => repeat (first | exact (Kd.R_reads' HO458.out).2.2 | (with_reducible refine Kd.C_alloc ?_ _) | (with_reducible refine Kd.C_drewN ?_ _) | (with_reducible refine Kd.C_drew ?_)))
    (case side4 => exact (Kd.R_reads' HO458.out).2.1)
    rintro e w68 ⟨v463, rfl, ho0, hb⟩
    refine ⟨_, rfl, ?_⟩
    replace HO458 := rb HO458 hb; have HO464 := Aside0.mk (Kd.R_lower (Kd.R_new' ho0 (Kd.R_lt (rI HO455.out))) (below_size (bI HB.out))); replace HO455 := Aside0.mk (Kd.R_elder' (rI HO455.out) (Kd.R_base ho0) hb); replace BK445 := bk BK445 hb; replace BK446 := bk BK446 hb; replace BK466 := bk BK466 hb; replace HB := bs HB hb
    (try clear hb)
    (try clear hb2)
    (try clear hk)
    (try clear hi)
    (try clear ho0)
    refine hK.out _ _ ⟨bc0 BK445.out, bc1 BK445.out, bc0 BK446.out, bc1 BK446.out, bc2 BK446.out⟩ (fun hHeld => ?_)
    clear hK K
    refine nA (some 39) ?_
    refine pA 8 (some 31) (bz 14 2559) HT_ ?_
    refine pA 9 (some 40) (bz 14 3071) HT_ ?_
    refine pA 10 (some 41) (bz 14 4095) HT_ ?_
    exact norm_ y0_0 (hJ1_3_6_7_11 (.slice Ao66 t453.length co66, .slice Ao67 t456.length co67, v463, gb466) _ ⟨hHeld, (rI (Kd.R_mono HO455.out (fun _ hk => hk.2))), (rI HO458.out), (rI (Kd.R_mono HO464.out (fun _ hk => hk.2))), (kI BK445.out), (kI BK446.out), (kI BK466.out), GW466.out, GE466.out, NB445_466.out, NB466_445.out, NB446_466.out, NB466_446.out, (bI HB.out)⟩)
   skip
   rintro ⟨v454, v457, v463⟩ w67 ⟨hS_, h0_, h1_, h2_, h3_, h4_, h5_⟩
   try dsimp only at h0_ h1_ h2_ h3_ h4_ h5_
   have n0_ := Aside0.mk h0_; have n1_ := Aside0.mk h1_; have n2_ := Aside0.mk h2_; have n3_ := Aside0.mk h3_; have n4_ := Aside0.mk h4_; have n5_ := Aside0.mk h5_; clear BK445; clear BK446; clear HB; clear h0_ h1_ h2_ h3_ h4_ h5_; have HO455 := n0_; have HO458 := n1_; have HO464 := n2_; have BK445 := n3_; have BK446 := n4_; have HB := n5_; clear n0_ n1_ n2_ n3_ n4_ n5_; have hHeld : w67.cell? ⟨gb445, 0, none⟩ = some (.int .i64 a0_0) ∧ w67.cell? ⟨gb445, 1, none⟩ = some (.int .i64 a0_1) ∧ w67.cell? ⟨gb446, 0, none⟩ = some (.int .i64 a1_0) ∧ w67.cell? ⟨gb446, 1, none⟩ = some (.string a1_1) ∧ w67.cell? ⟨gb446, 2, none⟩ = some (.slice A1_2 l1_2.length c1_2) := hS_
   refine norm_ (a' := ?_) ?_ ?_
   rotate_left
   ·
    simp only [putAll, Act.put, List.setIfInBounds_toArray, List.set_cons_zero, List.set_cons_succ]
    rfl
   refine oA 11 (some 10) (bz 14 4095) HT_ (fun K hK => ?_)
   refine box_step ?hg (N := 10) ?hd (cs := #[.string (⟨#[]⟩ : ByteArray), .int .i64 0, .string (⟨#[]⟩ : ByteArray), .slice none 0 0]) (t := 42) ?hr ?_; (case hd => rfl); (case hg => rfl); (case hr => first | (go_simp; done) | (go_simp; rfl))
   intro gb466 hg w68 hbox hb
   replace HO455 := rb HO455 hb; replace HO458 := rb HO458 hb; replace HO464 := rb HO464 hb; have BK466 := Aside0.mk (hbox); have GW466 := bg hg HB; have GJ466 := gi GW466; have GE466 := bg hg HB; have GI466 := gi GE466; replace HB := bs HB hb; have NB445_466 := b1 BK445 hg; have NI445_466 := ni NB445_466; have NB466_445 := b2 BK445 hg; have NI466_445 := ni NB466_445; replace BK445 := bk BK445 hb; have NB446_466 := b1 BK446 hg; have NI446_466 := ni NB446_466; have NB466_446 := b2 BK446 hg; have NI466_446 := ni NB466_446; replace BK446 := bk BK446 hb; clear hb hbox hg
   refine hK.out _ _ ⟨bc0 BK445.out, bc1 BK445.out, bc0 BK446.out, bc1 BK446.out, bc2 BK446.out⟩ (fun hHeld => ?_)
   clear hK K
   refine nA (some 10) ?_
   exact norm_ y0_0 (hJ1_3_6_7_11 (_, _, _, gb466) _ ⟨hHeld, (rI HO455.out), (rI HO458.out), (rI HO464.out), (kI BK445.out), (kI BK446.out), (kI BK466.out), GW466.out, GE466.out, NB445_466.out, NB466_445.out, NB446_466.out, NB466_446.out, (bI HB.out)⟩)
  rintro ⟨v454, v457, v463, gb466⟩ w68 ⟨hS_, h0_, h1_, h2_, h3_, h4_, h5_, h6_, h7_, h8_, h9_, h10_, h11_, h12_⟩
  try dsimp only at h0_ h1_ h2_ h3_ h4_ h5_ h6_ h7_ h8_ h9_ h10_ h11_ h12_
  have n0_ := Aside0.mk h0_; have n1_ := Aside0.mk h1_; have n2_ := Aside0.mk h2_; have n3_ := Aside0.mk h3_; have n4_ := Aside0.mk h4_; have n5_ := Aside0.mk h5_; have n6_ := Aside0.mk h6_; have n7_ := Aside0.mk h7_; have n8_ := Aside0.mk h8_; have n9_ := Aside0.mk h9_; have n10_ := Aside0.mk h10_; have n11_ := Aside0.mk h11_; have n12_ := Aside0.mk h12_; clear BK445; clear BK446; clear HB; clear h0_ h1_ h2_ h3_ h4_ h5_ h6_ h7_ h8_ h9_ h10_ h11_ h12_; have HO455 := n0_; have HO458 := n1_; have HO464 := n2_; have BK445 := n3_; have BK446 := n4_; have BK466 := n5_; have GW466 := n6_; have GJ466 := gi GW466; have GE466 := n7_; have GI466 := gi GE466; have NB445_466 := n8_; have NI445_466 := ni NB445_466; have NB466_445 := n9_; have NI466_445 := ni NB466_445; have NB446_466 := n10_; have NI446_466 := ni NB446_466; have NB466_446 := n11_; have NI466_446 := ni NB466_446; have HB := n12_; clear n0_ n1_ n2_ n3_ n4_ n5_ n6_ n7_ n8_ n9_ n10_ n11_ n12_; have hHeld : w68.cell? ⟨gb445, 0, none⟩ = some (.int .i64 a0_0) ∧ w68.cell? ⟨gb445, 1, none⟩ = some (.int .i64 a0_1) ∧ w68.cell? ⟨gb446, 0, none⟩ = some (.int .i64 a1_0) ∧ w68.cell? ⟨gb446, 1, none⟩ = some (.string a1_1) ∧ w68.cell? ⟨gb446, 2, none⟩ = some (.slice A1_2 l1_2.length c1_2) := hS_; obtain ⟨Ao72, co72, eo72⟩ := Kd.R_slice HO464.out
  (first | subst eo72 | (injection eo72 with f1_ f2_ f3_; have f4_ := f1_.symm; have f5_ := f3_.symm; clear f1_ f2_ f3_; subst f4_; subst f5_))
  refine norm_ (a' := ?_) ?_ ?_
  rotate_left
  ·
   simp only [putAll, Act.put, List.setIfInBounds_toArray, List.set_cons_zero, List.set_cons_succ]
   rfl
  refine oA 12 none (bz 14 0x1fff) HT_ (fun K hK => ?_)
  have hs69 : w68.cell? ⟨gb466, 0, none⟩ = some (.string (⟨#[]⟩ : ByteArray)) := bc0 BK466.out; have hfs69 := blk_frozen BK466.out 0; have hns69_0 := NB445_466.out; have hns69_1 := NB446_466.out; have hms69_0 := NB466_445.out; have hms69_1 := NB466_446.out; have hs70 : w68.cell? ⟨gb466, 1, none⟩ = some (.int .i64 0) := bc1 BK466.out; have hfs70 := blk_frozen BK466.out 1; have hns70_0 := NB445_466.out; have hns70_1 := NB446_466.out; have hms70_0 := NB466_445.out; have hms70_1 := NB466_446.out; have hs71 : w68.cell? ⟨gb466, 2, none⟩ = some (.string (⟨#[]⟩ : ByteArray)) := bc2 BK466.out; have hfs71 := blk_frozen BK466.out 2; have hns71_0 := NB445_466.out; have hns71_1 := NB446_466.out; have hms71_0 := NB466_445.out; have hms71_1 := NB466_446.out; have hs73 : w68.cell? ⟨gb466, 3, none⟩ = some (.slice none 0 0) := bc3 BK466.out; have hfs73 := blk_frozen BK466.out 3; have hns73_0 := NB445_466.out; have hns73_1 := NB446_466.out; have hms73_0 := NB466_445.out; have hms73_1 := NB466_446.out
  refine skip_ (w1 := ?_) (by rfl) rfl ?_ ?_
  rotate_left
  ·
   go_simp
   rfl
  refine hK.out _ _ ⟨((cell_far (p := ⟨gb466, _, none⟩) NB445_466.out _).trans (((cell_far (p := ⟨gb466, _, none⟩) NB445_466.out _).trans (((cell_far (p := ⟨gb466, _, none⟩) NB445_466.out _).trans (((cell_far (p := ⟨gb466, _, none⟩) NB445_466.out _).trans (hHeld.1)))))))), ((cell_far (p := ⟨gb466, _, none⟩) NB445_466.out _).trans (((cell_far (p := ⟨gb466, _, none⟩) NB445_466.out _).trans (((cell_far (p := ⟨gb466, _, none⟩) NB445_466.out _).trans (((cell_far (p := ⟨gb466, _, none⟩) NB445_466.out _).trans (hHeld.2.1)))))))), ((cell_far (p := ⟨gb466, _, none⟩) NB446_466.out _).trans (((cell_far (p := ⟨gb466, _, none⟩) NB446_466.out _).trans (((cell_far (p := ⟨gb466, _, none⟩) NB446_466.out _).trans (((cell_far (p := ⟨gb466, _, none⟩) NB446_466.out _).trans (hHeld.2.2.1)))))))), ((cell_far (p := ⟨gb466, _, none⟩) NB446_466.out _).trans (((cell_far (p := ⟨gb466, _, none⟩) NB446_466.out _).trans (((cell_far (p := ⟨gb466, _, none⟩) NB446_466.out _).trans (((cell_far (p := ⟨gb466, _, none⟩) NB446_466.out _).trans (hHeld.2.2.2.1)))))))), ((cell_far (p := ⟨gb466, _, none⟩) NB446_466.out _).trans (((cell_far (p := ⟨gb466, _, none⟩) NB446_466.out _).trans (((cell_far (p := ⟨gb466, _, none⟩) NB446_466.out _).trans (((cell_far (p := ⟨gb466, _, none⟩) NB446_466.out _).trans (hHeld.2.2.2.2))))))))⟩ (fun hHeld => ?_)
  clear hK K
  refine pA 13 (some 11) (bz 14 0x3fff) HT_ ?_
  refine done_ (done_of HT_.out (by kernel_rfl)) ?_
  have hnb74 := NB446_466.out; have hnc74 := NB466_446.out; have hcz75_0 := bc0 BK446.out; have hcz75_1 := bc1 BK446.out; have hcz75_2 := bc2 BK446.out; have hfz75_0 := blk_frozen BK446.out 0; have hfz75_1 := blk_frozen BK446.out 1; have hfz75_2 := blk_frozen BK446.out 2
  try go_wp2_with (first | ((with_reducible refine gate_callee (f := 25) rfl ?_); refine gB (some 43) Tryz.func25 #[.agg #[.int .i64 a1_0, .string a1_1, .slice A1_2 l1_2.length c1_2]] ?_; (with_reducible refine (laws_toQc.calls k a1_0 a1_1 _ _ l1_2 t467 t468 t469 _ ?side1 ?side2 A23.out).mono ?_); (case side1 => exact Kd.C_below HR1_2.out (bI HB.out)); (case side2 => exact HC1_2.out); rintro e w76 ⟨v470, rfl, ho0, hb⟩; refine ⟨_, rfl, ?_⟩; replace HO458 := Aside0.mk (Kd.R_below (rI (Kd.R_mono (Kd.R_far (p := ⟨gb466, 3, none⟩) (Kd.R_far (p := ⟨gb466, 2, none⟩) (Kd.R_far (p := ⟨gb466, 1, none⟩) (Kd.R_far (p := ⟨gb466, 0, none⟩) (Kd.R_types HO458.out BK466.out (by decide)) (fun _ hk => hk.2) (.string t459)) (fun _ hk => hk.2) (.int .i64 t460)) (fun _ hk => hk.2) (.string t461)) (fun _ hk => hk.2) (.slice Ao72 t462.length co72)) (fun _ h_ => h_.1))) hb); have HO471 := Aside0.mk (Kd.R_lower (Kd.R_new' (Kd.R_new' ho0 (Kd.R_lt (rI (Kd.R_mono (Kd.R_far (p := ⟨gb466, 3, none⟩) (Kd.R_far (p := ⟨gb466, 2, none⟩) (Kd.R_far (p := ⟨gb466, 1, none⟩) (Kd.R_far (p := ⟨gb466, 0, none⟩) (Kd.R_types HO455.out BK466.out (by decide)) (fun _ hk => hk.2) (.string t459)) (fun _ hk => hk.2) (.int .i64 t460)) (fun _ hk => hk.2) (.string t461)) (fun _ hk => hk.2) (.slice Ao72 t462.length co72)) (fun _ h_ => h_.1))))) (Kd.R_lt (rI (Kd.R_mono (Kd.R_far (p := ⟨gb466, 3, none⟩) (Kd.R_far (p := ⟨gb466, 2, none⟩) (Kd.R_far (p := ⟨gb466, 1, none⟩) (Kd.R_far (p := ⟨gb466, 0, none⟩) (Kd.R_types HO464.out BK466.out (by decide)) (fun _ hk => hk.2) (.string t459)) (fun _ hk => hk.2) (.int .i64 t460)) (fun _ hk => hk.2) (.string t461)) (fun _ hk => hk.2) (.slice Ao72 t462.length co72)) (fun _ h_ => h_.1))))) (below_size (bI HB.out))); replace HO455 := Aside0.mk (Kd.R_elder' (rI (Kd.R_mono (Kd.R_far (p := ⟨gb466, 3, none⟩) (Kd.R_far (p := ⟨gb466, 2, none⟩) (Kd.R_far (p := ⟨gb466, 1, none⟩) (Kd.R_far (p := ⟨gb466, 0, none⟩) (Kd.R_types HO455.out BK466.out (by decide)) (fun _ hk => hk.2) (.string t459)) (fun _ hk => hk.2) (.int .i64 t460)) (fun _ hk => hk.2) (.string t461)) (fun _ hk => hk.2) (.slice Ao72 t462.length co72)) (fun _ h_ => h_.1))) (Kd.R_base ho0) hb); replace HO464 := Aside0.mk (Kd.R_elder' (rI (Kd.R_mono (Kd.R_far (p := ⟨gb466, 3, none⟩) (Kd.R_far (p := ⟨gb466, 2, none⟩) (Kd.R_far (p := ⟨gb466, 1, none⟩) (Kd.R_far (p := ⟨gb466, 0, none⟩) (Kd.R_types HO464.out BK466.out (by decide)) (fun _ hk => hk.2) (.string t459)) (fun _ hk => hk.2) (.int .i64 t460)) (fun _ hk => hk.2) (.string t461)) (fun _ hk => hk.2) (.slice Ao72 t462.length co72)) (fun _ h_ => h_.1))) (Kd.R_base ho0) hb); replace BK445 := Aside0.mk (blk_below (g := gb445) (o := .cells #[.int .i64 a0_0, .int .i64 a0_1] 23 (0, 0)) (gI BK445.out) hb); replace BK446 := Aside0.mk (blk_below (g := gb446) (o := .cells #[.int .i64 a1_0, .string a1_1, .slice A1_2 l1_2.length c1_2] 26 (0, 0)) (gI BK446.out) hb); replace BK466 := bp BK466 hb #[.string t459, .int .i64 t460, .string t461, .slice Ao72 t462.length co72]; replace HB := bs HB hb; (try clear hb); (try clear ho0); clear HO455; clear HO458; have n_ := Aside0.mk (Kd.R_mono (ok' := (fun k_ => some k_ ≠ (v470 : Value).ownBlock)) HO464.out (fun k_ hk => hk.2)); clear HO464; have HO464 := n_; clear n_; have n_ := Aside0.mk (Kd.R_mono (ok' := (fun k_ => some k_ ≠ (.slice Ao72 t462.length co72 : Value).ownBlock)) HO471.out (fun k_ hk => hk.2)); clear HO471; have HO471 := n_; clear n_) | ((with_reducible refine gd 12 ?_); refine bA 12 #[.int .i64 0, .string (⟨#[]⟩ : ByteArray), .slice none 0 0] 33 ?_; intro gb472 hg w77 hbox hb; replace HO464 := rb HO464 hb; replace HO471 := rb HO471 hb; have BK472 := Aside0.mk (hbox); have GW472 := bg hg HB; have GJ472 := gi GW472; have GE472 := GW472; replace HB := bs HB hb; have NB445_472 := b1 BK445 hg; have NI445_472 := ni NB445_472; have NB472_445 := b2 BK445 hg; have NI472_445 := ni NB472_445; replace BK445 := bk BK445 hb; have NB446_472 := b1 BK446 hg; have NI446_472 := ni NB446_472; have NB472_446 := b2 BK446 hg; have NI472_446 := ni NB472_446; replace BK446 := bk BK446 hb; have NB466_472 := b1 BK466 hg; have NI466_472 := ni NB466_472; have NB472_466 := b2 BK466 hg; have NI472_466 := ni NB472_466; replace BK466 := bk BK466 hb; clear hb hbox hg; have hnb78 := NB472_445.out; have hnc78 := NB445_472.out; have hnb79 := NB472_446.out; have hnc79 := NB446_472.out; have hnb80 := NB472_466.out; have hnc80 := NB466_472.out; obtain ⟨hcz81_0, hcz81_1, hcz81_2, hfz81_0, hfz81_1, hfz81_2⟩ := cs3 BK472; obtain ⟨Ao82, co82, eo82⟩ := Kd.R_slice HO471.out; subst eo82) | ((with_reducible refine gate_callee (f := 31) rfl ?_); refine gB (some 45) Tryz.func31 #[.slice A3 l3.length c3] ?_; (with_reducible refine (laws_toTxS.calls k _ _ l3 t473 _ ?side1 ?side2 A24.out).mono ?_); (case side1 => exact Kd.C_below HR3.out (bI HB.out)); (case side2 => exact HC3.out); rintro e w83 ⟨v474, rfl, ho0, hb⟩; refine ⟨_, rfl, ?_⟩; replace HO464 := Aside0.mk (Kd.R_below (rI (Kd.R_mono (Kd.R_far (p := ⟨gb472, 2, none⟩) (Kd.R_far (p := ⟨gb472, 1, none⟩) (Kd.R_far (p := ⟨gb472, 0, none⟩) (Kd.R_types HO464.out BK472.out (by decide)) (fun _ hk => hk.2) (.int .i64 t467)) (fun _ hk => hk.2) (.string t468)) (fun _ hk => hk.2) (.slice Ao82 t469.length co82)) (fun _ h_ => h_.1))) hb); replace HO471 := Aside0.mk (Kd.R_below (rI (Kd.R_mono (Kd.R_far (p := ⟨gb472, 2, none⟩) (Kd.R_far (p := ⟨gb472, 1, none⟩) (Kd.R_far (p := ⟨gb472, 0, none⟩) (Kd.R_types HO471.out BK472.out (by decide)) (fun _ hk => hk.2) (.int .i64 t467)) (fun _ hk => hk.2) (.string t468)) (fun _ hk => hk.2) (.slice Ao82 t469.length co82)) (fun _ h_ => h_.1))) hb); have HO475 := Aside0.mk (Kd.R_lower ho0 (below_size (bI HB.out))); replace BK445 := Aside0.mk (blk_below (g := gb445) (o := .cells #[.int .i64 a0_0, .int .i64 a0_1] 23 (0, 0)) (gI BK445.out) hb); replace BK446 := Aside0.mk (blk_below (g := gb446) (o := .cells #[.int .i64 a1_0, .string a1_1, .slice A1_2 l1_2.length c1_2] 26 (0, 0)) (gI BK446.out) hb); replace BK466 := Aside0.mk (blk_below (g := gb466) (o := .cells #[.string t459, .int .i64 t460, .string t461, .slice Ao72 t462.length co72] 42 (0, 0)) (gI BK466.out) hb); replace BK472 := bp BK472 hb #[.int .i64 t467, .string t468, .slice Ao82 t469.length co82]; replace HB := bs HB hb; (try clear hb); (try clear ho0); obtain ⟨Ao84, co84, eo84⟩ := Kd.R_slice HO475.out; subst eo84))
  replace HO464 := Aside0.mk (Kd.R_drew HO464.out); replace HO471 := Aside0.mk (Kd.R_drew HO471.out); replace HO475 := Aside0.mk (Kd.R_drew HO475.out); replace BK445 := Aside0.mk (blk_drew BK445.out); replace BK446 := Aside0.mk (blk_drew BK446.out); replace BK466 := Aside0.mk (blk_drew BK466.out); replace BK472 := Aside0.mk (blk_drew BK472.out); replace HB := Aside0.mk (below_drew1 HB.out)
  refine start_ (n := 12) (S := fun w' => w'.cell? ⟨gb445, 0, none⟩ = some (.int .i64 a0_0) ∧ w'.cell? ⟨gb445, 1, none⟩ = some (.int .i64 a0_1) ∧ w'.cell? ⟨gb472, 0, none⟩ = some (.int .i64 t467) ∧ w'.cell? ⟨gb472, 1, none⟩ = some (.string t468) ∧ w'.cell? ⟨gb472, 2, none⟩ = some (.slice Ao82 t469.length co82)) (ds := []) #[false, false, false, false, false, false, false, false, false, false, false, false] (by kernel_rfl) rfl rfl ⟨bc0 BK445.out, bc1 BK445.out, bc0 BK472.out, bc1 BK472.out, bc2 BK472.out⟩ (fun hHeld => ?_); refine with_tabW laws_FnExactBlockNew.tab11 laws_FnExactBlockNew.bits11 (fun HT_ HW_ => ?_)
  generalize w83.drew = w85 at HO464 HO471 HO475 BK445 BK446 BK466 BK472 HB hHeld ⊢
  refine pA 3 (some 50) (bz 12 8) HT_ ?_
  refine pA 4 (some 51) (bz 12 24) HT_ ?_
  refine tA 0 (some 47) (bz 12 25) HT_ HW_ hHeld ?_
  refine tA 2 (some 49) (bz 12 29) HT_ HW_ hHeld ?_
  refine join_ (σ := Value × Nat) 2 #[true, true, true, true, true, true, true, true, true, true, false, false] (fun s_ => [(48, .agg #[.int .i64 t476, .int .i64 t477]), (52, .tuple #[.agg #[.string t478, .int .i64 t479, .string t480, s_.1], .bool t484]), (14, .pointer (some ⟨s_.2, 0, none⟩)), (46, .tuple #[.agg #[.string t478, .int .i64 t479, .string t480, s_.1], .bool t484]), (53, .agg #[.string t478, .int .i64 t479, .string t480, s_.1]), (54, .bool t484)]) (fun s_ w' => (w'.cell? ⟨gb445, 0, none⟩ = some (.int .i64 a0_0) ∧ w'.cell? ⟨gb445, 1, none⟩ = some (.int .i64 a0_1) ∧ w'.cell? ⟨gb472, 0, none⟩ = some (.int .i64 t467) ∧ w'.cell? ⟨gb472, 1, none⟩ = some (.string t468) ∧ w'.cell? ⟨gb472, 2, none⟩ = some (.slice Ao82 t469.length co82)) ∧ (Kd.R (Kd.int .i64) 3 w' w.heap.size (fun k_ => some k_ ≠ (.slice Ao82 t469.length co82 : Value).ownBlock ∧ some k_ ≠ (s_.1 : Value).ownBlock) (.slice Ao72 t462.length co72) t462) ∧ (Kd.R (Kd.int .i64) 3 w' w.heap.size (fun k_ => some k_ ≠ (.slice Ao72 t462.length co72 : Value).ownBlock ∧ some k_ ≠ (s_.1 : Value).ownBlock) (.slice Ao82 t469.length co82) t469) ∧ (Kd.R k99 99 w' w.heap.size (fun _ => True) (.slice Ao84 t473.length co84) t473) ∧ (Kd.R (Kd.int .i64) 3 w' w.heap.size (fun k_ => some k_ ≠ (.slice Ao72 t462.length co72 : Value).ownBlock ∧ some k_ ≠ (.slice Ao82 t469.length co82 : Value).ownBlock) s_.1 t481) ∧ (w'.heap[gb445]? = some (.cells #[.int .i64 a0_0, .int .i64 a0_1] 23 (0, 0))) ∧ (w'.heap[gb446]? = some (.cells #[.int .i64 a1_0, .string a1_1, .slice A1_2 l1_2.length c1_2] 26 (0, 0))) ∧ (w'.heap[gb466]? = some (.cells #[.string t459, .int .i64 t460, .string t461, .slice Ao72 t462.length co72] 42 (0, 0))) ∧ (w'.heap[gb472]? = some (.cells #[.int .i64 t467, .string t468, .slice Ao82 t469.length co82] 33 (0, 0))) ∧ (w'.heap[s_.2]? = some (.cells #[.string (⟨#[]⟩ : ByteArray), .int .i64 0, .string (⟨#[]⟩ : ByteArray), .slice none 0 0] 42 (0, 0))) ∧ (w.heap.size ≤ s_.2) ∧ (w.heap.size ≤ s_.2) ∧ (gb445 ≠ s_.2) ∧ (s_.2 ≠ gb445) ∧ (gb446 ≠ s_.2) ∧ (s_.2 ≠ gb446) ∧ (gb466 ≠ s_.2) ∧ (s_.2 ≠ gb466) ∧ (gb472 ≠ s_.2) ∧ (s_.2 ≠ gb472) ∧ (Below w.heap.size w w')) ?_ ?_
  rotate_left
  ·
   intro hCont
   refine two_ (i := 1) (j := 9) (Ni := some 48) (Nj := some 14) #[true, true, true, true, true, false, false, false, false, false, false, false] #[true, false, true, true, true, false, false, false, false, true, false, false] rfl rfl rfl rfl (two_of HT_.out (by kernel_rfl)) (by decide) (by decide) (fun K hK => ?_) (fun K hK => ?_)
   ·
    skip
    refine gA Tryz.func14 #[.agg #[.int .i64 a0_0, .int .i64 a0_1]] ?_
    with_reducible refine (laws_toConf.calls a0_0 a0_1 t476 t477 _ A25.out).mono ?_
    rintro e w86 ⟨rfl, hb⟩
    refine ⟨_, rfl, ?_⟩
    replace HO464 := rb HO464 hb; replace HO471 := rb HO471 hb; replace HO475 := rb HO475 hb; replace BK445 := bk BK445 hb; replace BK446 := bk BK446 hb; replace BK466 := bk BK466 hb; replace BK472 := bk BK472 hb; replace HB := bs HB hb
    (try clear hb)
    (try clear hb2)
    (try clear hk)
    (try clear hi)
    refine hK.out _ _ ⟨bc0 BK445.out, bc1 BK445.out, bc0 BK472.out, bc1 BK472.out, bc2 BK472.out⟩ (fun hHeld => ?_)
    clear hK K
    refine nA (some 48) ?_
    refine two_ (i := 5) (j := 9) (Ni := some 52) (Nj := some 14) #[true, true, true, true, true, true, false, false, false, false, false, false] #[true, true, true, true, true, false, false, false, false, true, false, false] rfl rfl rfl rfl (two_of HT_.out (by kernel_rfl)) (by decide) (by decide) (fun K hK => ?_) (fun K hK => ?_)
    ·
     skip
     refine gA Tryz.func32 #[.agg #[.int .i64 t476, .int .i64 t477], .agg #[.int .i64 t467, .string t468, .slice Ao82 t469.length co82], .int .i64 a2, .slice Ao84 t473.length co84] ?_
     with_reducible refine (impl_BlockNew.calls k t476 t477 t467 t468 _ _ t469 a2 _ _ t473 t478 t479 t480 t481 t484 _ ?side1 ?side2 ?side3 ?side4 A26.out).mono ?_
     (case side1 => repeat (first | exact (Kd.R_reads' HO471.out).2.2 | (with_reducible refine Kd.C_alloc ?_ _) | (with_reducible refine Kd.C_drewN ?_ _) | (with_reducible refine Kd.C_drew ?_)))
     (case side2 => exact (Kd.R_reads' HO471.out).2.1)
     (case side3 => repeat (first | exact (Kd.R_reads' HO475.out).2.2 | (with_reducible refine Kd.C_alloc ?_ _) | (with_reducible refine Kd.C_drewN ?_ _) | (with_reducible refine Kd.C_drew ?_)))
     (case side4 => exact (Kd.R_reads' HO475.out).2.1)
     rintro e w87 ⟨v482, rfl, ho0, hb⟩
     refine ⟨_, rfl, ?_⟩
     replace HO475 := rb HO475 hb; have HO483 := Aside0.mk (Kd.R_lower (Kd.R_new' (Kd.R_new' ho0 (Kd.R_lt (rI HO464.out))) (Kd.R_lt (rI HO471.out))) (below_size (bI HB.out))); replace HO464 := Aside0.mk (Kd.R_elder' (rI HO464.out) (Kd.R_base ho0) hb); replace HO471 := Aside0.mk (Kd.R_elder' (rI HO471.out) (Kd.R_base ho0) hb); replace BK445 := bk BK445 hb; replace BK446 := bk BK446 hb; replace BK466 := bk BK466 hb; replace BK472 := bk BK472 hb; replace HB := bs HB hb
     (try clear hb)
     (try clear hb2)
     (try clear hk)
     (try clear hi)
     (try clear ho0)
     refine hK.out _ _ ⟨bc0 BK445.out, bc1 BK445.out, bc0 BK472.out, bc1 BK472.out, bc2 BK472.out⟩ (fun hHeld => ?_)
     clear hK K
     refine nA (some 52) ?_
     refine pA 6 (some 46) (bz 12 127) HT_ ?_
     refine pA 7 (some 53) (bz 12 255) HT_ ?_
     refine pA 8 (some 54) (bz 12 511) HT_ ?_
     refine oA 9 (some 14) (bz 12 1023) HT_ (fun K hK => ?_)
     refine box_step ?hg (N := 14) ?hd (cs := #[.string (⟨#[]⟩ : ByteArray), .int .i64 0, .string (⟨#[]⟩ : ByteArray), .slice none 0 0]) (t := 42) ?hr ?_; (case hd => rfl); (case hg => rfl); (case hr => first | (go_simp; done) | (go_simp; rfl))
     intro gb485 hg w88 hbox hb
     replace HO464 := rb HO464 hb; replace HO471 := rb HO471 hb; replace HO475 := rb HO475 hb; replace HO483 := rb HO483 hb; have BK485 := Aside0.mk (hbox); have GW485 := bg hg HB; have GJ485 := gi GW485; have GE485 := bg hg HB; have GI485 := gi GE485; replace HB := bs HB hb; have NB445_485 := b1 BK445 hg; have NI445_485 := ni NB445_485; have NB485_445 := b2 BK445 hg; have NI485_445 := ni NB485_445; replace BK445 := bk BK445 hb; have NB446_485 := b1 BK446 hg; have NI446_485 := ni NB446_485; have NB485_446 := b2 BK446 hg; have NI485_446 := ni NB485_446; replace BK446 := bk BK446 hb; have NB466_485 := b1 BK466 hg; have NI466_485 := ni NB466_485; have NB485_466 := b2 BK466 hg; have NI485_466 := ni NB485_466; replace BK466 := bk BK466 hb; have NB472_485 := b1 BK472 hg; have NI472_485 := ni NB472_485; have NB485_472 := b2 BK472 hg; have NI485_472 := ni NB485_472; replace BK472 := bk BK472 hb; clear hb hbox hg
     refine hK.out _ _ ⟨bc0 BK445.out, bc1 BK445.out, bc0 BK472.out, bc1 BK472.out, bc2 BK472.out⟩ (fun hHeld => ?_)
     clear hK K
     refine nA (some 14) ?_
     exact norm_ y0_9 (hCont (v482, gb485) _ ⟨hHeld, (rI HO464.out), (rI HO471.out), (rI HO475.out), (rI (Kd.R_mono HO483.out (fun _ hk => ⟨hk.1.2, hk.2⟩))), (kI BK445.out), (kI BK446.out), (kI BK466.out), (kI BK472.out), (kI BK485.out), GW485.out, GE485.out, NB445_485.out, NB485_445.out, NB446_485.out, NB485_446.out, NB466_485.out, NB485_466.out, NB472_485.out, NB485_472.out, (bI HB.out)⟩)
    skip
    refine box_step ?hg (N := 14) ?hd (cs := #[.string (⟨#[]⟩ : ByteArray), .int .i64 0, .string (⟨#[]⟩ : ByteArray), .slice none 0 0]) (t := 42) ?hr ?_; (case hd => rfl); (case hg => rfl); (case hr => first | (go_simp; done) | (go_simp; rfl))
    intro gb485 hg w87 hbox hb
    replace HO464 := rb HO464 hb; replace HO471 := rb HO471 hb; replace HO475 := rb HO475 hb; have BK485 := Aside0.mk (hbox); have GW485 := bg hg HB; have GJ485 := gi GW485; have GE485 := bg hg HB; have GI485 := gi GE485; replace HB := bs HB hb; have NB445_485 := b1 BK445 hg; have NI445_485 := ni NB445_485; have NB485_445 := b2 BK445 hg; have NI485_445 := ni NB485_445; replace BK445 := bk BK445 hb; have NB446_485 := b1 BK446 hg; have NI446_485 := ni NB446_485; have NB485_446 := b2 BK446 hg; have NI485_446 := ni NB485_446; replace BK446 := bk BK446 hb; have NB466_485 := b1 BK466 hg; have NI466_485 := ni NB466_485; have NB485_466 := b2 BK466 hg; have NI485_466 := ni NB485_466; replace BK466 := bk BK466 hb; have NB472_485 := b1 BK472 hg; have NI472_485 := ni NB472_485; have NB485_472 := b2 BK472 hg; have NI485_472 := ni NB485_472; replace BK472 := bk BK472 hb; clear hb hbox hg
    refine hK.out _ _ ⟨bc0 BK445.out, bc1 BK445.out, bc0 BK472.out, bc1 BK472.out, bc2 BK472.out⟩ (fun hHeld => ?_)
    clear hK K
    refine nA (some 14) ?_
    refine oA 5 (some 52) (bz 12 575) HT_ (fun K hK => ?_)
    refine gA Tryz.func32 #[.agg #[.int .i64 t476, .int .i64 t477], .agg #[.int .i64 t467, .string t468, .slice Ao82 t469.length co82], .int .i64 a2, .slice Ao84 t473.length co84] ?_
    with_reducible refine (impl_BlockNew.calls k t476 t477 t467 t468 _ _ t469 a2 _ _ t473 t478 t479 t480 t481 t484 _ ?side1 ?side2 ?side3 ?side4 A26.out).mono ?_
    (case side1 => repeat (first | exact (Kd.R_reads' HO471.out).2.2 | (with_reducible refine Kd.C_alloc ?_ _) | (with_reducible refine Kd.C_drewN ?_ _) | (with_reducible refine Kd.C_drew ?_)))
    (case side2 => exact (Kd.R_reads' HO471.out).2.1)
    (case side3 => repeat (first | exact (Kd.R_reads' HO475.out).2.2 | (with_reducible refine Kd.C_alloc ?_ _) | (with_reducible refine Kd.C_drewN ?_ _) | (with_reducible refine Kd.C_drew ?_)))
    (case side4 => exact (Kd.R_reads' HO475.out).2.1)
    rintro e w88 ⟨v482, rfl, ho0, hb⟩
    refine ⟨_, rfl, ?_⟩
    replace HO475 := rb HO475 hb; have HO483 := Aside0.mk (Kd.R_lower (Kd.R_new' (Kd.R_new' ho0 (Kd.R_lt (rI HO464.out))) (Kd.R_lt (rI HO471.out))) (below_size (bI HB.out))); replace HO464 := Aside0.mk (Kd.R_elder' (rI HO464.out) (Kd.R_base ho0) hb); replace HO471 := Aside0.mk (Kd.R_elder' (rI HO471.out) (Kd.R_base ho0) hb); replace BK445 := bk BK445 hb; replace BK446 := bk BK446 hb; replace BK466 := bk BK466 hb; replace BK472 := bk BK472 hb; replace BK485 := bk BK485 hb; replace HB := bs HB hb
    (try clear hb)
    (try clear hb2)
    (try clear hk)
    (try clear hi)
    (try clear ho0)
    refine hK.out _ _ ⟨bc0 BK445.out, bc1 BK445.out, bc0 BK472.out, bc1 BK472.out, bc2 BK472.out⟩ (fun hHeld => ?_)
    clear hK K
    refine nA (some 52) ?_
    refine pA 6 (some 46) (bz 12 639) HT_ ?_
    refine pA 7 (some 53) (bz 12 767) HT_ ?_
    refine pA 8 (some 54) (bz 12 1023) HT_ ?_
    exact norm_ y0_9 (hCont (v482, gb485) _ ⟨hHeld, (rI HO464.out), (rI HO471.out), (rI HO475.out), (rI (Kd.R_mono HO483.out (fun _ hk => ⟨hk.1.2, hk.2⟩))), (kI BK445.out), (kI BK446.out), (kI BK466.out), (kI BK472.out), (kI BK485.out), GW485.out, GE485.out, NB445_485.out, NB485_445.out, NB446_485.out, NB485_446.out, NB466_485.out, NB485_466.out, NB472_485.out, NB485_472.out, (bI HB.out)⟩)
   skip
   refine box_step ?hg (N := 14) ?hd (cs := #[.string (⟨#[]⟩ : ByteArray), .int .i64 0, .string (⟨#[]⟩ : ByteArray), .slice none 0 0]) (t := 42) ?hr ?_; (case hd => rfl); (case hg => rfl); (case hr => first | (go_simp; done) | (go_simp; rfl))
   intro gb485 hg w86 hbox hb
   replace HO464 := rb HO464 hb; replace HO471 := rb HO471 hb; replace HO475 := rb HO475 hb; have BK485 := Aside0.mk (hbox); have GW485 := bg hg HB; have GJ485 := gi GW485; have GE485 := bg hg HB; have GI485 := gi GE485; replace HB := bs HB hb; have NB445_485 := b1 BK445 hg; have NI445_485 := ni NB445_485; have NB485_445 := b2 BK445 hg; have NI485_445 := ni NB485_445; replace BK445 := bk BK445 hb; have NB446_485 := b1 BK446 hg; have NI446_485 := ni NB446_485; have NB485_446 := b2 BK446 hg; have NI485_446 := ni NB485_446; replace BK446 := bk BK446 hb; have NB466_485 := b1 BK466 hg; have NI466_485 := ni NB466_485; have NB485_466 := b2 BK466 hg; have NI485_466 := ni NB485_466; replace BK466 := bk BK466 hb; have NB472_485 := b1 BK472 hg; have NI472_485 := ni NB472_485; have NB485_472 := b2 BK472 hg; have NI485_472 := ni NB485_472; replace BK472 := bk BK472 hb; clear hb hbox hg
   refine hK.out _ _ ⟨bc0 BK445.out, bc1 BK445.out, bc0 BK472.out, bc1 BK472.out, bc2 BK472.out⟩ (fun hHeld => ?_)
   clear hK K
   refine nA (some 14) ?_
   refine oA 1 (some 48) (bz 12 543) HT_ (fun K hK => ?_)
   refine gA Tryz.func14 #[.agg #[.int .i64 a0_0, .int .i64 a0_1]] ?_
   with_reducible refine (laws_toConf.calls a0_0 a0_1 t476 t477 _ A25.out).mono ?_
   rintro e w87 ⟨rfl, hb⟩
   refine ⟨_, rfl, ?_⟩
   replace HO464 := rb HO464 hb; replace HO471 := rb HO471 hb; replace HO475 := rb HO475 hb; replace BK445 := bk BK445 hb; replace BK446 := bk BK446 hb; replace BK466 := bk BK466 hb; replace BK472 := bk BK472 hb; replace BK485 := bk BK485 hb; replace HB := bs HB hb
   (try clear hb)
   (try clear hb2)
   (try clear hk)
   (try clear hi)
   refine hK.out _ _ ⟨bc0 BK445.out, bc1 BK445.out, bc0 BK472.out, bc1 BK472.out, bc2 BK472.out⟩ (fun hHeld => ?_)
   clear hK K
   refine nA (some 48) ?_
   refine oA 5 (some 52) (bz 12 575) HT_ (fun K hK => ?_)
   refine gA Tryz.func32 #[.agg #[.int .i64 t476, .int .i64 t477], .agg #[.int .i64 t467, .string t468, .slice Ao82 t469.length co82], .int .i64 a2, .slice Ao84 t473.length co84] ?_
   with_reducible refine (impl_BlockNew.calls k t476 t477 t467 t468 _ _ t469 a2 _ _ t473 t478 t479 t480 t481 t484 _ ?side1 ?side2 ?side3 ?side4 A26.out).mono ?_
   (case side1 => repeat (first | exact (Kd.R_reads' HO471.out).2.2 | (with_reducible refine Kd.C_alloc ?_ _) | (with_reducible refine Kd.C_drewN ?_ _) | (with_reducible refine Kd.C_drew ?_)))
   (case side2 => exact (Kd.R_reads' HO471.out).2.1)
   (case side3 => repeat (first | exact (Kd.R_reads' HO475.out).2.2 | (with_reducible refine Kd.C_alloc ?_ _) | (with_reducible refine Kd.C_drewN ?_ _) | (with_reducible refine Kd.C_drew ?_)))
   (case side4 => exact (Kd.R_reads' HO475.out).2.1)
   rintro e w88 ⟨v482, rfl, ho0, hb⟩
   refine ⟨_, rfl, ?_⟩
   replace HO475 := rb HO475 hb; have HO483 := Aside0.mk (Kd.R_lower (Kd.R_new' (Kd.R_new' ho0 (Kd.R_lt (rI HO464.out))) (Kd.R_lt (rI HO471.out))) (below_size (bI HB.out))); replace HO464 := Aside0.mk (Kd.R_elder' (rI HO464.out) (Kd.R_base ho0) hb); replace HO471 := Aside0.mk (Kd.R_elder' (rI HO471.out) (Kd.R_base ho0) hb); replace BK445 := bk BK445 hb; replace BK446 := bk BK446 hb; replace BK466 := bk BK466 hb; replace BK472 := bk BK472 hb; replace BK485 := bk BK485 hb; replace HB := bs HB hb
   (try clear hb)
   (try clear hb2)
   (try clear hk)
   (try clear hi)
   (try clear ho0)
   refine hK.out _ _ ⟨bc0 BK445.out, bc1 BK445.out, bc0 BK472.out, bc1 BK472.out, bc2 BK472.out⟩ (fun hHeld => ?_)
   clear hK K
   refine nA (some 52) ?_
   refine pA 6 (some 46) (bz 12 639) HT_ ?_
   refine pA 7 (some 53) (bz 12 767) HT_ ?_
   refine pA 8 (some 54) (bz 12 1023) HT_ ?_
   exact norm_ y0_9 (hCont (v482, gb485) _ ⟨hHeld, (rI HO464.out), (rI HO471.out), (rI HO475.out), (rI (Kd.R_mono HO483.out (fun _ hk => ⟨hk.1.2, hk.2⟩))), (kI BK445.out), (kI BK446.out), (kI BK466.out), (kI BK472.out), (kI BK485.out), GW485.out, GE485.out, NB445_485.out, NB485_445.out, NB446_485.out, NB485_446.out, NB466_485.out, NB485_466.out, NB472_485.out, NB485_472.out, (bI HB.out)⟩)
  rintro ⟨v482, gb485⟩ w89 ⟨hS_, h0_, h1_, h2_, h3_, h4_, h5_, h6_, h7_, h8_, h9_, h10_, h11_, h12_, h13_, h14_, h15_, h16_, h17_, h18_, h19_⟩
  try dsimp only at h0_ h1_ h2_ h3_ h4_ h5_ h6_ h7_ h8_ h9_ h10_ h11_ h12_ h13_ h14_ h15_ h16_ h17_ h18_ h19_
  have n0_ := Aside0.mk h0_; have n1_ := Aside0.mk h1_; have n2_ := Aside0.mk h2_; have n3_ := Aside0.mk h3_; have n4_ := Aside0.mk h4_; have n5_ := Aside0.mk h5_; have n6_ := Aside0.mk h6_; have n7_ := Aside0.mk h7_; have n8_ := Aside0.mk h8_; have n9_ := Aside0.mk h9_; have n10_ := Aside0.mk h10_; have n11_ := Aside0.mk h11_; have n12_ := Aside0.mk h12_; have n13_ := Aside0.mk h13_; have n14_ := Aside0.mk h14_; have n15_ := Aside0.mk h15_; have n16_ := Aside0.mk h16_; have n17_ := Aside0.mk h17_; have n18_ := Aside0.mk h18_; have n19_ := Aside0.mk h19_; clear HO464; clear HO471; clear HO475; clear BK445; clear BK446; clear BK466; clear BK472; clear HB; clear h0_ h1_ h2_ h3_ h4_ h5_ h6_ h7_ h8_ h9_ h10_ h11_ h12_ h13_ h14_ h15_ h16_ h17_ h18_ h19_; have HO464 := n0_; have HO471 := n1_; have HO475 := n2_; have HO483 := n3_; have BK445 := n4_; have BK446 := n5_; have BK466 := n6_; have BK472 := n7_; have BK485 := n8_; have GW485 := n9_; have GJ485 := gi GW485; have GE485 := n10_; have GI485 := gi GE485; have NB445_485 := n11_; have NI445_485 := ni NB445_485; have NB485_445 := n12_; have NI485_445 := ni NB485_445; have NB446_485 := n13_; have NI446_485 := ni NB446_485; have NB485_446 := n14_; have NI485_446 := ni NB485_446; have NB466_485 := n15_; have NI466_485 := ni NB466_485; have NB485_466 := n16_; have NI485_466 := ni NB485_466; have NB472_485 := n17_; have NI472_485 := ni NB472_485; have NB485_472 := n18_; have NI485_472 := ni NB485_472; have HB := n19_; clear n0_ n1_ n2_ n3_ n4_ n5_ n6_ n7_ n8_ n9_ n10_ n11_ n12_ n13_ n14_ n15_ n16_ n17_ n18_ n19_
  have hHeld : w89.cell? ⟨gb445, 0, none⟩ = some (.int .i64 a0_0) ∧ w89.cell? ⟨gb445, 1, none⟩ = some (.int .i64 a0_1) ∧ w89.cell? ⟨gb472, 0, none⟩ = some (.int .i64 t467) ∧ w89.cell? ⟨gb472, 1, none⟩ = some (.string t468) ∧ w89.cell? ⟨gb472, 2, none⟩ = some (.slice Ao82 t469.length co82) := hS_; obtain ⟨Ao93, co93, eo93⟩ := Kd.R_slice HO483.out
  (first | subst eo93 | (injection eo93 with f1_ f2_ f3_; have f4_ := f1_.symm; have f5_ := f3_.symm; clear f1_ f2_ f3_; subst f4_; subst f5_))
  refine norm_ (a' := ?_) ?_ ?_
  rotate_left
  ·
   simp only [putAll, Act.put, List.setIfInBounds_toArray, List.set_cons_zero, List.set_cons_succ]
   rfl
  refine oA 10 none (bz 12 2047) HT_ (fun K hK => ?_)
  have hs90 : w89.cell? ⟨gb485, 0, none⟩ = some (.string (⟨#[]⟩ : ByteArray)) := bc0 BK485.out; have hfs90 := blk_frozen BK485.out 0; have hns90_0 := NB445_485.out; have hns90_1 := NB446_485.out; have hns90_2 := NB466_485.out; have hns90_3 := NB472_485.out; have hms90_0 := NB485_445.out; have hms90_1 := NB485_446.out; have hms90_2 := NB485_466.out; have hms90_3 := NB485_472.out; have hs91 : w89.cell? ⟨gb485, 1, none⟩ = some (.int .i64 0) := bc1 BK485.out; have hfs91 := blk_frozen BK485.out 1; have hns91_0 := NB445_485.out; have hns91_1 := NB446_485.out; have hns91_2 := NB466_485.out; have hns91_3 := NB472_485.out; have hms91_0 := NB485_445.out; have hms91_1 := NB485_446.out; have hms91_2 := NB485_466.out; have hms91_3 := NB485_472.out; have hs92 : w89.cell? ⟨gb485, 2, none⟩ = some (.string (⟨#[]⟩ : ByteArray)) := bc2 BK485.out; have hfs92 := blk_frozen BK485.out 2; have hns92_0 := NB445_485.out; have hns92_1 := NB446_485.out; have hns92_2 := NB466_485.out; have hns92_3 := NB472_485.out; have hms92_0 := NB485_445.out; have hms92_1 := NB485_446.out; have hms92_2 := NB485_466.out; have hms92_3 := NB485_472.out; have hs94 : w89.cell? ⟨gb485, 3, none⟩ = some (.slice none 0 0) := bc3 BK485.out; have hfs94 := blk_frozen BK485.out 3; have hns94_0 := NB445_485.out; have hns94_1 := NB446_485.out; have hns94_2 := NB466_485.out; have hns94_3 := NB472_485.out; have hms94_0 := NB485_445.out; have hms94_1 := NB485_446.out; have hms94_2 := NB485_466.out; have hms94_3 := NB485_472.out
  refine skip_ (w1 := ?_) (by rfl) rfl ?_ ?_
  rotate_left
  ·
   go_simp
   rfl
  refine hK.out _ _ ⟨((cell_far (p := ⟨gb485, _, none⟩) NB445_485.out _).trans (((cell_far (p := ⟨gb485, _, none⟩) NB445_485.out _).trans (((cell_far (p := ⟨gb485, _, none⟩) NB445_485.out _).trans (((cell_far (p := ⟨gb485, _, none⟩) NB445_485.out _).trans (hHeld.1)))))))), ((cell_far (p := ⟨gb485, _, none⟩) NB445_485.out _).trans (((cell_far (p := ⟨gb485, _, none⟩) NB445_485.out _).trans (((cell_far (p := ⟨gb485, _, none⟩) NB445_485.out _).trans (((cell_far (p := ⟨gb485, _, none⟩) NB445_485.out _).trans (hHeld.2.1)))))))), ((cell_far (p := ⟨gb485, _, none⟩) NB472_485.out _).trans (((cell_far (p := ⟨gb485, _, none⟩) NB472_485.out _).trans (((cell_far (p := ⟨gb485, _, none⟩) NB472_485.out _).trans (((cell_far (p := ⟨gb485, _, none⟩) NB472_485.out _).trans (hHeld.2.2.1)))))))), ((cell_far (p := ⟨gb485, _, none⟩) NB472_485.out _).trans (((cell_far (p := ⟨gb485, _, none⟩) NB472_485.out _).trans (((cell_far (p := ⟨gb485, _, none⟩) NB472_485.out _).trans (((cell_far (p := ⟨gb485, _, none⟩) NB472_485.out _).trans (hHeld.2.2.2.1)))))))), ((cell_far (p := ⟨gb485, _, none⟩) NB472_485.out _).trans (((cell_far (p := ⟨gb485, _, none⟩) NB472_485.out _).trans (((cell_far (p := ⟨gb485, _, none⟩) NB472_485.out _).trans (((cell_far (p := ⟨gb485, _, none⟩) NB472_485.out _).trans (hHeld.2.2.2.2))))))))⟩ (fun hHeld => ?_)
  clear hK K
  refine pA 11 (some 15) (bz 12 4095) HT_ ?_
  refine done_ (done_of HT_.out (by kernel_rfl)) ?_
  have hnb95 := NB485_445.out; have hnc95 := NB445_485.out; have hnb96 := NB485_446.out; have hnc96 := NB446_485.out; have hnb97 := NB485_466.out; have hnc97 := NB466_485.out; have hnb98 := NB485_472.out; have hnc98 := NB472_485.out; have hcz99_0 := bc0 BK485.out; have hcz99_1 := bc1 BK485.out; have hcz99_2 := bc2 BK485.out; have hcz99_3 := bc3 BK485.out; have hfz99_0 := blk_frozen BK485.out 0; have hfz99_1 := blk_frozen BK485.out 1; have hfz99_2 := blk_frozen BK485.out 2; have hfz99_3 := blk_frozen BK485.out 3; have hnb100 := NB466_445.out; have hnc100 := NB445_466.out; have hcz101_0 := bc0 BK466.out; have hcz101_1 := bc1 BK466.out; have hcz101_2 := bc2 BK466.out; have hcz101_3 := bc3 BK466.out; have hfz101_0 := blk_frozen BK466.out 0; have hfz101_1 := blk_frozen BK466.out 1; have hfz101_2 := blk_frozen BK466.out 2; have hfz101_3 := blk_frozen BK466.out 3
  try go_wp2_with (first | ((with_reducible refine gate_callee (f := 19) rfl ?_); refine gB (some 57) Tryz.func19 #[.agg #[.string t478, .int .i64 t479, .string t480, .slice Ao93 t481.length co93], .agg #[.string t459, .int .i64 t460, .string t461, .slice Ao72 t462.length co72]] ?_; (with_reducible refine (laws_eqBlock.calls k t478 t479 t480 _ _ t481 t459 t460 t461 _ _ t462 true _ ?side1 ?side2 ?side3 ?side4 A27.out).mono ?_); (case side1 => refine (Kd.R_reads' (e := 3) (base := w.heap.size) (ok := fun k_ => (some k_ ≠ (.slice Ao72 t462.length co72 : Value).ownBlock ∧ some k_ ≠ (.slice Ao82 t469.length co82 : Value).ownBlock)) (n := t481.length) (c := co93) ?_).2.2; exact (rI (Kd.R_mono (Kd.R_far (p := ⟨gb485, 3, none⟩) (Kd.R_far (p := ⟨gb485, 2, none⟩) (Kd.R_far (p := ⟨gb485, 1, none⟩) (Kd.R_far (p := ⟨gb485, 0, none⟩) (Kd.R_types HO483.out BK485.out (by decide)) (fun _ hk => hk.2) (.string t478)) (fun _ hk => hk.2) (.int .i64 t479)) (fun _ hk => hk.2) (.string t480)) (fun _ hk => hk.2) (.slice Ao93 t481.length co93)) (fun _ h_ => h_.1)))); (case side2 => exact (Kd.R_reads' HO483.out).2.1); (case side3 => refine (Kd.R_reads' (e := 3) (base := w.heap.size) (ok := fun k_ => (some k_ ≠ (.slice Ao82 t469.length co82 : Value).ownBlock ∧ some k_ ≠ (.slice Ao93 t481.length co93 : Value).ownBlock)) (n := t462.length) (c := co72) ?_).2.2; exact (rI (Kd.R_mono (Kd.R_far (p := ⟨gb485, 3, none⟩) (Kd.R_far (p := ⟨gb485, 2, none⟩) (Kd.R_far (p := ⟨gb485, 1, none⟩) (Kd.R_far (p := ⟨gb485, 0, none⟩) (Kd.R_types HO464.out BK485.out (by decide)) (fun _ hk => hk.2) (.string t478)) (fun _ hk => hk.2) (.int .i64 t479)) (fun _ hk => hk.2) (.string t480)) (fun _ hk => hk.2) (.slice Ao93 t481.length co93)) (fun _ h_ => h_.1)))); (case side4 => exact (Kd.R_reads' HO464.out).2.1); rintro e w102 ⟨rfl, hb⟩; refine ⟨_, rfl, ?_⟩; replace HO464 := Aside0.mk (Kd.R_below (rI (Kd.R_mono (Kd.R_far (p := ⟨gb485, 3, none⟩) (Kd.R_far (p := ⟨gb485, 2, none⟩) (Kd.R_far (p := ⟨gb485, 1, none⟩) (Kd.R_far (p := ⟨gb485, 0, none⟩) (Kd.R_types HO464.out BK485.out (by decide)) (fun _ hk => hk.2) (.string t478)) (fun _ hk => hk.2) (.int .i64 t479)) (fun _ hk => hk.2) (.string t480)) (fun _ hk => hk.2) (.slice Ao93 t481.length co93)) (fun _ h_ => h_.1))) hb); replace HO471 := Aside0.mk (Kd.R_below (rI (Kd.R_mono (Kd.R_far (p := ⟨gb485, 3, none⟩) (Kd.R_far (p := ⟨gb485, 2, none⟩) (Kd.R_far (p := ⟨gb485, 1, none⟩) (Kd.R_far (p := ⟨gb485, 0, none⟩) (Kd.R_types HO471.out BK485.out (by decide)) (fun _ hk => hk.2) (.string t478)) (fun _ hk => hk.2) (.int .i64 t479)) (fun _ hk => hk.2) (.string t480)) (fun _ hk => hk.2) (.slice Ao93 t481.length co93)) (fun _ h_ => h_.1))) hb); replace HO475 := Aside0.mk (Kd.R_below (rI (Kd.R_mono (Kd.R_far (p := ⟨gb485, 3, none⟩) (Kd.R_far (p := ⟨gb485, 2, none⟩) (Kd.R_far (p := ⟨gb485, 1, none⟩) (Kd.R_far (p := ⟨gb485, 0, none⟩) (Kd.R_types HO475.out BK485.out (by decide)) (fun _ hk => hk.2) (.string t478)) (fun _ hk => hk.2) (.int .i64 t479)) (fun _ hk => hk.2) (.string t480)) (fun _ hk => hk.2) (.slice Ao93 t481.length co93)) (fun _ h_ => h_.1))) hb); replace HO483 := Aside0.mk (Kd.R_below (rI (Kd.R_mono (Kd.R_far (p := ⟨gb485, 3, none⟩) (Kd.R_far (p := ⟨gb485, 2, none⟩) (Kd.R_far (p := ⟨gb485, 1, none⟩) (Kd.R_far (p := ⟨gb485, 0, none⟩) (Kd.R_types HO483.out BK485.out (by decide)) (fun _ hk => hk.2) (.string t478)) (fun _ hk => hk.2) (.int .i64 t479)) (fun _ hk => hk.2) (.string t480)) (fun _ hk => hk.2) (.slice Ao93 t481.length co93)) (fun _ h_ => h_.1))) hb); replace BK445 := Aside0.mk (blk_below (g := gb445) (o := .cells #[.int .i64 a0_0, .int .i64 a0_1] 23 (0, 0)) (gI BK445.out) hb); replace BK446 := Aside0.mk (blk_below (g := gb446) (o := .cells #[.int .i64 a1_0, .string a1_1, .slice A1_2 l1_2.length c1_2] 26 (0, 0)) (gI BK446.out) hb); replace BK466 := Aside0.mk (blk_below (g := gb466) (o := .cells #[.string t459, .int .i64 t460, .string t461, .slice Ao72 t462.length co72] 42 (0, 0)) (gI BK466.out) hb); replace BK472 := Aside0.mk (blk_below (g := gb472) (o := .cells #[.int .i64 t467, .string t468, .slice Ao82 t469.length co82] 33 (0, 0)) (gI BK472.out) hb); replace BK485 := bp BK485 hb #[.string t478, .int .i64 t479, .string t480, .slice Ao93 t481.length co93]; replace HB := bs HB hb; (try clear hb); (try clear hb2); (try clear hk); (try clear hi)))
  replace HO464 := Aside0.mk (Kd.R_drew HO464.out); replace HO471 := Aside0.mk (Kd.R_drew HO471.out); replace HO475 := Aside0.mk (Kd.R_drew HO475.out); replace HO483 := Aside0.mk (Kd.R_drew HO483.out); replace BK445 := Aside0.mk (blk_drew BK445.out); replace BK446 := Aside0.mk (blk_drew BK446.out); replace BK466 := Aside0.mk (blk_drew BK466.out); replace BK472 := Aside0.mk (blk_drew BK472.out); replace BK485 := Aside0.mk (blk_drew BK485.out); replace HB := Aside0.mk (below_drew1 HB.out)
  refine start_ (n := 5) (S := fun w' => w'.cell? ⟨gb472, 0, none⟩ = some (.int .i64 t467) ∧ w'.cell? ⟨gb472, 1, none⟩ = some (.string t468) ∧ w'.cell? ⟨gb472, 2, none⟩ = some (.slice Ao82 t469.length co82) ∧ w'.cell? ⟨gb446, 0, none⟩ = some (.int .i64 a1_0) ∧ w'.cell? ⟨gb446, 1, none⟩ = some (.string a1_1) ∧ w'.cell? ⟨gb446, 2, none⟩ = some (.slice A1_2 l1_2.length c1_2)) (ds := []) #[false, false, false, false, false] (by kernel_rfl) rfl rfl ⟨bc0 BK472.out, bc1 BK472.out, bc2 BK472.out, bc0 BK446.out, bc1 BK446.out, bc2 BK446.out⟩ (fun hHeld => ?_)
  generalize w102.drew = w103 at HO464 HO471 HO475 HO483 BK445 BK446 BK466 BK472 BK485 HB hHeld ⊢
  refine take_ (i := 0) (N := some 64) (v := ?_) (a' := ?_) #[true, false, false, false, false] rfl rfl (by kernel_rfl) (fun _ _ _ h => h) (Or.inl ⟨by rfl, ?_⟩) hHeld ?_ ?_
  rotate_left
  ·
   rintro w' ⟨s0, s1, s2, s3, s4, s5⟩
   go_simp
   with_reducible rfl
  rotate_left
  ·
   simp only [Act.put, List.setIfInBounds_toArray, List.set_cons_zero, List.set_cons_succ, i64_w, i32_w]
   rfl
  refine take_ (i := 1) (N := some 65) (v := ?_) (a' := ?_) #[true, true, false, false, false] rfl rfl (by kernel_rfl) (fun _ _ _ h => h) (Or.inl ⟨by rfl, ?_⟩) hHeld ?_ ?_
  rotate_left
  ·
   rintro w' ⟨s0, s1, s2, s3, s4, s5⟩
   go_simp
   with_reducible rfl
  rotate_left
  ·
   simp only [Act.put, List.setIfInBounds_toArray, List.set_cons_zero, List.set_cons_succ, i64_w, i32_w]
   rfl
  refine one_ (i := 2) (N := some 66) #[true, true, true, false, false] rfl rfl (by kernel_rfl) (by decide) (fun K hK => ?_)
  refine gA Tryz.func25 #[.agg #[.int .i64 a1_0, .string a1_1, .slice A1_2 l1_2.length c1_2]] ?_
  with_reducible refine (laws_toQc.calls k a1_0 a1_1 _ _ l1_2 t487 t488 t489 _ ?side1 ?side2 A30.out).mono ?_
  (case side1 => exact ch HR1_2 HB)
  (case side2 => exact HC1_2.out)
  rintro e w104 ⟨v490, rfl, ho0, hb⟩
  refine ⟨_, rfl, ?_⟩
  replace HO475 := rb HO475 hb; have HO491 := Aside0.mk (Kd.R_lower (Kd.R_new' (Kd.R_new' (Kd.R_new' ho0 (Kd.R_lt (rI HO464.out))) (Kd.R_lt (rI HO471.out))) (Kd.R_lt (rI HO483.out))) (below_size (bI HB.out))); replace HO464 := Aside0.mk (Kd.R_elder' (rI HO464.out) (Kd.R_base ho0) hb); replace HO471 := Aside0.mk (Kd.R_elder' (rI HO471.out) (Kd.R_base ho0) hb); replace HO483 := Aside0.mk (Kd.R_elder' (rI HO483.out) (Kd.R_base ho0) hb); replace BK445 := bk BK445 hb; replace BK446 := bk BK446 hb; replace BK466 := bk BK466 hb; replace BK472 := bk BK472 hb; replace BK485 := bk BK485 hb; replace HB := bs HB hb
  (try clear hb)
  (try clear hb2)
  (try clear hk)
  (try clear hi)
  (try clear ho0)
  obtain ⟨Ao105, co105, eo105⟩ := Kd.R_slice HO491.out
  (first | subst eo105 | (injection eo105 with f1_ f2_ f3_; have f4_ := f1_.symm; have f5_ := f3_.symm; clear f1_ f2_ f3_; subst f4_; subst f5_))
  refine hK.out _ _ ⟨bc0 BK472.out, bc1 BK472.out, bc2 BK472.out, bc0 BK446.out, bc1 BK446.out, bc2 BK446.out⟩ (fun hHeld => ?_)
  clear hK K
  refine nA (some 66) ?_
  refine one_ (i := 3) (N := some 67) #[true, true, true, true, false] rfl rfl (by kernel_rfl) (by decide) (fun K hK => ?_)
  refine gA Tryz.func27 #[.agg #[.int .i64 t467, .string t468, .slice Ao82 t469.length co82], .agg #[.int .i64 t487, .string t488, .slice Ao105 t489.length co105]] ?_
  with_reducible refine (laws_eqQc.calls k t467 t468 _ _ t469 t487 t488 _ _ t489 true _ ?side1 ?side2 ?side3 ?side4 A31.out).mono ?_
  (case side1 => repeat (first | exact (Kd.R_reads' HO471.out).2.2 | (with_reducible refine Kd.C_alloc ?_ _) | (with_reducible refine Kd.C_drewN ?_ _) | (with_reducible refine Kd.C_drew ?_)))
  (case side2 => exact (Kd.R_reads' HO471.out).2.1)
  (case side3 => repeat (first | exact (Kd.R_reads' HO491.out).2.2 | (with_reducible refine Kd.C_alloc ?_ _) | (with_reducible refine Kd.C_drewN ?_ _) | (with_reducible refine Kd.C_drew ?_)))
  (case side4 => exact (Kd.R_reads' HO491.out).2.1)
  rintro e w106 ⟨rfl, hb⟩
  refine ⟨_, rfl, ?_⟩
  replace HO464 := rb HO464 hb; replace HO471 := rb HO471 hb; replace HO475 := rb HO475 hb; replace HO483 := rb HO483 hb; replace HO491 := rb HO491 hb; replace BK445 := bk BK445 hb; replace BK446 := bk BK446 hb; replace BK466 := bk BK466 hb; replace BK472 := bk BK472 hb; replace BK485 := bk BK485 hb; replace HB := bs HB hb
  (try clear hb)
  (try clear hb2)
  (try clear hk)
  (try clear hi)
  refine hK.out _ _ ⟨bc0 BK472.out, bc1 BK472.out, bc2 BK472.out, bc0 BK446.out, bc1 BK446.out, bc2 BK446.out⟩ (fun hHeld => ?_)
  clear hK K
  refine nA (some 67) ?_
  refine pure_ (i := 4) (N := some 68) (v := ?_) (a' := ?_) #[true, true, true, true, true] rfl rfl (by kernel_rfl) (fun _ _ _ h => h) (Or.inl ⟨by rfl, ?_⟩) ?_ ?_
  rotate_left
  ·
   intro w'
   go_simp
   with_reducible rfl
  rotate_left
  ·
   simp only [Act.put, List.setIfInBounds_toArray, List.set_cons_zero, List.set_cons_succ, i64_w, i32_w]
   rfl
  refine done_ (by kernel_rfl) ?_
  clear HO491
  have n_ := Aside0.mk (Kd.R_mono (ok' := (fun k_ => some k_ ≠ (.slice Ao82 t469.length co82 : Value).ownBlock ∧ some k_ ≠ (.slice Ao93 t481.length co93 : Value).ownBlock)) HO464.out (fun k_ hk => ⟨hk.1.1, hk.1.2⟩))
  clear HO464; have HO464 := n_; clear n_
  have n_ := Aside0.mk (Kd.R_mono (ok' := (fun k_ => some k_ ≠ (.slice Ao72 t462.length co72 : Value).ownBlock ∧ some k_ ≠ (.slice Ao93 t481.length co93 : Value).ownBlock)) HO471.out (fun k_ hk => ⟨hk.1.1, hk.1.2⟩))
  clear HO471; have HO471 := n_; clear n_
  have n_ := Aside0.mk (Kd.R_mono (ok' := (fun k_ => some k_ ≠ (.slice Ao72 t462.length co72 : Value).ownBlock ∧ some k_ ≠ (.slice Ao82 t469.length co82 : Value).ownBlock)) HO483.out (fun k_ hk => ⟨hk.1.1, hk.1.2⟩))
  clear HO483; have HO483 := n_; clear n_
  try go_wp2_with (first | ((with_reducible refine gate_callee (f := 31) rfl ?_); refine gB (some 71) Tryz.func31 #[.slice A3 l3.length c3] ?_; (with_reducible refine (laws_toTxS.calls k _ _ l3 t493 _ ?side1 ?side2 A33.out).mono ?_); (case side1 => exact ch HR3 HB); (case side2 => exact HC3.out); rintro e w107 ⟨v494, rfl, ho0, hb⟩; refine ⟨_, rfl, ?_⟩; replace HO464 := rb HO464 hb; replace HO471 := rb HO471 hb; replace HO483 := rb HO483 hb; have HO495 := Aside0.mk (Kd.R_lower (Kd.R_new' ho0 (Kd.R_lt (rI HO475.out))) (below_size (bI HB.out))); replace HO475 := Aside0.mk (Kd.R_elder' (rI HO475.out) (Kd.R_base ho0) hb); replace BK445 := bk BK445 hb; replace BK446 := bk BK446 hb; replace BK466 := bk BK466 hb; replace BK472 := bk BK472 hb; replace BK485 := bk BK485 hb; replace HB := bs HB hb; (try clear hb); (try clear ho0); obtain ⟨Ao108, co108, eo108⟩ := Kd.R_slice HO495.out; subst eo108) | ((with_reducible refine gate_callee (f := 33) rfl ?_); refine gB (some 72) Tryz.func33 #[.slice Ao84 t473.length co84, .slice Ao108 t493.length co108] ?_; (with_reducible refine (laws_eqTxS.calls k _ _ t473 _ _ t493 true _ ?side1 ?side2 ?side3 ?side4 A34.out).mono ?_); (case side1 => repeat (first | exact (Kd.R_reads' HO475.out).2.2 | (with_reducible refine Kd.C_alloc ?_ _) | (with_reducible refine Kd.C_drewN ?_ _) | (with_reducible refine Kd.C_drew ?_))); (case side2 => exact (Kd.R_reads' HO475.out).2.1); (case side3 => repeat (first | exact (Kd.R_reads' HO495.out).2.2 | (with_reducible refine Kd.C_alloc ?_ _) | (with_reducible refine Kd.C_drewN ?_ _) | (with_reducible refine Kd.C_drew ?_))); (case side4 => exact (Kd.R_reads' HO495.out).2.1); rintro e w109 ⟨rfl, hb⟩; refine ⟨_, rfl, ?_⟩; replace HO464 := rb HO464 hb; replace HO471 := rb HO471 hb; replace HO475 := rb HO475 hb; replace HO483 := rb HO483 hb; replace HO495 := rb HO495 hb; replace BK445 := bk BK445 hb; replace BK446 := bk BK446 hb; replace BK466 := bk BK466 hb; replace BK472 := bk BK472 hb; replace BK485 := bk BK485 hb; replace HB := bs HB hb; (try clear hb); (try clear hb2); (try clear hk); (try clear hi); obtain ⟨hcz110_0, hcz110_1, hcz110_2, hfz110_0, hfz110_1, hfz110_2⟩ := cs3 BK472; clear HO495; have n_ := Aside0.mk (Kd.R_mono (ok' := (fun _ => True)) HO475.out (fun k_ hk => trivial)); clear HO475; have HO475 := n_; clear n_) | ((with_reducible refine gate_callee (f := 28) rfl ?_); refine gB (some 76) Tryz.func28 #[.agg #[.int .i64 t467, .string t468, .slice Ao82 t469.length co82], .int .i64 1] ?_; (with_reducible refine (laws_markQc.calls k t467 t468 (fun k_ => some k_ = (.slice Ao82 t469.length co82 : Value).ownBlock) (.slice Ao82 t469.length co82) t469 1 t497 t498 w _ ?side1 ?side2 A36.out).mono ?_); (case side1 => exact bI HB.out); (case side2 => exact Kd.R_tight rfl HO471.out); rintro e w111 ⟨rfl, hy0, hb, hkp⟩; refine ⟨_, rfl, ?_⟩; replace BK445 := Aside0.mk (blk_kept (kI BK445.out) hkp (fun hs_ => (fun e_ => (Kd.R_ne HO471.out BK445.out (by decide)) e_) hs_)); replace BK446 := Aside0.mk (blk_kept (kI BK446.out) hkp (fun hs_ => (fun e_ => (Kd.R_ne HO471.out BK446.out (by decide)) e_) hs_)); replace HO464 := Aside0.mk (Kd.R_mono (ok' := fun k_ => some k_ ≠ (.slice Ao82 t469.length co82 : Value).ownBlock ∧ some k_ ≠ (.slice Ao93 t481.length co93 : Value).ownBlock) (Kd.R_keptB (HO464.out) hkp (fun k_ hk_ hs_ => (hk_.1) hs_)) (fun k_ hk_ => ⟨hk_.1.1, hk_.1.2⟩)); replace BK466 := Aside0.mk (blk_kept (kI BK466.out) hkp (fun hs_ => (fun e_ => (Kd.R_ne HO471.out BK466.out (by decide)) e_) hs_)); replace BK472 := Aside0.mk (blk_kept (kI BK472.out) hkp (fun hs_ => (fun e_ => (Kd.R_ne HO471.out BK472.out (by decide)) e_) hs_)); replace HO475 := Aside0.mk (Kd.R_mono (ok' := fun k_ => True) (Kd.R_keptB ((Kd.R_apart' HO475.out (Kd.R_typed HO471.out) (by decide))) hkp (fun k_ hk_ hs_ => (hk_.2) hs_)) (fun k_ hk_ => trivial)); replace HO483 := Aside0.mk (Kd.R_mono (ok' := fun k_ => some k_ ≠ (.slice Ao72 t462.length co72 : Value).ownBlock ∧ some k_ ≠ (.slice Ao82 t469.length co82 : Value).ownBlock) (Kd.R_keptB (HO483.out) hkp (fun k_ hk_ hs_ => (hk_.2) hs_)) (fun k_ hk_ => ⟨hk_.1.1, hk_.1.2⟩)); replace BK485 := Aside0.mk (blk_kept (kI BK485.out) hkp (fun hs_ => (fun e_ => (Kd.R_ne HO471.out BK485.out (by decide)) e_) hs_)); replace HO471 := Aside0.mk (Kd.R_reok rfl hy0 (fun k_ e_ => HO471.out.1 k_ e_)); replace HB := Aside0.mk (hb); (try clear hb); (try clear hkp); (try clear hy0); clear HO471; have n_ := Aside0.mk (Kd.R_mono (ok' := (fun k_ => some k_ ≠ (.slice Ao93 t481.length co93 : Value).ownBlock)) HO464.out (fun k_ hk => hk.2)); clear HO464; have HO464 := n_; clear n_; have n_ := Aside0.mk (Kd.R_mono (ok' := (fun k_ => some k_ ≠ (.slice Ao72 t462.length co72 : Value).ownBlock)) HO483.out (fun k_ hk => hk.1)); clear HO483; have HO483 := n_; clear n_) | ((with_reducible refine gate_callee (f := 34) rfl ?_); refine gB (some 79) Tryz.func34 #[.slice Ao84 t473.length co84, .int .i64 t497] ?_; (with_reducible refine (laws_markTxS.calls k (fun k_ => some k_ = (.slice Ao84 t473.length co84 : Value).ownBlock) (.slice Ao84 t473.length co84) t473 t497 t499 t500 w _ ?side1 ?side2 A37.out).mono ?_); (case side1 => exact bI HB.out); (case side2 => exact Kd.R_tight rfl HO475.out); rintro e w112 ⟨rfl, hy0, hb, hkp⟩; refine ⟨_, rfl, ?_⟩; replace BK445 := Aside0.mk (blk_kept (kI BK445.out) hkp (fun hs_ => (fun e_ => (Kd.R_ne HO475.out BK445.out (by decide)) e_) hs_)); replace BK446 := Aside0.mk (blk_kept (kI BK446.out) hkp (fun hs_ => (fun e_ => (Kd.R_ne HO475.out BK446.out (by decide)) e_) hs_)); replace HO464 := Aside0.mk (Kd.R_mono (ok' := fun k_ => some k_ ≠ (.slice Ao93 t481.length co93 : Value).ownBlock) (Kd.R_keptB ((Kd.R_apart' HO464.out (Kd.R_typed HO475.out) (by decide))) hkp (fun k_ hk_ hs_ => (hk_.2) hs_)) (fun k_ hk_ => hk_.1.1)); replace BK466 := Aside0.mk (blk_kept (kI BK466.out) hkp (fun hs_ => (fun e_ => (Kd.R_ne HO475.out BK466.out (by decide)) e_) hs_)); replace BK472 := Aside0.mk (blk_kept (kI BK472.out) hkp (fun hs_ => (fun e_ => (Kd.R_ne HO475.out BK472.out (by decide)) e_) hs_)); replace HO483 := Aside0.mk (Kd.R_mono (ok' := fun k_ => some k_ ≠ (.slice Ao72 t462.length co72 : Value).ownBlock) (Kd.R_keptB ((Kd.R_apart' HO483.out (Kd.R_typed HO475.out) (by decide))) hkp (fun k_ hk_ hs_ => (hk_.2) hs_)) (fun k_ hk_ => hk_.1.1)); replace BK485 := Aside0.mk (blk_kept (kI BK485.out) hkp (fun hs_ => (fun e_ => (Kd.R_ne HO475.out BK485.out (by decide)) e_) hs_)); replace HO475 := Aside0.mk (Kd.R_reok rfl hy0 (fun k_ e_ => HO475.out.1 k_ e_)); replace HB := Aside0.mk (hb); (try clear hb); (try clear hkp); (try clear hy0); obtain ⟨hcz113_0, hcz113_1, hcz113_2, hcz113_3, hfz113_0, hfz113_1, hfz113_2, hfz113_3⟩ := cs4 BK485; obtain ⟨hcz114_0, hcz114_1, hcz114_2, hcz114_3, hfz114_0, hfz114_1, hfz114_2, hfz114_3⟩ := cs4 BK466; clear HO475) | (go_at_call 19; (with_reducible refine (laws_eqBlock.calls k t478 t479 t480 _ _ t481 t459 t460 t461 _ _ t462 true _ ?side1 ?side2 ?side3 ?side4 A39.out).mono ?_); (case side1 => repeat (first | exact (Kd.R_reads' HO483.out).2.2 | (with_reducible refine Kd.C_alloc ?_ _) | (with_reducible refine Kd.C_drewN ?_ _) | (with_reducible refine Kd.C_drew ?_))); (case side2 => exact (Kd.R_reads' HO483.out).2.1); (case side3 => repeat (first | exact (Kd.R_reads' HO464.out).2.2 | (with_reducible refine Kd.C_alloc ?_ _) | (with_reducible refine Kd.C_drewN ?_ _) | (with_reducible refine Kd.C_drew ?_))); (case side4 => exact (Kd.R_reads' HO464.out).2.1); rintro e w115 ⟨rfl, hb⟩; replace HO464 := rb HO464 hb; replace HO483 := rb HO483 hb; replace BK445 := bk BK445 hb; replace BK446 := bk BK446 hb; replace BK466 := bk BK466 hb; replace BK472 := bk BK472 hb; replace BK485 := bk BK485 hb; replace HB := bs HB hb; (try clear hb); (try clear hb2); (try clear hk); (try clear hi); obtain ⟨hcz116_0, hcz116_1, hcz116_2, hcz116_3, hfz116_0, hfz116_1, hfz116_2, hfz116_3⟩ := cs4 BK485) | ((with_reducible refine gate_callee (f := 21) rfl ?_); refine gB (some 95) Tryz.func21 #[.agg #[.string t478, .int .i64 t479, .string t480, .slice Ao93 t481.length co93], .int .i64 1] ?_; (with_reducible refine (laws_markBlock.calls k t478 t479 t480 (fun k_ => some k_ = (.slice Ao93 t481.length co93 : Value).ownBlock) (.slice Ao93 t481.length co93) t481 1 t502 t503 w _ ?side1 ?side2 A41.out).mono ?_); (case side1 => exact bI HB.out); (case side2 => exact Kd.R_tight rfl HO483.out); rintro e w117 ⟨rfl, hy0, hb, hkp⟩; refine ⟨_, rfl, ?_⟩; replace BK445 := Aside0.mk (blk_kept (kI BK445.out) hkp (fun hs_ => (fun e_ => (Kd.R_ne HO483.out BK445.out (by decide)) e_) hs_)); replace BK446 := Aside0.mk (blk_kept (kI BK446.out) hkp (fun hs_ => (fun e_ => (Kd.R_ne HO483.out BK446.out (by decide)) e_) hs_)); replace HO464 := Aside0.mk (Kd.R_mono (ok' := fun k_ => some k_ ≠ (.slice Ao93 t481.length co93 : Value).ownBlock) (Kd.R_keptB (HO464.out) hkp (fun k_ hk_ hs_ => (hk_) hs_)) (fun k_ hk_ => hk_.1)); replace BK466 := Aside0.mk (blk_kept (kI BK466.out) hkp (fun hs_ => (fun e_ => (Kd.R_ne HO483.out BK466.out (by decide)) e_) hs_)); replace BK472 := Aside0.mk (blk_kept (kI BK472.out) hkp (fun hs_ => (fun e_ => (Kd.R_ne HO483.out BK472.out (by decide)) e_) hs_)); replace BK485 := Aside0.mk (blk_kept (kI BK485.out) hkp (fun hs_ => (fun e_ => (Kd.R_ne HO483.out BK485.out (by decide)) e_) hs_)); replace HO483 := Aside0.mk (Kd.R_reok rfl hy0 (fun k_ e_ => HO483.out.1 k_ e_)); replace HB := Aside0.mk (hb); (try clear hb); (try clear hkp); (try clear hy0); obtain ⟨hcz118_0, hcz118_1, hcz118_2, hcz118_3, hfz118_0, hfz118_1, hfz118_2, hfz118_3⟩ := cs4 BK485) | ((with_reducible refine gate_callee (f := 35) rfl ?_); refine goesL_ (some 98) rfl rfl Tryz.func35 (by kernel_rfl) rfl #[.agg #[.string t478, .int .i64 t479, .string t480, .slice Ao93 t503.length co93], .int .i64 1] rfl (by (try simp only [List.map_toArray, List.map_cons, List.map_nil]); first | done | (rw [show t503.length = t481.length from (Kd.R_reads' HO483.out).1.symm] <;> rfl) | rfl | (simp only [List.length_drop, List.length_take]; rfl)) ?_; (with_reducible refine (laws_heldBlock.calls k t478 t479 t480 _ _ t503 1 t504 _ ?side1 ?side2 A42.out).mono ?_); (case side1 => repeat (first | exact (Kd.R_reads' HO483.out).2.2 | (with_reducible refine Kd.C_alloc ?_ _) | (with_reducible refine Kd.C_drewN ?_ _) | (with_reducible refine Kd.C_drew ?_))); (case side2 => rw [show t503.length = t481.length from (Kd.R_reads' HO483.out).1.symm]; exact (Kd.R_reads' HO483.out).2.1); rintro e w119 ⟨rfl, hb⟩; refine ⟨_, rfl, ?_⟩; replace HO464 := rb HO464 hb; replace HO483 := rb HO483 hb; replace BK445 := bk BK445 hb; replace BK446 := bk BK446 hb; replace BK466 := bk BK466 hb; replace BK472 := bk BK472 hb; replace BK485 := bk BK485 hb; replace HB := bs HB hb; (try clear hb); (try clear hb2); (try clear hk); (try clear hi)))
  replace HO464 := Aside0.mk (Kd.R_drew HO464.out); replace HO483 := Aside0.mk (Kd.R_drew HO483.out); replace BK445 := Aside0.mk (blk_drew BK445.out); replace BK446 := Aside0.mk (blk_drew BK446.out); replace BK466 := Aside0.mk (blk_drew BK466.out); replace BK472 := Aside0.mk (blk_drew BK472.out); replace BK485 := Aside0.mk (blk_drew BK485.out); replace HB := Aside0.mk (below_drew1 HB.out)
  refine start_ (n := 14) (S := fun w' => w'.cell? ⟨gb445, 0, none⟩ = some (.int .i64 a0_0) ∧ w'.cell? ⟨gb445, 1, none⟩ = some (.int .i64 a0_1) ∧ w'.cell? ⟨gb446, 0, none⟩ = some (.int .i64 a1_0) ∧ w'.cell? ⟨gb446, 1, none⟩ = some (.string a1_1) ∧ w'.cell? ⟨gb446, 2, none⟩ = some (.slice A1_2 l1_2.length c1_2)) (ds := []) #[false, false, false, false, false, false, false, false, false, false, false, false, false, false] (by kernel_rfl) rfl rfl ⟨bc0 BK445.out, bc1 BK445.out, bc0 BK446.out, bc1 BK446.out, bc2 BK446.out⟩ (fun hHeld => ?_); refine with_tabW laws_FnExactBlockNew.tab31 laws_FnExactBlockNew.bits31 (fun HT_ HW_ => ?_)
  generalize w119.drew = w120 at HO464 HO483 BK445 BK446 BK466 BK472 BK485 HB hHeld ⊢
  refine pA 4 (some 109) (bz 14 16) HT_ ?_
  refine pA 5 (some 110) (bz 14 48) HT_ ?_
  refine tA 0 (some 105) (bz 14 49) HT_ HW_ hHeld ?_
  refine tA 2 (some 107) (bz 14 53) HT_ HW_ hHeld ?_
  refine join_ (σ := Value × Value × Value × Nat) 2 #[true, true, true, true, true, true, true, true, true, true, true, true, false, false] (fun s_ => [(106, .agg #[.int .i64 t505, .int .i64 t506]), (108, .agg #[.int .i64 t507, .string t508, s_.1]), (111, s_.2.1), (112, .tuple #[.agg #[.string t515, .int .i64 t516, .string t517, s_.2.2.1], .bool t521]), (19, .pointer (some ⟨s_.2.2.2, 0, none⟩)), (104, .tuple #[.agg #[.string t515, .int .i64 t516, .string t517, s_.2.2.1], .bool t521]), (113, .agg #[.string t515, .int .i64 t516, .string t517, s_.2.2.1]), (114, .bool t521)]) (fun s_ w' => (w'.cell? ⟨gb445, 0, none⟩ = some (.int .i64 a0_0) ∧ w'.cell? ⟨gb445, 1, none⟩ = some (.int .i64 a0_1) ∧ w'.cell? ⟨gb446, 0, none⟩ = some (.int .i64 a1_0) ∧ w'.cell? ⟨gb446, 1, none⟩ = some (.string a1_1) ∧ w'.cell? ⟨gb446, 2, none⟩ = some (.slice A1_2 l1_2.length c1_2)) ∧ (Kd.R (Kd.int .i64) 3 w' w.heap.size (fun k_ => some k_ ≠ (.slice Ao93 t481.length co93 : Value).ownBlock ∧ some k_ ≠ (s_.1 : Value).ownBlock ∧ some k_ ≠ (s_.2.2.1 : Value).ownBlock) (.slice Ao72 t462.length co72) t462) ∧ (Kd.R (Kd.int .i64) 3 w' w.heap.size (fun k_ => some k_ ≠ (.slice Ao72 t462.length co72 : Value).ownBlock ∧ some k_ ≠ (s_.1 : Value).ownBlock ∧ some k_ ≠ (s_.2.2.1 : Value).ownBlock) (.slice Ao93 t481.length co93) t503) ∧ (Kd.R (Kd.int .i64) 3 w' w.heap.size (fun k_ => some k_ ≠ (.slice Ao72 t462.length co72 : Value).ownBlock ∧ some k_ ≠ (.slice Ao93 t481.length co93 : Value).ownBlock ∧ some k_ ≠ (s_.2.2.1 : Value).ownBlock) s_.1 t509) ∧ (Kd.R k99 99 w' w.heap.size (fun _ => True) s_.2.1 t512) ∧ (Kd.R (Kd.int .i64) 3 w' w.heap.size (fun k_ => some k_ ≠ (.slice Ao72 t462.length co72 : Value).ownBlock ∧ some k_ ≠ (.slice Ao93 t481.length co93 : Value).ownBlock ∧ some k_ ≠ (s_.1 : Value).ownBlock) s_.2.2.1 t518) ∧ (w'.heap[gb445]? = some (.cells #[.int .i64 a0_0, .int .i64 a0_1] 23 (0, 0))) ∧ (w'.heap[gb446]? = some (.cells #[.int .i64 a1_0, .string a1_1, .slice A1_2 l1_2.length c1_2] 26 (0, 0))) ∧ (w'.heap[gb466]? = some (.cells #[.string t459, .int .i64 t460, .string t461, .slice Ao72 t462.length co72] 42 (0, 0))) ∧ (w'.heap[gb472]? = some (.cells #[.int .i64 t467, .string t468, .slice Ao82 t469.length co82] 33 (0, 0))) ∧ (w'.heap[gb485]? = some (.cells #[.string t478, .int .i64 t479, .string t480, .slice Ao93 t481.length co93] 42 (0, 0))) ∧ (w'.heap[s_.2.2.2]? = some (.cells #[.string (⟨#[]⟩ : ByteArray), .int .i64 0, .string (⟨#[]⟩ : ByteArray), .slice none 0 0] 42 (0, 0))) ∧ (w.heap.size ≤ s_.2.2.2) ∧ (w.heap.size ≤ s_.2.2.2) ∧ (gb445 ≠ s_.2.2.2) ∧ (s_.2.2.2 ≠ gb445) ∧ (gb446 ≠ s_.2.2.2) ∧ (s_.2.2.2 ≠ gb446) ∧ (gb466 ≠ s_.2.2.2) ∧ (s_.2.2.2 ≠ gb466) ∧ (gb472 ≠ s_.2.2.2) ∧ (s_.2.2.2 ≠ gb472) ∧ (gb485 ≠ s_.2.2.2) ∧ (s_.2.2.2 ≠ gb485) ∧ (Below w.heap.size w w')) ?_ ?_
  rotate_left
  ·
   intro hJ1_3_6_7_11
   refine join_ (σ := Value × Value × Value) 3 #[true, true, true, true, true, true, true, true, true, true, true, false, false, false] (fun s_ => [(106, .agg #[.int .i64 t505, .int .i64 t506]), (108, .agg #[.int .i64 t507, .string t508, s_.1]), (111, s_.2.1), (112, .tuple #[.agg #[.string t515, .int .i64 t516, .string t517, s_.2.2], .bool t521]), (104, .tuple #[.agg #[.string t515, .int .i64 t516, .string t517, s_.2.2], .bool t521]), (113, .agg #[.string t515, .int .i64 t516, .string t517, s_.2.2]), (114, .bool t521)]) (fun s_ w' => (w'.cell? ⟨gb445, 0, none⟩ = some (.int .i64 a0_0) ∧ w'.cell? ⟨gb445, 1, none⟩ = some (.int .i64 a0_1) ∧ w'.cell? ⟨gb446, 0, none⟩ = some (.int .i64 a1_0) ∧ w'.cell? ⟨gb446, 1, none⟩ = some (.string a1_1) ∧ w'.cell? ⟨gb446, 2, none⟩ = some (.slice A1_2 l1_2.length c1_2)) ∧ (Kd.R (Kd.int .i64) 3 w' w.heap.size (fun k_ => some k_ ≠ (.slice Ao93 t481.length co93 : Value).ownBlock ∧ some k_ ≠ (s_.1 : Value).ownBlock ∧ some k_ ≠ (s_.2.2 : Value).ownBlock) (.slice Ao72 t462.length co72) t462) ∧ (Kd.R (Kd.int .i64) 3 w' w.heap.size (fun k_ => some k_ ≠ (.slice Ao72 t462.length co72 : Value).ownBlock ∧ some k_ ≠ (s_.1 : Value).ownBlock ∧ some k_ ≠ (s_.2.2 : Value).ownBlock) (.slice Ao93 t481.length co93) t503) ∧ (Kd.R (Kd.int .i64) 3 w' w.heap.size (fun k_ => some k_ ≠ (.slice Ao72 t462.length co72 : Value).ownBlock ∧ some k_ ≠ (.slice Ao93 t481.length co93 : Value).ownBlock ∧ some k_ ≠ (s_.2.2 : Value).ownBlock) s_.1 t509) ∧ (Kd.R k99 99 w' w.heap.size (fun _ => True) s_.2.1 t512) ∧ (Kd.R (Kd.int .i64) 3 w' w.heap.size (fun k_ => some k_ ≠ (.slice Ao72 t462.length co72 : Value).ownBlock ∧ some k_ ≠ (.slice Ao93 t481.length co93 : Value).ownBlock ∧ some k_ ≠ (s_.1 : Value).ownBlock) s_.2.2 t518) ∧ (w'.heap[gb445]? = some (.cells #[.int .i64 a0_0, .int .i64 a0_1] 23 (0, 0))) ∧ (w'.heap[gb446]? = some (.cells #[.int .i64 a1_0, .string a1_1, .slice A1_2 l1_2.length c1_2] 26 (0, 0))) ∧ (w'.heap[gb466]? = some (.cells #[.string t459, .int .i64 t460, .string t461, .slice Ao72 t462.length co72] 42 (0, 0))) ∧ (w'.heap[gb472]? = some (.cells #[.int .i64 t467, .string t468, .slice Ao82 t469.length co82] 33 (0, 0))) ∧ (w'.heap[gb485]? = some (.cells #[.string t478, .int .i64 t479, .string t480, .slice Ao93 t481.length co93] 42 (0, 0))) ∧ (Below w.heap.size w w')) ?_ ?_
   rotate_left
   ·
    intro hJ1_3_6_7
    refine join_ (σ := Value × Value × Nat) 6 #[true, true, true, true, true, true, true, false, false, false, false, true, false, false] (fun s_ => [(106, .agg #[.int .i64 t505, .int .i64 t506]), (108, .agg #[.int .i64 t507, .string t508, s_.1]), (111, s_.2.1), (19, .pointer (some ⟨s_.2.2, 0, none⟩))]) (fun s_ w' => (w'.cell? ⟨gb445, 0, none⟩ = some (.int .i64 a0_0) ∧ w'.cell? ⟨gb445, 1, none⟩ = some (.int .i64 a0_1) ∧ w'.cell? ⟨gb446, 0, none⟩ = some (.int .i64 a1_0) ∧ w'.cell? ⟨gb446, 1, none⟩ = some (.string a1_1) ∧ w'.cell? ⟨gb446, 2, none⟩ = some (.slice A1_2 l1_2.length c1_2)) ∧ (Kd.R (Kd.int .i64) 3 w' w.heap.size (fun k_ => some k_ ≠ (.slice Ao93 t481.length co93 : Value).ownBlock ∧ some k_ ≠ (s_.1 : Value).ownBlock) (.slice Ao72 t462.length co72) t462) ∧ (Kd.R (Kd.int .i64) 3 w' w.heap.size (fun k_ => some k_ ≠ (.slice Ao72 t462.length co72 : Value).ownBlock ∧ some k_ ≠ (s_.1 : Value).ownBlock) (.slice Ao93 t481.length co93) t503) ∧ (Kd.R (Kd.int .i64) 3 w' w.heap.size (fun k_ => some k_ ≠ (.slice Ao72 t462.length co72 : Value).ownBlock ∧ some k_ ≠ (.slice Ao93 t481.length co93 : Value).ownBlock) s_.1 t509) ∧ (Kd.R k99 99 w' w.heap.size (fun _ => True) s_.2.1 t512) ∧ (w'.heap[gb445]? = some (.cells #[.int .i64 a0_0, .int .i64 a0_1] 23 (0, 0))) ∧ (w'.heap[gb446]? = some (.cells #[.int .i64 a1_0, .string a1_1, .slice A1_2 l1_2.length c1_2] 26 (0, 0))) ∧ (w'.heap[gb466]? = some (.cells #[.string t459, .int .i64 t460, .string t461, .slice Ao72 t462.length co72] 42 (0, 0))) ∧ (w'.heap[gb472]? = some (.cells #[.int .i64 t467, .string t468, .slice Ao82 t469.length co82] 33 (0, 0))) ∧ (w'.heap[gb485]? = some (.cells #[.string t478, .int .i64 t479, .string t480, .slice Ao93 t481.length co93] 42 (0, 0))) ∧ (w'.heap[s_.2.2]? = some (.cells #[.string (⟨#[]⟩ : ByteArray), .int .i64 0, .string (⟨#[]⟩ : ByteArray), .slice none 0 0] 42 (0, 0))) ∧ (w.heap.size ≤ s_.2.2) ∧ (w.heap.size ≤ s_.2.2) ∧ (gb445 ≠ s_.2.2) ∧ (s_.2.2 ≠ gb445) ∧ (gb446 ≠ s_.2.2) ∧ (s_.2.2 ≠ gb446) ∧ (gb466 ≠ s_.2.2) ∧ (s_.2.2 ≠ gb466) ∧ (gb472 ≠ s_.2.2) ∧ (s_.2.2 ≠ gb472) ∧ (gb485 ≠ s_.2.2) ∧ (s_.2.2 ≠ gb485) ∧ (Below w.heap.size w w')) ?_ ?_
    rotate_left
    ·
     intro hJ1_3_6_11
     refine join_ (σ := Value × Value) 7 #[true, true, true, true, true, true, true, false, false, false, false, false, false, false] (fun s_ => [(106, .agg #[.int .i64 t505, .int .i64 t506]), (108, .agg #[.int .i64 t507, .string t508, s_.1]), (111, s_.2)]) (fun s_ w' => (w'.cell? ⟨gb445, 0, none⟩ = some (.int .i64 a0_0) ∧ w'.cell? ⟨gb445, 1, none⟩ = some (.int .i64 a0_1) ∧ w'.cell? ⟨gb446, 0, none⟩ = some (.int .i64 a1_0) ∧ w'.cell? ⟨gb446, 1, none⟩ = some (.string a1_1) ∧ w'.cell? ⟨gb446, 2, none⟩ = some (.slice A1_2 l1_2.length c1_2)) ∧ (Kd.R (Kd.int .i64) 3 w' w.heap.size (fun k_ => some k_ ≠ (.slice Ao93 t481.length co93 : Value).ownBlock ∧ some k_ ≠ (s_.1 : Value).ownBlock) (.slice Ao72 t462.length co72) t462) ∧ (Kd.R (Kd.int .i64) 3 w' w.heap.size (fun k_ => some k_ ≠ (.slice Ao72 t462.length co72 : Value).ownBlock ∧ some k_ ≠ (s_.1 : Value).ownBlock) (.slice Ao93 t481.length co93) t503) ∧ (Kd.R (Kd.int .i64) 3 w' w.heap.size (fun k_ => some k_ ≠ (.slice Ao72 t462.length co72 : Value).ownBlock ∧ some k_ ≠ (.slice Ao93 t481.length co93 : Value).ownBlock) s_.1 t509) ∧ (Kd.R k99 99 w' w.heap.size (fun _ => True) s_.2 t512) ∧ (w'.heap[gb445]? = some (.cells #[.int .i64 a0_0, .int .i64 a0_1] 23 (0, 0))) ∧ (w'.heap[gb446]? = some (.cells #[.int .i64 a1_0, .string a1_1, .slice A1_2 l1_2.length c1_2] 26 (0, 0))) ∧ (w'.heap[gb466]? = some (.cells #[.string t459, .int .i64 t460, .string t461, .slice Ao72 t462.length co72] 42 (0, 0))) ∧ (w'.heap[gb472]? = some (.cells #[.int .i64 t467, .string t468, .slice Ao82 t469.length co82] 33 (0, 0))) ∧ (w'.heap[gb485]? = some (.cells #[.string t478, .int .i64 t479, .string t480, .slice Ao93 t481.length co93] 42 (0, 0))) ∧ (Below w.heap.size w w')) ?_ ?_
     rotate_left
     ·
      intro hJ1_3_6
      refine join_ (σ := Value × Nat) 7 #[true, true, true, true, true, true, false, false, false, false, false, true, false, false] (fun s_ => [(106, .agg #[.int .i64 t505, .int .i64 t506]), (108, .agg #[.int .i64 t507, .string t508, s_.1]), (19, .pointer (some ⟨s_.2, 0, none⟩))]) (fun s_ w' => (w'.cell? ⟨gb445, 0, none⟩ = some (.int .i64 a0_0) ∧ w'.cell? ⟨gb445, 1, none⟩ = some (.int .i64 a0_1) ∧ w'.cell? ⟨gb446, 0, none⟩ = some (.int .i64 a1_0) ∧ w'.cell? ⟨gb446, 1, none⟩ = some (.string a1_1) ∧ w'.cell? ⟨gb446, 2, none⟩ = some (.slice A1_2 l1_2.length c1_2)) ∧ (Kd.R (Kd.int .i64) 3 w' w.heap.size (fun k_ => some k_ ≠ (.slice Ao93 t481.length co93 : Value).ownBlock ∧ some k_ ≠ (s_.1 : Value).ownBlock) (.slice Ao72 t462.length co72) t462) ∧ (Kd.R (Kd.int .i64) 3 w' w.heap.size (fun k_ => some k_ ≠ (.slice Ao72 t462.length co72 : Value).ownBlock ∧ some k_ ≠ (s_.1 : Value).ownBlock) (.slice Ao93 t481.length co93) t503) ∧ (Kd.R (Kd.int .i64) 3 w' w.heap.size (fun k_ => some k_ ≠ (.slice Ao72 t462.length co72 : Value).ownBlock ∧ some k_ ≠ (.slice Ao93 t481.length co93 : Value).ownBlock) s_.1 t509) ∧ (w'.heap[gb445]? = some (.cells #[.int .i64 a0_0, .int .i64 a0_1] 23 (0, 0))) ∧ (w'.heap[gb446]? = some (.cells #[.int .i64 a1_0, .string a1_1, .slice A1_2 l1_2.length c1_2] 26 (0, 0))) ∧ (w'.heap[gb466]? = some (.cells #[.string t459, .int .i64 t460, .string t461, .slice Ao72 t462.length co72] 42 (0, 0))) ∧ (w'.heap[gb472]? = some (.cells #[.int .i64 t467, .string t468, .slice Ao82 t469.length co82] 33 (0, 0))) ∧ (w'.heap[gb485]? = some (.cells #[.string t478, .int .i64 t479, .string t480, .slice Ao93 t481.length co93] 42 (0, 0))) ∧ (w'.heap[s_.2]? = some (.cells #[.string (⟨#[]⟩ : ByteArray), .int .i64 0, .string (⟨#[]⟩ : ByteArray), .slice none 0 0] 42 (0, 0))) ∧ (w.heap.size ≤ s_.2) ∧ (w.heap.size ≤ s_.2) ∧ (gb445 ≠ s_.2) ∧ (s_.2 ≠ gb445) ∧ (gb446 ≠ s_.2) ∧ (s_.2 ≠ gb446) ∧ (gb466 ≠ s_.2) ∧ (s_.2 ≠ gb466) ∧ (gb472 ≠ s_.2) ∧ (s_.2 ≠ gb472) ∧ (gb485 ≠ s_.2) ∧ (s_.2 ≠ gb485) ∧ (Below w.heap.size w w')) ?_ ?_
      rotate_left
      ·
       intro hJ1_3_11
       refine join_ (σ := Value) 8 #[true, true, true, true, true, true, false, false, false, false, false, false, false, false] (fun s_ => [(106, .agg #[.int .i64 t505, .int .i64 t506]), (108, .agg #[.int .i64 t507, .string t508, s_])]) (fun s_ w' => (w'.cell? ⟨gb445, 0, none⟩ = some (.int .i64 a0_0) ∧ w'.cell? ⟨gb445, 1, none⟩ = some (.int .i64 a0_1) ∧ w'.cell? ⟨gb446, 0, none⟩ = some (.int .i64 a1_0) ∧ w'.cell? ⟨gb446, 1, none⟩ = some (.string a1_1) ∧ w'.cell? ⟨gb446, 2, none⟩ = some (.slice A1_2 l1_2.length c1_2)) ∧ (Kd.R (Kd.int .i64) 3 w' w.heap.size (fun k_ => some k_ ≠ (.slice Ao93 t481.length co93 : Value).ownBlock ∧ some k_ ≠ (s_ : Value).ownBlock) (.slice Ao72 t462.length co72) t462) ∧ (Kd.R (Kd.int .i64) 3 w' w.heap.size (fun k_ => some k_ ≠ (.slice Ao72 t462.length co72 : Value).ownBlock ∧ some k_ ≠ (s_ : Value).ownBlock) (.slice Ao93 t481.length co93) t503) ∧ (Kd.R (Kd.int .i64) 3 w' w.heap.size (fun k_ => some k_ ≠ (.slice Ao72 t462.length co72 : Value).ownBlock ∧ some k_ ≠ (.slice Ao93 t481.length co93 : Value).ownBlock) s_ t509) ∧ (w'.heap[gb445]? = some (.cells #[.int .i64 a0_0, .int .i64 a0_1] 23 (0, 0))) ∧ (w'.heap[gb446]? = some (.cells #[.int .i64 a1_0, .string a1_1, .slice A1_2 l1_2.length c1_2] 26 (0, 0))) ∧ (w'.heap[gb466]? = some (.cells #[.string t459, .int .i64 t460, .string t461, .slice Ao72 t462.length co72] 42 (0, 0))) ∧ (w'.heap[gb472]? = some (.cells #[.int .i64 t467, .string t468, .slice Ao82 t469.length co82] 33 (0, 0))) ∧ (w'.heap[gb485]? = some (.cells #[.string t478, .int .i64 t479, .string t480, .slice Ao93 t481.length co93] 42 (0, 0))) ∧ (Below w.heap.size w w')) ?_ ?_
       rotate_left
       ·
        intro hJ1_3
        refine join_ (σ := Nat) 8 #[true, true, true, false, true, true, false, false, false, false, false, true, false, false] (fun s_ => [(106, .agg #[.int .i64 t505, .int .i64 t506]), (19, .pointer (some ⟨s_, 0, none⟩))]) (fun s_ w' => (w'.cell? ⟨gb445, 0, none⟩ = some (.int .i64 a0_0) ∧ w'.cell? ⟨gb445, 1, none⟩ = some (.int .i64 a0_1) ∧ w'.cell? ⟨gb446, 0, none⟩ = some (.int .i64 a1_0) ∧ w'.cell? ⟨gb446, 1, none⟩ = some (.string a1_1) ∧ w'.cell? ⟨gb446, 2, none⟩ = some (.slice A1_2 l1_2.length c1_2)) ∧ (Kd.R (Kd.int .i64) 3 w' w.heap.size (fun k_ => some k_ ≠ (.slice Ao93 t481.length co93 : Value).ownBlock) (.slice Ao72 t462.length co72) t462) ∧ (Kd.R (Kd.int .i64) 3 w' w.heap.size (fun k_ => some k_ ≠ (.slice Ao72 t462.length co72 : Value).ownBlock) (.slice Ao93 t481.length co93) t503) ∧ (w'.heap[gb445]? = some (.cells #[.int .i64 a0_0, .int .i64 a0_1] 23 (0, 0))) ∧ (w'.heap[gb446]? = some (.cells #[.int .i64 a1_0, .string a1_1, .slice A1_2 l1_2.length c1_2] 26 (0, 0))) ∧ (w'.heap[gb466]? = some (.cells #[.string t459, .int .i64 t460, .string t461, .slice Ao72 t462.length co72] 42 (0, 0))) ∧ (w'.heap[gb472]? = some (.cells #[.int .i64 t467, .string t468, .slice Ao82 t469.length co82] 33 (0, 0))) ∧ (w'.heap[gb485]? = some (.cells #[.string t478, .int .i64 t479, .string t480, .slice Ao93 t481.length co93] 42 (0, 0))) ∧ (w'.heap[s_]? = some (.cells #[.string (⟨#[]⟩ : ByteArray), .int .i64 0, .string (⟨#[]⟩ : ByteArray), .slice none 0 0] 42 (0, 0))) ∧ (w.heap.size ≤ s_) ∧ (w.heap.size ≤ s_) ∧ (gb445 ≠ s_) ∧ (s_ ≠ gb445) ∧ (gb446 ≠ s_) ∧ (s_ ≠ gb446) ∧ (gb466 ≠ s_) ∧ (s_ ≠ gb466) ∧ (gb472 ≠ s_) ∧ (s_ ≠ gb472) ∧ (gb485 ≠ s_) ∧ (s_ ≠ gb485) ∧ (Below w.heap.size w w')) ?_ ?_
        rotate_left
        ·
         intro hJ1_11
         refine join_ (σ := Unit) 9 #[true, true, true, false, true, true, false, false, false, false, false, false, false, false] (fun s_ => [(106, .agg #[.int .i64 t505, .int .i64 t506])]) (fun s_ w' => (w'.cell? ⟨gb445, 0, none⟩ = some (.int .i64 a0_0) ∧ w'.cell? ⟨gb445, 1, none⟩ = some (.int .i64 a0_1) ∧ w'.cell? ⟨gb446, 0, none⟩ = some (.int .i64 a1_0) ∧ w'.cell? ⟨gb446, 1, none⟩ = some (.string a1_1) ∧ w'.cell? ⟨gb446, 2, none⟩ = some (.slice A1_2 l1_2.length c1_2)) ∧ (Kd.R (Kd.int .i64) 3 w' w.heap.size (fun k_ => some k_ ≠ (.slice Ao93 t481.length co93 : Value).ownBlock) (.slice Ao72 t462.length co72) t462) ∧ (Kd.R (Kd.int .i64) 3 w' w.heap.size (fun k_ => some k_ ≠ (.slice Ao72 t462.length co72 : Value).ownBlock) (.slice Ao93 t481.length co93) t503) ∧ (w'.heap[gb445]? = some (.cells #[.int .i64 a0_0, .int .i64 a0_1] 23 (0, 0))) ∧ (w'.heap[gb446]? = some (.cells #[.int .i64 a1_0, .string a1_1, .slice A1_2 l1_2.length c1_2] 26 (0, 0))) ∧ (w'.heap[gb466]? = some (.cells #[.string t459, .int .i64 t460, .string t461, .slice Ao72 t462.length co72] 42 (0, 0))) ∧ (w'.heap[gb472]? = some (.cells #[.int .i64 t467, .string t468, .slice Ao82 t469.length co82] 33 (0, 0))) ∧ (w'.heap[gb485]? = some (.cells #[.string t478, .int .i64 t479, .string t480, .slice Ao93 t481.length co93] 42 (0, 0))) ∧ (Below w.heap.size w w')) ?_ ?_
         rotate_left
         ·
          intro hJ1
          refine join_ (σ := Nat) 9 #[true, false, true, false, true, true, false, false, false, false, false, true, false, false] (fun s_ => [(19, .pointer (some ⟨s_, 0, none⟩))]) (fun s_ w' => (w'.cell? ⟨gb445, 0, none⟩ = some (.int .i64 a0_0) ∧ w'.cell? ⟨gb445, 1, none⟩ = some (.int .i64 a0_1) ∧ w'.cell? ⟨gb446, 0, none⟩ = some (.int .i64 a1_0) ∧ w'.cell? ⟨gb446, 1, none⟩ = some (.string a1_1) ∧ w'.cell? ⟨gb446, 2, none⟩ = some (.slice A1_2 l1_2.length c1_2)) ∧ (Kd.R (Kd.int .i64) 3 w' w.heap.size (fun k_ => some k_ ≠ (.slice Ao93 t481.length co93 : Value).ownBlock) (.slice Ao72 t462.length co72) t462) ∧ (Kd.R (Kd.int .i64) 3 w' w.heap.size (fun k_ => some k_ ≠ (.slice Ao72 t462.length co72 : Value).ownBlock) (.slice Ao93 t481.length co93) t503) ∧ (w'.heap[gb445]? = some (.cells #[.int .i64 a0_0, .int .i64 a0_1] 23 (0, 0))) ∧ (w'.heap[gb446]? = some (.cells #[.int .i64 a1_0, .string a1_1, .slice A1_2 l1_2.length c1_2] 26 (0, 0))) ∧ (w'.heap[gb466]? = some (.cells #[.string t459, .int .i64 t460, .string t461, .slice Ao72 t462.length co72] 42 (0, 0))) ∧ (w'.heap[gb472]? = some (.cells #[.int .i64 t467, .string t468, .slice Ao82 t469.length co82] 33 (0, 0))) ∧ (w'.heap[gb485]? = some (.cells #[.string t478, .int .i64 t479, .string t480, .slice Ao93 t481.length co93] 42 (0, 0))) ∧ (w'.heap[s_]? = some (.cells #[.string (⟨#[]⟩ : ByteArray), .int .i64 0, .string (⟨#[]⟩ : ByteArray), .slice none 0 0] 42 (0, 0))) ∧ (w.heap.size ≤ s_) ∧ (w.heap.size ≤ s_) ∧ (gb445 ≠ s_) ∧ (s_ ≠ gb445) ∧ (gb446 ≠ s_) ∧ (s_ ≠ gb446) ∧ (gb466 ≠ s_) ∧ (s_ ≠ gb466) ∧ (gb472 ≠ s_) ∧ (s_ ≠ gb472) ∧ (gb485 ≠ s_) ∧ (s_ ≠ gb485) ∧ (Below w.heap.size w w')) ?_ ?_
          rotate_left
          ·
           intro hJ11
           refine two_ (i := 1) (j := 11) (Ni := some 106) (Nj := some 19) #[true, true, true, false, true, true, false, false, false, false, false, false, false, false] #[true, false, true, false, true, true, false, false, false, false, false, true, false, false] rfl rfl rfl rfl (two_of HT_.out (by kernel_rfl)) (by decide) (by decide) (fun K hK => ?_) (fun K hK => ?_)
           ·
            skip
            refine gA Tryz.func14 #[.agg #[.int .i64 a0_0, .int .i64 a0_1]] ?_
            with_reducible refine (laws_toConf.calls a0_0 a0_1 t505 t506 _ A45.out).mono ?_
            rintro e w121 ⟨rfl, hb⟩
            refine ⟨_, rfl, ?_⟩
            replace HO464 := rb HO464 hb; replace HO483 := rb HO483 hb; replace BK445 := bk BK445 hb; replace BK446 := bk BK446 hb; replace BK466 := bk BK466 hb; replace BK472 := bk BK472 hb; replace BK485 := bk BK485 hb; replace HB := bs HB hb
            (try clear hb)
            (try clear hb2)
            (try clear hk)
            (try clear hi)
            refine hK.out _ _ ⟨bc0 BK445.out, bc1 BK445.out, bc0 BK446.out, bc1 BK446.out, bc2 BK446.out⟩ (fun hHeld => ?_)
            clear hK K
            refine nA (some 106) ?_
            exact norm_ y0_0 (hJ1 () _ ⟨hHeld, (rI HO464.out), (rI HO483.out), (kI BK445.out), (kI BK446.out), (kI BK466.out), (kI BK472.out), (kI BK485.out), (bI HB.out)⟩)
           skip
           refine box_step ?hg (N := 19) ?hd (cs := #[.string (⟨#[]⟩ : ByteArray), .int .i64 0, .string (⟨#[]⟩ : ByteArray), .slice none 0 0]) (t := 42) ?hr ?_; (case hd => rfl); (case hg => rfl); (case hr => first | (go_simp; done) | (go_simp; rfl))
           intro gb522 hg w121 hbox hb
           replace HO464 := rb HO464 hb; replace HO483 := rb HO483 hb; have BK522 := Aside0.mk (hbox); have GW522 := bg hg HB; have GJ522 := gi GW522; have GE522 := bg hg HB; have GI522 := gi GE522; replace HB := bs HB hb; have NB445_522 := b1 BK445 hg; have NI445_522 := ni NB445_522; have NB522_445 := b2 BK445 hg; have NI522_445 := ni NB522_445; replace BK445 := bk BK445 hb; have NB446_522 := b1 BK446 hg; have NI446_522 := ni NB446_522; have NB522_446 := b2 BK446 hg; have NI522_446 := ni NB522_446; replace BK446 := bk BK446 hb; have NB466_522 := b1 BK466 hg; have NI466_522 := ni NB466_522; have NB522_466 := b2 BK466 hg; have NI522_466 := ni NB522_466; replace BK466 := bk BK466 hb; have NB472_522 := b1 BK472 hg; have NI472_522 := ni NB472_522; have NB522_472 := b2 BK472 hg; have NI522_472 := ni NB522_472; replace BK472 := bk BK472 hb; have NB485_522 := b1 BK485 hg; have NI485_522 := ni NB485_522; have NB522_485 := b2 BK485 hg; have NI522_485 := ni NB522_485; replace BK485 := bk BK485 hb; clear hb hbox hg
           refine hK.out _ _ ⟨bc0 BK445.out, bc1 BK445.out, bc0 BK446.out, bc1 BK446.out, bc2 BK446.out⟩ (fun hHeld => ?_)
           clear hK K
           refine nA (some 19) ?_
           exact norm_ y0_0 (hJ11 (gb522) _ ⟨hHeld, (rI HO464.out), (rI HO483.out), (kI BK445.out), (kI BK446.out), (kI BK466.out), (kI BK472.out), (kI BK485.out), (kI BK522.out), GW522.out, GE522.out, NB445_522.out, NB522_445.out, NB446_522.out, NB522_446.out, NB466_522.out, NB522_466.out, NB472_522.out, NB522_472.out, NB485_522.out, NB522_485.out, (bI HB.out)⟩)
          skip
          rintro gb522 w122 ⟨hS_, h0_, h1_, h2_, h3_, h4_, h5_, h6_, h7_, h8_, h9_, h10_, h11_, h12_, h13_, h14_, h15_, h16_, h17_, h18_, h19_, h20_⟩
          try dsimp only at h0_ h1_ h2_ h3_ h4_ h5_ h6_ h7_ h8_ h9_ h10_ h11_ h12_ h13_ h14_ h15_ h16_ h17_ h18_ h19_ h20_
          have n0_ := Aside0.mk h0_; have n1_ := Aside0.mk h1_; have n2_ := Aside0.mk h2_; have n3_ := Aside0.mk h3_; have n4_ := Aside0.mk h4_; have n5_ := Aside0.mk h5_; have n6_ := Aside0.mk h6_; have n7_ := Aside0.mk h7_; have n8_ := Aside0.mk h8_; have n9_ := Aside0.mk h9_; have n10_ := Aside0.mk h10_; have n11_ := Aside0.mk h11_; have n12_ := Aside0.mk h12_; have n13_ := Aside0.mk h13_; have n14_ := Aside0.mk h14_; have n15_ := Aside0.mk h15_; have n16_ := Aside0.mk h16_; have n17_ := Aside0.mk h17_; have n18_ := Aside0.mk h18_; have n19_ := Aside0.mk h19_; have n20_ := Aside0.mk h20_; clear HO464; clear HO483; clear BK445; clear BK446; clear BK466; clear BK472; clear BK485; clear HB; clear h0_ h1_ h2_ h3_ h4_ h5_ h6_ h7_ h8_ h9_ h10_ h11_ h12_ h13_ h14_ h15_ h16_ h17_ h18_ h19_ h20_; have HO464 := n0_; have HO483 := n1_; have BK445 := n2_; have BK446 := n3_; have BK466 := n4_; have BK472 := n5_; have BK485 := n6_; have BK522 := n7_; have GW522 := n8_; have GJ522 := gi GW522; have GE522 := n9_; have GI522 := gi GE522; have NB445_522 := n10_; have NI445_522 := ni NB445_522; have NB522_445 := n11_; have NI522_445 := ni NB522_445; have NB446_522 := n12_; have NI446_522 := ni NB446_522; have NB522_446 := n13_; have NI522_446 := ni NB522_446; have NB466_522 := n14_; have NI466_522 := ni NB466_522; have NB522_466 := n15_; have NI522_466 := ni NB522_466; have NB472_522 := n16_; have NI472_522 := ni NB472_522; have NB522_472 := n17_; have NI522_472 := ni NB522_472; have NB485_522 := n18_
          have NI485_522 := ni NB485_522; have NB522_485 := n19_; have NI522_485 := ni NB522_485; have HB := n20_; clear n0_ n1_ n2_ n3_ n4_ n5_ n6_ n7_ n8_ n9_ n10_ n11_ n12_ n13_ n14_ n15_ n16_ n17_ n18_ n19_ n20_; have hHeld : w122.cell? ⟨gb445, 0, none⟩ = some (.int .i64 a0_0) ∧ w122.cell? ⟨gb445, 1, none⟩ = some (.int .i64 a0_1) ∧ w122.cell? ⟨gb446, 0, none⟩ = some (.int .i64 a1_0) ∧ w122.cell? ⟨gb446, 1, none⟩ = some (.string a1_1) ∧ w122.cell? ⟨gb446, 2, none⟩ = some (.slice A1_2 l1_2.length c1_2) := hS_
          refine norm_ (a' := ?_) ?_ ?_
          rotate_left
          ·
           simp only [putAll, Act.put, List.setIfInBounds_toArray, List.set_cons_zero, List.set_cons_succ]
           rfl
          refine oA 1 (some 106) (bz 14 2103) HT_ (fun K hK => ?_)
          refine gA Tryz.func14 #[.agg #[.int .i64 a0_0, .int .i64 a0_1]] ?_
          with_reducible refine (laws_toConf.calls a0_0 a0_1 t505 t506 _ A45.out).mono ?_
          rintro e w123 ⟨rfl, hb⟩
          refine ⟨_, rfl, ?_⟩
          replace HO464 := rb HO464 hb; replace HO483 := rb HO483 hb; replace BK445 := bk BK445 hb; replace BK446 := bk BK446 hb; replace BK466 := bk BK466 hb; replace BK472 := bk BK472 hb; replace BK485 := bk BK485 hb; replace BK522 := bk BK522 hb; replace HB := bs HB hb
          (try clear hb)
          (try clear hb2)
          (try clear hk)
          (try clear hi)
          refine hK.out _ _ ⟨bc0 BK445.out, bc1 BK445.out, bc0 BK446.out, bc1 BK446.out, bc2 BK446.out⟩ (fun hHeld => ?_)
          clear hK K
          refine nA (some 106) ?_
          exact norm_ y0_0 (hJ1_11 (gb522) _ ⟨hHeld, (rI HO464.out), (rI HO483.out), (kI BK445.out), (kI BK446.out), (kI BK466.out), (kI BK472.out), (kI BK485.out), (kI BK522.out), GW522.out, GE522.out, NB445_522.out, NB522_445.out, NB446_522.out, NB522_446.out, NB466_522.out, NB522_466.out, NB472_522.out, NB522_472.out, NB485_522.out, NB522_485.out, (bI HB.out)⟩)
         skip
         rintro _ w122 ⟨hS_, h0_, h1_, h2_, h3_, h4_, h5_, h6_, h7_⟩
         try dsimp only at h0_ h1_ h2_ h3_ h4_ h5_ h6_ h7_
         have n0_ := Aside0.mk h0_; have n1_ := Aside0.mk h1_; have n2_ := Aside0.mk h2_; have n3_ := Aside0.mk h3_; have n4_ := Aside0.mk h4_; have n5_ := Aside0.mk h5_; have n6_ := Aside0.mk h6_; have n7_ := Aside0.mk h7_; clear HO464; clear HO483; clear BK445; clear BK446; clear BK466; clear BK472; clear BK485; clear HB; clear h0_ h1_ h2_ h3_ h4_ h5_ h6_ h7_; have HO464 := n0_; have HO483 := n1_; have BK445 := n2_; have BK446 := n3_; have BK466 := n4_; have BK472 := n5_; have BK485 := n6_; have HB := n7_; clear n0_ n1_ n2_ n3_ n4_ n5_ n6_ n7_; have hHeld : w122.cell? ⟨gb445, 0, none⟩ = some (.int .i64 a0_0) ∧ w122.cell? ⟨gb445, 1, none⟩ = some (.int .i64 a0_1) ∧ w122.cell? ⟨gb446, 0, none⟩ = some (.int .i64 a1_0) ∧ w122.cell? ⟨gb446, 1, none⟩ = some (.string a1_1) ∧ w122.cell? ⟨gb446, 2, none⟩ = some (.slice A1_2 l1_2.length c1_2) := hS_
         refine norm_ (a' := ?_) ?_ ?_
         rotate_left
         ·
          simp only [putAll, Act.put, List.setIfInBounds_toArray, List.set_cons_zero, List.set_cons_succ]
          rfl
         refine two_ (i := 3) (j := 11) (Ni := some 108) (Nj := some 19) #[true, true, true, true, true, true, false, false, false, false, false, false, false, false] #[true, true, true, false, true, true, false, false, false, false, false, true, false, false] rfl rfl rfl rfl (two_of HT_.out (by kernel_rfl)) (by decide) (by decide) (fun K hK => ?_) (fun K hK => ?_)
         ·
          skip
          refine gA Tryz.func25 #[.agg #[.int .i64 a1_0, .string a1_1, .slice A1_2 l1_2.length c1_2]] ?_
          with_reducible refine (laws_toQc.calls k a1_0 a1_1 _ _ l1_2 t507 t508 t509 _ ?side1 ?side2 A46.out).mono ?_
          (case side1 => exact ch HR1_2 HB)
          (case side2 => exact HC1_2.out)
          rintro e w123 ⟨v510, rfl, ho0, hb⟩
          refine ⟨_, rfl, ?_⟩
          have HO511 := Aside0.mk (Kd.R_lower (Kd.R_new' (Kd.R_new' ho0 (Kd.R_lt (rI HO464.out))) (Kd.R_lt (rI HO483.out))) (below_size (bI HB.out))); replace HO464 := Aside0.mk (Kd.R_elder' (rI HO464.out) (Kd.R_base ho0) hb); replace HO483 := Aside0.mk (Kd.R_elder' (rI HO483.out) (Kd.R_base ho0) hb); replace BK445 := bk BK445 hb; replace BK446 := bk BK446 hb; replace BK466 := bk BK466 hb; replace BK472 := bk BK472 hb; replace BK485 := bk BK485 hb; replace HB := bs HB hb
          (try clear hb)
          (try clear hb2)
          (try clear hk)
          (try clear hi)
          (try clear ho0)
          refine hK.out _ _ ⟨bc0 BK445.out, bc1 BK445.out, bc0 BK446.out, bc1 BK446.out, bc2 BK446.out⟩ (fun hHeld => ?_)
          clear hK K
          refine nA (some 108) ?_
          exact norm_ y0_0 (hJ1_3 (_) _ ⟨hHeld, (rI HO464.out), (rI HO483.out), (rI (Kd.R_mono HO511.out (fun _ hk => ⟨hk.1.2, hk.2⟩))), (kI BK445.out), (kI BK446.out), (kI BK466.out), (kI BK472.out), (kI BK485.out), (bI HB.out)⟩)
         skip
         refine box_step ?hg (N := 19) ?hd (cs := #[.string (⟨#[]⟩ : ByteArray), .int .i64 0, .string (⟨#[]⟩ : ByteArray), .slice none 0 0]) (t := 42) ?hr ?_; (case hd => rfl); (case hg => rfl); (case hr => first | (go_simp; done) | (go_simp; rfl))
         intro gb522 hg w123 hbox hb
         replace HO464 := rb HO464 hb; replace HO483 := rb HO483 hb; have BK522 := Aside0.mk (hbox); have GW522 := bg hg HB; have GJ522 := gi GW522; have GE522 := bg hg HB; have GI522 := gi GE522; replace HB := bs HB hb; have NB445_522 := b1 BK445 hg; have NI445_522 := ni NB445_522; have NB522_445 := b2 BK445 hg; have NI522_445 := ni NB522_445; replace BK445 := bk BK445 hb; have NB446_522 := b1 BK446 hg; have NI446_522 := ni NB446_522; have NB522_446 := b2 BK446 hg; have NI522_446 := ni NB522_446; replace BK446 := bk BK446 hb; have NB466_522 := b1 BK466 hg; have NI466_522 := ni NB466_522; have NB522_466 := b2 BK466 hg; have NI522_466 := ni NB522_466; replace BK466 := bk BK466 hb; have NB472_522 := b1 BK472 hg; have NI472_522 := ni NB472_522; have NB522_472 := b2 BK472 hg; have NI522_472 := ni NB522_472; replace BK472 := bk BK472 hb; have NB485_522 := b1 BK485 hg; have NI485_522 := ni NB485_522; have NB522_485 := b2 BK485 hg; have NI522_485 := ni NB522_485; replace BK485 := bk BK485 hb; clear hb hbox hg
         refine hK.out _ _ ⟨bc0 BK445.out, bc1 BK445.out, bc0 BK446.out, bc1 BK446.out, bc2 BK446.out⟩ (fun hHeld => ?_)
         clear hK K
         refine nA (some 19) ?_
         exact norm_ y0_0 (hJ1_11 (gb522) _ ⟨hHeld, (rI HO464.out), (rI HO483.out), (kI BK445.out), (kI BK446.out), (kI BK466.out), (kI BK472.out), (kI BK485.out), (kI BK522.out), GW522.out, GE522.out, NB445_522.out, NB522_445.out, NB446_522.out, NB522_446.out, NB466_522.out, NB522_466.out, NB472_522.out, NB522_472.out, NB485_522.out, NB522_485.out, (bI HB.out)⟩)
        skip
        rintro gb522 w123 ⟨hS_, h0_, h1_, h2_, h3_, h4_, h5_, h6_, h7_, h8_, h9_, h10_, h11_, h12_, h13_, h14_, h15_, h16_, h17_, h18_, h19_, h20_⟩
        try dsimp only at h0_ h1_ h2_ h3_ h4_ h5_ h6_ h7_ h8_ h9_ h10_ h11_ h12_ h13_ h14_ h15_ h16_ h17_ h18_ h19_ h20_
        have n0_ := Aside0.mk h0_; have n1_ := Aside0.mk h1_; have n2_ := Aside0.mk h2_; have n3_ := Aside0.mk h3_; have n4_ := Aside0.mk h4_; have n5_ := Aside0.mk h5_; have n6_ := Aside0.mk h6_; have n7_ := Aside0.mk h7_; have n8_ := Aside0.mk h8_; have n9_ := Aside0.mk h9_; have n10_ := Aside0.mk h10_; have n11_ := Aside0.mk h11_; have n12_ := Aside0.mk h12_; have n13_ := Aside0.mk h13_; have n14_ := Aside0.mk h14_; have n15_ := Aside0.mk h15_; have n16_ := Aside0.mk h16_; have n17_ := Aside0.mk h17_; have n18_ := Aside0.mk h18_; have n19_ := Aside0.mk h19_; have n20_ := Aside0.mk h20_; clear HO464; clear HO483; clear BK445; clear BK446; clear BK466; clear BK472; clear BK485; clear HB; clear h0_ h1_ h2_ h3_ h4_ h5_ h6_ h7_ h8_ h9_ h10_ h11_ h12_ h13_ h14_ h15_ h16_ h17_ h18_ h19_ h20_; have HO464 := n0_; have HO483 := n1_; have BK445 := n2_; have BK446 := n3_; have BK466 := n4_; have BK472 := n5_; have BK485 := n6_; have BK522 := n7_; have GW522 := n8_; have GJ522 := gi GW522; have GE522 := n9_; have GI522 := gi GE522; have NB445_522 := n10_; have NI445_522 := ni NB445_522; have NB522_445 := n11_; have NI522_445 := ni NB522_445; have NB446_522 := n12_; have NI446_522 := ni NB446_522; have NB522_446 := n13_; have NI522_446 := ni NB522_446; have NB466_522 := n14_; have NI466_522 := ni NB466_522; have NB522_466 := n15_; have NI522_466 := ni NB522_466; have NB472_522 := n16_; have NI472_522 := ni NB472_522; have NB522_472 := n17_; have NI522_472 := ni NB522_472; have NB485_522 := n18_
        have NI485_522 := ni NB485_522; have NB522_485 := n19_; have NI522_485 := ni NB522_485; have HB := n20_; clear n0_ n1_ n2_ n3_ n4_ n5_ n6_ n7_ n8_ n9_ n10_ n11_ n12_ n13_ n14_ n15_ n16_ n17_ n18_ n19_ n20_; have hHeld : w123.cell? ⟨gb445, 0, none⟩ = some (.int .i64 a0_0) ∧ w123.cell? ⟨gb445, 1, none⟩ = some (.int .i64 a0_1) ∧ w123.cell? ⟨gb446, 0, none⟩ = some (.int .i64 a1_0) ∧ w123.cell? ⟨gb446, 1, none⟩ = some (.string a1_1) ∧ w123.cell? ⟨gb446, 2, none⟩ = some (.slice A1_2 l1_2.length c1_2) := hS_
        refine norm_ (a' := ?_) ?_ ?_
        rotate_left
        ·
         simp only [putAll, Act.put, List.setIfInBounds_toArray, List.set_cons_zero, List.set_cons_succ]
         rfl
        refine oA 3 (some 108) (bz 14 2111) HT_ (fun K hK => ?_)
        refine gA Tryz.func25 #[.agg #[.int .i64 a1_0, .string a1_1, .slice A1_2 l1_2.length c1_2]] ?_
        with_reducible refine (laws_toQc.calls k a1_0 a1_1 _ _ l1_2 t507 t508 t509 _ ?side1 ?side2 A46.out).mono ?_
        (case side1 => exact ch HR1_2 HB)
        (case side2 => exact HC1_2.out)
        rintro e w124 ⟨v510, rfl, ho0, hb⟩
        refine ⟨_, rfl, ?_⟩
        have HO511 := Aside0.mk (Kd.R_lower (Kd.R_new' (Kd.R_new' ho0 (Kd.R_lt (rI HO464.out))) (Kd.R_lt (rI HO483.out))) (below_size (bI HB.out))); replace HO464 := Aside0.mk (Kd.R_elder' (rI HO464.out) (Kd.R_base ho0) hb); replace HO483 := Aside0.mk (Kd.R_elder' (rI HO483.out) (Kd.R_base ho0) hb); replace BK445 := bk BK445 hb; replace BK446 := bk BK446 hb; replace BK466 := bk BK466 hb; replace BK472 := bk BK472 hb; replace BK485 := bk BK485 hb; replace BK522 := bk BK522 hb; replace HB := bs HB hb
        (try clear hb)
        (try clear hb2)
        (try clear hk)
        (try clear hi)
        (try clear ho0)
        refine hK.out _ _ ⟨bc0 BK445.out, bc1 BK445.out, bc0 BK446.out, bc1 BK446.out, bc2 BK446.out⟩ (fun hHeld => ?_)
        clear hK K
        refine nA (some 108) ?_
        exact norm_ y0_0 (hJ1_3_11 (_, gb522) _ ⟨hHeld, (rI HO464.out), (rI HO483.out), (rI (Kd.R_mono HO511.out (fun _ hk => ⟨hk.1.2, hk.2⟩))), (kI BK445.out), (kI BK446.out), (kI BK466.out), (kI BK472.out), (kI BK485.out), (kI BK522.out), GW522.out, GE522.out, NB445_522.out, NB522_445.out, NB446_522.out, NB522_446.out, NB466_522.out, NB522_466.out, NB472_522.out, NB522_472.out, NB485_522.out, NB522_485.out, (bI HB.out)⟩)
       skip
       rintro v510 w123 ⟨hS_, h0_, h1_, h2_, h3_, h4_, h5_, h6_, h7_, h8_⟩
       try dsimp only at h0_ h1_ h2_ h3_ h4_ h5_ h6_ h7_ h8_
       have n0_ := Aside0.mk h0_; have n1_ := Aside0.mk h1_; have n2_ := Aside0.mk h2_; have n3_ := Aside0.mk h3_; have n4_ := Aside0.mk h4_; have n5_ := Aside0.mk h5_; have n6_ := Aside0.mk h6_; have n7_ := Aside0.mk h7_; have n8_ := Aside0.mk h8_; clear HO464; clear HO483; clear BK445; clear BK446; clear BK466; clear BK472; clear BK485; clear HB; clear h0_ h1_ h2_ h3_ h4_ h5_ h6_ h7_ h8_; have HO464 := n0_; have HO483 := n1_; have HO511 := n2_; have BK445 := n3_; have BK446 := n4_; have BK466 := n5_; have BK472 := n6_; have BK485 := n7_; have HB := n8_; clear n0_ n1_ n2_ n3_ n4_ n5_ n6_ n7_ n8_; have hHeld : w123.cell? ⟨gb445, 0, none⟩ = some (.int .i64 a0_0) ∧ w123.cell? ⟨gb445, 1, none⟩ = some (.int .i64 a0_1) ∧ w123.cell? ⟨gb446, 0, none⟩ = some (.int .i64 a1_0) ∧ w123.cell? ⟨gb446, 1, none⟩ = some (.string a1_1) ∧ w123.cell? ⟨gb446, 2, none⟩ = some (.slice A1_2 l1_2.length c1_2) := hS_
       refine norm_ (a' := ?_) ?_ ?_
       rotate_left
       ·
        simp only [putAll, Act.put, List.setIfInBounds_toArray, List.set_cons_zero, List.set_cons_succ]
        rfl
       refine two_ (i := 6) (j := 11) (Ni := some 111) (Nj := some 19) #[true, true, true, true, true, true, true, false, false, false, false, false, false, false] #[true, true, true, true, true, true, false, false, false, false, false, true, false, false] rfl rfl rfl rfl (two_of HT_.out (by kernel_rfl)) (by decide) (by decide) (fun K hK => ?_) (fun K hK => ?_)
       ·
        skip
        refine gA Tryz.func31 #[.slice A3 l3.length c3] ?_
        with_reducible refine (laws_toTxS.calls k _ _ l3 t512 _ ?side1 ?side2 A47.out).mono ?_
        (case side1 => exact ch HR3 HB)
        (case side2 => exact HC3.out)
        rintro e w124 ⟨v513, rfl, ho0, hb⟩
        refine ⟨_, rfl, ?_⟩
        replace HO464 := rb HO464 hb; replace HO483 := rb HO483 hb; replace HO511 := rb HO511 hb; have HO514 := Aside0.mk (Kd.R_lower ho0 (below_size (bI HB.out))); replace BK445 := bk BK445 hb; replace BK446 := bk BK446 hb; replace BK466 := bk BK466 hb; replace BK472 := bk BK472 hb; replace BK485 := bk BK485 hb; replace HB := bs HB hb
        (try clear hb)
        (try clear hb2)
        (try clear hk)
        (try clear hi)
        (try clear ho0)
        refine hK.out _ _ ⟨bc0 BK445.out, bc1 BK445.out, bc0 BK446.out, bc1 BK446.out, bc2 BK446.out⟩ (fun hHeld => ?_)
        clear hK K
        refine nA (some 111) ?_
        exact norm_ y0_0 (hJ1_3_6 (_, _) _ ⟨hHeld, (rI HO464.out), (rI HO483.out), (rI HO511.out), (rI HO514.out), (kI BK445.out), (kI BK446.out), (kI BK466.out), (kI BK472.out), (kI BK485.out), (bI HB.out)⟩)
       skip
       refine box_step ?hg (N := 19) ?hd (cs := #[.string (⟨#[]⟩ : ByteArray), .int .i64 0, .string (⟨#[]⟩ : ByteArray), .slice none 0 0]) (t := 42) ?hr ?_; (case hd => rfl); (case hg => rfl); (case hr => first | (go_simp; done) | (go_simp; rfl))
       intro gb522 hg w124 hbox hb
       replace HO464 := rb HO464 hb; replace HO483 := rb HO483 hb; replace HO511 := rb HO511 hb; have BK522 := Aside0.mk (hbox); have GW522 := bg hg HB; have GJ522 := gi GW522; have GE522 := bg hg HB; have GI522 := gi GE522; replace HB := bs HB hb; have NB445_522 := b1 BK445 hg; have NI445_522 := ni NB445_522; have NB522_445 := b2 BK445 hg; have NI522_445 := ni NB522_445; replace BK445 := bk BK445 hb; have NB446_522 := b1 BK446 hg; have NI446_522 := ni NB446_522; have NB522_446 := b2 BK446 hg; have NI522_446 := ni NB522_446; replace BK446 := bk BK446 hb; have NB466_522 := b1 BK466 hg; have NI466_522 := ni NB466_522; have NB522_466 := b2 BK466 hg; have NI522_466 := ni NB522_466; replace BK466 := bk BK466 hb; have NB472_522 := b1 BK472 hg; have NI472_522 := ni NB472_522; have NB522_472 := b2 BK472 hg; have NI522_472 := ni NB522_472; replace BK472 := bk BK472 hb; have NB485_522 := b1 BK485 hg; have NI485_522 := ni NB485_522; have NB522_485 := b2 BK485 hg; have NI522_485 := ni NB522_485; replace BK485 := bk BK485 hb; clear hb hbox hg
       refine hK.out _ _ ⟨bc0 BK445.out, bc1 BK445.out, bc0 BK446.out, bc1 BK446.out, bc2 BK446.out⟩ (fun hHeld => ?_)
       clear hK K
       refine nA (some 19) ?_
       exact norm_ y0_0 (hJ1_3_11 (_, gb522) _ ⟨hHeld, (rI HO464.out), (rI HO483.out), (rI HO511.out), (kI BK445.out), (kI BK446.out), (kI BK466.out), (kI BK472.out), (kI BK485.out), (kI BK522.out), GW522.out, GE522.out, NB445_522.out, NB522_445.out, NB446_522.out, NB522_446.out, NB466_522.out, NB522_466.out, NB472_522.out, NB522_472.out, NB485_522.out, NB522_485.out, (bI HB.out)⟩)
      skip
      rintro ⟨v510, gb522⟩ w124 ⟨hS_, h0_, h1_, h2_, h3_, h4_, h5_, h6_, h7_, h8_, h9_, h10_, h11_, h12_, h13_, h14_, h15_, h16_, h17_, h18_, h19_, h20_, h21_⟩
      try dsimp only at h0_ h1_ h2_ h3_ h4_ h5_ h6_ h7_ h8_ h9_ h10_ h11_ h12_ h13_ h14_ h15_ h16_ h17_ h18_ h19_ h20_ h21_
      have n0_ := Aside0.mk h0_; have n1_ := Aside0.mk h1_; have n2_ := Aside0.mk h2_; have n3_ := Aside0.mk h3_; have n4_ := Aside0.mk h4_; have n5_ := Aside0.mk h5_; have n6_ := Aside0.mk h6_; have n7_ := Aside0.mk h7_; have n8_ := Aside0.mk h8_; have n9_ := Aside0.mk h9_; have n10_ := Aside0.mk h10_; have n11_ := Aside0.mk h11_; have n12_ := Aside0.mk h12_; have n13_ := Aside0.mk h13_; have n14_ := Aside0.mk h14_; have n15_ := Aside0.mk h15_; have n16_ := Aside0.mk h16_; have n17_ := Aside0.mk h17_; have n18_ := Aside0.mk h18_; have n19_ := Aside0.mk h19_; have n20_ := Aside0.mk h20_; have n21_ := Aside0.mk h21_; clear HO464; clear HO483; clear BK445; clear BK446; clear BK466; clear BK472; clear BK485; clear HB; clear h0_ h1_ h2_ h3_ h4_ h5_ h6_ h7_ h8_ h9_ h10_ h11_ h12_ h13_ h14_ h15_ h16_ h17_ h18_ h19_ h20_ h21_; have HO464 := n0_; have HO483 := n1_; have HO511 := n2_; have BK445 := n3_; have BK446 := n4_; have BK466 := n5_; have BK472 := n6_; have BK485 := n7_; have BK522 := n8_; have GW522 := n9_; have GJ522 := gi GW522; have GE522 := n10_; have GI522 := gi GE522; have NB445_522 := n11_; have NI445_522 := ni NB445_522; have NB522_445 := n12_; have NI522_445 := ni NB522_445; have NB446_522 := n13_; have NI446_522 := ni NB446_522; have NB522_446 := n14_; have NI522_446 := ni NB522_446; have NB466_522 := n15_; have NI466_522 := ni NB466_522; have NB522_466 := n16_; have NI522_466 := ni NB522_466; have NB472_522 := n17_; have NI472_522 := ni NB472_522; have NB522_472 := n18_
      have NI522_472 := ni NB522_472; have NB485_522 := n19_; have NI485_522 := ni NB485_522; have NB522_485 := n20_; have NI522_485 := ni NB522_485; have HB := n21_; clear n0_ n1_ n2_ n3_ n4_ n5_ n6_ n7_ n8_ n9_ n10_ n11_ n12_ n13_ n14_ n15_ n16_ n17_ n18_ n19_ n20_ n21_; have hHeld : w124.cell? ⟨gb445, 0, none⟩ = some (.int .i64 a0_0) ∧ w124.cell? ⟨gb445, 1, none⟩ = some (.int .i64 a0_1) ∧ w124.cell? ⟨gb446, 0, none⟩ = some (.int .i64 a1_0) ∧ w124.cell? ⟨gb446, 1, none⟩ = some (.string a1_1) ∧ w124.cell? ⟨gb446, 2, none⟩ = some (.slice A1_2 l1_2.length c1_2) := hS_
      refine norm_ (a' := ?_) ?_ ?_
      rotate_left
      ·
       simp only [putAll, Act.put, List.setIfInBounds_toArray, List.set_cons_zero, List.set_cons_succ]
       rfl
      refine oA 6 (some 111) (bz 14 2175) HT_ (fun K hK => ?_)
      refine gA Tryz.func31 #[.slice A3 l3.length c3] ?_
      with_reducible refine (laws_toTxS.calls k _ _ l3 t512 _ ?side1 ?side2 A47.out).mono ?_
      (case side1 => exact ch HR3 HB)
      (case side2 => exact HC3.out)
      rintro e w125 ⟨v513, rfl, ho0, hb⟩
      refine ⟨_, rfl, ?_⟩
      replace HO464 := rb HO464 hb; replace HO483 := rb HO483 hb; replace HO511 := rb HO511 hb; have HO514 := Aside0.mk (Kd.R_lower ho0 (below_size (bI HB.out))); replace BK445 := bk BK445 hb; replace BK446 := bk BK446 hb; replace BK466 := bk BK466 hb; replace BK472 := bk BK472 hb; replace BK485 := bk BK485 hb; replace BK522 := bk BK522 hb; replace HB := bs HB hb
      (try clear hb)
      (try clear hb2)
      (try clear hk)
      (try clear hi)
      (try clear ho0)
      refine hK.out _ _ ⟨bc0 BK445.out, bc1 BK445.out, bc0 BK446.out, bc1 BK446.out, bc2 BK446.out⟩ (fun hHeld => ?_)
      clear hK K
      refine nA (some 111) ?_
      exact norm_ y0_0 (hJ1_3_6_11 (_, _, gb522) _ ⟨hHeld, (rI HO464.out), (rI HO483.out), (rI HO511.out), (rI HO514.out), (kI BK445.out), (kI BK446.out), (kI BK466.out), (kI BK472.out), (kI BK485.out), (kI BK522.out), GW522.out, GE522.out, NB445_522.out, NB522_445.out, NB446_522.out, NB522_446.out, NB466_522.out, NB522_466.out, NB472_522.out, NB522_472.out, NB485_522.out, NB522_485.out, (bI HB.out)⟩)
     skip
     rintro ⟨v510, v513⟩ w124 ⟨hS_, h0_, h1_, h2_, h3_, h4_, h5_, h6_, h7_, h8_, h9_⟩
     try dsimp only at h0_ h1_ h2_ h3_ h4_ h5_ h6_ h7_ h8_ h9_
     have n0_ := Aside0.mk h0_; have n1_ := Aside0.mk h1_; have n2_ := Aside0.mk h2_; have n3_ := Aside0.mk h3_; have n4_ := Aside0.mk h4_; have n5_ := Aside0.mk h5_; have n6_ := Aside0.mk h6_; have n7_ := Aside0.mk h7_; have n8_ := Aside0.mk h8_; have n9_ := Aside0.mk h9_; clear HO464; clear HO483; clear BK445; clear BK446; clear BK466; clear BK472; clear BK485; clear HB; clear h0_ h1_ h2_ h3_ h4_ h5_ h6_ h7_ h8_ h9_; have HO464 := n0_; have HO483 := n1_; have HO511 := n2_; have HO514 := n3_; have BK445 := n4_; have BK446 := n5_; have BK466 := n6_; have BK472 := n7_; have BK485 := n8_; have HB := n9_; clear n0_ n1_ n2_ n3_ n4_ n5_ n6_ n7_ n8_ n9_; have hHeld : w124.cell? ⟨gb445, 0, none⟩ = some (.int .i64 a0_0) ∧ w124.cell? ⟨gb445, 1, none⟩ = some (.int .i64 a0_1) ∧ w124.cell? ⟨gb446, 0, none⟩ = some (.int .i64 a1_0) ∧ w124.cell? ⟨gb446, 1, none⟩ = some (.string a1_1) ∧ w124.cell? ⟨gb446, 2, none⟩ = some (.slice A1_2 l1_2.length c1_2) := hS_; obtain ⟨Ao125, co125, eo125⟩ := Kd.R_slice HO511.out
     (first | subst eo125 | (injection eo125 with f1_ f2_ f3_; have f4_ := f1_.symm; have f5_ := f3_.symm; clear f1_ f2_ f3_; subst f4_; subst f5_))
     obtain ⟨Ao126, co126, eo126⟩ := Kd.R_slice HO514.out
     (first | subst eo126 | (injection eo126 with f1_ f2_ f3_; have f4_ := f1_.symm; have f5_ := f3_.symm; clear f1_ f2_ f3_; subst f4_; subst f5_))
     refine norm_ (a' := ?_) ?_ ?_
     rotate_left
     ·
      simp only [putAll, Act.put, List.setIfInBounds_toArray, List.set_cons_zero, List.set_cons_succ]
      rfl
     refine two_ (i := 7) (j := 11) (Ni := some 112) (Nj := some 19) #[true, true, true, true, true, true, true, true, false, false, false, false, false, false] #[true, true, true, true, true, true, true, false, false, false, false, true, false, false] rfl rfl rfl rfl (two_of HT_.out (by kernel_rfl)) (by decide) (by decide) (fun K hK => ?_) (fun K hK => ?_)
     ·
      skip
      refine gA Tryz.func32 #[.agg #[.int .i64 t505, .int .i64 t506], .agg #[.int .i64 t507, .string t508, .slice Ao125 t509.length co125], .int .i64 a2, .slice Ao126 t512.length co126] ?_
      with_reducible refine (impl_BlockNew.calls k t505 t506 t507 t508 _ _ t509 a2 _ _ t512 t515 t516 t517 t518 t521 _ ?side1 ?side2 ?side3 ?side4 A48.out).mono ?_
      (case side1 => repeat (first | exact (Kd.R_reads' HO511.out).2.2 | (with_reducible refine Kd.C_alloc ?_ _) | (with_reducible refine Kd.C_drewN ?_ _) | (with_reducible refine Kd.C_drew ?_)))
      (case side2 => exact (Kd.R_reads' HO511.out).2.1)
      (case side3 => repeat (first | exact (Kd.R_reads' HO514.out).2.2 | (with_reducible refine Kd.C_alloc ?_ _) | (with_reducible refine Kd.C_drewN ?_ _) | (with_reducible refine Kd.C_drew ?_)))
      (case side4 => exact (Kd.R_reads' HO514.out).2.1)
      rintro e w127 ⟨v519, rfl, ho0, hb⟩
      refine ⟨_, rfl, ?_⟩
      replace HO514 := rb HO514 hb; have HO520 := Aside0.mk (Kd.R_lower (Kd.R_new' (Kd.R_new' (Kd.R_new' ho0 (Kd.R_lt (rI HO464.out))) (Kd.R_lt (rI HO483.out))) (Kd.R_lt (rI HO511.out))) (below_size (bI HB.out))); replace HO464 := Aside0.mk (Kd.R_elder' (rI HO464.out) (Kd.R_base ho0) hb); replace HO483 := Aside0.mk (Kd.R_elder' (rI HO483.out) (Kd.R_base ho0) hb); replace HO511 := Aside0.mk (Kd.R_elder' (rI HO511.out) (Kd.R_base ho0) hb); replace BK445 := bk BK445 hb; replace BK446 := bk BK446 hb; replace BK466 := bk BK466 hb; replace BK472 := bk BK472 hb; replace BK485 := bk BK485 hb; replace HB := bs HB hb
      (try clear hb)
      (try clear hb2)
      (try clear hk)
      (try clear hi)
      (try clear ho0)
      refine hK.out _ _ ⟨bc0 BK445.out, bc1 BK445.out, bc0 BK446.out, bc1 BK446.out, bc2 BK446.out⟩ (fun hHeld => ?_)
      clear hK K
      refine nA (some 112) ?_
      refine pA 8 (some 104) (bz 14 511) HT_ ?_
      refine pA 9 (some 113) (bz 14 1023) HT_ ?_
      refine pA 10 (some 114) (bz 14 2047) HT_ ?_
      exact norm_ y0_0 (hJ1_3_6_7 (.slice Ao125 t509.length co125, .slice Ao126 t512.length co126, v519) _ ⟨hHeld, (rI (Kd.R_mono HO464.out (fun _ hk => ⟨hk.1.1, ⟨hk.1.2, hk.2⟩⟩))), (rI (Kd.R_mono HO483.out (fun _ hk => ⟨hk.1.1, ⟨hk.1.2, hk.2⟩⟩))), (rI (Kd.R_mono HO511.out (fun _ hk => ⟨hk.1.1, ⟨hk.1.2, hk.2⟩⟩))), (rI HO514.out), (rI (Kd.R_mono HO520.out (fun _ hk => ⟨hk.1.1.2, ⟨hk.1.2, hk.2⟩⟩))), (kI BK445.out), (kI BK446.out), (kI BK466.out), (kI BK472.out), (kI BK485.out), (bI HB.out)⟩)
     skip
     refine box_step ?hg (N := 19) ?hd (cs := #[.string (⟨#[]⟩ : ByteArray), .int .i64 0, .string (⟨#[]⟩ : ByteArray), .slice none 0 0]) (t := 42) ?hr ?_; (case hd => rfl); (case hg => rfl); (case hr => first | (go_simp; done) | (go_simp; rfl))
     intro gb522 hg w125 hbox hb
     replace HO464 := rb HO464 hb; replace HO483 := rb HO483 hb; replace HO511 := rb HO511 hb; replace HO514 := rb HO514 hb; have BK522 := Aside0.mk (hbox); have GW522 := bg hg HB; have GJ522 := gi GW522; have GE522 := bg hg HB; have GI522 := gi GE522; replace HB := bs HB hb; have NB445_522 := b1 BK445 hg; have NI445_522 := ni NB445_522; have NB522_445 := b2 BK445 hg; have NI522_445 := ni NB522_445; replace BK445 := bk BK445 hb; have NB446_522 := b1 BK446 hg; have NI446_522 := ni NB446_522; have NB522_446 := b2 BK446 hg; have NI522_446 := ni NB522_446; replace BK446 := bk BK446 hb; have NB466_522 := b1 BK466 hg; have NI466_522 := ni NB466_522; have NB522_466 := b2 BK466 hg; have NI522_466 := ni NB522_466; replace BK466 := bk BK466 hb; have NB472_522 := b1 BK472 hg; have NI472_522 := ni NB472_522; have NB522_472 := b2 BK472 hg; have NI522_472 := ni NB522_472; replace BK472 := bk BK472 hb; have NB485_522 := b1 BK485 hg; have NI485_522 := ni NB485_522; have NB522_485 := b2 BK485 hg; have NI522_485 := ni NB522_485; replace BK485 := bk BK485 hb; clear hb hbox hg
     refine hK.out _ _ ⟨bc0 BK445.out, bc1 BK445.out, bc0 BK446.out, bc1 BK446.out, bc2 BK446.out⟩ (fun hHeld => ?_)
     clear hK K
     refine nA (some 19) ?_
     exact norm_ y0_0 (hJ1_3_6_11 (_, _, gb522) _ ⟨hHeld, (rI HO464.out), (rI HO483.out), (rI HO511.out), (rI HO514.out), (kI BK445.out), (kI BK446.out), (kI BK466.out), (kI BK472.out), (kI BK485.out), (kI BK522.out), GW522.out, GE522.out, NB445_522.out, NB522_445.out, NB446_522.out, NB522_446.out, NB466_522.out, NB522_466.out, NB472_522.out, NB522_472.out, NB485_522.out, NB522_485.out, (bI HB.out)⟩)
    skip
    rintro ⟨v510, v513, gb522⟩ w125 ⟨hS_, h0_, h1_, h2_, h3_, h4_, h5_, h6_, h7_, h8_, h9_, h10_, h11_, h12_, h13_, h14_, h15_, h16_, h17_, h18_, h19_, h20_, h21_, h22_⟩
    try dsimp only at h0_ h1_ h2_ h3_ h4_ h5_ h6_ h7_ h8_ h9_ h10_ h11_ h12_ h13_ h14_ h15_ h16_ h17_ h18_ h19_ h20_ h21_ h22_
    have n0_ := Aside0.mk h0_; have n1_ := Aside0.mk h1_; have n2_ := Aside0.mk h2_; have n3_ := Aside0.mk h3_; have n4_ := Aside0.mk h4_; have n5_ := Aside0.mk h5_; have n6_ := Aside0.mk h6_; have n7_ := Aside0.mk h7_; have n8_ := Aside0.mk h8_; have n9_ := Aside0.mk h9_; have n10_ := Aside0.mk h10_; have n11_ := Aside0.mk h11_; have n12_ := Aside0.mk h12_; have n13_ := Aside0.mk h13_; have n14_ := Aside0.mk h14_; have n15_ := Aside0.mk h15_; have n16_ := Aside0.mk h16_; have n17_ := Aside0.mk h17_; have n18_ := Aside0.mk h18_; have n19_ := Aside0.mk h19_; have n20_ := Aside0.mk h20_; have n21_ := Aside0.mk h21_; have n22_ := Aside0.mk h22_; clear HO464; clear HO483; clear BK445; clear BK446; clear BK466; clear BK472; clear BK485; clear HB; clear h0_ h1_ h2_ h3_ h4_ h5_ h6_ h7_ h8_ h9_ h10_ h11_ h12_ h13_ h14_ h15_ h16_ h17_ h18_ h19_ h20_ h21_ h22_; have HO464 := n0_; have HO483 := n1_; have HO511 := n2_; have HO514 := n3_; have BK445 := n4_; have BK446 := n5_; have BK466 := n6_; have BK472 := n7_; have BK485 := n8_; have BK522 := n9_; have GW522 := n10_; have GJ522 := gi GW522; have GE522 := n11_; have GI522 := gi GE522; have NB445_522 := n12_; have NI445_522 := ni NB445_522; have NB522_445 := n13_; have NI522_445 := ni NB522_445; have NB446_522 := n14_; have NI446_522 := ni NB446_522; have NB522_446 := n15_; have NI522_446 := ni NB522_446; have NB466_522 := n16_; have NI466_522 := ni NB466_522; have NB522_466 := n17_; have NI522_466 := ni NB522_466; have NB472_522 := n18_
    have NI472_522 := ni NB472_522; have NB522_472 := n19_; have NI522_472 := ni NB522_472; have NB485_522 := n20_; have NI485_522 := ni NB485_522; have NB522_485 := n21_; have NI522_485 := ni NB522_485; have HB := n22_; clear n0_ n1_ n2_ n3_ n4_ n5_ n6_ n7_ n8_ n9_ n10_ n11_ n12_ n13_ n14_ n15_ n16_ n17_ n18_ n19_ n20_ n21_ n22_; have hHeld : w125.cell? ⟨gb445, 0, none⟩ = some (.int .i64 a0_0) ∧ w125.cell? ⟨gb445, 1, none⟩ = some (.int .i64 a0_1) ∧ w125.cell? ⟨gb446, 0, none⟩ = some (.int .i64 a1_0) ∧ w125.cell? ⟨gb446, 1, none⟩ = some (.string a1_1) ∧ w125.cell? ⟨gb446, 2, none⟩ = some (.slice A1_2 l1_2.length c1_2) := hS_; obtain ⟨Ao126, co126, eo126⟩ := Kd.R_slice HO511.out
    (first | subst eo126 | (injection eo126 with f1_ f2_ f3_; have f4_ := f1_.symm; have f5_ := f3_.symm; clear f1_ f2_ f3_; subst f4_; subst f5_))
    obtain ⟨Ao127, co127, eo127⟩ := Kd.R_slice HO514.out
    (first | subst eo127 | (injection eo127 with f1_ f2_ f3_; have f4_ := f1_.symm; have f5_ := f3_.symm; clear f1_ f2_ f3_; subst f4_; subst f5_))
    refine norm_ (a' := ?_) ?_ ?_
    rotate_left
    ·
     simp only [putAll, Act.put, List.setIfInBounds_toArray, List.set_cons_zero, List.set_cons_succ]
     rfl
    refine oA 7 (some 112) (bz 14 2303) HT_ (fun K hK => ?_)
    refine gA Tryz.func32 #[.agg #[.int .i64 t505, .int .i64 t506], .agg #[.int .i64 t507, .string t508, .slice Ao126 t509.length co126], .int .i64 a2, .slice Ao127 t512.length co127] ?_
    with_reducible refine (impl_BlockNew.calls k t505 t506 t507 t508 _ _ t509 a2 _ _ t512 t515 t516 t517 t518 t521 _ ?side1 ?side2 ?side3 ?side4 A48.out).mono ?_
    (case side1 => repeat (first | exact (Kd.R_reads' HO511.out).2.2 | (with_reducible refine Kd.C_alloc ?_ _) | (with_reducible refine Kd.C_drewN ?_ _) | (with_reducible refine Kd.C_drew ?_)))
    (case side2 => exact (Kd.R_reads' HO511.out).2.1)
    (case side3 => repeat (first | exact (Kd.R_reads' HO514.out).2.2 | (with_reducible refine Kd.C_alloc ?_ _) | (with_reducible refine Kd.C_drewN ?_ _) | (with_reducible refine Kd.C_drew ?_)))
    (case side4 => exact (Kd.R_reads' HO514.out).2.1)
    rintro e w128 ⟨v519, rfl, ho0, hb⟩
    refine ⟨_, rfl, ?_⟩
    replace HO514 := rb HO514 hb; have HO520 := Aside0.mk (Kd.R_lower (Kd.R_new' (Kd.R_new' (Kd.R_new' ho0 (Kd.R_lt (rI HO464.out))) (Kd.R_lt (rI HO483.out))) (Kd.R_lt (rI HO511.out))) (below_size (bI HB.out))); replace HO464 := Aside0.mk (Kd.R_elder' (rI HO464.out) (Kd.R_base ho0) hb); replace HO483 := Aside0.mk (Kd.R_elder' (rI HO483.out) (Kd.R_base ho0) hb); replace HO511 := Aside0.mk (Kd.R_elder' (rI HO511.out) (Kd.R_base ho0) hb); replace BK445 := bk BK445 hb; replace BK446 := bk BK446 hb; replace BK466 := bk BK466 hb; replace BK472 := bk BK472 hb; replace BK485 := bk BK485 hb; replace BK522 := bk BK522 hb; replace HB := bs HB hb
    (try clear hb)
    (try clear hb2)
    (try clear hk)
    (try clear hi)
    (try clear ho0)
    refine hK.out _ _ ⟨bc0 BK445.out, bc1 BK445.out, bc0 BK446.out, bc1 BK446.out, bc2 BK446.out⟩ (fun hHeld => ?_)
    clear hK K
    refine nA (some 112) ?_
    refine pA 8 (some 104) (bz 14 2559) HT_ ?_
    refine pA 9 (some 113) (bz 14 3071) HT_ ?_
    refine pA 10 (some 114) (bz 14 4095) HT_ ?_
    exact norm_ y0_0 (hJ1_3_6_7_11 (.slice Ao126 t509.length co126, .slice Ao127 t512.length co127, v519, gb522) _ ⟨hHeld, (rI (Kd.R_mono HO464.out (fun _ hk => ⟨hk.1.1, ⟨hk.1.2, hk.2⟩⟩))), (rI (Kd.R_mono HO483.out (fun _ hk => ⟨hk.1.1, ⟨hk.1.2, hk.2⟩⟩))), (rI (Kd.R_mono HO511.out (fun _ hk => ⟨hk.1.1, ⟨hk.1.2, hk.2⟩⟩))), (rI HO514.out), (rI (Kd.R_mono HO520.out (fun _ hk => ⟨hk.1.1.2, ⟨hk.1.2, hk.2⟩⟩))), (kI BK445.out), (kI BK446.out), (kI BK466.out), (kI BK472.out), (kI BK485.out), (kI BK522.out), GW522.out, GE522.out, NB445_522.out, NB522_445.out, NB446_522.out, NB522_446.out, NB466_522.out, NB522_466.out, NB472_522.out, NB522_472.out, NB485_522.out, NB522_485.out, (bI HB.out)⟩)
   skip
   rintro ⟨v510, v513, v519⟩ w127 ⟨hS_, h0_, h1_, h2_, h3_, h4_, h5_, h6_, h7_, h8_, h9_, h10_⟩
   try dsimp only at h0_ h1_ h2_ h3_ h4_ h5_ h6_ h7_ h8_ h9_ h10_
   have n0_ := Aside0.mk h0_; have n1_ := Aside0.mk h1_; have n2_ := Aside0.mk h2_; have n3_ := Aside0.mk h3_; have n4_ := Aside0.mk h4_; have n5_ := Aside0.mk h5_; have n6_ := Aside0.mk h6_; have n7_ := Aside0.mk h7_; have n8_ := Aside0.mk h8_; have n9_ := Aside0.mk h9_; have n10_ := Aside0.mk h10_; clear HO464; clear HO483; clear BK445; clear BK446; clear BK466; clear BK472; clear BK485; clear HB; clear h0_ h1_ h2_ h3_ h4_ h5_ h6_ h7_ h8_ h9_ h10_; have HO464 := n0_; have HO483 := n1_; have HO511 := n2_; have HO514 := n3_; have HO520 := n4_; have BK445 := n5_; have BK446 := n6_; have BK466 := n7_; have BK472 := n8_; have BK485 := n9_; have HB := n10_; clear n0_ n1_ n2_ n3_ n4_ n5_ n6_ n7_ n8_ n9_ n10_; have hHeld : w127.cell? ⟨gb445, 0, none⟩ = some (.int .i64 a0_0) ∧ w127.cell? ⟨gb445, 1, none⟩ = some (.int .i64 a0_1) ∧ w127.cell? ⟨gb446, 0, none⟩ = some (.int .i64 a1_0) ∧ w127.cell? ⟨gb446, 1, none⟩ = some (.string a1_1) ∧ w127.cell? ⟨gb446, 2, none⟩ = some (.slice A1_2 l1_2.length c1_2) := hS_
   refine norm_ (a' := ?_) ?_ ?_
   rotate_left
   ·
    simp only [putAll, Act.put, List.setIfInBounds_toArray, List.set_cons_zero, List.set_cons_succ]
    rfl
   refine oA 11 (some 19) (bz 14 4095) HT_ (fun K hK => ?_)
   refine box_step ?hg (N := 19) ?hd (cs := #[.string (⟨#[]⟩ : ByteArray), .int .i64 0, .string (⟨#[]⟩ : ByteArray), .slice none 0 0]) (t := 42) ?hr ?_; (case hd => rfl); (case hg => rfl); (case hr => first | (go_simp; done) | (go_simp; rfl))
   intro gb522 hg w128 hbox hb
   replace HO464 := rb HO464 hb; replace HO483 := rb HO483 hb; replace HO511 := rb HO511 hb; replace HO514 := rb HO514 hb; replace HO520 := rb HO520 hb; have BK522 := Aside0.mk (hbox); have GW522 := bg hg HB; have GJ522 := gi GW522; have GE522 := bg hg HB; have GI522 := gi GE522; replace HB := bs HB hb; have NB445_522 := b1 BK445 hg; have NI445_522 := ni NB445_522; have NB522_445 := b2 BK445 hg; have NI522_445 := ni NB522_445; replace BK445 := bk BK445 hb; have NB446_522 := b1 BK446 hg; have NI446_522 := ni NB446_522; have NB522_446 := b2 BK446 hg; have NI522_446 := ni NB522_446; replace BK446 := bk BK446 hb; have NB466_522 := b1 BK466 hg; have NI466_522 := ni NB466_522; have NB522_466 := b2 BK466 hg; have NI522_466 := ni NB522_466; replace BK466 := bk BK466 hb; have NB472_522 := b1 BK472 hg; have NI472_522 := ni NB472_522; have NB522_472 := b2 BK472 hg; have NI522_472 := ni NB522_472; replace BK472 := bk BK472 hb; have NB485_522 := b1 BK485 hg; have NI485_522 := ni NB485_522; have NB522_485 := b2 BK485 hg; have NI522_485 := ni NB522_485; replace BK485 := bk BK485 hb; clear hb hbox hg
   refine hK.out _ _ ⟨bc0 BK445.out, bc1 BK445.out, bc0 BK446.out, bc1 BK446.out, bc2 BK446.out⟩ (fun hHeld => ?_)
   clear hK K
   refine nA (some 19) ?_
   exact norm_ y0_0 (hJ1_3_6_7_11 (_, _, _, gb522) _ ⟨hHeld, (rI HO464.out), (rI HO483.out), (rI HO511.out), (rI HO514.out), (rI HO520.out), (kI BK445.out), (kI BK446.out), (kI BK466.out), (kI BK472.out), (kI BK485.out), (kI BK522.out), GW522.out, GE522.out, NB445_522.out, NB522_445.out, NB446_522.out, NB522_446.out, NB466_522.out, NB522_466.out, NB472_522.out, NB522_472.out, NB485_522.out, NB522_485.out, (bI HB.out)⟩)
  rintro ⟨v510, v513, v519, gb522⟩ w128 ⟨hS_, h0_, h1_, h2_, h3_, h4_, h5_, h6_, h7_, h8_, h9_, h10_, h11_, h12_, h13_, h14_, h15_, h16_, h17_, h18_, h19_, h20_, h21_, h22_, h23_⟩
  try dsimp only at h0_ h1_ h2_ h3_ h4_ h5_ h6_ h7_ h8_ h9_ h10_ h11_ h12_ h13_ h14_ h15_ h16_ h17_ h18_ h19_ h20_ h21_ h22_ h23_
  have n0_ := Aside0.mk h0_; have n1_ := Aside0.mk h1_; have n2_ := Aside0.mk h2_; have n3_ := Aside0.mk h3_; have n4_ := Aside0.mk h4_; have n5_ := Aside0.mk h5_; have n6_ := Aside0.mk h6_; have n7_ := Aside0.mk h7_; have n8_ := Aside0.mk h8_; have n9_ := Aside0.mk h9_; have n10_ := Aside0.mk h10_; have n11_ := Aside0.mk h11_; have n12_ := Aside0.mk h12_; have n13_ := Aside0.mk h13_; have n14_ := Aside0.mk h14_; have n15_ := Aside0.mk h15_; have n16_ := Aside0.mk h16_; have n17_ := Aside0.mk h17_; have n18_ := Aside0.mk h18_; have n19_ := Aside0.mk h19_; have n20_ := Aside0.mk h20_; have n21_ := Aside0.mk h21_; have n22_ := Aside0.mk h22_; have n23_ := Aside0.mk h23_; clear HO464; clear HO483; clear BK445; clear BK446; clear BK466; clear BK472; clear BK485; clear HB; clear h0_ h1_ h2_ h3_ h4_ h5_ h6_ h7_ h8_ h9_ h10_ h11_ h12_ h13_ h14_ h15_ h16_ h17_ h18_ h19_ h20_ h21_ h22_ h23_; have HO464 := n0_; have HO483 := n1_; have HO511 := n2_; have HO514 := n3_; have HO520 := n4_; have BK445 := n5_; have BK446 := n6_; have BK466 := n7_; have BK472 := n8_; have BK485 := n9_; have BK522 := n10_; have GW522 := n11_; have GJ522 := gi GW522; have GE522 := n12_; have GI522 := gi GE522; have NB445_522 := n13_; have NI445_522 := ni NB445_522; have NB522_445 := n14_; have NI522_445 := ni NB522_445; have NB446_522 := n15_; have NI446_522 := ni NB446_522; have NB522_446 := n16_; have NI522_446 := ni NB522_446; have NB466_522 := n17_; have NI466_522 := ni NB466_522; have NB522_466 := n18_; have NI522_466 := ni NB522_466
  have NB472_522 := n19_; have NI472_522 := ni NB472_522; have NB522_472 := n20_; have NI522_472 := ni NB522_472; have NB485_522 := n21_; have NI485_522 := ni NB485_522; have NB522_485 := n22_; have NI522_485 := ni NB522_485; have HB := n23_; clear n0_ n1_ n2_ n3_ n4_ n5_ n6_ n7_ n8_ n9_ n10_ n11_ n12_ n13_ n14_ n15_ n16_ n17_ n18_ n19_ n20_ n21_ n22_ n23_; have hHeld : w128.cell? ⟨gb445, 0, none⟩ = some (.int .i64 a0_0) ∧ w128.cell? ⟨gb445, 1, none⟩ = some (.int .i64 a0_1) ∧ w128.cell? ⟨gb446, 0, none⟩ = some (.int .i64 a1_0) ∧ w128.cell? ⟨gb446, 1, none⟩ = some (.string a1_1) ∧ w128.cell? ⟨gb446, 2, none⟩ = some (.slice A1_2 l1_2.length c1_2) := hS_; obtain ⟨Ao132, co132, eo132⟩ := Kd.R_slice HO520.out
  (first | subst eo132 | (injection eo132 with f1_ f2_ f3_; have f4_ := f1_.symm; have f5_ := f3_.symm; clear f1_ f2_ f3_; subst f4_; subst f5_))
  refine norm_ (a' := ?_) ?_ ?_
  rotate_left
  ·
   simp only [putAll, Act.put, List.setIfInBounds_toArray, List.set_cons_zero, List.set_cons_succ]
   rfl
  refine oA 12 none (bz 14 0x1fff) HT_ (fun K hK => ?_)
  have hs129 : w128.cell? ⟨gb522, 0, none⟩ = some (.string (⟨#[]⟩ : ByteArray)) := bc0 BK522.out; have hfs129 := blk_frozen BK522.out 0; have hns129_0 := NB445_522.out; have hns129_1 := NB446_522.out; have hns129_2 := NB466_522.out; have hns129_3 := NB472_522.out; have hns129_4 := NB485_522.out; have hms129_0 := NB522_445.out; have hms129_1 := NB522_446.out; have hms129_2 := NB522_466.out; have hms129_3 := NB522_472.out; have hms129_4 := NB522_485.out; have hs130 : w128.cell? ⟨gb522, 1, none⟩ = some (.int .i64 0) := bc1 BK522.out; have hfs130 := blk_frozen BK522.out 1; have hns130_0 := NB445_522.out; have hns130_1 := NB446_522.out; have hns130_2 := NB466_522.out; have hns130_3 := NB472_522.out; have hns130_4 := NB485_522.out; have hms130_0 := NB522_445.out; have hms130_1 := NB522_446.out; have hms130_2 := NB522_466.out; have hms130_3 := NB522_472.out; have hms130_4 := NB522_485.out; have hs131 : w128.cell? ⟨gb522, 2, none⟩ = some (.string (⟨#[]⟩ : ByteArray)) := bc2 BK522.out; have hfs131 := blk_frozen BK522.out 2; have hns131_0 := NB445_522.out; have hns131_1 := NB446_522.out; have hns131_2 := NB466_522.out; have hns131_3 := NB472_522.out; have hns131_4 := NB485_522.out; have hms131_0 := NB522_445.out; have hms131_1 := NB522_446.out; have hms131_2 := NB522_466.out; have hms131_3 := NB522_472.out; have hms131_4 := NB522_485.out; have hs133 : w128.cell? ⟨gb522, 3, none⟩ = some (.slice none 0 0) := bc3 BK522.out; have hfs133 := blk_frozen BK522.out 3; have hns133_0 := NB445_522.out
  have hns133_1 := NB446_522.out; have hns133_2 := NB466_522.out; have hns133_3 := NB472_522.out; have hns133_4 := NB485_522.out; have hms133_0 := NB522_445.out; have hms133_1 := NB522_446.out; have hms133_2 := NB522_466.out; have hms133_3 := NB522_472.out; have hms133_4 := NB522_485.out
  refine skip_ (w1 := ?_) (by rfl) rfl ?_ ?_
  rotate_left
  ·
   go_simp
   rfl
  refine hK.out _ _ ⟨((cell_far (p := ⟨gb522, _, none⟩) NB445_522.out _).trans (((cell_far (p := ⟨gb522, _, none⟩) NB445_522.out _).trans (((cell_far (p := ⟨gb522, _, none⟩) NB445_522.out _).trans (((cell_far (p := ⟨gb522, _, none⟩) NB445_522.out _).trans (hHeld.1)))))))), ((cell_far (p := ⟨gb522, _, none⟩) NB445_522.out _).trans (((cell_far (p := ⟨gb522, _, none⟩) NB445_522.out _).trans (((cell_far (p := ⟨gb522, _, none⟩) NB445_522.out _).trans (((cell_far (p := ⟨gb522, _, none⟩) NB445_522.out _).trans (hHeld.2.1)))))))), ((cell_far (p := ⟨gb522, _, none⟩) NB446_522.out _).trans (((cell_far (p := ⟨gb522, _, none⟩) NB446_522.out _).trans (((cell_far (p := ⟨gb522, _, none⟩) NB446_522.out _).trans (((cell_far (p := ⟨gb522, _, none⟩) NB446_522.out _).trans (hHeld.2.2.1)))))))), ((cell_far (p := ⟨gb522, _, none⟩) NB446_522.out _).trans (((cell_far (p := ⟨gb522, _, none⟩) NB446_522.out _).trans (((cell_far (p := ⟨gb522, _, none⟩) NB446_522.out _).trans (((cell_far (p := ⟨gb522, _, none⟩) NB446_522.out _).trans (hHeld.2.2.2.1)))))))), ((cell_far (p := ⟨gb522, _, none⟩) NB446_522.out _).trans (((cell_far (p := ⟨gb522, _, none⟩) NB446_522.out _).trans (((cell_far (p := ⟨gb522, _, none⟩) NB446_522.out _).trans (((cell_far (p := ⟨gb522, _, none⟩) NB446_522.out _).trans (hHeld.2.2.2.2))))))))⟩ (fun hHeld => ?_)
  clear hK K
  refine pA 13 (some 20) (bz 14 0x3fff) HT_ ?_
  refine done_ (done_of HT_.out (by kernel_rfl)) ?_
  have hnb134 := NB522_445.out; have hnc134 := NB445_522.out; have hnb135 := NB522_446.out; have hnc135 := NB446_522.out; have hnb136 := NB522_466.out; have hnc136 := NB466_522.out; have hnb137 := NB522_472.out; have hnc137 := NB472_522.out; have hnb138 := NB522_485.out; have hnc138 := NB485_522.out; have hcz139_0 := bc0 BK522.out; have hcz139_1 := bc1 BK522.out; have hcz139_2 := bc2 BK522.out; have hcz139_3 := bc3 BK522.out; have hfz139_0 := blk_frozen BK522.out 0; have hfz139_1 := blk_frozen BK522.out 1; have hfz139_2 := blk_frozen BK522.out 2; have hfz139_3 := blk_frozen BK522.out 3; have hcz140_0 := bc0 BK466.out; have hcz140_1 := bc1 BK466.out; have hcz140_2 := bc2 BK466.out; have hcz140_3 := bc3 BK466.out; have hfz140_0 := blk_frozen BK466.out 0; have hfz140_1 := blk_frozen BK466.out 1; have hfz140_2 := blk_frozen BK466.out 2; have hfz140_3 := blk_frozen BK466.out 3
  try go_wp2_with (first | ((with_reducible refine gate_callee (f := 19) rfl ?_); refine gB (some 117) Tryz.func19 #[.agg #[.string t515, .int .i64 t516, .string t517, .slice Ao132 t518.length co132], .agg #[.string t459, .int .i64 t460, .string t461, .slice Ao72 t462.length co72]] ?_; (with_reducible refine (laws_eqBlock.calls k t515 t516 t517 _ _ t518 t459 t460 t461 _ _ t462 true _ ?side1 ?side2 ?side3 ?side4 A49.out).mono ?_); (case side1 => refine (Kd.R_reads' (e := 3) (base := w.heap.size) (ok := fun k_ => (some k_ ≠ (.slice Ao72 t462.length co72 : Value).ownBlock ∧ (some k_ ≠ (.slice Ao93 t481.length co93 : Value).ownBlock ∧ some k_ ≠ (v510 : Value).ownBlock))) (n := t518.length) (c := co132) ?_).2.2; exact (rI (Kd.R_mono (Kd.R_far (p := ⟨gb522, 3, none⟩) (Kd.R_far (p := ⟨gb522, 2, none⟩) (Kd.R_far (p := ⟨gb522, 1, none⟩) (Kd.R_far (p := ⟨gb522, 0, none⟩) (Kd.R_types HO520.out BK522.out (by decide)) (fun _ hk => hk.2) (.string t515)) (fun _ hk => hk.2) (.int .i64 t516)) (fun _ hk => hk.2) (.string t517)) (fun _ hk => hk.2) (.slice Ao132 t518.length co132)) (fun _ h_ => h_.1)))); (case side2 => exact (Kd.R_reads' HO520.out).2.1); (case side3 => refine (Kd.R_reads' (e := 3) (base := w.heap.size) (ok := fun k_ => (some k_ ≠ (.slice Ao93 t481.length co93 : Value).ownBlock ∧ (some k_ ≠ (v510 : Value).ownBlock ∧ some k_ ≠ (.slice Ao132 t518.length co132 : Value).ownBlock))) (n := t462.length) (c := co72) ?_).2.2; exact (rI (Kd.R_mono (Kd.R_far (p := ⟨gb522, 3, none⟩) (Kd.R_far (p := ⟨gb522, 2, none⟩) (Kd.R_far (p := ⟨gb522, 1, none⟩) (Kd.R_far (p := ⟨gb522, 0, none⟩) (Kd.R_types HO464.out BK522.out (by decide)) (fun _ hk => hk.2) (.string t515)) (fun _ hk => hk.2) (.int .i64 t516)) (fun _ hk => hk.2) (.string t517)) (fun _ hk => hk.2) (.slice Ao132 t518.length co132)) (fun _ h_ => h_.1)))); (case side4 => exact (Kd.R_reads' HO464.out).2.1); rintro e w141 ⟨rfl, hb⟩; refine ⟨_, rfl, ?_⟩; replace HO464 := Aside0.mk (Kd.R_below (rI (Kd.R_mono (Kd.R_far (p := ⟨gb522, 3, none⟩) (Kd.R_far (p := ⟨gb522, 2, none⟩) (Kd.R_far (p := ⟨gb522, 1, none⟩) (Kd.R_far (p := ⟨gb522, 0, none⟩) (Kd.R_types HO464.out BK522.out (by decide)) (fun _ hk => hk.2) (.string t515)) (fun _ hk => hk.2) (.int .i64 t516)) (fun _ hk => hk.2) (.string t517)) (fun _ hk => hk.2) (.slice Ao132 t518.length co132)) (fun _ h_ => h_.1))) hb); replace HO483 := Aside0.mk (Kd.R_below (rI (Kd.R_mono (Kd.R_far (p := ⟨gb522, 3, none⟩) (Kd.R_far (p := ⟨gb522, 2, none⟩) (Kd.R_far (p := ⟨gb522, 1, none⟩) (Kd.R_far (p := ⟨gb522, 0, none⟩) (Kd.R_types HO483.out BK522.out (by decide)) (fun _ hk => hk.2) (.string t515)) (fun _ hk => hk.2) (.int .i64 t516)) (fun _ hk => hk.2) (.string t517)) (fun _ hk => hk.2) (.slice Ao132 t518.length co132)) (fun _ h_ => h_.1))) hb); replace HO511 := Aside0.mk (Kd.R_below (rI (Kd.R_mono (Kd.R_far (p := ⟨gb522, 3, none⟩) (Kd.R_far (p := ⟨gb522, 2, none⟩) (Kd.R_far (p := ⟨gb522, 1, none⟩) (Kd.R_far (p := ⟨gb522, 0, none⟩) (Kd.R_types HO511.out BK522.out (by decide)) (fun _ hk => hk.2) (.string t515)) (fun _ hk => hk.2) (.int .i64 t516)) (fun _ hk => hk.2) (.string t517)) (fun _ hk => hk.2) (.slice Ao132 t518.length co132)) (fun _ h_ => h_.1))) hb); replace HO514 := Aside0.mk (Kd.R_below (rI (Kd.R_mono (Kd.R_far (p := ⟨gb522, 3, none⟩) (Kd.R_far (p := ⟨gb522, 2, none⟩) (Kd.R_far (p := ⟨gb522, 1, none⟩) (Kd.R_far (p := ⟨gb522, 0, none⟩) (Kd.R_types HO514.out BK522.out (by decide)) (fun _ hk => hk.2) (.string t515)) (fun _ hk => hk.2) (.int .i64 t516)) (fun _ hk => hk.2) (.string t517)) (fun _ hk => hk.2) (.slice Ao132 t518.length co132)) (fun _ h_ => h_.1))) hb); replace HO520 := Aside0.mk (Kd.R_below (rI (Kd.R_mono (Kd.R_far (p := ⟨gb522, 3, none⟩) (Kd.R_far (p := ⟨gb522, 2, none⟩) (Kd.R_far (p := ⟨gb522, 1, none⟩) (Kd.R_far (p := ⟨gb522, 0, none⟩) (Kd.R_types HO520.out BK522.out (by decide)) (fun _ hk => hk.2) (.string t515)) (fun _ hk => hk.2) (.int .i64 t516)) (fun _ hk => hk.2) (.string t517)) (fun _ hk => hk.2) (.slice Ao132 t518.length co132)) (fun _ h_ => h_.1))) hb); replace BK445 := Aside0.mk (blk_below (g := gb445) (o := .cells #[.int .i64 a0_0, .int .i64 a0_1] 23 (0, 0)) (gI BK445.out) hb); replace BK446 := Aside0.mk (blk_below (g := gb446) (o := .cells #[.int .i64 a1_0, .string a1_1, .slice A1_2 l1_2.length c1_2] 26 (0, 0)) (gI BK446.out) hb); replace BK466 := Aside0.mk (blk_below (g := gb466) (o := .cells #[.string t459, .int .i64 t460, .string t461, .slice Ao72 t462.length co72] 42 (0, 0)) (gI BK466.out) hb); replace BK472 := Aside0.mk (blk_below (g := gb472) (o := .cells #[.int .i64 t467, .string t468, .slice Ao82 t469.length co82] 33 (0, 0)) (gI BK472.out) hb); replace BK485 := Aside0.mk (blk_below (g := gb485) (o := .cells #[.string t478, .int .i64 t479, .string t480, .slice Ao93 t481.length co93] 42 (0, 0)) (gI BK485.out) hb); replace BK522 := bp BK522 hb #[.string t515, .int .i64 t516, .string t517, .slice Ao132 t518.length co132]; replace HB := bs HB hb; (try clear hb); (try clear hb2); (try clear hk); (try clear hi); obtain ⟨hcz142_0, hcz142_1, hcz142_2, hcz142_3, hfz142_0, hfz142_1, hfz142_2, hfz142_3⟩ := cs4 BK485; clear HO464; clear HO511; clear HO514; clear HO520; have n_ := Aside0.mk (Kd.R_mono (ok' := (fun _ => True)) HO483.out (fun k_ hk => trivial)); clear HO483; have HO483 := n_; clear n_) | ((with_reducible refine gate_callee (f := 35) rfl ?_); refine goesL_ (some 126) rfl rfl Tryz.func35 (by kernel_rfl) rfl #[.agg #[.string t478, .int .i64 t479, .string t480, .slice Ao93 t503.length co93], .int .i64 1] rfl (by (try simp only [List.map_toArray, List.map_cons, List.map_nil]); first | done | (rw [show t503.length = t481.length from (Kd.R_reads' HO483.out).1.symm] <;> rfl) | rfl | (simp only [List.length_drop, List.length_take]; rfl)) ?_; (with_reducible refine (laws_heldBlock.calls k t478 t479 t480 _ _ t503 1 t524 _ ?side1 ?side2 A52.out).mono ?_); (case side1 => repeat (first | exact (Kd.R_reads' HO483.out).2.2 | (with_reducible refine Kd.C_alloc ?_ _) | (with_reducible refine Kd.C_drewN ?_ _) | (with_reducible refine Kd.C_drew ?_))); (case side2 => rw [show t503.length = t481.length from (Kd.R_reads' HO483.out).1.symm]; exact (Kd.R_reads' HO483.out).2.1); rintro e w143 ⟨rfl, hb⟩; refine ⟨_, rfl, ?_⟩; replace HO483 := rb HO483 hb; replace BK445 := bk BK445 hb; replace BK446 := bk BK446 hb; replace BK466 := bk BK466 hb; replace BK472 := bk BK472 hb; replace BK485 := bk BK485 hb; replace BK522 := bk BK522 hb; replace HB := bs HB hb; (try clear hb); (try clear hb2); (try clear hk); (try clear hi)))
  go_ret
  exact ⟨y0_10, bI HB.out⟩
 replace c28 := Bool.eq_false_iff.mpr c28; subst c28
 rw [if_neg (show ¬ (false = true) by decide)] at H
 exact absurd (hrt.out.symm.trans (Option.some.inj H).symm) (by decide)

end Go.Proofs.YtemjmefacifdeaaGreatDoor.PFnExactBlockNew
