-- By a program of this session, out of the translation (the print of the kit, with turns of its own). Lean checks it.
import Derived.Test.YtnpbopadajbopaaDoorPFnTooFewx0
import Derived.Test.YtnpbopadajbopaaDoorPFnTooFewx1
import Derived.Test.YtnpbopadajbopaaDoorPFnTooFewx2
import Derived.Test.YtnpbopadajbopaaDoorPFnTooFewx7
namespace Go.Proofs.YtnpbopadajbopaaDoor.PFnTooFew
open Go.RowKit Go.Proofs.YtnpbopadajbopaaDoorW.PrintWords Go.Proofs.YtnpbopadajbopaaDoorW.PrintLast Go.Proofs.YtnpbopadajbopaaDoorW.PrintMore
attribute [local go_sem] max2_int min2_int max_two min_two max_three min_three max_four min_four   -- for this text's walks alone
attribute [local go_sem] cell_in frozen_in
set_option synthInstance.maxSize 1000000
set_option synthInstance.maxHeartbeats 2000000
set_option linter.unusedVariables false
set_option linter.unusedSimpArgs false

/-! ### spec_DrawPartQc: function 7 -/
def spec_DrawPartQc.f (k : Nat) (l0 : List Int) : Option (Int × Int × Int × ByteArray × List Int) := (spec_l1New.f k l0).bind fun bt477 => ((spec_l7DrawConf.f bt477.1 bt477.2.1 bt477.2.2).bind fun bt481 => ((spec_l1Once.f bt477.1 bt481.2.2.1 bt481.2.2.2 2).bind fun bt486 => (if bt486.1 = true then ((spec_l7Draw.f k bt477.1 bt486.2.1 bt486.2.2 bt481.1 bt481.2.1).bind fun bt489 => (some (bt481.1, bt481.2.1, bt489.1, bt489.2.1, bt489.2.2.1))) else ((spec_l10Draw.f k bt477.1 bt486.2.1 bt486.2.2 bt481.1 bt481.2.1).bind fun bt497 => (some (bt481.1, bt481.2.1, bt497.1, bt497.2.1, bt497.2.2.1))))))
theorem spec_DrawPartQc.mono : ∀ a0 k, LeO (spec_DrawPartQc.f k a0) (spec_DrawPartQc.f (k + 1) a0) := by
 intro a0 k
 unfold spec_DrawPartQc.f
 repeat' first | (with_reducible exact spec_l10Draw.mono _ _ _ _ _ _) | (with_reducible exact spec_l1New.mono _ _) | (with_reducible exact spec_l7Draw.mono _ _ _ _ _ _) | (with_reducible exact LeO.refl _) | (with_reducible exact LeO.none _) | (with_reducible refine LeO.ite ?_ ?_) | (with_reducible refine LeO.bind ?_ (fun _ => ?_))
def spec_DrawPartQc.T5 : Bool × List (List Nat × List Nat) := (true, [([], []), ([], []), ([1], [1]), ([], []), ([3], [3]), ([], []), ([5], [5]), ([2, 4, 6], [2, 4, 6]), ([0, 0], [0]), ([7, 8, 0, 1, 2, 3, 4, 5, 6, 7, 8], [7])])
def spec_DrawPartQc.B5 : List Nat := [0, 0, 2, 0, 8, 0, 32, 126, 1, 511]
theorem spec_DrawPartQc.tab5 : rtab .any (opsOf Tryd.f7 5) = spec_DrawPartQc.T5 := by kernel_rfl
theorem spec_DrawPartQc.bits5 : waitsOk spec_DrawPartQc.T5.2 spec_DrawPartQc.B5 = true := by kernel_rfl
def spec_DrawPartQc.T6 : Bool × List (List Nat × List Nat) := (true, [([], []), ([], []), ([], []), ([1, 2], [1, 2]), ([0, 3, 0], [0]), ([3, 4, 0, 1, 2, 3, 4], [3])])
def spec_DrawPartQc.B6 : List Nat := [0, 0, 0, 6, 15, 31]
theorem spec_DrawPartQc.tab6 : rtab .any (opsOf Tryd.f7 6) = spec_DrawPartQc.T6 := by kernel_rfl
theorem spec_DrawPartQc.bits6 : waitsOk spec_DrawPartQc.T6.2 spec_DrawPartQc.B6 = true := by kernel_rfl
set_option maxHeartbeats 8000000 in
set_option maxRecDepth 100000 in
theorem spec_DrawPartQc.calls (k : Nat) (A0 : Option Addr) (c0 : Nat) (l0 : List Int) (r1 : Int) (r2 : Int) (r3 : Int) (r4 : ByteArray) (r5 : List Int) (w : World) (hr0 : Kd.C (Kd.int .u8) w A0 l0.length l0) (hc0 : l0.length ≤ c0) (h : spec_DrawPartQc.f k l0 = some (r1, r2, r3, r4, r5)) :
  Calls Tryd.prog 7 #[.slice A0 l0.length c0] w fun e w' => ∃ v4_ : Value, e = .returned (.tuple #[.agg #[.int .i64 r1, .int .i64 r2], .agg #[.int .i64 r3, .string r4, v4_]]) ∧ Kd.R (Kd.int .i64) 3 w' w.heap.size (fun _ => True) v4_ r5 ∧ Below w.heap.size w w' := by
 have hu25 := Tryd.underlying25; have hu28 := Tryd.underlying28; have hu32 := Tryd.underlying32; have HR0 := Aside0.mk hr0; have HC0 := Aside0.mk hc0; clear hr0 hc0; have HB := Aside0.mk (Below.refl w.heap.size w)
 have H := h; unfold spec_DrawPartQc.f at H
 clear h; obtain ⟨⟨t477, t478, t479⟩, A2, H⟩ := oB H; (try dsimp only at H); obtain ⟨⟨t481, t482, t483, t484⟩, A3, H⟩ := oB H; (try dsimp only at H); obtain ⟨⟨t486, t487, t488⟩, A4, H⟩ := oB H; (try dsimp only at H)
 go_enter Tryd.func7, Tryd.ntmps7
 have H' := Aside0.mk H; clear H
 go_upto_if 12 with (first | ((with_reducible refine gd 2 ?_); refine bL 2 #[.int .i64 0, .int .i64 0] 25 ?_; intro gb475 w5 _ _ _) | ((with_reducible refine gd 3 ?_); refine bL 3 #[.int .i64 0, .string (⟨#[]⟩ : ByteArray), .slice none 0 0] 28 ?_; intro gb476 w6 _ _ _) | ((with_reducible refine gate_callee (f := 25) rfl ?_); refine wL ?_; intro w7 _; refine gN (some 8) Tryd.func25 (spec_l1New.calls (hB := Below.refl _ _) (hr0 := pC HR0) (hc0 := HC0.out) (w := _) (h := A2.out)) ?_; intro g480 w8 _ _ _ HI9) | ((with_reducible refine gate_callee (f := 26) rfl ?_); refine gK (some 10) Tryd.func26 (spec_l7DrawConf.calls (hI := iS77 HI9) (hB := UpW.out) (w := _) (h := A3.out)) ?_; intro w10 _ _ _ HI11) | ((with_reducible refine gd 5 ?_); refine bL 5 #[.int .i64 0, .int .i64 0] 25 ?_; intro gb485 w12 _ _ _) | ((with_reducible refine gate_callee (f := 27) rfl ?_); refine gK (some 12) Tryd.func27 (spec_l1Once.calls (hI := iS77 HI11) (hB := UpW.out) (w := _) (h := A4.out)) ?_; intro w13 _ _ _ HI14))
 have H := H'.out; clear H'
 by_cases c15 : t486 = true
 ·
  subst c15
  rw [if_pos rfl] at H
  obtain ⟨⟨t489, t490, t491, t494, t495⟩, A16, H⟩ := oB H; (try dsimp only at H)
  simp only [Option.some.injEq, Prod.mk.injEq] at H
  obtain ⟨rfl, rfl, rfl, rfl, rfl⟩ := H
  try go_wp2_with (first | ((with_reducible refine gate_callee (f := 28) rfl ?_); refine gK1 (some 15) Tryd.func28 (spec_l7Draw.calls (hI := iS77 HI14) (hB := UpW.out) (w := _) (h := A16.out)) ?_; intro Ao492 co492 w17 _ _ _ HI18 HO493) | ((with_reducible refine gd 6 ?_); refine bL 6 #[.int .i64 0, .string (⟨#[]⟩ : ByteArray), .slice none 0 0] 32 ?_; intro gb496 w19 _ _ _))
  refine sB [gb475, gb476] spec_DrawPartQc.tab5 spec_DrawPartQc.bits5 ?_; intro w20 _ HT_ HW_
  refine tB 0 (some 16) (bz 10 1) HT_ HW_ ?_
  refine pA 1 (some 17) (bz 10 3) HT_ ?_
  refine tB 2 (some 18) (bz 10 7) HT_ HW_ ?_
  refine pA 3 (some 19) (bz 10 15) HT_ ?_
  refine tB 4 (some 20) (bz 10 31) HT_ HW_ ?_
  refine pA 5 (some 21) (bz 10 63) HT_ ?_
  refine tB 6 (some 22) (bz 10 127) HT_ HW_ ?_
  refine pA 7 (some 23) (bz 10 255) HT_ ?_
  refine o1 8 none (bz 10 511) HT_ rfl (kS ?_)
  refine o1 9 none (bz 10 1023) HT_ rfl (kS ?_)
  refine done_ (done_of HT_.out (by kernel_rfl)) ?_
  try go_wp2
  refine bodyPost_ret (results_cc rfl _ _ gb475 gb476 25 28 #[.int .i64 t481, .int .i64 t482] #[.int .i64 t489, .string t490, .slice Ao492 t491.length co492] (0, 0) (0, 0) _ _ rfl xB Tryd.underlying25 rfl (by kernel_rfl) rfl xB Tryd.underlying28 rfl (by kernel_rfl)) rfl ?_
  exact ⟨_, y0_17, rR HO493, UpW.out⟩
 replace c15 := Bool.eq_false_iff.mpr c15; subst c15
 rw [if_neg (show ¬ (false = true) by decide)] at H
 obtain ⟨⟨t497, t498, t499, t502, t503⟩, A21, H⟩ := oB H; (try dsimp only at H)
 simp only [Option.some.injEq, Prod.mk.injEq] at H
 obtain ⟨rfl, rfl, rfl, rfl, rfl⟩ := H
 try go_wp2
 refine sB [g480, gb475, gb476] spec_DrawPartQc.tab6 spec_DrawPartQc.bits6 ?_; intro w22 _ HT_ HW_
 refine tB 0 (some 24) (bz 6 1) HT_ HW_ ?_
 refine pA 1 (some 25) (bz 6 3) HT_ ?_
 refine tB 2 (some 26) (bz 6 7) HT_ HW_ ?_
 refine o1 3 (some 27) (bz 6 15) HT_ rfl (kK1 Tryd.func29 (spec_l10Draw.calls (hI := iS77 HI14) (hB := UpW.out) (w := _) (h := A21.out)) ?_); intro Ao500 co500 w23 _ _ _ HI24 HO501
 refine nA (some 27) ?_
 refine o1 4 none (bz 6 31) HT_ rfl (kS ?_)
 refine o1 5 none (bz 6 63) HT_ rfl (kS ?_)
 refine done_ (done_of HT_.out (by kernel_rfl)) ?_
 try go_wp2
 refine bodyPost_ret (results_cc rfl _ _ gb475 gb476 25 28 #[.int .i64 t481, .int .i64 t482] #[.int .i64 t497, .string t498, .slice Ao500 t499.length co500] (0, 0) (0, 0) _ _ rfl xB Tryd.underlying25 rfl (by kernel_rfl) rfl xB Tryd.underlying28 rfl (by kernel_rfl)) rfl ?_
 exact ⟨_, y0_17, rR HO501, UpW.out⟩

/-! ### impl_within: function 54 -/
def impl_within.f (a0 : Int) (a1 : Int) (a2 : Int) : Option (Bool) := if a0 ≥ a1 then (some (decide (a0 ≤ a2))) else (some false)
set_option maxHeartbeats 8000000 in
set_option maxRecDepth 100000 in
theorem impl_within.calls (a0 : Int) (a1 : Int) (a2 : Int) (r : Bool) (w : World) (h : impl_within.f a0 a1 a2 = some r) :
  Calls Tryd.prog 54 #[.int .i64 a0, .int .i64 a1, .int .i64 a2] w fun e w' => e = .returned (.bool r) ∧ Drawn0 w w' := by
 have H := h; unfold impl_within.f at H; clear h
 by_cases c4 : a0 ≥ a1
 ·
  rw [if_pos c4] at H
  have c4b0 : decide (a1 ≤ a0) = true := decide_eq_true c4; clear c4; obtain rfl := Option.some.inj H
  go_enter Tryd.func54, Tryd.ntmps54
  go_wp2
  go_ret
  exact ⟨y0_17, y0_15⟩
 rw [if_neg c4] at H
 have c4b0 : decide (a1 ≤ a0) = false := decide_eq_false c4; clear c4; obtain rfl := Option.some.inj H
 go_enter Tryd.func54, Tryd.ntmps54
 go_wp2
 go_ret
 exact ⟨y0_17, y0_15⟩

/-! ### impl_ConfOk: function 30 -/
def impl_ConfOk.f (a0_0 : Int) (a0_1 : Int) : Option (Bool) := (impl_within.f a0_0 4 7).bind fun t505 => (if t505 = true then ((impl_within.f a0_1 1 6).bind fun t506 => (some t506)) else (some false))
set_option maxHeartbeats 8000000 in
set_option maxRecDepth 100000 in
theorem impl_ConfOk.calls (a0_0 : Int) (a0_1 : Int) (r : Bool) (w : World) (h : impl_ConfOk.f a0_0 a0_1 = some r) :
  Calls Tryd.prog 30 #[.agg #[.int .i64 a0_0, .int .i64 a0_1]] w fun e w' => e = .returned (.bool r) ∧ Below w.heap.size w w' := by
 have hu25 := Tryd.underlying25; have HB := Aside0.mk (Below.refl w.heap.size w)
 have H := h; unfold impl_ConfOk.f at H
 clear h
 go_enter Tryd.func30, Tryd.ntmps30
 have H' := Aside0.mk H; clear H
 go_upto_region 1 with (first | ((with_reducible refine gd 1 ?_); refine bL 1 #[.int .i64 a0_0, .int .i64 a0_1] 25 ?_; intro gb504 w2 _ _ _))
 have H := H'.out; clear H'; obtain ⟨t505, A3, H⟩ := oB H; (try dsimp only at H)
 by_cases c4 : t505 = true
 ·
  subst c4
  rw [if_pos rfl] at H
  obtain ⟨t506, A5, H⟩ := oB H; (try dsimp only at H); obtain rfl := Option.some.inj H
  go_wp2_with (first | ((with_reducible refine gate_callee (f := 54) rfl ?_); refine gD (some 5) Tryd.func54 (impl_within.calls (w := _) (h := A3.out)) ?_; intro w6 _) | (go_at_call 54; refine aD (impl_within.calls (w := _) (h := A5.out)) ?_; intro w7 _))
  go_ret
  exact ⟨y0_17, UpW.out⟩
 replace c4 := Bool.eq_false_iff.mpr c4; subst c4
 rw [if_neg (show ¬ (false = true) by decide)] at H
 obtain rfl := Option.some.inj H
 go_wp2_with (first | ((with_reducible refine gate_callee (f := 54) rfl ?_); refine gD (some 5) Tryd.func54 (impl_within.calls (w := _) (h := A3.out)) ?_; intro w8 _))
 go_ret
 exact ⟨y0_17, UpW.out⟩

/-! ### impl_Faults: function 31 -/
def impl_Faults.f (a0_0 : Int) (a0_1 : Int) : Option (Int) := (impl_ConfOk.f a0_0 a0_1).bind fun t508 => (if t508 = true then (some (wrap64 (Int.tdiv (wrap64 (a0_0 - 1)) 3))) else (some 0))
set_option maxHeartbeats 8000000 in
set_option maxRecDepth 100000 in
theorem impl_Faults.calls (a0_0 : Int) (a0_1 : Int) (r : Int) (w : World) (h : impl_Faults.f a0_0 a0_1 = some r) :
  Calls Tryd.prog 31 #[.agg #[.int .i64 a0_0, .int .i64 a0_1]] w fun e w' => e = .returned (.int .i64 r) ∧ Below w.heap.size w w' := by
 have hu25 := Tryd.underlying25; have HB := Aside0.mk (Below.refl w.heap.size w)
 have H := h; unfold impl_Faults.f at H
 clear h; obtain ⟨t508, A2, H⟩ := oB H; (try dsimp only at H)
 go_enter Tryd.func31, Tryd.ntmps31
 have H' := Aside0.mk H; clear H
 go_upto_if 5 with (first | ((with_reducible refine gd 1 ?_); refine bL 1 #[.int .i64 a0_0, .int .i64 a0_1] 25 ?_; intro gb507 w3 _ _ _) | ((with_reducible refine gate_callee (f := 30) rfl ?_); refine gC (some 4) Tryd.func30 (impl_ConfOk.calls (w := _) (h := A2.out)) ?_; intro w4 _))
 have H := H'.out; clear H'
 by_cases c5 : t508 = true
 ·
  subst c5
  rw [if_pos rfl] at H
  obtain rfl := Option.some.inj H
  go_wp2
  go_ret
  exact ⟨y0_17, UpW.out⟩
 replace c5 := Bool.eq_false_iff.mpr c5; subst c5
 rw [if_neg (show ¬ (false = true) by decide)] at H
 obtain rfl := Option.some.inj H
 go_wp2
 go_ret
 exact ⟨y0_17, UpW.out⟩

/-! ### impl_Quorum: function 8 -/
def impl_Quorum.f (a0_0 : Int) (a0_1 : Int) : Option (Int) := (impl_ConfOk.f a0_0 a0_1).bind fun t510 => (if t510 = true then ((impl_Faults.f a0_0 a0_1).bind fun t511 => (some (wrap64 (a0_0 - t511)))) else (some 0))
def impl_Quorum.T3 : Bool × List (List Nat × List Nat) := (true, [([], []), ([0], [0]), ([], []), ([2], [2]), ([1, 3], [1, 3]), ([4, 3, 0, 1, 2, 3, 4], [4])])
def impl_Quorum.B3 : List Nat := [0, 1, 0, 4, 15, 31]
theorem impl_Quorum.tab3 : rtab .any (opsOf Tryd.f8 3) = impl_Quorum.T3 := by kernel_rfl
theorem impl_Quorum.bits3 : waitsOk impl_Quorum.T3.2 impl_Quorum.B3 = true := by kernel_rfl
set_option maxHeartbeats 8000000 in
set_option maxRecDepth 100000 in
theorem impl_Quorum.calls (a0_0 : Int) (a0_1 : Int) (r : Int) (w : World) (h : impl_Quorum.f a0_0 a0_1 = some r) :
  Calls Tryd.prog 8 #[.agg #[.int .i64 a0_0, .int .i64 a0_1]] w fun e w' => e = .returned (.int .i64 r) ∧ Below w.heap.size w w' := by
 have hu25 := Tryd.underlying25; have HB := Aside0.mk (Below.refl w.heap.size w)
 have H := h; unfold impl_Quorum.f at H
 clear h; obtain ⟨t510, A2, H⟩ := oB H; (try dsimp only at H)
 go_enter Tryd.func8, Tryd.ntmps8
 have H' := Aside0.mk H; clear H
 go_upto_if 5 with (first | ((with_reducible refine gd 1 ?_); refine bL 1 #[.int .i64 a0_0, .int .i64 a0_1] 25 ?_; intro gb509 w3 _ _ _) | ((with_reducible refine gate_callee (f := 30) rfl ?_); refine gC (some 4) Tryd.func30 (impl_ConfOk.calls (w := _) (h := A2.out)) ?_; intro w4 _))
 have H := H'.out; clear H'
 by_cases c5 : t510 = true
 ·
  subst c5
  rw [if_pos rfl] at H
  obtain ⟨t511, A6, H⟩ := oB H; (try dsimp only at H); obtain rfl := Option.some.inj H
  try go_wp2
  refine sB [] impl_Quorum.tab3 impl_Quorum.bits3 ?_; intro w7 _ HT_ HW_
  refine pA 0 (some 6) (bz 6 1) HT_ ?_
  refine tB 1 (some 7) (bz 6 3) HT_ HW_ ?_
  refine tB 2 (some 8) (bz 6 7) HT_ HW_ ?_
  refine o1 3 (some 9) (bz 6 15) HT_ rfl (kC Tryd.func31 (impl_Faults.calls (w := _) (h := A6.out)) ?_); intro w8 _
  refine nA (some 9) ?_
  refine pA 4 (some 10) (bz 6 31) HT_ ?_
  refine pA 5 (some 2) (bz 6 63) HT_ ?_
  refine done_ (done_of HT_.out (by kernel_rfl)) ?_
  try go_wp2
  go_ret
  exact ⟨y0_17, UpW.out⟩
 replace c5 := Bool.eq_false_iff.mpr c5; subst c5
 rw [if_neg (show ¬ (false = true) by decide)] at H
 obtain rfl := Option.some.inj H
 go_wp2
 go_ret
 exact ⟨y0_17, UpW.out⟩

/-! ### spec_ConfOk: function 32 -/
def spec_ConfOk.f (a0_0 : Int) (a0_1 : Int) : Option (Bool) := (spec_l1In.f a0_0 4 7).bind fun t513 => (if t513 = true then ((spec_l1In.f a0_1 1 6).bind fun t514 => (some t514)) else (some false))
set_option maxHeartbeats 8000000 in
set_option maxRecDepth 100000 in
theorem spec_ConfOk.calls (a0_0 : Int) (a0_1 : Int) (r : Bool) (w : World) (h : spec_ConfOk.f a0_0 a0_1 = some r) :
  Calls Tryd.prog 32 #[.agg #[.int .i64 a0_0, .int .i64 a0_1]] w fun e w' => e = .returned (.bool r) ∧ Below w.heap.size w w' := by
 have hu25 := Tryd.underlying25; have HB := Aside0.mk (Below.refl w.heap.size w)
 have H := h; unfold spec_ConfOk.f at H
 clear h
 go_enter Tryd.func32, Tryd.ntmps32
 have H' := Aside0.mk H; clear H
 go_upto_region 1 with (first | ((with_reducible refine gd 1 ?_); refine bL 1 #[.int .i64 a0_0, .int .i64 a0_1] 25 ?_; intro gb512 w2 _ _ _))
 have H := H'.out; clear H'; obtain ⟨t513, A3, H⟩ := oB H; (try dsimp only at H)
 by_cases c4 : t513 = true
 ·
  subst c4
  rw [if_pos rfl] at H
  obtain ⟨t514, A5, H⟩ := oB H; (try dsimp only at H); obtain rfl := Option.some.inj H
  go_wp2_with (first | ((with_reducible refine gate_callee (f := 55) rfl ?_); refine gD (some 5) Tryd.func55 (spec_l1In.calls (w := _) (h := A3.out)) ?_; intro w6 _) | (go_at_call 55; refine aD (spec_l1In.calls (w := _) (h := A5.out)) ?_; intro w7 _))
  go_ret
  exact ⟨y0_17, UpW.out⟩
 replace c4 := Bool.eq_false_iff.mpr c4; subst c4
 rw [if_neg (show ¬ (false = true) by decide)] at H
 obtain rfl := Option.some.inj H
 go_wp2_with (first | ((with_reducible refine gate_callee (f := 55) rfl ?_); refine gD (some 5) Tryd.func55 (spec_l1In.calls (w := _) (h := A3.out)) ?_; intro w8 _))
 go_ret
 exact ⟨y0_17, UpW.out⟩

/-! ### spec_Quorum: function 9 -/
def spec_Quorum.f (a0_0 : Int) (a0_1 : Int) : Option (Int) := (spec_ConfOk.f a0_0 a0_1).bind fun t516 => (if t516 = true then (some (wrap64 (a0_0 - (wrap64 (Int.tdiv (wrap64 (a0_0 - 1)) 3))))) else (some 0))
set_option maxHeartbeats 8000000 in
set_option maxRecDepth 100000 in
theorem spec_Quorum.calls (a0_0 : Int) (a0_1 : Int) (r : Int) (w : World) (h : spec_Quorum.f a0_0 a0_1 = some r) :
  Calls Tryd.prog 9 #[.agg #[.int .i64 a0_0, .int .i64 a0_1]] w fun e w' => e = .returned (.int .i64 r) ∧ Below w.heap.size w w' := by
 have hu25 := Tryd.underlying25; have HB := Aside0.mk (Below.refl w.heap.size w)
 have H := h; unfold spec_Quorum.f at H
 clear h; obtain ⟨t516, A2, H⟩ := oB H; (try dsimp only at H)
 go_enter Tryd.func9, Tryd.ntmps9
 have H' := Aside0.mk H; clear H
 go_upto_if 5 with (first | ((with_reducible refine gd 1 ?_); refine bL 1 #[.int .i64 a0_0, .int .i64 a0_1] 25 ?_; intro gb515 w3 _ _ _) | ((with_reducible refine gate_callee (f := 32) rfl ?_); refine gC (some 4) Tryd.func32 (spec_ConfOk.calls (w := _) (h := A2.out)) ?_; intro w4 _))
 have H := H'.out; clear H'
 by_cases c5 : t516 = true
 ·
  subst c5
  rw [if_pos rfl] at H
  obtain rfl := Option.some.inj H
  go_wp2
  go_ret
  exact ⟨y0_17, UpW.out⟩
 replace c5 := Bool.eq_false_iff.mpr c5; subst c5
 rw [if_neg (show ¬ (false = true) by decide)] at H
 obtain rfl := Option.some.inj H
 go_wp2
 go_ret
 exact ⟨y0_17, UpW.out⟩

/-! ### impl_copyInts: function 56 -/
def impl_copyInts.f (l0 : List Int) : Option (List Int) := if ([] : List Int).length + l0.length < 17592186044416 then (some (([] : List Int) ++ l0)) else (none)
set_option maxHeartbeats 8000000 in
set_option maxRecDepth 100000 in
theorem impl_copyInts.calls (A0 : Option Addr) (c0 : Nat) (l0 : List Int) (r : List Int) (w : World) (hr0 : Kd.C (Kd.int .i64) w A0 l0.length l0) (hc0 : l0.length ≤ c0) (h : impl_copyInts.f l0 = some r) :
  Calls Tryd.prog 56 #[.slice A0 l0.length c0] w fun e w' => ∃ v0_ : Value, e = .returned (v0_) ∧ Kd.R (Kd.int .i64) 3 w' w.heap.size (fun _ => True) v0_ r ∧ Below w.heap.size w w' := by
 have HR0 := Aside0.mk hr0; have HC0 := Aside0.mk hc0; clear hr0 hc0; have HB := Aside0.mk (Below.refl w.heap.size w); have H := h; unfold impl_copyInts.f at H; clear h
 by_cases c2 : ([] : List Int).length + l0.length < 17592186044416
 ·
  rw [if_pos c2] at H
  have LMc2 := Aside0.mk c2; clear c2; obtain ⟨y517, hy517⟩ : ∃ y_ : List Int, y_ = (([] : List Int) ++ l0) := ⟨_, rfl⟩
  replace H : (some y517) = some r := by first | (rw [hy517]; with_reducible exact H) | (have H2_ := (Option.bind_some _ _).symm.trans H; rw [hy517]; with_reducible exact H2_) | (have H2_ := (Option.bind_some _ _).symm.trans H; with_reducible exact H2_) | with_reducible exact H | (rw [hy517]; exact H) | exact H
  have Ny517 := Aside0.mk hy517; clear hy517; obtain rfl := Option.some.inj H
  go_enter Tryd.func56, Tryd.ntmps56
  go_wp2_with (first | ((with_reducible refine gate_builtin (b := .append) (xs := #[.const (.slice none 0 0), .tmp 3]) rfl ?_); at_builtin; refine gR (w1 := w) (w3 := w) (w4 := w) (Kd.int .i64) (.const (.slice none 0 0)) (.tmp 3) 26 3 (.int .i64 0) 8 w Ny517 ⟨Kd.R_nil _ _ _ _ _⟩ (pC HR0) (by have := LMc2.out; omega) ?_ (ht := Tryd.underlying26) (hinfo := info3); intro Ao518 co518 w3 _ _ HO519))
  go_ret
  exact ⟨_, y0_17, rR HO519, UpW.out⟩
 rw [if_neg c2] at H
 exact absurd H (by simp)

/-! ### impl_copyQc: function 33 -/
def impl_copyQc.f (a0_0 : Int) (a0_1 : ByteArray) (l0_2 : List Int) : Option (Int × ByteArray × List Int) := (impl_copyInts.f l0_2).bind fun t522 => (some (a0_0, a0_1, t522))
set_option maxHeartbeats 8000000 in
set_option maxRecDepth 100000 in
theorem impl_copyQc.calls (a0_0 : Int) (a0_1 : ByteArray) (A0_2 : Option Addr) (c0_2 : Nat) (l0_2 : List Int) (r1 : Int) (r2 : ByteArray) (r3 : List Int) (w : World) (hr0_2 : Kd.C (Kd.int .i64) w A0_2 l0_2.length l0_2) (hc0_2 : l0_2.length ≤ c0_2) (h : impl_copyQc.f a0_0 a0_1 l0_2 = some (r1, r2, r3)) :
  Calls Tryd.prog 33 #[.agg #[.int .i64 a0_0, .string a0_1, .slice A0_2 l0_2.length c0_2]] w fun e w' => ∃ v2_ : Value, e = .returned (.agg #[.int .i64 r1, .string r2, v2_]) ∧ Kd.R (Kd.int .i64) 3 w' w.heap.size (fun _ => True) v2_ r3 ∧ Below w.heap.size w w' := by
 have hu32 := Tryd.underlying32; have HR0_2 := Aside0.mk hr0_2; have HC0_2 := Aside0.mk hc0_2; clear hr0_2 hc0_2; have HB := Aside0.mk (Below.refl w.heap.size w)
 have H := h; unfold impl_copyQc.f at H
 clear h; obtain ⟨t522, A2, H⟩ := oB H; (try dsimp only at H)
 simp only [Option.some.injEq, Prod.mk.injEq] at H
 obtain ⟨rfl, rfl, rfl⟩ := H
 go_enter Tryd.func33, Tryd.ntmps33
 go_wp2_with (first | ((with_reducible refine gd 1 ?_); refine bL 1 #[.int .i64 a0_0, .string a0_1, .slice A0_2 l0_2.length c0_2] 32 ?_; intro gb520 w3 _ _ _) | ((with_reducible refine gd 2 ?_); refine bL 2 #[.int .i64 0, .string (⟨#[]⟩ : ByteArray), .slice none 0 0] 32 ?_; intro gb521 w4 _ _ _) | ((with_reducible refine gate_callee (f := 56) rfl ?_); refine gC1 (some 5) Tryd.func56 (impl_copyInts.calls (hr0 := pC HR0_2) (hc0 := HC0_2.out) (w := _) (h := A2.out)) ?_; intro Ao523 co523 w5 _ HO524))
 refine bodyPost_ret (results_cell_row rfl _ _ gb521 32 #[.int .i64 a0_0, .string a0_1, .slice Ao523 t522.length co523] (0, 0) _ rfl xB Tryd.underlying32 rfl (by kernel_rfl)) rfl ?_
 exact ⟨_, y0_17, rR HO524, UpW.out⟩

/-! ### slices_Equal_int_int: function 78 -/
def slices_Equal_int_int.l0 : Nat → List Int → List Int → Int → Int → Option (Bool)
 | 0, _, _, _, _ => none
 | k + 1, x0, x1, x12, x13 => if x13 < x12 then (if 0 ≤ x13 then (if x13 < (x0.length : Int) then (if x13 < (x1.length : Int) then (if (rd x0 x13) = (rd x1 x13) then (slices_Equal_int_int.l0 k x0 x1 x12 (wrap64 (x13 + 1))) else (some false)) else (none)) else (none)) else (none)) else (some true)
def slices_Equal_int_int.f (k : Nat) (l0 : List Int) (l1 : List Int) : Option (Bool) := if (l0.length : Int) = (l1.length : Int) then (slices_Equal_int_int.l0 k l0 l1 (l0.length : Int) 0) else (some false)
theorem slices_Equal_int_int.mono_l : ∀ k, (∀ y0 y1 y2 y3, LeO (slices_Equal_int_int.l0 k y0 y1 y2 y3) (slices_Equal_int_int.l0 (k + 1) y0 y1 y2 y3))
 | 0 => fun _ _ _ _ r h => by simp [slices_Equal_int_int.l0] at h
 | k + 1 => by
  have ih0 := slices_Equal_int_int.mono_l k
  intro y0 y1 y2 y3
  unfold slices_Equal_int_int.l0
  repeat' first | (with_reducible exact ih0 _ _ _ _) | (with_reducible exact LeO.refl _) | (with_reducible exact LeO.none _) | (with_reducible refine LeO.ite ?_ ?_) | (with_reducible refine LeO.bind ?_ (fun _ => ?_))
theorem slices_Equal_int_int.mono : ∀ a0 a1 k, LeO (slices_Equal_int_int.f k a0 a1) (slices_Equal_int_int.f (k + 1) a0 a1) := by
 intro a0 a1 k
 have ih0 := slices_Equal_int_int.mono_l k
 unfold slices_Equal_int_int.f
 repeat' first | (with_reducible exact ih0 _ _ _ _) | (with_reducible exact LeO.refl _) | (with_reducible exact LeO.none _) | (with_reducible refine LeO.ite ?_ ?_) | (with_reducible refine LeO.bind ?_ (fun _ => ?_))
set_option maxHeartbeats 8000000 in
set_option maxRecDepth 100000 in
theorem slices_Equal_int_int.calls (k : Nat) (A0 : Option Addr) (c0 : Nat) (l0 : List Int) (A1 : Option Addr) (c1 : Nat) (l1 : List Int) (r : Bool) (w : World) (hr0 : Kd.C (Kd.int .i64) w A0 l0.length l0) (hc0 : l0.length ≤ c0) (hr1 : Kd.C (Kd.int .i64) w A1 l1.length l1) (hc1 : l1.length ≤ c1) (h : slices_Equal_int_int.f k l0 l1 = some r) :
  Calls Tryd.prog 78 #[.slice A0 l0.length c0, .slice A1 l1.length c1] w fun e w' => e = .returned (.bool r) ∧ Drawn0 w w' := by
 have HR0 := Aside0.mk hr0; have HC0 := Aside0.mk hc0; clear hr0 hc0; have HR1 := Aside0.mk hr1; have HC1 := Aside0.mk hc1; clear hr1 hc1; have H := h; unfold slices_Equal_int_int.f at H; clear h
 by_cases c3 : (l0.length : Int) = (l1.length : Int)
 ·
  rw [if_pos c3] at H
  have c3b0 : ((l0.length : Int) == (l1.length : Int)) = true := beq_iff_eq.mpr c3; have c3b1 : ((l0.length : Int) != (l1.length : Int)) = false := bne_eq_false_iff_eq.mpr c3
  have c3b2 : (l0.length == l1.length) = true := by first | simpa using c3 | (simp at c3 ⊢; omega)
  clear c3; have H' := Aside0.mk H; clear H
  go_enter Tryd.func78, Tryd.ntmps78
  go_wp2
  repeat (go_quiet (fail); try go_wp2)
  go_loopg [13] k (fun kq v13 w' => ∃ (x13_1 : Int), v13 = .int .i64 x13_1 ∧ Aside0 (slices_Equal_int_int.l0 kq l0 l1 (l0.length : Int) x13_1 = some r) ∧ Aside0 (kq ≤ k) ∧ Drawn0 w w')
  case atStart => exact ⟨(0), y0_17, H', ⟨Nat.le_refl _⟩, y0_15⟩
  case round =>
   clear H'
   try clear c1
   try clear p2
   try clear c3
   try clear c3b0
   try clear c3b1
   try clear c3b2
   obtain ⟨x13_1, rfl, HA, HK1, ⟨m1, rfl⟩⟩ := hrel; cases gk with
   | zero => exact absurd HA.out (by simp [slices_Equal_int_int.l0])
   | succ k1 =>
    have H := HA.out; clear HA
    simp only [slices_Equal_int_int.l0] at H
    by_cases c4 : x13_1 < (l0.length : Int)
    ·
     rw [if_pos c4] at H
     have c4b0 : decide (x13_1 < (l0.length : Int)) = true := decide_eq_true c4; clear c4
     by_cases c5 : 0 ≤ x13_1
     rotate_left
     ·
      rw [if_neg c5] at H
      exact absurd H (by simp)
     rw [if_pos c5] at H
     have c5b0 : decide (0 ≤ x13_1) = true := decide_eq_true c5; clear c5
     by_cases c6 : x13_1 < (l0.length : Int)
     rotate_left
     ·
      rw [if_neg c6] at H
      exact absurd H (by simp)
     rw [if_pos c6] at H
     have c6b0 : decide (x13_1 < (l0.length : Int)) = true := decide_eq_true c6; clear c6
     by_cases c7 : x13_1 < (l1.length : Int)
     rotate_left
     ·
      rw [if_neg c7] at H
      exact absurd H (by simp)
     rw [if_pos c7] at H
     have c7b0 : decide (x13_1 < (l1.length : Int)) = true := decide_eq_true c7; clear c7
     by_cases c8 : (rd l0 x13_1) = (rd l1 x13_1)
     ·
      rw [if_pos c8] at H
      have c8b0 : ((rd l0 x13_1) == (rd l1 x13_1)) = true := beq_iff_eq.mpr c8; have c8b1 : ((rd l0 x13_1) != (rd l1 x13_1)) = false := bne_eq_false_iff_eq.mpr c8; clear c8; have H' := Aside0.mk H; clear H; have p525 : 0 ≤ (x13_1 : Int) := of_decide_eq_true y0_16; have q525 : x13_1 < (l0.length : Int) := of_decide_eq_true y0_16; obtain ⟨ad525, e525, hx525_0⟩ := Kd.at_int HR0.out x13_1 p525 q525; cases e525; replace p525 := eq_true p525; replace q525 := eq_true q525; have p526 : 0 ≤ (x13_1 : Int) := of_decide_eq_true y0_16; have q526 : x13_1 < (l1.length : Int) := of_decide_eq_true y0_16; obtain ⟨ad526, e526, hx526_0⟩ := Kd.at_int HR1.out x13_1 p526 q526; cases e526; replace p526 := eq_true p526; replace q526 := eq_true q526
      go_wp2
      repeat (go_quiet (fail); try go_wp2)
      go_roundg k1
      case measure => have := HK1.out; omega
      case rel => exact ⟨(wrap64 (x13_1 + 1)), y0_17, H', ⟨y0_19⟩, y0_15⟩
     rw [if_neg c8] at H
     have c8b0 : ((rd l0 x13_1) == (rd l1 x13_1)) = false := beq_eq_false_iff_ne.mpr c8; have c8b1 : ((rd l0 x13_1) != (rd l1 x13_1)) = true := bne_iff_ne.mpr c8; obtain rfl := Option.some.inj H; have p525 : 0 ≤ (x13_1 : Int) := of_decide_eq_true y0_16; have q525 : x13_1 < (l0.length : Int) := of_decide_eq_true y0_16; obtain ⟨ad525, e525, hx525_0⟩ := Kd.at_int HR0.out x13_1 p525 q525; cases e525; replace p525 := eq_true p525; replace q525 := eq_true q525; have p526 : 0 ≤ (x13_1 : Int) := of_decide_eq_true y0_16; have q526 : x13_1 < (l1.length : Int) := of_decide_eq_true y0_16; obtain ⟨ad526, e526, hx526_0⟩ := Kd.at_int HR1.out x13_1 p526 q526; cases e526; replace p526 := eq_true p526; replace q526 := eq_true q526
     go_wp2
     repeat (go_quiet (fail); try go_wp2)
     go_ret
     exact ⟨y0_17, y0_15⟩
    rw [if_neg c4] at H
    have c4b0 : decide (x13_1 < (l0.length : Int)) = false := decide_eq_false c4; clear c4; obtain rfl := Option.some.inj H
    go_wp2
    repeat (go_quiet (fail); try go_wp2)
    go_ret
    exact ⟨y0_17, y0_15⟩
 rw [if_neg c3] at H
 have c3b0 : ((l0.length : Int) == (l1.length : Int)) = false := beq_eq_false_iff_ne.mpr c3; have c3b1 : ((l0.length : Int) != (l1.length : Int)) = true := bne_iff_ne.mpr c3
 have c3b2 : (l0.length == l1.length) = false := by first | simpa using c3 | (simp at c3 ⊢; omega)
 obtain rfl := Option.some.inj H
 go_enter Tryd.func78, Tryd.ntmps78
 go_wp2
 repeat (go_quiet (fail); try go_wp2)
 go_ret
 exact ⟨y0_17, y0_15⟩

/-! ### impl_QcSame: function 57 -/
def impl_QcSame.f (k : Nat) (a0_0 : Int) (a0_1 : ByteArray) (l0_2 : List Int) (a1_0 : Int) (a1_1 : ByteArray) (l1_2 : List Int) : Option (Bool) := if a0_0 = a1_0 then (if a0_1.toList = a1_1.toList then ((slices_Equal_int_int.f k l0_2 l1_2).bind fun t529 => (some t529)) else (some false)) else (some false)
theorem impl_QcSame.mono : ∀ a0 a1 a2 a3 a4 a5 k, LeO (impl_QcSame.f k a0 a1 a2 a3 a4 a5) (impl_QcSame.f (k + 1) a0 a1 a2 a3 a4 a5) := by
 intro a0 a1 a2 a3 a4 a5 k
 unfold impl_QcSame.f
 repeat' first | (with_reducible exact slices_Equal_int_int.mono _ _ _) | (with_reducible exact LeO.refl _) | (with_reducible exact LeO.none _) | (with_reducible refine LeO.ite ?_ ?_) | (with_reducible refine LeO.bind ?_ (fun _ => ?_))
set_option maxHeartbeats 8000000 in
set_option maxRecDepth 100000 in
theorem impl_QcSame.calls (k : Nat) (a0_0 : Int) (a0_1 : ByteArray) (A0_2 : Option Addr) (c0_2 : Nat) (l0_2 : List Int) (a1_0 : Int) (a1_1 : ByteArray) (A1_2 : Option Addr) (c1_2 : Nat) (l1_2 : List Int) (r : Bool) (w : World) (hr0_2 : Kd.C (Kd.int .i64) w A0_2 l0_2.length l0_2) (hc0_2 : l0_2.length ≤ c0_2) (hr1_2 : Kd.C (Kd.int .i64) w A1_2 l1_2.length l1_2) (hc1_2 : l1_2.length ≤ c1_2) (h : impl_QcSame.f k a0_0 a0_1 l0_2 a1_0 a1_1 l1_2 = some r) :
  Calls Tryd.prog 57 #[.agg #[.int .i64 a0_0, .string a0_1, .slice A0_2 l0_2.length c0_2], .agg #[.int .i64 a1_0, .string a1_1, .slice A1_2 l1_2.length c1_2]] w fun e w' => e = .returned (.bool r) ∧ Below w.heap.size w w' := by
 have hu32 := Tryd.underlying32; have HR0_2 := Aside0.mk hr0_2; have HC0_2 := Aside0.mk hc0_2; clear hr0_2 hc0_2; have HR1_2 := Aside0.mk hr1_2; have HC1_2 := Aside0.mk hc1_2; clear hr1_2 hc1_2; have HB := Aside0.mk (Below.refl w.heap.size w)
 have H := h; unfold impl_QcSame.f at H
 clear h
 go_enter Tryd.func57, Tryd.ntmps57
 have H' := Aside0.mk H; clear H
 go_upto_region 1 with (first | ((with_reducible refine gd 2 ?_); refine bL 2 #[.int .i64 a0_0, .string a0_1, .slice A0_2 l0_2.length c0_2] 32 ?_; intro gb527 w3 _ _ _) | ((with_reducible refine gd 3 ?_); refine bL 3 #[.int .i64 a1_0, .string a1_1, .slice A1_2 l1_2.length c1_2] 32 ?_; intro gb528 w4 _ _ _))
 have H := H'.out; clear H'
 by_cases c5 : a0_0 = a1_0
 ·
  rw [if_pos c5] at H
  have c5b0 : (a0_0 == a1_0) = true := beq_iff_eq.mpr c5; have c5b1 : (a0_0 != a1_0) = false := bne_eq_false_iff_eq.mpr c5; clear c5
  (first | rw [c5b0] | (simp only [i64_w, i32_w]; rw [c5b0]) | skip)
  by_cases c6 : a0_1.toList = a1_1.toList
  ·
   rw [if_pos c6] at H
   have c6b0 : (a0_1.toList == a1_1.toList) = true := beq_iff_eq.mpr c6; have c6b1 : (a0_1.toList != a1_1.toList) = false := bne_eq_false_iff_eq.mpr c6; clear c6; obtain ⟨t529, A7, H⟩ := oB H; (try dsimp only at H); obtain rfl := Option.some.inj H
   go_wp2_with (first | (go_at_call 78; refine aD (slices_Equal_int_int.calls (hr0 := pC HR0_2) (hc0 := HC0_2.out) (hr1 := pC HR1_2) (hc1 := HC1_2.out) (w := _) (h := A7.out)) ?_; intro w8 _))
   go_ret
   exact ⟨y0_17, UpW.out⟩
  rw [if_neg c6] at H
  have c6b0 : (a0_1.toList == a1_1.toList) = false := beq_eq_false_iff_ne.mpr c6; have c6b1 : (a0_1.toList != a1_1.toList) = true := bne_iff_ne.mpr c6; obtain rfl := Option.some.inj H
  go_wp2
  go_ret
  exact ⟨y0_17, UpW.out⟩
 rw [if_neg c5] at H
 have c5b0 : (a0_0 == a1_0) = false := beq_eq_false_iff_ne.mpr c5; have c5b1 : (a0_0 != a1_0) = true := bne_iff_ne.mpr c5
 (first | rw [c5b0] | (simp only [i64_w, i32_w]; rw [c5b0]) | skip)
 obtain rfl := Option.some.inj H
 go_wp2
 go_ret
 exact ⟨y0_17, UpW.out⟩

/-! ### impl_QcFirst: function 58 -/
def impl_QcFirst.f  : Option (Int × ByteArray × List Int) := some (0, (⟨#[]⟩ : ByteArray), ([] : List Int))
set_option maxHeartbeats 8000000 in
set_option maxRecDepth 100000 in
theorem impl_QcFirst.calls  (r1 : Int) (r2 : ByteArray) (r3 : List Int) (w : World) (h : impl_QcFirst.f  = some (r1, r2, r3)) :
  Calls Tryd.prog 58 #[] w fun e w' => ∃ v2_ : Value, e = .returned (.agg #[.int .i64 r1, .string r2, v2_]) ∧ Kd.R (Kd.int .i64) 3 w' w.heap.size (fun _ => True) v2_ r3 ∧ Below w.heap.size w w' := by
 have hu32 := Tryd.underlying32; have HB := Aside0.mk (Below.refl w.heap.size w); have H := h; unfold impl_QcFirst.f at H; clear h
 simp only [Option.some.injEq, Prod.mk.injEq] at H
 obtain ⟨rfl, rfl, rfl⟩ := H
 go_enter Tryd.func58, Tryd.ntmps58
 go_wp2_with (first | ((with_reducible refine gd 0 ?_); refine bL 0 #[.int .i64 0, .string (⟨#[]⟩ : ByteArray), .slice none 0 0] 32 ?_; intro gb530 w1 _ _ _))
 refine bodyPost_ret (results_cell_row rfl _ _ gb530 32 #[.int .i64 0, .string (⟨#[]⟩ : ByteArray), .slice none 0 0] (0, 0) _ rfl xB Tryd.underlying32 rfl (by kernel_rfl)) rfl ?_
 exact ⟨_, y0_17, Kd.R_nil _ _ _ _ _, UpW.out⟩

/-! ### strings_Split: function 95 -/

/-! ### impl_Split: function 86 -/
def impl_Split.f (a0 : ByteArray) (a1 : Int) : Option (List ByteArray) := (strings_Split.f a0 (strOfNums (([a1] : List Int)))).bind fun t534 => (some t534)
set_option maxHeartbeats 8000000 in
set_option maxRecDepth 100000 in
theorem impl_Split.calls (a0 : ByteArray) (a1 : Int) (r : List ByteArray) (w : World) (h : impl_Split.f a0 a1 = some r) (hG : Glob w := by exact gG HG HB) :
  Calls Tryd.prog 86 #[.string a0, .int .u8 a1] w fun e w' => ∃ v0_ : Value, e = .returned (v0_) ∧ Kd.R Kd.string 9 w' w.heap.size (fun _ => True) v0_ r ∧ Below w.heap.size w w' := by
 have HG := Aside0.mk hG; clear hG; have HB := Aside0.mk (Below.refl w.heap.size w)
 have H := h; unfold impl_Split.f at H
 clear h; obtain ⟨y531, hy531⟩ : ∃ y_ : List Int, y_ = (([a1] : List Int)) := ⟨_, rfl⟩
 replace H : ((strings_Split.f a0 (strOfNums y531)).bind fun t534 => (some t534)) = some r := by first | (rw [hy531]; with_reducible exact H) | (have H2_ := (Option.bind_some _ _).symm.trans H; rw [hy531]; with_reducible exact H2_) | (have H2_ := (Option.bind_some _ _).symm.trans H; with_reducible exact H2_) | with_reducible exact H | (rw [hy531]; exact H) | exact H
 have Ny531 := Aside0.mk hy531; clear hy531; obtain ⟨t534, A3, H⟩ := oB H; (try dsimp only at H); obtain rfl := Option.some.inj H
 go_enter Tryd.func86, Tryd.ntmps86
 go_wp2_with (first | ((with_reducible refine gate_dst (N := 7) rfl ?_); refine Kd.R_lit (Kd.int .u8) _ 5 ?hg (N := 7) ?hd (xs := ([a1] : List Int)) (inner := [.int .u8 a1]) (ok := fun _ => True) (okp := fun _ => True) ?hr ?hp (fun _ hk => hk) trivial (Below.refl _ _) (Nat.le_refl _) (by simp) ?_; (case hd => rfl); (case hg => rfl); (case hr => first | (go_simp; done) | (go_simp; rfl)); (case hp => exact (Reps.one (show Kd.M (Kd.int .u8) _ _ _ a1 [.int .u8 a1] from rfl) (Reps.none _ _))); intro v532 w4 ho5 hb hg_ hnew_; clear hg_ hnew_; (first | rw [← Ny531.out] at ho5 | (simp only [Int.reduceToNat] at ho5; rw [← Ny531.out] at ho5)); have HO533 := Aside0.mk (Kd.R_lower ho5 (below_size (bI HB.out))); replace HB := bs HB hb; clear hb ho5; have hcv6 := own_string (P := Tryd.prog) Tryd.underlying22 Tryd.underlying5 Tryd.underlying9 (Kd.own_of_R HO533.out)) | ((with_reducible refine gate_callee (f := 95) rfl ?_); refine gB (some 9) Tryd.func95 #[.string a0, .string (strOfNums y531)] ?_; (with_reducible refine (strings_Split.calls a0 (strOfNums y531) t534 _ A3.out).mono ?_); rintro e w7 ⟨v535, rfl, ho0, hb⟩; refine ⟨_, rfl, ?_⟩; replace HO533 := rb HO533 hb; have HO536 := Aside0.mk (Kd.R_lower ho0 (below_size (bI HB.out))); replace HB := bs HB hb; (try clear hb); (try clear ho0)))
 go_ret
 exact ⟨_, y0_13, by (with_reducible repeat (first | apply Kd.R_alloc | apply Kd.R_drewN | apply Kd.R_drew)); exact HO536.out, bI HB.out⟩

/-! ### strings_Cut: function 87 -/

/-! ### strconv_Itoa_102: function 102 -/

/-! ### impl_Digits: function 97 -/
def impl_Digits.f (a0 : Int) : Option (ByteArray) := (strconv_Itoa_102.f a0).bind fun t537 => (some t537)
set_option maxHeartbeats 8000000 in
set_option maxRecDepth 100000 in
theorem impl_Digits.calls (a0 : Int) (r : ByteArray) (w : World) (h : impl_Digits.f a0 = some r) (hG : Glob w := by exact gG HG HB) :
  Calls Tryd.prog 97 #[.int .i64 a0] w fun e w' => e = .returned (.string r) ∧ Below w.heap.size w w' := by
 have HG := Aside0.mk hG; clear hG; have HB := Aside0.mk (Below.refl w.heap.size w)
 have H := h; unfold impl_Digits.f at H
 clear h; obtain ⟨t537, A2, H⟩ := oB H; (try dsimp only at H); obtain rfl := Option.some.inj H
 go_enter Tryd.func97, Tryd.ntmps97
 go_wp2_with (first | ((with_reducible refine gate_callee (f := 102) rfl ?_); refine gC (some 4) Tryd.func102 (strconv_Itoa_102.calls (w := _) (h := A2.out)) ?_; intro w3 _))
 go_ret
 exact ⟨y0_17, UpW.out⟩

end Go.Proofs.YtnpbopadajbopaaDoor.PFnTooFew
