-- By a program of this session, out of the translation (the print of the kit, with turns of its own). Lean checks it.
import Derived.Test.YtnpbopadajbopaaGreatDoorPFnBlocksx0
import Derived.Test.YtnpbopadajbopaaGreatDoorPFnBlocksx3
import Derived.Test.YtnpbopadajbopaaGreatDoorPFnBlocksx5
namespace Go.Proofs.YtnpbopadajbopaaGreatDoor.PFnBlocks
open Go.RowKit Go.Proofs.YtnpbopadajbopaaGreatDoorW.PrintWords Go.Proofs.YtnpbopadajbopaaGreatDoorW.PrintLast Go.Proofs.YtnpbopadajbopaaGreatDoorW.PrintMore
attribute [local go_sem] max2_int min2_int max_two min_two max_three min_three max_four min_four   -- for this text's walks alone
attribute [local go_sem] cell_in frozen_in
set_option synthInstance.maxSize 1000000
set_option synthInstance.maxHeartbeats 2000000
set_option linter.unusedVariables false
set_option linter.unusedSimpArgs false

/-! ### spec_ViewOf: function 127 -/
def spec_ViewOf.f (k : Nat) (a0 : ByteArray) : Option (Int) := (spec_Steps.f k a0).bind fun bt392 => (if bt392.2 = true then (if (bt392.1.length : Int) = 0 then (some 0) else (if 0 ≤ (wrap64 ((bt392.1.length : Int) - 1)) then (if (wrap64 ((bt392.1.length : Int) - 1)) < (bt392.1.length : Int) then (some ((rd_T150 bt392.1 (wrap64 ((bt392.1.length : Int) - 1))).f0)) else (none)) else (none))) else (some 0))
theorem spec_ViewOf.mono : ∀ a0 k, LeO (spec_ViewOf.f k a0) (spec_ViewOf.f (k + 1) a0) := by
 intro a0 k
 unfold spec_ViewOf.f
 repeat' first | (with_reducible exact spec_Steps.mono _ _) | (with_reducible exact LeO.refl _) | (with_reducible exact LeO.none _) | (with_reducible refine LeO.ite ?_ ?_) | (with_reducible refine LeO.bind ?_ (fun _ => ?_))
set_option maxHeartbeats 8000000 in
set_option maxRecDepth 100000 in
theorem spec_ViewOf.calls (k : Nat) (a0 : ByteArray) (r : Int) (w : World) (h : spec_ViewOf.f k a0 = some r) :
  Calls Tryz.prog 127 #[.string a0] w fun e w' => e = .returned (.int .i64 r) ∧ Below w.heap.size w w' := by
 have HB := Aside0.mk (Below.refl w.heap.size w)
 have H : ((spec_Steps.f k a0).bind fun bt392 => (if bt392.2 = true then (if (bt392.1.length : Int) = 0 then (some 0) else (if 0 ≤ (wrap64 ((bt392.1.length : Int) - 1)) then (if (wrap64 ((bt392.1.length : Int) - 1)) < (bt392.1.length : Int) then (some ((rd_T150 bt392.1 (wrap64 ((bt392.1.length : Int) - 1))).f0)) else (none)) else (none))) else (some 0))) = some r := h
 clear h; obtain ⟨⟨t392, t393⟩, A20, H⟩ := Option.bind_eq_some_iff.mp H
 try dsimp only at H
 have A2 := Aside0.mk A20; clear A20
 by_cases c3 : t393 = true
 ·
  subst c3
  rw [if_pos rfl] at H
  by_cases c4 : (t392.length : Int) = 0
  ·
   rw [if_pos c4] at H
   have c4b0 : ((t392.length : Int) == 0) = true := beq_iff_eq.mpr c4; have c4b1 : ((t392.length : Int) != 0) = false := bne_eq_false_iff_eq.mpr c4; clear c4; obtain rfl := Option.some.inj H
   go_enter Tryz.func127, Tryz.ntmps127
   go_wp2_with (first | ((with_reducible refine gate_callee (f := 131) rfl ?_); refine gB (some 7) Tryz.func131 #[.string a0] ?_; (with_reducible refine (spec_Steps.calls k a0 t392 true _ A2.out).mono ?_); rintro e w5 ⟨v394, rfl, ho0, hb⟩; refine ⟨_, rfl, ?_⟩; have HO395 := Aside0.mk (Kd.S_lower ho0 (below_size (bI HB.out))); replace HB := bs HB hb; (try clear hb); (try clear ho0); obtain ⟨Ao6, co6, eo6⟩ := Kd.S_slice HO395.out; subst eo6))
   go_ret
   exact ⟨y0_14, bI HB.out⟩
  rw [if_neg c4] at H
  have c4b0 : ((t392.length : Int) == 0) = false := beq_eq_false_iff_ne.mpr c4; have c4b1 : ((t392.length : Int) != 0) = true := bne_iff_ne.mpr c4
  have c4b2 : ¬ (t392 = []) := fun h_ => c4 (by rw [h_]; rfl)
  obtain ⟨ji7, hji7⟩ : ∃ j_ : Int, (wrap64 ((t392.length : Int) - 1)) = j_ := ⟨_, rfl⟩
  replace H : (if 0 ≤ (ji7) then (if (ji7) < (t392.length : Int) then (some ((rd_T150 t392 (ji7)).f0)) else (none)) else (none)) = some r := by first | (rw [hji7] at H; exact H) | (simp only [hji7] at H ⊢; exact H)
  (try rw [hji7] at A2)
  have hji7w : (IntKind.i64.wrap ((t392.length : Int) - 1)) = ji7 := (i64_w _).trans hji7
  by_cases c8 : 0 ≤ (ji7)
  rotate_left
  ·
   rw [if_neg c8] at H
   exact absurd H (by simp)
  rw [if_pos c8] at H
  have c8b0 : decide (0 ≤ (ji7)) = true := decide_eq_true c8; clear c8
  by_cases c9 : (ji7) < (t392.length : Int)
  rotate_left
  ·
   rw [if_neg c9] at H
   exact absurd H (by simp)
  rw [if_pos c9] at H
  have c9b0 : decide ((ji7) < (t392.length : Int)) = true := decide_eq_true c9; clear c9; obtain rfl := Option.some.inj H
  go_enter Tryz.func127, Tryz.ntmps127
  go_wp2_with (first | ((with_reducible refine gate_callee (f := 131) rfl ?_); refine gB (some 7) Tryz.func131 #[.string a0] ?_; (with_reducible refine (spec_Steps.calls k a0 t392 true _ A2.out).mono ?_); rintro e w10 ⟨v394, rfl, ho0, hb⟩; refine ⟨_, rfl, ?_⟩; have HO395 := Aside0.mk (Kd.S_lower ho0 (below_size (bI HB.out))); replace HB := bs HB hb; (try clear hb); (try clear ho0); obtain ⟨Ao11, co11, eo11⟩ := Kd.S_slice HO395.out; subst eo11; have p396 : 0 ≤ ((ji7) : Int) := of_decide_eq_true y0_17; have q396 : (ji7) < (t392.length : Int) := of_decide_eq_true y0_17; obtain ⟨ad396, A396_1, c396_1, e396, hx396_0, hx396_1, hl396_1, hi396_1⟩ := at_T150 (Kd.S_reads' HO395.out).2.2 (ji7) p396 q396; cases e396; obtain ⟨ce396, hce396, hMe396, hcc396⟩ := Kd.S_get HO395.out z150 (ji7) p396 (by first | exact q396 | exact of_decide_eq_true y0_17 | (have e_ := (Kd.S_reads' HO395.out).1; omega)); obtain ⟨ve396_1, rfl, ge396_1⟩ := k150_openM hMe396; have hv396_1 := hcc396 1 _ rfl; rw [add_field _ _ 1 (by omega)] at hv396_1; replace hv396_1 := Option.some.inj (hv396_1.symm.trans hx396_1); rw [hv396_1] at ge396_1; have HL396_1 := Aside0.mk (show Kd.R k204 204 _ _ _ _ ((rd_T150 t392 (ji7)).f1) from ge396_1); clear hv396_1 ge396_1; clear hcc396 hce396; have HR396_1 := Aside0.mk hi396_1; have HC396_1 := Aside0.mk hl396_1; clear hi396_1 hl396_1; replace p396 := eq_true p396; replace q396 := eq_true q396))
  go_ret
  exact ⟨by first | rfl | (simp [errW_none, errW_some] <;> rfl) | (simp only [← hji7]; first | rfl | (simp [errW_none, errW_some] <;> rfl)) | (simp [*, errW_none, errW_some] <;> rfl), bI HB.out⟩
 replace c3 := Bool.eq_false_iff.mpr c3; subst c3
 rw [if_neg (show ¬ (false = true) by decide)] at H
 obtain rfl := Option.some.inj H
 go_enter Tryz.func127, Tryz.ntmps127
 go_wp2_with (first | ((with_reducible refine gate_callee (f := 131) rfl ?_); refine gB (some 7) Tryz.func131 #[.string a0] ?_; (with_reducible refine (spec_Steps.calls k a0 t392 false _ A2.out).mono ?_); rintro e w12 ⟨v394, rfl, ho0, hb⟩; refine ⟨_, rfl, ?_⟩; have HO395 := Aside0.mk (Kd.S_lower ho0 (below_size (bI HB.out))); replace HB := bs HB hb; (try clear hb); (try clear ho0)))
 go_ret
 exact ⟨y0_14, bI HB.out⟩

/-! ### spec_l7DrawOf: function 189 -/
def spec_l7DrawOf.l0 : Nat → Int → List Int → Int → Int → Int → Int → Int → ByteArray → List Int → Option (Int × ByteArray × List Int × Int × Int)
 | 0, _, _, _, _, _, _, _, _, _ => none
 | k + 1, x8, x1000, x1001, x1002, x398000, x398001, x401000, x401001, x401002 => if x8 < x398000 then (if x401002.length < 17592186044416 then (spec_l7DrawOf.l0 k (wrap64 (x8 + 1)) x1000 x1001 x1002 x398000 x398001 x401000 x401001 (x401002 ++ [x8])) else (none)) else ((spec_l1Once.f x1000 x1001 x1002 2).bind fun bt404 => (if bt404.1 = true then (if (x401002.length : Int) > 0 then ((spec_l1Below.f x1000 bt404.2.1 bt404.2.2 (x401002.length : Int)).bind fun bt407 => ((some (([] : List Int) : List Int)).bind fun y410 => (if 0 ≤ bt407.1 then (if bt407.1 ≤ (x401002.length : Int) then ((some (x401002.take (bt407.1 : Int).toNat : List Int)).bind fun y413 => (if y410.length + y413.length < 17592186044416 then ((some (y410 ++ y413 : List Int)).bind fun y417 => (if 0 ≤ (wrap64 (bt407.1 + 1)) then (if (wrap64 (bt407.1 + 1)) ≤ (x401002.length : Int) then ((some (x401002.drop ((wrap64 (bt407.1 + 1)) : Int).toNat : List Int)).bind fun y420 => (if y417.length + y420.length < 17592186044416 then (some (x401000, x401001, (y417 ++ y420), bt407.2.1, bt407.2.2)) else (none))) else (none)) else (none))) else (none))) else (none)) else (none)))) else (some (x401000, x401001, x401002, bt404.2.1, bt404.2.2))) else (some (x401000, x401001, x401002, bt404.2.1, bt404.2.2))))
def spec_l7DrawOf.f (k : Nat) (s0_0 : List Int) (s0_1 : Int) (s0_2 : Int) (a1_0 : Int) (a1_1 : Int) (a2 : ByteArray) : Option (Int × ByteArray × List Int × Int × Int) := (spec_ViewOf.f k a2).bind fun t399 => (if a2.toList = ([] : List UInt8) then (some (t399, a2, ([] : List Int), s0_1, s0_2)) else (spec_l7DrawOf.l0 k 0 s0_0 s0_1 s0_2 a1_0 a1_1 t399 a2 ([] : List Int)))
theorem spec_l7DrawOf.mono_l : ∀ k, (∀ y0 y1 y2 y3 y4 y5 y6 y7 y8, LeO (spec_l7DrawOf.l0 k y0 y1 y2 y3 y4 y5 y6 y7 y8) (spec_l7DrawOf.l0 (k + 1) y0 y1 y2 y3 y4 y5 y6 y7 y8))
 | 0 => fun _ _ _ _ _ _ _ _ _ r h => by simp [spec_l7DrawOf.l0] at h
 | k + 1 => by
  have ih0 := spec_l7DrawOf.mono_l k
  intro y0 y1 y2 y3 y4 y5 y6 y7 y8
  unfold spec_l7DrawOf.l0
  repeat' first | (with_reducible exact ih0 _ _ _ _ _ _ _ _ _) | (with_reducible exact spec_ViewOf.mono _ _) | (with_reducible exact LeO.refl _) | (with_reducible exact LeO.none _) | (with_reducible refine LeO.ite ?_ ?_) | (with_reducible refine LeO.bind ?_ (fun _ => ?_))
theorem spec_l7DrawOf.mono : ∀ a0 a1 a2 a3 a4 a5 k, LeO (spec_l7DrawOf.f k a0 a1 a2 a3 a4 a5) (spec_l7DrawOf.f (k + 1) a0 a1 a2 a3 a4 a5) := by
 intro a0 a1 a2 a3 a4 a5 k
 have ih0 := spec_l7DrawOf.mono_l k
 unfold spec_l7DrawOf.f
 repeat' first | (with_reducible exact ih0 _ _ _ _ _ _ _ _ _) | (with_reducible exact spec_ViewOf.mono _ _) | (with_reducible exact LeO.refl _) | (with_reducible exact LeO.none _) | (with_reducible refine LeO.ite ?_ ?_) | (with_reducible refine LeO.bind ?_ (fun _ => ?_))
def spec_l7DrawOf.T10 : Bool × List (List Nat × List Nat) := (true, [([], []), ([], []), ([1], [1]), ([], []), ([2, 3], [2, 3]), ([0, 4], [0, 4]), ([], []), ([6], [6]), ([], []), ([8], [8]), ([7, 9], [7, 9]), ([5, 10, 5], [5, 10]), ([0, 1, 2, 3, 4, 5, 6, 7, 8, 9, 10, 11], []), ([12, 11, 11, 0, 1, 2, 3, 4, 5, 6, 7, 8, 9, 10, 11], [11, 12])])
def spec_l7DrawOf.B10 : List Nat := [0, 0, 2, 0, 14, 31, 0, 64, 0, 256, 960, 2047, 4095, 8191]
theorem spec_l7DrawOf.tab10 : rtab .any (opsOf Tryz.f189 10) = spec_l7DrawOf.T10 := by kernel_rfl
theorem spec_l7DrawOf.bits10 : waitsOk spec_l7DrawOf.T10.2 spec_l7DrawOf.B10 = true := by kernel_rfl
set_option maxHeartbeats 8000000 in
set_option maxRecDepth 100000 in
theorem spec_l7DrawOf.calls (k : Nat) (g : Nat) (s0_0 : List Int) (s0_1 : Int) (s0_2 : Int) (a1_0 : Int) (a1_1 : Int) (a2 : ByteArray) (r1 : Int) (r2 : ByteArray) (r3 : List Int) (r4 : Int) (r5 : Int) (w0 w : World) (hI : IsS188 w0 w g s0_0 s0_1 s0_2) (hB : Below w0.heap.size w0 w) (h : spec_l7DrawOf.f k s0_0 s0_1 s0_2 a1_0 a1_1 a2 = some (r1, r2, r3, r4, r5)) :
  Calls Tryz.prog 189 #[.pointer (some ⟨g, 0, none⟩), .agg #[.int .i64 a1_0, .int .i64 a1_1], .string a2] w fun e w' => ∃ v2_ : Value, e = .returned (.agg #[.int .i64 r1, .string r2, v2_]) ∧ Kd.R (Kd.int .i64) 3 w' w.heap.size (fun _ => True) v2_ r3 ∧ IsS188 w0 w' g s0_0 r4 r5 ∧ Below w0.heap.size w0 w' ∧ KeepBut w w' g none := by
 have hu32 := Tryz.underlying32; have hu27 := Tryz.underlying27; have HI0 := Aside0.mk hI; have HK := Aside0.mk (KeepBut.refl w g none); have HL := Aside0.mk hB.size; clear hI; have HW0 := Aside0.mk hB.size; have HB := Aside0.mk hB; clear hB
 have H : ((spec_ViewOf.f k a2).bind fun t399 => (if a2.toList = ([] : List UInt8) then (some (t399, a2, ([] : List Int), s0_1, s0_2)) else (spec_l7DrawOf.l0 k 0 s0_0 s0_1 s0_2 a1_0 a1_1 t399 a2 ([] : List Int)))) = some (r1, r2, r3, r4, r5) := h
 clear h; obtain ⟨t399, A40, H⟩ := Option.bind_eq_some_iff.mp H
 try dsimp only at H
 have A4 := Aside0.mk A40; clear A40
 by_cases c5 : a2.toList = ([] : List UInt8)
 ·
  rw [if_pos c5] at H
  have c5b0 : (a2.toList == ([] : List UInt8)) = true := beq_iff_eq.mpr c5; have c5b1 : (a2.toList != ([] : List UInt8)) = false := bne_eq_false_iff_eq.mpr c5; clear c5
  simp only [Option.some.injEq, Prod.mk.injEq] at H
  obtain ⟨rfl, rfl, rfl, rfl, rfl⟩ := H
  go_enter Tryz.func189, Tryz.ntmps189
  go_wp2_with (first | ((with_reducible refine gate_dst (N := 4) rfl ?_); (try (refine gate_guard (by rfl) ?_; dsimp only)); refine box_event ?hg (N := 4) ?hd (cs := #[.int .i64 a1_0, .int .i64 a1_1]) (t := 32) ?hr ?_; (case hd => rfl); (case hg => rfl); (case hr => first | (go_simp; done) | (go_simp; rfl)); intro gb397 hg w6 hbox hb; replace HB : Aside0 (Below w0.heap.size w0 _) := Aside0.mk (below_step y0_7 hb); have BK397 := Aside0.mk (hbox); have GW397 := bh hg HK; have GJ397 := gi GW397; have GE397 := Aside0.mk ((Nat.le_trans HW0.out (y0_15 : w.heap.size ≤ gb397) : w0.heap.size ≤ gb397)); have GI397 := gi GE397; replace HK := kb HK hb; have NB0_397 := Aside0.mk ((y0_2 : g ≠ gb397)); have NI0_397 := ni NB0_397; have NB397_0 := Aside0.mk ((y0_3 : gb397 ≠ g)); have NI397_0 := ni NB397_0; replace HI0 := Aside0.mk (IsS188.below y0_6 hb); clear hb hbox hg) | ((with_reducible refine gate_dst (N := 6) rfl ?_); (try (refine gate_guard (by rfl) ?_; dsimp only)); refine box_event ?hg (N := 6) ?hd (cs := #[.int .i64 0, .string (⟨#[]⟩ : ByteArray), .slice none 0 0]) (t := 27) ?hr ?_; (case hd => rfl); (case hg => rfl); (case hr => first | (go_simp; done) | (go_simp; rfl)); intro gb398 hg w7 hbox hb; replace HB : Aside0 (Below w0.heap.size w0 _) := Aside0.mk (below_step y0_5 hb); have BK398 := Aside0.mk (hbox); have GW398 := bh hg HK; have GJ398 := gi GW398; have GE398 := Aside0.mk ((Nat.le_trans HW0.out (y0_15 : w.heap.size ≤ gb398) : w0.heap.size ≤ gb398)); have GI398 := gi GE398; replace HK := kb HK hb; have NB397_398 := b1 BK397 hg; have NI397_398 := ni NB397_398; have NB398_397 := b2 BK397 hg; have NI398_397 := ni NB398_397; replace BK397 := bk BK397 hb; have NB0_398 := Aside0.mk ((y0_0 : g ≠ gb398)); have NI0_398 := ni NB0_398; have NB398_0 := Aside0.mk ((y0_1 : gb398 ≠ g)); have NI398_0 := ni NB398_0; replace HI0 := Aside0.mk (IsS188.below y0_4 hb); clear hb hbox hg) | ((with_reducible refine gate_callee (f := 127) rfl ?_); refine gB (some 11) Tryz.func127 #[.string a2] ?_; (with_reducible refine (spec_ViewOf.calls k a2 t399 _ A4.out).mono ?_); rintro e w8 ⟨rfl, hb⟩; refine ⟨_, rfl, ?_⟩; replace BK397 := bk BK397 hb; replace BK398 := bk BK398 hb; replace HK := kb HK hb; replace HB : Aside0 (Below w0.heap.size w0 _) := Aside0.mk (below_step y0_5 hb); replace HI0 := Aside0.mk (IsS188.below y0_4 hb); (try clear hb); (try clear hb2); (try clear hk); (try clear hi)) | ((with_reducible refine gate_dst (N := 7) rfl ?_); (try (refine gate_guard (by rfl) ?_; dsimp only)); refine box_event ?hg (N := 7) ?hd (cs := #[.int .i64 0, .string (⟨#[]⟩ : ByteArray), .slice none 0 0]) (t := 27) ?hr ?_; (case hd => rfl); (case hg => rfl); (case hr => first | (go_simp; done) | (go_simp; rfl)); intro gb400 hg w9 hbox hb; replace HB : Aside0 (Below w0.heap.size w0 _) := Aside0.mk (below_step y0_5 hb); have BK400 := Aside0.mk (hbox); have GW400 := bh hg HK; have GJ400 := gi GW400; have GE400 := Aside0.mk ((Nat.le_trans HW0.out (y0_15 : w.heap.size ≤ gb400) : w0.heap.size ≤ gb400)); have GI400 := gi GE400; replace HK := kb HK hb; have NB397_400 := b1 BK397 hg; have NI397_400 := ni NB397_400; have NB400_397 := b2 BK397 hg; have NI400_397 := ni NB400_397; replace BK397 := bk BK397 hb; have NB398_400 := b1 BK398 hg; have NI398_400 := ni NB398_400; have NB400_398 := b2 BK398 hg; have NI400_398 := ni NB400_398; replace BK398 := bk BK398 hb; have NB0_400 := Aside0.mk ((y0_0 : g ≠ gb400)); have NI0_400 := ni NB0_400; have NB400_0 := Aside0.mk ((y0_1 : gb400 ≠ g)); have NI400_0 := ni NB400_0; replace HI0 := Aside0.mk (IsS188.below y0_4 hb); clear hb hbox hg; have hnb10 := NB400_397.out; have hnc10 := NB397_400.out; have hnb11 := NB400_398.out; have hnc11 := NB398_400.out; have hnb12 := NB400_0.out; have hnc12 := NB0_400.out; obtain ⟨hcz13_0, hcz13_1, hcz13_2, hfz13_0, hfz13_1, hfz13_2⟩ := cs3 BK400; have hnb14 := NB398_397.out; have hnc14 := NB397_398.out; have hnb15 := NB398_0.out; have hnc15 := NB0_398.out; obtain ⟨hcz16_0, hcz16_1, hcz16_2, hfz16_0, hfz16_1, hfz16_2⟩ := cs3 BK398))
  refine bodyPost_ret (results_cell_row rfl _ _ gb398 27 #[.int .i64 t399, .string a2, .slice none 0 0] (0, 0) _ rfl (pI BK398) Tryz.underlying27 rfl (by kernel_rfl)) rfl ?_
  exact ⟨_, y0_14, y0_9, y0_4, y0_5, hI HK.out⟩
 rw [if_neg c5] at H
 have c5b0 : (a2.toList == ([] : List UInt8)) = false := beq_eq_false_iff_ne.mpr c5; have c5b1 : (a2.toList != ([] : List UInt8)) = true := bne_iff_ne.mpr c5; have H' := Aside0.mk H; clear H
 go_enter Tryz.func189, Tryz.ntmps189
 go_wp2_with (first | ((with_reducible refine gate_dst (N := 4) rfl ?_); (try (refine gate_guard (by rfl) ?_; dsimp only)); refine box_event ?hg (N := 4) ?hd (cs := #[.int .i64 a1_0, .int .i64 a1_1]) (t := 32) ?hr ?_; (case hd => rfl); (case hg => rfl); (case hr => first | (go_simp; done) | (go_simp; rfl)); intro gb397 hg w17 hbox hb; replace HB : Aside0 (Below w0.heap.size w0 _) := Aside0.mk (below_step y0_7 hb); have BK397 := Aside0.mk (hbox); have GW397 := bh hg HK; have GJ397 := gi GW397; have GE397 := Aside0.mk ((Nat.le_trans HW0.out (y0_15 : w.heap.size ≤ gb397) : w0.heap.size ≤ gb397)); have GI397 := gi GE397; replace HK := kb HK hb; have NB0_397 := Aside0.mk ((y0_2 : g ≠ gb397)); have NI0_397 := ni NB0_397; have NB397_0 := Aside0.mk ((y0_3 : gb397 ≠ g)); have NI397_0 := ni NB397_0; replace HI0 := Aside0.mk (IsS188.below y0_6 hb); clear hb hbox hg) | ((with_reducible refine gate_dst (N := 6) rfl ?_); (try (refine gate_guard (by rfl) ?_; dsimp only)); refine box_event ?hg (N := 6) ?hd (cs := #[.int .i64 0, .string (⟨#[]⟩ : ByteArray), .slice none 0 0]) (t := 27) ?hr ?_; (case hd => rfl); (case hg => rfl); (case hr => first | (go_simp; done) | (go_simp; rfl)); intro gb398 hg w18 hbox hb; replace HB : Aside0 (Below w0.heap.size w0 _) := Aside0.mk (below_step y0_5 hb); have BK398 := Aside0.mk (hbox); have GW398 := bh hg HK; have GJ398 := gi GW398; have GE398 := Aside0.mk ((Nat.le_trans HW0.out (y0_15 : w.heap.size ≤ gb398) : w0.heap.size ≤ gb398)); have GI398 := gi GE398; replace HK := kb HK hb; have NB397_398 := b1 BK397 hg; have NI397_398 := ni NB397_398; have NB398_397 := b2 BK397 hg; have NI398_397 := ni NB398_397; replace BK397 := bk BK397 hb; have NB0_398 := Aside0.mk ((y0_0 : g ≠ gb398)); have NI0_398 := ni NB0_398; have NB398_0 := Aside0.mk ((y0_1 : gb398 ≠ g)); have NI398_0 := ni NB398_0; replace HI0 := Aside0.mk (IsS188.below y0_4 hb); clear hb hbox hg) | ((with_reducible refine gate_callee (f := 127) rfl ?_); refine gB (some 11) Tryz.func127 #[.string a2] ?_; (with_reducible refine (spec_ViewOf.calls k a2 t399 _ A4.out).mono ?_); rintro e w19 ⟨rfl, hb⟩; refine ⟨_, rfl, ?_⟩; replace BK397 := bk BK397 hb; replace BK398 := bk BK398 hb; replace HK := kb HK hb; replace HB : Aside0 (Below w0.heap.size w0 _) := Aside0.mk (below_step y0_5 hb); replace HI0 := Aside0.mk (IsS188.below y0_4 hb); (try clear hb); (try clear hb2); (try clear hk); (try clear hi)) | ((with_reducible refine gate_dst (N := 7) rfl ?_); (try (refine gate_guard (by rfl) ?_; dsimp only)); refine box_event ?hg (N := 7) ?hd (cs := #[.int .i64 0, .string (⟨#[]⟩ : ByteArray), .slice none 0 0]) (t := 27) ?hr ?_; (case hd => rfl); (case hg => rfl); (case hr => first | (go_simp; done) | (go_simp; rfl)); intro gb400 hg w20 hbox hb; replace HB : Aside0 (Below w0.heap.size w0 _) := Aside0.mk (below_step y0_5 hb); have BK400 := Aside0.mk (hbox); have GW400 := bh hg HK; have GJ400 := gi GW400; have GE400 := Aside0.mk ((Nat.le_trans HW0.out (y0_15 : w.heap.size ≤ gb400) : w0.heap.size ≤ gb400)); have GI400 := gi GE400; replace HK := kb HK hb; have NB397_400 := b1 BK397 hg; have NI397_400 := ni NB397_400; have NB400_397 := b2 BK397 hg; have NI400_397 := ni NB400_397; replace BK397 := bk BK397 hb; have NB398_400 := b1 BK398 hg; have NI398_400 := ni NB398_400; have NB400_398 := b2 BK398 hg; have NI400_398 := ni NB400_398; replace BK398 := bk BK398 hb; have NB0_400 := Aside0.mk ((y0_0 : g ≠ gb400)); have NI0_400 := ni NB0_400; have NB400_0 := Aside0.mk ((y0_1 : gb400 ≠ g)); have NI400_0 := ni NB400_0; replace HI0 := Aside0.mk (IsS188.below y0_4 hb); clear hb hbox hg; have hnb21 := NB400_397.out; have hnc21 := NB397_400.out; have hnb22 := NB400_398.out; have hnc22 := NB398_400.out; have hnb23 := NB400_0.out; have hnc23 := NB0_400.out; obtain ⟨hcz24_0, hcz24_1, hcz24_2, hfz24_0, hfz24_1, hfz24_2⟩ := cs3 BK400))
 go_loopg [8] k (fun kq v8 w' => ∃ (x8_1 : Int) (x401002_1 : List Int) (u401002 : Value), v8 = .int .i64 x8_1 ∧ Aside0 (spec_l7DrawOf.l0 kq x8_1 s0_0 s0_1 s0_2 a1_0 a1_1 t399 a2 x401002_1 = some (r1, r2, r3, r4, r5)) ∧ Aside0 (kq ≤ k) ∧ Aside0 (Kd.R (Kd.int .i64) 3 w' w.heap.size (fun _ => True) u401002 x401002_1) ∧ Aside0 (w'.heap[gb397]? = some (.cells #[.int .i64 a1_0, .int .i64 a1_1] 32 (0, 0))) ∧ Aside0 (w'.heap[gb398]? = some (.cells #[.int .i64 0, .string (⟨#[]⟩ : ByteArray), (.slice none 0 0)] 27 (0, 0))) ∧ Aside0 (w'.heap[gb400]? = some (.cells #[.int .i64 t399, .string a2, u401002] 27 (0, 0))) ∧ Aside0 (IsS188 w0 w' g s0_0 s0_1 s0_2) ∧ Aside0 (KeepBut w w' g none) ∧ Aside0 (Below w0.heap.size w0 w'))
 case atStart => exact ⟨(0), (([] : List Int)), (.slice none 0 0), y0_18, H', ⟨Nat.le_refl _⟩, ⟨y0_9⟩, ⟨gI BK397.out⟩, ⟨gI BK398.out⟩, ⟨pI BK400⟩, ⟨y0_4⟩, ⟨hI HK.out⟩, ⟨y0_5⟩⟩
 case round =>
  clear H'
  try clear c1
  try clear c2
  try clear p2
  try clear c5
  try clear c5b0
  try clear c5b1
  try clear c10
  try clear c11
  try clear c12
  try clear c14
  try clear c15
  try clear c18
  try clear c21
  try clear c22
  try clear c23
  try clear hcz13_0
  try clear hcz13_1
  try clear hcz13_2
  try clear hcz16_0
  try clear hcz16_1
  try clear hcz16_2
  try clear hcz24_0
  try clear hcz24_1
  try clear hcz24_2
  try clear hfz13_0
  try clear hfz13_1
  try clear hfz13_2
  try clear hfz16_0
  try clear hfz16_1
  try clear hfz16_2
  try clear hfz24_0
  try clear hfz24_1
  try clear hfz24_2
  obtain ⟨x8_1, x401002_1, u401002, rfl, HA, HK1, HO_401002, BK397, BK398, BK400, HI0, HK, HB⟩ := hrel; cases gk with
  | zero => exact absurd HA.out (by simp [spec_l7DrawOf.l0])
  | succ k1 =>
   have H := HA.out; clear HA
   simp only [spec_l7DrawOf.l0] at H
   by_cases c25 : x8_1 < a1_0
   ·
    rw [if_pos c25] at H
    have c25b0 : decide (x8_1 < a1_0) = true := decide_eq_true c25; clear c25
    by_cases c26 : x401002_1.length < 17592186044416
    rotate_left
    ·
     rw [if_neg c26] at H
     exact absurd H (by simp)
    rw [if_pos c26] at H
    have LMc26 := Aside0.mk c26; clear c26; obtain ⟨y401, hy401⟩ : ∃ y_ : List Int, y_ = (x401002_1 ++ [x8_1]) := ⟨_, rfl⟩
    replace H : (spec_l7DrawOf.l0 k1 (wrap64 (x8_1 + 1)) s0_0 s0_1 s0_2 a1_0 a1_1 t399 a2 y401) = some (r1, r2, r3, r4, r5) := by first | (rw [hy401]; with_reducible exact H) | (have H2_ := (Option.bind_some _ _).symm.trans H; rw [hy401]; with_reducible exact H2_) | (have H2_ := (Option.bind_some _ _).symm.trans H; with_reducible exact H2_) | with_reducible exact H | (rw [hy401]; exact H) | exact H
    have Ny401 := Aside0.mk hy401; clear hy401; have H' := Aside0.mk H; clear H; have hnb27 := NB397_398.out; have hnc27 := NB398_397.out; have hnb28 := NB397_400.out; have hnc28 := NB400_397.out; have hnb29 := NB397_0.out; have hnc29 := NB0_397.out; have hcz30_0 := bc0 BK397.out; have hcz30_1 := bc1 BK397.out; have hfz30_0 := blk_frozen BK397.out 0; have hfz30_1 := blk_frozen BK397.out 1; have hnb31 := NB400_398.out; have hnc31 := NB398_400.out; have hnb32 := NB400_0.out; have hnc32 := NB0_400.out; have hcz33_0 := bc0 BK400.out; have hcz33_1 := bc1 BK400.out; have hcz33_2 := bc2 BK400.out; have hfz33_0 := blk_frozen BK400.out 0; have hfz33_1 := blk_frozen BK400.out 1; have hfz33_2 := blk_frozen BK400.out 2
    go_wp2_with (first | ((with_reducible refine gate_builtin (b := .append) (xs := #[.tmp 24, .tmp 26]) rfl ?_); (try (refine gate_guard (by rfl) ?_; dsimp only)); at_builtin; refine Kd.R_append (Kd.int .i64) w.heap.size rfl (.tmp 24) (.tmp 26) 25 3 (.int .i64 0) 8 rfl Tryz.underlying25 info3 rfl (by decide) (by omega) u401002 x401002_1 x8_1 [.int .i64 x8_1] (fun _ => True) (fun _ => False) rfl rfl ?aP (fun _ hk => hk.elim) ?aF ?aO (Below.refl _ _) ?aS ?aL ?_; (case aP => exact rfl); (case aF => exact (fun _ _ => trivial)); (case aO => exact (rI HO_401002.out)); (case aS => exact (keep_size (w := w) (g := g) (row := none) (hI HK.out))); (case aL => have := LMc26.out; omega); intro v402 w34 ho hb hg hat; rw [← Ny401.out] at ho; have n0_ := bn BK397 hg (Kd.R_ne HO_401002.out BK397.out (by decide)); have n1_ := bn BK398 hg (Kd.R_ne HO_401002.out BK398.out (by decide)); have n2_ := bn BK400 hg (Kd.R_ne HO_401002.out BK400.out (by decide)); have n3_ := Aside0.mk (IsS188.grown y0_4 hg (IsS188.own_ne HI0.out HO_401002.out (by decide))); have n4_ := Aside0.mk (below_weaken y0_5 HL.out hb); have n5_ := Aside0.mk (KeepBut.trans (hI HK.out) (KeepBut.of_grown hg g) (Kd.R_base2 HO_401002.out)); have n6_ := Aside0.mk (ho); clear BK397; clear BK398; clear BK400; clear HI0; clear HB; clear HK; clear HO_401002; have BK397 := n0_; have BK398 := n1_; have BK400 := n2_; have HI0 := n3_; have HB := n4_; have HK := n5_; have HO403 := n6_; clear n0_ n1_ n2_ n3_ n4_ n5_ n6_; clear ho hb hg hat; obtain ⟨Ao35, co35, eo35⟩ := Kd.R_slice HO403.out; subst eo35; obtain ⟨hcz36_0, hcz36_1, hcz36_2, hfz36_0, hfz36_1, hfz36_2⟩ := cs3 BK400))
    go_roundg k1
    case measure => have := HK1.out; omega
    case rel => exact ⟨(wrap64 (x8_1 + 1)), (y401), (.slice Ao35 y401.length co35), y0_18, H', ⟨y0_21⟩, ⟨by (with_reducible repeat (first | apply Kd.R_alloc | apply Kd.R_drewN | apply Kd.R_drew)); exact Kd.R_mono (Kd.R_far (p := ⟨gb400, 2, none⟩) (Kd.R_types HO403.out BK400.out (by decide)) (fun _ hk => hk.2) (.slice Ao35 y401.length co35)) (fun _ hk => trivial)⟩, ⟨gI BK397.out⟩, ⟨gI BK398.out⟩, ⟨pI BK400⟩, ⟨y0_4⟩, ⟨hI HK.out⟩, ⟨y0_5⟩⟩
   rw [if_neg c25] at H
   have c25b0 : decide (x8_1 < a1_0) = false := decide_eq_false c25; clear c25; obtain ⟨⟨t404, t405, t406⟩, A370, H⟩ := Option.bind_eq_some_iff.mp H
   try dsimp only at H
   have A37 := Aside0.mk A370; clear A370
   by_cases c38 : t404 = true
   ·
    subst c38
    rw [if_pos rfl] at H
    by_cases c39 : (x401002_1.length : Int) > 0
    ·
     rw [if_pos c39] at H
     have c39b0 : decide (0 < (x401002_1.length : Int)) = true := decide_eq_true c39
     have c39b1 : decide (0 < x401002_1.length) = true := decide_eq_true (by omega)
     clear c39; obtain ⟨⟨t407, t408, t409⟩, A400, H⟩ := Option.bind_eq_some_iff.mp H
     try dsimp only at H
     have A40 := Aside0.mk A400; clear A400; obtain ⟨y410, hy410⟩ : ∃ y_ : List Int, y_ = (([] : List Int)) := ⟨_, rfl⟩
     replace H : (if 0 ≤ t407 then (if t407 ≤ (x401002_1.length : Int) then ((some (x401002_1.take (t407 : Int).toNat : List Int)).bind fun y413 => (if y410.length + y413.length < 17592186044416 then ((some (y410 ++ y413 : List Int)).bind fun y417 => (if 0 ≤ (wrap64 (t407 + 1)) then (if (wrap64 (t407 + 1)) ≤ (x401002_1.length : Int) then ((some (x401002_1.drop ((wrap64 (t407 + 1)) : Int).toNat : List Int)).bind fun y420 => (if y417.length + y420.length < 17592186044416 then (some (t399, a2, (y417 ++ y420), t408, t409)) else (none))) else (none)) else (none))) else (none))) else (none)) else (none)) = some (r1, r2, r3, r4, r5) := by first | (rw [hy410]; with_reducible exact H) | (have H2_ := (Option.bind_some _ _).symm.trans H; rw [hy410]; with_reducible exact H2_) | (have H2_ := (Option.bind_some _ _).symm.trans H; with_reducible exact H2_) | with_reducible exact H | (rw [hy410]; exact H) | exact H
     have Ny410 := Aside0.mk hy410; clear hy410
     by_cases c41 : 0 ≤ t407
     rotate_left
     ·
      rw [if_neg c41] at H
      exact absurd H (by simp)
     rw [if_pos c41] at H
     have c41b0 := eq_true c41; have c41b1 : decide (0 ≤ t407) = true := decide_eq_true c41; clear c41
     by_cases c42 : t407 ≤ (x401002_1.length : Int)
     rotate_left
     ·
      rw [if_neg c42] at H
      exact absurd H (by simp)
     rw [if_pos c42] at H
     have c42b0 := eq_true c42; have c42b1 : decide (t407 ≤ (x401002_1.length : Int)) = true := decide_eq_true c42; clear c42; obtain ⟨y413, hy413⟩ : ∃ y_ : List Int, y_ = (x401002_1.take (t407 : Int).toNat) := ⟨_, rfl⟩
     replace H : (if y410.length + y413.length < 17592186044416 then ((some (y410 ++ y413 : List Int)).bind fun y417 => (if 0 ≤ (wrap64 (t407 + 1)) then (if (wrap64 (t407 + 1)) ≤ (x401002_1.length : Int) then ((some (x401002_1.drop ((wrap64 (t407 + 1)) : Int).toNat : List Int)).bind fun y420 => (if y417.length + y420.length < 17592186044416 then (some (t399, a2, (y417 ++ y420), t408, t409)) else (none))) else (none)) else (none))) else (none)) = some (r1, r2, r3, r4, r5) := by first | (rw [hy413]; with_reducible exact H) | (have H2_ := (Option.bind_some _ _).symm.trans H; rw [hy413]; with_reducible exact H2_) | (have H2_ := (Option.bind_some _ _).symm.trans H; with_reducible exact H2_) | with_reducible exact H | (rw [hy413]; exact H) | exact H
     have Ny413 := Aside0.mk hy413; clear hy413
     by_cases c43 : y410.length + y413.length < 17592186044416
     rotate_left
     ·
      rw [if_neg c43] at H
      exact absurd H (by simp)
     rw [if_pos c43] at H
     have LMc43 := Aside0.mk c43; clear c43; obtain ⟨y417, hy417⟩ : ∃ y_ : List Int, y_ = (y410 ++ y413) := ⟨_, rfl⟩
     replace H : (if 0 ≤ (wrap64 (t407 + 1)) then (if (wrap64 (t407 + 1)) ≤ (x401002_1.length : Int) then ((some (x401002_1.drop ((wrap64 (t407 + 1)) : Int).toNat : List Int)).bind fun y420 => (if y417.length + y420.length < 17592186044416 then (some (t399, a2, (y417 ++ y420), t408, t409)) else (none))) else (none)) else (none)) = some (r1, r2, r3, r4, r5) := by first | (rw [hy417]; with_reducible exact H) | (have H2_ := (Option.bind_some _ _).symm.trans H; rw [hy417]; with_reducible exact H2_) | (have H2_ := (Option.bind_some _ _).symm.trans H; with_reducible exact H2_) | with_reducible exact H | (rw [hy417]; exact H) | exact H
     have Ny417 := Aside0.mk hy417; clear hy417; obtain ⟨ji44, hji44⟩ : ∃ j_ : Int, (wrap64 (t407 + 1)) = j_ := ⟨_, rfl⟩
     replace H : (if 0 ≤ (ji44) then (if (ji44) ≤ (x401002_1.length : Int) then ((some (x401002_1.drop ((ji44) : Int).toNat : List Int)).bind fun y420 => (if y417.length + y420.length < 17592186044416 then (some (t399, a2, (y417 ++ y420), t408, t409)) else (none))) else (none)) else (none)) = some (r1, r2, r3, r4, r5) := by first | (rw [hji44] at H; exact H) | (simp only [hji44] at H ⊢; exact H)
     (try rw [hji44] at A37)
     (try rw [hji44] at A40)
     have hji44w : (IntKind.i64.wrap (t407 + 1)) = ji44 := (i64_w _).trans hji44
     by_cases c45 : 0 ≤ (ji44)
     rotate_left
     ·
      rw [if_neg c45] at H
      exact absurd H (by simp)
     rw [if_pos c45] at H
     have c45b0 := eq_true c45; have c45b1 : decide (0 ≤ (ji44)) = true := decide_eq_true c45; clear c45
     by_cases c46 : (ji44) ≤ (x401002_1.length : Int)
     rotate_left
     ·
      rw [if_neg c46] at H
      exact absurd H (by simp)
     rw [if_pos c46] at H
     have c46b0 := eq_true c46; have c46b1 : decide ((ji44) ≤ (x401002_1.length : Int)) = true := decide_eq_true c46; clear c46; obtain ⟨y420, hy420⟩ : ∃ y_ : List Int, y_ = (x401002_1.drop ((ji44) : Int).toNat) := ⟨_, rfl⟩
     replace H : (if y417.length + y420.length < 17592186044416 then (some (t399, a2, (y417 ++ y420), t408, t409)) else (none)) = some (r1, r2, r3, r4, r5) := by first | (rw [hy420]; with_reducible exact H) | (have H2_ := (Option.bind_some _ _).symm.trans H; rw [hy420]; with_reducible exact H2_) | (have H2_ := (Option.bind_some _ _).symm.trans H; with_reducible exact H2_) | with_reducible exact H | (rw [hy420]; exact H) | exact H
     have Ny420 := Aside0.mk hy420; clear hy420
     by_cases c47 : y417.length + y420.length < 17592186044416
     rotate_left
     ·
      rw [if_neg c47] at H
      exact absurd H (by simp)
     rw [if_pos c47] at H
     have LMc47 := Aside0.mk c47; clear c47; obtain ⟨y424, hy424⟩ : ∃ y_ : List Int, y_ = (y417 ++ y420) := ⟨_, rfl⟩
     replace H : (some (t399, a2, y424, t408, t409)) = some (r1, r2, r3, r4, r5) := by first | (rw [hy424]; with_reducible exact H) | (have H2_ := (Option.bind_some _ _).symm.trans H; rw [hy424]; with_reducible exact H2_) | (have H2_ := (Option.bind_some _ _).symm.trans H; with_reducible exact H2_) | with_reducible exact H | (rw [hy424]; exact H) | exact H
     have Ny424 := Aside0.mk hy424; clear hy424
     simp only [Option.some.injEq, Prod.mk.injEq] at H
     obtain ⟨rfl, rfl, rfl, rfl, rfl⟩ := H; have hnb48 := NB397_398.out; have hnc48 := NB398_397.out; have hnb49 := NB397_400.out; have hnc49 := NB400_397.out; have hnb50 := NB397_0.out; have hnc50 := NB0_397.out; have hcz51_0 := bc0 BK397.out; have hcz51_1 := bc1 BK397.out; have hfz51_0 := blk_frozen BK397.out 0; have hfz51_1 := blk_frozen BK397.out 1
     try go_wp2_with (first | ((with_reducible refine gate_callee (f := 128) rfl ?_); refine gB (some 30) Tryz.func128 #[.pointer (some ⟨g, 0, none⟩), .int .i64 2] ?_; (with_reducible refine (spec_l1Once.calls g s0_0 s0_1 s0_2 2 true t405 t406 w0 _ ?side1 ?side2 A37.out).mono ?_); (case side1 => repeat (first | (with_reducible first | exact HI0.out | apply IsS188.alloc | apply IsS188.drewN | apply IsS188.drew | apply IsS188.set_1 | apply IsS188.set_2 | refine IsS188.far ?_ NeI.out _) | exact HI0.out)); (case side2 => repeat (first | (with_reducible first | exact HB.out | apply below_alloc | apply pw_below_drewN | apply below_drew1 | refine below_set ?_ (IsS188.ge HI0.out) | refine below_set ?_ GeI.out) | exact HB.out)); rintro e w52 ⟨rfl, hi, hb, hk⟩; refine ⟨_, rfl, ?_⟩; replace HO_401002 := Aside0.mk (Kd.R_mono (Kd.R_keep (IsS188.apart (show IsS188 w0 _ g s0_0 s0_1 s0_2 from y0_4) (rI HO_401002.out) (by decide)) hk (fun _ h => h.2)) (fun _ h => h.1)); replace BK397 := bq BK397 hk NB397_0; replace BK398 := bq BK398 hk NB398_0; replace BK400 := bq BK400 hk NB400_0; replace HK := kt HK hk; replace HB := Aside0.mk (hb); replace HI0 := Aside0.mk (hi); (try clear hb); (try clear hb2); (try clear hk); (try clear hi); have hnb53 := NB400_398.out; have hnc53 := NB398_400.out; have hnb54 := NB400_0.out; have hnc54 := NB0_400.out; obtain ⟨hcz55_0, hcz55_1, hcz55_2, hfz55_0, hfz55_1, hfz55_2⟩ := cs3 BK400; obtain ⟨Ao56, co56, eo56⟩ := Kd.R_slice HO_401002.out; subst eo56) | ((with_reducible refine gate_callee (f := 150) rfl ?_); refine gB (some 41) Tryz.func150 #[.pointer (some ⟨g, 0, none⟩), .int .i64 (x401002_1.length : Int)] ?_; (with_reducible refine (spec_l1Below.calls g s0_0 t405 t406 (x401002_1.length : Int) t407 t408 t409 w0 _ ?side1 ?side2 A40.out).mono ?_); (case side1 => repeat (first | (with_reducible first | exact HI0.out | apply IsS188.alloc | apply IsS188.drewN | apply IsS188.drew | apply IsS188.set_1 | apply IsS188.set_2 | refine IsS188.far ?_ NeI.out _) | exact HI0.out)); (case side2 => repeat (first | (with_reducible first | exact HB.out | apply below_alloc | apply pw_below_drewN | apply below_drew1 | refine below_set ?_ (IsS188.ge HI0.out) | refine below_set ?_ GeI.out) | exact HB.out)); rintro e w57 ⟨rfl, hi, hb, hk⟩; refine ⟨_, rfl, ?_⟩; replace HO_401002 := Aside0.mk (Kd.R_mono (Kd.R_keep (IsS188.apart (show IsS188 w0 _ g s0_0 t405 t406 from y0_4) (rI HO_401002.out) (by decide)) hk (fun _ h => h.2)) (fun _ h => h.1)); replace BK397 := bq BK397 hk NB397_0; replace BK398 := bq BK398 hk NB398_0; replace BK400 := bq BK400 hk NB400_0; replace HK := kt HK hk; replace HB := Aside0.mk (hb); replace HI0 := Aside0.mk (hi); (try clear hb); (try clear hb2); (try clear hk); (try clear hi)))
     replace HO_401002 := Aside0.mk (Kd.R_drew HO_401002.out); replace BK397 := Aside0.mk (blk_drew BK397.out); replace BK398 := Aside0.mk (blk_drew BK398.out); replace BK400 := Aside0.mk (blk_drew BK400.out); replace HI0 := Aside0.mk (IsS188.drew HI0.out); replace HK := Aside0.mk (keep_drew HK.out); replace HB := Aside0.mk (below_drew1 HB.out); have q59 : (t407 : Int) ≤ ((x401002_1.length : Int) : Int) := of_decide_eq_true y0_17; obtain ⟨i059, hi059, _, hsz59, _⟩ := info_parts info3; have hroom59 : x401002_1.length ≤ co56 := (Kd.R_reads' HO_401002.out).2.1; have hC59 : Kd.C (Kd.int .i64) _ Ao56 x401002_1.length x401002_1 := (Kd.R_reads' HO_401002.out).2.2; have hcut59 := cut_to (P := Tryz.prog) 25 3 .i64 Tryz.underlying25 hi059 Ao56 x401002_1.length co56 t407 (of_decide_eq_true y0_17) q59 hroom59
     have hr59 := Kd.C_take (m := (t407 : Int).toNat) hC59 (by omega)
     have hy59 : y413.length = (t407 : Int).toNat := (by rw [Ny413.out, List.length_take]; omega)
     rw [← Ny413.out] at hr59
     rw [← hy59] at hcut59
     have HR416 := Aside0.mk hr59
     have HC416 := Aside0.mk (show y413.length ≤ co56 from by omega)
     clear hr59 hC59 hroom59 hi059 hsz59; have KY59 := Aside0.mk hy59; clear hy59
     have KL59 := Aside0.mk (show (t407 : Int).toNat ≤ x401002_1.length from by omega)
     replace q59 := eq_true q59; have q60 : ((ji44) : Int) ≤ ((x401002_1.length : Int) : Int) := of_decide_eq_true y0_17; obtain ⟨i060, hi060, _, hsz60, _⟩ := info_parts info3; have hroom60 : x401002_1.length ≤ co56 := (Kd.R_reads' HO_401002.out).2.1; have hC60 : Kd.C (Kd.int .i64) _ Ao56 x401002_1.length x401002_1 := (Kd.R_reads' HO_401002.out).2.2; have q060 : (0 : Int) ≤ ((ji44) : Int) := of_decide_eq_true y0_17; have hcut60 := cut_from (P := Tryz.prog) 25 3 .i64 Tryz.underlying25 hi060 1 hsz60 Ao56 x401002_1.length co56 (ji44) q060 q60
     have hr60 := Kd.C_drop (m := ((ji44) : Int).toNat) (c := co56) hC60 (by omega) hroom60
     obtain ⟨A60, hA60⟩ : ∃ A1, A1 = (if co56 = ((ji44) : Int).toNat then Ao56 else (Ao56 : Option Addr).map (·.add (((ji44) : Int).toNat * 1))) := ⟨_, rfl⟩
     obtain ⟨c60, hc60⟩ : ∃ c1, c1 = co56 - ((ji44) : Int).toNat := ⟨_, rfl⟩
     have hy60 : y420.length = x401002_1.length - ((ji44) : Int).toNat := (by rw [Ny420.out, List.length_drop] <;> omega)
     rw [show (x401002_1).drop ((ji44) : Int).toNat = y420 from Ny420.out.symm] at hr60
     replace hr60 : Kd.C (Kd.int .i64) _ A60 y420.length y420 := (by rw [hA60]; exact hr60)
     rw [← hy60, ← hA60, ← hc60] at hcut60
     have HR423 := Aside0.mk hr60
     have HC423 := Aside0.mk (show y420.length ≤ c60 from by rw [hy60, hc60]; exact Nat.sub_le_sub_right hroom60 _)
     clear hr60 hC60 hroom60 hi060 hsz60 hc60; have KY60 := Aside0.mk hy60; have KA60 := Aside0.mk hA60; clear hy60 hA60
     have KL60 := Aside0.mk (show ((ji44) : Int).toNat ≤ x401002_1.length from by omega)
     replace q60 := eq_true q60
     refine start_ (n := 14) (S := fun w' => w'.cell? ⟨gb400, 0, none⟩ = some (.int .i64 t399) ∧ w'.cell? ⟨gb400, 1, none⟩ = some (.string a2) ∧ w'.cell? ⟨gb400, 2, none⟩ = some (.slice Ao56 x401002_1.length co56)) (ds := [13]) #[false, false, false, false, false, false, false, false, false, false, false, false, false, false] (by kernel_rfl) rfl rfl ⟨bc0 BK400.out, bc1 BK400.out, bc2 BK400.out⟩ (fun hHeld => ?_); refine with_tabW spec_l7DrawOf.tab10 spec_l7DrawOf.bits10 (fun HT_ HW_ => ?_)
     generalize w57.drew = w58 at HO_401002 BK397 BK398 BK400 HI0 HK HB HR416 HR423 hHeld ⊢
     refine pA 1 (some 43) (bz 14 2) HT_ ?_
     refine pA 3 (some 45) (bz 14 10) HT_ ?_
     refine pA 6 (some 48) (bz 14 74) HT_ ?_
     refine pA 8 (some 50) (bz 14 330) HT_ ?_
     refine pA 9 (some 51) (bz 14 842) HT_ ?_
     refine tA 2 (some 44) (bz 14 846) HT_ HW_ hHeld ?_
     refine pA 4 (some 46) (bz 14 862) HT_ ?_
     refine tA 7 (some 49) (bz 14 990) HT_ HW_ hHeld ?_
     refine pA 10 (some 52) (bz 14 2014) HT_ ?_
     refine oA 0 (some 42) (bz 14 2015) HT_ (fun K hK => ?_)
     refine Kd.R_lit_step (Kd.int .i64) _ 3 ?hg (N := 42) ?hd (xs := ([] : List Int)) (inner := []) (ok := fun _ => True) (okp := fun _ => True) ?hr ?hp (fun _ hk => hk) trivial (Below.refl _ _) (Nat.le_refl _) (by simp) ?_; (case hd => rfl); (case hg => rfl); (case hr => first | (go_simp; done) | (go_simp; rfl)); (case hp => exact (Reps.none _ _))
     intro v411 w61 ho62 hb hg_ hnew_
     clear hg_ hnew_
     (first | rw [← Ny410.out] at ho62 | (simp only [Int.reduceToNat] at ho62; rw [← Ny410.out] at ho62))
     have HO412 := Aside0.mk (Kd.R_lower (Kd.R_new' ho62 (Kd.R_lt (rI HO_401002.out))) (keep_size (w := w) (g := g) (row := none) (hI HK.out))); replace HO_401002 := Aside0.mk (Kd.R_elder' (rI HO_401002.out) (Kd.R_base ho62) hb); replace BK397 := bk BK397 hb; replace BK398 := bk BK398 hb; replace BK400 := bk BK400 hb
     replace HR416 := Aside0.mk (Kd.C_below (by repeat (first | (with_reducible exact HR416.out) | (with_reducible refine Kd.C_alloc ?_ _) | (with_reducible refine Kd.C_drewN ?_ _) | (with_reducible refine Kd.C_drew ?_) | exact HR416.out)) hb)
     replace HR423 := Aside0.mk (Kd.C_below (by repeat (first | (with_reducible exact HR423.out) | (with_reducible refine Kd.C_alloc ?_ _) | (with_reducible refine Kd.C_drewN ?_ _) | (with_reducible refine Kd.C_drew ?_) | exact HR423.out)) hb)
     replace HK := kb HK hb; replace HB : Aside0 (Below w0.heap.size w0 _) := Aside0.mk (below_step y0_5 hb); replace HI0 := Aside0.mk (IsS188.below y0_4 hb); clear hb ho62
     refine hK.out _ _ ⟨bc0 BK400.out, bc1 BK400.out, bc2 BK400.out⟩ (fun hHeld => ?_)
     clear hK K
     refine nA (some 42) ?_
     refine oA 5 (some 47) (bz 14 2047) HT_ (fun K hK => ?_)
     refine Kd.R_append_rows_step (Kd.int .i64) w.heap.size (by rfl) (.tmp 42) (.tmp 46) 25 3 (.int .i64 0) 8 rfl Tryz.underlying25 info3 rfl (by decide) (by omega) v411 y410 y413 _ _ _ (fun k_ => some k_ ≠ (.slice Ao56 x401002_1.length co56 : Value).ownBlock) (fun _ => False) rfl rfl ?aO ?aR (fun _ _ h => h) (fun _ h => h.elim) ?aF (Below.refl _ _) ?aS ?aL ?_
     (case aR => repeat (first | exact (by repeat (first | (with_reducible exact HR416.out) | (with_reducible refine Kd.C_alloc ?_ _) | (with_reducible refine Kd.C_drewN ?_ _) | (with_reducible refine Kd.C_drew ?_) | exact HR416.out)) | (with_reducible refine Kd.C_alloc ?_ _) | (with_reducible refine Kd.C_drewN ?_ _) | (with_reducible refine Kd.C_drew ?_)))
     (case aF => exact (fun k_ hk => Kd.fresh' (Kd.R_lt (rI HO_401002.out)) k_ hk))
     (case aO => exact (rI (Kd.R_mono HO412.out (fun _ hk => hk.2))))
     (case aS => exact (keep_size (w := w) (g := g) (row := none) (hI HK.out)))
     (case aL => have := LMc43.out; omega)
     intro v418 w63 ho hb hg hat
     rw [← Ny417.out] at ho
     have n0_ := Aside0.mk (Kd.R_after (ok := (fun _ => True)) (rI HO_401002.out) hg hat)
     have n1_ := bn BK397 hg (Kd.R_ne HO412.out BK397.out (by decide))
     have n2_ := bn BK398 hg (Kd.R_ne HO412.out BK398.out (by decide))
     have n3_ := bn BK400 hg (Kd.R_ne HO412.out BK400.out (by decide))
     have n4_ := Aside0.mk (IsS188.grown y0_4 hg (IsS188.own_ne HI0.out HO412.out (by decide)))
     have n5_ := Aside0.mk (below_weaken y0_5 HL.out hb); have n6_ := Aside0.mk (KeepBut.trans (hI HK.out) (KeepBut.of_grown hg g) (Kd.R_base2 HO412.out))
     have n7_ := Aside0.mk ((show Kd.C (Kd.int .i64) w63 Ao56 y413.length y413 from by rw [Ny413.out]; exact Kd.C_take (m := (t407 : Int).toNat) ((Kd.R_reads' (Kd.R_after (ok := (fun _ => True)) (rI HO_401002.out) hg hat)).2.2) KL59.out))
     have n8_ := Aside0.mk ((show Kd.C (Kd.int .i64) w63 A60 y420.length y420 from by rw [Ny420.out, KA60.out]; exact Kd.C_drop (m := ((ji44) : Int).toNat) (c := co56) ((Kd.R_reads' (Kd.R_after (ok := (fun _ => True)) (rI HO_401002.out) hg hat)).2.2) KL60.out ((Kd.R_reads' (Kd.R_after (ok := (fun _ => True)) (rI HO_401002.out) hg hat)).2.1)))
     have n9_ := Aside0.mk (ho); clear HO_401002; clear BK397; clear BK398; clear BK400; clear HI0; clear HB; clear HK; clear HR416; clear HR423; clear HO412; have HO_401002 := n0_; have BK397 := n1_; have BK398 := n2_; have BK400 := n3_; have HI0 := n4_; have HB := n5_; have HK := n6_; have HR416 := n7_; have HR423 := n8_; have HO419 := n9_; clear n0_ n1_ n2_ n3_ n4_ n5_ n6_ n7_ n8_ n9_; clear ho hb hg hat
     refine hK.out _ _ ⟨bc0 BK400.out, bc1 BK400.out, bc2 BK400.out⟩ (fun hHeld => ?_)
     clear hK K
     refine nA (some 47) ?_
     refine oA 11 (some 53) (bz 14 4095) HT_ (fun K hK => ?_)
     refine Kd.R_append_rows_step (Kd.int .i64) w.heap.size (by rfl) (.tmp 47) (.tmp 52) 25 3 (.int .i64 0) 8 rfl Tryz.underlying25 info3 rfl (by decide) (by omega) v418 y417 y420 _ _ _ (fun k_ => some k_ ≠ (.slice Ao56 x401002_1.length co56 : Value).ownBlock) (fun _ => False) rfl rfl ?aO ?aR (fun _ _ h => h) (fun _ h => h.elim) ?aF (Below.refl _ _) ?aS ?aL ?_
     (case aR => repeat (first | exact (by repeat (first | (with_reducible exact HR423.out) | (with_reducible refine Kd.C_alloc ?_ _) | (with_reducible refine Kd.C_drewN ?_ _) | (with_reducible refine Kd.C_drew ?_) | exact HR423.out)) | (with_reducible refine Kd.C_alloc ?_ _) | (with_reducible refine Kd.C_drewN ?_ _) | (with_reducible refine Kd.C_drew ?_)))
     (case aF => exact (fun k_ hk => Kd.fresh' (Kd.R_lt (rI HO_401002.out)) k_ hk))
     (case aO => exact (rI HO419.out))
     (case aS => exact (keep_size (w := w) (g := g) (row := none) (hI HK.out)))
     (case aL => have := LMc47.out; omega)
     intro v425 w64 ho hb hg hat
     rw [← Ny424.out] at ho
     have n0_ := Aside0.mk (Kd.R_after (ok := (fun _ => True)) (rI HO_401002.out) hg hat)
     have n1_ := bn BK397 hg (Kd.R_ne HO419.out BK397.out (by decide))
     have n2_ := bn BK398 hg (Kd.R_ne HO419.out BK398.out (by decide))
     have n3_ := bn BK400 hg (Kd.R_ne HO419.out BK400.out (by decide))
     have n4_ := Aside0.mk (IsS188.grown y0_4 hg (IsS188.own_ne HI0.out HO419.out (by decide)))
     have n5_ := Aside0.mk (below_weaken y0_5 HL.out hb); have n6_ := Aside0.mk (KeepBut.trans (hI HK.out) (KeepBut.of_grown hg g) (Kd.R_base2 HO419.out))
     have n7_ := Aside0.mk ((show Kd.C (Kd.int .i64) w64 Ao56 y413.length y413 from by rw [Ny413.out]; exact Kd.C_take (m := (t407 : Int).toNat) ((Kd.R_reads' (Kd.R_after (ok := (fun _ => True)) (rI HO_401002.out) hg hat)).2.2) KL59.out))
     have n8_ := Aside0.mk ((show Kd.C (Kd.int .i64) w64 A60 y420.length y420 from by rw [Ny420.out, KA60.out]; exact Kd.C_drop (m := ((ji44) : Int).toNat) (c := co56) ((Kd.R_reads' (Kd.R_after (ok := (fun _ => True)) (rI HO_401002.out) hg hat)).2.2) KL60.out ((Kd.R_reads' (Kd.R_after (ok := (fun _ => True)) (rI HO_401002.out) hg hat)).2.1)))
     have n9_ := Aside0.mk (ho); clear HO_401002; clear BK397; clear BK398; clear BK400; clear HI0; clear HB; clear HK; clear HR416; clear HR423; clear HO419; have HO_401002 := n0_; have BK397 := n1_; have BK398 := n2_; have BK400 := n3_; have HI0 := n4_; have HB := n5_; have HK := n6_; have HR416 := n7_; have HR423 := n8_; have HO426 := n9_; clear n0_ n1_ n2_ n3_ n4_ n5_ n6_ n7_ n8_ n9_; clear ho hb hg hat; obtain ⟨Ao65, co65, eo65⟩ := Kd.R_slice HO426.out
     (first | subst eo65 | (injection eo65 with f1_ f2_ f3_; have f4_ := f1_.symm; have f5_ := f3_.symm; clear f1_ f2_ f3_; subst f4_; subst f5_))
     refine hK.out _ _ ⟨bc0 BK400.out, bc1 BK400.out, bc2 BK400.out⟩ (fun hHeld => ?_)
     clear hK K
     refine nA (some 53) ?_
     refine pA 12 (some 54) (bz 14 0x1fff) HT_ ?_
     refine last_ (i := 13) (N := none) #[true, true, true, true, true, true, true, true, true, true, true, true, true, true] rfl rfl (one_of HT_.out (by kernel_rfl)) (by decide) (fun K hK => ?_)
     have hs66 : w64.cell? ⟨gb400, 2, none⟩ = some (.slice Ao56 x401002_1.length co56) := bc2 BK400.out; have hfs66 := blk_frozen BK400.out 2; have hns66_0 := NB397_400.out; have hns66_1 := NB398_400.out; have hms66_0 := NB400_397.out; have hms66_1 := NB400_398.out
     refine skip_ (w1 := ?_) (by rfl) rfl ?_ ?_
     rotate_left
     ·
      go_simp
      rfl
     refine hK.out _ _ ?_
     clear hK K
     refine done_ (done_of HT_.out (by kernel_rfl)) ?_
     have hcz67_0 := bc0 BK400.out; have hcz67_1 := bc1 BK400.out; have hcz67_2 := bc2 BK400.out; have hfz67_0 := blk_frozen BK400.out 0; have hfz67_1 := blk_frozen BK400.out 1; have hfz67_2 := blk_frozen BK400.out 2; have hnb68 := NB398_0.out; have hnc68 := NB0_398.out; have hcz69_0 := bc0 BK398.out; have hcz69_1 := bc1 BK398.out; have hcz69_2 := bc2 BK398.out; have hfz69_0 := blk_frozen BK398.out 0; have hfz69_1 := blk_frozen BK398.out 1; have hfz69_2 := blk_frozen BK398.out 2
     try go_wp2
     refine bodyPost_ret (results_cell_row rfl _ _ gb398 27 #[.int .i64 t399, .string a2, .slice Ao65 y424.length co65] (0, 0) _ rfl (pI BK398) Tryz.underlying27 rfl (by kernel_rfl)) rfl ?_
     exact ⟨_, by first | rfl | (simp [errW_none, errW_some] <;> rfl) | (simp only [← hji44]; first | rfl | (simp [errW_none, errW_some] <;> rfl)) | (simp [*, errW_none, errW_some] <;> rfl), by (with_reducible repeat (first | apply Kd.R_alloc | apply Kd.R_drewN | apply Kd.R_drew)); exact Kd.R_mono (Kd.R_far (p := ⟨gb398, 2, none⟩) (Kd.R_far (p := ⟨gb398, 1, none⟩) (Kd.R_far (p := ⟨gb398, 0, none⟩) (Kd.R_far (p := ⟨gb400, 2, none⟩) (Kd.R_types (Kd.R_types HO426.out BK400.out (by decide)) BK398.out (by decide)) (fun _ hk => hk.1.2) (.slice Ao65 y424.length co65)) (fun _ hk => hk.2) (.int .i64 t399)) (fun _ hk => hk.2) (.string a2)) (fun _ hk => hk.2) (.slice Ao65 y424.length co65)) (fun _ hk => trivial), y0_4, y0_5, hI HK.out⟩
    rw [if_neg c39] at H
    have c39b0 : decide (0 < (x401002_1.length : Int)) = false := decide_eq_false c39
    have c39b1 : decide (0 < x401002_1.length) = false := decide_eq_false (by omega)
    clear c39
    simp only [Option.some.injEq, Prod.mk.injEq] at H
    obtain ⟨rfl, rfl, rfl, rfl, rfl⟩ := H; have hnb70 := NB397_398.out; have hnc70 := NB398_397.out; have hnb71 := NB397_400.out; have hnc71 := NB400_397.out; have hnb72 := NB397_0.out; have hnc72 := NB0_397.out; have hcz73_0 := bc0 BK397.out; have hcz73_1 := bc1 BK397.out; have hfz73_0 := blk_frozen BK397.out 0; have hfz73_1 := blk_frozen BK397.out 1
    go_wp2_with (first | ((with_reducible refine gate_callee (f := 128) rfl ?_); refine gB (some 30) Tryz.func128 #[.pointer (some ⟨g, 0, none⟩), .int .i64 2] ?_; (with_reducible refine (spec_l1Once.calls g s0_0 s0_1 s0_2 2 true t405 t406 w0 _ ?side1 ?side2 A37.out).mono ?_); (case side1 => repeat (first | (with_reducible first | exact HI0.out | apply IsS188.alloc | apply IsS188.drewN | apply IsS188.drew | apply IsS188.set_1 | apply IsS188.set_2 | refine IsS188.far ?_ NeI.out _) | exact HI0.out)); (case side2 => repeat (first | (with_reducible first | exact HB.out | apply below_alloc | apply pw_below_drewN | apply below_drew1 | refine below_set ?_ (IsS188.ge HI0.out) | refine below_set ?_ GeI.out) | exact HB.out)); rintro e w74 ⟨rfl, hi, hb, hk⟩; refine ⟨_, rfl, ?_⟩; replace HO_401002 := Aside0.mk (Kd.R_mono (Kd.R_keep (IsS188.apart (show IsS188 w0 _ g s0_0 s0_1 s0_2 from y0_4) (rI HO_401002.out) (by decide)) hk (fun _ h => h.2)) (fun _ h => h.1)); replace BK397 := bq BK397 hk NB397_0; replace BK398 := bq BK398 hk NB398_0; replace BK400 := bq BK400 hk NB400_0; replace HK := kt HK hk; replace HB := Aside0.mk (hb); replace HI0 := Aside0.mk (hi); (try clear hb); (try clear hb2); (try clear hk); (try clear hi); have hnb75 := NB400_398.out; have hnc75 := NB398_400.out; have hnb76 := NB400_0.out; have hnc76 := NB0_400.out; obtain ⟨hcz77_0, hcz77_1, hcz77_2, hfz77_0, hfz77_1, hfz77_2⟩ := cs3 BK400; obtain ⟨Ao78, co78, eo78⟩ := Kd.R_slice HO_401002.out; subst eo78; have hnb79 := NB398_0.out; have hnc79 := NB0_398.out; obtain ⟨hcz80_0, hcz80_1, hcz80_2, hfz80_0, hfz80_1, hfz80_2⟩ := cs3 BK398))
    refine bodyPost_ret (results_cell_row rfl _ _ gb398 27 #[.int .i64 t399, .string a2, .slice Ao78 x401002_1.length co78] (0, 0) _ rfl (pI BK398) Tryz.underlying27 rfl (by kernel_rfl)) rfl ?_
    exact ⟨_, y0_14, by (with_reducible repeat (first | apply Kd.R_alloc | apply Kd.R_drewN | apply Kd.R_drew)); exact Kd.R_mono (Kd.R_far (p := ⟨gb398, 2, none⟩) (Kd.R_far (p := ⟨gb398, 1, none⟩) (Kd.R_far (p := ⟨gb398, 0, none⟩) (Kd.R_types HO_401002.out BK398.out (by decide)) (fun _ hk => hk.2) (.int .i64 t399)) (fun _ hk => hk.2) (.string a2)) (fun _ hk => hk.2) (.slice Ao78 x401002_1.length co78)) (fun _ hk => trivial), y0_4, y0_5, hI HK.out⟩
   replace c38 := Bool.eq_false_iff.mpr c38; subst c38
   rw [if_neg (show ¬ (false = true) by decide)] at H
   simp only [Option.some.injEq, Prod.mk.injEq] at H
   obtain ⟨rfl, rfl, rfl, rfl, rfl⟩ := H; have hnb81 := NB397_398.out; have hnc81 := NB398_397.out; have hnb82 := NB397_400.out; have hnc82 := NB400_397.out; have hnb83 := NB397_0.out; have hnc83 := NB0_397.out; have hcz84_0 := bc0 BK397.out; have hcz84_1 := bc1 BK397.out; have hfz84_0 := blk_frozen BK397.out 0; have hfz84_1 := blk_frozen BK397.out 1
   go_wp2_with (first | ((with_reducible refine gate_callee (f := 128) rfl ?_); refine gB (some 30) Tryz.func128 #[.pointer (some ⟨g, 0, none⟩), .int .i64 2] ?_; (with_reducible refine (spec_l1Once.calls g s0_0 s0_1 s0_2 2 false t405 t406 w0 _ ?side1 ?side2 A37.out).mono ?_); (case side1 => repeat (first | (with_reducible first | exact HI0.out | apply IsS188.alloc | apply IsS188.drewN | apply IsS188.drew | apply IsS188.set_1 | apply IsS188.set_2 | refine IsS188.far ?_ NeI.out _) | exact HI0.out)); (case side2 => repeat (first | (with_reducible first | exact HB.out | apply below_alloc | apply pw_below_drewN | apply below_drew1 | refine below_set ?_ (IsS188.ge HI0.out) | refine below_set ?_ GeI.out) | exact HB.out)); rintro e w85 ⟨rfl, hi, hb, hk⟩; refine ⟨_, rfl, ?_⟩; replace HO_401002 := Aside0.mk (Kd.R_mono (Kd.R_keep (IsS188.apart (show IsS188 w0 _ g s0_0 s0_1 s0_2 from y0_4) (rI HO_401002.out) (by decide)) hk (fun _ h => h.2)) (fun _ h => h.1)); replace BK397 := bq BK397 hk NB397_0; replace BK398 := bq BK398 hk NB398_0; replace BK400 := bq BK400 hk NB400_0; replace HK := kt HK hk; replace HB := Aside0.mk (hb); replace HI0 := Aside0.mk (hi); (try clear hb); (try clear hb2); (try clear hk); (try clear hi); have hnb86 := NB400_398.out; have hnc86 := NB398_400.out; have hnb87 := NB400_0.out; have hnc87 := NB0_400.out; obtain ⟨hcz88_0, hcz88_1, hcz88_2, hfz88_0, hfz88_1, hfz88_2⟩ := cs3 BK400; have hnb89 := NB398_0.out; have hnc89 := NB0_398.out; obtain ⟨hcz90_0, hcz90_1, hcz90_2, hfz90_0, hfz90_1, hfz90_2⟩ := cs3 BK398; obtain ⟨Ao91, co91, eo91⟩ := Kd.R_slice HO_401002.out; subst eo91))
   refine bodyPost_ret (results_cell_row rfl _ _ gb398 27 #[.int .i64 t399, .string a2, .slice Ao91 x401002_1.length co91] (0, 0) _ rfl (pI BK398) Tryz.underlying27 rfl (by kernel_rfl)) rfl ?_
   exact ⟨_, y0_14, by (with_reducible repeat (first | apply Kd.R_alloc | apply Kd.R_drewN | apply Kd.R_drew)); exact Kd.R_mono (Kd.R_far (p := ⟨gb398, 2, none⟩) (Kd.R_far (p := ⟨gb398, 1, none⟩) (Kd.R_far (p := ⟨gb398, 0, none⟩) (Kd.R_types HO_401002.out BK398.out (by decide)) (fun _ hk => hk.2) (.int .i64 t399)) (fun _ hk => hk.2) (.string a2)) (fun _ hk => hk.2) (.slice Ao91 x401002_1.length co91)) (fun _ hk => trivial), y0_4, y0_5, hI HK.out⟩

/-! ### spec_SetHas: function 233 -/
def spec_SetHas.l0 : Nat → List Int → Int → Int → Option (Bool)
 | 0, _, _, _ => none
 | k + 1, x0, x1, x5 => if x5 < (x0.length : Int) then (if 0 ≤ x5 then (if (rd x0 x5) = x1 then (some true) else (spec_SetHas.l0 k x0 x1 (wrap64 (x5 + 1)))) else (none)) else (some false)
def spec_SetHas.f (k : Nat) (l0 : List Int) (a1 : Int) : Option (Bool) := spec_SetHas.l0 k l0 a1 0
theorem spec_SetHas.mono_l : ∀ k, (∀ y0 y1 y2, LeO (spec_SetHas.l0 k y0 y1 y2) (spec_SetHas.l0 (k + 1) y0 y1 y2))
 | 0 => fun _ _ _ r h => by simp [spec_SetHas.l0] at h
 | k + 1 => by
  have ih0 := spec_SetHas.mono_l k
  intro y0 y1 y2
  unfold spec_SetHas.l0
  repeat' first | (with_reducible exact ih0 _ _ _) | (with_reducible exact LeO.refl _) | (with_reducible exact LeO.none _) | (with_reducible refine LeO.ite ?_ ?_) | (with_reducible refine LeO.bind ?_ (fun _ => ?_))
theorem spec_SetHas.mono : ∀ a0 a1 k, LeO (spec_SetHas.f k a0 a1) (spec_SetHas.f (k + 1) a0 a1) := by
 intro a0 a1 k
 have ih0 := spec_SetHas.mono_l k
 unfold spec_SetHas.f
 repeat' first | (with_reducible exact ih0 _ _ _) | (with_reducible exact LeO.refl _) | (with_reducible exact LeO.none _) | (with_reducible refine LeO.ite ?_ ?_) | (with_reducible refine LeO.bind ?_ (fun _ => ?_))
set_option maxHeartbeats 8000000 in
set_option maxRecDepth 100000 in
theorem spec_SetHas.calls (k : Nat) (A0 : Option Addr) (c0 : Nat) (l0 : List Int) (a1 : Int) (r : Bool) (w : World) (hr0 : Kd.C (Kd.int .i64) w A0 l0.length l0) (hc0 : l0.length ≤ c0) (h : spec_SetHas.f k l0 a1 = some r) :
  Calls Tryz.prog 233 #[.slice A0 l0.length c0, .int .i64 a1] w fun e w' => e = .returned (.bool r) ∧ Drawn0 w w' := by
 have HR0 := Aside0.mk hr0; have HC0 := Aside0.mk hc0; clear hr0 hc0; have H : (spec_SetHas.l0 k l0 a1 0) = some r := h; clear h; have H' := Aside0.mk H; clear H
 go_enter Tryz.func233, Tryz.ntmps233
 go_wp2
 go_loopg [5] k (fun kq v5 w' => ∃ (x5_1 : Int), v5 = .int .i64 x5_1 ∧ Aside0 (spec_SetHas.l0 kq l0 a1 x5_1 = some r) ∧ Aside0 (kq ≤ k) ∧ Drawn0 w w')
 case atStart => exact ⟨(0), y0_18, H', ⟨Nat.le_refl _⟩, y0_16⟩
 case round =>
  clear H'
  try clear c2
  try clear p2
  obtain ⟨x5_1, rfl, HA, HK1, ⟨m1, rfl⟩⟩ := hrel; cases gk with
  | zero => exact absurd HA.out (by simp [spec_SetHas.l0])
  | succ k1 =>
   have H := HA.out; clear HA
   simp only [spec_SetHas.l0] at H
   by_cases c3 : x5_1 < (l0.length : Int)
   ·
    rw [if_pos c3] at H
    have c3b0 : decide (x5_1 < (l0.length : Int)) = true := decide_eq_true c3; clear c3
    by_cases c4 : 0 ≤ x5_1
    rotate_left
    ·
     rw [if_neg c4] at H
     exact absurd H (by simp)
    rw [if_pos c4] at H
    have c4b0 : decide (0 ≤ x5_1) = true := decide_eq_true c4; clear c4
    by_cases c5 : (rd l0 x5_1) = a1
    ·
     rw [if_pos c5] at H
     have c5b0 : ((rd l0 x5_1) == a1) = true := beq_iff_eq.mpr c5; have c5b1 : ((rd l0 x5_1) != a1) = false := bne_eq_false_iff_eq.mpr c5; clear c5; obtain rfl := Option.some.inj H; have p427 : 0 ≤ (x5_1 : Int) := of_decide_eq_true y0_17; have q427 : x5_1 < (l0.length : Int) := of_decide_eq_true y0_17; obtain ⟨ad427, e427, hx427_0⟩ := Kd.at_int HR0.out x5_1 p427 q427; cases e427; replace p427 := eq_true p427; replace q427 := eq_true q427
     go_wp2
     go_ret
     exact ⟨y0_18, y0_16⟩
    rw [if_neg c5] at H
    have c5b0 : ((rd l0 x5_1) == a1) = false := beq_eq_false_iff_ne.mpr c5; have c5b1 : ((rd l0 x5_1) != a1) = true := bne_iff_ne.mpr c5; have H' := Aside0.mk H; clear H; have p427 : 0 ≤ (x5_1 : Int) := of_decide_eq_true y0_17; have q427 : x5_1 < (l0.length : Int) := of_decide_eq_true y0_17; obtain ⟨ad427, e427, hx427_0⟩ := Kd.at_int HR0.out x5_1 p427 q427; cases e427; replace p427 := eq_true p427; replace q427 := eq_true q427
    go_wp2
    go_roundg k1
    case measure => have := HK1.out; omega
    case rel => exact ⟨(wrap64 (x5_1 + 1)), y0_18, H', ⟨y0_21⟩, y0_16⟩
   rw [if_neg c3] at H
   have c3b0 : decide (x5_1 < (l0.length : Int)) = false := decide_eq_false c3; clear c3; obtain rfl := Option.some.inj H
   go_wp2
   go_ret
   exact ⟨y0_18, y0_16⟩

end Go.Proofs.YtnpbopadajbopaaGreatDoor.PFnBlocks
