-- By a program of this session, out of the translation (the print of the kit, with turns of its own). Lean checks it.
import Derived.Test.YtdmjhgogljhfkaaGreatDoorPFnExactLastNotex0
import Derived.Test.YtdmjhgogljhfkaaGreatDoorPFnExactLastNotex10
import Derived.Test.YtdmjhgogljhfkaaGreatDoorPFnExactLastNotex11
namespace Go.Proofs.YtdmjhgogljhfkaaGreatDoor.PFnExactLastNote
open Go.RowKit Go.Proofs.YtdmjhgogljhfkaaGreatDoorW.PrintWords Go.Proofs.YtdmjhgogljhfkaaGreatDoorW.PrintLast Go.Proofs.YtdmjhgogljhfkaaGreatDoorW.PrintMore
attribute [local go_sem] max2_int min2_int max_two min_two max_three min_three max_four min_four   -- for this text's walks alone
attribute [local go_sem] cell_in frozen_in
set_option synthInstance.maxSize 1000000
set_option synthInstance.maxHeartbeats 2000000
set_option linter.unusedVariables false
set_option linter.unusedSimpArgs false

/-! ### impl_SafeOf: function 57 -/
def impl_SafeOf.f (k : Nat) (a0_0 : Int) (a0_1 : Int) (l1 : List Int) : Option (Int × Int × Int × ByteArray × List Int × ByteArray × Bool) := (impl_reader_num.f k l1 0 false).bind fun bt458 => ((impl_reader_num.f k l1 bt458.2.1 bt458.2.2).bind fun bt461 => ((impl_reader_qc.f k l1 bt461.2.1 bt461.2.2).bind fun bt465 => ((impl_reader_text.f k l1 bt465.2.2.2.1 bt465.2.2.2.2).bind fun bt472 => (if bt472.2.2 = true then (some (0, 0, 0, (⟨#[]⟩ : ByteArray), ([] : List Int), (⟨#[]⟩ : ByteArray), false)) else (if bt472.2.1 = (l1.length : Int) then ((impl_SafeOk.f k a0_0 a0_1 bt458.1 bt461.1 bt465.1 bt465.2.1 bt465.2.2.1 bt472.1).bind fun t475 => (if t475 = true then (some (bt458.1, bt461.1, bt465.1, bt465.2.1, bt465.2.2.1, bt472.1, true)) else (some (0, 0, 0, (⟨#[]⟩ : ByteArray), ([] : List Int), (⟨#[]⟩ : ByteArray), false)))) else (some (0, 0, 0, (⟨#[]⟩ : ByteArray), ([] : List Int), (⟨#[]⟩ : ByteArray), false)))))))
theorem impl_SafeOf.mono : ∀ a0 a1 a2 k, LeO (impl_SafeOf.f k a0 a1 a2) (impl_SafeOf.f (k + 1) a0 a1 a2) := by
 intro a0 a1 a2 k
 unfold impl_SafeOf.f
 repeat' first | (with_reducible exact impl_SafeOk.mono _ _ _ _ _ _ _ _ _) | (with_reducible exact impl_reader_num.mono _ _ _ _) | (with_reducible exact impl_reader_qc.mono _ _ _ _) | (with_reducible exact impl_reader_text.mono _ _ _ _) | (with_reducible exact LeO.refl _) | (with_reducible exact LeO.none _) | (with_reducible refine LeO.ite ?_ ?_) | (with_reducible refine LeO.bind ?_ (fun _ => ?_))
set_option maxHeartbeats 8000000 in
set_option maxRecDepth 100000 in
theorem impl_SafeOf.calls (k : Nat) (a0_0 : Int) (a0_1 : Int) (A1 : Option Addr) (c1 : Nat) (l1 : List Int) (r1 : Int) (r2 : Int) (r3 : Int) (r4 : ByteArray) (r5 : List Int) (r6 : ByteArray) (r7 : Bool) (w : World) (hr1 : Kd.C (Kd.int .u8) w A1 l1.length l1) (hc1 : l1.length ≤ c1) (h : impl_SafeOf.f k a0_0 a0_1 l1 = some (r1, r2, r3, r4, r5, r6, r7)) (hG : Glob w := by exact gG HG HB) :
  Calls Tryz.prog 57 #[.agg #[.int .i64 a0_0, .int .i64 a0_1], .slice A1 l1.length c1] w fun e w' => ∃ v4_ : Value, e = .returned (.tuple #[.agg #[.int .i64 r1, .int .i64 r2, .int .i64 r3, .string r4, v4_, .string r6], .bool r7]) ∧ Kd.R (Kd.int .i64) 3 w' w.heap.size (fun _ => True) v4_ r5 ∧ Below w.heap.size w w' := by
 have HG := Aside0.mk hG; clear hG; have hu32 := Tryz.underlying32; have hu29 := Tryz.underlying29; have hu134 := Tryz.underlying134; have hu27 := Tryz.underlying27; have HR1 := Aside0.mk hr1; have HC1 := Aside0.mk hc1; clear hr1 hc1; have HB := Aside0.mk (Below.refl w.heap.size w)
 have H := h; unfold impl_SafeOf.f at H
 clear h; obtain ⟨⟨t458, t459, t460⟩, A3, H⟩ := oB H; (try dsimp only at H); obtain ⟨⟨t461, t462, t463⟩, A4, H⟩ := oB H; (try dsimp only at H); obtain ⟨⟨t465, t466, t467, t470, t471⟩, A5, H⟩ := oB H; (try dsimp only at H); obtain ⟨⟨t472, t473, t474⟩, A6, H⟩ := oB H; (try dsimp only at H)
 go_enter Tryz.func57, Tryz.ntmps57
 have H' := Aside0.mk H; clear H
 go_upto_region 5 with (first | ((with_reducible refine gd 2 ?_); refine bL 2 #[.int .i64 a0_0, .int .i64 a0_1] 32 ?_; intro gb455 w7 _ _ _) | ((with_reducible refine gd 4 ?_); refine bL 4 #[.int .i64 0, .int .i64 0, .int .i64 0, .string (⟨#[]⟩ : ByteArray), .slice none 0 0, .string (⟨#[]⟩ : ByteArray)] 29 ?_; intro gb456 w8 _ _ _) | ((with_reducible refine gd 10 ?_); refine bL 10 #[.slice A1 l1.length c1, .int .i64 0, .bool false] 134 ?_; intro gb457 w9 _ _ _) | ((with_reducible refine gate_callee (f := 123) rfl ?_); refine gK (some 12) Tryz.func123 (impl_reader_num.calls (hI := (nS134 xB HR1 HC1)) (hB := UpW.out) (w := _) (h := A3.out)) ?_; intro w10 _ _ _ HI11; obtain ⟨AS12_0, cS12_0, bk12, HG12, HS12_0, HL12_0⟩ := oS134 HI11) | ((with_reducible refine gate_callee (f := 123) rfl ?_); refine gK (some 14) Tryz.func123 (impl_reader_num.calls (hI := (nS134 xB HS12_0 HL12_0)) (hB := UpW.out) (w := _) (h := A4.out)) ?_; intro w13 _ _ _ HI14; obtain ⟨AS15_0, cS15_0, bk15, HG15, HS15_0, HL15_0⟩ := oS134 HI14; clear bk12) | ((with_reducible refine gd 7 ?_); refine bL 7 #[.int .i64 0, .int .i64 0, .int .i64 0, .string (⟨#[]⟩ : ByteArray), .slice none 0 0, .string (⟨#[]⟩ : ByteArray)] 29 ?_; intro gb464 w16 _ _ _) | ((with_reducible refine gate_callee (f := 124) rfl ?_); refine gK1 (some 17) Tryz.func124 (impl_reader_qc.calls (hI := (nS134 xB HS15_0 HL15_0)) (hB := UpW.out) (w := _) (h := A5.out)) ?_; intro Ao468 co468 w17 _ _ _ HI18 HO469; obtain ⟨AS19_0, cS19_0, bk19, HG19, HS19_0, HL19_0⟩ := oS134 HI18; clear bk15) | ((with_reducible refine gate_callee (f := 125) rfl ?_); refine gK (some 20) Tryz.func125 (impl_reader_text.calls (hI := (nS134 xB HS19_0 HL19_0)) (hB := UpW.out) (w := _) (h := A6.out)) ?_; intro w20 _ _ _ HI21; obtain ⟨AS22_0, cS22_0, bk22, HG22, HS22_0, HL22_0⟩ := oS134 HI21; clear bk19))
 have H := H'.out; clear H'
 by_cases c23 : t474 = true
 ·
  subst c23
  rw [if_pos rfl] at H
  have H' := Aside0.mk H; clear H
  go_upto_if 40 with fail
  have H := H'.out; clear H'
  simp only [Option.some.injEq, Prod.mk.injEq] at H
  obtain ⟨rfl, rfl, rfl, rfl, rfl, rfl, rfl⟩ := H
  go_wp2
  refine bodyPost_ret (results_ct rfl _ _ gb456 29 #[.int .i64 0, .int .i64 0, .int .i64 0, .string (⟨#[]⟩ : ByteArray), .slice none 0 0, .string (⟨#[]⟩ : ByteArray)] (0, 0) _ rfl xB Tryz.underlying29 rfl (by kernel_rfl)) rfl ?_
  exact ⟨_, y0_17, Kd.R_nil _ _ _ _ _, UpW.out⟩
 replace c23 := Bool.eq_false_iff.mpr c23; subst c23
 rw [if_neg (show ¬ (false = true) by decide)] at H
 by_cases c24 : t473 = (l1.length : Int)
 ·
  rw [if_pos c24] at H
  have c24b0 : (t473 == (l1.length : Int)) = true := beq_iff_eq.mpr c24; have c24b1 : (t473 != (l1.length : Int)) = false := bne_eq_false_iff_eq.mpr c24; clear c24; obtain ⟨t475, A25, H⟩ := oB H; (try dsimp only at H); have H' := Aside0.mk H; clear H
  go_upto_if 40 with (first | (go_at_call 69; refine aC (impl_SafeOk.calls (hr1_4 := rC HO469) (hc1_4 := rL HO469) (w := _) (h := A25.out)) ?_; intro w26 _))
  have H := H'.out; clear H'
  by_cases c27 : t475 = true
  ·
   subst c27
   rw [if_pos rfl] at H
   simp only [Option.some.injEq, Prod.mk.injEq] at H
   obtain ⟨rfl, rfl, rfl, rfl, rfl, rfl, rfl⟩ := H
   go_wp2
   refine bodyPost_ret (results_ct rfl _ _ gb456 29 #[.int .i64 t458, .int .i64 t461, .int .i64 t465, .string t466, .slice Ao468 t467.length co468, .string t472] (0, 0) _ rfl xB Tryz.underlying29 rfl (by kernel_rfl)) rfl ?_
   exact ⟨_, y0_17, rR HO469, UpW.out⟩
  replace c27 := Bool.eq_false_iff.mpr c27; subst c27
  rw [if_neg (show ¬ (false = true) by decide)] at H
  simp only [Option.some.injEq, Prod.mk.injEq] at H
  obtain ⟨rfl, rfl, rfl, rfl, rfl, rfl, rfl⟩ := H
  go_wp2
  refine bodyPost_ret (results_ct rfl _ _ gb456 29 #[.int .i64 0, .int .i64 0, .int .i64 0, .string (⟨#[]⟩ : ByteArray), .slice none 0 0, .string (⟨#[]⟩ : ByteArray)] (0, 0) _ rfl xB Tryz.underlying29 rfl (by kernel_rfl)) rfl ?_
  exact ⟨_, y0_17, Kd.R_nil _ _ _ _ _, UpW.out⟩
 rw [if_neg c24] at H
 have c24b0 : (t473 == (l1.length : Int)) = false := beq_eq_false_iff_ne.mpr c24; have c24b1 : (t473 != (l1.length : Int)) = true := bne_iff_ne.mpr c24; have H' := Aside0.mk H; clear H
 go_upto_if 40 with fail
 have H := H'.out; clear H'
 simp only [Option.some.injEq, Prod.mk.injEq] at H
 obtain ⟨rfl, rfl, rfl, rfl, rfl, rfl, rfl⟩ := H
 go_wp2
 refine bodyPost_ret (results_ct rfl _ _ gb456 29 #[.int .i64 0, .int .i64 0, .int .i64 0, .string (⟨#[]⟩ : ByteArray), .slice none 0 0, .string (⟨#[]⟩ : ByteArray)] (0, 0) _ rfl xB Tryz.underlying29 rfl (by kernel_rfl)) rfl ?_
 exact ⟨_, y0_17, Kd.R_nil _ _ _ _ _, UpW.out⟩

/-! ### impl_SafeNew: function 70 -/
def impl_SafeNew.f  : Option (Int × Int × Int × ByteArray × List Int × ByteArray) := some (0, 0, 0, (⟨#[]⟩ : ByteArray), ([] : List Int), (⟨#[]⟩ : ByteArray))
set_option maxHeartbeats 8000000 in
set_option maxRecDepth 100000 in
theorem impl_SafeNew.calls  (r1 : Int) (r2 : Int) (r3 : Int) (r4 : ByteArray) (r5 : List Int) (r6 : ByteArray) (w : World) (h : impl_SafeNew.f  = some (r1, r2, r3, r4, r5, r6)) :
  Calls Tryz.prog 70 #[] w fun e w' => ∃ v4_ : Value, e = .returned (.agg #[.int .i64 r1, .int .i64 r2, .int .i64 r3, .string r4, v4_, .string r6]) ∧ Kd.R (Kd.int .i64) 3 w' w.heap.size (fun _ => True) v4_ r5 ∧ Below w.heap.size w w' := by
 have hu29 := Tryz.underlying29; have HB := Aside0.mk (Below.refl w.heap.size w); have H := h; unfold impl_SafeNew.f at H; clear h
 simp only [Option.some.injEq, Prod.mk.injEq] at H
 obtain ⟨rfl, rfl, rfl, rfl, rfl, rfl⟩ := H
 go_enter Tryz.func70, Tryz.ntmps70
 go_wp2_with (first | ((with_reducible refine gd 0 ?_); refine bL 0 #[.int .i64 0, .int .i64 0, .int .i64 0, .string (⟨#[]⟩ : ByteArray), .slice none 0 0, .string (⟨#[]⟩ : ByteArray)] 29 ?_; intro gb476 w1 _ _ _))
 refine bodyPost_ret (results_cell_row rfl _ _ gb476 29 #[.int .i64 0, .int .i64 0, .int .i64 0, .string (⟨#[]⟩ : ByteArray), .slice none 0 0, .string (⟨#[]⟩ : ByteArray)] (0, 0) _ rfl xB Tryz.underlying29 rfl (by kernel_rfl)) rfl ?_
 exact ⟨_, y0_17, Kd.R_nil _ _ _ _ _, UpW.out⟩

/-! ### impl_LastNote: function 10 -/
mutual
def impl_LastNote.l0 : Nat → List Int → Int → Int → Int → Int → Int → Int → ByteArray → List Int → ByteArray → Option (Int × Int × Int × ByteArray × List Int × ByteArray × Int)
 | 0, _, _, _, _, _, _, _, _, _, _ => none
 | k + 1, l, n, c, d, s0, s1, s2, s3, s4, s5 => (impl_GetText.f k l n).bind fun bt => (if bt.2.2 = true then (if bt.2.1 ≥ (l.length : Int) then (impl_LastNote.j1 k l n bt.1 bt.2.1 true c d s0 s1 s2 s3 s4 s5) else (if 0 ≤ bt.2.1 then (if bt.2.1 < (l.length : Int) then (impl_LastNote.j1 k l n bt.1 bt.2.1 ((rd l bt.2.1) != 10) c d s0 s1 s2 s3 s4 s5) else (none)) else (none))) else (impl_LastNote.j1 k l n bt.1 bt.2.1 true c d s0 s1 s2 s3 s4 s5))
def impl_LastNote.j1 : Nat → List Int → Int → ByteArray → Int → Bool → Int → Int → Int → Int → Int → ByteArray → List Int → ByteArray → Option (Int × Int × Int × ByteArray × List Int × ByteArray × Int)
 | 0, _, _, _, _, _, _, _, _, _, _, _, _, _ => none
 | k + 1, l, n, t, p, b, c, d, s0, s1, s2, s3, s4, s5 => if b = true then (some (s0, s1, s2, s3, s4, s5, n)) else (if t.size < 140737488355328 then ((impl_SafeOf.f k c d (bytesOf t)).bind fun bt => (if bt.2.2.2.2.2.2 = true then (impl_LastNote.l0 k l (wrap64 (p + 1)) c d bt.1 bt.2.1 bt.2.2.1 bt.2.2.2.1 bt.2.2.2.2.1 bt.2.2.2.2.2.1) else (some (s0, s1, s2, s3, s4, s5, n)))) else (none))
end
def impl_LastNote.f (k : Nat) (a0_0 : Int) (a0_1 : Int) (l1 : List Int) : Option (Int × Int × Int × ByteArray × List Int × ByteArray × Int) := (impl_SafeNew.f).bind fun bt => (impl_LastNote.l0 k l1 0 a0_0 a0_1 bt.1 bt.2.1 bt.2.2.1 bt.2.2.2.1 bt.2.2.2.2.1 bt.2.2.2.2.2)
theorem impl_LastNote.mono_l : ∀ k, (∀ y0 y1 y2 y3 y4 y5 y6 y7 y8 y9, LeO (impl_LastNote.l0 k y0 y1 y2 y3 y4 y5 y6 y7 y8 y9) (impl_LastNote.l0 (k + 1) y0 y1 y2 y3 y4 y5 y6 y7 y8 y9)) ∧ (∀ y0 y1 y2 y3 y4 y5 y6 y7 y8 y9 y10 y11 y12, LeO (impl_LastNote.j1 k y0 y1 y2 y3 y4 y5 y6 y7 y8 y9 y10 y11 y12) (impl_LastNote.j1 (k + 1) y0 y1 y2 y3 y4 y5 y6 y7 y8 y9 y10 y11 y12))
 | 0 => ⟨fun _ _ _ _ _ _ _ _ _ _ r h => by simp [impl_LastNote.l0] at h, fun _ _ _ _ _ _ _ _ _ _ _ _ _ r h => by simp [impl_LastNote.j1] at h⟩
 | k + 1 => by
  obtain ⟨ih0, ih1⟩ := impl_LastNote.mono_l k
  refine ⟨?_, ?_⟩
  ·
   intro y0 y1 y2 y3 y4 y5 y6 y7 y8 y9
   unfold impl_LastNote.l0
   repeat' first | (with_reducible exact ih0 _ _ _ _ _ _ _ _ _ _) | (with_reducible exact ih1 _ _ _ _ _ _ _ _ _ _ _ _ _) | (with_reducible exact impl_GetText.mono _ _ _) | (with_reducible exact impl_SafeOf.mono _ _ _ _) | (with_reducible exact LeO.refl _) | (with_reducible exact LeO.none _) | (with_reducible refine LeO.ite ?_ ?_) | (with_reducible refine LeO.bind ?_ (fun _ => ?_))
  intro y0 y1 y2 y3 y4 y5 y6 y7 y8 y9 y10 y11 y12
  unfold impl_LastNote.j1
  repeat' first | (with_reducible exact ih0 _ _ _ _ _ _ _ _ _ _) | (with_reducible exact ih1 _ _ _ _ _ _ _ _ _ _ _ _ _) | (with_reducible exact impl_GetText.mono _ _ _) | (with_reducible exact impl_SafeOf.mono _ _ _ _) | (with_reducible exact LeO.refl _) | (with_reducible exact LeO.none _) | (with_reducible refine LeO.ite ?_ ?_) | (with_reducible refine LeO.bind ?_ (fun _ => ?_))
theorem impl_LastNote.mono : ∀ a0 a1 a2 k, LeO (impl_LastNote.f k a0 a1 a2) (impl_LastNote.f (k + 1) a0 a1 a2) := by
 intro a0 a1 a2 k
 obtain ⟨ih0, ih1⟩ := impl_LastNote.mono_l k
 unfold impl_LastNote.f
 repeat' first | (with_reducible exact ih0 _ _ _ _ _ _ _ _ _ _) | (with_reducible exact ih1 _ _ _ _ _ _ _ _ _ _ _ _ _) | (with_reducible exact LeO.refl _) | (with_reducible exact LeO.none _) | (with_reducible refine LeO.ite ?_ ?_) | (with_reducible refine LeO.bind ?_ (fun _ => ?_))
set_option maxHeartbeats 8000000 in
set_option maxRecDepth 100000 in
theorem impl_LastNote.calls (k : Nat) (a0_0 : Int) (a0_1 : Int) (A1 : Option Addr) (c1 : Nat) (l1 : List Int) (r1 : Int) (r2 : Int) (r3 : Int) (r4 : ByteArray) (r5 : List Int) (r6 : ByteArray) (r7 : Int) (w : World) (hr1 : Kd.C (Kd.int .u8) w A1 l1.length l1) (hc1 : l1.length ≤ c1) (h : impl_LastNote.f k a0_0 a0_1 l1 = some (r1, r2, r3, r4, r5, r6, r7)) (hG : Glob w := by exact gG HG HB) :
  Calls Tryz.prog 10 #[.agg #[.int .i64 a0_0, .int .i64 a0_1], .slice A1 l1.length c1] w fun e w' => ∃ v4_ : Value, e = .returned (.tuple #[.agg #[.int .i64 r1, .int .i64 r2, .int .i64 r3, .string r4, v4_, .string r6], .int .i64 r7]) ∧ Kd.R (Kd.int .i64) 3 w' w.heap.size (fun _ => True) v4_ r5 ∧ Below w.heap.size w w' := by
 have HG := Aside0.mk hG; clear hG; have hu32 := Tryz.underlying32; have hu29 := Tryz.underlying29; have HR1 := Aside0.mk hr1; have HC1 := Aside0.mk hc1; clear hr1 hc1; have HB := Aside0.mk (Below.refl w.heap.size w); have H := h
 unfold impl_LastNote.f at H
 clear h; obtain ⟨⟨t281, t282, t283, t284, t285, t288⟩, A3, H⟩ := oB H
 (try dsimp only at H)
 go_enter Tryz.func10, Tryz.ntmps10
 have H' := Aside0.mk H; clear H
 go_wp2_with (first | ((with_reducible refine gd 2 ?_); refine bL 2 #[.int .i64 a0_0, .int .i64 a0_1] 32 ?_; intro gb2 w4 _ _ _) | ((with_reducible refine gd 4 ?_); refine bL 4 #[.int .i64 0, .int .i64 0, .int .i64 0, .string (⟨#[]⟩ : ByteArray), .slice none 0 0, .string (⟨#[]⟩ : ByteArray)] 29 ?_; intro gb4 w5 _ _ _) | ((with_reducible refine gate_callee (f := 70) rfl ?_); refine gC1 (some 12) Tryz.func70 (impl_SafeNew.calls (w := _) (h := A3.out)) ?_; intro Ao1 co1 w6 _ HO1) | ((with_reducible refine gd 6 ?_); refine bL 6 #[.int .i64 0, .int .i64 0, .int .i64 0, .string (⟨#[]⟩ : ByteArray), .slice none 0 0, .string (⟨#[]⟩ : ByteArray)] 29 ?_; intro gb6 w7 _ _ _))
 refine wC ?_
 intro w8 _
 go_loopg [7] k (fun kq v7 w' => ∃ (x7 : Int) (s0 : Int) (s1 : Int) (s2 : Int) (s3 : ByteArray) (s4 : List Int) (s5 : ByteArray) (Ao : Option Addr) (co : Nat), v7 = .int .i64 x7 ∧ Aside0 (impl_LastNote.l0 kq l1 x7 a0_0 a0_1 s0 s1 s2 s3 s4 s5 = some (r1, r2, r3, r4, r5, r6, r7)) ∧ Aside0 (kq ≤ k) ∧ Aside0 (Kd.R (Kd.int .i64) 3 w' w.heap.size (iv w w') (.slice Ao s4.length co) s4) ∧ BkI gb6 w' #[.int .i64 s0, .int .i64 s1, .int .i64 s2, .string s3, .slice Ao s4.length co, .string s5] 29 ∧ KL w8 [gb6] w' ∧ LB w w')
 case atStart => exact ⟨0, t281, t282, t283, t284, t285, t288, Ao1, co1, y0_19, H', ⟨Nat.le_refl _⟩, ⟨rJ HO1⟩, ⟨xB⟩, ⟨UpL.out⟩, ⟨UpW.out⟩⟩
 case round =>
  clear H'; obtain ⟨x7, s0, s1, s2, s3, s4, s5, Ao, co, rfl, HA, HK1, HO, _, _, _⟩ := hrel; cases gk with
  | zero => exact absurd HA.out (by simp [impl_LastNote.l0])
  | succ k1 =>
    have H := HA.out; clear HA
    simp only [impl_LastNote.l0] at H
    obtain ⟨⟨t, p, b⟩, A12, H⟩ := oB H
    (try dsimp only at H)
    have H' := Aside0.mk H; clear H
    go_upto_region 4 with (first | ((with_reducible refine gate_callee (f := 73) rfl ?_); refine gC (some 16) Tryz.func73 (impl_GetText.calls (hr0 := pC HR1) (hc0 := HC1.out) (w := _) (h := A12.out)) ?_; intro w11 _))
    have H := H'.out; clear H'
    by_cases c1_ : b = true
    ·
      subst c1_
      rw [if_pos rfl] at H
      by_cases c2_ : p ≥ (l1.length : Int)
      ·
        rw [if_pos c2_] at H
        have c2b0 : decide ((l1.length : Int) ≤ p) = true := decide_eq_true c2_; clear c2_; cases k1 with
        | zero => exact absurd H (by simp [impl_LastNote.j1])
        | succ k2 =>
          simp only [impl_LastNote.j1] at H
          rw [if_pos trivial] at H
          simp only [Option.some.injEq, Prod.mk.injEq] at H
          obtain ⟨rfl, rfl, rfl, rfl, rfl, rfl, rfl⟩ := H
          go_wp2
          refine bodyPost_ret (results_ct rfl _ _ gb4 29 #[.int .i64 s0, .int .i64 s1, .int .i64 s2, .string s3, .slice Ao s4.length co, .string s5] (0, 0) _ rfl xB Tryz.underlying29 rfl (by kernel_rfl)) rfl ?_
          exact ⟨_, y0_19, rR HO, UpW.out⟩
      rw [if_neg c2_] at H
      have c2b0 : decide ((l1.length : Int) ≤ p) = false := decide_eq_false c2_; clear c2_
      by_cases c3_ : 0 ≤ p
      rotate_left
      ·
        rw [if_neg c3_] at H
        exact absurd H (by simp)
      rw [if_pos c3_] at H
      by_cases c4_ : p < (l1.length : Int)
      rotate_left
      ·
        rw [if_neg c4_] at H
        exact absurd H (by simp)
      rw [if_pos c4_] at H
      have c3b0 : decide (0 ≤ p) = true := decide_eq_true c3_; have c4b0 : decide (p < (l1.length : Int)) = true := decide_eq_true c4_; obtain ⟨ad, ead, hx0⟩ := Kd.at_int (pC (W := w11) HR1) p c3_ c4_; cases ead; replace c3_ := eq_true c3_; replace c4_ := eq_true c4_; cases k1 with
      | zero => exact absurd H (by simp [impl_LastNote.j1])
      | succ k2 =>
        simp only [impl_LastNote.j1] at H
        by_cases c5_ : (rd l1 p != 10) = true
        ·
          rw [if_pos c5_] at H
          simp only [Option.some.injEq, Prod.mk.injEq] at H
          obtain ⟨rfl, rfl, rfl, rfl, rfl, rfl, rfl⟩ := H
          go_wp2
          refine bodyPost_ret (results_ct rfl _ _ gb4 29 #[.int .i64 s0, .int .i64 s1, .int .i64 s2, .string s3, .slice Ao s4.length co, .string s5] (0, 0) _ rfl xB Tryz.underlying29 rfl (by kernel_rfl)) rfl ?_
          exact ⟨_, y0_19, rR HO, UpW.out⟩
        rw [if_neg c5_] at H
        by_cases c6_ : t.size < 140737488355328
        rotate_left
        ·
          rw [if_neg c6_] at H
          exact absurd H (by simp)
        rw [if_pos c6_] at H
        replace c5_ := Bool.eq_false_iff.mpr c5_; obtain ⟨⟨t1, t2, t3, t4, t5, t6, t7⟩, A13, H⟩ := oB H
        (try dsimp only at H)
        have H' := Aside0.mk H; clear H; have kb := print_bytes (P := Tryz.prog) 9 24 5 Tryz.underlying9 Tryz.underlying24 Tryz.underlying5 t w11; have hUB : UB w11 (Lib.bytesWorld w11 5 t) := ⟨bytes_below (Below.refl _ _) (Nat.le_refl _) 5 t⟩
        have hKC := Aside0.mk (Kd.C_of_reads (d := (0 : Int)) (h1 := fun _ => rfl) (readsInt_of.1 (bytes_reads w11 5 t (by omega))))
        have hKL := Aside0.mk (grownCap_ge w11 t.size 0 5)
        rw [← bytesOf_length t] at hKC hKL
        generalize Lib.bytesWorld w11 5 t = w12 at kb hUB hKC
        go_upto_if 45 with (first | ((with_reducible refine gate_callee (f := 57) rfl ?_); refine gC1 (some 41) Tryz.func57 (impl_SafeOf.calls (hr1 := pC hKC) (hc1 := hKL.out) (w := _) (h := A13.out)) ?_ (hargs := by (simp only [List.map_toArray, List.map_cons, List.map_nil, bytesOf_length]); rfl); intro Ao2 co2 w13 _ HO2) | ((with_reducible refine gd 11 ?_); refine bL 11 #[.int .i64 0, .int .i64 0, .int .i64 0, .string (⟨#[]⟩ : ByteArray), .slice none 0 0, .string (⟨#[]⟩ : ByteArray)] 29 ?_; intro gb11 w14 _ _ _))
        have H := H'.out; clear H'
        by_cases c7_ : t7 = true
        ·
          subst c7_
          rw [if_pos rfl] at H
          have H' := Aside0.mk H; clear H
          go_wp2
          go_roundg k2
          case measure => have := HK1.out; omega
          case rel => exact ⟨_, t1, t2, t3, t4, t5, t6, Ao2, co2, y0_19, H', ⟨y0_20⟩, ⟨rJ HO2⟩, ⟨xB⟩, ⟨UpL.out⟩, ⟨UpW.out⟩⟩
        rw [if_neg c7_] at H
        replace c7_ := Bool.eq_false_iff.mpr c7_; subst c7_
        simp only [Option.some.injEq, Prod.mk.injEq] at H
        obtain ⟨rfl, rfl, rfl, rfl, rfl, rfl, rfl⟩ := H
        go_wp2
        refine bodyPost_ret (results_ct rfl _ _ gb4 29 #[.int .i64 s0, .int .i64 s1, .int .i64 s2, .string s3, .slice Ao s4.length co, .string s5] (0, 0) _ rfl xB Tryz.underlying29 rfl (by kernel_rfl)) rfl ?_
        exact ⟨_, y0_19, rR HO, UpW.out⟩
    rw [if_neg c1_] at H
    replace c1_ := Bool.eq_false_iff.mpr c1_; subst c1_; cases k1 with
    | zero => exact absurd H (by simp [impl_LastNote.j1])
    | succ k2 =>
      simp only [impl_LastNote.j1] at H
      rw [if_pos trivial] at H
      simp only [Option.some.injEq, Prod.mk.injEq] at H
      obtain ⟨rfl, rfl, rfl, rfl, rfl, rfl, rfl⟩ := H
      go_wp2
      refine bodyPost_ret (results_ct rfl _ _ gb4 29 #[.int .i64 s0, .int .i64 s1, .int .i64 s2, .string s3, .slice Ao s4.length co, .string s5] (0, 0) _ rfl xB Tryz.underlying29 rfl (by kernel_rfl)) rfl ?_
      exact ⟨_, y0_19, rR HO, UpW.out⟩

/-! ### laws_eqIntS: function 86 -/
def laws_eqIntS.l0 : Nat → List Int → List Int → Int → Option (Bool)
 | 0, _, _, _ => none
 | k + 1, x0, x1, x5 => if x5 < (x0.length : Int) then (if 0 ≤ x5 then (if x5 < (x1.length : Int) then (if (rd x0 x5) = (rd x1 x5) then (laws_eqIntS.l0 k x0 x1 (wrap64 (x5 + 1))) else (some false)) else (none)) else (none)) else (some true)
def laws_eqIntS.f (k : Nat) (l0 : List Int) (l1 : List Int) : Option (Bool) := if (l0.length : Int) = (l1.length : Int) then (laws_eqIntS.l0 k l0 l1 0) else (some false)
theorem laws_eqIntS.mono_l : ∀ k, (∀ y0 y1 y2, LeO (laws_eqIntS.l0 k y0 y1 y2) (laws_eqIntS.l0 (k + 1) y0 y1 y2))
 | 0 => fun _ _ _ r h => by simp [laws_eqIntS.l0] at h
 | k + 1 => by
  have ih0 := laws_eqIntS.mono_l k
  intro y0 y1 y2
  unfold laws_eqIntS.l0
  repeat' first | (with_reducible exact ih0 _ _ _) | (with_reducible exact LeO.refl _) | (with_reducible exact LeO.none _) | (with_reducible refine LeO.ite ?_ ?_) | (with_reducible refine LeO.bind ?_ (fun _ => ?_))
theorem laws_eqIntS.mono : ∀ a0 a1 k, LeO (laws_eqIntS.f k a0 a1) (laws_eqIntS.f (k + 1) a0 a1) := by
 intro a0 a1 k
 have ih0 := laws_eqIntS.mono_l k
 unfold laws_eqIntS.f
 repeat' first | (with_reducible exact ih0 _ _ _) | (with_reducible exact LeO.refl _) | (with_reducible exact LeO.none _) | (with_reducible refine LeO.ite ?_ ?_) | (with_reducible refine LeO.bind ?_ (fun _ => ?_))
set_option maxHeartbeats 8000000 in
set_option maxRecDepth 100000 in
theorem laws_eqIntS.calls (k : Nat) (A0 : Option Addr) (c0 : Nat) (l0 : List Int) (A1 : Option Addr) (c1 : Nat) (l1 : List Int) (r : Bool) (w : World) (hr0 : Kd.C (Kd.int .i64) w A0 l0.length l0) (hc0 : l0.length ≤ c0) (hr1 : Kd.C (Kd.int .i64) w A1 l1.length l1) (hc1 : l1.length ≤ c1) (h : laws_eqIntS.f k l0 l1 = some r) :
  Calls Tryz.prog 86 #[.slice A0 l0.length c0, .slice A1 l1.length c1] w fun e w' => e = .returned (.bool r) ∧ Drawn0 w w' := by
 have HR0 := Aside0.mk hr0; have HC0 := Aside0.mk hc0; clear hr0 hc0; have HR1 := Aside0.mk hr1; have HC1 := Aside0.mk hc1; clear hr1 hc1; have H := h; unfold laws_eqIntS.f at H; clear h
 by_cases c3 : (l0.length : Int) = (l1.length : Int)
 ·
  rw [if_pos c3] at H
  have c3b0 : ((l0.length : Int) == (l1.length : Int)) = true := beq_iff_eq.mpr c3; have c3b1 : ((l0.length : Int) != (l1.length : Int)) = false := bne_eq_false_iff_eq.mpr c3
  have c3b2 : (l0.length == l1.length) = true := by first | simpa using c3 | (simp at c3 ⊢; omega)
  clear c3; have H' := Aside0.mk H; clear H
  go_enter Tryz.func86, Tryz.ntmps86
  go_wp2
  repeat (go_quiet (fail); try go_wp2)
  go_loopg [5] k (fun kq v5 w' => ∃ (x5_1 : Int), v5 = .int .i64 x5_1 ∧ Aside0 (laws_eqIntS.l0 kq l0 l1 x5_1 = some r) ∧ Aside0 (kq ≤ k) ∧ Drawn0 w w')
  case atStart => exact ⟨(0), y0_17, H', ⟨Nat.le_refl _⟩, y0_14⟩
  case round =>
   clear H'
   try clear c1
   try clear p2
   try clear c3
   try clear c3b0
   try clear c3b1
   try clear c3b2
   obtain ⟨x5_1, rfl, HA, HK1, ⟨m1, rfl⟩⟩ := hrel; cases gk with
   | zero => exact absurd HA.out (by simp [laws_eqIntS.l0])
   | succ k1 =>
    have H := HA.out; clear HA
    simp only [laws_eqIntS.l0] at H
    by_cases c4 : x5_1 < (l0.length : Int)
    ·
     rw [if_pos c4] at H
     have c4b0 : decide (x5_1 < (l0.length : Int)) = true := decide_eq_true c4; clear c4
     by_cases c5 : 0 ≤ x5_1
     rotate_left
     ·
      rw [if_neg c5] at H
      exact absurd H (by simp)
     rw [if_pos c5] at H
     have c5b0 : decide (0 ≤ x5_1) = true := decide_eq_true c5; clear c5
     by_cases c6 : x5_1 < (l1.length : Int)
     rotate_left
     ·
      rw [if_neg c6] at H
      exact absurd H (by simp)
     rw [if_pos c6] at H
     have c6b0 : decide (x5_1 < (l1.length : Int)) = true := decide_eq_true c6; clear c6
     by_cases c7 : (rd l0 x5_1) = (rd l1 x5_1)
     ·
      rw [if_pos c7] at H
      have c7b0 : ((rd l0 x5_1) == (rd l1 x5_1)) = true := beq_iff_eq.mpr c7; have c7b1 : ((rd l0 x5_1) != (rd l1 x5_1)) = false := bne_eq_false_iff_eq.mpr c7; clear c7; have H' := Aside0.mk H; clear H; have p477 : 0 ≤ (x5_1 : Int) := of_decide_eq_true y0_16; have q477 : x5_1 < (l0.length : Int) := of_decide_eq_true y0_16; obtain ⟨ad477, e477, hx477_0⟩ := Kd.at_int HR0.out x5_1 p477 q477; cases e477; replace p477 := eq_true p477; replace q477 := eq_true q477; have p478 : 0 ≤ (x5_1 : Int) := of_decide_eq_true y0_16; have q478 : x5_1 < (l1.length : Int) := of_decide_eq_true y0_16; obtain ⟨ad478, e478, hx478_0⟩ := Kd.at_int HR1.out x5_1 p478 q478; cases e478; replace p478 := eq_true p478; replace q478 := eq_true q478
      go_wp2
      repeat (go_quiet (fail); try go_wp2)
      go_roundg k1
      case measure => have := HK1.out; omega
      case rel => exact ⟨(wrap64 (x5_1 + 1)), y0_17, H', ⟨y0_20⟩, y0_14⟩
     rw [if_neg c7] at H
     have c7b0 : ((rd l0 x5_1) == (rd l1 x5_1)) = false := beq_eq_false_iff_ne.mpr c7; have c7b1 : ((rd l0 x5_1) != (rd l1 x5_1)) = true := bne_iff_ne.mpr c7; obtain rfl := Option.some.inj H; have p477 : 0 ≤ (x5_1 : Int) := of_decide_eq_true y0_16; have q477 : x5_1 < (l0.length : Int) := of_decide_eq_true y0_16; obtain ⟨ad477, e477, hx477_0⟩ := Kd.at_int HR0.out x5_1 p477 q477; cases e477; replace p477 := eq_true p477; replace q477 := eq_true q477; have p478 : 0 ≤ (x5_1 : Int) := of_decide_eq_true y0_16; have q478 : x5_1 < (l1.length : Int) := of_decide_eq_true y0_16; obtain ⟨ad478, e478, hx478_0⟩ := Kd.at_int HR1.out x5_1 p478 q478; cases e478; replace p478 := eq_true p478; replace q478 := eq_true q478
     go_wp2
     repeat (go_quiet (fail); try go_wp2)
     go_ret
     exact ⟨y0_17, y0_14⟩
    rw [if_neg c4] at H
    have c4b0 : decide (x5_1 < (l0.length : Int)) = false := decide_eq_false c4; clear c4; obtain rfl := Option.some.inj H
    go_wp2
    repeat (go_quiet (fail); try go_wp2)
    go_ret
    exact ⟨y0_17, y0_14⟩
 rw [if_neg c3] at H
 have c3b0 : ((l0.length : Int) == (l1.length : Int)) = false := beq_eq_false_iff_ne.mpr c3; have c3b1 : ((l0.length : Int) != (l1.length : Int)) = true := bne_iff_ne.mpr c3
 have c3b2 : (l0.length == l1.length) = false := by first | simpa using c3 | (simp at c3 ⊢; omega)
 obtain rfl := Option.some.inj H
 go_enter Tryz.func86, Tryz.ntmps86
 go_wp2
 repeat (go_quiet (fail); try go_wp2)
 go_ret
 exact ⟨y0_17, y0_14⟩

/-! ### laws_eqQc: function 74 -/
def laws_eqQc.f (k : Nat) (a0_0 : Int) (a0_1 : ByteArray) (l0_2 : List Int) (a1_0 : Int) (a1_1 : ByteArray) (l1_2 : List Int) : Option (Bool) := if a0_0 = a1_0 then (if a0_1.toList = a1_1.toList then ((laws_eqIntS.f k l0_2 l1_2).bind fun t481 => (if t481 = true then (some true) else (some false))) else (some false)) else (some false)
theorem laws_eqQc.mono : ∀ a0 a1 a2 a3 a4 a5 k, LeO (laws_eqQc.f k a0 a1 a2 a3 a4 a5) (laws_eqQc.f (k + 1) a0 a1 a2 a3 a4 a5) := by
 intro a0 a1 a2 a3 a4 a5 k
 unfold laws_eqQc.f
 repeat' first | (with_reducible exact laws_eqIntS.mono _ _ _) | (with_reducible exact LeO.refl _) | (with_reducible exact LeO.none _) | (with_reducible refine LeO.ite ?_ ?_) | (with_reducible refine LeO.bind ?_ (fun _ => ?_))
set_option maxHeartbeats 8000000 in
set_option maxRecDepth 100000 in
theorem laws_eqQc.calls (k : Nat) (a0_0 : Int) (a0_1 : ByteArray) (A0_2 : Option Addr) (c0_2 : Nat) (l0_2 : List Int) (a1_0 : Int) (a1_1 : ByteArray) (A1_2 : Option Addr) (c1_2 : Nat) (l1_2 : List Int) (r : Bool) (w : World) (hr0_2 : Kd.C (Kd.int .i64) w A0_2 l0_2.length l0_2) (hc0_2 : l0_2.length ≤ c0_2) (hr1_2 : Kd.C (Kd.int .i64) w A1_2 l1_2.length l1_2) (hc1_2 : l1_2.length ≤ c1_2) (h : laws_eqQc.f k a0_0 a0_1 l0_2 a1_0 a1_1 l1_2 = some r) :
  Calls Tryz.prog 74 #[.agg #[.int .i64 a0_0, .string a0_1, .slice A0_2 l0_2.length c0_2], .agg #[.int .i64 a1_0, .string a1_1, .slice A1_2 l1_2.length c1_2]] w fun e w' => e = .returned (.bool r) ∧ Below w.heap.size w w' := by
 have hu27 := Tryz.underlying27; have HR0_2 := Aside0.mk hr0_2; have HC0_2 := Aside0.mk hc0_2; clear hr0_2 hc0_2; have HR1_2 := Aside0.mk hr1_2; have HC1_2 := Aside0.mk hc1_2; clear hr1_2 hc1_2; have HB := Aside0.mk (Below.refl w.heap.size w)
 have H := h; unfold laws_eqQc.f at H
 clear h
 go_enter Tryz.func74, Tryz.ntmps74
 have H' := Aside0.mk H; clear H
 go_upto_if 9 with (first | ((with_reducible refine gd 2 ?_); refine bL 2 #[.int .i64 a0_0, .string a0_1, .slice A0_2 l0_2.length c0_2] 27 ?_; intro gb479 w3 _ _ _) | ((with_reducible refine gd 3 ?_); refine bL 3 #[.int .i64 a1_0, .string a1_1, .slice A1_2 l1_2.length c1_2] 27 ?_; intro gb480 w4 _ _ _))
 have H := H'.out; clear H'
 by_cases c5 : a0_0 = a1_0
 ·
  rw [if_pos c5] at H
  have c5b0 : (a0_0 == a1_0) = true := beq_iff_eq.mpr c5; have c5b1 : (a0_0 != a1_0) = false := bne_eq_false_iff_eq.mpr c5; clear c5
  (first | rw [c5b0] | (simp only [i64_w, i32_w]; rw [c5b0]) | skip)
  have H' := Aside0.mk H; clear H
  go_upto_if 14 with fail
  have H := H'.out; clear H'
  by_cases c6 : a0_1.toList = a1_1.toList
  ·
   rw [if_pos c6] at H
   have c6b0 : (a0_1.toList == a1_1.toList) = true := beq_iff_eq.mpr c6; have c6b1 : (a0_1.toList != a1_1.toList) = false := bne_eq_false_iff_eq.mpr c6; clear c6
   (first | rw [c6b0] | (simp only [i64_w, i32_w]; rw [c6b0]) | skip)
   obtain ⟨t481, A7, H⟩ := oB H; (try dsimp only at H); have H' := Aside0.mk H; clear H
   go_upto_if 20 with (first | ((with_reducible refine gate_callee (f := 86) rfl ?_); refine gD (some 19) Tryz.func86 (laws_eqIntS.calls (hr0 := pC HR0_2) (hc0 := HC0_2.out) (hr1 := pC HR1_2) (hc1 := HC1_2.out) (w := _) (h := A7.out)) ?_; intro w8 _))
   have H := H'.out; clear H'
   by_cases c9 : t481 = true
   ·
    subst c9
    rw [if_pos rfl] at H
    obtain rfl := Option.some.inj H
    go_wp2
    go_ret
    exact ⟨y0_17, UpW.out⟩
   replace c9 := Bool.eq_false_iff.mpr c9; subst c9
   rw [if_neg (show ¬ (false = true) by decide)] at H
   obtain rfl := Option.some.inj H
   go_wp2
   go_ret
   exact ⟨y0_17, UpW.out⟩
  rw [if_neg c6] at H
  have c6b0 : (a0_1.toList == a1_1.toList) = false := beq_eq_false_iff_ne.mpr c6; have c6b1 : (a0_1.toList != a1_1.toList) = true := bne_iff_ne.mpr c6
  (first | rw [c6b0] | (simp only [i64_w, i32_w]; rw [c6b0]) | skip)
  obtain rfl := Option.some.inj H
  go_wp2
  go_ret
  exact ⟨y0_17, UpW.out⟩
 rw [if_neg c5] at H
 have c5b0 : (a0_0 == a1_0) = false := beq_eq_false_iff_ne.mpr c5; have c5b1 : (a0_0 != a1_0) = true := bne_iff_ne.mpr c5
 (first | rw [c5b0] | (simp only [i64_w, i32_w]; rw [c5b0]) | skip)
 obtain rfl := Option.some.inj H
 go_wp2
 go_ret
 exact ⟨y0_17, UpW.out⟩

/-! ### laws_eqSafe: function 11 -/
def laws_eqSafe.f (k : Nat) (a0_0 : Int) (a0_1 : Int) (a0_2 : Int) (a0_3 : ByteArray) (l0_4 : List Int) (a0_5 : ByteArray) (a1_0 : Int) (a1_1 : Int) (a1_2 : Int) (a1_3 : ByteArray) (l1_4 : List Int) (a1_5 : ByteArray) : Option (Bool) := if a0_0 = a1_0 then (if a0_1 = a1_1 then ((laws_eqQc.f k a0_2 a0_3 l0_4 a1_2 a1_3 l1_4).bind fun t484 => (if t484 = true then (if a0_5.toList = a1_5.toList then (some true) else (some false)) else (some false))) else (some false)) else (some false)
theorem laws_eqSafe.mono : ∀ a0 a1 a2 a3 a4 a5 a6 a7 a8 a9 a10 a11 k, LeO (laws_eqSafe.f k a0 a1 a2 a3 a4 a5 a6 a7 a8 a9 a10 a11) (laws_eqSafe.f (k + 1) a0 a1 a2 a3 a4 a5 a6 a7 a8 a9 a10 a11) := by
 intro a0 a1 a2 a3 a4 a5 a6 a7 a8 a9 a10 a11 k
 unfold laws_eqSafe.f
 repeat' first | (with_reducible exact laws_eqQc.mono _ _ _ _ _ _ _) | (with_reducible exact LeO.refl _) | (with_reducible exact LeO.none _) | (with_reducible refine LeO.ite ?_ ?_) | (with_reducible refine LeO.bind ?_ (fun _ => ?_))
set_option maxHeartbeats 8000000 in
set_option maxRecDepth 100000 in
theorem laws_eqSafe.calls (k : Nat) (a0_0 : Int) (a0_1 : Int) (a0_2 : Int) (a0_3 : ByteArray) (A0_4 : Option Addr) (c0_4 : Nat) (l0_4 : List Int) (a0_5 : ByteArray) (a1_0 : Int) (a1_1 : Int) (a1_2 : Int) (a1_3 : ByteArray) (A1_4 : Option Addr) (c1_4 : Nat) (l1_4 : List Int) (a1_5 : ByteArray) (r : Bool) (w : World) (hr0_4 : Kd.C (Kd.int .i64) w A0_4 l0_4.length l0_4) (hc0_4 : l0_4.length ≤ c0_4) (hr1_4 : Kd.C (Kd.int .i64) w A1_4 l1_4.length l1_4) (hc1_4 : l1_4.length ≤ c1_4) (h : laws_eqSafe.f k a0_0 a0_1 a0_2 a0_3 l0_4 a0_5 a1_0 a1_1 a1_2 a1_3 l1_4 a1_5 = some r) :
  Calls Tryz.prog 11 #[.agg #[.int .i64 a0_0, .int .i64 a0_1, .int .i64 a0_2, .string a0_3, .slice A0_4 l0_4.length c0_4, .string a0_5], .agg #[.int .i64 a1_0, .int .i64 a1_1, .int .i64 a1_2, .string a1_3, .slice A1_4 l1_4.length c1_4, .string a1_5]] w fun e w' => e = .returned (.bool r) ∧ Below w.heap.size w w' := by
 have hu29 := Tryz.underlying29; have hu27 := Tryz.underlying27; have HR0_4 := Aside0.mk hr0_4; have HC0_4 := Aside0.mk hc0_4; clear hr0_4 hc0_4; have HR1_4 := Aside0.mk hr1_4; have HC1_4 := Aside0.mk hc1_4; clear hr1_4 hc1_4; have HB := Aside0.mk (Below.refl w.heap.size w)
 have H := h; unfold laws_eqSafe.f at H
 clear h
 go_enter Tryz.func11, Tryz.ntmps11
 have H' := Aside0.mk H; clear H
 go_upto_if 9 with (first | ((with_reducible refine gd 2 ?_); refine bL 2 #[.int .i64 a0_0, .int .i64 a0_1, .int .i64 a0_2, .string a0_3, .slice A0_4 l0_4.length c0_4, .string a0_5] 29 ?_; intro gb482 w3 _ _ _) | ((with_reducible refine gd 3 ?_); refine bL 3 #[.int .i64 a1_0, .int .i64 a1_1, .int .i64 a1_2, .string a1_3, .slice A1_4 l1_4.length c1_4, .string a1_5] 29 ?_; intro gb483 w4 _ _ _))
 have H := H'.out; clear H'
 by_cases c5 : a0_0 = a1_0
 ·
  rw [if_pos c5] at H
  have c5b0 : (a0_0 == a1_0) = true := beq_iff_eq.mpr c5; have c5b1 : (a0_0 != a1_0) = false := bne_eq_false_iff_eq.mpr c5; clear c5
  (first | rw [c5b0] | (simp only [i64_w, i32_w]; rw [c5b0]) | skip)
  have H' := Aside0.mk H; clear H
  go_upto_if 14 with fail
  have H := H'.out; clear H'
  by_cases c6 : a0_1 = a1_1
  ·
   rw [if_pos c6] at H
   have c6b0 : (a0_1 == a1_1) = true := beq_iff_eq.mpr c6; have c6b1 : (a0_1 != a1_1) = false := bne_eq_false_iff_eq.mpr c6; clear c6
   (first | rw [c6b0] | (simp only [i64_w, i32_w]; rw [c6b0]) | skip)
   obtain ⟨t484, A7, H⟩ := oB H; (try dsimp only at H); have H' := Aside0.mk H; clear H
   go_upto_if 20 with (first | ((with_reducible refine gate_callee (f := 74) rfl ?_); refine gC (some 19) Tryz.func74 (laws_eqQc.calls (hr0_2 := pC HR0_4) (hc0_2 := HC0_4.out) (hr1_2 := pC HR1_4) (hc1_2 := HC1_4.out) (w := _) (h := A7.out)) ?_; intro w8 _))
   have H := H'.out; clear H'
   by_cases c9 : t484 = true
   ·
    subst c9
    rw [if_pos rfl] at H
    have H' := Aside0.mk H; clear H
    go_upto_if 25 with fail
    have H := H'.out; clear H'
    by_cases c10 : a0_5.toList = a1_5.toList
    ·
     rw [if_pos c10] at H
     have c10b0 : (a0_5.toList == a1_5.toList) = true := beq_iff_eq.mpr c10; have c10b1 : (a0_5.toList != a1_5.toList) = false := bne_eq_false_iff_eq.mpr c10; clear c10
     (first | rw [c10b0] | (simp only [i64_w, i32_w]; rw [c10b0]) | skip)
     obtain rfl := Option.some.inj H
     go_wp2
     go_ret
     exact ⟨y0_17, UpW.out⟩
    rw [if_neg c10] at H
    have c10b0 : (a0_5.toList == a1_5.toList) = false := beq_eq_false_iff_ne.mpr c10; have c10b1 : (a0_5.toList != a1_5.toList) = true := bne_iff_ne.mpr c10
    (first | rw [c10b0] | (simp only [i64_w, i32_w]; rw [c10b0]) | skip)
    obtain rfl := Option.some.inj H
    go_wp2
    go_ret
    exact ⟨y0_17, UpW.out⟩
   replace c9 := Bool.eq_false_iff.mpr c9; subst c9
   rw [if_neg (show ¬ (false = true) by decide)] at H
   obtain rfl := Option.some.inj H
   go_wp2
   go_ret
   exact ⟨y0_17, UpW.out⟩
  rw [if_neg c6] at H
  have c6b0 : (a0_1 == a1_1) = false := beq_eq_false_iff_ne.mpr c6; have c6b1 : (a0_1 != a1_1) = true := bne_iff_ne.mpr c6
  (first | rw [c6b0] | (simp only [i64_w, i32_w]; rw [c6b0]) | skip)
  obtain rfl := Option.some.inj H
  go_wp2
  go_ret
  exact ⟨y0_17, UpW.out⟩
 rw [if_neg c5] at H
 have c5b0 : (a0_0 == a1_0) = false := beq_eq_false_iff_ne.mpr c5; have c5b1 : (a0_0 != a1_0) = true := bne_iff_ne.mpr c5
 (first | rw [c5b0] | (simp only [i64_w, i32_w]; rw [c5b0]) | skip)
 obtain rfl := Option.some.inj H
 go_wp2
 go_ret
 exact ⟨y0_17, UpW.out⟩

/-! ### laws_eqByteS: function 12 -/
def laws_eqByteS.l0 : Nat → List Int → List Int → Int → Option (Bool)
 | 0, _, _, _ => none
 | k + 1, x0, x1, x5 => if x5 < (x0.length : Int) then (if 0 ≤ x5 then (if x5 < (x1.length : Int) then (if (rd x0 x5) = (rd x1 x5) then (laws_eqByteS.l0 k x0 x1 (wrap64 (x5 + 1))) else (some false)) else (none)) else (none)) else (some true)
def laws_eqByteS.f (k : Nat) (l0 : List Int) (l1 : List Int) : Option (Bool) := if (l0.length : Int) = (l1.length : Int) then (laws_eqByteS.l0 k l0 l1 0) else (some false)
theorem laws_eqByteS.mono_l : ∀ k, (∀ y0 y1 y2, LeO (laws_eqByteS.l0 k y0 y1 y2) (laws_eqByteS.l0 (k + 1) y0 y1 y2))
 | 0 => fun _ _ _ r h => by simp [laws_eqByteS.l0] at h
 | k + 1 => by
  have ih0 := laws_eqByteS.mono_l k
  intro y0 y1 y2
  unfold laws_eqByteS.l0
  repeat' first | (with_reducible exact ih0 _ _ _) | (with_reducible exact LeO.refl _) | (with_reducible exact LeO.none _) | (with_reducible refine LeO.ite ?_ ?_) | (with_reducible refine LeO.bind ?_ (fun _ => ?_))
theorem laws_eqByteS.mono : ∀ a0 a1 k, LeO (laws_eqByteS.f k a0 a1) (laws_eqByteS.f (k + 1) a0 a1) := by
 intro a0 a1 k
 have ih0 := laws_eqByteS.mono_l k
 unfold laws_eqByteS.f
 repeat' first | (with_reducible exact ih0 _ _ _) | (with_reducible exact LeO.refl _) | (with_reducible exact LeO.none _) | (with_reducible refine LeO.ite ?_ ?_) | (with_reducible refine LeO.bind ?_ (fun _ => ?_))
set_option maxHeartbeats 8000000 in
set_option maxRecDepth 100000 in
theorem laws_eqByteS.calls (k : Nat) (A0 : Option Addr) (c0 : Nat) (l0 : List Int) (A1 : Option Addr) (c1 : Nat) (l1 : List Int) (r : Bool) (w : World) (hr0 : Kd.C (Kd.int .u8) w A0 l0.length l0) (hc0 : l0.length ≤ c0) (hr1 : Kd.C (Kd.int .u8) w A1 l1.length l1) (hc1 : l1.length ≤ c1) (h : laws_eqByteS.f k l0 l1 = some r) :
  Calls Tryz.prog 12 #[.slice A0 l0.length c0, .slice A1 l1.length c1] w fun e w' => e = .returned (.bool r) ∧ Drawn0 w w' := by
 have HR0 := Aside0.mk hr0; have HC0 := Aside0.mk hc0; clear hr0 hc0; have HR1 := Aside0.mk hr1; have HC1 := Aside0.mk hc1; clear hr1 hc1; have H := h; unfold laws_eqByteS.f at H; clear h
 by_cases c3 : (l0.length : Int) = (l1.length : Int)
 ·
  rw [if_pos c3] at H
  have c3b0 : ((l0.length : Int) == (l1.length : Int)) = true := beq_iff_eq.mpr c3; have c3b1 : ((l0.length : Int) != (l1.length : Int)) = false := bne_eq_false_iff_eq.mpr c3
  have c3b2 : (l0.length == l1.length) = true := by first | simpa using c3 | (simp at c3 ⊢; omega)
  clear c3; have H' := Aside0.mk H; clear H
  go_enter Tryz.func12, Tryz.ntmps12
  go_wp2
  repeat (go_quiet (fail); try go_wp2)
  go_loopg [5] k (fun kq v5 w' => ∃ (x5_1 : Int), v5 = .int .i64 x5_1 ∧ Aside0 (laws_eqByteS.l0 kq l0 l1 x5_1 = some r) ∧ Aside0 (kq ≤ k) ∧ Drawn0 w w')
  case atStart => exact ⟨(0), y0_17, H', ⟨Nat.le_refl _⟩, y0_14⟩
  case round =>
   clear H'
   try clear c1
   try clear p2
   try clear c3
   try clear c3b0
   try clear c3b1
   try clear c3b2
   obtain ⟨x5_1, rfl, HA, HK1, ⟨m1, rfl⟩⟩ := hrel; cases gk with
   | zero => exact absurd HA.out (by simp [laws_eqByteS.l0])
   | succ k1 =>
    have H := HA.out; clear HA
    simp only [laws_eqByteS.l0] at H
    by_cases c4 : x5_1 < (l0.length : Int)
    ·
     rw [if_pos c4] at H
     have c4b0 : decide (x5_1 < (l0.length : Int)) = true := decide_eq_true c4; clear c4
     by_cases c5 : 0 ≤ x5_1
     rotate_left
     ·
      rw [if_neg c5] at H
      exact absurd H (by simp)
     rw [if_pos c5] at H
     have c5b0 : decide (0 ≤ x5_1) = true := decide_eq_true c5; clear c5
     by_cases c6 : x5_1 < (l1.length : Int)
     rotate_left
     ·
      rw [if_neg c6] at H
      exact absurd H (by simp)
     rw [if_pos c6] at H
     have c6b0 : decide (x5_1 < (l1.length : Int)) = true := decide_eq_true c6; clear c6
     by_cases c7 : (rd l0 x5_1) = (rd l1 x5_1)
     ·
      rw [if_pos c7] at H
      have c7b0 : ((rd l0 x5_1) == (rd l1 x5_1)) = true := beq_iff_eq.mpr c7; have c7b1 : ((rd l0 x5_1) != (rd l1 x5_1)) = false := bne_eq_false_iff_eq.mpr c7; clear c7; have H' := Aside0.mk H; clear H; have p485 : 0 ≤ (x5_1 : Int) := of_decide_eq_true y0_16; have q485 : x5_1 < (l0.length : Int) := of_decide_eq_true y0_16; obtain ⟨ad485, e485, hx485_0⟩ := Kd.at_int HR0.out x5_1 p485 q485; cases e485; replace p485 := eq_true p485; replace q485 := eq_true q485; have p486 : 0 ≤ (x5_1 : Int) := of_decide_eq_true y0_16; have q486 : x5_1 < (l1.length : Int) := of_decide_eq_true y0_16; obtain ⟨ad486, e486, hx486_0⟩ := Kd.at_int HR1.out x5_1 p486 q486; cases e486; replace p486 := eq_true p486; replace q486 := eq_true q486
      go_wp2
      repeat (go_quiet (fail); try go_wp2)
      go_roundg k1
      case measure => have := HK1.out; omega
      case rel => exact ⟨(wrap64 (x5_1 + 1)), y0_17, H', ⟨y0_20⟩, y0_14⟩
     rw [if_neg c7] at H
     have c7b0 : ((rd l0 x5_1) == (rd l1 x5_1)) = false := beq_eq_false_iff_ne.mpr c7; have c7b1 : ((rd l0 x5_1) != (rd l1 x5_1)) = true := bne_iff_ne.mpr c7; obtain rfl := Option.some.inj H; have p485 : 0 ≤ (x5_1 : Int) := of_decide_eq_true y0_16; have q485 : x5_1 < (l0.length : Int) := of_decide_eq_true y0_16; obtain ⟨ad485, e485, hx485_0⟩ := Kd.at_int HR0.out x5_1 p485 q485; cases e485; replace p485 := eq_true p485; replace q485 := eq_true q485; have p486 : 0 ≤ (x5_1 : Int) := of_decide_eq_true y0_16; have q486 : x5_1 < (l1.length : Int) := of_decide_eq_true y0_16; obtain ⟨ad486, e486, hx486_0⟩ := Kd.at_int HR1.out x5_1 p486 q486; cases e486; replace p486 := eq_true p486; replace q486 := eq_true q486
     go_wp2
     repeat (go_quiet (fail); try go_wp2)
     go_ret
     exact ⟨y0_17, y0_14⟩
    rw [if_neg c4] at H
    have c4b0 : decide (x5_1 < (l0.length : Int)) = false := decide_eq_false c4; clear c4; obtain rfl := Option.some.inj H
    go_wp2
    repeat (go_quiet (fail); try go_wp2)
    go_ret
    exact ⟨y0_17, y0_14⟩
 rw [if_neg c3] at H
 have c3b0 : ((l0.length : Int) == (l1.length : Int)) = false := beq_eq_false_iff_ne.mpr c3; have c3b1 : ((l0.length : Int) != (l1.length : Int)) = true := bne_iff_ne.mpr c3
 have c3b2 : (l0.length == l1.length) = false := by first | simpa using c3 | (simp at c3 ⊢; omega)
 obtain rfl := Option.some.inj H
 go_enter Tryz.func12, Tryz.ntmps12
 go_wp2
 repeat (go_quiet (fail); try go_wp2)
 go_ret
 exact ⟨y0_17, y0_14⟩

end Go.Proofs.YtdmjhgogljhfkaaGreatDoor.PFnExactLastNote
