-- By a program of this session, out of the translation (the print of the kit, with turns of its own). Lean checks it.
import Derived.Test.YtdmjhgogljhfkaaGreatDoorPFnExactLastNotex0
import Derived.Test.YtdmjhgogljhfkaaGreatDoorPFnExactLastNotex1
import Derived.Test.YtdmjhgogljhfkaaGreatDoorPFnExactLastNotex4
namespace Go.Proofs.YtdmjhgogljhfkaaGreatDoor.PFnExactLastNote
open Go.RowKit Go.Proofs.YtdmjhgogljhfkaaGreatDoorW.PrintWords Go.Proofs.YtdmjhgogljhfkaaGreatDoorW.PrintLast Go.Proofs.YtdmjhgogljhfkaaGreatDoorW.PrintMore
attribute [local go_sem] max2_int min2_int max_two min_two max_three min_three max_four min_four   -- for this text's walks alone
attribute [local go_sem] cell_in frozen_in
set_option synthInstance.maxSize 1000000
set_option synthInstance.maxHeartbeats 2000000
set_option linter.unusedVariables false
set_option linter.unusedSimpArgs false

/-! ### spec_SafeOk: function 129 -/
def spec_SafeOk.f (k : Nat) (a0_0 : Int) (a0_1 : Int) (a1_0 : Int) (a1_1 : Int) (a1_2 : Int) (a1_3 : ByteArray) (l1_4 : List Int) (a1_5 : ByteArray) : Option (Bool) := (spec_l1In.f a1_0 0 60).bind fun t253 => (if t253 = true then ((spec_l1In.f a1_1 0 60).bind fun t254 => (if t254 = true then ((spec_QcOk.f k a0_0 a0_1 a1_2 a1_3 l1_4).bind fun t255 => (if t255 = true then ((spec_NameOk.f k a1_5).bind fun t256 => (some t256)) else (some false))) else (some false))) else (some false))
theorem spec_SafeOk.mono : ∀ a0 a1 a2 a3 a4 a5 a6 a7 k, LeO (spec_SafeOk.f k a0 a1 a2 a3 a4 a5 a6 a7) (spec_SafeOk.f (k + 1) a0 a1 a2 a3 a4 a5 a6 a7) := by
 intro a0 a1 a2 a3 a4 a5 a6 a7 k
 unfold spec_SafeOk.f
 repeat' first | (with_reducible exact spec_NameOk.mono _ _) | (with_reducible exact spec_QcOk.mono _ _ _ _ _ _) | (with_reducible exact LeO.refl _) | (with_reducible exact LeO.none _) | (with_reducible refine LeO.ite ?_ ?_) | (with_reducible refine LeO.bind ?_ (fun _ => ?_))
set_option maxHeartbeats 8000000 in
set_option maxRecDepth 100000 in
theorem spec_SafeOk.calls (k : Nat) (a0_0 : Int) (a0_1 : Int) (a1_0 : Int) (a1_1 : Int) (a1_2 : Int) (a1_3 : ByteArray) (A1_4 : Option Addr) (c1_4 : Nat) (l1_4 : List Int) (a1_5 : ByteArray) (r : Bool) (w : World) (hr1_4 : Kd.C (Kd.int .i64) w A1_4 l1_4.length l1_4) (hc1_4 : l1_4.length ≤ c1_4) (h : spec_SafeOk.f k a0_0 a0_1 a1_0 a1_1 a1_2 a1_3 l1_4 a1_5 = some r) :
  Calls Tryz.prog 129 #[.agg #[.int .i64 a0_0, .int .i64 a0_1], .agg #[.int .i64 a1_0, .int .i64 a1_1, .int .i64 a1_2, .string a1_3, .slice A1_4 l1_4.length c1_4, .string a1_5]] w fun e w' => e = .returned (.bool r) ∧ Below w.heap.size w w' := by
 have hu32 := Tryz.underlying32; have hu29 := Tryz.underlying29; have hu27 := Tryz.underlying27; have HR1_4 := Aside0.mk hr1_4; have HC1_4 := Aside0.mk hc1_4; clear hr1_4 hc1_4; have HB := Aside0.mk (Below.refl w.heap.size w)
 have H := h; unfold spec_SafeOk.f at H
 clear h
 go_enter Tryz.func129, Tryz.ntmps129
 have H' := Aside0.mk H; clear H
 go_upto_region 1 with (first | ((with_reducible refine gd 2 ?_); refine bL 2 #[.int .i64 a0_0, .int .i64 a0_1] 32 ?_; intro gb251 w3 _ _ _) | ((with_reducible refine gd 3 ?_); refine bL 3 #[.int .i64 a1_0, .int .i64 a1_1, .int .i64 a1_2, .string a1_3, .slice A1_4 l1_4.length c1_4, .string a1_5] 29 ?_; intro gb252 w4 _ _ _))
 have H := H'.out; clear H'; obtain ⟨t253, A5, H⟩ := oB H; (try dsimp only at H)
 by_cases c6 : t253 = true
 ·
  subst c6
  rw [if_pos rfl] at H
  obtain ⟨t254, A7, H⟩ := oB H; (try dsimp only at H)
  by_cases c8 : t254 = true
  ·
   subst c8
   rw [if_pos rfl] at H
   obtain ⟨t255, A9, H⟩ := oB H; (try dsimp only at H)
   by_cases c10 : t255 = true
   ·
    subst c10
    rw [if_pos rfl] at H
    obtain ⟨t256, A11, H⟩ := oB H; (try dsimp only at H); obtain rfl := Option.some.inj H
    go_wp2_with (first | ((with_reducible refine gate_callee (f := 110) rfl ?_); refine gD (some 7) Tryz.func110 (spec_l1In.calls (w := _) (h := A5.out)) ?_; intro w12 _) | (go_at_call 110; refine aD (spec_l1In.calls (w := _) (h := A7.out)) ?_; intro w13 _) | (go_at_call 100; refine aC (spec_QcOk.calls (hr1_2 := pC HR1_4) (hc1_2 := HC1_4.out) (w := _) (h := A9.out)) ?_; intro w14 _) | (go_at_call 112; refine aC (spec_NameOk.calls (w := _) (h := A11.out)) ?_; intro w15 _))
    go_ret
    exact ⟨y0_17, UpW.out⟩
   replace c10 := Bool.eq_false_iff.mpr c10; subst c10
   rw [if_neg (show ¬ (false = true) by decide)] at H
   obtain rfl := Option.some.inj H
   go_wp2_with (first | ((with_reducible refine gate_callee (f := 110) rfl ?_); refine gD (some 7) Tryz.func110 (spec_l1In.calls (w := _) (h := A5.out)) ?_; intro w16 _) | (go_at_call 110; refine aD (spec_l1In.calls (w := _) (h := A7.out)) ?_; intro w17 _) | (go_at_call 100; refine aC (spec_QcOk.calls (hr1_2 := pC HR1_4) (hc1_2 := HC1_4.out) (w := _) (h := A9.out)) ?_; intro w18 _))
   go_ret
   exact ⟨y0_17, UpW.out⟩
  replace c8 := Bool.eq_false_iff.mpr c8; subst c8
  rw [if_neg (show ¬ (false = true) by decide)] at H
  obtain rfl := Option.some.inj H
  go_wp2_with (first | ((with_reducible refine gate_callee (f := 110) rfl ?_); refine gD (some 7) Tryz.func110 (spec_l1In.calls (w := _) (h := A5.out)) ?_; intro w19 _) | (go_at_call 110; refine aD (spec_l1In.calls (w := _) (h := A7.out)) ?_; intro w20 _))
  go_ret
  exact ⟨y0_17, UpW.out⟩
 replace c6 := Bool.eq_false_iff.mpr c6; subst c6
 rw [if_neg (show ¬ (false = true) by decide)] at H
 obtain rfl := Option.some.inj H
 go_wp2_with (first | ((with_reducible refine gate_callee (f := 110) rfl ?_); refine gD (some 7) Tryz.func110 (spec_l1In.calls (w := _) (h := A5.out)) ?_; intro w21 _))
 go_ret
 exact ⟨y0_17, UpW.out⟩

/-! ### spec_SafeOf: function 58 -/
def spec_SafeOf.f (k : Nat) (a0_0 : Int) (a0_1 : Int) (l1 : List Int) : Option (Int × Int × Int × ByteArray × List Int × ByteArray × Bool) := (spec_l12Num.f k l1 0 true).bind fun bt261 => ((spec_l12Num.f k l1 bt261.2.1 bt261.2.2).bind fun bt264 => ((spec_l12Qc.f k l1 bt264.2.1 bt264.2.2).bind fun bt267 => ((spec_l12Text.f k l1 bt267.2.2.2.1 bt267.2.2.2.2).bind fun bt274 => (if bt274.2.2 = true then (if bt274.2.1 = (l1.length : Int) then ((spec_SafeOk.f k a0_0 a0_1 bt261.1 bt264.1 bt267.1 bt267.2.1 bt267.2.2.1 bt274.1).bind fun t277 => (if t277 = true then (some (bt261.1, bt264.1, bt267.1, bt267.2.1, bt267.2.2.1, bt274.1, true)) else (some (0, 0, 0, (⟨#[]⟩ : ByteArray), ([] : List Int), (⟨#[]⟩ : ByteArray), false)))) else (some (0, 0, 0, (⟨#[]⟩ : ByteArray), ([] : List Int), (⟨#[]⟩ : ByteArray), false))) else (some (0, 0, 0, (⟨#[]⟩ : ByteArray), ([] : List Int), (⟨#[]⟩ : ByteArray), false))))))
theorem spec_SafeOf.mono : ∀ a0 a1 a2 k, LeO (spec_SafeOf.f k a0 a1 a2) (spec_SafeOf.f (k + 1) a0 a1 a2) := by
 intro a0 a1 a2 k
 unfold spec_SafeOf.f
 repeat' first | (with_reducible exact spec_SafeOk.mono _ _ _ _ _ _ _ _ _) | (with_reducible exact spec_l12Num.mono _ _ _ _) | (with_reducible exact spec_l12Qc.mono _ _ _ _) | (with_reducible exact spec_l12Text.mono _ _ _ _) | (with_reducible exact LeO.refl _) | (with_reducible exact LeO.none _) | (with_reducible refine LeO.ite ?_ ?_) | (with_reducible refine LeO.bind ?_ (fun _ => ?_))
set_option maxHeartbeats 8000000 in
set_option maxRecDepth 100000 in
theorem spec_SafeOf.calls (k : Nat) (a0_0 : Int) (a0_1 : Int) (A1 : Option Addr) (c1 : Nat) (l1 : List Int) (r1 : Int) (r2 : Int) (r3 : Int) (r4 : ByteArray) (r5 : List Int) (r6 : ByteArray) (r7 : Bool) (w : World) (hr1 : Kd.C (Kd.int .u8) w A1 l1.length l1) (hc1 : l1.length ≤ c1) (h : spec_SafeOf.f k a0_0 a0_1 l1 = some (r1, r2, r3, r4, r5, r6, r7)) :
  Calls Tryz.prog 58 #[.agg #[.int .i64 a0_0, .int .i64 a0_1], .slice A1 l1.length c1] w fun e w' => ∃ v4_ : Value, e = .returned (.tuple #[.agg #[.int .i64 r1, .int .i64 r2, .int .i64 r3, .string r4, v4_, .string r6], .bool r7]) ∧ Kd.R (Kd.int .i64) 3 w' w.heap.size (fun _ => True) v4_ r5 ∧ Below w.heap.size w w' := by
 have hu32 := Tryz.underlying32; have hu29 := Tryz.underlying29; have hu139 := Tryz.underlying139; have hu27 := Tryz.underlying27; have HR1 := Aside0.mk hr1; have HC1 := Aside0.mk hc1; clear hr1 hc1; have HB := Aside0.mk (Below.refl w.heap.size w)
 have H := h; unfold spec_SafeOf.f at H
 clear h; obtain ⟨⟨t261, t262, t263⟩, A3, H⟩ := oB H; (try dsimp only at H); obtain ⟨⟨t264, t265, t266⟩, A4, H⟩ := oB H; (try dsimp only at H); obtain ⟨⟨t267, t268, t269, t272, t273⟩, A5, H⟩ := oB H; (try dsimp only at H); obtain ⟨⟨t274, t275, t276⟩, A6, H⟩ := oB H; (try dsimp only at H)
 go_enter Tryz.func58, Tryz.ntmps58
 have H' := Aside0.mk H; clear H
 go_upto_region 7 with (first | ((with_reducible refine gd 2 ?_); refine bL 2 #[.int .i64 a0_0, .int .i64 a0_1] 32 ?_; intro gb257 w7 _ _ _) | ((with_reducible refine gd 4 ?_); refine bL 4 #[.int .i64 0, .int .i64 0, .int .i64 0, .string (⟨#[]⟩ : ByteArray), .slice none 0 0, .string (⟨#[]⟩ : ByteArray)] 29 ?_; intro gb258 w8 _ _ _) | ((with_reducible refine gd 10 ?_); refine bL 10 #[.slice A1 l1.length c1, .int .i64 0, .bool true] 139 ?_; intro gb259 w9 _ _ _) | ((with_reducible refine gd 7 ?_); refine bL 7 #[.int .i64 0, .int .i64 0, .int .i64 0, .string (⟨#[]⟩ : ByteArray), .slice none 0 0, .string (⟨#[]⟩ : ByteArray)] 29 ?_; intro gb260 w10 _ _ _) | ((with_reducible refine gate_callee (f := 126) rfl ?_); refine gK (some 13) Tryz.func126 (spec_l12Num.calls (hI := (nS139 xB HR1 HC1)) (hB := UpW.out) (w := _) (h := A3.out)) ?_; intro w11 _ _ _ HI12; obtain ⟨AS13_0, cS13_0, bk13, HG13, HS13_0, HL13_0⟩ := oS139 HI12) | ((with_reducible refine gate_callee (f := 126) rfl ?_); refine gK (some 16) Tryz.func126 (spec_l12Num.calls (hI := (nS139 xB HS13_0 HL13_0)) (hB := UpW.out) (w := _) (h := A4.out)) ?_; intro w14 _ _ _ HI15; obtain ⟨AS16_0, cS16_0, bk16, HG16, HS16_0, HL16_0⟩ := oS139 HI15; clear bk13) | ((with_reducible refine gate_callee (f := 127) rfl ?_); refine gK1 (some 19) Tryz.func127 (spec_l12Qc.calls (hI := (nS139 xB HS16_0 HL16_0)) (hB := UpW.out) (w := _) (h := A5.out)) ?_; intro Ao270 co270 w17 _ _ _ HI18 HO271; obtain ⟨AS19_0, cS19_0, bk19, HG19, HS19_0, HL19_0⟩ := oS139 HI18; clear bk16) | ((with_reducible refine gate_callee (f := 128) rfl ?_); refine gK (some 22) Tryz.func128 (spec_l12Text.calls (hI := (nS139 xB HS19_0 HL19_0)) (hB := UpW.out) (w := _) (h := A6.out)) ?_; intro w20 _ _ _ HI21; obtain ⟨AS22_0, cS22_0, bk22, HG22, HS22_0, HL22_0⟩ := oS139 HI21; clear bk19))
 have H := H'.out; clear H'
 by_cases c23 : t276 = true
 ·
  subst c23
  rw [if_pos rfl] at H
  by_cases c24 : t275 = (l1.length : Int)
  ·
   rw [if_pos c24] at H
   have c24b0 : (t275 == (l1.length : Int)) = true := beq_iff_eq.mpr c24; have c24b1 : (t275 != (l1.length : Int)) = false := bne_eq_false_iff_eq.mpr c24; clear c24
   (first | rw [c24b0] | (simp only [i64_w, i32_w]; rw [c24b0]) | skip)
   obtain ⟨t277, A25, H⟩ := oB H; (try dsimp only at H); have H' := Aside0.mk H; clear H
   go_upto_if 43 with (first | (go_at_call 129; refine aC (spec_SafeOk.calls (hr1_4 := rC HO271) (hc1_4 := rL HO271) (w := _) (h := A25.out)) ?_; intro w26 _))
   have H := H'.out; clear H'
   by_cases c27 : t277 = true
   ·
    subst c27
    rw [if_pos rfl] at H
    simp only [Option.some.injEq, Prod.mk.injEq] at H
    obtain ⟨rfl, rfl, rfl, rfl, rfl, rfl, rfl⟩ := H
    go_wp2
    refine bodyPost_ret (results_ct rfl _ _ gb258 29 #[.int .i64 t261, .int .i64 t264, .int .i64 t267, .string t268, .slice Ao270 t269.length co270, .string t274] (0, 0) _ rfl xB Tryz.underlying29 rfl (by kernel_rfl)) rfl ?_
    exact ⟨_, y0_17, rR HO271, UpW.out⟩
   replace c27 := Bool.eq_false_iff.mpr c27; subst c27
   rw [if_neg (show ¬ (false = true) by decide)] at H
   simp only [Option.some.injEq, Prod.mk.injEq] at H
   obtain ⟨rfl, rfl, rfl, rfl, rfl, rfl, rfl⟩ := H
   go_wp2
   refine bodyPost_ret (results_ct rfl _ _ gb258 29 #[.int .i64 0, .int .i64 0, .int .i64 0, .string (⟨#[]⟩ : ByteArray), .slice none 0 0, .string (⟨#[]⟩ : ByteArray)] (0, 0) _ rfl xB Tryz.underlying29 rfl (by kernel_rfl)) rfl ?_
   exact ⟨_, y0_17, Kd.R_nil _ _ _ _ _, UpW.out⟩
  rw [if_neg c24] at H
  have c24b0 : (t275 == (l1.length : Int)) = false := beq_eq_false_iff_ne.mpr c24; have c24b1 : (t275 != (l1.length : Int)) = true := bne_iff_ne.mpr c24
  (first | rw [c24b0] | (simp only [i64_w, i32_w]; rw [c24b0]) | skip)
  have H' := Aside0.mk H; clear H
  go_upto_if 43 with fail
  have H := H'.out; clear H'
  simp only [Option.some.injEq, Prod.mk.injEq] at H
  obtain ⟨rfl, rfl, rfl, rfl, rfl, rfl, rfl⟩ := H
  go_wp2
  refine bodyPost_ret (results_ct rfl _ _ gb258 29 #[.int .i64 0, .int .i64 0, .int .i64 0, .string (⟨#[]⟩ : ByteArray), .slice none 0 0, .string (⟨#[]⟩ : ByteArray)] (0, 0) _ rfl xB Tryz.underlying29 rfl (by kernel_rfl)) rfl ?_
  exact ⟨_, y0_17, Kd.R_nil _ _ _ _ _, UpW.out⟩
 replace c23 := Bool.eq_false_iff.mpr c23; subst c23
 rw [if_neg (show ¬ (false = true) by decide)] at H
 have H' := Aside0.mk H; clear H
 go_upto_if 43 with fail
 have H := H'.out; clear H'
 simp only [Option.some.injEq, Prod.mk.injEq] at H
 obtain ⟨rfl, rfl, rfl, rfl, rfl, rfl, rfl⟩ := H
 go_wp2
 refine bodyPost_ret (results_ct rfl _ _ gb258 29 #[.int .i64 0, .int .i64 0, .int .i64 0, .string (⟨#[]⟩ : ByteArray), .slice none 0 0, .string (⟨#[]⟩ : ByteArray)] (0, 0) _ rfl xB Tryz.underlying29 rfl (by kernel_rfl)) rfl ?_
 exact ⟨_, y0_17, Kd.R_nil _ _ _ _ _, UpW.out⟩

/-! ### spec_SafeNew: function 71 -/
def spec_SafeNew.f  : Option (Int × Int × Int × ByteArray × List Int × ByteArray) := some (0, 0, 0, (⟨#[]⟩ : ByteArray), ([] : List Int), (⟨#[]⟩ : ByteArray))
set_option maxHeartbeats 8000000 in
set_option maxRecDepth 100000 in
theorem spec_SafeNew.calls  (r1 : Int) (r2 : Int) (r3 : Int) (r4 : ByteArray) (r5 : List Int) (r6 : ByteArray) (w : World) (h : spec_SafeNew.f  = some (r1, r2, r3, r4, r5, r6)) :
  Calls Tryz.prog 71 #[] w fun e w' => ∃ v4_ : Value, e = .returned (.agg #[.int .i64 r1, .int .i64 r2, .int .i64 r3, .string r4, v4_, .string r6]) ∧ Kd.R (Kd.int .i64) 3 w' w.heap.size (fun _ => True) v4_ r5 ∧ Below w.heap.size w w' := by
 have hu29 := Tryz.underlying29; have HB := Aside0.mk (Below.refl w.heap.size w); have H := h; unfold spec_SafeNew.f at H; clear h
 simp only [Option.some.injEq, Prod.mk.injEq] at H
 obtain ⟨rfl, rfl, rfl, rfl, rfl, rfl⟩ := H
 go_enter Tryz.func71, Tryz.ntmps71
 go_wp2_with (first | ((with_reducible refine gd 0 ?_); refine bL 0 #[.int .i64 0, .int .i64 0, .int .i64 0, .string (⟨#[]⟩ : ByteArray), .slice none 0 0, .string (⟨#[]⟩ : ByteArray)] 29 ?_; intro gb278 w1 _ _ _))
 refine bodyPost_ret (results_cell_row rfl _ _ gb278 29 #[.int .i64 0, .int .i64 0, .int .i64 0, .string (⟨#[]⟩ : ByteArray), .slice none 0 0, .string (⟨#[]⟩ : ByteArray)] (0, 0) _ rfl xB Tryz.underlying29 rfl (by kernel_rfl)) rfl ?_
 exact ⟨_, y0_17, Kd.R_nil _ _ _ _ _, UpW.out⟩

end Go.Proofs.YtdmjhgogljhfkaaGreatDoor.PFnExactLastNote
