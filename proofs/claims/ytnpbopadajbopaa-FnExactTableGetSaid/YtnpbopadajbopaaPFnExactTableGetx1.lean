-- By a program of this session, out of the translation (the print of the kit, with turns of its own). Lean checks it.
import Derived.Test.YtnpbopadajbopaaPFnExactTableGetx0
namespace Go.Proofs.Ytnpbopadajbopaa.PFnExactTableGet
open Go.RowKit Go.Proofs.YtnpbopadajbopaaW.PrintWords Go.Proofs.YtnpbopadajbopaaW.PrintLast Go.Proofs.YtnpbopadajbopaaW.PrintMore
attribute [local go_sem] max2_int min2_int max_two min_two max_three min_three max_four min_four   -- for this text's walks alone
attribute [local go_sem] cell_in frozen_in
set_option synthInstance.maxSize 1000000
set_option synthInstance.maxHeartbeats 2000000
set_option linter.unusedVariables false
set_option linter.unusedSimpArgs false

/-! ### laws_szIntS: function 25 -/
def laws_szIntS.f (l0 : List Int) (a1 : Int) : Option (Int) := if (wrap64 (a1 - (l0.length : Int))) < 0 then (some (-1)) else (some (wrap64 (a1 - (l0.length : Int))))
set_option maxHeartbeats 8000000 in
set_option maxRecDepth 100000 in
theorem laws_szIntS.calls (A0 : Option Addr) (c0 : Nat) (l0 : List Int) (a1 : Int) (r : Int) (w : World) (hr0 : Kd.C (Kd.int .i64) w A0 l0.length l0) (hc0 : l0.length ≤ c0) (h : laws_szIntS.f l0 a1 = some r) :
  Calls Try.prog 25 #[.slice A0 l0.length c0, .int .i64 a1] w fun e w' => e = .returned (.int .i64 r) ∧ Drawn0 w w' := by
 have HR0 := Aside0.mk hr0; have HC0 := Aside0.mk hc0; clear hr0 hc0; have H := h; unfold laws_szIntS.f at H; clear h
 by_cases c3 : (wrap64 (a1 - (l0.length : Int))) < 0
 ·
  rw [if_pos c3] at H
  have c3b0 : decide ((wrap64 (a1 - (l0.length : Int))) < 0) = true := decide_eq_true c3; clear c3; obtain rfl := Option.some.inj H
  go_enter Try.func25, Try.ntmps25
  go_wp2
  go_ret
  exact ⟨y0_4, y0_2⟩
 rw [if_neg c3] at H
 have c3b0 : decide ((wrap64 (a1 - (l0.length : Int))) < 0) = false := decide_eq_false c3; clear c3; obtain rfl := Option.some.inj H
 go_enter Try.func25, Try.ntmps25
 go_wp2
 go_ret
 exact ⟨y0_4, y0_2⟩

/-! ### laws_szPart: function 17 -/
def laws_szPart.f (a0_0 : Int) (a0_1 : ByteArray) (l0_2 : List Int) (a1 : Int) : Option (Int) := if (wrap64 (a1 - (a0_1.size : Int))) < 0 then (some (-1)) else ((laws_szIntS.f l0_2 (wrap64 (a1 - (a0_1.size : Int)))).bind fun t102 => (if t102 < 0 then (some (-1)) else (some t102)))
set_option maxHeartbeats 8000000 in
set_option maxRecDepth 100000 in
theorem laws_szPart.calls (a0_0 : Int) (a0_1 : ByteArray) (A0_2 : Option Addr) (c0_2 : Nat) (l0_2 : List Int) (a1 : Int) (r : Int) (w : World) (hr0_2 : Kd.C (Kd.int .i64) w A0_2 l0_2.length l0_2) (hc0_2 : l0_2.length ≤ c0_2) (h : laws_szPart.f a0_0 a0_1 l0_2 a1 = some r) :
  Calls Try.prog 17 #[.agg #[.int .i64 a0_0, .string a0_1, .slice A0_2 l0_2.length c0_2], .int .i64 a1] w fun e w' => e = .returned (.int .i64 r) ∧ Below w.heap.size w w' := by
 have hu38 := Try.underlying38; have HR0_2 := Aside0.mk hr0_2; have HC0_2 := Aside0.mk hc0_2; clear hr0_2 hc0_2; have HB := Aside0.mk (Below.refl w.heap.size w)
 have H := h; unfold laws_szPart.f at H
 clear h
 go_enter Try.func17, Try.ntmps17
 have H' := Aside0.mk H; clear H
 go_upto_if 11 with (first | ((with_reducible refine gd 2 ?_); refine bL 2 #[.int .i64 a0_0, .string a0_1, .slice A0_2 l0_2.length c0_2] 38 ?_; intro gb101 w3 _ _ _))
 have H := H'.out; clear H'
 by_cases c4 : (wrap64 (a1 - (a0_1.size : Int))) < 0
 ·
  rw [if_pos c4] at H
  have c4b0 : decide ((wrap64 (a1 - (a0_1.size : Int))) < 0) = true := decide_eq_true c4; clear c4
  (first | rw [c4b0] | (simp only [i64_w, i32_w]; rw [c4b0]) | skip)
  obtain rfl := Option.some.inj H
  go_wp2
  go_ret
  exact ⟨y0_4, UpW.out⟩
 rw [if_neg c4] at H
 have c4b0 : decide ((wrap64 (a1 - (a0_1.size : Int))) < 0) = false := decide_eq_false c4; clear c4
 (first | rw [c4b0] | (simp only [i64_w, i32_w]; rw [c4b0]) | skip)
 obtain ⟨t102, A5, H⟩ := oB H; (try dsimp only at H); have H' := Aside0.mk H; clear H
 go_upto_if 17 with (first | ((with_reducible refine gate_callee (f := 25) rfl ?_); refine gD (some 15) Try.func25 (laws_szIntS.calls (hr0 := pC HR0_2) (hc0 := HC0_2.out) (w := _) (h := A5.out)) ?_; intro w6 _))
 have H := H'.out; clear H'
 by_cases c7 : t102 < 0
 ·
  rw [if_pos c7] at H
  have c7b0 : decide (t102 < 0) = true := decide_eq_true c7; clear c7
  (first | rw [c7b0] | (simp only [i64_w, i32_w]; rw [c7b0]) | skip)
  obtain rfl := Option.some.inj H
  go_wp2
  go_ret
  exact ⟨y0_4, UpW.out⟩
 rw [if_neg c7] at H
 have c7b0 : decide (t102 < 0) = false := decide_eq_false c7; clear c7
 (first | rw [c7b0] | (simp only [i64_w, i32_w]; rw [c7b0]) | skip)
 obtain rfl := Option.some.inj H
 go_wp2
 go_ret
 exact ⟨y0_4, UpW.out⟩

/-! ### laws_szPartS: function 5 -/
def laws_szPartS.l0 : Nat → List (S38) → Int → Int → Option (Int)
 | 0, _, _, _ => none
 | k + 1, x0, x1, x5 => if x5 < (x0.length : Int) then (if 0 ≤ x5 then ((laws_szPart.f ((rd_T38 x0 x5).f0) ((rd_T38 x0 x5).f1) ((rd_T38 x0 x5).f2) x1).bind fun t104 => (if t104 < 0 then (some (-1)) else (laws_szPartS.l0 k x0 t104 (wrap64 (x5 + 1))))) else (none)) else (some x1)
def laws_szPartS.f (k : Nat) (l0 : List (S38)) (a1 : Int) : Option (Int) := if (wrap64 (a1 - (l0.length : Int))) < 0 then (some (-1)) else (laws_szPartS.l0 k l0 (wrap64 (a1 - (l0.length : Int))) 0)
theorem laws_szPartS.mono_l : ∀ k, (∀ y0 y1 y2, LeO (laws_szPartS.l0 k y0 y1 y2) (laws_szPartS.l0 (k + 1) y0 y1 y2))
 | 0 => fun _ _ _ r h => by simp [laws_szPartS.l0] at h
 | k + 1 => by
  have ih0 := laws_szPartS.mono_l k
  intro y0 y1 y2
  unfold laws_szPartS.l0
  repeat' first | (with_reducible exact ih0 _ _ _) | (with_reducible exact LeO.refl _) | (with_reducible exact LeO.none _) | (with_reducible refine LeO.ite ?_ ?_) | (with_reducible refine LeO.bind ?_ (fun _ => ?_))
theorem laws_szPartS.mono : ∀ a0 a1 k, LeO (laws_szPartS.f k a0 a1) (laws_szPartS.f (k + 1) a0 a1) := by
 intro a0 a1 k
 have ih0 := laws_szPartS.mono_l k
 unfold laws_szPartS.f
 repeat' first | (with_reducible exact ih0 _ _ _) | (with_reducible exact LeO.refl _) | (with_reducible exact LeO.none _) | (with_reducible refine LeO.ite ?_ ?_) | (with_reducible refine LeO.bind ?_ (fun _ => ?_))
set_option maxHeartbeats 8000000 in
set_option maxRecDepth 100000 in
theorem laws_szPartS.calls (k : Nat) (A0 : Option Addr) (c0 : Nat) (l0 : List (S38)) (a1 : Int) (r : Int) (w : World) (hr0 : Kd.C k38 w A0 l0.length l0) (hc0 : l0.length ≤ c0) (h : laws_szPartS.f k l0 a1 = some r) :
  Calls Try.prog 5 #[.slice A0 l0.length c0, .int .i64 a1] w fun e w' => e = .returned (.int .i64 r) ∧ Below w.heap.size w w' := by
 have hu38 := Try.underlying38; have HR0 := Aside0.mk hr0; have HC0 := Aside0.mk hc0; clear hr0 hc0; have HB := Aside0.mk (Below.refl w.heap.size w); have H := h; unfold laws_szPartS.f at H; clear h
 by_cases c3 : (wrap64 (a1 - (l0.length : Int))) < 0
 ·
  rw [if_pos c3] at H
  have c3b0 : decide ((wrap64 (a1 - (l0.length : Int))) < 0) = true := decide_eq_true c3; clear c3; obtain rfl := Option.some.inj H
  go_enter Try.func5, Try.ntmps5
  go_wp2
  go_ret
  exact ⟨y0_1, bI HB.out⟩
 rw [if_neg c3] at H
 have c3b0 : decide ((wrap64 (a1 - (l0.length : Int))) < 0) = false := decide_eq_false c3; clear c3; have H' := Aside0.mk H; clear H
 go_enter Try.func5, Try.ntmps5
 go_wp2
 go_loopg [1, 5] k (fun kq v1 v5 w' => ∃ (x1_1 : Int) (x5_1 : Int), v1 = .int .i64 x1_1 ∧ v5 = .int .i64 x5_1 ∧ Aside0 (laws_szPartS.l0 kq l0 x1_1 x5_1 = some r) ∧ Aside0 (kq ≤ k) ∧ Aside0 (Below w.heap.size w w'))
 case atStart => exact ⟨(wrap64 (a1 - (l0.length : Int))), (0), y0_4, y0_4, H', ⟨Nat.le_refl _⟩, ⟨bI HB.out⟩⟩
 case round =>
  clear H'
  try clear p2
  try clear c3
  try clear c3b0
  obtain ⟨x1_1, x5_1, rfl, rfl, HA, HK1, HB⟩ := hrel; cases gk with
  | zero => exact absurd HA.out (by simp [laws_szPartS.l0])
  | succ k1 =>
   have H := HA.out; clear HA
   simp only [laws_szPartS.l0] at H
   by_cases c4 : x5_1 < (l0.length : Int)
   ·
    rw [if_pos c4] at H
    have c4b0 : decide (x5_1 < (l0.length : Int)) = true := decide_eq_true c4; clear c4
    by_cases c5 : 0 ≤ x5_1
    rotate_left
    ·
     rw [if_neg c5] at H
     exact absurd H (by simp)
    rw [if_pos c5] at H
    have c5b0 : decide (0 ≤ x5_1) = true := decide_eq_true c5; clear c5; obtain ⟨t104, A6, H⟩ := oB H; (try dsimp only at H)
    by_cases c7 : t104 < 0
    ·
     rw [if_pos c7] at H
     have c7b0 : decide (t104 < 0) = true := decide_eq_true c7; clear c7; obtain rfl := Option.some.inj H; have p103 : 0 ≤ (x5_1 : Int) := of_decide_eq_true y0_3; have q103 : x5_1 < (l0.length : Int) := of_decide_eq_true y0_3; obtain ⟨ad103, A103_2, c103_2, e103, hx103_0, hx103_1, hx103_2, hl103_2, hi103_2⟩ := at_T38 HR0.out x5_1 p103 q103; have hr103_2 := hx103_2; cases e103; replace hx103_0 := bx HB hx103_0; replace hx103_1 := bx HB hx103_1; replace hx103_2 := bx HB hx103_2; have HR103_2 := Aside0.mk hi103_2; have HC103_2 := Aside0.mk hl103_2; clear hi103_2 hl103_2; replace p103 := eq_true p103; replace q103 := eq_true q103
     go_wp2_with (first | ((with_reducible refine gate_callee (f := 17) rfl ?_); refine gB (some 23) Try.func17 #[.agg #[.int .i64 ((rd_T38 l0 x5_1).f0), .string ((rd_T38 l0 x5_1).f1), .slice A103_2 ((rd_T38 l0 x5_1).f2).length c103_2], .int .i64 x1_1] ?_; (with_reducible refine (laws_szPart.calls ((rd_T38 l0 x5_1).f0) ((rd_T38 l0 x5_1).f1) _ _ ((rd_T38 l0 x5_1).f2) x1_1 t104 _ ?side1 ?side2 A6.out).mono ?_); (case side1 => exact ch HR103_2 HB); (case side2 => exact HC103_2.out); rintro e w8 ⟨rfl, hb⟩; refine ⟨_, rfl, ?_⟩; replace HB := bs HB hb; (try clear hb); (try clear hb2); (try clear hk); (try clear hi)))
     go_ret
     exact ⟨y0_1, bI HB.out⟩
    rw [if_neg c7] at H
    have c7b0 : decide (t104 < 0) = false := decide_eq_false c7; clear c7; have H' := Aside0.mk H; clear H; have p103 : 0 ≤ (x5_1 : Int) := of_decide_eq_true y0_3; have q103 : x5_1 < (l0.length : Int) := of_decide_eq_true y0_3; obtain ⟨ad103, A103_2, c103_2, e103, hx103_0, hx103_1, hx103_2, hl103_2, hi103_2⟩ := at_T38 HR0.out x5_1 p103 q103; have hr103_2 := hx103_2; cases e103; replace hx103_0 := bx HB hx103_0; replace hx103_1 := bx HB hx103_1; replace hx103_2 := bx HB hx103_2; have HR103_2 := Aside0.mk hi103_2; have HC103_2 := Aside0.mk hl103_2; clear hi103_2 hl103_2; replace p103 := eq_true p103; replace q103 := eq_true q103
    go_wp2_with (first | ((with_reducible refine gate_callee (f := 17) rfl ?_); refine gB (some 23) Try.func17 #[.agg #[.int .i64 ((rd_T38 l0 x5_1).f0), .string ((rd_T38 l0 x5_1).f1), .slice A103_2 ((rd_T38 l0 x5_1).f2).length c103_2], .int .i64 x1_1] ?_; (with_reducible refine (laws_szPart.calls ((rd_T38 l0 x5_1).f0) ((rd_T38 l0 x5_1).f1) _ _ ((rd_T38 l0 x5_1).f2) x1_1 t104 _ ?side1 ?side2 A6.out).mono ?_); (case side1 => exact ch HR103_2 HB); (case side2 => exact HC103_2.out); rintro e w9 ⟨rfl, hb⟩; refine ⟨_, rfl, ?_⟩; replace HB := bs HB hb; (try clear hb); (try clear hb2); (try clear hk); (try clear hi)))
    go_roundg k1
    case measure => have := HK1.out; omega
    case rel => exact ⟨(t104), (wrap64 (x5_1 + 1)), y0_4, y0_4, H', ⟨y0_5⟩, ⟨bI HB.out⟩⟩
   rw [if_neg c4] at H
   have c4b0 : decide (x5_1 < (l0.length : Int)) = false := decide_eq_false c4; clear c4; obtain rfl := Option.some.inj H
   go_wp2
   go_ret
   exact ⟨y0_1, bI HB.out⟩

/-! ### spec_l10Copy: function 18 -/
def spec_l10Copy.f (a0_0 : Int) (a0_1 : ByteArray) (l0_2 : List Int) : Option (Int × ByteArray × List Int) := (some (([] : List Int) : List Int)).bind fun y107 => (if y107.length + l0_2.length < 17592186044416 then (some (a0_0, a0_1, (y107 ++ l0_2))) else (none))
set_option maxHeartbeats 8000000 in
set_option maxRecDepth 100000 in
theorem spec_l10Copy.calls (a0_0 : Int) (a0_1 : ByteArray) (A0_2 : Option Addr) (c0_2 : Nat) (l0_2 : List Int) (r1 : Int) (r2 : ByteArray) (r3 : List Int) (w : World) (hr0_2 : Kd.C (Kd.int .i64) w A0_2 l0_2.length l0_2) (hc0_2 : l0_2.length ≤ c0_2) (h : spec_l10Copy.f a0_0 a0_1 l0_2 = some (r1, r2, r3)) :
  Calls Try.prog 18 #[.agg #[.int .i64 a0_0, .string a0_1, .slice A0_2 l0_2.length c0_2]] w fun e w' => ∃ v2_ : Value, e = .returned (.agg #[.int .i64 r1, .string r2, v2_]) ∧ Kd.R (Kd.int .i64) 3 w' w.heap.size (fun _ => True) v2_ r3 ∧ Below w.heap.size w w' := by
 have hu26 := Try.underlying26; have HR0_2 := Aside0.mk hr0_2; have HC0_2 := Aside0.mk hc0_2; clear hr0_2 hc0_2; have HB := Aside0.mk (Below.refl w.heap.size w)
 have H := h; unfold spec_l10Copy.f at H
 clear h; obtain ⟨y107, hy107⟩ : ∃ y_ : List Int, y_ = (([] : List Int)) := ⟨_, rfl⟩
 replace H : (if y107.length + l0_2.length < 17592186044416 then (some (a0_0, a0_1, (y107 ++ l0_2))) else (none)) = some (r1, r2, r3) := by first | (rw [hy107]; with_reducible exact H) | (have H2_ := (Option.bind_some _ _).symm.trans H; rw [hy107]; with_reducible exact H2_) | (have H2_ := (Option.bind_some _ _).symm.trans H; with_reducible exact H2_) | with_reducible exact H | (rw [hy107]; exact H) | exact H
 have Ny107 := Aside0.mk hy107; clear hy107
 by_cases c2 : y107.length + l0_2.length < 17592186044416
 ·
  rw [if_pos c2] at H
  have LMc2 := Aside0.mk c2; clear c2; obtain ⟨y110, hy110⟩ : ∃ y_ : List Int, y_ = (y107 ++ l0_2) := ⟨_, rfl⟩
  replace H : (some (a0_0, a0_1, y110)) = some (r1, r2, r3) := by first | (rw [hy110]; with_reducible exact H) | (have H2_ := (Option.bind_some _ _).symm.trans H; rw [hy110]; with_reducible exact H2_) | (have H2_ := (Option.bind_some _ _).symm.trans H; with_reducible exact H2_) | with_reducible exact H | (rw [hy110]; exact H) | exact H
  have Ny110 := Aside0.mk hy110; clear hy110
  simp only [Option.some.injEq, Prod.mk.injEq] at H
  obtain ⟨rfl, rfl, rfl⟩ := H
  go_enter Try.func18, Try.ntmps18
  go_wp2_with (first | ((with_reducible refine gd 1 ?_); refine bA 1 #[.int .i64 a0_0, .string a0_1, .slice A0_2 l0_2.length c0_2] 26 ?_; intro gb105 hg w3 hbox hb; have BK105 := Aside0.mk (hbox); have GW105 := bg hg HB; have GJ105 := gi GW105; have GE105 := GW105; replace HB := bs HB hb; clear hb hbox hg) | ((with_reducible refine gd 2 ?_); refine bA 2 #[.int .i64 0, .string (⟨#[]⟩ : ByteArray), .slice none 0 0] 26 ?_; intro gb106 hg w4 hbox hb; have BK106 := Aside0.mk (hbox); have GW106 := bg hg HB; have GJ106 := gi GW106; have GE106 := GW106; replace HB := bs HB hb; have NB105_106 := b1 BK105 hg; have NI105_106 := ni NB105_106; have NB106_105 := b2 BK105 hg; have NI106_105 := ni NB106_105; replace BK105 := bk BK105 hb; clear hb hbox hg) | ((with_reducible refine gate_dst (N := 3) rfl ?_); refine Kd.R_lit (Kd.int .i64) _ 3 ?hg (N := 3) ?hd (xs := ([] : List Int)) (inner := []) (ok := fun _ => True) (okp := fun _ => True) ?hr ?hp (fun _ hk => hk) trivial (Below.refl _ _) (Nat.le_refl _) (by simp) ?_; (case hd => rfl); (case hg => rfl); (case hr => first | (go_simp; done) | (go_simp; rfl)); (case hp => exact (Reps.none _ _)); intro v108 w5 ho6 hb hg_ hnew_; clear hg_ hnew_; (first | rw [← Ny107.out] at ho6 | (simp only [Int.reduceToNat] at ho6; rw [← Ny107.out] at ho6)); have HO109 := Aside0.mk (Kd.R_lower ho6 (below_size (bI HB.out))); replace BK105 := bk BK105 hb; replace BK106 := bk BK106 hb; replace HB := bs HB hb; clear hb ho6; have hnb7 := NB105_106.out; have hnc7 := NB106_105.out; obtain ⟨hcz8_0, hcz8_1, hcz8_2, hfz8_0, hfz8_1, hfz8_2⟩ := cs3 BK105) | ((with_reducible refine gate_builtin (b := .append) (xs := #[.tmp 3, .tmp 5]) rfl ?_); at_builtin; refine Kd.R_append_rows (Kd.int .i64) (w0 := w) w.heap.size rfl (.tmp 3) (.tmp 5) 24 3 (.int .i64 0) 8 rfl Try.underlying24 info3 rfl (by decide) (by omega) v108 y107 l0_2 _ _ _ (fun _ => True) (fun _ => False) rfl rfl ?aO ?aR (fun _ _ h => h) (fun _ h => h.elim) ?aF ?aB ?aS ?aL ?_; (case aR => exact ch HR0_2 HB); (case aB => exact (bI HB.out)); (case aF => exact (fun _ _ => trivial)); (case aO => exact (rI HO109.out)); (case aS => exact (below_size (bI HB.out))); (case aL => have := LMc2.out; omega); intro v111 w9 ho hb hg hat; rw [← Ny110.out] at ho; have n0_ := bn BK105 hg (Kd.R_ne HO109.out BK105.out (by decide)); have n1_ := bn BK106 hg (Kd.R_ne HO109.out BK106.out (by decide)); have n2_ := Aside0.mk (hb); have n3_ := Aside0.mk (ho); clear BK105; clear BK106; clear HB; clear HO109; have BK105 := n0_; have BK106 := n1_; have HB := n2_; have HO112 := n3_; clear n0_ n1_ n2_ n3_; clear ho hb hg hat; obtain ⟨Ao10, co10, eo10⟩ := Kd.R_slice HO112.out; subst eo10; obtain ⟨hcz11_0, hcz11_1, hcz11_2, hfz11_0, hfz11_1, hfz11_2⟩ := cs3 BK105; obtain ⟨hcz12_0, hcz12_1, hcz12_2, hfz12_0, hfz12_1, hfz12_2⟩ := cs3 BK106))
  refine bodyPost_ret (results_cell_row rfl _ _ gb106 26 #[.int .i64 a0_0, .string a0_1, .slice Ao10 y110.length co10] (0, 0) _ rfl (pI BK106) Try.underlying26 rfl (by kernel_rfl)) rfl ?_
  exact ⟨_, y0_1, by (with_reducible repeat (first | apply Kd.R_alloc | apply Kd.R_drewN | apply Kd.R_drew)); exact Kd.R_mono (Kd.R_far (p := ⟨gb106, 2, none⟩) (Kd.R_far (p := ⟨gb106, 1, none⟩) (Kd.R_far (p := ⟨gb106, 0, none⟩) (Kd.R_far (p := ⟨gb105, 2, none⟩) (Kd.R_types (Kd.R_types HO112.out BK105.out (by decide)) BK106.out (by decide)) (fun _ hk => hk.1.2) (.slice Ao10 y110.length co10)) (fun _ hk => hk.2) (.int .i64 a0_0)) (fun _ hk => hk.2) (.string a0_1)) (fun _ hk => hk.2) (.slice Ao10 y110.length co10)) (fun _ hk => trivial), bI HB.out⟩
 rw [if_neg c2] at H
 exact absurd H (by simp)

/-! ### spec_TableGet: function 6 -/
def spec_TableGet.l0 : Nat → List (S26) → Int → ByteArray → Int → Option (Int × ByteArray × List Int)
 | 0, _, _, _, _ => none
 | k + 1, x0, x1, x2, x7 => if x7 < (x0.length : Int) then (if 0 ≤ x7 then (if ((rd_T26 x0 x7).f0) = x1 then (if ((rd_T26 x0 x7).f1).toList = x2.toList then ((spec_l10Copy.f ((rd_T26 x0 x7).f0) ((rd_T26 x0 x7).f1) ((rd_T26 x0 x7).f2)).bind fun bt117 => (some (bt117.1, bt117.2.1, bt117.2.2))) else (spec_TableGet.l0 k x0 x1 x2 (wrap64 (x7 + 1)))) else (spec_TableGet.l0 k x0 x1 x2 (wrap64 (x7 + 1)))) else (none)) else (some (x1, x2, ([] : List Int)))
def spec_TableGet.f (k : Nat) (l0 : List (S26)) (a1 : Int) (a2 : ByteArray) : Option (Int × ByteArray × List Int) := spec_TableGet.l0 k l0 a1 a2 0
theorem spec_TableGet.mono_l : ∀ k, (∀ y0 y1 y2 y3, LeO (spec_TableGet.l0 k y0 y1 y2 y3) (spec_TableGet.l0 (k + 1) y0 y1 y2 y3))
 | 0 => fun _ _ _ _ r h => by simp [spec_TableGet.l0] at h
 | k + 1 => by
  have ih0 := spec_TableGet.mono_l k
  intro y0 y1 y2 y3
  unfold spec_TableGet.l0
  repeat' first | (with_reducible exact ih0 _ _ _ _) | (with_reducible exact LeO.refl _) | (with_reducible exact LeO.none _) | (with_reducible refine LeO.ite ?_ ?_) | (with_reducible refine LeO.bind ?_ (fun _ => ?_))
theorem spec_TableGet.mono : ∀ a0 a1 a2 k, LeO (spec_TableGet.f k a0 a1 a2) (spec_TableGet.f (k + 1) a0 a1 a2) := by
 intro a0 a1 a2 k
 have ih0 := spec_TableGet.mono_l k
 unfold spec_TableGet.f
 repeat' first | (with_reducible exact ih0 _ _ _ _) | (with_reducible exact LeO.refl _) | (with_reducible exact LeO.none _) | (with_reducible refine LeO.ite ?_ ?_) | (with_reducible refine LeO.bind ?_ (fun _ => ?_))
set_option maxHeartbeats 8000000 in
set_option maxRecDepth 100000 in
theorem spec_TableGet.calls (k : Nat) (A0 : Option Addr) (c0 : Nat) (l0 : List (S26)) (a1 : Int) (a2 : ByteArray) (r1 : Int) (r2 : ByteArray) (r3 : List Int) (w : World) (hr0 : Kd.C k26 w A0 l0.length l0) (hc0 : l0.length ≤ c0) (h : spec_TableGet.f k l0 a1 a2 = some (r1, r2, r3)) :
  Calls Try.prog 6 #[.slice A0 l0.length c0, .int .i64 a1, .string a2] w fun e w' => ∃ v2_ : Value, e = .returned (.agg #[.int .i64 r1, .string r2, v2_]) ∧ Kd.R (Kd.int .i64) 3 w' w.heap.size (fun _ => True) v2_ r3 ∧ Below w.heap.size w w' := by
 have hu26 := Try.underlying26; have HR0 := Aside0.mk hr0; have HC0 := Aside0.mk hc0; clear hr0 hc0; have HB := Aside0.mk (Below.refl w.heap.size w); have H := h; unfold spec_TableGet.f at H; clear h; have H' := Aside0.mk H; clear H
 go_enter Try.func6, Try.ntmps6
 go_wp2_with (first | ((with_reducible refine gd 6 ?_); refine bA 6 #[.int .i64 0, .string (⟨#[]⟩ : ByteArray), .slice none 0 0] 26 ?_; intro gb113 hg w4 hbox hb; have BK113 := Aside0.mk (hbox); have GW113 := bg hg HB; have GJ113 := gi GW113; have GE113 := GW113; replace HB := bs HB hb; clear hb hbox hg))
 go_loopg [7] k (fun kq v7 w' => ∃ (x7_1 : Int) (x114000_1 : Int) (x114001_1 : ByteArray), v7 = .int .i64 x7_1 ∧ Aside0 (spec_TableGet.l0 kq l0 a1 a2 x7_1 = some (r1, r2, r3)) ∧ Aside0 (kq ≤ k) ∧ Aside0 (w'.heap[gb113]? = some (.cells #[.int .i64 x114000_1, .string x114001_1, (.slice none 0 0)] 26 (0, 0))) ∧ Aside0 (Below w.heap.size w w'))
 case atStart => exact ⟨(0), (0), ((⟨#[]⟩ : ByteArray)), y0_4, H', ⟨Nat.le_refl _⟩, ⟨gI BK113.out⟩, ⟨bI HB.out⟩⟩
 case round =>
  clear H'
  try clear p2
  obtain ⟨x7_1, x114000_1, x114001_1, rfl, HA, HK1, BK113, HB⟩ := hrel; cases gk with
  | zero => exact absurd HA.out (by simp [spec_TableGet.l0])
  | succ k1 =>
   have H := HA.out; clear HA
   simp only [spec_TableGet.l0] at H
   by_cases c5 : x7_1 < (l0.length : Int)
   ·
    rw [if_pos c5] at H
    have c5b0 : decide (x7_1 < (l0.length : Int)) = true := decide_eq_true c5; clear c5
    by_cases c6 : 0 ≤ x7_1
    rotate_left
    ·
     rw [if_neg c6] at H
     exact absurd H (by simp)
    rw [if_pos c6] at H
    have c6b0 : decide (0 ≤ x7_1) = true := decide_eq_true c6; clear c6
    by_cases c7 : ((rd_T26 l0 x7_1).f0) = a1
    ·
     rw [if_pos c7] at H
     have c7b0 : (((rd_T26 l0 x7_1).f0) == a1) = true := beq_iff_eq.mpr c7; have c7b1 : (((rd_T26 l0 x7_1).f0) != a1) = false := bne_eq_false_iff_eq.mpr c7; clear c7
     by_cases c8 : ((rd_T26 l0 x7_1).f1).toList = a2.toList
     ·
      rw [if_pos c8] at H
      have c8b0 : (((rd_T26 l0 x7_1).f1).toList == a2.toList) = true := beq_iff_eq.mpr c8; have c8b1 : (((rd_T26 l0 x7_1).f1).toList != a2.toList) = false := bne_eq_false_iff_eq.mpr c8; clear c8; obtain ⟨⟨t117, t118, t119⟩, A9, H⟩ := oB H; (try dsimp only at H)
      simp only [Option.some.injEq, Prod.mk.injEq] at H
      obtain ⟨rfl, rfl, rfl⟩ := H; have p114 : 0 ≤ (x7_1 : Int) := of_decide_eq_true y0_3; have q114 : x7_1 < (l0.length : Int) := of_decide_eq_true y0_3; obtain ⟨ad114, A114_2, c114_2, e114, hx114_0, hx114_1, hx114_2, hl114_2, hi114_2⟩ := at_T26 HR0.out x7_1 p114 q114; have hr114_2 := hx114_2; cases e114; replace hx114_0 := bx HB hx114_0; replace hx114_1 := bx HB hx114_1; replace hx114_2 := bx HB hx114_2; have HR114_2 := Aside0.mk hi114_2; have HC114_2 := Aside0.mk hl114_2; clear hi114_2 hl114_2; replace p114 := eq_true p114; replace q114 := eq_true q114; have p115 : 0 ≤ (x7_1 : Int) := of_decide_eq_true y0_3; have q115 : x7_1 < (l0.length : Int) := of_decide_eq_true y0_3; obtain ⟨ad115, A115_2, c115_2, e115, hx115_0, hx115_1, hx115_2, hl115_2, hi115_2⟩ := at_T26 HR0.out x7_1 p115 q115
      obtain rfl : ad114 = ad115 := (by injection e115)
      replace hx115_0 := bx HB hx115_0; replace hx115_1 := bx HB hx115_1; replace hx115_2 := bx HB hx115_2; have HR115_2 := Aside0.mk hi115_2; have HC115_2 := Aside0.mk hl115_2; clear hi115_2 hl115_2; replace p115 := eq_true p115; replace q115 := eq_true q115; have ea_ := Option.some.inj (hx114_2.symm.trans hx115_2)
      injection ea_ with ea_ en_ ec_
      subst ea_; subst ec_; clear en_; have p116 : 0 ≤ (x7_1 : Int) := of_decide_eq_true y0_3; have q116 : x7_1 < (l0.length : Int) := of_decide_eq_true y0_3; obtain ⟨ad116, A116_2, c116_2, e116, hx116_0, hx116_1, hx116_2, hl116_2, hi116_2⟩ := at_T26 HR0.out x7_1 p116 q116
      obtain rfl : ad114 = ad116 := (by injection e116)
      replace hx116_0 := bx HB hx116_0; replace hx116_1 := bx HB hx116_1; replace hx116_2 := bx HB hx116_2; have HR116_2 := Aside0.mk hi116_2; have HC116_2 := Aside0.mk hl116_2; clear hi116_2 hl116_2; replace p116 := eq_true p116; replace q116 := eq_true q116; have ea_ := Option.some.inj (hx114_2.symm.trans hx116_2)
      injection ea_ with ea_ en_ ec_
      subst ea_; subst ec_; clear en_
      go_wp2_with (first | ((with_reducible refine gate_callee (f := 18) rfl ?_); refine gB (some 34) Try.func18 #[.agg #[.int .i64 ((rd_T26 l0 x7_1).f0), .string ((rd_T26 l0 x7_1).f1), .slice A114_2 ((rd_T26 l0 x7_1).f2).length c114_2]] ?_; (with_reducible refine (spec_l10Copy.calls ((rd_T26 l0 x7_1).f0) ((rd_T26 l0 x7_1).f1) _ _ ((rd_T26 l0 x7_1).f2) t117 t118 t119 _ ?side1 ?side2 A9.out).mono ?_); (case side1 => exact ch HR116_2 HB); (case side2 => exact HC116_2.out); rintro e w10 ⟨v120, rfl, ho0, hb⟩; refine ⟨_, rfl, ?_⟩; have HO121 := Aside0.mk (Kd.R_lower ho0 (below_size (bI HB.out))); replace BK113 := bk BK113 hb; replace HB := bs HB hb; (try clear hb); (try clear ho0); obtain ⟨hcz11_0, hcz11_1, hcz11_2, hfz11_0, hfz11_1, hfz11_2⟩ := cs3 BK113; obtain ⟨Ao12, co12, eo12⟩ := Kd.R_slice HO121.out; subst eo12))
      refine bodyPost_ret (results_cell_row rfl _ _ gb113 26 #[.int .i64 t117, .string t118, .slice Ao12 t119.length co12] (0, 0) _ rfl (pI BK113) Try.underlying26 rfl (by kernel_rfl)) rfl ?_
      exact ⟨_, y0_1, by (with_reducible repeat (first | apply Kd.R_alloc | apply Kd.R_drewN | apply Kd.R_drew)); exact Kd.R_mono (Kd.R_far (p := ⟨gb113, 2, none⟩) (Kd.R_far (p := ⟨gb113, 1, none⟩) (Kd.R_far (p := ⟨gb113, 0, none⟩) (Kd.R_types HO121.out BK113.out (by decide)) (fun _ hk => hk.2) (.int .i64 t117)) (fun _ hk => hk.2) (.string t118)) (fun _ hk => hk.2) (.slice Ao12 t119.length co12)) (fun _ hk => trivial), bI HB.out⟩
     rw [if_neg c8] at H
     have c8b0 : (((rd_T26 l0 x7_1).f1).toList == a2.toList) = false := beq_eq_false_iff_ne.mpr c8; have c8b1 : (((rd_T26 l0 x7_1).f1).toList != a2.toList) = true := bne_iff_ne.mpr c8; have H' := Aside0.mk H; clear H; have p114 : 0 ≤ (x7_1 : Int) := of_decide_eq_true y0_3; have q114 : x7_1 < (l0.length : Int) := of_decide_eq_true y0_3; obtain ⟨ad114, A114_2, c114_2, e114, hx114_0, hx114_1, hx114_2, hl114_2, hi114_2⟩ := at_T26 HR0.out x7_1 p114 q114; have hr114_2 := hx114_2; cases e114; replace hx114_0 := bx HB hx114_0; replace hx114_1 := bx HB hx114_1; replace hx114_2 := bx HB hx114_2; have HR114_2 := Aside0.mk hi114_2; have HC114_2 := Aside0.mk hl114_2; clear hi114_2 hl114_2; replace p114 := eq_true p114; replace q114 := eq_true q114; have p115 : 0 ≤ (x7_1 : Int) := of_decide_eq_true y0_3; have q115 : x7_1 < (l0.length : Int) := of_decide_eq_true y0_3; obtain ⟨ad115, A115_2, c115_2, e115, hx115_0, hx115_1, hx115_2, hl115_2, hi115_2⟩ := at_T26 HR0.out x7_1 p115 q115
     obtain rfl : ad114 = ad115 := (by injection e115)
     replace hx115_0 := bx HB hx115_0; replace hx115_1 := bx HB hx115_1; replace hx115_2 := bx HB hx115_2; have HR115_2 := Aside0.mk hi115_2; have HC115_2 := Aside0.mk hl115_2; clear hi115_2 hl115_2; replace p115 := eq_true p115; replace q115 := eq_true q115; have ea_ := Option.some.inj (hx114_2.symm.trans hx115_2)
     injection ea_ with ea_ en_ ec_
     subst ea_; subst ec_; clear en_
     go_wp2
     go_roundg k1
     case measure => have := HK1.out; omega
     case rel => exact ⟨(wrap64 (x7_1 + 1)), (x114000_1), (x114001_1), y0_4, H', ⟨y0_5⟩, ⟨gI BK113.out⟩, ⟨bI HB.out⟩⟩
    rw [if_neg c7] at H
    have c7b0 : (((rd_T26 l0 x7_1).f0) == a1) = false := beq_eq_false_iff_ne.mpr c7; have c7b1 : (((rd_T26 l0 x7_1).f0) != a1) = true := bne_iff_ne.mpr c7; have H' := Aside0.mk H; clear H; have p114 : 0 ≤ (x7_1 : Int) := of_decide_eq_true y0_3; have q114 : x7_1 < (l0.length : Int) := of_decide_eq_true y0_3; obtain ⟨ad114, A114_2, c114_2, e114, hx114_0, hx114_1, hx114_2, hl114_2, hi114_2⟩ := at_T26 HR0.out x7_1 p114 q114; have hr114_2 := hx114_2; cases e114; replace hx114_0 := bx HB hx114_0; replace hx114_1 := bx HB hx114_1; replace hx114_2 := bx HB hx114_2; have HR114_2 := Aside0.mk hi114_2; have HC114_2 := Aside0.mk hl114_2; clear hi114_2 hl114_2; replace p114 := eq_true p114; replace q114 := eq_true q114
    go_wp2
    go_roundg k1
    case measure => have := HK1.out; omega
    case rel => exact ⟨(wrap64 (x7_1 + 1)), (x114000_1), (x114001_1), y0_4, H', ⟨y0_5⟩, ⟨gI BK113.out⟩, ⟨bI HB.out⟩⟩
   rw [if_neg c5] at H
   have c5b0 : decide (x7_1 < (l0.length : Int)) = false := decide_eq_false c5; clear c5
   simp only [Option.some.injEq, Prod.mk.injEq] at H
   obtain ⟨rfl, rfl, rfl⟩ := H; have hcz13_0 := bc0 BK113.out; have hcz13_1 := bc1 BK113.out; have hcz13_2 := bc2 BK113.out; have hfz13_0 := blk_frozen BK113.out 0; have hfz13_1 := blk_frozen BK113.out 1; have hfz13_2 := blk_frozen BK113.out 2
   go_wp2
   refine bodyPost_ret (results_cell_row rfl _ _ gb113 26 #[.int .i64 a1, .string a2, .slice none 0 0] (0, 0) _ rfl (pI BK113) Try.underlying26 rfl (by kernel_rfl)) rfl ?_
   exact ⟨_, y0_1, by first | exact Kd.R_nil _ _ _ _ _ | exact Kd.N_nil _ _ _ _ _ | exact Kd.V_nil _ _ _ _ _ | exact Kd.Q_nil _ _ _ _ _ | exact Kd.S_nil _ _ _ _ _, bI HB.out⟩

/-! ### laws_toIntS: function 26 -/
def laws_toIntS.l0 : Nat → List Int → List Int → Int → Option (List Int)
 | 0, _, _, _ => none
 | k + 1, x0, x3, x4 => if x4 < (x0.length : Int) then (if 0 ≤ x4 then (if x4 < (x3.length : Int) then (laws_toIntS.l0 k x0 (x3.set (x4 : Int).toNat (rd x0 x4)) (wrap64 (x4 + 1))) else (none)) else (none)) else (some x3)
def laws_toIntS.f (k : Nat) (l0 : List Int) : Option (List Int) := if 0 ≤ (l0.length : Int) then (if ((l0.length : Int) : Int).toNat ≤ 35184372088832 then (laws_toIntS.l0 k l0 (List.replicate ((l0.length : Int) : Int).toNat 0) 0) else (none)) else (none)
theorem laws_toIntS.mono_l : ∀ k, (∀ y0 y1 y2, LeO (laws_toIntS.l0 k y0 y1 y2) (laws_toIntS.l0 (k + 1) y0 y1 y2))
 | 0 => fun _ _ _ r h => by simp [laws_toIntS.l0] at h
 | k + 1 => by
  have ih0 := laws_toIntS.mono_l k
  intro y0 y1 y2
  unfold laws_toIntS.l0
  repeat' first | (with_reducible exact ih0 _ _ _) | (with_reducible exact LeO.refl _) | (with_reducible exact LeO.none _) | (with_reducible refine LeO.ite ?_ ?_) | (with_reducible refine LeO.bind ?_ (fun _ => ?_))
theorem laws_toIntS.mono : ∀ a0 k, LeO (laws_toIntS.f k a0) (laws_toIntS.f (k + 1) a0) := by
 intro a0 k
 have ih0 := laws_toIntS.mono_l k
 unfold laws_toIntS.f
 repeat' first | (with_reducible exact ih0 _ _ _) | (with_reducible exact LeO.refl _) | (with_reducible exact LeO.none _) | (with_reducible refine LeO.ite ?_ ?_) | (with_reducible refine LeO.bind ?_ (fun _ => ?_))
set_option maxHeartbeats 8000000 in
set_option maxRecDepth 100000 in
theorem laws_toIntS.calls (k : Nat) (A0 : Option Addr) (c0 : Nat) (l0 : List Int) (r : List Int) (w : World) (hr0 : Kd.C (Kd.int .i64) w A0 l0.length l0) (hc0 : l0.length ≤ c0) (h : laws_toIntS.f k l0 = some r) :
  Calls Try.prog 26 #[.slice A0 l0.length c0] w fun e w' => ∃ v0_ : Value, e = .returned (v0_) ∧ Kd.R (Kd.int .i64) 3 w' w.heap.size (fun _ => True) v0_ r ∧ Below w.heap.size w w' := by
 have HR0 := Aside0.mk hr0; have HC0 := Aside0.mk hc0; clear hr0 hc0; have HB := Aside0.mk (Below.refl w.heap.size w); have H := h; unfold laws_toIntS.f at H; clear h
 by_cases c2 : 0 ≤ (l0.length : Int)
 ·
  rw [if_pos c2] at H
  have c2b0 := eq_true c2; have c2b1 : decide (0 ≤ (l0.length : Int)) = true := decide_eq_true c2; clear c2
  by_cases c3 : ((l0.length : Int) : Int).toNat ≤ 35184372088832
  rotate_left
  ·
   rw [if_neg c3] at H
   exact absurd H (by simp)
  rw [if_pos c3] at H
  have c3b0 := eq_true c3; have c3b1 : decide (((l0.length : Int) : Int).toNat ≤ 35184372088832) = true := decide_eq_true c3; clear c3; obtain ⟨y122, hy122⟩ : ∃ y_ : List Int, y_ = (List.replicate ((l0.length : Int) : Int).toNat 0) := ⟨_, rfl⟩
  replace H : (laws_toIntS.l0 k l0 y122 0) = some r := by first | (rw [hy122]; with_reducible exact H) | (have H2_ := (Option.bind_some _ _).symm.trans H; rw [hy122]; with_reducible exact H2_) | (have H2_ := (Option.bind_some _ _).symm.trans H; with_reducible exact H2_) | with_reducible exact H | (rw [hy122]; exact H) | exact H
  have Ny122 := Aside0.mk hy122; clear hy122; have H' := Aside0.mk H; clear H
  go_enter Try.func26, Try.ntmps26
  go_wp2_with (first | ((with_reducible refine gate_dst (N := 7) rfl ?_); refine Kd.R_make (Kd.int .i64) _ 3 rfl (N := 7) rfl 24 _ _ rfl (l0.length : Int) rfl rfl Try.underlying24 (.int .i64 0) 8 info3 rfl (by decide) (by omega) 0 (ok := fun _ => True) (okp := fun _ => True) rfl (fun _ hk => hk) trivial (of_decide_eq_true y0_3) (Nat.le_trans (Nat.mul_le_mul_right _ (of_decide_eq_true y0_3 : (l0.length : Int).toNat ≤ 35184372088832)) (by omega)) (Below.refl _ _) (Nat.le_refl _) ?_; intro v123 w4 ho5 hb hg_ hnew_; clear hg_ hnew_; (first | rw [← Ny122.out] at ho5 | (simp only [Int.reduceToNat] at ho5; rw [← Ny122.out] at ho5)); have HO124 := Aside0.mk (Kd.R_lower ho5 (below_size (bI HB.out))); replace HB := bs HB hb; clear hb ho5))
  go_loopg [4] k (fun kq v4 w' => ∃ (x3_1 : List Int) (x4_1 : Int), v4 = .int .i64 x4_1 ∧ Aside0 (laws_toIntS.l0 kq l0 x3_1 x4_1 = some r) ∧ Aside0 (kq ≤ k) ∧ Aside0 (Kd.R (Kd.int .i64) 3 w' w.heap.size (fun _ => True) v123 x3_1) ∧ Aside0 (Below w.heap.size w w'))
  case atStart => exact ⟨(y122), (0), y0_4, H', ⟨Nat.le_refl _⟩, ⟨by (with_reducible repeat (first | apply Kd.R_alloc | apply Kd.R_drewN | apply Kd.R_drew)); exact HO124.out⟩, ⟨bI HB.out⟩⟩
  case round =>
   clear H'
   try clear c2
   try clear c2b0
   try clear c2b1
   try clear p2
   try clear c3
   try clear c3b0
   try clear c3b1
   obtain ⟨x3_1, x4_1, rfl, HA, HK1, HO_3, HB⟩ := hrel; cases gk with
   | zero => exact absurd HA.out (by simp [laws_toIntS.l0])
   | succ k1 =>
    have H := HA.out; clear HA
    simp only [laws_toIntS.l0] at H
    by_cases c6 : x4_1 < (l0.length : Int)
    ·
     rw [if_pos c6] at H
     have c6b0 : decide (x4_1 < (l0.length : Int)) = true := decide_eq_true c6; clear c6
     by_cases c7 : 0 ≤ x4_1
     rotate_left
     ·
      rw [if_neg c7] at H
      exact absurd H (by simp)
     rw [if_pos c7] at H
     have c7b0 : decide (0 ≤ x4_1) = true := decide_eq_true c7; clear c7
     by_cases c8 : x4_1 < (x3_1.length : Int)
     rotate_left
     ·
      rw [if_neg c8] at H
      exact absurd H (by simp)
     rw [if_pos c8] at H
     have c8b0 : decide (x4_1 < (x3_1.length : Int)) = true := decide_eq_true c8; clear c8; obtain ⟨y126, hy126⟩ : ∃ y_ : List Int, y_ = (x3_1.set (x4_1 : Int).toNat (rd l0 x4_1)) := ⟨_, rfl⟩
     replace H : (laws_toIntS.l0 k1 l0 y126 (wrap64 (x4_1 + 1))) = some r := by first | (rw [hy126]; with_reducible exact H) | (have H2_ := (Option.bind_some _ _).symm.trans H; rw [hy126]; with_reducible exact H2_) | (have H2_ := (Option.bind_some _ _).symm.trans H; with_reducible exact H2_) | with_reducible exact H | (rw [hy126]; exact H) | exact H
     have Ny126 := Aside0.mk hy126; clear hy126; have H' := Aside0.mk H; clear H; have p125 : 0 ≤ (x4_1 : Int) := of_decide_eq_true y0_3; have q125 : x4_1 < (l0.length : Int) := of_decide_eq_true y0_3; obtain ⟨ad125, e125, hx125_0⟩ := Kd.at_int HR0.out x4_1 p125 q125; cases e125; replace hx125_0 := bx HB hx125_0; replace p125 := eq_true p125; replace q125 := eq_true q125; have p9 : 0 ≤ (x4_1 : Int) := of_decide_eq_true y0_3; have q9 : (x4_1 : Int) < ((x3_1.length : Int) : Int) := of_decide_eq_true y0_3
     obtain ⟨go9, co9, eo9, gb9, gl9, cl9, HG9⟩ := Kd.R_form HO_3.out (by omega)
     (first | cases eo9 | (injection eo9 with ea_ en_ ec_; (first | subst ea_ | (injection ea_ with ea_; subst ea_)); subst ec_; clear en_))
     have GB9 := Aside0.mk gb9; have GG9 := Aside0.mk HG9; clear gb9 gl9 HG9; obtain ⟨hx9_0, hf9_0⟩ := Kd.R_celln 0 HO_3.out (x4_1 : Int) p9 q9; replace p9 := eq_true p9; replace q9 := eq_true q9; have HP10 := Kd.R_putg HO_3.out (x4_1 : Int) (rd l0 x4_1)
     go_wp2_with (first | ((with_reducible refine gate_store (t := 3) (p := 20) rfl ?_); refine store_event (t := 3) (p := 20) (v := ?vo_w11) (w1 := (wr.setCell ⟨go9, (x4_1 : Int).toNat, none⟩ (.int .i64 (rd l0 x4_1)))) ?hg ?ho ?hn ?hr ?_; (case ho => rfl); (case hg => rfl); (case hn => rfl); (case hr => first | (go_simp; done) | (go_simp; rfl)); intro w11 hw; have hg : wr.grownBy w11 (some go9) := (by rw [hw]; exact HP10.2); have hp_ : Kd.R (Kd.int .i64) 3 w11 w.heap.size (fun _ => True) (.slice (some ⟨go9, 0, none⟩) x3_1.length co9) y126 := (by rw [hw, Ny126.out]; exact HP10.1); clear HP10; replace HO_3 := Aside0.mk (hp_); replace HB := Aside0.mk ((by rw [hw]; exact below_set (HB.out) GB9.out : Below w.heap.size w w11)); clear hg hw hp_))
     go_roundg k1
     case measure => have := HK1.out; omega
     case rel => exact ⟨(y126), (wrap64 (x4_1 + 1)), y0_4, H', ⟨y0_5⟩, ⟨by (with_reducible repeat (first | apply Kd.R_alloc | apply Kd.R_drewN | apply Kd.R_drew)); exact HO_3.out⟩, ⟨bI HB.out⟩⟩
    rw [if_neg c6] at H
    have c6b0 : decide (x4_1 < (l0.length : Int)) = false := decide_eq_false c6; clear c6; obtain rfl := Option.some.inj H
    go_wp2
    go_ret
    exact ⟨_, y0_1, by (with_reducible repeat (first | apply Kd.R_alloc | apply Kd.R_drewN | apply Kd.R_drew)); exact HO_3.out, bI HB.out⟩
 rw [if_neg c2] at H
 exact absurd H (by simp)

/-! ### laws_toPart: function 19 -/
def laws_toPart.f (k : Nat) (a0_0 : Int) (a0_1 : ByteArray) (l0_2 : List Int) : Option (Int × ByteArray × List Int) := (laws_toIntS.f k l0_2).bind fun t130 => (some (a0_0, a0_1, t130))
theorem laws_toPart.mono : ∀ a0 a1 a2 k, LeO (laws_toPart.f k a0 a1 a2) (laws_toPart.f (k + 1) a0 a1 a2) := by
 intro a0 a1 a2 k
 unfold laws_toPart.f
 repeat' first | (with_reducible exact laws_toIntS.mono _ _) | (with_reducible exact LeO.refl _) | (with_reducible exact LeO.none _) | (with_reducible refine LeO.ite ?_ ?_) | (with_reducible refine LeO.bind ?_ (fun _ => ?_))
set_option maxHeartbeats 8000000 in
set_option maxRecDepth 100000 in
theorem laws_toPart.calls (k : Nat) (a0_0 : Int) (a0_1 : ByteArray) (A0_2 : Option Addr) (c0_2 : Nat) (l0_2 : List Int) (r1 : Int) (r2 : ByteArray) (r3 : List Int) (w : World) (hr0_2 : Kd.C (Kd.int .i64) w A0_2 l0_2.length l0_2) (hc0_2 : l0_2.length ≤ c0_2) (h : laws_toPart.f k a0_0 a0_1 l0_2 = some (r1, r2, r3)) :
  Calls Try.prog 19 #[.agg #[.int .i64 a0_0, .string a0_1, .slice A0_2 l0_2.length c0_2]] w fun e w' => ∃ v2_ : Value, e = .returned (.agg #[.int .i64 r1, .string r2, v2_]) ∧ Kd.R (Kd.int .i64) 3 w' w.heap.size (fun _ => True) v2_ r3 ∧ Below w.heap.size w w' := by
 have hu38 := Try.underlying38; have hu26 := Try.underlying26; have HR0_2 := Aside0.mk hr0_2; have HC0_2 := Aside0.mk hc0_2; clear hr0_2 hc0_2; have HB := Aside0.mk (Below.refl w.heap.size w)
 have H := h; unfold laws_toPart.f at H
 clear h; obtain ⟨t130, A2, H⟩ := oB H; (try dsimp only at H)
 simp only [Option.some.injEq, Prod.mk.injEq] at H
 obtain ⟨rfl, rfl, rfl⟩ := H
 go_enter Try.func19, Try.ntmps19
 go_wp2_with (first | ((with_reducible refine gd 1 ?_); refine bL 1 #[.int .i64 a0_0, .string a0_1, .slice A0_2 l0_2.length c0_2] 38 ?_; intro gb127 w3 _ _ _) | ((with_reducible refine gd 2 ?_); refine bL 2 #[.int .i64 0, .string (⟨#[]⟩ : ByteArray), .slice none 0 0] 26 ?_; intro gb128 w4 _ _ _) | ((with_reducible refine gd 3 ?_); refine bL 3 #[.int .i64 0, .string (⟨#[]⟩ : ByteArray), .slice none 0 0] 26 ?_; intro gb129 w5 _ _ _) | ((with_reducible refine gate_callee (f := 26) rfl ?_); refine gC1 (some 12) Try.func26 (laws_toIntS.calls (hr0 := pC HR0_2) (hc0 := HC0_2.out) (w := _) (h := A2.out)) ?_; intro Ao131 co131 w6 _ HO132))
 refine bodyPost_ret (results_cell_row rfl _ _ gb128 26 #[.int .i64 a0_0, .string a0_1, .slice Ao131 t130.length co131] (0, 0) _ rfl xB Try.underlying26 rfl (by kernel_rfl)) rfl ?_
 exact ⟨_, y0_4, rR HO132, UpW.out⟩

/-! ### laws_toPartS: function 7 -/
def laws_toPartS.l0 : Nat → List (S38) → List (S26) → Int → Option ((List (S26)))
 | 0, _, _, _ => none
 | k + 1, x0, x3, x4 => if x4 < (x0.length : Int) then (if 0 ≤ x4 then ((laws_toPart.f k ((rd_T38 x0 x4).f0) ((rd_T38 x0 x4).f1) ((rd_T38 x0 x4).f2)).bind fun bt137 => (if x4 < (x3.length : Int) then (laws_toPartS.l0 k x0 (x3.set (x4 : Int).toNat (⟨bt137.1, bt137.2.1, bt137.2.2⟩ : S26)) (wrap64 (x4 + 1))) else (none))) else (none)) else (some x3)
def laws_toPartS.f (k : Nat) (l0 : List (S38)) : Option ((List (S26))) := if 0 ≤ (l0.length : Int) then (if ((l0.length : Int) : Int).toNat ≤ 5864062014805 then (laws_toPartS.l0 k l0 (List.replicate ((l0.length : Int) : Int).toNat z26) 0) else (none)) else (none)
theorem laws_toPartS.mono_l : ∀ k, (∀ y0 y1 y2, LeO (laws_toPartS.l0 k y0 y1 y2) (laws_toPartS.l0 (k + 1) y0 y1 y2))
 | 0 => fun _ _ _ r h => by simp [laws_toPartS.l0] at h
 | k + 1 => by
  have ih0 := laws_toPartS.mono_l k
  intro y0 y1 y2
  unfold laws_toPartS.l0
  repeat' first | (with_reducible exact ih0 _ _ _) | (with_reducible exact laws_toPart.mono _ _ _ _) | (with_reducible exact LeO.refl _) | (with_reducible exact LeO.none _) | (with_reducible refine LeO.ite ?_ ?_) | (with_reducible refine LeO.bind ?_ (fun _ => ?_))
theorem laws_toPartS.mono : ∀ a0 k, LeO (laws_toPartS.f k a0) (laws_toPartS.f (k + 1) a0) := by
 intro a0 k
 have ih0 := laws_toPartS.mono_l k
 unfold laws_toPartS.f
 repeat' first | (with_reducible exact ih0 _ _ _) | (with_reducible exact laws_toPart.mono _ _ _ _) | (with_reducible exact LeO.refl _) | (with_reducible exact LeO.none _) | (with_reducible refine LeO.ite ?_ ?_) | (with_reducible refine LeO.bind ?_ (fun _ => ?_))
set_option maxHeartbeats 8000000 in
set_option maxRecDepth 100000 in
theorem laws_toPartS.calls (k : Nat) (A0 : Option Addr) (c0 : Nat) (l0 : List (S38)) (r : List (S26)) (w : World) (hr0 : Kd.C k38 w A0 l0.length l0) (hc0 : l0.length ≤ c0) (h : laws_toPartS.f k l0 = some r) :
  Calls Try.prog 7 #[.slice A0 l0.length c0] w fun e w' => ∃ v0_ : Value, e = .returned (v0_) ∧ Kd.S k26 26 w' w.heap.size (fun _ => True) v0_ r ∧ Below w.heap.size w w' := by
 have hu38 := Try.underlying38; have hu26 := Try.underlying26; have HR0 := Aside0.mk hr0; have HC0 := Aside0.mk hc0; clear hr0 hc0; have HB := Aside0.mk (Below.refl w.heap.size w); have H := h; unfold laws_toPartS.f at H; clear h
 by_cases c2 : 0 ≤ (l0.length : Int)
 ·
  rw [if_pos c2] at H
  have c2b0 := eq_true c2; have c2b1 : decide (0 ≤ (l0.length : Int)) = true := decide_eq_true c2; clear c2
  by_cases c3 : ((l0.length : Int) : Int).toNat ≤ 5864062014805
  rotate_left
  ·
   rw [if_neg c3] at H
   exact absurd H (by simp)
  rw [if_pos c3] at H
  have c3b0 := eq_true c3; have c3b1 : decide (((l0.length : Int) : Int).toNat ≤ 5864062014805) = true := decide_eq_true c3; clear c3; obtain ⟨y133, hy133⟩ : ∃ y_ : List (S26), y_ = (List.replicate ((l0.length : Int) : Int).toNat z26) := ⟨_, rfl⟩
  replace H : (laws_toPartS.l0 k l0 y133 0) = some r := by first | (rw [hy133]; with_reducible exact H) | (have H2_ := (Option.bind_some _ _).symm.trans H; rw [hy133]; with_reducible exact H2_) | (have H2_ := (Option.bind_some _ _).symm.trans H; with_reducible exact H2_) | with_reducible exact H | (rw [hy133]; exact H) | exact H
  have Ny133 := Aside0.mk hy133; clear hy133; have H' := Aside0.mk H; clear H
  go_enter Try.func7, Try.ntmps7
  go_wp2_with (first | ((with_reducible refine gate_dst (N := 7) rfl ?_); refine Kd.S_make k26 _ 26 rfl (N := 7) rfl 28 _ _ rfl (l0.length : Int) rfl rfl Try.underlying28 (.agg #[(.int .i64 0), (.string ⟨#[]⟩), (.slice none 0 0)]) 48 info26 rfl (by decide) (by omega) z26 (ok := fun _ => True) (okp := fun _ => True) (k26_mkM _ _ _ z26 (Kd.R_nil _ _ _ _ _)) (fun _ hk => hk) trivial (of_decide_eq_true y0_3) (Nat.le_trans (Nat.mul_le_mul_right _ (of_decide_eq_true y0_3 : (l0.length : Int).toNat ≤ 5864062014805)) (by omega)) (Below.refl _ _) (Nat.le_refl _) ?_; intro v134 w4 ho5 hb hg_ hnew_; clear hg_ hnew_; (first | rw [← Ny133.out] at ho5 | (simp only [Int.reduceToNat] at ho5; rw [← Ny133.out] at ho5)); have HO135 := Aside0.mk (Kd.S_lower ho5 (below_size (bI HB.out))); replace HB := bs HB hb; clear hb ho5))
  go_loopg [4] k (fun kq v4 w' => ∃ (x3_1 : List (S26)) (x4_1 : Int), v4 = .int .i64 x4_1 ∧ Aside0 (laws_toPartS.l0 kq l0 x3_1 x4_1 = some r) ∧ Aside0 (kq ≤ k) ∧ Aside0 (Kd.S k26 26 w' w.heap.size (fun _ => True) v134 x3_1) ∧ Aside0 (Below w.heap.size w w'))
  case atStart => exact ⟨(y133), (0), y0_4, H', ⟨Nat.le_refl _⟩, ⟨by (with_reducible repeat (first | apply Kd.S_alloc | apply Kd.S_drewN | apply Kd.S_drew)); exact HO135.out⟩, ⟨bI HB.out⟩⟩
  case round =>
   clear H'
   try clear c2
   try clear c2b0
   try clear c2b1
   try clear p2
   try clear c3
   try clear c3b0
   try clear c3b1
   obtain ⟨x3_1, x4_1, rfl, HA, HK1, HO_3, HB⟩ := hrel; cases gk with
   | zero => exact absurd HA.out (by simp [laws_toPartS.l0])
   | succ k1 =>
    have H := HA.out; clear HA
    simp only [laws_toPartS.l0] at H
    by_cases c6 : x4_1 < (l0.length : Int)
    ·
     rw [if_pos c6] at H
     have c6b0 : decide (x4_1 < (l0.length : Int)) = true := decide_eq_true c6; clear c6
     by_cases c7 : 0 ≤ x4_1
     rotate_left
     ·
      rw [if_neg c7] at H
      exact absurd H (by simp)
     rw [if_pos c7] at H
     have c7b0 : decide (0 ≤ x4_1) = true := decide_eq_true c7; clear c7; obtain ⟨⟨t137, t138, t139⟩, A8, H⟩ := oB H; (try dsimp only at H)
     by_cases c9 : x4_1 < (x3_1.length : Int)
     rotate_left
     ·
      rw [if_neg c9] at H
      exact absurd H (by simp)
     rw [if_pos c9] at H
     have c9b0 : decide (x4_1 < (x3_1.length : Int)) = true := decide_eq_true c9; clear c9; obtain ⟨y142, hy142⟩ : ∃ y_ : List (S26), y_ = (x3_1.set (x4_1 : Int).toNat (⟨t137, t138, t139⟩ : S26)) := ⟨_, rfl⟩
     replace H : (laws_toPartS.l0 k1 l0 y142 (wrap64 (x4_1 + 1))) = some r := by first | (rw [hy142]; with_reducible exact H) | (have H2_ := (Option.bind_some _ _).symm.trans H; rw [hy142]; with_reducible exact H2_) | (have H2_ := (Option.bind_some _ _).symm.trans H; with_reducible exact H2_) | with_reducible exact H | (rw [hy142]; exact H) | exact H
     have Ny142 := Aside0.mk hy142; clear hy142; have H' := Aside0.mk H; clear H; have p136 : 0 ≤ (x4_1 : Int) := of_decide_eq_true y0_3; have q136 : x4_1 < (l0.length : Int) := of_decide_eq_true y0_3; obtain ⟨ad136, A136_2, c136_2, e136, hx136_0, hx136_1, hx136_2, hl136_2, hi136_2⟩ := at_T38 HR0.out x4_1 p136 q136; cases e136; replace hx136_0 := bx HB hx136_0; replace hx136_1 := bx HB hx136_1; replace hx136_2 := bx HB hx136_2; have HR136_2 := Aside0.mk hi136_2; have HC136_2 := Aside0.mk hl136_2; clear hi136_2 hl136_2; replace p136 := eq_true p136; replace q136 := eq_true q136
     go_wp2_with (first | ((with_reducible refine gate_callee (f := 19) rfl ?_); refine gB (some 20) Try.func19 #[.agg #[.int .i64 ((rd_T38 l0 x4_1).f0), .string ((rd_T38 l0 x4_1).f1), .slice A136_2 ((rd_T38 l0 x4_1).f2).length c136_2]] ?_; (with_reducible refine (laws_toPart.calls k1 ((rd_T38 l0 x4_1).f0) ((rd_T38 l0 x4_1).f1) _ _ ((rd_T38 l0 x4_1).f2) t137 t138 t139 _ ?side1 ?side2 A8.out).mono ?_); (case side1 => exact ch HR136_2 HB); (case side2 => exact HC136_2.out); rintro e w11 ⟨v140, rfl, ho0, hb⟩; refine ⟨_, rfl, ?_⟩; obtain ⟨Aq_, cq_, eq_⟩ := Kd.R_slice ho0; subst eq_; replace HO_3 := Aside0.mk (Kd.S_elder' (sI HO_3.out) (Kd.R_base ho0) hb); have HO141 := Aside0.mk (Kd.R_lower ho0 (below_size (bI HB.out))); replace HB := bs HB hb; (try clear hb); (try clear ho0); have p10 : 0 ≤ (x4_1 : Int) := of_decide_eq_true y0_3; have q10 : (x4_1 : Int) < ((x3_1.length : Int) : Int) := of_decide_eq_true y0_3; obtain ⟨go10, co10, eo10, gb10, gl10, cl10, HG10⟩ := Kd.S_form HO_3.out (by omega); (first | cases eo10 | (injection eo10 with ea_ en_ ec_; (first | subst ea_ | (injection ea_ with ea_; subst ea_)); subst ec_; clear en_)); have GB10 := Aside0.mk gb10; have GG10 := Aside0.mk HG10; clear gb10 gl10 HG10; obtain ⟨_, ce10, hcl10, hM10, hcc10, hfr10, _, _⟩ := Kd.S_elem HO_3.out z26 (x4_1 : Int) p10 q10; obtain ⟨ve10_2, rfl, ge10_2⟩ := k26_openM hM10; have hx10_0 : w11.cell? ⟨go10, (x4_1 : Int).toNat * 3, none⟩ = some (.int .i64 ((rd_T26 x3_1 x4_1).f0)) := hcc10 0 _ rfl; have hx10_1 : w11.cell? ⟨go10, (x4_1 : Int).toNat * 3 + 1, none⟩ = some (.string ((rd_T26 x3_1 x4_1).f1)) := hcc10 1 _ rfl; have hx10_2 : w11.cell? ⟨go10, (x4_1 : Int).toNat * 3 + 2, none⟩ = some (ve10_2) := hcc10 2 _ rfl; have hf10_0 : w11.frozen? ⟨go10, (x4_1 : Int).toNat * 3, none⟩ = false := hfr10 0; have hf10_1 : w11.frozen? ⟨go10, (x4_1 : Int).toNat * 3 + 1, none⟩ = false := hfr10 1; have hf10_2 : w11.frozen? ⟨go10, (x4_1 : Int).toNat * 3 + 2, none⟩ = false := hfr10 2; clear hcl10 hcc10 hfr10 hM10; replace p10 := eq_true p10; replace q10 := eq_true q10; have n_ := Aside0.mk (Kd.S_mono (ok' := (fun k_ => some k_ ≠ ((.slice Aq_ t139.length cq_) : Value).ownBlock)) HO_3.out (fun k_ hk => hk.2)); clear HO_3; have HO_3 := n_; clear n_; have HX12 := Aside0.mk (show Kd.S k26 26 w11 w.heap.size (fun k_ => ((fun _ => True)) k_ ∧ ¬ ((fun k_ => some k_ = ((.slice Aq_ t139.length cq_) : Value).ownBlock)) k_) (.slice (some ⟨go10, 0, none⟩) x3_1.length co10) x3_1 from (sI (Kd.S_mono HO_3.out (fun k_ hk => ⟨trivial, fun e_ => hk e_⟩)))); obtain ⟨oki12, ce12, hcl12, hM12, hcc12, hfr12, hoki12, hH12⟩ := Kd.S_elem HX12.out z26 (x4_1 : Int) (of_decide_eq_true y0_3) (by have h_ : (x4_1 : Int) < ((x3_1.length : Int) : Int) := of_decide_eq_true y0_3; first | exact h_ | (have e_ := (Kd.S_reads' HO_3.out).1; omega) | simpa using h_); obtain ⟨ve12_2, rfl, ge12_2⟩ := k26_openM hM12; have HP12 := Kd.S_seg hH12 (of_decide_eq_true y0_3) (by have h_ : (x4_1 : Int) < ((x3_1.length : Int) : Int) := of_decide_eq_true y0_3; first | exact h_ | (have e_ := (Kd.S_reads' HO_3.out).1; omega) | simpa using h_) (seg := [.int .i64 t137, .string t138, (.slice Aq_ t139.length cq_)]) (j := 0) (show 3 ≤ 3 from by decide) (x' := (⟨t137, t138, t139⟩ : S26)) (k26_mkM _ _ _ (⟨t137, t138, t139⟩ : S26) (Kd.R_mono (Kd.R_tight rfl (Kd.R_mono (ok' := fun k_ => ((fun _ => True)) k_ ∧ k_ ≠ go10) (Kd.R_apart' (HO141.out) (Kd.S_typed HO_3.out) (by decide)) (fun k_ hk => ⟨trivial, fun e_ => (hk.2) (by rw [e_]; rfl)⟩))) (fun _ h_ => Or.inr (h_)))) (fun _ hk => hk) (fun k_ hk_ => ((Kd.R_mono (ok' := fun k_ => ((fun _ => True)) k_ ∧ k_ ≠ go10) (Kd.R_apart' (HO141.out) (Kd.S_typed HO_3.out) (by decide)) (fun k_ hk => ⟨trivial, fun e_ => (hk.2) (by rw [e_]; rfl)⟩))).1 k_ hk_.symm); have hx12_0 := hcc12 0 _ rfl; (try simp only [show (k26).sz = 3 from rfl, Nat.mul_one, Nat.add_zero] at hx12_0); have hf12_0 := hfr12 0; (try simp only [show (k26).sz = 3 from rfl, Nat.mul_one, Nat.add_zero] at hf12_0); have hx12_1 := hcc12 1 _ rfl; (try simp only [show (k26).sz = 3 from rfl, Nat.mul_one, Nat.add_zero] at hx12_1); have hf12_1 := hfr12 1; (try simp only [show (k26).sz = 3 from rfl, Nat.mul_one, Nat.add_zero] at hf12_1); have hx12_2 := hcc12 2 _ rfl; (try simp only [show (k26).sz = 3 from rfl, Nat.mul_one, Nat.add_zero] at hx12_2); have hf12_2 := hfr12 2; (try simp only [show (k26).sz = 3 from rfl, Nat.mul_one, Nat.add_zero] at hf12_2); clear hcl12 hcc12 hfr12 hM12 hoki12 hH12) | ((with_reducible refine gate_store (t := 26) (p := 21) rfl ?_); refine store_event (t := 26) (p := 21) (v := ?vo_w13) (w1 := (((w11.setCell ⟨go10, (x4_1 : Int).toNat * 3, none⟩ (.int .i64 t137)).setCell ⟨go10, (x4_1 : Int).toNat * 3 + 1, none⟩ (.string t138)).setCell ⟨go10, (x4_1 : Int).toNat * 3 + 2, none⟩ ((.slice Aq_ t139.length cq_)))) ?hg ?ho ?hn ?hr ?_; (case ho => rfl); (case hg => rfl); (case hn => rfl); (case hr => first | (go_simp; done) | (go_simp; rfl)); intro w13 hw; have hg : w11.grownBy w13 (some go10) := (by rw [hw]; exact HP12.2); have hp_ : Kd.S k26 26 w13 w.heap.size (fun _ => True) (.slice (some ⟨go10, 0, none⟩) x3_1.length co10) y142 := (by rw [hw, Ny142.out]; exact HP12.1); clear HP12; have n0_ := Aside0.mk (hp_); have n1_ := Aside0.mk ((by rw [hw]; exact below_set (below_set (below_set (HB.out) GB10.out) GB10.out) GB10.out : Below w.heap.size w w13)); clear HO_3; clear HB; clear HO141; have HO_3 := n0_; have HB := n1_; clear n0_ n1_; clear hg hw hp_))
     go_roundg k1
     case measure => have := HK1.out; omega
     case rel => exact ⟨(y142), (wrap64 (x4_1 + 1)), y0_4, H', ⟨y0_5⟩, ⟨by (with_reducible repeat (first | apply Kd.S_alloc | apply Kd.S_drewN | apply Kd.S_drew)); exact HO_3.out⟩, ⟨bI HB.out⟩⟩
    rw [if_neg c6] at H
    have c6b0 : decide (x4_1 < (l0.length : Int)) = false := decide_eq_false c6; clear c6; obtain rfl := Option.some.inj H
    go_wp2
    go_ret
    exact ⟨_, y0_1, by (with_reducible repeat (first | apply Kd.S_alloc | apply Kd.S_drewN | apply Kd.S_drew)); exact HO_3.out, bI HB.out⟩
 rw [if_neg c2] at H
 exact absurd H (by simp)

/-! ### impl_copyInts: function 27 -/
def impl_copyInts.f (l0 : List Int) : Option (List Int) := if ([] : List Int).length + l0.length < 17592186044416 then (some (([] : List Int) ++ l0)) else (none)
set_option maxHeartbeats 8000000 in
set_option maxRecDepth 100000 in
theorem impl_copyInts.calls (A0 : Option Addr) (c0 : Nat) (l0 : List Int) (r : List Int) (w : World) (hr0 : Kd.C (Kd.int .i64) w A0 l0.length l0) (hc0 : l0.length ≤ c0) (h : impl_copyInts.f l0 = some r) :
  Calls Try.prog 27 #[.slice A0 l0.length c0] w fun e w' => ∃ v0_ : Value, e = .returned (v0_) ∧ Kd.R (Kd.int .i64) 3 w' w.heap.size (fun _ => True) v0_ r ∧ Below w.heap.size w w' := by
 have HR0 := Aside0.mk hr0; have HC0 := Aside0.mk hc0; clear hr0 hc0; have HB := Aside0.mk (Below.refl w.heap.size w); have H := h; unfold impl_copyInts.f at H; clear h
 by_cases c2 : ([] : List Int).length + l0.length < 17592186044416
 ·
  rw [if_pos c2] at H
  have LMc2 := Aside0.mk c2; clear c2; obtain ⟨y143, hy143⟩ : ∃ y_ : List Int, y_ = (([] : List Int) ++ l0) := ⟨_, rfl⟩
  replace H : (some y143) = some r := by first | (rw [hy143]; with_reducible exact H) | (have H2_ := (Option.bind_some _ _).symm.trans H; rw [hy143]; with_reducible exact H2_) | (have H2_ := (Option.bind_some _ _).symm.trans H; with_reducible exact H2_) | with_reducible exact H | (rw [hy143]; exact H) | exact H
  have Ny143 := Aside0.mk hy143; clear hy143; obtain rfl := Option.some.inj H
  go_enter Try.func27, Try.ntmps27
  go_wp2_with (first | ((with_reducible refine gate_builtin (b := .append) (xs := #[.const (.slice none 0 0), .tmp 3]) rfl ?_); at_builtin; refine Kd.R_append_rows (Kd.int .i64) (w0 := w) w.heap.size rfl (.const (.slice none 0 0)) (.tmp 3) 24 3 (.int .i64 0) 8 rfl Try.underlying24 info3 rfl (by decide) (by omega) (.slice none 0 0) ([] : List Int) l0 _ _ _ (fun _ => True) (fun _ => False) rfl rfl ?aO ?aR (fun _ _ h => h) (fun _ h => h.elim) ?aF ?aB ?aS ?aL ?_; (case aR => exact cI HR0.out); (case aB => exact (bI HB.out)); (case aF => exact (fun _ _ => trivial)); (case aO => exact ((Kd.R_nil _ _ _ _ (fun _ => True)))); (case aS => exact (below_size (bI HB.out))); (case aL => have := LMc2.out; omega); intro v144 w3 ho hb hg hat; rw [← Ny143.out] at ho; replace HB := Aside0.mk (hb); have HO145 := Aside0.mk (ho); clear ho hb hg hat))
  go_ret
  exact ⟨_, y0_1, by (with_reducible repeat (first | apply Kd.R_alloc | apply Kd.R_drewN | apply Kd.R_drew)); exact HO145.out, bI HB.out⟩
 rw [if_neg c2] at H
 exact absurd H (by simp)

/-! ### impl_copyPart: function 20 -/
def impl_copyPart.f (a0_0 : Int) (a0_1 : ByteArray) (l0_2 : List Int) : Option (Int × ByteArray × List Int) := (impl_copyInts.f l0_2).bind fun t148 => (some (a0_0, a0_1, t148))
set_option maxHeartbeats 8000000 in
set_option maxRecDepth 100000 in
theorem impl_copyPart.calls (a0_0 : Int) (a0_1 : ByteArray) (A0_2 : Option Addr) (c0_2 : Nat) (l0_2 : List Int) (r1 : Int) (r2 : ByteArray) (r3 : List Int) (w : World) (hr0_2 : Kd.C (Kd.int .i64) w A0_2 l0_2.length l0_2) (hc0_2 : l0_2.length ≤ c0_2) (h : impl_copyPart.f a0_0 a0_1 l0_2 = some (r1, r2, r3)) :
  Calls Try.prog 20 #[.agg #[.int .i64 a0_0, .string a0_1, .slice A0_2 l0_2.length c0_2]] w fun e w' => ∃ v2_ : Value, e = .returned (.agg #[.int .i64 r1, .string r2, v2_]) ∧ Kd.R (Kd.int .i64) 3 w' w.heap.size (fun _ => True) v2_ r3 ∧ Below w.heap.size w w' := by
 have hu26 := Try.underlying26; have HR0_2 := Aside0.mk hr0_2; have HC0_2 := Aside0.mk hc0_2; clear hr0_2 hc0_2; have HB := Aside0.mk (Below.refl w.heap.size w)
 have H := h; unfold impl_copyPart.f at H
 clear h; obtain ⟨t148, A2, H⟩ := oB H; (try dsimp only at H)
 simp only [Option.some.injEq, Prod.mk.injEq] at H
 obtain ⟨rfl, rfl, rfl⟩ := H
 go_enter Try.func20, Try.ntmps20
 go_wp2_with (first | ((with_reducible refine gd 1 ?_); refine bL 1 #[.int .i64 a0_0, .string a0_1, .slice A0_2 l0_2.length c0_2] 26 ?_; intro gb146 w3 _ _ _) | ((with_reducible refine gd 2 ?_); refine bL 2 #[.int .i64 0, .string (⟨#[]⟩ : ByteArray), .slice none 0 0] 26 ?_; intro gb147 w4 _ _ _) | ((with_reducible refine gate_callee (f := 27) rfl ?_); refine gC1 (some 5) Try.func27 (impl_copyInts.calls (hr0 := pC HR0_2) (hc0 := HC0_2.out) (w := _) (h := A2.out)) ?_; intro Ao149 co149 w5 _ HO150))
 refine bodyPost_ret (results_cell_row rfl _ _ gb147 26 #[.int .i64 a0_0, .string a0_1, .slice Ao149 t148.length co149] (0, 0) _ rfl xB Try.underlying26 rfl (by kernel_rfl)) rfl ?_
 exact ⟨_, y0_4, rR HO150, UpW.out⟩

end Go.Proofs.Ytnpbopadajbopaa.PFnExactTableGet
