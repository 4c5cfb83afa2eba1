-- By a program of this session, out of the translation (the print of the kit, with turns of its own). Lean checks it.
import Derived.Test.YtdmjhgogljhfkaaGreatDoorPFnExactTableAddx0
namespace Go.Proofs.YtdmjhgogljhfkaaGreatDoor.PFnExactTableAdd
open Go.RowKit Go.Proofs.YtdmjhgogljhfkaaGreatDoorW.PrintWords Go.Proofs.YtdmjhgogljhfkaaGreatDoorW.PrintLast Go.Proofs.YtdmjhgogljhfkaaGreatDoorW.PrintMore
attribute [local go_sem] max2_int min2_int max_two min_two max_three min_three max_four min_four   -- for this text's walks alone
attribute [local go_sem] cell_in frozen_in cell_g cell_p
set_option synthInstance.maxSize 1000000
set_option synthInstance.maxHeartbeats 2000000
set_option linter.unusedVariables false
set_option linter.unusedSimpArgs false

/-! ### laws_toConf: function 8 -/
def laws_toConf.f (a0_0 : Int) (a0_1 : Int) : Option (Int × Int) := some (a0_0, a0_1)
set_option maxHeartbeats 8000000 in
set_option maxRecDepth 100000 in
theorem laws_toConf.calls (a0_0 : Int) (a0_1 : Int) (r1 : Int) (r2 : Int) (w : World) (h : laws_toConf.f a0_0 a0_1 = some (r1, r2)) :
  Calls Tryz.prog 8 #[.agg #[.int .i64 a0_0, .int .i64 a0_1]] w fun e w' => e = .returned (.agg #[.int .i64 r1, .int .i64 r2]) ∧ Below w.heap.size w w' := by
 have hu23 := Tryz.underlying23; have hu32 := Tryz.underlying32; have HB := Aside0.mk (Below.refl w.heap.size w); have H := h; unfold laws_toConf.f at H; clear h
 simp only [Option.some.injEq, Prod.mk.injEq] at H
 obtain ⟨rfl, rfl⟩ := H
 go_enter Tryz.func8, Tryz.ntmps8
 go_wp2_with (first | ((with_reducible refine gd 1 ?_); refine bL 1 #[.int .i64 a0_0, .int .i64 a0_1] 23 ?_; intro gb101 w2 _ _ _) | ((with_reducible refine gd 2 ?_); refine bL 2 #[.int .i64 0, .int .i64 0] 32 ?_; intro gb102 w3 _ _ _) | ((with_reducible refine gd 3 ?_); refine bL 3 #[.int .i64 0, .int .i64 0] 32 ?_; intro gb103 w4 _ _ _))
 refine bodyPost_ret (results_cell_row rfl _ _ gb102 32 #[.int .i64 a0_0, .int .i64 a0_1] (0, 0) _ rfl xB Tryz.underlying32 rfl (by kernel_rfl)) rfl ?_
 exact ⟨y0_13, UpW.out⟩

/-! ### laws_szIntS: function 77 -/
def laws_szIntS.f (l0 : List Int) (a1 : Int) : Option (Int) := if (wrap64 (a1 - (l0.length : Int))) < 0 then (some (-1)) else (some (wrap64 (a1 - (l0.length : Int))))
set_option maxHeartbeats 8000000 in
set_option maxRecDepth 100000 in
theorem laws_szIntS.calls (A0 : Option Addr) (c0 : Nat) (l0 : List Int) (a1 : Int) (r : Int) (w : World) (hr0 : Kd.C (Kd.int .i64) w A0 l0.length l0) (hc0 : l0.length ≤ c0) (h : laws_szIntS.f l0 a1 = some r) :
  Calls Tryz.prog 77 #[.slice A0 l0.length c0, .int .i64 a1] w fun e w' => e = .returned (.int .i64 r) ∧ Drawn0 w w' := by
 have HR0 := Aside0.mk hr0; have HC0 := Aside0.mk hc0; clear hr0 hc0; have H := h; unfold laws_szIntS.f at H; clear h
 by_cases c3 : (wrap64 (a1 - (l0.length : Int))) < 0
 ·
  rw [if_pos c3] at H
  have c3b0 : decide ((wrap64 (a1 - (l0.length : Int))) < 0) = true := decide_eq_true c3; clear c3; obtain rfl := Option.some.inj H
  go_enter Tryz.func77, Tryz.ntmps77
  go_wp2
  go_ret
  exact ⟨y0_13, y0_9⟩
 rw [if_neg c3] at H
 have c3b0 : decide ((wrap64 (a1 - (l0.length : Int))) < 0) = false := decide_eq_false c3; clear c3; obtain rfl := Option.some.inj H
 go_enter Tryz.func77, Tryz.ntmps77
 go_wp2
 go_ret
 exact ⟨y0_13, y0_9⟩

/-! ### laws_szPart: function 17 -/
def laws_szPart.f (a0_0 : Int) (a0_1 : ByteArray) (l0_2 : List Int) (a1 : Int) : Option (Int) := if (wrap64 (a1 - (a0_1.size : Int))) < 0 then (some (-1)) else ((laws_szIntS.f l0_2 (wrap64 (a1 - (a0_1.size : Int)))).bind fun t105 => (if t105 < 0 then (some (-1)) else (some t105)))
set_option maxHeartbeats 8000000 in
set_option maxRecDepth 100000 in
theorem laws_szPart.calls (a0_0 : Int) (a0_1 : ByteArray) (A0_2 : Option Addr) (c0_2 : Nat) (l0_2 : List Int) (a1 : Int) (r : Int) (w : World) (hr0_2 : Kd.C (Kd.int .i64) w A0_2 l0_2.length l0_2) (hc0_2 : l0_2.length ≤ c0_2) (h : laws_szPart.f a0_0 a0_1 l0_2 a1 = some r) :
  Calls Tryz.prog 17 #[.agg #[.int .i64 a0_0, .string a0_1, .slice A0_2 l0_2.length c0_2], .int .i64 a1] w fun e w' => e = .returned (.int .i64 r) ∧ Below w.heap.size w w' := by
 have hu41 := Tryz.underlying41; have HR0_2 := Aside0.mk hr0_2; have HC0_2 := Aside0.mk hc0_2; clear hr0_2 hc0_2; have HB := Aside0.mk (Below.refl w.heap.size w)
 have H := h; unfold laws_szPart.f at H
 clear h
 go_enter Tryz.func17, Tryz.ntmps17
 have H' := Aside0.mk H; clear H
 go_upto_if 11 with (first | ((with_reducible refine gd 2 ?_); refine bL 2 #[.int .i64 a0_0, .string a0_1, .slice A0_2 l0_2.length c0_2] 41 ?_; intro gb104 w3 _ _ _))
 have H := H'.out; clear H'
 by_cases c4 : (wrap64 (a1 - (a0_1.size : Int))) < 0
 ·
  rw [if_pos c4] at H
  have c4b0 : decide ((wrap64 (a1 - (a0_1.size : Int))) < 0) = true := decide_eq_true c4; clear c4
  (first | rw [c4b0] | (simp only [i64_w, i32_w]; rw [c4b0]) | skip)
  obtain rfl := Option.some.inj H
  go_wp2
  go_ret
  exact ⟨y0_13, UpW.out⟩
 rw [if_neg c4] at H
 have c4b0 : decide ((wrap64 (a1 - (a0_1.size : Int))) < 0) = false := decide_eq_false c4; clear c4
 (first | rw [c4b0] | (simp only [i64_w, i32_w]; rw [c4b0]) | skip)
 obtain ⟨t105, A5, H⟩ := oB H; (try dsimp only at H); have H' := Aside0.mk H; clear H
 go_upto_if 17 with (first | ((with_reducible refine gate_callee (f := 77) rfl ?_); refine gD (some 15) Tryz.func77 (laws_szIntS.calls (hr0 := pC HR0_2) (hc0 := HC0_2.out) (w := _) (h := A5.out)) ?_; intro w6 _))
 have H := H'.out; clear H'
 by_cases c7 : t105 < 0
 ·
  rw [if_pos c7] at H
  have c7b0 : decide (t105 < 0) = true := decide_eq_true c7; clear c7
  (first | rw [c7b0] | (simp only [i64_w, i32_w]; rw [c7b0]) | skip)
  obtain rfl := Option.some.inj H
  go_wp2
  go_ret
  exact ⟨y0_13, UpW.out⟩
 rw [if_neg c7] at H
 have c7b0 : decide (t105 < 0) = false := decide_eq_false c7; clear c7
 (first | rw [c7b0] | (simp only [i64_w, i32_w]; rw [c7b0]) | skip)
 obtain rfl := Option.some.inj H
 go_wp2
 go_ret
 exact ⟨y0_13, UpW.out⟩

/-! ### laws_szPartS: function 16 -/
def laws_szPartS.l0 : Nat → List (S41) → Int → Int → Option (Int)
 | 0, _, _, _ => none
 | k + 1, x0, x1, x5 => if x5 < (x0.length : Int) then (if 0 ≤ x5 then ((laws_szPart.f ((rd_T41 x0 x5).f0) ((rd_T41 x0 x5).f1) ((rd_T41 x0 x5).f2) x1).bind fun t107 => (if t107 < 0 then (some (-1)) else (laws_szPartS.l0 k x0 t107 (wrap64 (x5 + 1))))) else (none)) else (some x1)
def laws_szPartS.f (k : Nat) (l0 : List (S41)) (a1 : Int) : Option (Int) := if (wrap64 (a1 - (l0.length : Int))) < 0 then (some (-1)) else (laws_szPartS.l0 k l0 (wrap64 (a1 - (l0.length : Int))) 0)
theorem laws_szPartS.mono_l : ∀ k, (∀ y0 y1 y2, LeO (laws_szPartS.l0 k y0 y1 y2) (laws_szPartS.l0 (k + 1) y0 y1 y2))
 | 0 => fun _ _ _ r h => by simp [laws_szPartS.l0] at h
 | k + 1 => by
  have ih0 := laws_szPartS.mono_l k
  intro y0 y1 y2
  unfold laws_szPartS.l0
  repeat' first | (with_reducible exact ih0 _ _ _) | (with_reducible exact LeO.refl _) | (with_reducible exact LeO.none _) | (with_reducible refine LeO.ite ?_ ?_) | (with_reducible refine LeO.bind ?_ (fun _ => ?_))
theorem laws_szPartS.mono : ∀ a0 a1 k, LeO (laws_szPartS.f k a0 a1) (laws_szPartS.f (k + 1) a0 a1) := by
 intro a0 a1 k
 have ih0 := laws_szPartS.mono_l k
 unfold laws_szPartS.f
 repeat' first | (with_reducible exact ih0 _ _ _) | (with_reducible exact LeO.refl _) | (with_reducible exact LeO.none _) | (with_reducible refine LeO.ite ?_ ?_) | (with_reducible refine LeO.bind ?_ (fun _ => ?_))
set_option maxHeartbeats 8000000 in
set_option maxRecDepth 100000 in
theorem laws_szPartS.calls (k : Nat) (A0 : Option Addr) (c0 : Nat) (l0 : List (S41)) (a1 : Int) (r : Int) (w : World) (hr0 : Kd.C k41 w A0 l0.length l0) (hc0 : l0.length ≤ c0) (h : laws_szPartS.f k l0 a1 = some r) :
  Calls Tryz.prog 16 #[.slice A0 l0.length c0, .int .i64 a1] w fun e w' => e = .returned (.int .i64 r) ∧ Below w.heap.size w w' := by
 have hu41 := Tryz.underlying41; have HR0 := Aside0.mk hr0; have HC0 := Aside0.mk hc0; clear hr0 hc0; have HB := Aside0.mk (Below.refl w.heap.size w); have H := h; unfold laws_szPartS.f at H; clear h
 by_cases c3 : (wrap64 (a1 - (l0.length : Int))) < 0
 ·
  rw [if_pos c3] at H
  have c3b0 : decide ((wrap64 (a1 - (l0.length : Int))) < 0) = true := decide_eq_true c3; clear c3; obtain rfl := Option.some.inj H
  go_enter Tryz.func16, Tryz.ntmps16
  go_wp2
  go_ret
  exact ⟨y0_7, bI HB.out⟩
 rw [if_neg c3] at H
 have c3b0 : decide ((wrap64 (a1 - (l0.length : Int))) < 0) = false := decide_eq_false c3; clear c3; have H' := Aside0.mk H; clear H
 go_enter Tryz.func16, Tryz.ntmps16
 go_wp2
 go_loopg [1, 5] k (fun kq v1 v5 w' => ∃ (x1_1 : Int) (x5_1 : Int), v1 = .int .i64 x1_1 ∧ v5 = .int .i64 x5_1 ∧ Aside0 (laws_szPartS.l0 kq l0 x1_1 x5_1 = some r) ∧ Aside0 (kq ≤ k) ∧ Aside0 (Below w.heap.size w w'))
 case atStart => exact ⟨(wrap64 (a1 - (l0.length : Int))), (0), y0_13, y0_13, H', ⟨Nat.le_refl _⟩, ⟨bI HB.out⟩⟩
 case round =>
  clear H'
  try clear c1
  try clear p2
  try clear c3
  try clear c3b0
  obtain ⟨x1_1, x5_1, rfl, rfl, HA, HK1, HB⟩ := hrel; cases gk with
  | zero => exact absurd HA.out (by simp [laws_szPartS.l0])
  | succ k1 =>
   have H := HA.out; clear HA
   simp only [laws_szPartS.l0] at H
   by_cases c4 : x5_1 < (l0.length : Int)
   ·
    rw [if_pos c4] at H
    have c4b0 : decide (x5_1 < (l0.length : Int)) = true := decide_eq_true c4; clear c4
    by_cases c5 : 0 ≤ x5_1
    rotate_left
    ·
     rw [if_neg c5] at H
     exact absurd H (by simp)
    rw [if_pos c5] at H
    have c5b0 : decide (0 ≤ x5_1) = true := decide_eq_true c5; clear c5; obtain ⟨t107, A6, H⟩ := oB H; (try dsimp only at H)
    by_cases c7 : t107 < 0
    ·
     rw [if_pos c7] at H
     have c7b0 : decide (t107 < 0) = true := decide_eq_true c7; clear c7; obtain rfl := Option.some.inj H; have p106 : 0 ≤ (x5_1 : Int) := of_decide_eq_true y0_12; have q106 : x5_1 < (l0.length : Int) := of_decide_eq_true y0_12; obtain ⟨ad106, A106_2, c106_2, e106, hx106_0, hx106_1, hx106_2, hl106_2, hi106_2⟩ := at_T41 HR0.out x5_1 p106 q106; have hr106_2 := hx106_2; cases e106; replace hx106_0 := bx HB hx106_0; replace hx106_1 := bx HB hx106_1; replace hx106_2 := bx HB hx106_2; have HR106_2 := Aside0.mk hi106_2; have HC106_2 := Aside0.mk hl106_2; clear hi106_2 hl106_2; replace p106 := eq_true p106; replace q106 := eq_true q106
     go_wp2_with (first | ((with_reducible refine gate_callee (f := 17) rfl ?_); refine gB (some 23) Tryz.func17 #[.agg #[.int .i64 ((rd_T41 l0 x5_1).f0), .string ((rd_T41 l0 x5_1).f1), .slice A106_2 ((rd_T41 l0 x5_1).f2).length c106_2], .int .i64 x1_1] ?_; (with_reducible refine (laws_szPart.calls ((rd_T41 l0 x5_1).f0) ((rd_T41 l0 x5_1).f1) _ _ ((rd_T41 l0 x5_1).f2) x1_1 t107 _ ?side1 ?side2 A6.out).mono ?_); (case side1 => exact ch HR106_2 HB); (case side2 => exact HC106_2.out); rintro e w8 ⟨rfl, hb⟩; refine ⟨_, rfl, ?_⟩; replace HB := bs HB hb; (try clear hb); (try clear hb2); (try clear hk); (try clear hi)))
     go_ret
     exact ⟨y0_7, bI HB.out⟩
    rw [if_neg c7] at H
    have c7b0 : decide (t107 < 0) = false := decide_eq_false c7; clear c7; have H' := Aside0.mk H; clear H; have p106 : 0 ≤ (x5_1 : Int) := of_decide_eq_true y0_12; have q106 : x5_1 < (l0.length : Int) := of_decide_eq_true y0_12; obtain ⟨ad106, A106_2, c106_2, e106, hx106_0, hx106_1, hx106_2, hl106_2, hi106_2⟩ := at_T41 HR0.out x5_1 p106 q106; have hr106_2 := hx106_2; cases e106; replace hx106_0 := bx HB hx106_0; replace hx106_1 := bx HB hx106_1; replace hx106_2 := bx HB hx106_2; have HR106_2 := Aside0.mk hi106_2; have HC106_2 := Aside0.mk hl106_2; clear hi106_2 hl106_2; replace p106 := eq_true p106; replace q106 := eq_true q106
    go_wp2_with (first | ((with_reducible refine gate_callee (f := 17) rfl ?_); refine gB (some 23) Tryz.func17 #[.agg #[.int .i64 ((rd_T41 l0 x5_1).f0), .string ((rd_T41 l0 x5_1).f1), .slice A106_2 ((rd_T41 l0 x5_1).f2).length c106_2], .int .i64 x1_1] ?_; (with_reducible refine (laws_szPart.calls ((rd_T41 l0 x5_1).f0) ((rd_T41 l0 x5_1).f1) _ _ ((rd_T41 l0 x5_1).f2) x1_1 t107 _ ?side1 ?side2 A6.out).mono ?_); (case side1 => exact ch HR106_2 HB); (case side2 => exact HC106_2.out); rintro e w9 ⟨rfl, hb⟩; refine ⟨_, rfl, ?_⟩; replace HB := bs HB hb; (try clear hb); (try clear hb2); (try clear hk); (try clear hi)))
    go_roundg k1
    case measure => have := HK1.out; omega
    case rel => exact ⟨(t107), (wrap64 (x5_1 + 1)), y0_13, y0_13, H', ⟨y0_16⟩, ⟨bI HB.out⟩⟩
   rw [if_neg c4] at H
   have c4b0 : decide (x5_1 < (l0.length : Int)) = false := decide_eq_false c4; clear c4; obtain rfl := Option.some.inj H
   go_wp2
   go_ret
   exact ⟨y0_7, bI HB.out⟩

/-! ### spec_SetHas: function 171 -/
def spec_SetHas.l0 : Nat → List Int → Int → Int → Option (Bool)
 | 0, _, _, _ => none
 | k + 1, x0, x1, x5 => if x5 < (x0.length : Int) then (if 0 ≤ x5 then (if (rd x0 x5) = x1 then (some true) else (spec_SetHas.l0 k x0 x1 (wrap64 (x5 + 1)))) else (none)) else (some false)
def spec_SetHas.f (k : Nat) (l0 : List Int) (a1 : Int) : Option (Bool) := spec_SetHas.l0 k l0 a1 0
theorem spec_SetHas.mono_l : ∀ k, (∀ y0 y1 y2, LeO (spec_SetHas.l0 k y0 y1 y2) (spec_SetHas.l0 (k + 1) y0 y1 y2))
 | 0 => fun _ _ _ r h => by simp [spec_SetHas.l0] at h
 | k + 1 => by
  have ih0 := spec_SetHas.mono_l k
  intro y0 y1 y2
  unfold spec_SetHas.l0
  repeat' first | (with_reducible exact ih0 _ _ _) | (with_reducible exact LeO.refl _) | (with_reducible exact LeO.none _) | (with_reducible refine LeO.ite ?_ ?_) | (with_reducible refine LeO.bind ?_ (fun _ => ?_))
theorem spec_SetHas.mono : ∀ a0 a1 k, LeO (spec_SetHas.f k a0 a1) (spec_SetHas.f (k + 1) a0 a1) := by
 intro a0 a1 k
 have ih0 := spec_SetHas.mono_l k
 unfold spec_SetHas.f
 repeat' first | (with_reducible exact ih0 _ _ _) | (with_reducible exact LeO.refl _) | (with_reducible exact LeO.none _) | (with_reducible refine LeO.ite ?_ ?_) | (with_reducible refine LeO.bind ?_ (fun _ => ?_))
set_option maxHeartbeats 8000000 in
set_option maxRecDepth 100000 in
theorem spec_SetHas.calls (k : Nat) (A0 : Option Addr) (c0 : Nat) (l0 : List Int) (a1 : Int) (r : Bool) (w : World) (hr0 : Kd.C (Kd.int .i64) w A0 l0.length l0) (hc0 : l0.length ≤ c0) (h : spec_SetHas.f k l0 a1 = some r) :
  Calls Tryz.prog 171 #[.slice A0 l0.length c0, .int .i64 a1] w fun e w' => e = .returned (.bool r) ∧ Drawn0 w w' := by
 have HR0 := Aside0.mk hr0; have HC0 := Aside0.mk hc0; clear hr0 hc0; have H := h; unfold spec_SetHas.f at H; clear h; have H' := Aside0.mk H; clear H
 go_enter Tryz.func171, Tryz.ntmps171
 go_wp2
 go_loopg [5] k (fun kq v5 w' => ∃ (x5_1 : Int), v5 = .int .i64 x5_1 ∧ Aside0 (spec_SetHas.l0 kq l0 a1 x5_1 = some r) ∧ Aside0 (kq ≤ k) ∧ Drawn0 w w')
 case atStart => exact ⟨(0), y0_13, H', ⟨Nat.le_refl _⟩, y0_9⟩
 case round =>
  clear H'
  try clear c1
  try clear p2
  obtain ⟨x5_1, rfl, HA, HK1, ⟨m1, rfl⟩⟩ := hrel; cases gk with
  | zero => exact absurd HA.out (by simp [spec_SetHas.l0])
  | succ k1 =>
   have H := HA.out; clear HA
   simp only [spec_SetHas.l0] at H
   by_cases c3 : x5_1 < (l0.length : Int)
   ·
    rw [if_pos c3] at H
    have c3b0 : decide (x5_1 < (l0.length : Int)) = true := decide_eq_true c3; clear c3
    by_cases c4 : 0 ≤ x5_1
    rotate_left
    ·
     rw [if_neg c4] at H
     exact absurd H (by simp)
    rw [if_pos c4] at H
    have c4b0 : decide (0 ≤ x5_1) = true := decide_eq_true c4; clear c4
    by_cases c5 : (rd l0 x5_1) = a1
    ·
     rw [if_pos c5] at H
     have c5b0 : ((rd l0 x5_1) == a1) = true := beq_iff_eq.mpr c5; have c5b1 : ((rd l0 x5_1) != a1) = false := bne_eq_false_iff_eq.mpr c5; clear c5; obtain rfl := Option.some.inj H; have p108 : 0 ≤ (x5_1 : Int) := of_decide_eq_true y0_12; have q108 : x5_1 < (l0.length : Int) := of_decide_eq_true y0_12; obtain ⟨ad108, e108, hx108_0⟩ := Kd.at_int HR0.out x5_1 p108 q108; cases e108; replace p108 := eq_true p108; replace q108 := eq_true q108
     go_wp2
     go_ret
     exact ⟨y0_13, y0_9⟩
    rw [if_neg c5] at H
    have c5b0 : ((rd l0 x5_1) == a1) = false := beq_eq_false_iff_ne.mpr c5; have c5b1 : ((rd l0 x5_1) != a1) = true := bne_iff_ne.mpr c5; have H' := Aside0.mk H; clear H; have p108 : 0 ≤ (x5_1 : Int) := of_decide_eq_true y0_12; have q108 : x5_1 < (l0.length : Int) := of_decide_eq_true y0_12; obtain ⟨ad108, e108, hx108_0⟩ := Kd.at_int HR0.out x5_1 p108 q108; cases e108; replace p108 := eq_true p108; replace q108 := eq_true q108
    go_wp2
    go_roundg k1
    case measure => have := HK1.out; omega
    case rel => exact ⟨(wrap64 (x5_1 + 1)), y0_13, H', ⟨y0_16⟩, y0_9⟩
   rw [if_neg c3] at H
   have c3b0 : decide (x5_1 < (l0.length : Int)) = false := decide_eq_false c3; clear c3; obtain rfl := Option.some.inj H
   go_wp2
   go_ret
   exact ⟨y0_13, y0_9⟩

/-! ### spec_SetAdd: function 145 -/
def spec_SetAdd.l0 : Nat → List Int → Int → Int → Option (List Int)
 | 0, _, _, _ => none
 | k + 1, x0, x1, x5 => if x5 < (x0.length : Int) then (if 0 ≤ x5 then (if (rd x0 x5) < x1 then (spec_SetAdd.l0 k x0 x1 (wrap64 (x5 + 1))) else ((some (([] : List Int) : List Int)).bind fun y117 => (if x5 ≤ (x0.length : Int) then (if y117.length + (x0.take (x5 : Int).toNat).length < 17592186044416 then ((some (y117 ++ (x0.take (x5 : Int).toNat) : List Int)).bind fun y121 => (if y121.length < 17592186044416 then ((some (y121 ++ [x1] : List Int)).bind fun y124 => (if y124.length + (x0.drop (x5 : Int).toNat).length < 17592186044416 then (some (y124 ++ (x0.drop (x5 : Int).toNat))) else (none))) else (none))) else (none)) else (none)))) else (none)) else ((some (([] : List Int) : List Int)).bind fun y131 => (if 0 ≤ x5 then (if x5 ≤ (x0.length : Int) then (if y131.length + (x0.take (x5 : Int).toNat).length < 17592186044416 then ((some (y131 ++ (x0.take (x5 : Int).toNat) : List Int)).bind fun y135 => (if y135.length < 17592186044416 then ((some (y135 ++ [x1] : List Int)).bind fun y138 => (if y138.length + (x0.drop (x5 : Int).toNat).length < 17592186044416 then (some (y138 ++ (x0.drop (x5 : Int).toNat))) else (none))) else (none))) else (none)) else (none)) else (none)))
def spec_SetAdd.f (k : Nat) (l0 : List Int) (a1 : Int) : Option (List Int) := (spec_SetHas.f k l0 a1).bind fun t109 => (if t109 = true then ((some (([] : List Int) : List Int)).bind fun y110 => (if y110.length + l0.length < 17592186044416 then (some (y110 ++ l0)) else (none))) else (spec_SetAdd.l0 k l0 a1 0))
theorem spec_SetAdd.mono_l : ∀ k, (∀ y0 y1 y2, LeO (spec_SetAdd.l0 k y0 y1 y2) (spec_SetAdd.l0 (k + 1) y0 y1 y2))
 | 0 => fun _ _ _ r h => by simp [spec_SetAdd.l0] at h
 | k + 1 => by
  have ih0 := spec_SetAdd.mono_l k
  intro y0 y1 y2
  unfold spec_SetAdd.l0
  repeat' first | (with_reducible exact ih0 _ _ _) | (with_reducible exact spec_SetHas.mono _ _ _) | (with_reducible exact LeO.refl _) | (with_reducible exact LeO.none _) | (with_reducible refine LeO.ite ?_ ?_) | (with_reducible refine LeO.bind ?_ (fun _ => ?_))
theorem spec_SetAdd.mono : ∀ a0 a1 k, LeO (spec_SetAdd.f k a0 a1) (spec_SetAdd.f (k + 1) a0 a1) := by
 intro a0 a1 k
 have ih0 := spec_SetAdd.mono_l k
 unfold spec_SetAdd.f
 repeat' first | (with_reducible exact ih0 _ _ _) | (with_reducible exact spec_SetHas.mono _ _ _) | (with_reducible exact LeO.refl _) | (with_reducible exact LeO.none _) | (with_reducible refine LeO.ite ?_ ?_) | (with_reducible refine LeO.bind ?_ (fun _ => ?_))
set_option maxHeartbeats 8000000 in
set_option maxRecDepth 100000 in
theorem spec_SetAdd.calls (k : Nat) (A0 : Option Addr) (c0 : Nat) (l0 : List Int) (a1 : Int) (r : List Int) (w : World) (hr0 : Kd.C (Kd.int .i64) w A0 l0.length l0) (hc0 : l0.length ≤ c0) (h : spec_SetAdd.f k l0 a1 = some r) :
  Calls Tryz.prog 145 #[.slice A0 l0.length c0, .int .i64 a1] w fun e w' => ∃ v0_ : Value, e = .returned (v0_) ∧ Kd.R (Kd.int .i64) 3 w' w.heap.size (fun _ => True) v0_ r ∧ Below w.heap.size w w' := by
 have HR0 := Aside0.mk hr0; have HC0 := Aside0.mk hc0; clear hr0 hc0; have HB := Aside0.mk (Below.refl w.heap.size w)
 have H := h; unfold spec_SetAdd.f at H
 clear h; obtain ⟨t109, A3, H⟩ := oB H; (try dsimp only at H)
 by_cases c4 : t109 = true
 ·
  subst c4
  rw [if_pos rfl] at H
  obtain ⟨y110, hy110⟩ : ∃ y_ : List Int, y_ = (([] : List Int)) := ⟨_, rfl⟩
  replace H : (if y110.length + l0.length < 17592186044416 then (some (y110 ++ l0)) else (none)) = some r := by first | (rw [hy110]; with_reducible exact H) | (have H2_ := (Option.bind_some _ _).symm.trans H; rw [hy110]; with_reducible exact H2_) | (have H2_ := (Option.bind_some _ _).symm.trans H; with_reducible exact H2_) | with_reducible exact H | (rw [hy110]; exact H) | exact H
  have Ny110 := Aside0.mk hy110; clear hy110
  by_cases c5 : y110.length + l0.length < 17592186044416
  rotate_left
  ·
   rw [if_neg c5] at H
   exact absurd H (by simp)
  rw [if_pos c5] at H
  have LMc5 := Aside0.mk c5; clear c5; obtain ⟨y113, hy113⟩ : ∃ y_ : List Int, y_ = (y110 ++ l0) := ⟨_, rfl⟩
  replace H : (some y113) = some r := by first | (rw [hy113]; with_reducible exact H) | (have H2_ := (Option.bind_some _ _).symm.trans H; rw [hy113]; with_reducible exact H2_) | (have H2_ := (Option.bind_some _ _).symm.trans H; with_reducible exact H2_) | with_reducible exact H | (rw [hy113]; exact H) | exact H
  have Ny113 := Aside0.mk hy113; clear hy113; obtain rfl := Option.some.inj H
  go_enter Tryz.func145, Tryz.ntmps145
  go_wp2_with (first | ((with_reducible refine gate_callee (f := 171) rfl ?_); refine gB (some 9) Tryz.func171 #[.slice A0 l0.length c0, .int .i64 a1] ?_; (with_reducible refine (spec_SetHas.calls k _ _ l0 a1 true _ ?side1 ?side2 A3.out).mono ?_); (case side1 => exact cI HR0.out); (case side2 => exact HC0.out); rintro e w' ⟨rfl, ⟨nd, rfl⟩⟩; refine ⟨_, rfl, ?_⟩) | ((with_reducible refine gate_dst (N := 10) rfl ?_); refine Kd.R_lit (Kd.int .i64) _ 3 ?hg (N := 10) ?hd (xs := ([] : List Int)) (inner := []) (ok := fun _ => True) (okp := fun _ => True) ?hr ?hp (fun _ hk => hk) trivial (Below.refl _ _) (Nat.le_refl _) (by simp) ?_; (case hd => rfl); (case hg => rfl); (case hr => first | (go_simp; done) | (go_simp; rfl)); (case hp => exact (Reps.none _ _)); intro v111 w6 ho7 hb hg_ hnew_; clear hg_ hnew_; (first | rw [← Ny110.out] at ho7 | (simp only [Int.reduceToNat] at ho7; rw [← Ny110.out] at ho7)); have HO112 := Aside0.mk (Kd.R_lower ho7 (below_size (bI HB.out))); replace HB := bs HB hb; clear hb ho7) | ((with_reducible refine gate_builtin (b := .append) (xs := #[.tmp 10, .tmp 11]) rfl ?_); at_builtin; refine Kd.R_append_rows (Kd.int .i64) (w0 := w) w.heap.size rfl (.tmp 10) (.tmp 11) 25 3 (.int .i64 0) 8 rfl Tryz.underlying25 info3 rfl (by decide) (by omega) v111 y110 l0 _ _ _ (fun _ => True) (fun _ => False) rfl rfl ?aO ?aR (fun _ _ h => h) (fun _ h => h.elim) ?aF ?aB ?aS ?aL ?_; (case aR => exact ch HR0 HB); (case aB => exact (bI HB.out)); (case aF => exact (fun _ _ => trivial)); (case aO => exact (rI HO112.out)); (case aS => exact (below_size (bI HB.out))); (case aL => have := LMc5.out; omega); intro v114 w8 ho hb hg hat; rw [← Ny113.out] at ho; have n0_ := Aside0.mk (hb); have n1_ := Aside0.mk (ho); clear HB; clear HO112; have HB := n0_; have HO115 := n1_; clear n0_ n1_; clear ho hb hg hat))
  go_ret
  exact ⟨_, y0_7, by (with_reducible repeat (first | apply Kd.R_alloc | apply Kd.R_drewN | apply Kd.R_drew)); exact HO115.out, bI HB.out⟩
 replace c4 := Bool.eq_false_iff.mpr c4; subst c4
 rw [if_neg (show ¬ (false = true) by decide)] at H
 have H' := Aside0.mk H; clear H
 go_enter Tryz.func145, Tryz.ntmps145
 go_wp2_with (first | ((with_reducible refine gate_callee (f := 171) rfl ?_); refine gB (some 9) Tryz.func171 #[.slice A0 l0.length c0, .int .i64 a1] ?_; (with_reducible refine (spec_SetHas.calls k _ _ l0 a1 false _ ?side1 ?side2 A3.out).mono ?_); (case side1 => exact cI HR0.out); (case side2 => exact HC0.out); rintro e w' ⟨rfl, ⟨nd, rfl⟩⟩; refine ⟨_, rfl, ?_⟩))
 go_loopg [5] k (fun kq v5 w' => ∃ (x5_1 : Int), v5 = .int .i64 x5_1 ∧ Aside0 (spec_SetAdd.l0 kq l0 a1 x5_1 = some r) ∧ Aside0 (kq ≤ k) ∧ Aside0 (Below w.heap.size w w'))
 case atStart => exact ⟨(0), y0_13, H', ⟨Nat.le_refl _⟩, ⟨bI HB.out⟩⟩
 case round =>
  clear H'
  try clear c1
  try clear p2
  try clear c4
  try clear c5
  obtain ⟨x5_1, rfl, HA, HK1, HB⟩ := hrel; cases gk with
  | zero => exact absurd HA.out (by simp [spec_SetAdd.l0])
  | succ k1 =>
   have H := HA.out; clear HA
   simp only [spec_SetAdd.l0] at H
   by_cases c9 : x5_1 < (l0.length : Int)
   ·
    rw [if_pos c9] at H
    have c9b0 : decide (x5_1 < (l0.length : Int)) = true := decide_eq_true c9; clear c9
    by_cases c10 : 0 ≤ x5_1
    rotate_left
    ·
     rw [if_neg c10] at H
     exact absurd H (by simp)
    rw [if_pos c10] at H
    have c10b0 : decide (0 ≤ x5_1) = true := decide_eq_true c10; clear c10
    by_cases c11 : (rd l0 x5_1) < a1
    ·
     rw [if_pos c11] at H
     have c11b0 : decide ((rd l0 x5_1) < a1) = true := decide_eq_true c11; clear c11; have H' := Aside0.mk H; clear H; have p116 : 0 ≤ (x5_1 : Int) := of_decide_eq_true y0_12; have q116 : x5_1 < (l0.length : Int) := of_decide_eq_true y0_12; obtain ⟨ad116, e116, hx116_0⟩ := Kd.at_int HR0.out x5_1 p116 q116; cases e116; replace hx116_0 := bx HB hx116_0; replace p116 := eq_true p116; replace q116 := eq_true q116
     go_wp2
     go_roundg k1
     case measure => have := HK1.out; omega
     case rel => exact ⟨(wrap64 (x5_1 + 1)), y0_13, H', ⟨y0_16⟩, ⟨bI HB.out⟩⟩
    rw [if_neg c11] at H
    have c11b0 : decide ((rd l0 x5_1) < a1) = false := decide_eq_false c11; clear c11; obtain ⟨y117, hy117⟩ : ∃ y_ : List Int, y_ = (([] : List Int)) := ⟨_, rfl⟩
    replace H : (if x5_1 ≤ (l0.length : Int) then (if y117.length + (l0.take (x5_1 : Int).toNat).length < 17592186044416 then ((some (y117 ++ (l0.take (x5_1 : Int).toNat) : List Int)).bind fun y121 => (if y121.length < 17592186044416 then ((some (y121 ++ [a1] : List Int)).bind fun y124 => (if y124.length + (l0.drop (x5_1 : Int).toNat).length < 17592186044416 then (some (y124 ++ (l0.drop (x5_1 : Int).toNat))) else (none))) else (none))) else (none)) else (none)) = some r := by first | (rw [hy117]; with_reducible exact H) | (have H2_ := (Option.bind_some _ _).symm.trans H; rw [hy117]; with_reducible exact H2_) | (have H2_ := (Option.bind_some _ _).symm.trans H; with_reducible exact H2_) | with_reducible exact H | (rw [hy117]; exact H) | exact H
    have Ny117 := Aside0.mk hy117; clear hy117; have c12b0 := eq_true (of_decide_eq_true y0_12 : 0 ≤ x5_1)
    by_cases c13 : x5_1 ≤ (l0.length : Int)
    rotate_left
    ·
     rw [if_neg c13] at H
     exact absurd H (by simp)
    rw [if_pos c13] at H
    have c13b0 := eq_true c13; have c13b1 : decide (x5_1 ≤ (l0.length : Int)) = true := decide_eq_true c13; clear c13
    by_cases c14 : y117.length + (l0.take (x5_1 : Int).toNat).length < 17592186044416
    rotate_left
    ·
     rw [if_neg c14] at H
     exact absurd H (by simp)
    rw [if_pos c14] at H
    have LMc14 := Aside0.mk c14; clear c14; obtain ⟨y121, hy121⟩ : ∃ y_ : List Int, y_ = (y117 ++ (l0.take (x5_1 : Int).toNat)) := ⟨_, rfl⟩
    replace H : (if y121.length < 17592186044416 then ((some (y121 ++ [a1] : List Int)).bind fun y124 => (if y124.length + (l0.drop (x5_1 : Int).toNat).length < 17592186044416 then (some (y124 ++ (l0.drop (x5_1 : Int).toNat))) else (none))) else (none)) = some r := by first | (rw [hy121]; with_reducible exact H) | (have H2_ := (Option.bind_some _ _).symm.trans H; rw [hy121]; with_reducible exact H2_) | (have H2_ := (Option.bind_some _ _).symm.trans H; with_reducible exact H2_) | with_reducible exact H | (rw [hy121]; exact H) | exact H
    have Ny121 := Aside0.mk hy121; clear hy121
    by_cases c15 : y121.length < 17592186044416
    rotate_left
    ·
     rw [if_neg c15] at H
     exact absurd H (by simp)
    rw [if_pos c15] at H
    have LMc15 := Aside0.mk c15; clear c15; obtain ⟨y124, hy124⟩ : ∃ y_ : List Int, y_ = (y121 ++ [a1]) := ⟨_, rfl⟩
    replace H : (if y124.length + (l0.drop (x5_1 : Int).toNat).length < 17592186044416 then (some (y124 ++ (l0.drop (x5_1 : Int).toNat))) else (none)) = some r := by first | (rw [hy124]; with_reducible exact H) | (have H2_ := (Option.bind_some _ _).symm.trans H; rw [hy124]; with_reducible exact H2_) | (have H2_ := (Option.bind_some _ _).symm.trans H; with_reducible exact H2_) | with_reducible exact H | (rw [hy124]; exact H) | exact H
    have Ny124 := Aside0.mk hy124; clear hy124; have c16b0 := eq_true (of_decide_eq_true y0_12 : 0 ≤ x5_1); have c17b0 := eq_true (of_decide_eq_true y0_12 : x5_1 ≤ (l0.length : Int))
    by_cases c18 : y124.length + (l0.drop (x5_1 : Int).toNat).length < 17592186044416
    rotate_left
    ·
     rw [if_neg c18] at H
     exact absurd H (by simp)
    rw [if_pos c18] at H
    have LMc18 := Aside0.mk c18; clear c18; obtain ⟨y128, hy128⟩ : ∃ y_ : List Int, y_ = (y124 ++ (l0.drop (x5_1 : Int).toNat)) := ⟨_, rfl⟩
    replace H : (some y128) = some r := by first | (rw [hy128]; with_reducible exact H) | (have H2_ := (Option.bind_some _ _).symm.trans H; rw [hy128]; with_reducible exact H2_) | (have H2_ := (Option.bind_some _ _).symm.trans H; with_reducible exact H2_) | with_reducible exact H | (rw [hy128]; exact H) | exact H
    have Ny128 := Aside0.mk hy128; clear hy128; obtain rfl := Option.some.inj H; have p116 : 0 ≤ (x5_1 : Int) := of_decide_eq_true y0_12; have q116 : x5_1 < (l0.length : Int) := of_decide_eq_true y0_12; obtain ⟨ad116, e116, hx116_0⟩ := Kd.at_int HR0.out x5_1 p116 q116; cases e116; replace hx116_0 := bx HB hx116_0; replace p116 := eq_true p116; replace q116 := eq_true q116
    go_wp2_with (first | ((with_reducible refine gate_dst (N := 27) rfl ?_); refine Kd.R_lit (Kd.int .i64) _ 3 ?hg (N := 27) ?hd (xs := ([] : List Int)) (inner := []) (ok := fun _ => True) (okp := fun _ => True) ?hr ?hp (fun _ hk => hk) trivial (Below.refl _ _) (Nat.le_refl _) (by simp) ?_; (case hd => rfl); (case hg => rfl); (case hr => first | (go_simp; done) | (go_simp; rfl)); (case hp => exact (Reps.none _ _)); intro v118 w19 ho20 hb hg_ hnew_; clear hg_ hnew_; (first | rw [← Ny117.out] at ho20 | (simp only [Int.reduceToNat] at ho20; rw [← Ny117.out] at ho20)); have HO119 := Aside0.mk (Kd.R_lower ho20 (below_size (bI HB.out))); replace HB := bs HB hb; clear hb ho20; obtain ⟨i021, hi021, _, hsz21, _⟩ := info_parts info3; obtain ⟨hcut21, hA21, hC21⟩ := print_take_of (P := Tryz.prog) (Value.int .i64) 0 25 3 .i64 Tryz.underlying25 hi021 hsz21 (some ad116) c0 l0 x5_1 (of_decide_eq_true y0_12) (of_decide_eq_true y0_12) HC0.out; have HR120 := Aside0.mk (Kd.C_of_reads (h1 := fun _ => rfl) (hA21 _ (Kd.reads_of_C HR0.out))); have HC120 := Aside0.mk hC21; clear hA21 hC21 hi021 hsz21) | ((with_reducible refine gate_builtin (b := .append) (xs := #[.tmp 27, .tmp 30]) rfl ?_); at_builtin; refine Kd.R_append_rows (Kd.int .i64) (w0 := w) w.heap.size rfl (.tmp 27) (.tmp 30) 25 3 (.int .i64 0) 8 rfl Tryz.underlying25 info3 rfl (by decide) (by omega) v118 y117 (l0.take (x5_1 : Int).toNat) _ _ _ (fun _ => True) (fun _ => False) rfl rfl ?aO ?aR (fun _ _ h => h) (fun _ h => h.elim) ?aF ?aB ?aS ?aL ?_; (case aR => first | exact cE (show (l0.take (x5_1 : Int).toNat).length = x5_1.toNat from y0_0) (Kd.C_below HR120.out HB.out) | (exact ch HR120 HB)); (case aB => exact (bI HB.out)); (case aF => exact (fun _ _ => trivial)); (case aO => exact (rI HO119.out)); (case aS => exact (below_size (bI HB.out))); (case aL => have := LMc14.out; have hlx_ := (show (l0.take (x5_1 : Int).toNat).length = x5_1.toNat from y0_0); omega); intro v122 w22 ho hb hg hat; rw [← Ny121.out] at ho; have n0_ := Aside0.mk (hb); have n1_ := Aside0.mk (ho); clear HB; clear HO119; have HB := n0_; have HO123 := n1_; clear n0_ n1_; clear ho hb hg hat) | ((with_reducible refine gate_builtin (b := .append) (xs := #[.tmp 32, .tmp 34]) rfl ?_); at_builtin; refine Kd.R_append (Kd.int .i64) (w0 := w) w.heap.size rfl (.tmp 32) (.tmp 34) 25 3 (.int .i64 0) 8 rfl Tryz.underlying25 info3 rfl (by decide) (by omega) v122 y121 a1 [.int .i64 a1] (fun _ => True) (fun _ => False) rfl rfl ?aP (fun _ hk => hk.elim) ?aF ?aO ?aB ?aS ?aL ?_; (case aP => exact rfl); (case aB => exact (bI HB.out)); (case aF => exact (fun _ _ => trivial)); (case aO => exact (rI HO123.out)); (case aS => exact (below_size (bI HB.out))); (case aL => have := LMc15.out; omega); intro v125 w23 ho hb hg hat; rw [← Ny124.out] at ho; have n0_ := Aside0.mk (hb); have n1_ := Aside0.mk (ho); clear HB; clear HO123; have HB := n0_; have HO126 := n1_; clear n0_ n1_; clear ho hb hg hat; obtain ⟨i024, hi024, _, hsz24, _⟩ := info_parts info3; obtain ⟨A24, hcut24, hA24, hC24⟩ := print_drop_of (P := Tryz.prog) (Value.int .i64) 0 25 3 .i64 Tryz.underlying25 hi024 hsz24 (some ad116) c0 l0 x5_1 (of_decide_eq_true y0_12) (of_decide_eq_true y0_12) HC0.out; have HR127 := Aside0.mk (Kd.C_of_reads (h1 := fun _ => rfl) (hA24 _ (Kd.reads_of_C HR0.out))); have HC127 := Aside0.mk hC24; clear hA24 hC24 hi024 hsz24) | ((with_reducible refine gate_builtin (b := .append) (xs := #[.tmp 36, .tmp 39]) rfl ?_); at_builtin; refine Kd.R_append_rows (Kd.int .i64) (w0 := w) w.heap.size rfl (.tmp 36) (.tmp 39) 25 3 (.int .i64 0) 8 rfl Tryz.underlying25 info3 rfl (by decide) (by omega) v125 y124 (l0.drop (x5_1 : Int).toNat) _ _ _ (fun _ => True) (fun _ => False) rfl rfl ?aO ?aR (fun _ _ h => h) (fun _ h => h.elim) ?aF ?aB ?aS ?aL ?_; (case aR => first | exact cE (show (l0.drop (x5_1 : Int).toNat).length = (l0.length - x5_1.toNat) from List.length_drop) (Kd.C_below HR127.out HB.out) | (exact ch HR127 HB)); (case aB => exact (bI HB.out)); (case aF => exact (fun _ _ => trivial)); (case aO => exact (rI HO126.out)); (case aS => exact (below_size (bI HB.out))); (case aL => have := LMc18.out; have hlx_ := (show (l0.drop (x5_1 : Int).toNat).length = (l0.length - x5_1.toNat) from List.length_drop); omega); intro v129 w25 ho hb hg hat; rw [← Ny128.out] at ho; have n0_ := Aside0.mk (hb); have n1_ := Aside0.mk (ho); clear HB; clear HO126; have HB := n0_; have HO130 := n1_; clear n0_ n1_; clear ho hb hg hat))
    go_ret
    exact ⟨_, y0_7, by (with_reducible repeat (first | apply Kd.R_alloc | apply Kd.R_drewN | apply Kd.R_drew)); exact HO130.out, bI HB.out⟩
   rw [if_neg c9] at H
   have c9b0 : decide (x5_1 < (l0.length : Int)) = false := decide_eq_false c9; clear c9; obtain ⟨y131, hy131⟩ : ∃ y_ : List Int, y_ = (([] : List Int)) := ⟨_, rfl⟩
   replace H : (if 0 ≤ x5_1 then (if x5_1 ≤ (l0.length : Int) then (if y131.length + (l0.take (x5_1 : Int).toNat).length < 17592186044416 then ((some (y131 ++ (l0.take (x5_1 : Int).toNat) : List Int)).bind fun y135 => (if y135.length < 17592186044416 then ((some (y135 ++ [a1] : List Int)).bind fun y138 => (if y138.length + (l0.drop (x5_1 : Int).toNat).length < 17592186044416 then (some (y138 ++ (l0.drop (x5_1 : Int).toNat))) else (none))) else (none))) else (none)) else (none)) else (none)) = some r := by first | (rw [hy131]; with_reducible exact H) | (have H2_ := (Option.bind_some _ _).symm.trans H; rw [hy131]; with_reducible exact H2_) | (have H2_ := (Option.bind_some _ _).symm.trans H; with_reducible exact H2_) | with_reducible exact H | (rw [hy131]; exact H) | exact H
   have Ny131 := Aside0.mk hy131; clear hy131
   by_cases c26 : 0 ≤ x5_1
   ·
    rw [if_pos c26] at H
    have c26b0 := eq_true c26; have c26b1 : decide (0 ≤ x5_1) = true := decide_eq_true c26; clear c26
    by_cases c27 : x5_1 ≤ (l0.length : Int)
    rotate_left
    ·
     rw [if_neg c27] at H
     exact absurd H (by simp)
    rw [if_pos c27] at H
    have c27b0 := eq_true c27; have c27b1 : decide (x5_1 ≤ (l0.length : Int)) = true := decide_eq_true c27; clear c27
    by_cases c28 : y131.length + (l0.take (x5_1 : Int).toNat).length < 17592186044416
    rotate_left
    ·
     rw [if_neg c28] at H
     exact absurd H (by simp)
    rw [if_pos c28] at H
    have LMc28 := Aside0.mk c28; clear c28; obtain ⟨y135, hy135⟩ : ∃ y_ : List Int, y_ = (y131 ++ (l0.take (x5_1 : Int).toNat)) := ⟨_, rfl⟩
    replace H : (if y135.length < 17592186044416 then ((some (y135 ++ [a1] : List Int)).bind fun y138 => (if y138.length + (l0.drop (x5_1 : Int).toNat).length < 17592186044416 then (some (y138 ++ (l0.drop (x5_1 : Int).toNat))) else (none))) else (none)) = some r := by first | (rw [hy135]; with_reducible exact H) | (have H2_ := (Option.bind_some _ _).symm.trans H; rw [hy135]; with_reducible exact H2_) | (have H2_ := (Option.bind_some _ _).symm.trans H; with_reducible exact H2_) | with_reducible exact H | (rw [hy135]; exact H) | exact H
    have Ny135 := Aside0.mk hy135; clear hy135
    by_cases c29 : y135.length < 17592186044416
    rotate_left
    ·
     rw [if_neg c29] at H
     exact absurd H (by simp)
    rw [if_pos c29] at H
    have LMc29 := Aside0.mk c29; clear c29; obtain ⟨y138, hy138⟩ : ∃ y_ : List Int, y_ = (y135 ++ [a1]) := ⟨_, rfl⟩
    replace H : (if y138.length + (l0.drop (x5_1 : Int).toNat).length < 17592186044416 then (some (y138 ++ (l0.drop (x5_1 : Int).toNat))) else (none)) = some r := by first | (rw [hy138]; with_reducible exact H) | (have H2_ := (Option.bind_some _ _).symm.trans H; rw [hy138]; with_reducible exact H2_) | (have H2_ := (Option.bind_some _ _).symm.trans H; with_reducible exact H2_) | with_reducible exact H | (rw [hy138]; exact H) | exact H
    have Ny138 := Aside0.mk hy138; clear hy138; have c30b0 := eq_true (of_decide_eq_true y0_12 : 0 ≤ x5_1); have c31b0 := eq_true (of_decide_eq_true y0_12 : x5_1 ≤ (l0.length : Int))
    by_cases c32 : y138.length + (l0.drop (x5_1 : Int).toNat).length < 17592186044416
    rotate_left
    ·
     rw [if_neg c32] at H
     exact absurd H (by simp)
    rw [if_pos c32] at H
    have LMc32 := Aside0.mk c32; clear c32; obtain ⟨y142, hy142⟩ : ∃ y_ : List Int, y_ = (y138 ++ (l0.drop (x5_1 : Int).toNat)) := ⟨_, rfl⟩
    replace H : (some y142) = some r := by first | (rw [hy142]; with_reducible exact H) | (have H2_ := (Option.bind_some _ _).symm.trans H; rw [hy142]; with_reducible exact H2_) | (have H2_ := (Option.bind_some _ _).symm.trans H; with_reducible exact H2_) | with_reducible exact H | (rw [hy142]; exact H) | exact H
    have Ny142 := Aside0.mk hy142; clear hy142; obtain rfl := Option.some.inj H
    go_wp2_with (first | ((with_reducible refine gate_dst (N := 27) rfl ?_); refine Kd.R_lit (Kd.int .i64) _ 3 ?hg (N := 27) ?hd (xs := ([] : List Int)) (inner := []) (ok := fun _ => True) (okp := fun _ => True) ?hr ?hp (fun _ hk => hk) trivial (Below.refl _ _) (Nat.le_refl _) (by simp) ?_; (case hd => rfl); (case hg => rfl); (case hr => first | (go_simp; done) | (go_simp; rfl)); (case hp => exact (Reps.none _ _)); intro v132 w33 ho34 hb hg_ hnew_; clear hg_ hnew_; (first | rw [← Ny131.out] at ho34 | (simp only [Int.reduceToNat] at ho34; rw [← Ny131.out] at ho34)); have HO133 := Aside0.mk (Kd.R_lower ho34 (below_size (bI HB.out))); replace HB := bs HB hb; clear hb ho34; obtain ⟨i035, hi035, _, hsz35, _⟩ := info_parts info3; obtain ⟨hcut35, hA35, hC35⟩ := print_take_of (P := Tryz.prog) (Value.int .i64) 0 25 3 .i64 Tryz.underlying25 hi035 hsz35 A0 c0 l0 x5_1 (of_decide_eq_true y0_12) (of_decide_eq_true y0_12) HC0.out; have HR134 := Aside0.mk (Kd.C_of_reads (h1 := fun _ => rfl) (hA35 _ (Kd.reads_of_C HR0.out))); have HC134 := Aside0.mk hC35; clear hA35 hC35 hi035 hsz35) | ((with_reducible refine gate_builtin (b := .append) (xs := #[.tmp 27, .tmp 30]) rfl ?_); at_builtin; refine Kd.R_append_rows (Kd.int .i64) (w0 := w) w.heap.size rfl (.tmp 27) (.tmp 30) 25 3 (.int .i64 0) 8 rfl Tryz.underlying25 info3 rfl (by decide) (by omega) v132 y131 (l0.take (x5_1 : Int).toNat) _ _ _ (fun _ => True) (fun _ => False) rfl rfl ?aO ?aR (fun _ _ h => h) (fun _ h => h.elim) ?aF ?aB ?aS ?aL ?_; (case aR => first | exact cE (show (l0.take (x5_1 : Int).toNat).length = x5_1.toNat from y0_0) (Kd.C_below HR134.out HB.out) | (exact ch HR134 HB)); (case aB => exact (bI HB.out)); (case aF => exact (fun _ _ => trivial)); (case aO => exact (rI HO133.out)); (case aS => exact (below_size (bI HB.out))); (case aL => have := LMc28.out; have hlx_ := (show (l0.take (x5_1 : Int).toNat).length = x5_1.toNat from y0_0); omega); intro v136 w36 ho hb hg hat; rw [← Ny135.out] at ho; have n0_ := Aside0.mk (hb); have n1_ := Aside0.mk (ho); clear HB; clear HO133; have HB := n0_; have HO137 := n1_; clear n0_ n1_; clear ho hb hg hat) | ((with_reducible refine gate_builtin (b := .append) (xs := #[.tmp 32, .tmp 34]) rfl ?_); at_builtin; refine Kd.R_append (Kd.int .i64) (w0 := w) w.heap.size rfl (.tmp 32) (.tmp 34) 25 3 (.int .i64 0) 8 rfl Tryz.underlying25 info3 rfl (by decide) (by omega) v136 y135 a1 [.int .i64 a1] (fun _ => True) (fun _ => False) rfl rfl ?aP (fun _ hk => hk.elim) ?aF ?aO ?aB ?aS ?aL ?_; (case aP => exact rfl); (case aB => exact (bI HB.out)); (case aF => exact (fun _ _ => trivial)); (case aO => exact (rI HO137.out)); (case aS => exact (below_size (bI HB.out))); (case aL => have := LMc29.out; omega); intro v139 w37 ho hb hg hat; rw [← Ny138.out] at ho; have n0_ := Aside0.mk (hb); have n1_ := Aside0.mk (ho); clear HB; clear HO137; have HB := n0_; have HO140 := n1_; clear n0_ n1_; clear ho hb hg hat; obtain ⟨i038, hi038, _, hsz38, _⟩ := info_parts info3; obtain ⟨A38, hcut38, hA38, hC38⟩ := print_drop_of (P := Tryz.prog) (Value.int .i64) 0 25 3 .i64 Tryz.underlying25 hi038 hsz38 A0 c0 l0 x5_1 (of_decide_eq_true y0_12) (of_decide_eq_true y0_12) HC0.out; have HR141 := Aside0.mk (Kd.C_of_reads (h1 := fun _ => rfl) (hA38 _ (Kd.reads_of_C HR0.out))); have HC141 := Aside0.mk hC38; clear hA38 hC38 hi038 hsz38) | ((with_reducible refine gate_builtin (b := .append) (xs := #[.tmp 36, .tmp 39]) rfl ?_); at_builtin; refine Kd.R_append_rows (Kd.int .i64) (w0 := w) w.heap.size rfl (.tmp 36) (.tmp 39) 25 3 (.int .i64 0) 8 rfl Tryz.underlying25 info3 rfl (by decide) (by omega) v139 y138 (l0.drop (x5_1 : Int).toNat) _ _ _ (fun _ => True) (fun _ => False) rfl rfl ?aO ?aR (fun _ _ h => h) (fun _ h => h.elim) ?aF ?aB ?aS ?aL ?_; (case aR => first | exact cE (show (l0.drop (x5_1 : Int).toNat).length = (l0.length - x5_1.toNat) from List.length_drop) (Kd.C_below HR141.out HB.out) | (exact ch HR141 HB)); (case aB => exact (bI HB.out)); (case aF => exact (fun _ _ => trivial)); (case aO => exact (rI HO140.out)); (case aS => exact (below_size (bI HB.out))); (case aL => have := LMc32.out; have hlx_ := (show (l0.drop (x5_1 : Int).toNat).length = (l0.length - x5_1.toNat) from List.length_drop); omega); intro v143 w39 ho hb hg hat; rw [← Ny142.out] at ho; have n0_ := Aside0.mk (hb); have n1_ := Aside0.mk (ho); clear HB; clear HO140; have HB := n0_; have HO144 := n1_; clear n0_ n1_; clear ho hb hg hat))
    go_ret
    exact ⟨_, y0_7, by (with_reducible repeat (first | apply Kd.R_alloc | apply Kd.R_drewN | apply Kd.R_drew)); exact HO144.out, bI HB.out⟩
   rw [if_neg c26] at H
   exact absurd H (by simp)

/-! ### spec_SetJoin: function 95 -/
mutual
def spec_SetJoin.l0 : Nat → List Int → List Int → List Int → Int → Option (List Int)
 | 0, _, _, _, _ => none
 | k + 1, x0, x1, x5, x6 => if x6 < (x0.length : Int) then (if 0 ≤ x6 then ((spec_SetAdd.f k x5 (rd x0 x6)).bind fun t149 => (spec_SetJoin.l0 k x0 x1 t149 (wrap64 (x6 + 1)))) else (none)) else (spec_SetJoin.l1 k x1 x5 0)
def spec_SetJoin.l1 : Nat → List Int → List Int → Int → Option (List Int)
 | 0, _, _, _ => none
 | k + 1, x1, x5, x7 => if x7 < (x1.length : Int) then (if 0 ≤ x7 then ((spec_SetAdd.f k x5 (rd x1 x7)).bind fun t153 => (spec_SetJoin.l1 k x1 t153 (wrap64 (x7 + 1)))) else (none)) else (some x5)
end
def spec_SetJoin.f (k : Nat) (l0 : List Int) (l1 : List Int) : Option (List Int) := spec_SetJoin.l0 k l0 l1 (([] : List Int)) 0
theorem spec_SetJoin.mono_l : ∀ k, (∀ y0 y1 y2 y3, LeO (spec_SetJoin.l0 k y0 y1 y2 y3) (spec_SetJoin.l0 (k + 1) y0 y1 y2 y3)) ∧ (∀ y0 y1 y2, LeO (spec_SetJoin.l1 k y0 y1 y2) (spec_SetJoin.l1 (k + 1) y0 y1 y2))
 | 0 => ⟨fun _ _ _ _ r h => by simp [spec_SetJoin.l0] at h, fun _ _ _ r h => by simp [spec_SetJoin.l1] at h⟩
 | k + 1 => by
  obtain ⟨ih0, ih1⟩ := spec_SetJoin.mono_l k
  refine ⟨?_, ?_⟩
  ·
   intro y0 y1 y2 y3
   unfold spec_SetJoin.l0
   repeat' first | (with_reducible exact ih0 _ _ _ _) | (with_reducible exact ih1 _ _ _) | (with_reducible exact spec_SetAdd.mono _ _ _) | (with_reducible exact LeO.refl _) | (with_reducible exact LeO.none _) | (with_reducible refine LeO.ite ?_ ?_) | (with_reducible refine LeO.bind ?_ (fun _ => ?_))
  intro y0 y1 y2
  unfold spec_SetJoin.l1
  repeat' first | (with_reducible exact ih0 _ _ _ _) | (with_reducible exact ih1 _ _ _) | (with_reducible exact spec_SetAdd.mono _ _ _) | (with_reducible exact LeO.refl _) | (with_reducible exact LeO.none _) | (with_reducible refine LeO.ite ?_ ?_) | (with_reducible refine LeO.bind ?_ (fun _ => ?_))
theorem spec_SetJoin.mono : ∀ a0 a1 k, LeO (spec_SetJoin.f k a0 a1) (spec_SetJoin.f (k + 1) a0 a1) := by
 intro a0 a1 k
 obtain ⟨ih0, ih1⟩ := spec_SetJoin.mono_l k
 unfold spec_SetJoin.f
 repeat' first | (with_reducible exact ih0 _ _ _ _) | (with_reducible exact ih1 _ _ _) | (with_reducible exact spec_SetAdd.mono _ _ _) | (with_reducible exact LeO.refl _) | (with_reducible exact LeO.none _) | (with_reducible refine LeO.ite ?_ ?_) | (with_reducible refine LeO.bind ?_ (fun _ => ?_))
set_option maxHeartbeats 8000000 in
set_option maxRecDepth 100000 in
theorem spec_SetJoin.calls (k : Nat) (A0 : Option Addr) (c0 : Nat) (l0 : List Int) (A1 : Option Addr) (c1 : Nat) (l1 : List Int) (r : List Int) (w : World) (hr0 : Kd.C (Kd.int .i64) w A0 l0.length l0) (hc0 : l0.length ≤ c0) (hr1 : Kd.C (Kd.int .i64) w A1 l1.length l1) (hc1 : l1.length ≤ c1) (h : spec_SetJoin.f k l0 l1 = some r) :
  Calls Tryz.prog 95 #[.slice A0 l0.length c0, .slice A1 l1.length c1] w fun e w' => ∃ v0_ : Value, e = .returned (v0_) ∧ Kd.R (Kd.int .i64) 3 w' w.heap.size (fun _ => True) v0_ r ∧ Below w.heap.size w w' := by
 have HR0 := Aside0.mk hr0; have HC0 := Aside0.mk hc0; clear hr0 hc0; have HR1 := Aside0.mk hr1; have HC1 := Aside0.mk hc1; clear hr1 hc1; have HB := Aside0.mk (Below.refl w.heap.size w); have H := h; unfold spec_SetJoin.f at H; clear h; obtain ⟨y145, hy145⟩ : ∃ y_ : List Int, y_ = (([] : List Int)) := ⟨_, rfl⟩
 replace H : (spec_SetJoin.l0 k l0 l1 y145 0) = some r := by first | (rw [hy145]; with_reducible exact H) | (have H2_ := (Option.bind_some _ _).symm.trans H; rw [hy145]; with_reducible exact H2_) | (have H2_ := (Option.bind_some _ _).symm.trans H; with_reducible exact H2_) | with_reducible exact H | (rw [hy145]; exact H) | exact H
 have Ny145 := Aside0.mk hy145; clear hy145; have H' := Aside0.mk H; clear H
 go_enter Tryz.func95, Tryz.ntmps95
 go_wp2_with (first | ((with_reducible refine gate_dst (N := 8) rfl ?_); refine Kd.R_lit (Kd.int .i64) _ 3 ?hg (N := 8) ?hd (xs := ([] : List Int)) (inner := []) (ok := fun _ => True) (okp := fun _ => True) ?hr ?hp (fun _ hk => hk) trivial (Below.refl _ _) (Nat.le_refl _) (by simp) ?_; (case hd => rfl); (case hg => rfl); (case hr => first | (go_simp; done) | (go_simp; rfl)); (case hp => exact (Reps.none _ _)); intro v146 w3 ho4 hb hg_ hnew_; clear hg_ hnew_; (first | rw [← Ny145.out] at ho4 | (simp only [Int.reduceToNat] at ho4; rw [← Ny145.out] at ho4)); have HO147 := Aside0.mk (Kd.R_lower ho4 (below_size (bI HB.out))); replace HB := bs HB hb; clear hb ho4))
 go_loopg [5, 6] k (fun kq v5 v6 w' => ∃ (x5_1 : List Int) (x6_1 : Int), v6 = .int .i64 x6_1 ∧ Aside0 (spec_SetJoin.l0 kq l0 l1 x5_1 x6_1 = some r) ∧ Aside0 (kq ≤ k) ∧ Aside0 (Kd.R (Kd.int .i64) 3 w' w.heap.size (fun _ => True) v5 x5_1) ∧ Aside0 (Below w.heap.size w w'))
 case atStart => exact ⟨(y145), (0), y0_13, H', ⟨Nat.le_refl _⟩, ⟨by (with_reducible repeat (first | apply Kd.R_alloc | apply Kd.R_drewN | apply Kd.R_drew)); exact HO147.out⟩, ⟨bI HB.out⟩⟩
 case round =>
  clear H'
  try clear c1
  try clear p2
  obtain ⟨x5_1, x6_1, rfl, HA, HK1, HO_5, HB⟩ := hrel; cases gk with
  | zero => exact absurd HA.out (by simp [spec_SetJoin.l0])
  | succ k1 =>
   have H := HA.out; clear HA
   simp only [spec_SetJoin.l0] at H
   by_cases c5 : x6_1 < (l0.length : Int)
   ·
    rw [if_pos c5] at H
    have c5b0 : decide (x6_1 < (l0.length : Int)) = true := decide_eq_true c5; clear c5
    by_cases c6 : 0 ≤ x6_1
    rotate_left
    ·
     rw [if_neg c6] at H
     exact absurd H (by simp)
    rw [if_pos c6] at H
    have c6b0 : decide (0 ≤ x6_1) = true := decide_eq_true c6; clear c6; obtain ⟨t149, A7, H⟩ := oB H; (try dsimp only at H); have H' := Aside0.mk H; clear H; have p148 : 0 ≤ (x6_1 : Int) := of_decide_eq_true y0_12; have q148 : x6_1 < (l0.length : Int) := of_decide_eq_true y0_12; obtain ⟨ad148, e148, hx148_0⟩ := Kd.at_int HR0.out x6_1 p148 q148; cases e148; replace hx148_0 := bx HB hx148_0; replace p148 := eq_true p148; replace q148 := eq_true q148; obtain ⟨Ao8, co8, eo8⟩ := Kd.R_slice HO_5.out; subst eo8
    go_wp2_with (first | ((with_reducible refine gate_callee (f := 145) rfl ?_); refine gB (some 20) Tryz.func145 #[.slice Ao8 x5_1.length co8, .int .i64 (rd l0 x6_1)] ?_; (with_reducible refine (spec_SetAdd.calls k1 _ _ x5_1 (rd l0 x6_1) t149 _ ?side1 ?side2 A7.out).mono ?_); (case side1 => repeat (first | exact (Kd.R_reads' HO_5.out).2.2 | (with_reducible refine Kd.C_alloc ?_ _) | (with_reducible refine Kd.C_drewN ?_ _) | (with_reducible refine Kd.C_drew ?_))); (case side2 => exact (Kd.R_reads' HO_5.out).2.1); rintro e w9 ⟨v150, rfl, ho0, hb⟩; refine ⟨_, rfl, ?_⟩; have HO151 := Aside0.mk (Kd.R_lower (Kd.R_new' ho0 (Kd.R_lt (rI HO_5.out))) (below_size (bI HB.out))); replace HO_5 := Aside0.mk (Kd.R_elder' (rI HO_5.out) (Kd.R_base ho0) hb); replace HB := bs HB hb; (try clear hb); (try clear ho0)))
    go_roundg k1
    case measure => have := HK1.out; omega
    case rel => exact ⟨(t149), (wrap64 (x6_1 + 1)), y0_13, H', ⟨y0_16⟩, ⟨by (with_reducible repeat (first | apply Kd.R_alloc | apply Kd.R_drewN | apply Kd.R_drew)); exact Kd.R_mono HO151.out (fun _ hk => trivial)⟩, ⟨bI HB.out⟩⟩
   rw [if_neg c5] at H
   have c5b0 : decide (x6_1 < (l0.length : Int)) = false := decide_eq_false c5; clear c5; have H' := Aside0.mk H; clear H
   go_wp2
   go_loopg [5, 7] k1 (fun kq v5 v7 w' => ∃ (x5_2 : List Int) (x7_2 : Int), v7 = .int .i64 x7_2 ∧ Aside0 (spec_SetJoin.l1 kq l1 x5_2 x7_2 = some r) ∧ Aside0 (kq ≤ k1) ∧ Aside0 (Kd.R (Kd.int .i64) 3 w' w.heap.size (fun _ => True) v5 x5_2) ∧ Aside0 (Below w.heap.size w w'))
   case atStart => exact ⟨(x5_1), (0), y0_13, H', ⟨Nat.le_refl _⟩, ⟨y0_5⟩, ⟨bI HB.out⟩⟩
   case round =>
    clear H'
    try clear c1
    try clear p1
    try clear q1
    try clear hx1
    try clear p2
    try clear c5
    try clear c5b0
    try clear c6
    try clear c6b0
    try clear p6
    try clear c9
    try clear hx148_0
    try clear p148
    try clear p2
    try clear q148
    obtain ⟨x5_2, x7_2, rfl, HA, HK2, HO_5, HB⟩ := hrel; cases gk with
    | zero => exact absurd HA.out (by simp [spec_SetJoin.l1])
    | succ k2 =>
     have H := HA.out; clear HA
     simp only [spec_SetJoin.l1] at H
     by_cases c10 : x7_2 < (l1.length : Int)
     ·
      rw [if_pos c10] at H
      have c10b0 : decide (x7_2 < (l1.length : Int)) = true := decide_eq_true c10; clear c10
      by_cases c11 : 0 ≤ x7_2
      rotate_left
      ·
       rw [if_neg c11] at H
       exact absurd H (by simp)
      rw [if_pos c11] at H
      have c11b0 : decide (0 ≤ x7_2) = true := decide_eq_true c11; clear c11; obtain ⟨t153, A12, H⟩ := oB H; (try dsimp only at H); have H' := Aside0.mk H; clear H; have p152 : 0 ≤ (x7_2 : Int) := of_decide_eq_true y0_12; have q152 : x7_2 < (l1.length : Int) := of_decide_eq_true y0_12; obtain ⟨ad152, e152, hx152_0⟩ := Kd.at_int HR1.out x7_2 p152 q152; cases e152; replace hx152_0 := bx HB hx152_0; replace p152 := eq_true p152; replace q152 := eq_true q152; obtain ⟨Ao13, co13, eo13⟩ := Kd.R_slice HO_5.out; subst eo13
      go_wp2_with (first | ((with_reducible refine gate_callee (f := 145) rfl ?_); refine gB (some 32) Tryz.func145 #[.slice Ao13 x5_2.length co13, .int .i64 (rd l1 x7_2)] ?_; (with_reducible refine (spec_SetAdd.calls k2 _ _ x5_2 (rd l1 x7_2) t153 _ ?side1 ?side2 A12.out).mono ?_); (case side1 => repeat (first | exact (Kd.R_reads' HO_5.out).2.2 | (with_reducible refine Kd.C_alloc ?_ _) | (with_reducible refine Kd.C_drewN ?_ _) | (with_reducible refine Kd.C_drew ?_))); (case side2 => exact (Kd.R_reads' HO_5.out).2.1); rintro e w14 ⟨v154, rfl, ho0, hb⟩; refine ⟨_, rfl, ?_⟩; have HO155 := Aside0.mk (Kd.R_lower (Kd.R_new' ho0 (Kd.R_lt (rI HO_5.out))) (below_size (bI HB.out))); replace HO_5 := Aside0.mk (Kd.R_elder' (rI HO_5.out) (Kd.R_base ho0) hb); replace HB := bs HB hb; (try clear hb); (try clear ho0)))
      go_roundg k2
      case measure => have := HK1.out; have := HK2.out; omega
      case rel => exact ⟨(t153), (wrap64 (x7_2 + 1)), y0_13, H', ⟨by have := HK1.out; have := HK2.out; omega⟩, ⟨by (with_reducible repeat (first | apply Kd.R_alloc | apply Kd.R_drewN | apply Kd.R_drew)); exact Kd.R_mono HO155.out (fun _ hk => trivial)⟩, ⟨bI HB.out⟩⟩
     rw [if_neg c10] at H
     have c10b0 : decide (x7_2 < (l1.length : Int)) = false := decide_eq_false c10; clear c10; obtain rfl := Option.some.inj H
     go_wp2
     go_ret
     exact ⟨_, y0_7, y0_5, bI HB.out⟩

end Go.Proofs.YtdmjhgogljhfkaaGreatDoor.PFnExactTableAdd
