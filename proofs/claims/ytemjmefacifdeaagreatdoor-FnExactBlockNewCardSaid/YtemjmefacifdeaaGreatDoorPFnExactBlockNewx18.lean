-- By a program of this session, out of the translation (the print of the kit, with turns of its own). Lean checks it.
import Derived.Test.YtemjmefacifdeaaGreatDoorPFnExactBlockNewx0
namespace Go.Proofs.YtemjmefacifdeaaGreatDoor.PFnExactBlockNew
open Go.RowKit Go.Proofs.YtemjmefacifdeaaGreatDoorW.PrintWords Go.Proofs.YtemjmefacifdeaaGreatDoorW.PrintLast Go.Proofs.YtemjmefacifdeaaGreatDoorW.PrintMore
attribute [local go_sem] max2_int min2_int max_two min_two max_three min_three max_four min_four   -- for this text's walks alone
set_option linter.unusedVariables false
set_option linter.unusedSimpArgs false

/-! ### laws_eqTx: function 85 -/
def laws_eqTx.f (a0_0 : Int) (a0_1 : Int) (a0_2 : Int) (a0_3 : Int) (a1_0 : Int) (a1_1 : Int) (a1_2 : Int) (a1_3 : Int) : Option (Bool) := if a0_0 = a1_0 then (if a0_1 = a1_1 then (if a0_2 = a1_2 then (if a0_3 = a1_3 then (some true) else (some false)) else (some false)) else (some false)) else (some false)
set_option maxHeartbeats 8000000 in
set_option maxRecDepth 100000 in
theorem laws_eqTx.calls (a0_0 : Int) (a0_1 : Int) (a0_2 : Int) (a0_3 : Int) (a1_0 : Int) (a1_1 : Int) (a1_2 : Int) (a1_3 : Int) (r : Bool) (w : World) (h : laws_eqTx.f a0_0 a0_1 a0_2 a0_3 a1_0 a1_1 a1_2 a1_3 = some r) :
  Calls Tryz.prog 85 #[.agg #[.int .i64 a0_0, .int .i64 a0_1, .int .i64 a0_2, .int .i64 a0_3], .agg #[.int .i64 a1_0, .int .i64 a1_1, .int .i64 a1_2, .int .i64 a1_3]] w fun e w' => e = .returned (.bool r) ∧ Below w.heap.size w w' := by
 have hu99 := Tryz.underlying99; have HB := Aside0.mk (Below.refl w.heap.size w); have H : (if a0_0 = a1_0 then (if a0_1 = a1_1 then (if a0_2 = a1_2 then (if a0_3 = a1_3 then (some true) else (some false)) else (some false)) else (some false)) else (some false)) = some r := h; clear h
 by_cases c3 : a0_0 = a1_0
 ·
  rw [if_pos c3] at H
  have c3b0 : (a0_0 == a1_0) = true := beq_iff_eq.mpr c3; have c3b1 : (a0_0 != a1_0) = false := bne_eq_false_iff_eq.mpr c3; clear c3
  by_cases c4 : a0_1 = a1_1
  ·
   rw [if_pos c4] at H
   have c4b0 : (a0_1 == a1_1) = true := beq_iff_eq.mpr c4; have c4b1 : (a0_1 != a1_1) = false := bne_eq_false_iff_eq.mpr c4; clear c4
   by_cases c5 : a0_2 = a1_2
   ·
    rw [if_pos c5] at H
    have c5b0 : (a0_2 == a1_2) = true := beq_iff_eq.mpr c5; have c5b1 : (a0_2 != a1_2) = false := bne_eq_false_iff_eq.mpr c5; clear c5
    by_cases c6 : a0_3 = a1_3
    ·
     rw [if_pos c6] at H
     have c6b0 : (a0_3 == a1_3) = true := beq_iff_eq.mpr c6; have c6b1 : (a0_3 != a1_3) = false := bne_eq_false_iff_eq.mpr c6; clear c6; obtain rfl := Option.some.inj H
     go_enter Tryz.func85, Tryz.ntmps85
     go_wp2_with (first | ((with_reducible refine gd 2 ?_); refine bA 2 #[.int .i64 a0_0, .int .i64 a0_1, .int .i64 a0_2, .int .i64 a0_3] 99 ?_; intro gb431 hg w7 hbox hb; have BK431 := Aside0.mk (hbox); have GW431 := bg hg HB; have GJ431 := gi GW431; have GE431 := GW431; replace HB := bs HB hb; clear hb hbox hg) | ((with_reducible refine gd 3 ?_); refine bA 3 #[.int .i64 a1_0, .int .i64 a1_1, .int .i64 a1_2, .int .i64 a1_3] 99 ?_; intro gb432 hg w8 hbox hb; have BK432 := Aside0.mk (hbox); have GW432 := bg hg HB; have GJ432 := gi GW432; have GE432 := GW432; replace HB := bs HB hb; have NB431_432 := b1 BK431 hg; have NI431_432 := ni NB431_432; have NB432_431 := b2 BK431 hg; have NI432_431 := ni NB432_431; replace BK431 := bk BK431 hb; clear hb hbox hg; have hnb9 := NB431_432.out; have hnc9 := NB432_431.out; obtain ⟨hcz10_0, hcz10_1, hcz10_2, hcz10_3, hfz10_0, hfz10_1, hfz10_2, hfz10_3⟩ := cs4 BK431; obtain ⟨hcz11_0, hcz11_1, hcz11_2, hcz11_3, hfz11_0, hfz11_1, hfz11_2, hfz11_3⟩ := cs4 BK432))
     go_ret
     exact ⟨y0_10, bI HB.out⟩
    rw [if_neg c6] at H
    have c6b0 : (a0_3 == a1_3) = false := beq_eq_false_iff_ne.mpr c6; have c6b1 : (a0_3 != a1_3) = true := bne_iff_ne.mpr c6; obtain rfl := Option.some.inj H
    go_enter Tryz.func85, Tryz.ntmps85
    go_wp2_with (first | ((with_reducible refine gd 2 ?_); refine bA 2 #[.int .i64 a0_0, .int .i64 a0_1, .int .i64 a0_2, .int .i64 a0_3] 99 ?_; intro gb431 hg w12 hbox hb; have BK431 := Aside0.mk (hbox); have GW431 := bg hg HB; have GJ431 := gi GW431; have GE431 := GW431; replace HB := bs HB hb; clear hb hbox hg) | ((with_reducible refine gd 3 ?_); refine bA 3 #[.int .i64 a1_0, .int .i64 a1_1, .int .i64 a1_2, .int .i64 a1_3] 99 ?_; intro gb432 hg w13 hbox hb; have BK432 := Aside0.mk (hbox); have GW432 := bg hg HB; have GJ432 := gi GW432; have GE432 := GW432; replace HB := bs HB hb; have NB431_432 := b1 BK431 hg; have NI431_432 := ni NB431_432; have NB432_431 := b2 BK431 hg; have NI432_431 := ni NB432_431; replace BK431 := bk BK431 hb; clear hb hbox hg; have hnb14 := NB431_432.out; have hnc14 := NB432_431.out; obtain ⟨hcz15_0, hcz15_1, hcz15_2, hcz15_3, hfz15_0, hfz15_1, hfz15_2, hfz15_3⟩ := cs4 BK431; obtain ⟨hcz16_0, hcz16_1, hcz16_2, hcz16_3, hfz16_0, hfz16_1, hfz16_2, hfz16_3⟩ := cs4 BK432))
    go_ret
    exact ⟨y0_10, bI HB.out⟩
   rw [if_neg c5] at H
   have c5b0 : (a0_2 == a1_2) = false := beq_eq_false_iff_ne.mpr c5; have c5b1 : (a0_2 != a1_2) = true := bne_iff_ne.mpr c5; obtain rfl := Option.some.inj H
   go_enter Tryz.func85, Tryz.ntmps85
   go_wp2_with (first | ((with_reducible refine gd 2 ?_); refine bA 2 #[.int .i64 a0_0, .int .i64 a0_1, .int .i64 a0_2, .int .i64 a0_3] 99 ?_; intro gb431 hg w17 hbox hb; have BK431 := Aside0.mk (hbox); have GW431 := bg hg HB; have GJ431 := gi GW431; have GE431 := GW431; replace HB := bs HB hb; clear hb hbox hg) | ((with_reducible refine gd 3 ?_); refine bA 3 #[.int .i64 a1_0, .int .i64 a1_1, .int .i64 a1_2, .int .i64 a1_3] 99 ?_; intro gb432 hg w18 hbox hb; have BK432 := Aside0.mk (hbox); have GW432 := bg hg HB; have GJ432 := gi GW432; have GE432 := GW432; replace HB := bs HB hb; have NB431_432 := b1 BK431 hg; have NI431_432 := ni NB431_432; have NB432_431 := b2 BK431 hg; have NI432_431 := ni NB432_431; replace BK431 := bk BK431 hb; clear hb hbox hg; have hnb19 := NB431_432.out; have hnc19 := NB432_431.out; obtain ⟨hcz20_0, hcz20_1, hcz20_2, hcz20_3, hfz20_0, hfz20_1, hfz20_2, hfz20_3⟩ := cs4 BK431; obtain ⟨hcz21_0, hcz21_1, hcz21_2, hcz21_3, hfz21_0, hfz21_1, hfz21_2, hfz21_3⟩ := cs4 BK432))
   go_ret
   exact ⟨y0_10, bI HB.out⟩
  rw [if_neg c4] at H
  have c4b0 : (a0_1 == a1_1) = false := beq_eq_false_iff_ne.mpr c4; have c4b1 : (a0_1 != a1_1) = true := bne_iff_ne.mpr c4; obtain rfl := Option.some.inj H
  go_enter Tryz.func85, Tryz.ntmps85
  go_wp2_with (first | ((with_reducible refine gd 2 ?_); refine bA 2 #[.int .i64 a0_0, .int .i64 a0_1, .int .i64 a0_2, .int .i64 a0_3] 99 ?_; intro gb431 hg w22 hbox hb; have BK431 := Aside0.mk (hbox); have GW431 := bg hg HB; have GJ431 := gi GW431; have GE431 := GW431; replace HB := bs HB hb; clear hb hbox hg) | ((with_reducible refine gd 3 ?_); refine bA 3 #[.int .i64 a1_0, .int .i64 a1_1, .int .i64 a1_2, .int .i64 a1_3] 99 ?_; intro gb432 hg w23 hbox hb; have BK432 := Aside0.mk (hbox); have GW432 := bg hg HB; have GJ432 := gi GW432; have GE432 := GW432; replace HB := bs HB hb; have NB431_432 := b1 BK431 hg; have NI431_432 := ni NB431_432; have NB432_431 := b2 BK431 hg; have NI432_431 := ni NB432_431; replace BK431 := bk BK431 hb; clear hb hbox hg; have hnb24 := NB431_432.out; have hnc24 := NB432_431.out; obtain ⟨hcz25_0, hcz25_1, hcz25_2, hcz25_3, hfz25_0, hfz25_1, hfz25_2, hfz25_3⟩ := cs4 BK431; obtain ⟨hcz26_0, hcz26_1, hcz26_2, hcz26_3, hfz26_0, hfz26_1, hfz26_2, hfz26_3⟩ := cs4 BK432))
  go_ret
  exact ⟨y0_10, bI HB.out⟩
 rw [if_neg c3] at H
 have c3b0 : (a0_0 == a1_0) = false := beq_eq_false_iff_ne.mpr c3; have c3b1 : (a0_0 != a1_0) = true := bne_iff_ne.mpr c3; obtain rfl := Option.some.inj H
 go_enter Tryz.func85, Tryz.ntmps85
 go_wp2_with (first | ((with_reducible refine gd 2 ?_); refine bA 2 #[.int .i64 a0_0, .int .i64 a0_1, .int .i64 a0_2, .int .i64 a0_3] 99 ?_; intro gb431 hg w27 hbox hb; have BK431 := Aside0.mk (hbox); have GW431 := bg hg HB; have GJ431 := gi GW431; have GE431 := GW431; replace HB := bs HB hb; clear hb hbox hg) | ((with_reducible refine gd 3 ?_); refine bA 3 #[.int .i64 a1_0, .int .i64 a1_1, .int .i64 a1_2, .int .i64 a1_3] 99 ?_; intro gb432 hg w28 hbox hb; have BK432 := Aside0.mk (hbox); have GW432 := bg hg HB; have GJ432 := gi GW432; have GE432 := GW432; replace HB := bs HB hb; have NB431_432 := b1 BK431 hg; have NI431_432 := ni NB431_432; have NB432_431 := b2 BK431 hg; have NI432_431 := ni NB432_431; replace BK431 := bk BK431 hb; clear hb hbox hg; have hnb29 := NB431_432.out; have hnc29 := NB432_431.out; obtain ⟨hcz30_0, hcz30_1, hcz30_2, hcz30_3, hfz30_0, hfz30_1, hfz30_2, hfz30_3⟩ := cs4 BK431; obtain ⟨hcz31_0, hcz31_1, hcz31_2, hcz31_3, hfz31_0, hfz31_1, hfz31_2, hfz31_3⟩ := cs4 BK432))
 go_ret
 exact ⟨y0_10, bI HB.out⟩

/-! ### laws_eqTxS: function 33 -/
def laws_eqTxS.l0 : Nat → List (S99) → List (S99) → Int → Option (Bool)
 | 0, _, _, _ => none
 | k + 1, x0, x1, x5 => if x5 < (x0.length : Int) then (if 0 ≤ x5 then (if x5 < (x1.length : Int) then ((laws_eqTx.f ((rd_T99 x0 x5).f0) ((rd_T99 x0 x5).f1) ((rd_T99 x0 x5).f2) ((rd_T99 x0 x5).f3) ((rd_T99 x1 x5).f0) ((rd_T99 x1 x5).f1) ((rd_T99 x1 x5).f2) ((rd_T99 x1 x5).f3)).bind fun t435 => (if t435 = true then (laws_eqTxS.l0 k x0 x1 (wrap64 (x5 + 1))) else (some false))) else (none)) else (none)) else (some true)
def laws_eqTxS.f (k : Nat) (l0 : List (S99)) (l1 : List (S99)) : Option (Bool) := if (l0.length : Int) = (l1.length : Int) then (laws_eqTxS.l0 k l0 l1 0) else (some false)
theorem laws_eqTxS.mono_l : ∀ k, (∀ y0 y1 y2, LeO (laws_eqTxS.l0 k y0 y1 y2) (laws_eqTxS.l0 (k + 1) y0 y1 y2))
 | 0 => fun _ _ _ r h => by simp [laws_eqTxS.l0] at h
 | k + 1 => by
  have ih0 := laws_eqTxS.mono_l k
  intro y0 y1 y2
  unfold laws_eqTxS.l0
  repeat' first | (with_reducible exact ih0 _ _ _) | (with_reducible exact LeO.refl _) | (with_reducible exact LeO.none _) | (with_reducible refine LeO.ite ?_ ?_) | (with_reducible refine LeO.bind ?_ (fun _ => ?_))
theorem laws_eqTxS.mono : ∀ a0 a1 k, LeO (laws_eqTxS.f k a0 a1) (laws_eqTxS.f (k + 1) a0 a1) := by
 intro a0 a1 k
 have ih0 := laws_eqTxS.mono_l k
 unfold laws_eqTxS.f
 repeat' first | (with_reducible exact ih0 _ _ _) | (with_reducible exact LeO.refl _) | (with_reducible exact LeO.none _) | (with_reducible refine LeO.ite ?_ ?_) | (with_reducible refine LeO.bind ?_ (fun _ => ?_))
def laws_eqTxS.T6 : Bool × List (List Nat × List Nat) := (true, [([], []), ([], []), ([0, 1], [0, 1]), ([2], [2]), ([], []), ([], []), ([4, 5], [4, 5]), ([6], [6]), ([3, 7], [3, 7]), ([8], [8])])
def laws_eqTxS.B6 : List Nat := [0, 0, 3, 7, 0, 0, 48, 112, 255, 511]
theorem laws_eqTxS.tab6 : rtab .any (opsOf Tryz.f33 6) = laws_eqTxS.T6 := by kernel_rfl
theorem laws_eqTxS.bits6 : waitsOk laws_eqTxS.T6.2 laws_eqTxS.B6 = true := by kernel_rfl
set_option maxHeartbeats 8000000 in
set_option maxRecDepth 100000 in
theorem laws_eqTxS.calls (k : Nat) (A0 : Option Addr) (c0 : Nat) (l0 : List (S99)) (A1 : Option Addr) (c1 : Nat) (l1 : List (S99)) (r : Bool) (w : World) (hr0 : Kd.C k99 w A0 l0.length l0) (hc0 : l0.length ≤ c0) (hr1 : Kd.C k99 w A1 l1.length l1) (hc1 : l1.length ≤ c1) (h : laws_eqTxS.f k l0 l1 = some r) :
  Calls Tryz.prog 33 #[.slice A0 l0.length c0, .slice A1 l1.length c1] w fun e w' => e = .returned (.bool r) ∧ Below w.heap.size w w' := by
 have hu99 := Tryz.underlying99; have HR0 := Aside0.mk hr0; have HC0 := Aside0.mk hc0; clear hr0 hc0; have HR1 := Aside0.mk hr1; have HC1 := Aside0.mk hc1; clear hr1 hc1; have HB := Aside0.mk (Below.refl w.heap.size w); have H : (if (l0.length : Int) = (l1.length : Int) then (laws_eqTxS.l0 k l0 l1 0) else (some false)) = some r := h; clear h
 by_cases c3 : (l0.length : Int) = (l1.length : Int)
 ·
  rw [if_pos c3] at H
  have c3b0 : ((l0.length : Int) == (l1.length : Int)) = true := beq_iff_eq.mpr c3; have c3b1 : ((l0.length : Int) != (l1.length : Int)) = false := bne_eq_false_iff_eq.mpr c3
  have c3b2 : (l0.length == l1.length) = true := by first | simpa using c3 | (simp at c3 ⊢; omega)
  clear c3; have H' := Aside0.mk H; clear H
  go_enter Tryz.func33, Tryz.ntmps33
  go_wp2
  go_loopg [5] k (fun kq v5 w' => ∃ (x5_1 : Int), v5 = .int .i64 x5_1 ∧ Aside0 (laws_eqTxS.l0 kq l0 l1 x5_1 = some r) ∧ Aside0 (kq ≤ k) ∧ Aside0 (Below w.heap.size w w'))
  case atStart => exact ⟨(0), y0_13, H', ⟨Nat.le_refl _⟩, ⟨bI HB.out⟩⟩
  case round =>
   clear H'
   try clear c1
   try clear p2
   try clear c3
   try clear c3b0
   try clear c3b1
   try clear c3b2
   obtain ⟨x5_1, rfl, HA, HK1, HB⟩ := hrel; cases gk with
   | zero => exact absurd HA.out (by simp [laws_eqTxS.l0])
   | succ k1 =>
    have H := HA.out; clear HA
    simp only [laws_eqTxS.l0] at H
    by_cases c4 : x5_1 < (l0.length : Int)
    ·
     rw [if_pos c4] at H
     have c4b0 : decide (x5_1 < (l0.length : Int)) = true := decide_eq_true c4; clear c4
     by_cases c5 : 0 ≤ x5_1
     rotate_left
     ·
      rw [if_neg c5] at H
      exact absurd H (by simp)
     rw [if_pos c5] at H
     have c5b0 : decide (0 ≤ x5_1) = true := decide_eq_true c5; clear c5
     by_cases c6 : x5_1 < (l1.length : Int)
     rotate_left
     ·
      rw [if_neg c6] at H
      exact absurd H (by simp)
     rw [if_pos c6] at H
     have c6b0 : decide (x5_1 < (l1.length : Int)) = true := decide_eq_true c6; clear c6; obtain ⟨t435, A70, H⟩ := Option.bind_eq_some_iff.mp H
     try dsimp only at H
     have A7 := Aside0.mk A70; clear A70
     by_cases c8 : t435 = true
     ·
      subst c8
      rw [if_pos rfl] at H
      have H' := Aside0.mk H; clear H
      try go_wp2
      replace HB := Aside0.mk (below_drew1 HB.out); have p433 : 0 ≤ (x5_1 : Int) := of_decide_eq_true y0_12; have q433 : x5_1 < (l0.length : Int) := of_decide_eq_true y0_12; obtain ⟨ad433, e433, hx433_0, hx433_1, hx433_2, hx433_3⟩ := at_T99 HR0.out x5_1 p433 q433; have hw433_3 := hx433_3; have hw433_2 := hx433_2; have hw433_1 := hx433_1; have hw433_0 := hx433_0; cases e433; replace hx433_0 := bx HB hx433_0; replace hx433_1 := bx HB hx433_1; replace hx433_2 := bx HB hx433_2; replace hx433_3 := bx HB hx433_3; replace p433 := eq_true p433; replace q433 := eq_true q433; have p434 : 0 ≤ (x5_1 : Int) := of_decide_eq_true y0_12; have q434 : x5_1 < (l1.length : Int) := of_decide_eq_true y0_12; obtain ⟨ad434, e434, hx434_0, hx434_1, hx434_2, hx434_3⟩ := at_T99 HR1.out x5_1 p434 q434; have hw434_3 := hx434_3; have hw434_2 := hx434_2; have hw434_1 := hx434_1; have hw434_0 := hx434_0; cases e434; replace hx434_0 := bx HB hx434_0; replace hx434_1 := bx HB hx434_1; replace hx434_2 := bx HB hx434_2; replace hx434_3 := bx HB hx434_3; replace p434 := eq_true p434; replace q434 := eq_true q434
      refine start_ (n := 10) (S := fun w' => w'.cell? (ad433.add ((x5_1).toNat * 4)) = some (.int .i64 ((rd_T99 l0 x5_1).f0)) ∧ w'.cell? ⟨(ad433.add ((x5_1).toNat * 4)).block, (ad433.add ((x5_1).toNat * 4)).off + 1, none⟩ = some (.int .i64 ((rd_T99 l0 x5_1).f1)) ∧ w'.cell? ⟨(ad433.add ((x5_1).toNat * 4)).block, (ad433.add ((x5_1).toNat * 4)).off + 2, none⟩ = some (.int .i64 ((rd_T99 l0 x5_1).f2)) ∧ w'.cell? ⟨(ad433.add ((x5_1).toNat * 4)).block, (ad433.add ((x5_1).toNat * 4)).off + 3, none⟩ = some (.int .i64 ((rd_T99 l0 x5_1).f3)) ∧ w'.cell? (ad434.add ((x5_1).toNat * 4)) = some (.int .i64 ((rd_T99 l1 x5_1).f0)) ∧ w'.cell? ⟨(ad434.add ((x5_1).toNat * 4)).block, (ad434.add ((x5_1).toNat * 4)).off + 1, none⟩ = some (.int .i64 ((rd_T99 l1 x5_1).f1)) ∧ w'.cell? ⟨(ad434.add ((x5_1).toNat * 4)).block, (ad434.add ((x5_1).toNat * 4)).off + 2, none⟩ = some (.int .i64 ((rd_T99 l1 x5_1).f2)) ∧ w'.cell? ⟨(ad434.add ((x5_1).toNat * 4)).block, (ad434.add ((x5_1).toNat * 4)).off + 3, none⟩ = some (.int .i64 ((rd_T99 l1 x5_1).f3))) (ds := []) #[false, false, false, false, false, false, false, false, false, false] (by kernel_rfl) rfl rfl ⟨(bx HB hw433_0), (bx HB hw433_1), (bx HB hw433_2), (bx HB hw433_3), (bx HB hw434_0), (bx HB hw434_1), (bx HB hw434_2), (bx HB hw434_3)⟩ (fun hHeld => ?_); refine with_tabW laws_eqTxS.tab6 laws_eqTxS.bits6 (fun HT_ HW_ => ?_)
      generalize wr.drew = w9 at HB hx433_0 hx433_1 hx433_2 hx433_3 hx434_0 hx434_1 hx434_2 hx434_3 hHeld ⊢
      refine pA 0 (some 17) (bz 10 1) HT_ ?_
      refine pA 1 (some 18) (bz 10 3) HT_ ?_
      refine pA 2 (some 19) (bz 10 7) HT_ ?_
      refine pA 4 (some 21) (bz 10 23) HT_ ?_
      refine pA 5 (some 22) (bz 10 55) HT_ ?_
      refine pA 6 (some 23) (bz 10 119) HT_ ?_
      refine tA 3 (some 20) (bz 10 127) HT_ HW_ hHeld ?_
      refine tA 7 (some 24) (bz 10 255) HT_ HW_ hHeld ?_
      refine oA 8 (some 25) (bz 10 511) HT_ (fun K hK => ?_)
      refine gA Tryz.func85 #[.agg #[.int .i64 ((rd_T99 l0 x5_1).f0), .int .i64 ((rd_T99 l0 x5_1).f1), .int .i64 ((rd_T99 l0 x5_1).f2), .int .i64 ((rd_T99 l0 x5_1).f3)], .agg #[.int .i64 ((rd_T99 l1 x5_1).f0), .int .i64 ((rd_T99 l1 x5_1).f1), .int .i64 ((rd_T99 l1 x5_1).f2), .int .i64 ((rd_T99 l1 x5_1).f3)]] ?_
      with_reducible refine (laws_eqTx.calls ((rd_T99 l0 x5_1).f0) ((rd_T99 l0 x5_1).f1) ((rd_T99 l0 x5_1).f2) ((rd_T99 l0 x5_1).f3) ((rd_T99 l1 x5_1).f0) ((rd_T99 l1 x5_1).f1) ((rd_T99 l1 x5_1).f2) ((rd_T99 l1 x5_1).f3) true _ A7.out).mono ?_
      rintro e w10 ⟨rfl, hb⟩
      refine ⟨_, rfl, ?_⟩
      replace HB := bs HB hb
      (try clear hb)
      (try clear hb2)
      (try clear hk)
      (try clear hi)
      refine hK.out _ _ ⟨(bx HB hw433_0), (bx HB hw433_1), (bx HB hw433_2), (bx HB hw433_3), (bx HB hw434_0), (bx HB hw434_1), (bx HB hw434_2), (bx HB hw434_3)⟩ (fun hHeld => ?_)
      clear hK K
      refine nA (some 25) ?_
      refine pA 9 (some 26) (bz 10 1023) HT_ ?_
      refine done_ (done_of HT_.out (by kernel_rfl)) ?_
      try go_wp2
      go_roundg k1
      case measure => have := HK1.out; omega
      case rel => exact ⟨(wrap64 (x5_1 + 1)), y0_13, H', ⟨y0_18⟩, ⟨bI HB.out⟩⟩
     replace c8 := Bool.eq_false_iff.mpr c8; subst c8
     rw [if_neg (show ¬ (false = true) by decide)] at H
     obtain rfl := Option.some.inj H
     try go_wp2
     replace HB := Aside0.mk (below_drew1 HB.out); have p433 : 0 ≤ (x5_1 : Int) := of_decide_eq_true y0_12; have q433 : x5_1 < (l0.length : Int) := of_decide_eq_true y0_12; obtain ⟨ad433, e433, hx433_0, hx433_1, hx433_2, hx433_3⟩ := at_T99 HR0.out x5_1 p433 q433; have hw433_3 := hx433_3; have hw433_2 := hx433_2; have hw433_1 := hx433_1; have hw433_0 := hx433_0; cases e433; replace hx433_0 := bx HB hx433_0; replace hx433_1 := bx HB hx433_1; replace hx433_2 := bx HB hx433_2; replace hx433_3 := bx HB hx433_3; replace p433 := eq_true p433; replace q433 := eq_true q433; have p434 : 0 ≤ (x5_1 : Int) := of_decide_eq_true y0_12; have q434 : x5_1 < (l1.length : Int) := of_decide_eq_true y0_12; obtain ⟨ad434, e434, hx434_0, hx434_1, hx434_2, hx434_3⟩ := at_T99 HR1.out x5_1 p434 q434; have hw434_3 := hx434_3; have hw434_2 := hx434_2; have hw434_1 := hx434_1; have hw434_0 := hx434_0; cases e434; replace hx434_0 := bx HB hx434_0; replace hx434_1 := bx HB hx434_1; replace hx434_2 := bx HB hx434_2; replace hx434_3 := bx HB hx434_3; replace p434 := eq_true p434; replace q434 := eq_true q434
     refine start_ (n := 10) (S := fun w' => w'.cell? (ad433.add ((x5_1).toNat * 4)) = some (.int .i64 ((rd_T99 l0 x5_1).f0)) ∧ w'.cell? ⟨(ad433.add ((x5_1).toNat * 4)).block, (ad433.add ((x5_1).toNat * 4)).off + 1, none⟩ = some (.int .i64 ((rd_T99 l0 x5_1).f1)) ∧ w'.cell? ⟨(ad433.add ((x5_1).toNat * 4)).block, (ad433.add ((x5_1).toNat * 4)).off + 2, none⟩ = some (.int .i64 ((rd_T99 l0 x5_1).f2)) ∧ w'.cell? ⟨(ad433.add ((x5_1).toNat * 4)).block, (ad433.add ((x5_1).toNat * 4)).off + 3, none⟩ = some (.int .i64 ((rd_T99 l0 x5_1).f3)) ∧ w'.cell? (ad434.add ((x5_1).toNat * 4)) = some (.int .i64 ((rd_T99 l1 x5_1).f0)) ∧ w'.cell? ⟨(ad434.add ((x5_1).toNat * 4)).block, (ad434.add ((x5_1).toNat * 4)).off + 1, none⟩ = some (.int .i64 ((rd_T99 l1 x5_1).f1)) ∧ w'.cell? ⟨(ad434.add ((x5_1).toNat * 4)).block, (ad434.add ((x5_1).toNat * 4)).off + 2, none⟩ = some (.int .i64 ((rd_T99 l1 x5_1).f2)) ∧ w'.cell? ⟨(ad434.add ((x5_1).toNat * 4)).block, (ad434.add ((x5_1).toNat * 4)).off + 3, none⟩ = some (.int .i64 ((rd_T99 l1 x5_1).f3))) (ds := []) #[false, false, false, false, false, false, false, false, false, false] (by kernel_rfl) rfl rfl ⟨(bx HB hw433_0), (bx HB hw433_1), (bx HB hw433_2), (bx HB hw433_3), (bx HB hw434_0), (bx HB hw434_1), (bx HB hw434_2), (bx HB hw434_3)⟩ (fun hHeld => ?_); refine with_tabW laws_eqTxS.tab6 laws_eqTxS.bits6 (fun HT_ HW_ => ?_)
     generalize wr.drew = w11 at HB hx433_0 hx433_1 hx433_2 hx433_3 hx434_0 hx434_1 hx434_2 hx434_3 hHeld ⊢
     refine pA 0 (some 17) (bz 10 1) HT_ ?_
     refine pA 1 (some 18) (bz 10 3) HT_ ?_
     refine pA 2 (some 19) (bz 10 7) HT_ ?_
     refine pA 4 (some 21) (bz 10 23) HT_ ?_
     refine pA 5 (some 22) (bz 10 55) HT_ ?_
     refine pA 6 (some 23) (bz 10 119) HT_ ?_
     refine tA 3 (some 20) (bz 10 127) HT_ HW_ hHeld ?_
     refine tA 7 (some 24) (bz 10 255) HT_ HW_ hHeld ?_
     refine oA 8 (some 25) (bz 10 511) HT_ (fun K hK => ?_)
     refine gA Tryz.func85 #[.agg #[.int .i64 ((rd_T99 l0 x5_1).f0), .int .i64 ((rd_T99 l0 x5_1).f1), .int .i64 ((rd_T99 l0 x5_1).f2), .int .i64 ((rd_T99 l0 x5_1).f3)], .agg #[.int .i64 ((rd_T99 l1 x5_1).f0), .int .i64 ((rd_T99 l1 x5_1).f1), .int .i64 ((rd_T99 l1 x5_1).f2), .int .i64 ((rd_T99 l1 x5_1).f3)]] ?_
     with_reducible refine (laws_eqTx.calls ((rd_T99 l0 x5_1).f0) ((rd_T99 l0 x5_1).f1) ((rd_T99 l0 x5_1).f2) ((rd_T99 l0 x5_1).f3) ((rd_T99 l1 x5_1).f0) ((rd_T99 l1 x5_1).f1) ((rd_T99 l1 x5_1).f2) ((rd_T99 l1 x5_1).f3) false _ A7.out).mono ?_
     rintro e w12 ⟨rfl, hb⟩
     refine ⟨_, rfl, ?_⟩
     replace HB := bs HB hb
     (try clear hb)
     (try clear hb2)
     (try clear hk)
     (try clear hi)
     refine hK.out _ _ ⟨(bx HB hw433_0), (bx HB hw433_1), (bx HB hw433_2), (bx HB hw433_3), (bx HB hw434_0), (bx HB hw434_1), (bx HB hw434_2), (bx HB hw434_3)⟩ (fun hHeld => ?_)
     clear hK K
     refine nA (some 25) ?_
     refine pA 9 (some 26) (bz 10 1023) HT_ ?_
     refine done_ (done_of HT_.out (by kernel_rfl)) ?_
     try go_wp2
     go_ret
     exact ⟨y0_10, bI HB.out⟩
    rw [if_neg c4] at H
    have c4b0 : decide (x5_1 < (l0.length : Int)) = false := decide_eq_false c4; clear c4; obtain rfl := Option.some.inj H
    go_wp2
    go_ret
    exact ⟨y0_10, bI HB.out⟩
 rw [if_neg c3] at H
 have c3b0 : ((l0.length : Int) == (l1.length : Int)) = false := beq_eq_false_iff_ne.mpr c3; have c3b1 : ((l0.length : Int) != (l1.length : Int)) = true := bne_iff_ne.mpr c3
 have c3b2 : (l0.length == l1.length) = false := by first | simpa using c3 | (simp at c3 ⊢; omega)
 obtain rfl := Option.some.inj H
 go_enter Tryz.func33, Tryz.ntmps33
 go_wp2
 go_ret
 exact ⟨y0_10, bI HB.out⟩

/-! ### laws_markTxS: function 34 -/
def laws_markTxS.l0 : Nat → List (S99) → Int → Int → Option (Int × (List (S99)))
 | 0, _, _, _ => none
 | k + 1, x0, x1, x5 => if x5 < (x0.length : Int) then (if 0 ≤ x5 then ((some (x0.set (x5 : Int).toNat (⟨x1, (rd_T99 x0 x5).f1, (rd_T99 x0 x5).f2, (rd_T99 x0 x5).f3⟩ : S99) : List (S99))).bind fun y436 => ((some (y436.set (x5 : Int).toNat (⟨(rd_T99 y436 x5).f0, wrap64 (x1 + 1), (rd_T99 y436 x5).f2, (rd_T99 y436 x5).f3⟩ : S99) : List (S99))).bind fun y437 => ((some (y437.set (x5 : Int).toNat (⟨(rd_T99 y437 x5).f0, (rd_T99 y437 x5).f1, wrap64 ((wrap64 (x1 + 1)) + 1), (rd_T99 y437 x5).f3⟩ : S99) : List (S99))).bind fun y438 => (laws_markTxS.l0 k (y438.set (x5 : Int).toNat (⟨(rd_T99 y438 x5).f0, (rd_T99 y438 x5).f1, (rd_T99 y438 x5).f2, wrap64 ((wrap64 ((wrap64 (x1 + 1)) + 1)) + 1)⟩ : S99)) (wrap64 ((wrap64 ((wrap64 ((wrap64 (x1 + 1)) + 1)) + 1)) + 1)) (wrap64 (x5 + 1)))))) else (none)) else (some (x1, x0))
def laws_markTxS.f (k : Nat) (l0 : List (S99)) (a1 : Int) : Option (Int × (List (S99))) := laws_markTxS.l0 k l0 a1 0
theorem laws_markTxS.mono_l : ∀ k, (∀ y0 y1 y2, LeO (laws_markTxS.l0 k y0 y1 y2) (laws_markTxS.l0 (k + 1) y0 y1 y2))
 | 0 => fun _ _ _ r h => by simp [laws_markTxS.l0] at h
 | k + 1 => by
  have ih0 := laws_markTxS.mono_l k
  intro y0 y1 y2
  unfold laws_markTxS.l0
  repeat' first | (with_reducible exact ih0 _ _ _) | (with_reducible exact LeO.refl _) | (with_reducible exact LeO.none _) | (with_reducible refine LeO.ite ?_ ?_) | (with_reducible refine LeO.bind ?_ (fun _ => ?_))
theorem laws_markTxS.mono : ∀ a0 a1 k, LeO (laws_markTxS.f k a0 a1) (laws_markTxS.f (k + 1) a0 a1) := by
 intro a0 a1 k
 have ih0 := laws_markTxS.mono_l k
 unfold laws_markTxS.f
 repeat' first | (with_reducible exact ih0 _ _ _) | (with_reducible exact LeO.refl _) | (with_reducible exact LeO.none _) | (with_reducible refine LeO.ite ?_ ?_) | (with_reducible refine LeO.bind ?_ (fun _ => ?_))
set_option maxHeartbeats 8000000 in
set_option maxRecDepth 100000 in
theorem laws_markTxS.calls (k : Nat) (P0_ : Nat → Prop) (u9000_ : Value) (l0 : List (S99)) (a1 : Int) (r1 : Int) (r2 : List (S99)) (w0 w : World) (hB : Below w0.heap.size w0 w) (ho0 : Kd.R k99 99 w w0.heap.size P0_ u9000_ l0) (h : laws_markTxS.f k l0 a1 = some (r1, r2)) :
  Calls Tryz.prog 34 #[u9000_, .int .i64 a1] w fun e w' => e = .returned (.int .i64 r1) ∧ Kd.R k99 99 w' w0.heap.size (fun k_ => (P0_ k_ ∨ w.heap.size ≤ k_)) u9000_ r2 ∧ Below w0.heap.size w0 w' ∧ Kept w w' (fun k_ => P0_ k_) := by
 have HO0 := Aside0.mk (show Kd.R k99 99 w w0.heap.size (fun k_ => (P0_ k_ ∨ w.heap.size ≤ k_)) u9000_ l0 from Kd.R_mono ho0 (fun k_ hk => (.inl hk)))
 have HK := Aside0.mk (Kept.refl w (fun k_ => P0_ k_))
 have HW0 := Aside0.mk hB.size; have HB := Aside0.mk hB; clear hB; have H : (laws_markTxS.l0 k l0 a1 0) = some (r1, r2) := h; clear h; have H' := Aside0.mk H; clear H
 go_enter Tryz.func34, Tryz.ntmps34
 go_wp2
 go_loopg [1, 5] k (fun kq v1 v5 w' => ∃ (x0_1 : List (S99)) (x1_1 : Int) (x5_1 : Int), v1 = .int .i64 x1_1 ∧ v5 = .int .i64 x5_1 ∧ Aside0 (laws_markTxS.l0 kq x0_1 x1_1 x5_1 = some (r1, r2)) ∧ Aside0 (kq ≤ k) ∧ Aside0 (Kd.R k99 99 w' w0.heap.size (fun k_ => (P0_ k_ ∨ w.heap.size ≤ k_)) u9000_ x0_1) ∧ Aside0 (Kept w w' (fun k_ => P0_ k_)) ∧ Aside0 (Below w0.heap.size w0 w'))
 case atStart => exact ⟨(l0), (a1), (0), y0_13, y0_13, H', ⟨Nat.le_refl _⟩, ⟨by (with_reducible repeat (first | apply Kd.R_alloc | apply Kd.R_drewN | apply Kd.R_drew)); exact HO0.out⟩, ⟨y0_5⟩, ⟨bI HB.out⟩⟩
 case round =>
  clear H'
  try clear p2
  obtain ⟨x0_1, x1_1, x5_1, rfl, rfl, HA, HK1, HO_0, HK, HB⟩ := hrel; cases gk with
  | zero => exact absurd HA.out (by simp [laws_markTxS.l0])
  | succ k1 =>
   have H := HA.out; clear HA
   simp only [laws_markTxS.l0] at H
   by_cases c3 : x5_1 < (x0_1.length : Int)
   ·
    rw [if_pos c3] at H
    have c3b0 : decide (x5_1 < (x0_1.length : Int)) = true := decide_eq_true c3; clear c3
    by_cases c4 : 0 ≤ x5_1
    rotate_left
    ·
     rw [if_neg c4] at H
     exact absurd H (by simp)
    rw [if_pos c4] at H
    have c4b0 : decide (0 ≤ x5_1) = true := decide_eq_true c4; clear c4; obtain ⟨y436, hy436⟩ : ∃ y_ : List (S99), y_ = (x0_1.set (x5_1 : Int).toNat (⟨x1_1, (rd_T99 x0_1 x5_1).f1, (rd_T99 x0_1 x5_1).f2, (rd_T99 x0_1 x5_1).f3⟩ : S99)) := ⟨_, rfl⟩
    replace H : ((some (y436.set (x5_1 : Int).toNat (⟨(rd_T99 y436 x5_1).f0, wrap64 (x1_1 + 1), (rd_T99 y436 x5_1).f2, (rd_T99 y436 x5_1).f3⟩ : S99) : List (S99))).bind fun y437 => ((some (y437.set (x5_1 : Int).toNat (⟨(rd_T99 y437 x5_1).f0, (rd_T99 y437 x5_1).f1, wrap64 ((wrap64 (x1_1 + 1)) + 1), (rd_T99 y437 x5_1).f3⟩ : S99) : List (S99))).bind fun y438 => (laws_markTxS.l0 k1 (y438.set (x5_1 : Int).toNat (⟨(rd_T99 y438 x5_1).f0, (rd_T99 y438 x5_1).f1, (rd_T99 y438 x5_1).f2, wrap64 ((wrap64 ((wrap64 (x1_1 + 1)) + 1)) + 1)⟩ : S99)) (wrap64 ((wrap64 ((wrap64 ((wrap64 (x1_1 + 1)) + 1)) + 1)) + 1)) (wrap64 (x5_1 + 1))))) = some (r1, r2) := by first | (rw [hy436]; with_reducible exact H) | (have H2_ := (Option.bind_some _ _).symm.trans H; rw [hy436]; with_reducible exact H2_) | (have H2_ := (Option.bind_some _ _).symm.trans H; with_reducible exact H2_) | with_reducible exact H | (rw [hy436]; exact H) | exact H
    have Ny436 := Aside0.mk hy436; clear hy436; obtain ⟨y437, hy437⟩ : ∃ y_ : List (S99), y_ = (y436.set (x5_1 : Int).toNat (⟨(rd_T99 y436 x5_1).f0, wrap64 (x1_1 + 1), (rd_T99 y436 x5_1).f2, (rd_T99 y436 x5_1).f3⟩ : S99)) := ⟨_, rfl⟩
    replace H : ((some (y437.set (x5_1 : Int).toNat (⟨(rd_T99 y437 x5_1).f0, (rd_T99 y437 x5_1).f1, wrap64 ((wrap64 (x1_1 + 1)) + 1), (rd_T99 y437 x5_1).f3⟩ : S99) : List (S99))).bind fun y438 => (laws_markTxS.l0 k1 (y438.set (x5_1 : Int).toNat (⟨(rd_T99 y438 x5_1).f0, (rd_T99 y438 x5_1).f1, (rd_T99 y438 x5_1).f2, wrap64 ((wrap64 ((wrap64 (x1_1 + 1)) + 1)) + 1)⟩ : S99)) (wrap64 ((wrap64 ((wrap64 ((wrap64 (x1_1 + 1)) + 1)) + 1)) + 1)) (wrap64 (x5_1 + 1)))) = some (r1, r2) := by first | (rw [hy437]; with_reducible exact H) | (have H2_ := (Option.bind_some _ _).symm.trans H; rw [hy437]; with_reducible exact H2_) | (have H2_ := (Option.bind_some _ _).symm.trans H; with_reducible exact H2_) | with_reducible exact H | (rw [hy437]; exact H) | exact H
    have Ny437 := Aside0.mk hy437; clear hy437; obtain ⟨y438, hy438⟩ : ∃ y_ : List (S99), y_ = (y437.set (x5_1 : Int).toNat (⟨(rd_T99 y437 x5_1).f0, (rd_T99 y437 x5_1).f1, wrap64 ((wrap64 (x1_1 + 1)) + 1), (rd_T99 y437 x5_1).f3⟩ : S99)) := ⟨_, rfl⟩
    replace H : (laws_markTxS.l0 k1 (y438.set (x5_1 : Int).toNat (⟨(rd_T99 y438 x5_1).f0, (rd_T99 y438 x5_1).f1, (rd_T99 y438 x5_1).f2, wrap64 ((wrap64 ((wrap64 (x1_1 + 1)) + 1)) + 1)⟩ : S99)) (wrap64 ((wrap64 ((wrap64 ((wrap64 (x1_1 + 1)) + 1)) + 1)) + 1)) (wrap64 (x5_1 + 1))) = some (r1, r2) := by first | (rw [hy438]; with_reducible exact H) | (have H2_ := (Option.bind_some _ _).symm.trans H; rw [hy438]; with_reducible exact H2_) | (have H2_ := (Option.bind_some _ _).symm.trans H; with_reducible exact H2_) | with_reducible exact H | (rw [hy438]; exact H) | exact H
    have Ny438 := Aside0.mk hy438; clear hy438; obtain ⟨y439, hy439⟩ : ∃ y_ : List (S99), y_ = (y438.set (x5_1 : Int).toNat (⟨(rd_T99 y438 x5_1).f0, (rd_T99 y438 x5_1).f1, (rd_T99 y438 x5_1).f2, wrap64 ((wrap64 ((wrap64 (x1_1 + 1)) + 1)) + 1)⟩ : S99)) := ⟨_, rfl⟩
    replace H : (laws_markTxS.l0 k1 y439 (wrap64 ((wrap64 ((wrap64 ((wrap64 (x1_1 + 1)) + 1)) + 1)) + 1)) (wrap64 (x5_1 + 1))) = some (r1, r2) := by first | (rw [hy439]; with_reducible exact H) | (have H2_ := (Option.bind_some _ _).symm.trans H; rw [hy439]; with_reducible exact H2_) | (have H2_ := (Option.bind_some _ _).symm.trans H; with_reducible exact H2_) | with_reducible exact H | (rw [hy439]; exact H) | exact H
    have Ny439 := Aside0.mk hy439; clear hy439; have H' := Aside0.mk H; clear H; obtain ⟨Ao9, co9, eo9⟩ := Kd.R_slice HO_0.out; subst eo9; have p5 : 0 ≤ (x5_1 : Int) := of_decide_eq_true y0_12; have q5 : (x5_1 : Int) < ((x0_1.length : Int) : Int) := of_decide_eq_true y0_12
    obtain ⟨go5, co5, eo5, gb5, gl5, cl5, HG5⟩ := Kd.R_form HO_0.out (by omega)
    (first | cases eo5 | (injection eo5 with ea_ en_ ec_; (first | subst ea_ | (injection ea_ with ea_; subst ea_)); subst ec_; clear en_))
    have GB5 := Aside0.mk gb5; have GG5 := Aside0.mk HG5; clear gb5 gl5 HG5
    have HMgo5 := Aside0.mk (show (P0_ go5 ∨ w.heap.size ≤ go5) from (HO_0.out.1 _ rfl))
    obtain ⟨ce5, hcl5, hM5, hcc5, hfr5⟩ := Kd.R_elem HO_0.out z99 (x5_1 : Int) p5 q5; obtain rfl := k99_openM hM5; have hx5_0 : wr.cell? ⟨go5, (x5_1 : Int).toNat * 4, none⟩ = some (.int .i64 ((rd_T99 x0_1 x5_1).f0)) := hcc5 0 _ rfl; have hx5_1 : wr.cell? ⟨go5, (x5_1 : Int).toNat * 4 + 1, none⟩ = some (.int .i64 ((rd_T99 x0_1 x5_1).f1)) := hcc5 1 _ rfl; have hx5_2 : wr.cell? ⟨go5, (x5_1 : Int).toNat * 4 + 2, none⟩ = some (.int .i64 ((rd_T99 x0_1 x5_1).f2)) := hcc5 2 _ rfl; have hx5_3 : wr.cell? ⟨go5, (x5_1 : Int).toNat * 4 + 3, none⟩ = some (.int .i64 ((rd_T99 x0_1 x5_1).f3)) := hcc5 3 _ rfl; have hf5_0 : wr.frozen? ⟨go5, (x5_1 : Int).toNat * 4, none⟩ = false := hfr5 0; have hf5_1 : wr.frozen? ⟨go5, (x5_1 : Int).toNat * 4 + 1, none⟩ = false := hfr5 1; have hf5_2 : wr.frozen? ⟨go5, (x5_1 : Int).toNat * 4 + 2, none⟩ = false := hfr5 2; have hf5_3 : wr.frozen? ⟨go5, (x5_1 : Int).toNat * 4 + 3, none⟩ = false := hfr5 3; clear hcl5 hcc5 hfr5 hM5; replace p5 := eq_true p5; replace q5 := eq_true q5
    have HX10 := Aside0.mk (show Kd.R k99 99 wr w0.heap.size (fun k_ => (P0_ k_ ∨ w.heap.size ≤ k_)) (.slice (some ⟨go5, 0, none⟩) x0_1.length co9) x0_1 from (rI HO_0.out))
    obtain ⟨ce10, hcl10, hM10, hcc10, hfr10⟩ := Kd.R_elem HX10.out z99 (x5_1 : Int) (of_decide_eq_true y0_12) y0_1; obtain rfl := k99_openM hM10
    have HP10 := Kd.R_seg HX10.out (x5_1 : Int) (of_decide_eq_true y0_12) y0_1 (seg := [.int .i64 x1_1]) (j := 0) hcl10 hcc10 (show 1 ≤ 4 from by decide) (x' := (⟨x1_1, (rd_T99 x0_1 x5_1).f1, (rd_T99 x0_1 x5_1).f2, (rd_T99 x0_1 x5_1).f3⟩ : S99)) (k99_mkM _ _ _ (⟨x1_1, (rd_T99 x0_1 x5_1).f1, (rd_T99 x0_1 x5_1).f2, (rd_T99 x0_1 x5_1).f3⟩ : S99) ) (fun _ hk => hk)
    have hx10_0 := hcc10 0 _ rfl
    (try simp only [show (k99).sz = 4 from rfl, Nat.mul_one, Nat.add_zero] at hx10_0)
    have hf10_0 := hfr10 0
    (try simp only [show (k99).sz = 4 from rfl, Nat.mul_one, Nat.add_zero] at hf10_0)
    clear hcl10 hcc10 hfr10 hM10
    go_wp2_with (first | ((with_reducible refine gate_store (t := 3) (p := 16) rfl ?_); refine store_event (t := 3) (p := 16) (v := ?vo_w11) (w1 := (wr.setCell ⟨go5, (x5_1 : Int).toNat * 4, none⟩ (.int .i64 x1_1))) ?hg ?ho ?hn ?hr ?_; (case ho => rfl); (case hg => rfl); (case hn => rfl); (case hr => first | (go_simp; done) | (go_simp; rfl)); intro w11 hw; have hg : wr.grownBy w11 (some go5) := (by rw [hw]; exact HP10.2); have hp_ : Kd.R k99 99 w11 w0.heap.size (fun k_ => (P0_ k_ ∨ w.heap.size ≤ k_)) (.slice (some ⟨go5, 0, none⟩) x0_1.length co9) y436 := (by rw [hw, Ny436.out]; exact HP10.1); clear HP10; replace HB := Aside0.mk ((y0_14 : Below w0.heap.size w0 w11)); replace HK := Aside0.mk (Kept.of_grown (S := (fun k_ => P0_ k_)) hg y0_5 (fun k_ e_ => (HO_0.out.1 k_ e_))); replace HO_0 := Aside0.mk (hp_); clear hg hw hp_; have p6 : 0 ≤ (x5_1 : Int) := of_decide_eq_true y0_12; have q6 : (x5_1 : Int) < ((x0_1.length : Int) : Int) := of_decide_eq_true y0_12; obtain ⟨ce6, hcl6, hM6, hcc6, hfr6⟩ := Kd.R_elem HO_0.out z99 (x5_1 : Int) p6 q6; obtain rfl := k99_openM hM6; have hx6_0 : w11.cell? ⟨go5, (x5_1 : Int).toNat * 4, none⟩ = some (.int .i64 ((rd_T99 y436 x5_1).f0)) := hcc6 0 _ rfl; have hx6_1 : w11.cell? ⟨go5, (x5_1 : Int).toNat * 4 + 1, none⟩ = some (.int .i64 ((rd_T99 y436 x5_1).f1)) := hcc6 1 _ rfl; have hx6_2 : w11.cell? ⟨go5, (x5_1 : Int).toNat * 4 + 2, none⟩ = some (.int .i64 ((rd_T99 y436 x5_1).f2)) := hcc6 2 _ rfl; have hx6_3 : w11.cell? ⟨go5, (x5_1 : Int).toNat * 4 + 3, none⟩ = some (.int .i64 ((rd_T99 y436 x5_1).f3)) := hcc6 3 _ rfl; have hf6_0 : w11.frozen? ⟨go5, (x5_1 : Int).toNat * 4, none⟩ = false := hfr6 0; have hf6_1 : w11.frozen? ⟨go5, (x5_1 : Int).toNat * 4 + 1, none⟩ = false := hfr6 1; have hf6_2 : w11.frozen? ⟨go5, (x5_1 : Int).toNat * 4 + 2, none⟩ = false := hfr6 2; have hf6_3 : w11.frozen? ⟨go5, (x5_1 : Int).toNat * 4 + 3, none⟩ = false := hfr6 3; clear hcl6 hcc6 hfr6 hM6; replace p6 := eq_true p6; replace q6 := eq_true q6; have HX12 := Aside0.mk (show Kd.R k99 99 w11 w0.heap.size (fun k_ => (P0_ k_ ∨ w.heap.size ≤ k_)) (.slice (some ⟨go5, 0, none⟩) x0_1.length co9) y436 from (rI HO_0.out)); obtain ⟨ce12, hcl12, hM12, hcc12, hfr12⟩ := Kd.R_elem HX12.out z99 (x5_1 : Int) (of_decide_eq_true y0_12) y0_1; obtain rfl := k99_openM hM12; have HP12 := Kd.R_seg HX12.out (x5_1 : Int) (of_decide_eq_true y0_12) y0_1 (seg := [.int .i64 (wrap64 (x1_1 + 1))]) (j := 1) hcl12 hcc12 (show 2 ≤ 4 from by decide) (x' := (⟨(rd_T99 y436 x5_1).f0, wrap64 (x1_1 + 1), (rd_T99 y436 x5_1).f2, (rd_T99 y436 x5_1).f3⟩ : S99)) (k99_mkM _ _ _ (⟨(rd_T99 y436 x5_1).f0, wrap64 (x1_1 + 1), (rd_T99 y436 x5_1).f2, (rd_T99 y436 x5_1).f3⟩ : S99) ) (fun _ hk => hk); have hx12_1 := hcc12 1 _ rfl; (try simp only [show (k99).sz = 4 from rfl, Nat.mul_one, Nat.add_zero] at hx12_1); have hf12_1 := hfr12 1; (try simp only [show (k99).sz = 4 from rfl, Nat.mul_one, Nat.add_zero] at hf12_1); clear hcl12 hcc12 hfr12 hM12) | ((with_reducible refine gate_store (t := 3) (p := 23) rfl ?_); refine store_event (t := 3) (p := 23) (v := ?vo_w13) (w1 := (w11.setCell ⟨go5, (x5_1 : Int).toNat * 4 + 1, none⟩ (.int .i64 (wrap64 (x1_1 + 1))))) ?hg ?ho ?hn ?hr ?_; (case ho => rfl); (case hg => rfl); (case hn => rfl); (case hr => first | (go_simp; done) | (go_simp; rfl)); intro w13 hw; have hg : w11.grownBy w13 (some go5) := (by rw [hw]; exact HP12.2); have hp_ : Kd.R k99 99 w13 w0.heap.size (fun k_ => (P0_ k_ ∨ w.heap.size ≤ k_)) (.slice (some ⟨go5, 0, none⟩) x0_1.length co9) y437 := (by rw [hw, Ny437.out]; exact HP12.1); clear HP12; replace HB := Aside0.mk ((y0_14 : Below w0.heap.size w0 w13)); replace HK := Aside0.mk (Kept.of_grown (S := (fun k_ => P0_ k_)) hg y0_5 (fun k_ e_ => (HO_0.out.1 k_ e_))); replace HO_0 := Aside0.mk (hp_); clear hg hw hp_; have p7 : 0 ≤ (x5_1 : Int) := of_decide_eq_true y0_12; have q7 : (x5_1 : Int) < ((x0_1.length : Int) : Int) := of_decide_eq_true y0_12; obtain ⟨ce7, hcl7, hM7, hcc7, hfr7⟩ := Kd.R_elem HO_0.out z99 (x5_1 : Int) p7 q7; obtain rfl := k99_openM hM7; have hx7_0 : w13.cell? ⟨go5, (x5_1 : Int).toNat * 4, none⟩ = some (.int .i64 ((rd_T99 y437 x5_1).f0)) := hcc7 0 _ rfl; have hx7_1 : w13.cell? ⟨go5, (x5_1 : Int).toNat * 4 + 1, none⟩ = some (.int .i64 ((rd_T99 y437 x5_1).f1)) := hcc7 1 _ rfl; have hx7_2 : w13.cell? ⟨go5, (x5_1 : Int).toNat * 4 + 2, none⟩ = some (.int .i64 ((rd_T99 y437 x5_1).f2)) := hcc7 2 _ rfl; have hx7_3 : w13.cell? ⟨go5, (x5_1 : Int).toNat * 4 + 3, none⟩ = some (.int .i64 ((rd_T99 y437 x5_1).f3)) := hcc7 3 _ rfl; have hf7_0 : w13.frozen? ⟨go5, (x5_1 : Int).toNat * 4, none⟩ = false := hfr7 0; have hf7_1 : w13.frozen? ⟨go5, (x5_1 : Int).toNat * 4 + 1, none⟩ = false := hfr7 1; have hf7_2 : w13.frozen? ⟨go5, (x5_1 : Int).toNat * 4 + 2, none⟩ = false := hfr7 2; have hf7_3 : w13.frozen? ⟨go5, (x5_1 : Int).toNat * 4 + 3, none⟩ = false := hfr7 3; clear hcl7 hcc7 hfr7 hM7; replace p7 := eq_true p7; replace q7 := eq_true q7; have HX14 := Aside0.mk (show Kd.R k99 99 w13 w0.heap.size (fun k_ => (P0_ k_ ∨ w.heap.size ≤ k_)) (.slice (some ⟨go5, 0, none⟩) x0_1.length co9) y437 from (rI HO_0.out)); obtain ⟨ce14, hcl14, hM14, hcc14, hfr14⟩ := Kd.R_elem HX14.out z99 (x5_1 : Int) (of_decide_eq_true y0_12) y0_1; obtain rfl := k99_openM hM14; have HP14 := Kd.R_seg HX14.out (x5_1 : Int) (of_decide_eq_true y0_12) y0_1 (seg := [.int .i64 (wrap64 ((wrap64 (x1_1 + 1)) + 1))]) (j := 2) hcl14 hcc14 (show 3 ≤ 4 from by decide) (x' := (⟨(rd_T99 y437 x5_1).f0, (rd_T99 y437 x5_1).f1, wrap64 ((wrap64 (x1_1 + 1)) + 1), (rd_T99 y437 x5_1).f3⟩ : S99)) (k99_mkM _ _ _ (⟨(rd_T99 y437 x5_1).f0, (rd_T99 y437 x5_1).f1, wrap64 ((wrap64 (x1_1 + 1)) + 1), (rd_T99 y437 x5_1).f3⟩ : S99) ) (fun _ hk => hk); have hx14_2 := hcc14 2 _ rfl; (try simp only [show (k99).sz = 4 from rfl, Nat.mul_one, Nat.add_zero] at hx14_2); have hf14_2 := hfr14 2; (try simp only [show (k99).sz = 4 from rfl, Nat.mul_one, Nat.add_zero] at hf14_2); clear hcl14 hcc14 hfr14 hM14) | ((with_reducible refine gate_store (t := 3) (p := 30) rfl ?_); refine store_event (t := 3) (p := 30) (v := ?vo_w15) (w1 := (w13.setCell ⟨go5, (x5_1 : Int).toNat * 4 + 2, none⟩ (.int .i64 (wrap64 ((wrap64 (x1_1 + 1)) + 1))))) ?hg ?ho ?hn ?hr ?_; (case ho => rfl); (case hg => rfl); (case hn => rfl); (case hr => first | (go_simp; done) | (go_simp; rfl)); intro w15 hw; have hg : w13.grownBy w15 (some go5) := (by rw [hw]; exact HP14.2); have hp_ : Kd.R k99 99 w15 w0.heap.size (fun k_ => (P0_ k_ ∨ w.heap.size ≤ k_)) (.slice (some ⟨go5, 0, none⟩) x0_1.length co9) y438 := (by rw [hw, Ny438.out]; exact HP14.1); clear HP14; replace HB := Aside0.mk ((y0_14 : Below w0.heap.size w0 w15)); replace HK := Aside0.mk (Kept.of_grown (S := (fun k_ => P0_ k_)) hg y0_5 (fun k_ e_ => (HO_0.out.1 k_ e_))); replace HO_0 := Aside0.mk (hp_); clear hg hw hp_; have p8 : 0 ≤ (x5_1 : Int) := of_decide_eq_true y0_12; have q8 : (x5_1 : Int) < ((x0_1.length : Int) : Int) := of_decide_eq_true y0_12; obtain ⟨ce8, hcl8, hM8, hcc8, hfr8⟩ := Kd.R_elem HO_0.out z99 (x5_1 : Int) p8 q8; obtain rfl := k99_openM hM8; have hx8_0 : w15.cell? ⟨go5, (x5_1 : Int).toNat * 4, none⟩ = some (.int .i64 ((rd_T99 y438 x5_1).f0)) := hcc8 0 _ rfl; have hx8_1 : w15.cell? ⟨go5, (x5_1 : Int).toNat * 4 + 1, none⟩ = some (.int .i64 ((rd_T99 y438 x5_1).f1)) := hcc8 1 _ rfl; have hx8_2 : w15.cell? ⟨go5, (x5_1 : Int).toNat * 4 + 2, none⟩ = some (.int .i64 ((rd_T99 y438 x5_1).f2)) := hcc8 2 _ rfl; have hx8_3 : w15.cell? ⟨go5, (x5_1 : Int).toNat * 4 + 3, none⟩ = some (.int .i64 ((rd_T99 y438 x5_1).f3)) := hcc8 3 _ rfl; have hf8_0 : w15.frozen? ⟨go5, (x5_1 : Int).toNat * 4, none⟩ = false := hfr8 0; have hf8_1 : w15.frozen? ⟨go5, (x5_1 : Int).toNat * 4 + 1, none⟩ = false := hfr8 1; have hf8_2 : w15.frozen? ⟨go5, (x5_1 : Int).toNat * 4 + 2, none⟩ = false := hfr8 2; have hf8_3 : w15.frozen? ⟨go5, (x5_1 : Int).toNat * 4 + 3, none⟩ = false := hfr8 3; clear hcl8 hcc8 hfr8 hM8; replace p8 := eq_true p8; replace q8 := eq_true q8; have HX16 := Aside0.mk (show Kd.R k99 99 w15 w0.heap.size (fun k_ => (P0_ k_ ∨ w.heap.size ≤ k_)) (.slice (some ⟨go5, 0, none⟩) x0_1.length co9) y438 from (rI HO_0.out)); obtain ⟨ce16, hcl16, hM16, hcc16, hfr16⟩ := Kd.R_elem HX16.out z99 (x5_1 : Int) (of_decide_eq_true y0_12) y0_1; obtain rfl := k99_openM hM16; have HP16 := Kd.R_seg HX16.out (x5_1 : Int) (of_decide_eq_true y0_12) y0_1 (seg := [.int .i64 (wrap64 ((wrap64 ((wrap64 (x1_1 + 1)) + 1)) + 1))]) (j := 3) hcl16 hcc16 (show 4 ≤ 4 from by decide) (x' := (⟨(rd_T99 y438 x5_1).f0, (rd_T99 y438 x5_1).f1, (rd_T99 y438 x5_1).f2, wrap64 ((wrap64 ((wrap64 (x1_1 + 1)) + 1)) + 1)⟩ : S99)) (k99_mkM _ _ _ (⟨(rd_T99 y438 x5_1).f0, (rd_T99 y438 x5_1).f1, (rd_T99 y438 x5_1).f2, wrap64 ((wrap64 ((wrap64 (x1_1 + 1)) + 1)) + 1)⟩ : S99) ) (fun _ hk => hk); have hx16_3 := hcc16 3 _ rfl; (try simp only [show (k99).sz = 4 from rfl, Nat.mul_one, Nat.add_zero] at hx16_3); have hf16_3 := hfr16 3; (try simp only [show (k99).sz = 4 from rfl, Nat.mul_one, Nat.add_zero] at hf16_3); clear hcl16 hcc16 hfr16 hM16) | ((with_reducible refine gate_store (t := 3) (p := 37) rfl ?_); refine store_event (t := 3) (p := 37) (v := ?vo_w17) (w1 := (w15.setCell ⟨go5, (x5_1 : Int).toNat * 4 + 3, none⟩ (.int .i64 (wrap64 ((wrap64 ((wrap64 (x1_1 + 1)) + 1)) + 1))))) ?hg ?ho ?hn ?hr ?_; (case ho => rfl); (case hg => rfl); (case hn => rfl); (case hr => first | (go_simp; done) | (go_simp; rfl)); intro w17 hw; have hg : w15.grownBy w17 (some go5) := (by rw [hw]; exact HP16.2); have hp_ : Kd.R k99 99 w17 w0.heap.size (fun k_ => (P0_ k_ ∨ w.heap.size ≤ k_)) (.slice (some ⟨go5, 0, none⟩) x0_1.length co9) y439 := (by rw [hw, Ny439.out]; exact HP16.1); clear HP16; replace HB := Aside0.mk ((y0_14 : Below w0.heap.size w0 w17)); replace HK := Aside0.mk (Kept.of_grown (S := (fun k_ => P0_ k_)) hg y0_5 (fun k_ e_ => (HO_0.out.1 k_ e_))); replace HO_0 := Aside0.mk (hp_); clear hg hw hp_))
    go_roundg k1
    case measure => have := HK1.out; omega
    case rel => exact ⟨(y439), (wrap64 ((wrap64 ((wrap64 ((wrap64 (x1_1 + 1)) + 1)) + 1)) + 1)), (wrap64 (x5_1 + 1)), y0_13, y0_13, H', ⟨y0_18⟩, ⟨y0_6⟩, ⟨y0_5⟩, ⟨bI HB.out⟩⟩
   rw [if_neg c3] at H
   have c3b0 : decide (x5_1 < (x0_1.length : Int)) = false := decide_eq_false c3; clear c3
   simp only [Option.some.injEq, Prod.mk.injEq] at H
   obtain ⟨rfl, rfl⟩ := H; obtain ⟨Ao18, co18, eo18⟩ := Kd.R_slice HO_0.out; subst eo18
   go_wp2
   go_ret
   exact ⟨y0_10, y0_6, bI HB.out, y0_5⟩

/-! ### laws_heldIntS: function 104 -/
def laws_heldIntS.l0 : Nat → List Int → Int → Int → Option (Int)
 | 0, _, _, _ => none
 | k + 1, x0, x1, x5 => if x5 < (x0.length : Int) then (if 0 ≤ x5 then (if (rd x0 x5) = x1 then (laws_heldIntS.l0 k x0 (wrap64 (x1 + 1)) (wrap64 (x5 + 1))) else (some (-1))) else (none)) else (some x1)
def laws_heldIntS.f (k : Nat) (l0 : List Int) (a1 : Int) : Option (Int) := laws_heldIntS.l0 k l0 a1 0
theorem laws_heldIntS.mono_l : ∀ k, (∀ y0 y1 y2, LeO (laws_heldIntS.l0 k y0 y1 y2) (laws_heldIntS.l0 (k + 1) y0 y1 y2))
 | 0 => fun _ _ _ r h => by simp [laws_heldIntS.l0] at h
 | k + 1 => by
  have ih0 := laws_heldIntS.mono_l k
  intro y0 y1 y2
  unfold laws_heldIntS.l0
  repeat' first | (with_reducible exact ih0 _ _ _) | (with_reducible exact LeO.refl _) | (with_reducible exact LeO.none _) | (with_reducible refine LeO.ite ?_ ?_) | (with_reducible refine LeO.bind ?_ (fun _ => ?_))
theorem laws_heldIntS.mono : ∀ a0 a1 k, LeO (laws_heldIntS.f k a0 a1) (laws_heldIntS.f (k + 1) a0 a1) := by
 intro a0 a1 k
 have ih0 := laws_heldIntS.mono_l k
 unfold laws_heldIntS.f
 repeat' first | (with_reducible exact ih0 _ _ _) | (with_reducible exact LeO.refl _) | (with_reducible exact LeO.none _) | (with_reducible refine LeO.ite ?_ ?_) | (with_reducible refine LeO.bind ?_ (fun _ => ?_))
set_option maxHeartbeats 8000000 in
set_option maxRecDepth 100000 in
theorem laws_heldIntS.calls (k : Nat) (A0 : Option Addr) (c0 : Nat) (l0 : List Int) (a1 : Int) (r : Int) (w : World) (hr0 : Kd.C (Kd.int .i64) w A0 l0.length l0) (hc0 : l0.length ≤ c0) (h : laws_heldIntS.f k l0 a1 = some r) :
  Calls Tryz.prog 104 #[.slice A0 l0.length c0, .int .i64 a1] w fun e w' => e = .returned (.int .i64 r) ∧ Drawn0 w w' := by
 have HR0 := Aside0.mk hr0; have HC0 := Aside0.mk hc0; clear hr0 hc0; have H : (laws_heldIntS.l0 k l0 a1 0) = some r := h; clear h; have H' := Aside0.mk H; clear H
 go_enter Tryz.func104, Tryz.ntmps104
 go_wp2
 go_loopg [1, 5] k (fun kq v1 v5 w' => ∃ (x1_1 : Int) (x5_1 : Int), v1 = .int .i64 x1_1 ∧ v5 = .int .i64 x5_1 ∧ Aside0 (laws_heldIntS.l0 kq l0 x1_1 x5_1 = some r) ∧ Aside0 (kq ≤ k) ∧ Drawn0 w w')
 case atStart => exact ⟨(a1), (0), y0_13, y0_13, H', ⟨Nat.le_refl _⟩, y0_11⟩
 case round =>
  clear H'
  try clear c1
  try clear p2
  obtain ⟨x1_1, x5_1, rfl, rfl, HA, HK1, ⟨m1, rfl⟩⟩ := hrel; cases gk with
  | zero => exact absurd HA.out (by simp [laws_heldIntS.l0])
  | succ k1 =>
   have H := HA.out; clear HA
   simp only [laws_heldIntS.l0] at H
   by_cases c3 : x5_1 < (l0.length : Int)
   ·
    rw [if_pos c3] at H
    have c3b0 : decide (x5_1 < (l0.length : Int)) = true := decide_eq_true c3; clear c3
    by_cases c4 : 0 ≤ x5_1
    rotate_left
    ·
     rw [if_neg c4] at H
     exact absurd H (by simp)
    rw [if_pos c4] at H
    have c4b0 : decide (0 ≤ x5_1) = true := decide_eq_true c4; clear c4
    by_cases c5 : (rd l0 x5_1) = x1_1
    ·
     rw [if_pos c5] at H
     have c5b0 : ((rd l0 x5_1) == x1_1) = true := beq_iff_eq.mpr c5; have c5b1 : ((rd l0 x5_1) != x1_1) = false := bne_eq_false_iff_eq.mpr c5; clear c5; have H' := Aside0.mk H; clear H; have p440 : 0 ≤ (x5_1 : Int) := of_decide_eq_true y0_12; have q440 : x5_1 < (l0.length : Int) := of_decide_eq_true y0_12; obtain ⟨ad440, e440, hx440_0⟩ := Kd.at_int HR0.out x5_1 p440 q440; cases e440; replace p440 := eq_true p440; replace q440 := eq_true q440
     go_wp2
     go_roundg k1
     case measure => have := HK1.out; omega
     case rel => exact ⟨(wrap64 (x1_1 + 1)), (wrap64 (x5_1 + 1)), y0_13, y0_13, H', ⟨y0_18⟩, y0_11⟩
    rw [if_neg c5] at H
    have c5b0 : ((rd l0 x5_1) == x1_1) = false := beq_eq_false_iff_ne.mpr c5; have c5b1 : ((rd l0 x5_1) != x1_1) = true := bne_iff_ne.mpr c5; obtain rfl := Option.some.inj H; have p440 : 0 ≤ (x5_1 : Int) := of_decide_eq_true y0_12; have q440 : x5_1 < (l0.length : Int) := of_decide_eq_true y0_12; obtain ⟨ad440, e440, hx440_0⟩ := Kd.at_int HR0.out x5_1 p440 q440; cases e440; replace p440 := eq_true p440; replace q440 := eq_true q440
    go_wp2
    go_ret
    exact ⟨y0_13, y0_11⟩
   rw [if_neg c3] at H
   have c3b0 : decide (x5_1 < (l0.length : Int)) = false := decide_eq_false c3; clear c3; obtain rfl := Option.some.inj H
   go_wp2
   go_ret
   exact ⟨y0_13, y0_11⟩

/-! ### laws_heldQc: function 64 -/
def laws_heldQc.f (k : Nat) (a0_0 : Int) (a0_1 : ByteArray) (l0_2 : List Int) (a1 : Int) : Option (Int) := (laws_heldIntS.f k l0_2 a1).bind fun t442 => (if t442 < 0 then (some (-1)) else (some t442))
theorem laws_heldQc.mono : ∀ a0 a1 a2 a3 k, LeO (laws_heldQc.f k a0 a1 a2 a3) (laws_heldQc.f (k + 1) a0 a1 a2 a3) := by
 intro a0 a1 a2 a3 k
 unfold laws_heldQc.f
 repeat' first | (with_reducible exact laws_heldIntS.mono _ _ _) | (with_reducible exact LeO.refl _) | (with_reducible exact LeO.none _) | (with_reducible refine LeO.ite ?_ ?_) | (with_reducible refine LeO.bind ?_ (fun _ => ?_))
set_option maxHeartbeats 8000000 in
set_option maxRecDepth 100000 in
theorem laws_heldQc.calls (k : Nat) (a0_0 : Int) (a0_1 : ByteArray) (A0_2 : Option Addr) (c0_2 : Nat) (l0_2 : List Int) (a1 : Int) (r : Int) (w : World) (hr0_2 : Kd.C (Kd.int .i64) w A0_2 l0_2.length l0_2) (hc0_2 : l0_2.length ≤ c0_2) (h : laws_heldQc.f k a0_0 a0_1 l0_2 a1 = some r) :
  Calls Tryz.prog 64 #[.agg #[.int .i64 a0_0, .string a0_1, .slice A0_2 l0_2.length c0_2], .int .i64 a1] w fun e w' => e = .returned (.int .i64 r) ∧ Below w.heap.size w w' := by
 have hu33 := Tryz.underlying33; have HR0_2 := Aside0.mk hr0_2; have HC0_2 := Aside0.mk hc0_2; clear hr0_2 hc0_2; have HB := Aside0.mk (Below.refl w.heap.size w)
 have H : ((laws_heldIntS.f k l0_2 a1).bind fun t442 => (if t442 < 0 then (some (-1)) else (some t442))) = some r := h
 clear h; obtain ⟨t442, A30, H⟩ := Option.bind_eq_some_iff.mp H
 try dsimp only at H
 have A3 := Aside0.mk A30; clear A30
 by_cases c4 : t442 < 0
 ·
  rw [if_pos c4] at H
  have c4b0 : decide (t442 < 0) = true := decide_eq_true c4; clear c4; obtain rfl := Option.some.inj H
  go_enter Tryz.func64, Tryz.ntmps64
  go_wp2_with (first | ((with_reducible refine gd 2 ?_); refine bA 2 #[.int .i64 a0_0, .string a0_1, .slice A0_2 l0_2.length c0_2] 33 ?_; intro gb441 hg w5 hbox hb; have BK441 := Aside0.mk (hbox); have GW441 := bg hg HB; have GJ441 := gi GW441; have GE441 := GW441; replace HB := bs HB hb; clear hb hbox hg; obtain ⟨hcz6_0, hcz6_1, hcz6_2, hfz6_0, hfz6_1, hfz6_2⟩ := cs3 BK441) | ((with_reducible refine gate_callee (f := 104) rfl ?_); refine gB (some 8) Tryz.func104 #[.slice A0_2 l0_2.length c0_2, .int .i64 a1] ?_; (with_reducible refine (laws_heldIntS.calls k _ _ l0_2 a1 t442 _ ?side1 ?side2 A3.out).mono ?_); (case side1 => exact ch HR0_2 HB); (case side2 => exact HC0_2.out); rintro e w' ⟨rfl, ⟨nd, rfl⟩⟩; refine ⟨_, rfl, ?_⟩))
  go_ret
  exact ⟨y0_10, bI HB.out⟩
 rw [if_neg c4] at H
 have c4b0 : decide (t442 < 0) = false := decide_eq_false c4; clear c4; obtain rfl := Option.some.inj H
 go_enter Tryz.func64, Tryz.ntmps64
 go_wp2_with (first | ((with_reducible refine gd 2 ?_); refine bA 2 #[.int .i64 a0_0, .string a0_1, .slice A0_2 l0_2.length c0_2] 33 ?_; intro gb441 hg w7 hbox hb; have BK441 := Aside0.mk (hbox); have GW441 := bg hg HB; have GJ441 := gi GW441; have GE441 := GW441; replace HB := bs HB hb; clear hb hbox hg; obtain ⟨hcz8_0, hcz8_1, hcz8_2, hfz8_0, hfz8_1, hfz8_2⟩ := cs3 BK441) | ((with_reducible refine gate_callee (f := 104) rfl ?_); refine gB (some 8) Tryz.func104 #[.slice A0_2 l0_2.length c0_2, .int .i64 a1] ?_; (with_reducible refine (laws_heldIntS.calls k _ _ l0_2 a1 t442 _ ?side1 ?side2 A3.out).mono ?_); (case side1 => exact ch HR0_2 HB); (case side2 => exact HC0_2.out); rintro e w' ⟨rfl, ⟨nd, rfl⟩⟩; refine ⟨_, rfl, ?_⟩))
 go_ret
 exact ⟨y0_10, bI HB.out⟩

/-! ### laws_heldBlock: function 35 -/
def laws_heldBlock.f (k : Nat) (a0_0 : ByteArray) (a0_1 : Int) (a0_2 : ByteArray) (l0_3 : List Int) (a1 : Int) : Option (Int) := (laws_heldQc.f k a0_1 a0_2 l0_3 a1).bind fun t444 => (if t444 < 0 then (some (-1)) else (some t444))
theorem laws_heldBlock.mono : ∀ a0 a1 a2 a3 a4 k, LeO (laws_heldBlock.f k a0 a1 a2 a3 a4) (laws_heldBlock.f (k + 1) a0 a1 a2 a3 a4) := by
 intro a0 a1 a2 a3 a4 k
 unfold laws_heldBlock.f
 repeat' first | (with_reducible exact laws_heldQc.mono _ _ _ _ _) | (with_reducible exact LeO.refl _) | (with_reducible exact LeO.none _) | (with_reducible refine LeO.ite ?_ ?_) | (with_reducible refine LeO.bind ?_ (fun _ => ?_))
set_option maxHeartbeats 8000000 in
set_option maxRecDepth 100000 in
theorem laws_heldBlock.calls (k : Nat) (a0_0 : ByteArray) (a0_1 : Int) (a0_2 : ByteArray) (A0_3 : Option Addr) (c0_3 : Nat) (l0_3 : List Int) (a1 : Int) (r : Int) (w : World) (hr0_3 : Kd.C (Kd.int .i64) w A0_3 l0_3.length l0_3) (hc0_3 : l0_3.length ≤ c0_3) (h : laws_heldBlock.f k a0_0 a0_1 a0_2 l0_3 a1 = some r) :
  Calls Tryz.prog 35 #[.agg #[.string a0_0, .int .i64 a0_1, .string a0_2, .slice A0_3 l0_3.length c0_3], .int .i64 a1] w fun e w' => e = .returned (.int .i64 r) ∧ Below w.heap.size w w' := by
 have hu42 := Tryz.underlying42; have hu33 := Tryz.underlying33; have HR0_3 := Aside0.mk hr0_3; have HC0_3 := Aside0.mk hc0_3; clear hr0_3 hc0_3; have HB := Aside0.mk (Below.refl w.heap.size w)
 have H : ((laws_heldQc.f k a0_1 a0_2 l0_3 a1).bind fun t444 => (if t444 < 0 then (some (-1)) else (some t444))) = some r := h
 clear h; obtain ⟨t444, A30, H⟩ := Option.bind_eq_some_iff.mp H
 try dsimp only at H
 have A3 := Aside0.mk A30; clear A30
 by_cases c4 : t444 < 0
 ·
  rw [if_pos c4] at H
  have c4b0 : decide (t444 < 0) = true := decide_eq_true c4; clear c4; obtain rfl := Option.some.inj H
  go_enter Tryz.func35, Tryz.ntmps35
  go_wp2_with (first | ((with_reducible refine gd 2 ?_); refine bA 2 #[.string a0_0, .int .i64 a0_1, .string a0_2, .slice A0_3 l0_3.length c0_3] 42 ?_; intro gb443 hg w5 hbox hb; have BK443 := Aside0.mk (hbox); have GW443 := bg hg HB; have GJ443 := gi GW443; have GE443 := GW443; replace HB := bs HB hb; clear hb hbox hg; obtain ⟨hcz6_0, hcz6_1, hcz6_2, hcz6_3, hfz6_0, hfz6_1, hfz6_2, hfz6_3⟩ := cs4 BK443) | ((with_reducible refine gate_callee (f := 64) rfl ?_); refine gB (some 8) Tryz.func64 #[.agg #[.int .i64 a0_1, .string a0_2, .slice A0_3 l0_3.length c0_3], .int .i64 a1] ?_; (with_reducible refine (laws_heldQc.calls k a0_1 a0_2 _ _ l0_3 a1 t444 _ ?side1 ?side2 A3.out).mono ?_); (case side1 => exact ch HR0_3 HB); (case side2 => exact HC0_3.out); rintro e w7 ⟨rfl, hb⟩; refine ⟨_, rfl, ?_⟩; replace BK443 := bk BK443 hb; replace HB := bs HB hb; (try clear hb); (try clear hb2); (try clear hk); (try clear hi)))
  go_ret
  exact ⟨y0_10, bI HB.out⟩
 rw [if_neg c4] at H
 have c4b0 : decide (t444 < 0) = false := decide_eq_false c4; clear c4; obtain rfl := Option.some.inj H
 go_enter Tryz.func35, Tryz.ntmps35
 go_wp2_with (first | ((with_reducible refine gd 2 ?_); refine bA 2 #[.string a0_0, .int .i64 a0_1, .string a0_2, .slice A0_3 l0_3.length c0_3] 42 ?_; intro gb443 hg w8 hbox hb; have BK443 := Aside0.mk (hbox); have GW443 := bg hg HB; have GJ443 := gi GW443; have GE443 := GW443; replace HB := bs HB hb; clear hb hbox hg; obtain ⟨hcz9_0, hcz9_1, hcz9_2, hcz9_3, hfz9_0, hfz9_1, hfz9_2, hfz9_3⟩ := cs4 BK443) | ((with_reducible refine gate_callee (f := 64) rfl ?_); refine gB (some 8) Tryz.func64 #[.agg #[.int .i64 a0_1, .string a0_2, .slice A0_3 l0_3.length c0_3], .int .i64 a1] ?_; (with_reducible refine (laws_heldQc.calls k a0_1 a0_2 _ _ l0_3 a1 t444 _ ?side1 ?side2 A3.out).mono ?_); (case side1 => exact ch HR0_3 HB); (case side2 => exact HC0_3.out); rintro e w10 ⟨rfl, hb⟩; refine ⟨_, rfl, ?_⟩; replace BK443 := bk BK443 hb; replace HB := bs HB hb; (try clear hb); (try clear hb2); (try clear hk); (try clear hi)))
 go_ret
 exact ⟨y0_10, bI HB.out⟩

end Go.Proofs.YtemjmefacifdeaaGreatDoor.PFnExactBlockNew
