-- By a program of this session, out of the translation (the print of the kit, with turns of its own). Lean checks it.
import Derived.Test.YtnpbopadajbopaaPFnExactTableDropx0
import Derived.Test.YtnpbopadajbopaaPFnExactTableDropx1
namespace Go.Proofs.Ytnpbopadajbopaa.PFnExactTableDrop
open Go.RowKit Go.Proofs.YtnpbopadajbopaaW.PrintWords Go.Proofs.YtnpbopadajbopaaW.PrintLast Go.Proofs.YtnpbopadajbopaaW.PrintMore
attribute [local go_sem] max2_int min2_int max_two min_two max_three min_three max_four min_four   -- for this text's walks alone
attribute [local go_sem] cell_in frozen_in
set_option synthInstance.maxSize 1000000
set_option synthInstance.maxHeartbeats 2000000
set_option linter.unusedVariables false
set_option linter.unusedSimpArgs false

/-! ### laws_eqPartS: function 10 -/
def laws_eqPartS.l0 : Nat → List (S26) → List (S26) → Int → Option (Bool)
 | 0, _, _, _ => none
 | k + 1, x0, x1, x5 => if x5 < (x0.length : Int) then (if 0 ≤ x5 then (if x5 < (x1.length : Int) then ((laws_eqPart.f k ((rd_T26 x0 x5).f0) ((rd_T26 x0 x5).f1) ((rd_T26 x0 x5).f2) ((rd_T26 x1 x5).f0) ((rd_T26 x1 x5).f1) ((rd_T26 x1 x5).f2)).bind fun t133 => (if t133 = true then (laws_eqPartS.l0 k x0 x1 (wrap64 (x5 + 1))) else (some false))) else (none)) else (none)) else (some true)
def laws_eqPartS.f (k : Nat) (l0 : List (S26)) (l1 : List (S26)) : Option (Bool) := if (l0.length : Int) = (l1.length : Int) then (laws_eqPartS.l0 k l0 l1 0) else (some false)
theorem laws_eqPartS.mono_l : ∀ k, (∀ y0 y1 y2, LeO (laws_eqPartS.l0 k y0 y1 y2) (laws_eqPartS.l0 (k + 1) y0 y1 y2))
 | 0 => fun _ _ _ r h => by simp [laws_eqPartS.l0] at h
 | k + 1 => by
  have ih0 := laws_eqPartS.mono_l k
  intro y0 y1 y2
  unfold laws_eqPartS.l0
  repeat' first | (with_reducible exact ih0 _ _ _) | (with_reducible exact laws_eqPart.mono _ _ _ _ _ _ _) | (with_reducible exact LeO.refl _) | (with_reducible exact LeO.none _) | (with_reducible refine LeO.ite ?_ ?_) | (with_reducible refine LeO.bind ?_ (fun _ => ?_))
theorem laws_eqPartS.mono : ∀ a0 a1 k, LeO (laws_eqPartS.f k a0 a1) (laws_eqPartS.f (k + 1) a0 a1) := by
 intro a0 a1 k
 have ih0 := laws_eqPartS.mono_l k
 unfold laws_eqPartS.f
 repeat' first | (with_reducible exact ih0 _ _ _) | (with_reducible exact laws_eqPart.mono _ _ _ _ _ _ _) | (with_reducible exact LeO.refl _) | (with_reducible exact LeO.none _) | (with_reducible refine LeO.ite ?_ ?_) | (with_reducible refine LeO.bind ?_ (fun _ => ?_))
def laws_eqPartS.T6 : Bool × List (List Nat × List Nat) := (true, [([], []), ([], []), ([0, 1], [0, 1]), ([2], [2]), ([], []), ([], []), ([4, 5], [4, 5]), ([6], [6]), ([3, 7], [3, 7]), ([8], [8])])
def laws_eqPartS.B6 : List Nat := [0, 0, 3, 7, 0, 0, 48, 112, 255, 511]
theorem laws_eqPartS.tab6 : rtab .any (opsOf Try.f10 6) = laws_eqPartS.T6 := by kernel_rfl
theorem laws_eqPartS.bits6 : waitsOk laws_eqPartS.T6.2 laws_eqPartS.B6 = true := by kernel_rfl
set_option maxHeartbeats 8000000 in
set_option maxRecDepth 100000 in
theorem laws_eqPartS.calls (k : Nat) (A0 : Option Addr) (c0 : Nat) (l0 : List (S26)) (A1 : Option Addr) (c1 : Nat) (l1 : List (S26)) (r : Bool) (w : World) (hr0 : Kd.C k26 w A0 l0.length l0) (hc0 : l0.length ≤ c0) (hr1 : Kd.C k26 w A1 l1.length l1) (hc1 : l1.length ≤ c1) (h : laws_eqPartS.f k l0 l1 = some r) :
  Calls Try.prog 10 #[.slice A0 l0.length c0, .slice A1 l1.length c1] w fun e w' => e = .returned (.bool r) ∧ Below w.heap.size w w' := by
 have hu26 := Try.underlying26; have HR0 := Aside0.mk hr0; have HC0 := Aside0.mk hc0; clear hr0 hc0; have HR1 := Aside0.mk hr1; have HC1 := Aside0.mk hc1; clear hr1 hc1; have HB := Aside0.mk (Below.refl w.heap.size w); have H := h; unfold laws_eqPartS.f at H; clear h
 by_cases c3 : (l0.length : Int) = (l1.length : Int)
 ·
  rw [if_pos c3] at H
  have c3b0 : ((l0.length : Int) == (l1.length : Int)) = true := beq_iff_eq.mpr c3; have c3b1 : ((l0.length : Int) != (l1.length : Int)) = false := bne_eq_false_iff_eq.mpr c3
  have c3b2 : (l0.length == l1.length) = true := by first | simpa using c3 | (simp at c3 ⊢; omega)
  clear c3; have H' := Aside0.mk H; clear H
  go_enter Try.func10, Try.ntmps10
  go_wp2
  go_loopg [5] k (fun kq v5 w' => ∃ (x5_1 : Int), v5 = .int .i64 x5_1 ∧ Aside0 (laws_eqPartS.l0 kq l0 l1 x5_1 = some r) ∧ Aside0 (kq ≤ k) ∧ Aside0 (Below w.heap.size w w'))
  case atStart => exact ⟨(0), y0_5, H', ⟨Nat.le_refl _⟩, ⟨bI HB.out⟩⟩
  case round =>
   clear H'
   try clear c1
   try clear p2
   try clear c3
   try clear c3b0
   try clear c3b1
   try clear c3b2
   obtain ⟨x5_1, rfl, HA, HK1, HB⟩ := hrel; cases gk with
   | zero => exact absurd HA.out (by simp [laws_eqPartS.l0])
   | succ k1 =>
    have H := HA.out; clear HA
    simp only [laws_eqPartS.l0] at H
    by_cases c4 : x5_1 < (l0.length : Int)
    ·
     rw [if_pos c4] at H
     have c4b0 : decide (x5_1 < (l0.length : Int)) = true := decide_eq_true c4; clear c4
     by_cases c5 : 0 ≤ x5_1
     rotate_left
     ·
      rw [if_neg c5] at H
      exact absurd H (by simp)
     rw [if_pos c5] at H
     have c5b0 : decide (0 ≤ x5_1) = true := decide_eq_true c5; clear c5
     by_cases c6 : x5_1 < (l1.length : Int)
     rotate_left
     ·
      rw [if_neg c6] at H
      exact absurd H (by simp)
     rw [if_pos c6] at H
     have c6b0 : decide (x5_1 < (l1.length : Int)) = true := decide_eq_true c6; clear c6; obtain ⟨t133, A7, H⟩ := oB H; (try dsimp only at H)
     by_cases c8 : t133 = true
     ·
      subst c8
      rw [if_pos rfl] at H
      have H' := Aside0.mk H; clear H
      try go_wp2
      replace HB := Aside0.mk (below_drew1 HB.out); have p131 : 0 ≤ (x5_1 : Int) := of_decide_eq_true y0_4; have q131 : x5_1 < (l0.length : Int) := of_decide_eq_true y0_4; obtain ⟨ad131, A131_2, c131_2, e131, hx131_0, hx131_1, hx131_2, hl131_2, hi131_2⟩ := at_T26 HR0.out x5_1 p131 q131; have hr131_2 := hx131_2; have hw131_2 := hx131_2; have hw131_1 := hx131_1; have hw131_0 := hx131_0; cases e131; replace hx131_0 := bx HB hx131_0; replace hx131_1 := bx HB hx131_1; replace hx131_2 := bx HB hx131_2; have HR131_2 := Aside0.mk hi131_2; have HC131_2 := Aside0.mk hl131_2; clear hi131_2 hl131_2; replace p131 := eq_true p131; replace q131 := eq_true q131; have p132 : 0 ≤ (x5_1 : Int) := of_decide_eq_true y0_4; have q132 : x5_1 < (l1.length : Int) := of_decide_eq_true y0_4; obtain ⟨ad132, A132_2, c132_2, e132, hx132_0, hx132_1, hx132_2, hl132_2, hi132_2⟩ := at_T26 HR1.out x5_1 p132 q132; have hr132_2 := hx132_2; have hw132_2 := hx132_2; have hw132_1 := hx132_1; have hw132_0 := hx132_0; cases e132; replace hx132_0 := bx HB hx132_0; replace hx132_1 := bx HB hx132_1; replace hx132_2 := bx HB hx132_2; have HR132_2 := Aside0.mk hi132_2; have HC132_2 := Aside0.mk hl132_2; clear hi132_2 hl132_2; replace p132 := eq_true p132; replace q132 := eq_true q132
      refine start_ (n := 10) (S := fun w' => w'.cell? (ad131.add ((x5_1).toNat * 3)) = some (.int .i64 ((rd_T26 l0 x5_1).f0)) ∧ w'.cell? ⟨(ad131.add ((x5_1).toNat * 3)).block, (ad131.add ((x5_1).toNat * 3)).off + 1, none⟩ = some (.string ((rd_T26 l0 x5_1).f1)) ∧ w'.cell? ⟨(ad131.add ((x5_1).toNat * 3)).block, (ad131.add ((x5_1).toNat * 3)).off + 2, none⟩ = some (.slice A131_2 ((rd_T26 l0 x5_1).f2).length c131_2) ∧ w'.cell? (ad132.add ((x5_1).toNat * 3)) = some (.int .i64 ((rd_T26 l1 x5_1).f0)) ∧ w'.cell? ⟨(ad132.add ((x5_1).toNat * 3)).block, (ad132.add ((x5_1).toNat * 3)).off + 1, none⟩ = some (.string ((rd_T26 l1 x5_1).f1)) ∧ w'.cell? ⟨(ad132.add ((x5_1).toNat * 3)).block, (ad132.add ((x5_1).toNat * 3)).off + 2, none⟩ = some (.slice A132_2 ((rd_T26 l1 x5_1).f2).length c132_2)) (ds := []) #[false, false, false, false, false, false, false, false, false, false] (by kernel_rfl) rfl rfl ⟨(bx HB hw131_0), (bx HB hw131_1), (bx HB hw131_2), (bx HB hw132_0), (bx HB hw132_1), (bx HB hw132_2)⟩ (fun hHeld => ?_); refine with_tabW laws_eqPartS.tab6 laws_eqPartS.bits6 (fun HT_ HW_ => ?_)
      generalize wr.drew = w9 at HB HR131_2 HR132_2 hx131_0 hx131_1 hx131_2 hx132_0 hx132_1 hx132_2 hHeld ⊢
      refine pA 0 (some 17) (bz 10 1) HT_ ?_
      refine pA 1 (some 18) (bz 10 3) HT_ ?_
      refine pA 2 (some 19) (bz 10 7) HT_ ?_
      refine pA 4 (some 21) (bz 10 23) HT_ ?_
      refine pA 5 (some 22) (bz 10 55) HT_ ?_
      refine pA 6 (some 23) (bz 10 119) HT_ ?_
      refine tA 3 (some 20) (bz 10 127) HT_ HW_ hHeld ?_
      refine tA 7 (some 24) (bz 10 255) HT_ HW_ hHeld ?_
      refine oA 8 (some 25) (bz 10 511) HT_ (fun K hK => ?_)
      refine gA Try.func9 #[.agg #[.int .i64 ((rd_T26 l0 x5_1).f0), .string ((rd_T26 l0 x5_1).f1), .slice A131_2 ((rd_T26 l0 x5_1).f2).length c131_2], .agg #[.int .i64 ((rd_T26 l1 x5_1).f0), .string ((rd_T26 l1 x5_1).f1), .slice A132_2 ((rd_T26 l1 x5_1).f2).length c132_2]] ?_
      with_reducible refine (laws_eqPart.calls k1 ((rd_T26 l0 x5_1).f0) ((rd_T26 l0 x5_1).f1) _ _ ((rd_T26 l0 x5_1).f2) ((rd_T26 l1 x5_1).f0) ((rd_T26 l1 x5_1).f1) _ _ ((rd_T26 l1 x5_1).f2) true _ ?side1 ?side2 ?side3 ?side4 A7.out).mono ?_
      (case side1 => exact ch HR131_2 HB)
      (case side2 => exact HC131_2.out)
      (case side3 => exact ch HR132_2 HB)
      (case side4 => exact HC132_2.out)
      rintro e w10 ⟨rfl, hb⟩
      refine ⟨_, rfl, ?_⟩
      replace HB := bs HB hb
      (try clear hb)
      (try clear hb2)
      (try clear hk)
      (try clear hi)
      refine hK.out _ _ ⟨(bx HB hw131_0), (bx HB hw131_1), (bx HB hw131_2), (bx HB hw132_0), (bx HB hw132_1), (bx HB hw132_2)⟩ (fun hHeld => ?_)
      clear hK K
      refine nA (some 25) ?_
      refine pA 9 (some 26) (bz 10 1023) HT_ ?_
      refine done_ (done_of HT_.out (by kernel_rfl)) ?_
      try go_wp2
      go_roundg k1
      case measure => have := HK1.out; omega
      case rel => exact ⟨(wrap64 (x5_1 + 1)), y0_5, H', ⟨y0_6⟩, ⟨bI HB.out⟩⟩
     replace c8 := Bool.eq_false_iff.mpr c8; subst c8
     rw [if_neg (show ¬ (false = true) by decide)] at H
     obtain rfl := Option.some.inj H
     try go_wp2
     replace HB := Aside0.mk (below_drew1 HB.out); have p131 : 0 ≤ (x5_1 : Int) := of_decide_eq_true y0_4; have q131 : x5_1 < (l0.length : Int) := of_decide_eq_true y0_4; obtain ⟨ad131, A131_2, c131_2, e131, hx131_0, hx131_1, hx131_2, hl131_2, hi131_2⟩ := at_T26 HR0.out x5_1 p131 q131; have hr131_2 := hx131_2; have hw131_2 := hx131_2; have hw131_1 := hx131_1; have hw131_0 := hx131_0; cases e131; replace hx131_0 := bx HB hx131_0; replace hx131_1 := bx HB hx131_1; replace hx131_2 := bx HB hx131_2; have HR131_2 := Aside0.mk hi131_2; have HC131_2 := Aside0.mk hl131_2; clear hi131_2 hl131_2; replace p131 := eq_true p131; replace q131 := eq_true q131; have p132 : 0 ≤ (x5_1 : Int) := of_decide_eq_true y0_4; have q132 : x5_1 < (l1.length : Int) := of_decide_eq_true y0_4; obtain ⟨ad132, A132_2, c132_2, e132, hx132_0, hx132_1, hx132_2, hl132_2, hi132_2⟩ := at_T26 HR1.out x5_1 p132 q132; have hr132_2 := hx132_2; have hw132_2 := hx132_2; have hw132_1 := hx132_1; have hw132_0 := hx132_0; cases e132; replace hx132_0 := bx HB hx132_0; replace hx132_1 := bx HB hx132_1; replace hx132_2 := bx HB hx132_2; have HR132_2 := Aside0.mk hi132_2; have HC132_2 := Aside0.mk hl132_2; clear hi132_2 hl132_2; replace p132 := eq_true p132; replace q132 := eq_true q132
     refine start_ (n := 10) (S := fun w' => w'.cell? (ad131.add ((x5_1).toNat * 3)) = some (.int .i64 ((rd_T26 l0 x5_1).f0)) ∧ w'.cell? ⟨(ad131.add ((x5_1).toNat * 3)).block, (ad131.add ((x5_1).toNat * 3)).off + 1, none⟩ = some (.string ((rd_T26 l0 x5_1).f1)) ∧ w'.cell? ⟨(ad131.add ((x5_1).toNat * 3)).block, (ad131.add ((x5_1).toNat * 3)).off + 2, none⟩ = some (.slice A131_2 ((rd_T26 l0 x5_1).f2).length c131_2) ∧ w'.cell? (ad132.add ((x5_1).toNat * 3)) = some (.int .i64 ((rd_T26 l1 x5_1).f0)) ∧ w'.cell? ⟨(ad132.add ((x5_1).toNat * 3)).block, (ad132.add ((x5_1).toNat * 3)).off + 1, none⟩ = some (.string ((rd_T26 l1 x5_1).f1)) ∧ w'.cell? ⟨(ad132.add ((x5_1).toNat * 3)).block, (ad132.add ((x5_1).toNat * 3)).off + 2, none⟩ = some (.slice A132_2 ((rd_T26 l1 x5_1).f2).length c132_2)) (ds := []) #[false, false, false, false, false, false, false, false, false, false] (by kernel_rfl) rfl rfl ⟨(bx HB hw131_0), (bx HB hw131_1), (bx HB hw131_2), (bx HB hw132_0), (bx HB hw132_1), (bx HB hw132_2)⟩ (fun hHeld => ?_); refine with_tabW laws_eqPartS.tab6 laws_eqPartS.bits6 (fun HT_ HW_ => ?_)
     generalize wr.drew = w11 at HB HR131_2 HR132_2 hx131_0 hx131_1 hx131_2 hx132_0 hx132_1 hx132_2 hHeld ⊢
     refine pA 0 (some 17) (bz 10 1) HT_ ?_
     refine pA 1 (some 18) (bz 10 3) HT_ ?_
     refine pA 2 (some 19) (bz 10 7) HT_ ?_
     refine pA 4 (some 21) (bz 10 23) HT_ ?_
     refine pA 5 (some 22) (bz 10 55) HT_ ?_
     refine pA 6 (some 23) (bz 10 119) HT_ ?_
     refine tA 3 (some 20) (bz 10 127) HT_ HW_ hHeld ?_
     refine tA 7 (some 24) (bz 10 255) HT_ HW_ hHeld ?_
     refine oA 8 (some 25) (bz 10 511) HT_ (fun K hK => ?_)
     refine gA Try.func9 #[.agg #[.int .i64 ((rd_T26 l0 x5_1).f0), .string ((rd_T26 l0 x5_1).f1), .slice A131_2 ((rd_T26 l0 x5_1).f2).length c131_2], .agg #[.int .i64 ((rd_T26 l1 x5_1).f0), .string ((rd_T26 l1 x5_1).f1), .slice A132_2 ((rd_T26 l1 x5_1).f2).length c132_2]] ?_
     with_reducible refine (laws_eqPart.calls k1 ((rd_T26 l0 x5_1).f0) ((rd_T26 l0 x5_1).f1) _ _ ((rd_T26 l0 x5_1).f2) ((rd_T26 l1 x5_1).f0) ((rd_T26 l1 x5_1).f1) _ _ ((rd_T26 l1 x5_1).f2) false _ ?side1 ?side2 ?side3 ?side4 A7.out).mono ?_
     (case side1 => exact ch HR131_2 HB)
     (case side2 => exact HC131_2.out)
     (case side3 => exact ch HR132_2 HB)
     (case side4 => exact HC132_2.out)
     rintro e w12 ⟨rfl, hb⟩
     refine ⟨_, rfl, ?_⟩
     replace HB := bs HB hb
     (try clear hb)
     (try clear hb2)
     (try clear hk)
     (try clear hi)
     refine hK.out _ _ ⟨(bx HB hw131_0), (bx HB hw131_1), (bx HB hw131_2), (bx HB hw132_0), (bx HB hw132_1), (bx HB hw132_2)⟩ (fun hHeld => ?_)
     clear hK K
     refine nA (some 25) ?_
     refine pA 9 (some 26) (bz 10 1023) HT_ ?_
     refine done_ (done_of HT_.out (by kernel_rfl)) ?_
     try go_wp2
     go_ret
     exact ⟨y0_2, bI HB.out⟩
    rw [if_neg c4] at H
    have c4b0 : decide (x5_1 < (l0.length : Int)) = false := decide_eq_false c4; clear c4; obtain rfl := Option.some.inj H
    go_wp2
    go_ret
    exact ⟨y0_2, bI HB.out⟩
 rw [if_neg c3] at H
 have c3b0 : ((l0.length : Int) == (l1.length : Int)) = false := beq_eq_false_iff_ne.mpr c3; have c3b1 : ((l0.length : Int) != (l1.length : Int)) = true := bne_iff_ne.mpr c3
 have c3b2 : (l0.length == l1.length) = false := by first | simpa using c3 | (simp at c3 ⊢; omega)
 obtain rfl := Option.some.inj H
 go_enter Try.func10, Try.ntmps10
 go_wp2
 go_ret
 exact ⟨y0_2, bI HB.out⟩

/-! ### laws_markText: function 22 -/
def laws_markText.l0 : Nat → Int → ByteArray → Option (ByteArray)
 | 0, _, _ => none
 | k + 1, x0, x3 => if x0 > 0 then ((some (([(wrap64 (48 + (Int.tmod x0 10))) % 256] : List Int) : List Int)).bind fun y134 => (if (strOfNums y134).size + x3.size ≤ 9223372036854775807 then (laws_markText.l0 k (wrap64 (Int.tdiv x0 10)) ((strOfNums y134) ++ x3)) else (none))) else (if 1 + x3.size ≤ 9223372036854775807 then (some ((⟨#[109]⟩ : ByteArray) ++ x3)) else (none))
def laws_markText.f (k : Nat) (a0 : Int) : Option (ByteArray) := if a0 ≤ 0 then (some (⟨#[109, 48]⟩ : ByteArray)) else (laws_markText.l0 k a0 (⟨#[]⟩ : ByteArray))
theorem laws_markText.mono_l : ∀ k, (∀ y0 y1, LeO (laws_markText.l0 k y0 y1) (laws_markText.l0 (k + 1) y0 y1))
 | 0 => fun _ _ r h => by simp [laws_markText.l0] at h
 | k + 1 => by
  have ih0 := laws_markText.mono_l k
  intro y0 y1
  unfold laws_markText.l0
  repeat' first | (with_reducible exact ih0 _ _) | (with_reducible exact LeO.refl _) | (with_reducible exact LeO.none _) | (with_reducible refine LeO.ite ?_ ?_) | (with_reducible refine LeO.bind ?_ (fun _ => ?_))
theorem laws_markText.mono : ∀ a0 k, LeO (laws_markText.f k a0) (laws_markText.f (k + 1) a0) := by
 intro a0 k
 have ih0 := laws_markText.mono_l k
 unfold laws_markText.f
 repeat' first | (with_reducible exact ih0 _ _) | (with_reducible exact LeO.refl _) | (with_reducible exact LeO.none _) | (with_reducible refine LeO.ite ?_ ?_) | (with_reducible refine LeO.bind ?_ (fun _ => ?_))
set_option maxHeartbeats 8000000 in
set_option maxRecDepth 100000 in
theorem laws_markText.calls (k : Nat) (a0 : Int) (r : ByteArray) (w : World) (h : laws_markText.f k a0 = some r) :
  Calls Try.prog 22 #[.int .i64 a0] w fun e w' => e = .returned (.string r) ∧ Below w.heap.size w w' := by
 have HB := Aside0.mk (Below.refl w.heap.size w); have H := h; unfold laws_markText.f at H; clear h
 by_cases c2 : a0 ≤ 0
 ·
  rw [if_pos c2] at H
  have c2b0 : decide (a0 ≤ 0) = true := decide_eq_true c2; clear c2; obtain rfl := Option.some.inj H
  go_enter Try.func22, Try.ntmps22
  go_wp2
  go_ret
  exact ⟨y0_2, bI HB.out⟩
 rw [if_neg c2] at H
 have c2b0 : decide (a0 ≤ 0) = false := decide_eq_false c2; clear c2; have H' := Aside0.mk H; clear H
 go_enter Try.func22, Try.ntmps22
 go_wp2
 go_loopg [0, 3] k (fun kq v0 v3 w' => ∃ (x0_1 : Int) (x3_1 : ByteArray), v0 = .int .i64 x0_1 ∧ v3 = .string x3_1 ∧ Aside0 (laws_markText.l0 kq x0_1 x3_1 = some r) ∧ Aside0 (kq ≤ k) ∧ Aside0 (Below w.heap.size w w'))
 case atStart => exact ⟨(a0), ((⟨#[]⟩ : ByteArray)), y0_5, y0_5, H', ⟨Nat.le_refl _⟩, ⟨bI HB.out⟩⟩
 case round =>
  clear H'
  try clear c2
  try clear c2b0
  try clear p2
  obtain ⟨x0_1, x3_1, rfl, rfl, HA, HK1, HB⟩ := hrel; cases gk with
  | zero => exact absurd HA.out (by simp [laws_markText.l0])
  | succ k1 =>
   have H := HA.out; clear HA
   simp only [laws_markText.l0] at H
   by_cases c3 : x0_1 > 0
   ·
    rw [if_pos c3] at H
    have c3b0 : decide (0 < x0_1) = true := decide_eq_true c3; clear c3; obtain ⟨y134, hy134⟩ : ∃ y_ : List Int, y_ = (([(wrap64 (48 + (Int.tmod x0_1 10))) % 256] : List Int)) := ⟨_, rfl⟩
    replace H : (if (strOfNums y134).size + x3_1.size ≤ 9223372036854775807 then (laws_markText.l0 k1 (wrap64 (Int.tdiv x0_1 10)) ((strOfNums y134) ++ x3_1)) else (none)) = some r := by first | (rw [hy134]; with_reducible exact H) | (have H2_ := (Option.bind_some _ _).symm.trans H; rw [hy134]; with_reducible exact H2_) | (have H2_ := (Option.bind_some _ _).symm.trans H; with_reducible exact H2_) | with_reducible exact H | (rw [hy134]; exact H) | exact H
    have Ny134 := Aside0.mk hy134; clear hy134
    by_cases c4 : (strOfNums y134).size + x3_1.size ≤ 9223372036854775807
    rotate_left
    ·
     rw [if_neg c4] at H
     exact absurd H (by simp)
    rw [if_pos c4] at H
    have c4b0 := eq_true c4; have c4b1 : decide ((strOfNums y134).size + x3_1.size ≤ 9223372036854775807) = true := decide_eq_true c4
    try have c4b2 : (9223372036854775807 < (strOfNums y134).size + x3_1.size) = False := eq_false (Nat.not_lt.2 c4)
    have H' := Aside0.mk H; clear H
    go_wp2_with (first | ((with_reducible refine gate_dst (N := 12) rfl ?_); refine Kd.R_lit (Kd.int .u8) _ 5 ?hg (N := 12) ?hd (xs := ([(wrap64 (48 + (Int.tmod x0_1 10))) % 256] : List Int)) (inner := [.int .u8 ((wrap64 (48 + (Int.tmod x0_1 10))) % 256)]) (ok := fun _ => True) (okp := fun _ => True) ?hr ?hp (fun _ hk => hk) trivial (Below.refl _ _) (Nat.le_refl _) (by simp) ?_; (case hd => rfl); (case hg => rfl); (case hr => first | (go_simp; done) | (go_simp; rfl)); (case hp => exact (Reps.one (show Kd.M (Kd.int .u8) _ _ _ ((wrap64 (48 + (Int.tmod x0_1 10))) % 256) [.int .u8 ((wrap64 (48 + (Int.tmod x0_1 10))) % 256)] from rfl) (Reps.none _ _))); intro v135 w5 ho6 hb hg_ hnew_; clear hg_ hnew_; (first | rw [← Ny134.out] at ho6 | (simp only [Int.reduceToNat] at ho6; rw [← Ny134.out] at ho6)); have HO136 := Aside0.mk (Kd.R_lower ho6 (below_size (bI HB.out))); replace HB := bs HB hb; clear hb ho6; have hcv7 := own_string (P := Try.prog) Try.underlying45 Try.underlying5 Try.underlying9 (Kd.own_of_R HO136.out)))
    go_roundg k1
    case measure => have := HK1.out; omega
    case rel => exact ⟨(wrap64 (Int.tdiv x0_1 10)), ((strOfNums y134) ++ x3_1), y0_5, y0_5, H', ⟨y0_6⟩, ⟨bI HB.out⟩⟩
   rw [if_neg c3] at H
   have c3b0 : decide (0 < x0_1) = false := decide_eq_false c3; clear c3
   by_cases c8 : 1 + x3_1.size ≤ 9223372036854775807
   ·
    rw [if_pos c8] at H
    have c8b0 := eq_true c8; have c8b1 : decide (1 + x3_1.size ≤ 9223372036854775807) = true := decide_eq_true c8
    try have c8b2 : (9223372036854775807 < 1 + x3_1.size) = False := eq_false (Nat.not_lt.2 c8)
    obtain rfl := Option.some.inj H
    go_wp2
    go_ret
    exact ⟨y0_2, bI HB.out⟩
   rw [if_neg c8] at H
   exact absurd H (by simp)

/-! ### laws_markIntS: function 23 -/
def laws_markIntS.l0 : Nat → List Int → Int → Int → Option (Int × List Int)
 | 0, _, _, _ => none
 | k + 1, x0, x1, x5 => if x5 < (x0.length : Int) then (if 0 ≤ x5 then (laws_markIntS.l0 k (x0.set (x5 : Int).toNat x1) (wrap64 (x1 + 1)) (wrap64 (x5 + 1))) else (none)) else (some (x1, x0))
def laws_markIntS.f (k : Nat) (l0 : List Int) (a1 : Int) : Option (Int × List Int) := laws_markIntS.l0 k l0 a1 0
theorem laws_markIntS.mono_l : ∀ k, (∀ y0 y1 y2, LeO (laws_markIntS.l0 k y0 y1 y2) (laws_markIntS.l0 (k + 1) y0 y1 y2))
 | 0 => fun _ _ _ r h => by simp [laws_markIntS.l0] at h
 | k + 1 => by
  have ih0 := laws_markIntS.mono_l k
  intro y0 y1 y2
  unfold laws_markIntS.l0
  repeat' first | (with_reducible exact ih0 _ _ _) | (with_reducible exact LeO.refl _) | (with_reducible exact LeO.none _) | (with_reducible refine LeO.ite ?_ ?_) | (with_reducible refine LeO.bind ?_ (fun _ => ?_))
theorem laws_markIntS.mono : ∀ a0 a1 k, LeO (laws_markIntS.f k a0 a1) (laws_markIntS.f (k + 1) a0 a1) := by
 intro a0 a1 k
 have ih0 := laws_markIntS.mono_l k
 unfold laws_markIntS.f
 repeat' first | (with_reducible exact ih0 _ _ _) | (with_reducible exact LeO.refl _) | (with_reducible exact LeO.none _) | (with_reducible refine LeO.ite ?_ ?_) | (with_reducible refine LeO.bind ?_ (fun _ => ?_))
set_option maxHeartbeats 8000000 in
set_option maxRecDepth 100000 in
theorem laws_markIntS.calls (k : Nat) (P0_ : Nat → Prop) (u9000_ : Value) (l0 : List Int) (a1 : Int) (r1 : Int) (r2 : List Int) (w0 w : World) (hB : Below w0.heap.size w0 w) (ho0 : Kd.R (Kd.int .i64) 3 w w0.heap.size P0_ u9000_ l0) (h : laws_markIntS.f k l0 a1 = some (r1, r2)) :
  Calls Try.prog 23 #[u9000_, .int .i64 a1] w fun e w' => e = .returned (.int .i64 r1) ∧ Kd.R (Kd.int .i64) 3 w' w0.heap.size (fun k_ => (P0_ k_ ∨ w.heap.size ≤ k_)) u9000_ r2 ∧ Below w0.heap.size w0 w' ∧ Kept w w' (fun k_ => P0_ k_) := by
 have HO0 := Aside0.mk (show Kd.R (Kd.int .i64) 3 w w0.heap.size (fun k_ => (P0_ k_ ∨ w.heap.size ≤ k_)) u9000_ l0 from Kd.R_mono ho0 (fun k_ hk => (.inl hk)))
 have HK := Aside0.mk (Kept.refl w (fun k_ => P0_ k_))
 have HW0 := Aside0.mk hB.size; have HB := Aside0.mk hB; clear hB; have H := h; unfold laws_markIntS.f at H; clear h; have H' := Aside0.mk H; clear H
 go_enter Try.func23, Try.ntmps23
 go_wp2
 go_loopg [1, 5] k (fun kq v1 v5 w' => ∃ (x0_1 : List Int) (x1_1 : Int) (x5_1 : Int), v1 = .int .i64 x1_1 ∧ v5 = .int .i64 x5_1 ∧ Aside0 (laws_markIntS.l0 kq x0_1 x1_1 x5_1 = some (r1, r2)) ∧ Aside0 (kq ≤ k) ∧ Aside0 (Kd.R (Kd.int .i64) 3 w' w0.heap.size (fun k_ => (P0_ k_ ∨ w.heap.size ≤ k_)) u9000_ x0_1) ∧ Aside0 (Kept w w' (fun k_ => P0_ k_)) ∧ Aside0 (Below w0.heap.size w0 w'))
 case atStart => exact ⟨(l0), (a1), (0), y0_5, y0_5, H', ⟨Nat.le_refl _⟩, ⟨by (with_reducible repeat (first | apply Kd.R_alloc | apply Kd.R_drewN | apply Kd.R_drew)); exact HO0.out⟩, ⟨y0_0⟩, ⟨bI HB.out⟩⟩
 case round =>
  clear H'
  try clear c2
  try clear p2
  obtain ⟨x0_1, x1_1, x5_1, rfl, rfl, HA, HK1, HO_0, HK, HB⟩ := hrel; cases gk with
  | zero => exact absurd HA.out (by simp [laws_markIntS.l0])
  | succ k1 =>
   have H := HA.out; clear HA
   simp only [laws_markIntS.l0] at H
   by_cases c3 : x5_1 < (x0_1.length : Int)
   ·
    rw [if_pos c3] at H
    have c3b0 : decide (x5_1 < (x0_1.length : Int)) = true := decide_eq_true c3; clear c3
    by_cases c4 : 0 ≤ x5_1
    rotate_left
    ·
     rw [if_neg c4] at H
     exact absurd H (by simp)
    rw [if_pos c4] at H
    have c4b0 : decide (0 ≤ x5_1) = true := decide_eq_true c4; clear c4; obtain ⟨y137, hy137⟩ : ∃ y_ : List Int, y_ = (x0_1.set (x5_1 : Int).toNat x1_1) := ⟨_, rfl⟩
    replace H : (laws_markIntS.l0 k1 y137 (wrap64 (x1_1 + 1)) (wrap64 (x5_1 + 1))) = some (r1, r2) := by first | (rw [hy137]; with_reducible exact H) | (have H2_ := (Option.bind_some _ _).symm.trans H; rw [hy137]; with_reducible exact H2_) | (have H2_ := (Option.bind_some _ _).symm.trans H; with_reducible exact H2_) | with_reducible exact H | (rw [hy137]; exact H) | exact H
    have Ny137 := Aside0.mk hy137; clear hy137; have H' := Aside0.mk H; clear H; obtain ⟨Ao6, co6, eo6⟩ := Kd.R_slice HO_0.out; subst eo6; have p5 : 0 ≤ (x5_1 : Int) := of_decide_eq_true y0_4; have q5 : (x5_1 : Int) < ((x0_1.length : Int) : Int) := of_decide_eq_true y0_4
    obtain ⟨go5, co5, eo5, gb5, gl5, cl5, HG5⟩ := Kd.R_form HO_0.out (by omega)
    (first | cases eo5 | (injection eo5 with ea_ en_ ec_; (first | subst ea_ | (injection ea_ with ea_; subst ea_)); subst ec_; clear en_))
    have GB5 := Aside0.mk gb5; have GG5 := Aside0.mk HG5; clear gb5 gl5 HG5
    have HMgo5 := Aside0.mk (show (P0_ go5 ∨ w.heap.size ≤ go5) from (HO_0.out.1 _ rfl))
    obtain ⟨hx5_0, hf5_0⟩ := Kd.R_celln 0 HO_0.out (x5_1 : Int) p5 q5; replace p5 := eq_true p5; replace q5 := eq_true q5; have HP7 := Kd.R_putg HO_0.out (x5_1 : Int) x1_1
    go_wp2_with (first | ((with_reducible refine gate_store (t := 3) (p := 15) rfl ?_); refine store_event (t := 3) (p := 15) (v := ?vo_w8) (w1 := (wr.setCell ⟨go5, (x5_1 : Int).toNat, none⟩ (.int .i64 x1_1))) ?hg ?ho ?hn ?hr ?_; (case ho => rfl); (case hg => rfl); (case hn => rfl); (case hr => first | (go_simp; done) | (go_simp; rfl)); intro w8 hw; have hg : wr.grownBy w8 (some go5) := (by rw [hw]; exact HP7.2); have hp_ : Kd.R (Kd.int .i64) 3 w8 w0.heap.size (fun k_ => (P0_ k_ ∨ w.heap.size ≤ k_)) (.slice (some ⟨go5, 0, none⟩) x0_1.length co6) y137 := (by rw [hw, Ny137.out]; exact HP7.1); clear HP7; replace HB := Aside0.mk ((by rw [hw]; exact below_set (HB.out) GB5.out : Below w0.heap.size w0 w8)); replace HK := Aside0.mk (Kept.of_grown (S := (fun k_ => P0_ k_)) hg y0_0 (fun k_ e_ => (HO_0.out.1 k_ e_))); replace HO_0 := Aside0.mk (hp_); clear hg hw hp_))
    go_roundg k1
    case measure => have := HK1.out; omega
    case rel => exact ⟨(y137), (wrap64 (x1_1 + 1)), (wrap64 (x5_1 + 1)), y0_5, y0_5, H', ⟨y0_6⟩, ⟨by (with_reducible repeat (first | apply Kd.R_alloc | apply Kd.R_drewN | apply Kd.R_drew)); exact HO_0.out⟩, ⟨y0_0⟩, ⟨bI HB.out⟩⟩
   rw [if_neg c3] at H
   have c3b0 : decide (x5_1 < (x0_1.length : Int)) = false := decide_eq_false c3; clear c3
   simp only [Option.some.injEq, Prod.mk.injEq] at H
   obtain ⟨rfl, rfl⟩ := H; obtain ⟨Ao9, co9, eo9⟩ := Kd.R_slice HO_0.out; subst eo9
   go_wp2
   go_ret
   exact ⟨y0_2, by (with_reducible repeat (first | apply Kd.R_alloc | apply Kd.R_drewN | apply Kd.R_drew)); exact HO_0.out, bI HB.out, y0_0⟩

/-! ### laws_markPartS: function 11 -/
def laws_markPartS.l0 : Nat → List (S26) → Int → Int → Option (Int × List (S26))
 | 0, _, _, _ => none
 | k + 1, x0, x1, x5 => if x5 < (x0.length : Int) then (if 0 ≤ x5 then ((laws_markText.f k (wrap64 (x1 + 1))).bind fun bt1 => ((laws_markIntS.f k ((rd_T26 x0 x5).f2) (wrap64 (wrap64 (x1 + 1) + 1))).bind fun bt2 => (laws_markPartS.l0 k (x0.set (x5 : Int).toNat (⟨x1, bt1, bt2.2⟩ : S26)) bt2.1 (wrap64 (x5 + 1))))) else (none)) else (some (x1, x0))
def laws_markPartS.f (k : Nat) (l0 : List (S26)) (a1 : Int) : Option (Int × List (S26)) := laws_markPartS.l0 k l0 a1 0
theorem laws_markPartS.mono_l : ∀ k, (∀ y0 y1 y2, LeO (laws_markPartS.l0 k y0 y1 y2) (laws_markPartS.l0 (k + 1) y0 y1 y2))
 | 0 => fun _ _ _ r h => by simp [laws_markPartS.l0] at h
 | k + 1 => by
  have ih0 := laws_markPartS.mono_l k
  intro y0 y1 y2
  unfold laws_markPartS.l0
  repeat' first | (with_reducible exact ih0 _ _ _) | (with_reducible exact laws_markText.mono _ _) | (with_reducible exact laws_markIntS.mono _ _ _) | (with_reducible exact LeO.refl _) | (with_reducible exact LeO.none _) | (with_reducible refine LeO.ite ?_ ?_) | (with_reducible refine LeO.bind ?_ (fun _ => ?_))
theorem laws_markPartS.mono : ∀ a0 a1 k, LeO (laws_markPartS.f k a0 a1) (laws_markPartS.f (k + 1) a0 a1) := by
 intro a0 a1 k
 unfold laws_markPartS.f
 exact laws_markPartS.mono_l k _ _ _
set_option maxHeartbeats 8000000 in
set_option maxRecDepth 100000 in
theorem laws_markPartS.calls (k : Nat) (P0_ : Nat → Prop) (u9000_ : Value) (l0 : List (S26)) (a1 : Int) (r1 : Int) (r2 : List (S26)) (base : Nat) (w0 w : World) (hB : Below w0.heap.size w0 w) (ho0 : Kd.S k26 26 w base P0_ u9000_ l0) (h : laws_markPartS.f k l0 a1 = some (r1, r2)) (hb0 : w0.heap.size ≤ base := by exact SzI.out) :
  Calls Try.prog 11 #[u9000_, .int .i64 a1] w fun e w' => e = .returned (.int .i64 r1) ∧ Kd.S k26 26 w' base (fun k_ => P0_ k_) u9000_ r2 ∧ Below w0.heap.size w0 w' ∧ Kept w w' (fun k_ => P0_ k_) := by
 have hu26 := Try.underlying26; have HO0 := Aside0.mk ho0
 have HK := Aside0.mk (Kept.refl w (fun k_ => P0_ k_))
 have HB := Aside0.mk hB; have HB0 := Aside0.mk hb0
 have H' := Aside0.mk (show laws_markPartS.l0 k l0 a1 0 = some (r1, r2) from h)
 clear h hB ho0 hb0
 go_enter Try.func11, Try.ntmps11
 go_wp2
 go_loopg [1, 5] k (fun kq v1 v5 w' => ∃ (x0_1 : List (S26)) (x1_1 : Int) (x5_1 : Int), v1 = .int .i64 x1_1 ∧ v5 = .int .i64 x5_1 ∧ Aside0 (laws_markPartS.l0 kq x0_1 x1_1 x5_1 = some (r1, r2)) ∧ Aside0 (kq ≤ k) ∧ Aside0 (Kd.S k26 26 w' base P0_ u9000_ x0_1) ∧ Aside0 (Kept w w' (fun k_ => P0_ k_)) ∧ Aside0 (Below w0.heap.size w0 w'))
 case atStart => exact ⟨l0, a1, 0, by first | rfl | (simp; done), by first | rfl | (simp; done), H', ⟨Nat.le_refl _⟩, HO0, HK, HB⟩
 case round =>
  clear H' HO0 HK HB; obtain ⟨x0_1, x1_1, x5_1, rfl, rfl, HA, HK1, HO_0, HK, HB⟩ := hrel; cases gk with
  | zero => exact absurd HA.out (by simp [laws_markPartS.l0])
  | succ k1 =>
   have H := HA.out; clear HA
   simp only [laws_markPartS.l0] at H
   by_cases c3 : x5_1 < (x0_1.length : Int)
   ·
    rw [if_pos c3] at H
    by_cases c4 : 0 ≤ x5_1
    rotate_left
    ·
     rw [if_neg c4] at H
     exact absurd H (by simp)
    rw [if_pos c4] at H
    obtain ⟨t1, A1, H⟩ := oB H; (try dsimp only at H); obtain ⟨⟨t2, t3⟩, A2, H⟩ := oB H; (try dsimp only at H); have H' := Aside0.mk H; clear H; obtain ⟨Ao, co, eo⟩ := Kd.S_slice HO_0.out; subst eo
    obtain ⟨go, co5, eo5, gb5, gl5, cl5, HG5⟩ := Kd.S_form HO_0.out (by omega)
    (first | cases eo5 | (injection eo5 with ea_ en_ ec_; (first | subst ea_ | (injection ea_ with ea_; subst ea_)); subst ec_; clear en_))
    obtain ⟨oki, ce, hcl, hM, hcc, hfr, hoki, hH⟩ := Kd.S_elem HO_0.out z26 (x5_1 : Int) c4 c3; obtain ⟨ve2, rfl, ge2⟩ := k26_openM hM; obtain ⟨Av, cv, ev⟩ := Kd.R_slice ge2; subst ev; have hx0 : wr.cell? ⟨go, (x5_1 : Int).toNat * 3, none⟩ = some (.int .i64 ((rd_T26 x0_1 x5_1).f0)) := hcc 0 _ rfl; have hf0 : wr.frozen? ⟨go, (x5_1 : Int).toNat * 3, none⟩ = false := hfr 0; have hin : go < wr.heap.size := gl5
    have HP1 := Kd.H_seg hH c4 c3 (seg := [.int .i64 x1_1]) (j := 0) (show 0 + 1 ≤ 3 by decide) (by intro q hq; rw [List.mem_singleton.1 hq]; rfl)
    have HOK := Aside0.mk (fun k_ (e_ : (Value.slice (some ⟨go, 0, none⟩) x0_1.length co).ownBlock = some k_) => (Kd.S_R HO_0.out).1 k_ e_)
    have HI := Aside0.mk hoki; have HG := Aside0.mk ge2; have HP := Aside0.mk HP1; have GB := Aside0.mk (Nat.le_trans HB0.out gb5); have HC := Aside0.mk HG5; have p5 : 0 ≤ x5_1 := c4; have q5 : x5_1 < (x0_1.length : Int) := c3; have c3b0 : decide (x5_1 < (x0_1.length : Int)) = true := decide_eq_true c3; have c4b0 : decide (0 ≤ x5_1) = true := decide_eq_true c4; clear hcl hM hcc hfr hoki hH ge2 HP1 hin gl5 gb5 HG5; replace p5 := eq_true p5; replace q5 := eq_true q5
    go_wp2_with (first | ((with_reducible refine gate_store (t := 3) (p := 16) rfl ?_); refine store_event (t := 3) (p := 16) (v := ?vo1) (w1 := (wr.setCell ⟨go, (x5_1 : Int).toNat * 3, none⟩ (.int .i64 x1_1))) ?hg ?ho ?hn ?hr ?_; (case ho => rfl); (case hg => rfl); (case hn => rfl); (case hr => first | (go_simp; done) | (go_simp; rfl)); intro w1 hw; have hg : wr.grownBy w1 (some go) := (by rw [hw]; exact HP.out.2); have hH1 : Kd.H k26 26 w1 base P0_ (.slice (some ⟨go, 0, none⟩) x0_1.length co) x0_1 x5_1 oki [.int .i64 x1_1, .string ((rd_T26 x0_1 x5_1).f1), .slice Av ((rd_T26 x0_1 x5_1).f2).length cv] := (by rw [hw]; exact HP.out.1); have hc1 := blk_set HC.out ((x5_1 : Int).toNat * 3) (.int .i64 x1_1); rw [← hw] at hc1; have hb1 : Below w0.heap.size w0 w1 := (by rw [hw]; exact below_set HB.out GB.out); have hk1 := Kept.of_grown (S := (fun k_ => P0_ k_)) hg HK.out (fun k_ e_ => .inl (HOK.out k_ (by rw [← e_]; rfl))); have hg1 := Kd.R_grown HG.out hg (fun k_ hk_ e_ => (HI.out k_ hk_).2 (by injection e_)); clear hw hx0 hf0 HP HC HB HK HG hg; have HH := Aside0.mk hH1; have HC := Aside0.mk hc1; have HB := Aside0.mk hb1; have HK := Aside0.mk hk1; have HG := Aside0.mk hg1; clear hH1 hc1 hb1 hk1 hg1) | ((with_reducible refine gate_callee (f := 22) rfl ?_); refine gB (some 22) Try.func22 #[.int .i64 (wrap64 (x1_1 + 1))] ?_; (with_reducible refine (laws_markText.calls k1 (wrap64 (x1_1 + 1)) t1 _ A1.out).mono ?_); rintro e w2 ⟨rfl, hb⟩; refine ⟨_, rfl, ?_⟩; have hH2 := Kd.H_below HH.out hb; have hc2 := blk_below HC.out hb; have hb2 := below_step HB.out hb; have hk2 := Kept.below HK.out hb; have hg2 := Kd.R_below HG.out hb; obtain ⟨_, _, _, _, _, hcc2, _⟩ := Kd.H_raw hH2 c4 c3; have hx1 : w2.cell? ⟨go, (x5_1 : Int).toNat * 3 + 1, none⟩ = some (.string ((rd_T26 x0_1 x5_1).f1)) := hcc2 1 _ rfl; have hf1 : w2.frozen? ⟨go, (x5_1 : Int).toNat * 3 + 1, none⟩ = false := blk_frozen hc2 _; have HP1 := Kd.H_seg hH2 c4 c3 (seg := [.string t1]) (j := 1) (show 1 + 1 ≤ 3 by decide) (by intro q hq; rw [List.mem_singleton.1 hq]; rfl); clear HH HC HB HK HG hb hcc2; have HP := Aside0.mk HP1; have HC := Aside0.mk hc2; have HB := Aside0.mk hb2; have HK := Aside0.mk hk2; have HG := Aside0.mk hg2; clear hH2 hc2 hb2 hk2 hg2 HP1) | ((with_reducible refine gate_store (t := 9) (p := 24) rfl ?_); refine store_event (t := 9) (p := 24) (v := ?vo2) (w1 := (w2.setCell ⟨go, (x5_1 : Int).toNat * 3 + 1, none⟩ (.string t1))) ?hg ?ho ?hn ?hr ?_; (case ho => rfl); (case hg => rfl); (case hn => rfl); (case hr => first | (go_simp; done) | (go_simp; rfl)); intro w3 hw; have hg : w2.grownBy w3 (some go) := (by rw [hw]; exact HP.out.2); have hH3 : Kd.H k26 26 w3 base P0_ (.slice (some ⟨go, 0, none⟩) x0_1.length co) x0_1 x5_1 oki [.int .i64 x1_1, .string t1, .slice Av ((rd_T26 x0_1 x5_1).f2).length cv] := (by rw [hw]; exact HP.out.1); have hb3 : Below w0.heap.size w0 w3 := (by rw [hw]; exact below_set HB.out GB.out); have hk3 := Kept.of_grown (S := (fun k_ => P0_ k_)) hg HK.out (fun k_ e_ => .inl (HOK.out k_ (by rw [← e_]; rfl))); have hg3 := Kd.R_grown HG.out hg (fun k_ hk_ e_ => (HI.out k_ hk_).2 (by injection e_)); obtain ⟨_, _, _, _, _, hcc3, _⟩ := Kd.H_raw hH3 c4 c3; have hx2 : w3.cell? ⟨go, (x5_1 : Int).toNat * 3 + 2, none⟩ = some (.slice Av ((rd_T26 x0_1 x5_1).f2).length cv) := hcc3 2 _ rfl; clear hw hx1 hf1 HP HC HB HK HG hg hcc3; have HH := Aside0.mk hH3; have HB := Aside0.mk hb3; have HK := Aside0.mk hk3; have HG := Aside0.mk hg3; clear hH3 hb3 hk3 hg3) | ((with_reducible refine gate_callee (f := 23) rfl ?_); refine gB (some 33) Try.func23 #[.slice Av ((rd_T26 x0_1 x5_1).f2).length cv, .int .i64 (wrap64 (wrap64 (x1_1 + 1) + 1))] ?_; (with_reducible refine (laws_markIntS.calls k1 oki (.slice Av ((rd_T26 x0_1 x5_1).f2).length cv) ((rd_T26 x0_1 x5_1).f2) (wrap64 (wrap64 (x1_1 + 1) + 1)) t2 t3 w0 _ HB.out (Kd.R_lower HG.out HB0.out) A2.out).mono ?_); rintro e w4 ⟨rfl, hy, hb, hkp⟩; refine ⟨_, rfl, ?_⟩; have hH4 := Kd.H_kept HH.out hkp (fun _ _ hn => hn); have hg4 := Kd.R_raise (d := Kd.int .i64) (b := w0.heap.size) (b' := base) (fun _ _ _ _ h_ => h_) (Kd.R_reok rfl hy (fun k_ e_ => HG.out.1 k_ e_)) (fun k_ e_ => Kd.R_base HG.out k_ e_); have hS := Kd.H_back hH4 (k26_mkM _ _ _ (⟨x1_1, t1, t3⟩ : S26) hg4) (fun _ h_ => h_); have hk4 := Kept.then_ HK.out hkp (fun k_ hk_ => .inl (HI.out k_ hk_).1); clear HH HG HB HK hx2 hkp hy hH4 hg4; have HO_1 := Aside0.mk hS; have HK := Aside0.mk hk4; have HB := Aside0.mk hb; clear hS hk4 hb))
    go_roundg k1
    case measure => have := HK1.out; omega
    case rel => exact ⟨_, t2, wrap64 (x5_1 + 1), by first | rfl | (simp; done), by first | rfl | (simp; done), H', ⟨y0_6⟩, HO_1, HK, HB⟩
   rw [if_neg c3] at H
   have c3b0 : decide (x5_1 < (x0_1.length : Int)) = false := decide_eq_false c3; clear c3
   simp only [Option.some.injEq, Prod.mk.injEq] at H
   obtain ⟨rfl, rfl⟩ := H; obtain ⟨Ao, co, eo⟩ := Kd.S_slice HO_0.out; subst eo
   go_wp2
   go_ret
   exact ⟨by first | rfl | (simp; done), HO_0.out, HB.out, HK.out⟩

/-! ### spec_l10Copy: function 18 -/
def spec_l10Copy.f (a0_0 : Int) (a0_1 : ByteArray) (l0_2 : List Int) : Option (Int × ByteArray × List Int) := (some (([] : List Int) : List Int)).bind fun y140 => (if y140.length + l0_2.length < 17592186044416 then (some (a0_0, a0_1, (y140 ++ l0_2))) else (none))
set_option maxHeartbeats 8000000 in
set_option maxRecDepth 100000 in
theorem spec_l10Copy.calls (a0_0 : Int) (a0_1 : ByteArray) (A0_2 : Option Addr) (c0_2 : Nat) (l0_2 : List Int) (r1 : Int) (r2 : ByteArray) (r3 : List Int) (w : World) (hr0_2 : Kd.C (Kd.int .i64) w A0_2 l0_2.length l0_2) (hc0_2 : l0_2.length ≤ c0_2) (h : spec_l10Copy.f a0_0 a0_1 l0_2 = some (r1, r2, r3)) :
  Calls Try.prog 18 #[.agg #[.int .i64 a0_0, .string a0_1, .slice A0_2 l0_2.length c0_2]] w fun e w' => ∃ v2_ : Value, e = .returned (.agg #[.int .i64 r1, .string r2, v2_]) ∧ Kd.R (Kd.int .i64) 3 w' w.heap.size (fun _ => True) v2_ r3 ∧ Below w.heap.size w w' := by
 have hu26 := Try.underlying26; have HR0_2 := Aside0.mk hr0_2; have HC0_2 := Aside0.mk hc0_2; clear hr0_2 hc0_2; have HB := Aside0.mk (Below.refl w.heap.size w)
 have H := h; unfold spec_l10Copy.f at H
 clear h; obtain ⟨y140, hy140⟩ : ∃ y_ : List Int, y_ = (([] : List Int)) := ⟨_, rfl⟩
 replace H : (if y140.length + l0_2.length < 17592186044416 then (some (a0_0, a0_1, (y140 ++ l0_2))) else (none)) = some (r1, r2, r3) := by first | (rw [hy140]; with_reducible exact H) | (have H2_ := (Option.bind_some _ _).symm.trans H; rw [hy140]; with_reducible exact H2_) | (have H2_ := (Option.bind_some _ _).symm.trans H; with_reducible exact H2_) | with_reducible exact H | (rw [hy140]; exact H) | exact H
 have Ny140 := Aside0.mk hy140; clear hy140
 by_cases c2 : y140.length + l0_2.length < 17592186044416
 ·
  rw [if_pos c2] at H
  have LMc2 := Aside0.mk c2; clear c2; obtain ⟨y143, hy143⟩ : ∃ y_ : List Int, y_ = (y140 ++ l0_2) := ⟨_, rfl⟩
  replace H : (some (a0_0, a0_1, y143)) = some (r1, r2, r3) := by first | (rw [hy143]; with_reducible exact H) | (have H2_ := (Option.bind_some _ _).symm.trans H; rw [hy143]; with_reducible exact H2_) | (have H2_ := (Option.bind_some _ _).symm.trans H; with_reducible exact H2_) | with_reducible exact H | (rw [hy143]; exact H) | exact H
  have Ny143 := Aside0.mk hy143; clear hy143
  simp only [Option.some.injEq, Prod.mk.injEq] at H
  obtain ⟨rfl, rfl, rfl⟩ := H
  go_enter Try.func18, Try.ntmps18
  go_wp2_with (first | ((with_reducible refine gd 1 ?_); refine bA 1 #[.int .i64 a0_0, .string a0_1, .slice A0_2 l0_2.length c0_2] 26 ?_; intro gb138 hg w3 hbox hb; have BK138 := Aside0.mk (hbox); have GW138 := bg hg HB; have GJ138 := gi GW138; have GE138 := GW138; replace HB := bs HB hb; clear hb hbox hg) | ((with_reducible refine gd 2 ?_); refine bA 2 #[.int .i64 0, .string (⟨#[]⟩ : ByteArray), .slice none 0 0] 26 ?_; intro gb139 hg w4 hbox hb; have BK139 := Aside0.mk (hbox); have GW139 := bg hg HB; have GJ139 := gi GW139; have GE139 := GW139; replace HB := bs HB hb; have NB138_139 := b1 BK138 hg; have NI138_139 := ni NB138_139; have NB139_138 := b2 BK138 hg; have NI139_138 := ni NB139_138; replace BK138 := bk BK138 hb; clear hb hbox hg) | ((with_reducible refine gate_dst (N := 3) rfl ?_); refine Kd.R_lit (Kd.int .i64) _ 3 ?hg (N := 3) ?hd (xs := ([] : List Int)) (inner := []) (ok := fun _ => True) (okp := fun _ => True) ?hr ?hp (fun _ hk => hk) trivial (Below.refl _ _) (Nat.le_refl _) (by simp) ?_; (case hd => rfl); (case hg => rfl); (case hr => first | (go_simp; done) | (go_simp; rfl)); (case hp => exact (Reps.none _ _)); intro v141 w5 ho6 hb hg_ hnew_; clear hg_ hnew_; (first | rw [← Ny140.out] at ho6 | (simp only [Int.reduceToNat] at ho6; rw [← Ny140.out] at ho6)); have HO142 := Aside0.mk (Kd.R_lower ho6 (below_size (bI HB.out))); replace BK138 := bk BK138 hb; replace BK139 := bk BK139 hb; replace HB := bs HB hb; clear hb ho6; have hnb7 := NB138_139.out; have hnc7 := NB139_138.out; obtain ⟨hcz8_0, hcz8_1, hcz8_2, hfz8_0, hfz8_1, hfz8_2⟩ := cs3 BK138) | ((with_reducible refine gate_builtin (b := .append) (xs := #[.tmp 3, .tmp 5]) rfl ?_); at_builtin; refine Kd.R_append_rows (Kd.int .i64) (w0 := w) w.heap.size rfl (.tmp 3) (.tmp 5) 24 3 (.int .i64 0) 8 rfl Try.underlying24 info3 rfl (by decide) (by omega) v141 y140 l0_2 _ _ _ (fun _ => True) (fun _ => False) rfl rfl ?aO ?aR (fun _ _ h => h) (fun _ h => h.elim) ?aF ?aB ?aS ?aL ?_; (case aR => exact ch HR0_2 HB); (case aB => exact (bI HB.out)); (case aF => exact (fun _ _ => trivial)); (case aO => exact (rI HO142.out)); (case aS => exact (below_size (bI HB.out))); (case aL => have := LMc2.out; omega); intro v144 w9 ho hb hg hat; rw [← Ny143.out] at ho; have n0_ := bn BK138 hg (Kd.R_ne HO142.out BK138.out (by decide)); have n1_ := bn BK139 hg (Kd.R_ne HO142.out BK139.out (by decide)); have n2_ := Aside0.mk (hb); have n3_ := Aside0.mk (ho); clear BK138; clear BK139; clear HB; clear HO142; have BK138 := n0_; have BK139 := n1_; have HB := n2_; have HO145 := n3_; clear n0_ n1_ n2_ n3_; clear ho hb hg hat; obtain ⟨Ao10, co10, eo10⟩ := Kd.R_slice HO145.out; subst eo10; obtain ⟨hcz11_0, hcz11_1, hcz11_2, hfz11_0, hfz11_1, hfz11_2⟩ := cs3 BK138; obtain ⟨hcz12_0, hcz12_1, hcz12_2, hfz12_0, hfz12_1, hfz12_2⟩ := cs3 BK139))
  refine bodyPost_ret (results_cell_row rfl _ _ gb139 26 #[.int .i64 a0_0, .string a0_1, .slice Ao10 y143.length co10] (0, 0) _ rfl (pI BK139) Try.underlying26 rfl (by kernel_rfl)) rfl ?_
  exact ⟨_, y0_2, by (with_reducible repeat (first | apply Kd.R_alloc | apply Kd.R_drewN | apply Kd.R_drew)); exact Kd.R_mono (Kd.R_far (p := ⟨gb139, 2, none⟩) (Kd.R_far (p := ⟨gb139, 1, none⟩) (Kd.R_far (p := ⟨gb139, 0, none⟩) (Kd.R_far (p := ⟨gb138, 2, none⟩) (Kd.R_types (Kd.R_types HO145.out BK138.out (by decide)) BK139.out (by decide)) (fun _ hk => hk.1.2) (.slice Ao10 y143.length co10)) (fun _ hk => hk.2) (.int .i64 a0_0)) (fun _ hk => hk.2) (.string a0_1)) (fun _ hk => hk.2) (.slice Ao10 y143.length co10)) (fun _ hk => trivial), bI HB.out⟩
 rw [if_neg c2] at H
 exact absurd H (by simp)

end Go.Proofs.Ytnpbopadajbopaa.PFnExactTableDrop
