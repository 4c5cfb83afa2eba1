-- By a program of this session, out of the translation (the print of the kit, with turns of its own). Lean checks it.
import Derived.Test.YtdmjhgogljhfkaaGreatDoorPFnExactTableAddx0
import Derived.Test.YtdmjhgogljhfkaaGreatDoorPFnExactTableAddx13
namespace Go.Proofs.YtdmjhgogljhfkaaGreatDoor.PFnExactTableAdd
open Go.RowKit Go.Proofs.YtdmjhgogljhfkaaGreatDoorW.PrintWords Go.Proofs.YtdmjhgogljhfkaaGreatDoorW.PrintLast Go.Proofs.YtdmjhgogljhfkaaGreatDoorW.PrintMore
attribute [local go_sem] max2_int min2_int max_two min_two max_three min_three max_four min_four   -- for this text's walks alone
attribute [local go_sem] cell_in frozen_in cell_g cell_p
set_option synthInstance.maxSize 1000000
set_option synthInstance.maxHeartbeats 2000000
set_option linter.unusedVariables false
set_option linter.unusedSimpArgs false

/-! ### laws_eqPartS: function 22 -/
def laws_eqPartS.l0 : Nat → List (S48) → List (S48) → Int → Option (Bool)
 | 0, _, _, _ => none
 | k + 1, x0, x1, x5 => if x5 < (x0.length : Int) then (if 0 ≤ x5 then (if x5 < (x1.length : Int) then ((laws_eqPart.f k ((rd_T48 x0 x5).f0) ((rd_T48 x0 x5).f1) ((rd_T48 x0 x5).f2) ((rd_T48 x1 x5).f0) ((rd_T48 x1 x5).f1) ((rd_T48 x1 x5).f2)).bind fun t533 => (if t533 = true then (laws_eqPartS.l0 k x0 x1 (wrap64 (x5 + 1))) else (some false))) else (none)) else (none)) else (some true)
def laws_eqPartS.f (k : Nat) (l0 : List (S48)) (l1 : List (S48)) : Option (Bool) := if (l0.length : Int) = (l1.length : Int) then (laws_eqPartS.l0 k l0 l1 0) else (some false)
theorem laws_eqPartS.mono_l : ∀ k, (∀ y0 y1 y2, LeO (laws_eqPartS.l0 k y0 y1 y2) (laws_eqPartS.l0 (k + 1) y0 y1 y2))
 | 0 => fun _ _ _ r h => by simp [laws_eqPartS.l0] at h
 | k + 1 => by
  have ih0 := laws_eqPartS.mono_l k
  intro y0 y1 y2
  unfold laws_eqPartS.l0
  repeat' first | (with_reducible exact ih0 _ _ _) | (with_reducible exact laws_eqPart.mono _ _ _ _ _ _ _) | (with_reducible exact LeO.refl _) | (with_reducible exact LeO.none _) | (with_reducible refine LeO.ite ?_ ?_) | (with_reducible refine LeO.bind ?_ (fun _ => ?_))
theorem laws_eqPartS.mono : ∀ a0 a1 k, LeO (laws_eqPartS.f k a0 a1) (laws_eqPartS.f (k + 1) a0 a1) := by
 intro a0 a1 k
 have ih0 := laws_eqPartS.mono_l k
 unfold laws_eqPartS.f
 repeat' first | (with_reducible exact ih0 _ _ _) | (with_reducible exact laws_eqPart.mono _ _ _ _ _ _ _) | (with_reducible exact LeO.refl _) | (with_reducible exact LeO.none _) | (with_reducible refine LeO.ite ?_ ?_) | (with_reducible refine LeO.bind ?_ (fun _ => ?_))
def laws_eqPartS.T6 : Bool × List (List Nat × List Nat) := (true, [([], []), ([], []), ([0, 1], [0, 1]), ([2], [2]), ([], []), ([], []), ([4, 5], [4, 5]), ([6], [6]), ([3, 7], [3, 7]), ([8], [8])])
def laws_eqPartS.B6 : List Nat := [0, 0, 3, 7, 0, 0, 48, 112, 255, 511]
theorem laws_eqPartS.tab6 : rtab .any (opsOf Tryz.f22 6) = laws_eqPartS.T6 := by kernel_rfl
theorem laws_eqPartS.bits6 : waitsOk laws_eqPartS.T6.2 laws_eqPartS.B6 = true := by kernel_rfl
set_option maxHeartbeats 8000000 in
set_option maxRecDepth 100000 in
theorem laws_eqPartS.calls (k : Nat) (A0 : Option Addr) (c0 : Nat) (l0 : List (S48)) (A1 : Option Addr) (c1 : Nat) (l1 : List (S48)) (r : Bool) (w : World) (hr0 : Kd.C k48 w A0 l0.length l0) (hc0 : l0.length ≤ c0) (hr1 : Kd.C k48 w A1 l1.length l1) (hc1 : l1.length ≤ c1) (h : laws_eqPartS.f k l0 l1 = some r) :
  Calls Tryz.prog 22 #[.slice A0 l0.length c0, .slice A1 l1.length c1] w fun e w' => e = .returned (.bool r) ∧ Below w.heap.size w w' := by
 have hu48 := Tryz.underlying48; have HR0 := Aside0.mk hr0; have HC0 := Aside0.mk hc0; clear hr0 hc0; have HR1 := Aside0.mk hr1; have HC1 := Aside0.mk hc1; clear hr1 hc1; have HB := Aside0.mk (Below.refl w.heap.size w); have H := h; unfold laws_eqPartS.f at H; clear h
 by_cases c3 : (l0.length : Int) = (l1.length : Int)
 ·
  rw [if_pos c3] at H
  have c3b0 : ((l0.length : Int) == (l1.length : Int)) = true := beq_iff_eq.mpr c3; have c3b1 : ((l0.length : Int) != (l1.length : Int)) = false := bne_eq_false_iff_eq.mpr c3
  have c3b2 : (l0.length == l1.length) = true := by first | simpa using c3 | (simp at c3 ⊢; omega)
  clear c3; have H' := Aside0.mk H; clear H
  go_enter Tryz.func22, Tryz.ntmps22
  go_wp2
  go_loopg [5] k (fun kq v5 w' => ∃ (x5_1 : Int), v5 = .int .i64 x5_1 ∧ Aside0 (laws_eqPartS.l0 kq l0 l1 x5_1 = some r) ∧ Aside0 (kq ≤ k) ∧ Aside0 (Below w.heap.size w w'))
  case atStart => exact ⟨(0), y0_13, H', ⟨Nat.le_refl _⟩, ⟨bI HB.out⟩⟩
  case round =>
   clear H'
   try clear c1
   try clear c2
   try clear p2
   try clear c3
   try clear c3b0
   try clear c3b1
   try clear c3b2
   obtain ⟨x5_1, rfl, HA, HK1, HB⟩ := hrel; cases gk with
   | zero => exact absurd HA.out (by simp [laws_eqPartS.l0])
   | succ k1 =>
    have H := HA.out; clear HA
    simp only [laws_eqPartS.l0] at H
    by_cases c4 : x5_1 < (l0.length : Int)
    ·
     rw [if_pos c4] at H
     have c4b0 : decide (x5_1 < (l0.length : Int)) = true := decide_eq_true c4; clear c4
     by_cases c5 : 0 ≤ x5_1
     rotate_left
     ·
      rw [if_neg c5] at H
      exact absurd H (by simp)
     rw [if_pos c5] at H
     have c5b0 : decide (0 ≤ x5_1) = true := decide_eq_true c5; clear c5
     by_cases c6 : x5_1 < (l1.length : Int)
     rotate_left
     ·
      rw [if_neg c6] at H
      exact absurd H (by simp)
     rw [if_pos c6] at H
     have c6b0 : decide (x5_1 < (l1.length : Int)) = true := decide_eq_true c6; clear c6; obtain ⟨t533, A7, H⟩ := oB H; (try dsimp only at H)
     by_cases c8 : t533 = true
     ·
      subst c8
      rw [if_pos rfl] at H
      have H' := Aside0.mk H; clear H
      try go_wp2
      replace HB := Aside0.mk (below_drew1 HB.out); have p531 : 0 ≤ (x5_1 : Int) := of_decide_eq_true y0_12; have q531 : x5_1 < (l0.length : Int) := of_decide_eq_true y0_12; obtain ⟨ad531, A531_2, c531_2, e531, hx531_0, hx531_1, hx531_2, hl531_2, hi531_2⟩ := at_T48 HR0.out x5_1 p531 q531; have hr531_2 := hx531_2; have hw531_2 := hx531_2; have hw531_1 := hx531_1; have hw531_0 := hx531_0; cases e531; replace hx531_0 := bx HB hx531_0; replace hx531_1 := bx HB hx531_1; replace hx531_2 := bx HB hx531_2; have HR531_2 := Aside0.mk hi531_2; have HC531_2 := Aside0.mk hl531_2; clear hi531_2 hl531_2; replace p531 := eq_true p531; replace q531 := eq_true q531; have p532 : 0 ≤ (x5_1 : Int) := of_decide_eq_true y0_12; have q532 : x5_1 < (l1.length : Int) := of_decide_eq_true y0_12; obtain ⟨ad532, A532_2, c532_2, e532, hx532_0, hx532_1, hx532_2, hl532_2, hi532_2⟩ := at_T48 HR1.out x5_1 p532 q532; have hr532_2 := hx532_2; have hw532_2 := hx532_2; have hw532_1 := hx532_1; have hw532_0 := hx532_0; cases e532; replace hx532_0 := bx HB hx532_0; replace hx532_1 := bx HB hx532_1; replace hx532_2 := bx HB hx532_2; have HR532_2 := Aside0.mk hi532_2; have HC532_2 := Aside0.mk hl532_2; clear hi532_2 hl532_2; replace p532 := eq_true p532; replace q532 := eq_true q532
      refine start_ (n := 10) (S := fun w' => w'.cell? (ad531.add ((x5_1).toNat * 3)) = some (.int .i64 ((rd_T48 l0 x5_1).f0)) ∧ w'.cell? ⟨(ad531.add ((x5_1).toNat * 3)).block, (ad531.add ((x5_1).toNat * 3)).off + 1, none⟩ = some (.string ((rd_T48 l0 x5_1).f1)) ∧ w'.cell? ⟨(ad531.add ((x5_1).toNat * 3)).block, (ad531.add ((x5_1).toNat * 3)).off + 2, none⟩ = some (.slice A531_2 ((rd_T48 l0 x5_1).f2).length c531_2) ∧ w'.cell? (ad532.add ((x5_1).toNat * 3)) = some (.int .i64 ((rd_T48 l1 x5_1).f0)) ∧ w'.cell? ⟨(ad532.add ((x5_1).toNat * 3)).block, (ad532.add ((x5_1).toNat * 3)).off + 1, none⟩ = some (.string ((rd_T48 l1 x5_1).f1)) ∧ w'.cell? ⟨(ad532.add ((x5_1).toNat * 3)).block, (ad532.add ((x5_1).toNat * 3)).off + 2, none⟩ = some (.slice A532_2 ((rd_T48 l1 x5_1).f2).length c532_2)) (ds := []) #[false, false, false, false, false, false, false, false, false, false] (by kernel_rfl) rfl rfl ⟨(bx HB hw531_0), (bx HB hw531_1), (bx HB hw531_2), (bx HB hw532_0), (bx HB hw532_1), (bx HB hw532_2)⟩ (fun hHeld => ?_); refine with_tabW laws_eqPartS.tab6 laws_eqPartS.bits6 (fun HT_ HW_ => ?_)
      generalize wr.drew = w9 at HB HR531_2 HR532_2 hx531_0 hx531_1 hx531_2 hx532_0 hx532_1 hx532_2 hHeld ⊢
      refine pA 0 (some 17) (bz 10 1) HT_ ?_
      refine pA 1 (some 18) (bz 10 3) HT_ ?_
      refine pA 2 (some 19) (bz 10 7) HT_ ?_
      refine pA 4 (some 21) (bz 10 23) HT_ ?_
      refine pA 5 (some 22) (bz 10 55) HT_ ?_
      refine pA 6 (some 23) (bz 10 119) HT_ ?_
      refine tA 3 (some 20) (bz 10 127) HT_ HW_ hHeld ?_
      refine tA 7 (some 24) (bz 10 255) HT_ HW_ hHeld ?_
      refine oA 8 (some 25) (bz 10 511) HT_ (fun K hK => ?_)
      refine gA Tryz.func23 #[.agg #[.int .i64 ((rd_T48 l0 x5_1).f0), .string ((rd_T48 l0 x5_1).f1), .slice A531_2 ((rd_T48 l0 x5_1).f2).length c531_2], .agg #[.int .i64 ((rd_T48 l1 x5_1).f0), .string ((rd_T48 l1 x5_1).f1), .slice A532_2 ((rd_T48 l1 x5_1).f2).length c532_2]] ?_
      with_reducible refine (laws_eqPart.calls k1 ((rd_T48 l0 x5_1).f0) ((rd_T48 l0 x5_1).f1) _ _ ((rd_T48 l0 x5_1).f2) ((rd_T48 l1 x5_1).f0) ((rd_T48 l1 x5_1).f1) _ _ ((rd_T48 l1 x5_1).f2) true _ ?side1 ?side2 ?side3 ?side4 A7.out).mono ?_
      (case side1 => exact ch HR531_2 HB)
      (case side2 => exact HC531_2.out)
      (case side3 => exact ch HR532_2 HB)
      (case side4 => exact HC532_2.out)
      rintro e w10 ⟨rfl, hb⟩
      refine ⟨_, rfl, ?_⟩
      replace HB := bs HB hb
      (try clear hb)
      (try clear hb2)
      (try clear hk)
      (try clear hi)
      refine hK.out _ _ ⟨(bx HB hw531_0), (bx HB hw531_1), (bx HB hw531_2), (bx HB hw532_0), (bx HB hw532_1), (bx HB hw532_2)⟩ (fun hHeld => ?_)
      clear hK K
      refine nA (some 25) ?_
      refine pA 9 (some 26) (bz 10 1023) HT_ ?_
      refine done_ (done_of HT_.out (by kernel_rfl)) ?_
      try go_wp2
      go_roundg k1
      case measure => have := HK1.out; omega
      case rel => exact ⟨(wrap64 (x5_1 + 1)), y0_13, H', ⟨y0_16⟩, ⟨bI HB.out⟩⟩
     replace c8 := Bool.eq_false_iff.mpr c8; subst c8
     rw [if_neg (show ¬ (false = true) by decide)] at H
     obtain rfl := Option.some.inj H
     try go_wp2
     replace HB := Aside0.mk (below_drew1 HB.out); have p531 : 0 ≤ (x5_1 : Int) := of_decide_eq_true y0_12; have q531 : x5_1 < (l0.length : Int) := of_decide_eq_true y0_12; obtain ⟨ad531, A531_2, c531_2, e531, hx531_0, hx531_1, hx531_2, hl531_2, hi531_2⟩ := at_T48 HR0.out x5_1 p531 q531; have hr531_2 := hx531_2; have hw531_2 := hx531_2; have hw531_1 := hx531_1; have hw531_0 := hx531_0; cases e531; replace hx531_0 := bx HB hx531_0; replace hx531_1 := bx HB hx531_1; replace hx531_2 := bx HB hx531_2; have HR531_2 := Aside0.mk hi531_2; have HC531_2 := Aside0.mk hl531_2; clear hi531_2 hl531_2; replace p531 := eq_true p531; replace q531 := eq_true q531; have p532 : 0 ≤ (x5_1 : Int) := of_decide_eq_true y0_12; have q532 : x5_1 < (l1.length : Int) := of_decide_eq_true y0_12; obtain ⟨ad532, A532_2, c532_2, e532, hx532_0, hx532_1, hx532_2, hl532_2, hi532_2⟩ := at_T48 HR1.out x5_1 p532 q532; have hr532_2 := hx532_2; have hw532_2 := hx532_2; have hw532_1 := hx532_1; have hw532_0 := hx532_0; cases e532; replace hx532_0 := bx HB hx532_0; replace hx532_1 := bx HB hx532_1; replace hx532_2 := bx HB hx532_2; have HR532_2 := Aside0.mk hi532_2; have HC532_2 := Aside0.mk hl532_2; clear hi532_2 hl532_2; replace p532 := eq_true p532; replace q532 := eq_true q532
     refine start_ (n := 10) (S := fun w' => w'.cell? (ad531.add ((x5_1).toNat * 3)) = some (.int .i64 ((rd_T48 l0 x5_1).f0)) ∧ w'.cell? ⟨(ad531.add ((x5_1).toNat * 3)).block, (ad531.add ((x5_1).toNat * 3)).off + 1, none⟩ = some (.string ((rd_T48 l0 x5_1).f1)) ∧ w'.cell? ⟨(ad531.add ((x5_1).toNat * 3)).block, (ad531.add ((x5_1).toNat * 3)).off + 2, none⟩ = some (.slice A531_2 ((rd_T48 l0 x5_1).f2).length c531_2) ∧ w'.cell? (ad532.add ((x5_1).toNat * 3)) = some (.int .i64 ((rd_T48 l1 x5_1).f0)) ∧ w'.cell? ⟨(ad532.add ((x5_1).toNat * 3)).block, (ad532.add ((x5_1).toNat * 3)).off + 1, none⟩ = some (.string ((rd_T48 l1 x5_1).f1)) ∧ w'.cell? ⟨(ad532.add ((x5_1).toNat * 3)).block, (ad532.add ((x5_1).toNat * 3)).off + 2, none⟩ = some (.slice A532_2 ((rd_T48 l1 x5_1).f2).length c532_2)) (ds := []) #[false, false, false, false, false, false, false, false, false, false] (by kernel_rfl) rfl rfl ⟨(bx HB hw531_0), (bx HB hw531_1), (bx HB hw531_2), (bx HB hw532_0), (bx HB hw532_1), (bx HB hw532_2)⟩ (fun hHeld => ?_); refine with_tabW laws_eqPartS.tab6 laws_eqPartS.bits6 (fun HT_ HW_ => ?_)
     generalize wr.drew = w11 at HB HR531_2 HR532_2 hx531_0 hx531_1 hx531_2 hx532_0 hx532_1 hx532_2 hHeld ⊢
     refine pA 0 (some 17) (bz 10 1) HT_ ?_
     refine pA 1 (some 18) (bz 10 3) HT_ ?_
     refine pA 2 (some 19) (bz 10 7) HT_ ?_
     refine pA 4 (some 21) (bz 10 23) HT_ ?_
     refine pA 5 (some 22) (bz 10 55) HT_ ?_
     refine pA 6 (some 23) (bz 10 119) HT_ ?_
     refine tA 3 (some 20) (bz 10 127) HT_ HW_ hHeld ?_
     refine tA 7 (some 24) (bz 10 255) HT_ HW_ hHeld ?_
     refine oA 8 (some 25) (bz 10 511) HT_ (fun K hK => ?_)
     refine gA Tryz.func23 #[.agg #[.int .i64 ((rd_T48 l0 x5_1).f0), .string ((rd_T48 l0 x5_1).f1), .slice A531_2 ((rd_T48 l0 x5_1).f2).length c531_2], .agg #[.int .i64 ((rd_T48 l1 x5_1).f0), .string ((rd_T48 l1 x5_1).f1), .slice A532_2 ((rd_T48 l1 x5_1).f2).length c532_2]] ?_
     with_reducible refine (laws_eqPart.calls k1 ((rd_T48 l0 x5_1).f0) ((rd_T48 l0 x5_1).f1) _ _ ((rd_T48 l0 x5_1).f2) ((rd_T48 l1 x5_1).f0) ((rd_T48 l1 x5_1).f1) _ _ ((rd_T48 l1 x5_1).f2) false _ ?side1 ?side2 ?side3 ?side4 A7.out).mono ?_
     (case side1 => exact ch HR531_2 HB)
     (case side2 => exact HC531_2.out)
     (case side3 => exact ch HR532_2 HB)
     (case side4 => exact HC532_2.out)
     rintro e w12 ⟨rfl, hb⟩
     refine ⟨_, rfl, ?_⟩
     replace HB := bs HB hb
     (try clear hb)
     (try clear hb2)
     (try clear hk)
     (try clear hi)
     refine hK.out _ _ ⟨(bx HB hw531_0), (bx HB hw531_1), (bx HB hw531_2), (bx HB hw532_0), (bx HB hw532_1), (bx HB hw532_2)⟩ (fun hHeld => ?_)
     clear hK K
     refine nA (some 25) ?_
     refine pA 9 (some 26) (bz 10 1023) HT_ ?_
     refine done_ (done_of HT_.out (by kernel_rfl)) ?_
     try go_wp2
     go_ret
     exact ⟨y0_7, bI HB.out⟩
    rw [if_neg c4] at H
    have c4b0 : decide (x5_1 < (l0.length : Int)) = false := decide_eq_false c4; clear c4; obtain rfl := Option.some.inj H
    go_wp2
    go_ret
    exact ⟨y0_7, bI HB.out⟩
 rw [if_neg c3] at H
 have c3b0 : ((l0.length : Int) == (l1.length : Int)) = false := beq_eq_false_iff_ne.mpr c3; have c3b1 : ((l0.length : Int) != (l1.length : Int)) = true := bne_iff_ne.mpr c3
 have c3b2 : (l0.length == l1.length) = false := by first | simpa using c3 | (simp at c3 ⊢; omega)
 obtain rfl := Option.some.inj H
 go_enter Tryz.func22, Tryz.ntmps22
 go_wp2
 go_ret
 exact ⟨y0_7, bI HB.out⟩

/-! ### laws_markText: function 87 -/
def laws_markText.l0 : Nat → Int → ByteArray → Option (ByteArray)
 | 0, _, _ => none
 | k + 1, x0, x3 => if x0 > 0 then ((some (([(wrap64 (48 + (Int.tmod x0 10))) % 256] : List Int) : List Int)).bind fun y534 => (if (strOfNums y534).size + x3.size ≤ 9223372036854775807 then (laws_markText.l0 k (wrap64 (Int.tdiv x0 10)) ((strOfNums y534) ++ x3)) else (none))) else (if 1 + x3.size ≤ 9223372036854775807 then (some ((⟨#[109]⟩ : ByteArray) ++ x3)) else (none))
def laws_markText.f (k : Nat) (a0 : Int) : Option (ByteArray) := if a0 ≤ 0 then (some (⟨#[109, 48]⟩ : ByteArray)) else (laws_markText.l0 k a0 (⟨#[]⟩ : ByteArray))
theorem laws_markText.mono_l : ∀ k, (∀ y0 y1, LeO (laws_markText.l0 k y0 y1) (laws_markText.l0 (k + 1) y0 y1))
 | 0 => fun _ _ r h => by simp [laws_markText.l0] at h
 | k + 1 => by
  have ih0 := laws_markText.mono_l k
  intro y0 y1
  unfold laws_markText.l0
  repeat' first | (with_reducible exact ih0 _ _) | (with_reducible exact LeO.refl _) | (with_reducible exact LeO.none _) | (with_reducible refine LeO.ite ?_ ?_) | (with_reducible refine LeO.bind ?_ (fun _ => ?_))
theorem laws_markText.mono : ∀ a0 k, LeO (laws_markText.f k a0) (laws_markText.f (k + 1) a0) := by
 intro a0 k
 have ih0 := laws_markText.mono_l k
 unfold laws_markText.f
 repeat' first | (with_reducible exact ih0 _ _) | (with_reducible exact LeO.refl _) | (with_reducible exact LeO.none _) | (with_reducible refine LeO.ite ?_ ?_) | (with_reducible refine LeO.bind ?_ (fun _ => ?_))
set_option maxHeartbeats 8000000 in
set_option maxRecDepth 100000 in
theorem laws_markText.calls (k : Nat) (a0 : Int) (r : ByteArray) (w : World) (h : laws_markText.f k a0 = some r) :
  Calls Tryz.prog 87 #[.int .i64 a0] w fun e w' => e = .returned (.string r) ∧ Below w.heap.size w w' := by
 have HB := Aside0.mk (Below.refl w.heap.size w); have H := h; unfold laws_markText.f at H; clear h
 by_cases c2 : a0 ≤ 0
 ·
  rw [if_pos c2] at H
  have c2b0 : decide (a0 ≤ 0) = true := decide_eq_true c2; clear c2; obtain rfl := Option.some.inj H
  go_enter Tryz.func87, Tryz.ntmps87
  go_wp2
  go_ret
  exact ⟨y0_7, bI HB.out⟩
 rw [if_neg c2] at H
 have c2b0 : decide (a0 ≤ 0) = false := decide_eq_false c2; clear c2; have H' := Aside0.mk H; clear H
 go_enter Tryz.func87, Tryz.ntmps87
 go_wp2
 go_loopg [0, 3] k (fun kq v0 v3 w' => ∃ (x0_1 : Int) (x3_1 : ByteArray), v0 = .int .i64 x0_1 ∧ v3 = .string x3_1 ∧ Aside0 (laws_markText.l0 kq x0_1 x3_1 = some r) ∧ Aside0 (kq ≤ k) ∧ Aside0 (Below w.heap.size w w'))
 case atStart => exact ⟨(a0), ((⟨#[]⟩ : ByteArray)), y0_13, y0_13, H', ⟨Nat.le_refl _⟩, ⟨bI HB.out⟩⟩
 case round =>
  clear H'
  try clear c2
  try clear c2b0
  try clear p2
  obtain ⟨x0_1, x3_1, rfl, rfl, HA, HK1, HB⟩ := hrel; cases gk with
  | zero => exact absurd HA.out (by simp [laws_markText.l0])
  | succ k1 =>
   have H := HA.out; clear HA
   simp only [laws_markText.l0] at H
   by_cases c3 : x0_1 > 0
   ·
    rw [if_pos c3] at H
    have c3b0 : decide (0 < x0_1) = true := decide_eq_true c3; clear c3; obtain ⟨y534, hy534⟩ : ∃ y_ : List Int, y_ = (([(wrap64 (48 + (Int.tmod x0_1 10))) % 256] : List Int)) := ⟨_, rfl⟩
    replace H : (if (strOfNums y534).size + x3_1.size ≤ 9223372036854775807 then (laws_markText.l0 k1 (wrap64 (Int.tdiv x0_1 10)) ((strOfNums y534) ++ x3_1)) else (none)) = some r := by first | (rw [hy534]; with_reducible exact H) | (have H2_ := (Option.bind_some _ _).symm.trans H; rw [hy534]; with_reducible exact H2_) | (have H2_ := (Option.bind_some _ _).symm.trans H; with_reducible exact H2_) | with_reducible exact H | (rw [hy534]; exact H) | exact H
    have Ny534 := Aside0.mk hy534; clear hy534
    by_cases c4 : (strOfNums y534).size + x3_1.size ≤ 9223372036854775807
    rotate_left
    ·
     rw [if_neg c4] at H
     exact absurd H (by simp)
    rw [if_pos c4] at H
    have c4b0 := eq_true c4; have c4b1 : decide ((strOfNums y534).size + x3_1.size ≤ 9223372036854775807) = true := decide_eq_true c4
    try have c4b2 : (9223372036854775807 < (strOfNums y534).size + x3_1.size) = False := eq_false (Nat.not_lt.2 c4)
    have H' := Aside0.mk H; clear H
    go_wp2_with (first | ((with_reducible refine gate_dst (N := 12) rfl ?_); refine Kd.R_lit (Kd.int .u8) _ 5 ?hg (N := 12) ?hd (xs := ([(wrap64 (48 + (Int.tmod x0_1 10))) % 256] : List Int)) (inner := [.int .u8 ((wrap64 (48 + (Int.tmod x0_1 10))) % 256)]) (ok := fun _ => True) (okp := fun _ => True) ?hr ?hp (fun _ hk => hk) trivial (Below.refl _ _) (Nat.le_refl _) (by simp) ?_; (case hd => rfl); (case hg => rfl); (case hr => first | (go_simp; done) | (go_simp; rfl)); (case hp => exact (Reps.one (show Kd.M (Kd.int .u8) _ _ _ ((wrap64 (48 + (Int.tmod x0_1 10))) % 256) [.int .u8 ((wrap64 (48 + (Int.tmod x0_1 10))) % 256)] from rfl) (Reps.none _ _))); intro v535 w5 ho6 hb hg_ hnew_; clear hg_ hnew_; (first | rw [← Ny534.out] at ho6 | (simp only [Int.reduceToNat] at ho6; rw [← Ny534.out] at ho6)); have HO536 := Aside0.mk (Kd.R_lower ho6 (below_size (bI HB.out))); replace HB := bs HB hb; clear hb ho6; have hcv7 := own_string (P := Tryz.prog) Tryz.underlying24 Tryz.underlying5 Tryz.underlying9 (Kd.own_of_R HO536.out)))
    go_roundg k1
    case measure => have := HK1.out; omega
    case rel => exact ⟨(wrap64 (Int.tdiv x0_1 10)), ((strOfNums y534) ++ x3_1), y0_13, y0_13, H', ⟨y0_16⟩, ⟨bI HB.out⟩⟩
   rw [if_neg c3] at H
   have c3b0 : decide (0 < x0_1) = false := decide_eq_false c3; clear c3
   by_cases c8 : 1 + x3_1.size ≤ 9223372036854775807
   ·
    rw [if_pos c8] at H
    have c8b0 := eq_true c8; have c8b1 : decide (1 + x3_1.size ≤ 9223372036854775807) = true := decide_eq_true c8
    try have c8b2 : (9223372036854775807 < 1 + x3_1.size) = False := eq_false (Nat.not_lt.2 c8)
    obtain rfl := Option.some.inj H
    go_wp2
    go_ret
    exact ⟨y0_7, bI HB.out⟩
   rw [if_neg c8] at H
   exact absurd H (by simp)

/-! ### laws_markIntS: function 88 -/
def laws_markIntS.l0 : Nat → List Int → Int → Int → Option (Int × List Int)
 | 0, _, _, _ => none
 | k + 1, x0, x1, x5 => if x5 < (x0.length : Int) then (if 0 ≤ x5 then (laws_markIntS.l0 k (x0.set (x5 : Int).toNat x1) (wrap64 (x1 + 1)) (wrap64 (x5 + 1))) else (none)) else (some (x1, x0))
def laws_markIntS.f (k : Nat) (l0 : List Int) (a1 : Int) : Option (Int × List Int) := laws_markIntS.l0 k l0 a1 0
theorem laws_markIntS.mono_l : ∀ k, (∀ y0 y1 y2, LeO (laws_markIntS.l0 k y0 y1 y2) (laws_markIntS.l0 (k + 1) y0 y1 y2))
 | 0 => fun _ _ _ r h => by simp [laws_markIntS.l0] at h
 | k + 1 => by
  have ih0 := laws_markIntS.mono_l k
  intro y0 y1 y2
  unfold laws_markIntS.l0
  repeat' first | (with_reducible exact ih0 _ _ _) | (with_reducible exact LeO.refl _) | (with_reducible exact LeO.none _) | (with_reducible refine LeO.ite ?_ ?_) | (with_reducible refine LeO.bind ?_ (fun _ => ?_))
theorem laws_markIntS.mono : ∀ a0 a1 k, LeO (laws_markIntS.f k a0 a1) (laws_markIntS.f (k + 1) a0 a1) := by
 intro a0 a1 k
 have ih0 := laws_markIntS.mono_l k
 unfold laws_markIntS.f
 repeat' first | (with_reducible exact ih0 _ _ _) | (with_reducible exact LeO.refl _) | (with_reducible exact LeO.none _) | (with_reducible refine LeO.ite ?_ ?_) | (with_reducible refine LeO.bind ?_ (fun _ => ?_))
set_option maxHeartbeats 8000000 in
set_option maxRecDepth 100000 in
theorem laws_markIntS.calls (k : Nat) (P0_ : Nat → Prop) (u9000_ : Value) (l0 : List Int) (a1 : Int) (r1 : Int) (r2 : List Int) (w0 w : World) (hB : Below w0.heap.size w0 w) (ho0 : Kd.R (Kd.int .i64) 3 w w0.heap.size P0_ u9000_ l0) (h : laws_markIntS.f k l0 a1 = some (r1, r2)) :
  Calls Tryz.prog 88 #[u9000_, .int .i64 a1] w fun e w' => e = .returned (.int .i64 r1) ∧ Kd.R (Kd.int .i64) 3 w' w0.heap.size (fun k_ => (P0_ k_ ∨ w.heap.size ≤ k_)) u9000_ r2 ∧ Below w0.heap.size w0 w' ∧ Kept w w' (fun k_ => P0_ k_) := by
 have HO0 := Aside0.mk (show Kd.R (Kd.int .i64) 3 w w0.heap.size (fun k_ => (P0_ k_ ∨ w.heap.size ≤ k_)) u9000_ l0 from Kd.R_mono ho0 (fun k_ hk => (.inl hk)))
 have HK := Aside0.mk (Kept.refl w (fun k_ => P0_ k_))
 have HW0 := Aside0.mk hB.size; have HB := Aside0.mk hB; clear hB; have H := h; unfold laws_markIntS.f at H; clear h; have H' := Aside0.mk H; clear H
 go_enter Tryz.func88, Tryz.ntmps88
 go_wp2
 go_loopg [1, 5] k (fun kq v1 v5 w' => ∃ (x0_1 : List Int) (x1_1 : Int) (x5_1 : Int), v1 = .int .i64 x1_1 ∧ v5 = .int .i64 x5_1 ∧ Aside0 (laws_markIntS.l0 kq x0_1 x1_1 x5_1 = some (r1, r2)) ∧ Aside0 (kq ≤ k) ∧ Aside0 (Kd.R (Kd.int .i64) 3 w' w0.heap.size (fun k_ => (P0_ k_ ∨ w.heap.size ≤ k_)) u9000_ x0_1) ∧ Aside0 (Kept w w' (fun k_ => P0_ k_)) ∧ Aside0 (Below w0.heap.size w0 w'))
 case atStart => exact ⟨(l0), (a1), (0), y0_13, y0_13, H', ⟨Nat.le_refl _⟩, ⟨by (with_reducible repeat (first | apply Kd.R_alloc | apply Kd.R_drewN | apply Kd.R_drew)); exact HO0.out⟩, ⟨y0_4⟩, ⟨bI HB.out⟩⟩
 case round =>
  clear H'
  try clear p2
  obtain ⟨x0_1, x1_1, x5_1, rfl, rfl, HA, HK1, HO_0, HK, HB⟩ := hrel; cases gk with
  | zero => exact absurd HA.out (by simp [laws_markIntS.l0])
  | succ k1 =>
   have H := HA.out; clear HA
   simp only [laws_markIntS.l0] at H
   by_cases c3 : x5_1 < (x0_1.length : Int)
   ·
    rw [if_pos c3] at H
    have c3b0 : decide (x5_1 < (x0_1.length : Int)) = true := decide_eq_true c3; clear c3
    by_cases c4 : 0 ≤ x5_1
    rotate_left
    ·
     rw [if_neg c4] at H
     exact absurd H (by simp)
    rw [if_pos c4] at H
    have c4b0 : decide (0 ≤ x5_1) = true := decide_eq_true c4; clear c4; obtain ⟨y537, hy537⟩ : ∃ y_ : List Int, y_ = (x0_1.set (x5_1 : Int).toNat x1_1) := ⟨_, rfl⟩
    replace H : (laws_markIntS.l0 k1 y537 (wrap64 (x1_1 + 1)) (wrap64 (x5_1 + 1))) = some (r1, r2) := by first | (rw [hy537]; with_reducible exact H) | (have H2_ := (Option.bind_some _ _).symm.trans H; rw [hy537]; with_reducible exact H2_) | (have H2_ := (Option.bind_some _ _).symm.trans H; with_reducible exact H2_) | with_reducible exact H | (rw [hy537]; exact H) | exact H
    have Ny537 := Aside0.mk hy537; clear hy537; have H' := Aside0.mk H; clear H; obtain ⟨Ao6, co6, eo6⟩ := Kd.R_slice HO_0.out; subst eo6; have p5 : 0 ≤ (x5_1 : Int) := of_decide_eq_true y0_12; have q5 : (x5_1 : Int) < ((x0_1.length : Int) : Int) := of_decide_eq_true y0_12
    obtain ⟨go5, co5, eo5, gb5, gl5, cl5, HG5⟩ := Kd.R_form HO_0.out (by omega)
    (first | cases eo5 | (injection eo5 with ea_ en_ ec_; (first | subst ea_ | (injection ea_ with ea_; subst ea_)); subst ec_; clear en_))
    have GB5 := Aside0.mk gb5; have GG5 := Aside0.mk HG5; clear gb5 gl5 HG5
    have HMgo5 := Aside0.mk (show (P0_ go5 ∨ w.heap.size ≤ go5) from (HO_0.out.1 _ rfl))
    obtain ⟨hx5_0, hf5_0⟩ := Kd.R_celln 0 HO_0.out (x5_1 : Int) p5 q5; replace p5 := eq_true p5; replace q5 := eq_true q5; have HP7 := Kd.R_putg HO_0.out (x5_1 : Int) x1_1
    go_wp2_with (first | ((with_reducible refine gate_store (t := 3) (p := 15) rfl ?_); refine store_event (t := 3) (p := 15) (v := ?vo_w8) (w1 := (wr.setCell ⟨go5, (x5_1 : Int).toNat, none⟩ (.int .i64 x1_1))) ?hg ?ho ?hn ?hr ?_; (case ho => rfl); (case hg => rfl); (case hn => rfl); (case hr => first | (go_simp; done) | (go_simp; rfl)); intro w8 hw; have hg : wr.grownBy w8 (some go5) := (by rw [hw]; exact HP7.2); have hp_ : Kd.R (Kd.int .i64) 3 w8 w0.heap.size (fun k_ => (P0_ k_ ∨ w.heap.size ≤ k_)) (.slice (some ⟨go5, 0, none⟩) x0_1.length co6) y537 := (by rw [hw, Ny537.out]; exact HP7.1); clear HP7; replace HB := Aside0.mk ((by rw [hw]; exact below_set (HB.out) GB5.out : Below w0.heap.size w0 w8)); replace HK := Aside0.mk (Kept.of_grown (S := (fun k_ => P0_ k_)) hg y0_4 (fun k_ e_ => (HO_0.out.1 k_ e_))); replace HO_0 := Aside0.mk (hp_); clear hg hw hp_))
    go_roundg k1
    case measure => have := HK1.out; omega
    case rel => exact ⟨(y537), (wrap64 (x1_1 + 1)), (wrap64 (x5_1 + 1)), y0_13, y0_13, H', ⟨y0_16⟩, ⟨by (with_reducible repeat (first | apply Kd.R_alloc | apply Kd.R_drewN | apply Kd.R_drew)); exact HO_0.out⟩, ⟨y0_4⟩, ⟨bI HB.out⟩⟩
   rw [if_neg c3] at H
   have c3b0 : decide (x5_1 < (x0_1.length : Int)) = false := decide_eq_false c3; clear c3
   simp only [Option.some.injEq, Prod.mk.injEq] at H
   obtain ⟨rfl, rfl⟩ := H; obtain ⟨Ao9, co9, eo9⟩ := Kd.R_slice HO_0.out; subst eo9
   go_wp2
   go_ret
   exact ⟨y0_7, by (with_reducible repeat (first | apply Kd.R_alloc | apply Kd.R_drewN | apply Kd.R_drew)); exact HO_0.out, bI HB.out, y0_4⟩

/-! ### laws_markPartS: function 24 -/
def laws_markPartS.l0 : Nat → List (S48) → Int → Int → Option (Int × List (S48))
 | 0, _, _, _ => none
 | k + 1, x0, x1, x5 => if x5 < (x0.length : Int) then (if 0 ≤ x5 then ((laws_markText.f k (wrap64 (x1 + 1))).bind fun bt1 => ((laws_markIntS.f k ((rd_T48 x0 x5).f2) (wrap64 (wrap64 (x1 + 1) + 1))).bind fun bt2 => (laws_markPartS.l0 k (x0.set (x5 : Int).toNat (⟨x1, bt1, bt2.2⟩ : S48)) bt2.1 (wrap64 (x5 + 1))))) else (none)) else (some (x1, x0))
def laws_markPartS.f (k : Nat) (l0 : List (S48)) (a1 : Int) : Option (Int × List (S48)) := laws_markPartS.l0 k l0 a1 0
theorem laws_markPartS.mono_l : ∀ k, (∀ y0 y1 y2, LeO (laws_markPartS.l0 k y0 y1 y2) (laws_markPartS.l0 (k + 1) y0 y1 y2))
 | 0 => fun _ _ _ r h => by simp [laws_markPartS.l0] at h
 | k + 1 => by
  have ih0 := laws_markPartS.mono_l k
  intro y0 y1 y2
  unfold laws_markPartS.l0
  repeat' first | (with_reducible exact ih0 _ _ _) | (with_reducible exact laws_markText.mono _ _) | (with_reducible exact laws_markIntS.mono _ _ _) | (with_reducible exact LeO.refl _) | (with_reducible exact LeO.none _) | (with_reducible refine LeO.ite ?_ ?_) | (with_reducible refine LeO.bind ?_ (fun _ => ?_))
theorem laws_markPartS.mono : ∀ a0 a1 k, LeO (laws_markPartS.f k a0 a1) (laws_markPartS.f (k + 1) a0 a1) := by
 intro a0 a1 k
 unfold laws_markPartS.f
 exact laws_markPartS.mono_l k _ _ _
set_option maxHeartbeats 8000000 in
set_option maxRecDepth 100000 in
theorem laws_markPartS.calls (k : Nat) (P0_ : Nat → Prop) (u9000_ : Value) (l0 : List (S48)) (a1 : Int) (r1 : Int) (r2 : List (S48)) (base : Nat) (w0 w : World) (hB : Below w0.heap.size w0 w) (ho0 : Kd.S k48 48 w base P0_ u9000_ l0) (h : laws_markPartS.f k l0 a1 = some (r1, r2)) (hb0 : w0.heap.size ≤ base := by exact SzI.out) :
  Calls Tryz.prog 24 #[u9000_, .int .i64 a1] w fun e w' => e = .returned (.int .i64 r1) ∧ Kd.S k48 48 w' base (fun k_ => P0_ k_) u9000_ r2 ∧ Below w0.heap.size w0 w' ∧ Kept w w' (fun k_ => P0_ k_) := by
 have hu48 := Tryz.underlying48; have HO0 := Aside0.mk ho0
 have HK := Aside0.mk (Kept.refl w (fun k_ => P0_ k_))
 have HB := Aside0.mk hB; have HB0 := Aside0.mk hb0
 have H' := Aside0.mk (show laws_markPartS.l0 k l0 a1 0 = some (r1, r2) from h)
 clear h hB ho0 hb0
 go_enter Tryz.func24, Tryz.ntmps24
 go_wp2
 go_loopg [1, 5] k (fun kq v1 v5 w' => ∃ (x0_1 : List (S48)) (x1_1 : Int) (x5_1 : Int), v1 = .int .i64 x1_1 ∧ v5 = .int .i64 x5_1 ∧ Aside0 (laws_markPartS.l0 kq x0_1 x1_1 x5_1 = some (r1, r2)) ∧ Aside0 (kq ≤ k) ∧ Aside0 (Kd.S k48 48 w' base P0_ u9000_ x0_1) ∧ Aside0 (Kept w w' (fun k_ => P0_ k_)) ∧ Aside0 (Below w0.heap.size w0 w'))
 case atStart => exact ⟨l0, a1, 0, y0_15, y0_15, H', ⟨Nat.le_refl _⟩, HO0, HK, HB⟩
 case round =>
  clear H' HO0 HK HB; obtain ⟨x0_1, x1_1, x5_1, rfl, rfl, HA, HK1, HO_0, HK, HB⟩ := hrel; cases gk with
  | zero => exact absurd HA.out (by simp [laws_markPartS.l0])
  | succ k1 =>
   have H := HA.out; clear HA
   simp only [laws_markPartS.l0] at H
   by_cases c3 : x5_1 < (x0_1.length : Int)
   ·
    rw [if_pos c3] at H
    by_cases c4 : 0 ≤ x5_1
    rotate_left
    ·
     rw [if_neg c4] at H
     exact absurd H (by simp)
    rw [if_pos c4] at H
    obtain ⟨t1, A1, H⟩ := oB H; (try dsimp only at H); obtain ⟨⟨t2, t3⟩, A2, H⟩ := oB H; (try dsimp only at H); have H' := Aside0.mk H; clear H; obtain ⟨Ao, co, eo⟩ := Kd.S_slice HO_0.out; subst eo
    obtain ⟨go, co5, eo5, gb5, gl5, cl5, HG5⟩ := Kd.S_form HO_0.out (by omega)
    (first | cases eo5 | (injection eo5 with ea_ en_ ec_; (first | subst ea_ | (injection ea_ with ea_; subst ea_)); subst ec_; clear en_))
    obtain ⟨oki, ce, hcl, hM, hcc, hfr, hoki, hH⟩ := Kd.S_elem HO_0.out z48 (x5_1 : Int) c4 c3; obtain ⟨ve2, rfl, ge2⟩ := k48_openM hM; obtain ⟨Av, cv, ev⟩ := Kd.R_slice ge2; subst ev; have hx0 : wr.cell? ⟨go, (x5_1 : Int).toNat * 3, none⟩ = some (.int .i64 ((rd_T48 x0_1 x5_1).f0)) := hcc 0 _ rfl; have hf0 : wr.frozen? ⟨go, (x5_1 : Int).toNat * 3, none⟩ = false := hfr 0; have hin : go < wr.heap.size := gl5
    have HP1 := Kd.H_seg hH c4 c3 (seg := [.int .i64 x1_1]) (j := 0) (show 0 + 1 ≤ 3 by decide) (by intro q hq; rw [List.mem_singleton.1 hq]; rfl)
    have HOK := Aside0.mk (fun k_ (e_ : (Value.slice (some ⟨go, 0, none⟩) x0_1.length co).ownBlock = some k_) => (Kd.S_R HO_0.out).1 k_ e_)
    have HI := Aside0.mk hoki; have HG := Aside0.mk ge2; have HP := Aside0.mk HP1; have GB := Aside0.mk (Nat.le_trans HB0.out gb5); have HC := Aside0.mk HG5; have p5 : 0 ≤ x5_1 := c4; have q5 : x5_1 < (x0_1.length : Int) := c3; have c3b0 : decide (x5_1 < (x0_1.length : Int)) = true := decide_eq_true c3; have c4b0 : decide (0 ≤ x5_1) = true := decide_eq_true c4; clear hcl hM hcc hfr hoki hH ge2 HP1 hin gl5 gb5 HG5; replace p5 := eq_true p5; replace q5 := eq_true q5
    go_wp2_with (first | ((with_reducible refine gate_store (t := 3) (p := 16) rfl ?_); refine store_event (t := 3) (p := 16) (v := ?vo1) (w1 := (wr.setCell ⟨go, (x5_1 : Int).toNat * 3, none⟩ (.int .i64 x1_1))) ?hg ?ho ?hn ?hr ?_; (case ho => rfl); (case hg => rfl); (case hn => rfl); (case hr => first | (go_simp; done) | (go_simp; rfl)); intro w1 hw; have hg : wr.grownBy w1 (some go) := (by rw [hw]; exact HP.out.2); have hH1 : Kd.H k48 48 w1 base P0_ (.slice (some ⟨go, 0, none⟩) x0_1.length co) x0_1 x5_1 oki [.int .i64 x1_1, .string ((rd_T48 x0_1 x5_1).f1), .slice Av ((rd_T48 x0_1 x5_1).f2).length cv] := (by rw [hw]; exact HP.out.1); have hc1 := blk_set HC.out ((x5_1 : Int).toNat * 3) (.int .i64 x1_1); rw [← hw] at hc1; have hb1 : Below w0.heap.size w0 w1 := (by rw [hw]; exact below_set HB.out GB.out); have hk1 := Kept.of_grown (S := (fun k_ => P0_ k_)) hg HK.out (fun k_ e_ => .inl (HOK.out k_ (by rw [← e_]; rfl))); have hg1 := Kd.R_grown HG.out hg (fun k_ hk_ e_ => (HI.out k_ hk_).2 (by injection e_)); clear hw hx0 hf0 HP HC HB HK HG hg; have HH := Aside0.mk hH1; have HC := Aside0.mk hc1; have HB := Aside0.mk hb1; have HK := Aside0.mk hk1; have HG := Aside0.mk hg1; clear hH1 hc1 hb1 hk1 hg1) | ((with_reducible refine gate_callee (f := 87) rfl ?_); refine gB (some 22) Tryz.func87 #[.int .i64 (wrap64 (x1_1 + 1))] ?_; (with_reducible refine (laws_markText.calls k1 (wrap64 (x1_1 + 1)) t1 _ A1.out).mono ?_); rintro e w2 ⟨rfl, hb⟩; refine ⟨_, rfl, ?_⟩; have hH2 := Kd.H_below HH.out hb; have hc2 := blk_below HC.out hb; have hb2 := below_step HB.out hb; have hk2 := Kept.below HK.out hb; have hg2 := Kd.R_below HG.out hb; obtain ⟨_, _, _, _, _, hcc2, _⟩ := Kd.H_raw hH2 c4 c3; have hx1 : w2.cell? ⟨go, (x5_1 : Int).toNat * 3 + 1, none⟩ = some (.string ((rd_T48 x0_1 x5_1).f1)) := hcc2 1 _ rfl; have hf1 : w2.frozen? ⟨go, (x5_1 : Int).toNat * 3 + 1, none⟩ = false := blk_frozen hc2 _; have HP1 := Kd.H_seg hH2 c4 c3 (seg := [.string t1]) (j := 1) (show 1 + 1 ≤ 3 by decide) (by intro q hq; rw [List.mem_singleton.1 hq]; rfl); clear HH HC HB HK HG hb hcc2; have HP := Aside0.mk HP1; have HC := Aside0.mk hc2; have HB := Aside0.mk hb2; have HK := Aside0.mk hk2; have HG := Aside0.mk hg2; clear hH2 hc2 hb2 hk2 hg2 HP1) | ((with_reducible refine gate_store (t := 9) (p := 24) rfl ?_); refine store_event (t := 9) (p := 24) (v := ?vo2) (w1 := (w2.setCell ⟨go, (x5_1 : Int).toNat * 3 + 1, none⟩ (.string t1))) ?hg ?ho ?hn ?hr ?_; (case ho => rfl); (case hg => rfl); (case hn => rfl); (case hr => first | (go_simp; done) | (go_simp; rfl)); intro w3 hw; have hg : w2.grownBy w3 (some go) := (by rw [hw]; exact HP.out.2); have hH3 : Kd.H k48 48 w3 base P0_ (.slice (some ⟨go, 0, none⟩) x0_1.length co) x0_1 x5_1 oki [.int .i64 x1_1, .string t1, .slice Av ((rd_T48 x0_1 x5_1).f2).length cv] := (by rw [hw]; exact HP.out.1); have hb3 : Below w0.heap.size w0 w3 := (by rw [hw]; exact below_set HB.out GB.out); have hk3 := Kept.of_grown (S := (fun k_ => P0_ k_)) hg HK.out (fun k_ e_ => .inl (HOK.out k_ (by rw [← e_]; rfl))); have hg3 := Kd.R_grown HG.out hg (fun k_ hk_ e_ => (HI.out k_ hk_).2 (by injection e_)); obtain ⟨_, _, _, _, _, hcc3, _⟩ := Kd.H_raw hH3 c4 c3; have hx2 : w3.cell? ⟨go, (x5_1 : Int).toNat * 3 + 2, none⟩ = some (.slice Av ((rd_T48 x0_1 x5_1).f2).length cv) := hcc3 2 _ rfl; clear hw hx1 hf1 HP HC HB HK HG hg hcc3; have HH := Aside0.mk hH3; have HB := Aside0.mk hb3; have HK := Aside0.mk hk3; have HG := Aside0.mk hg3; clear hH3 hb3 hk3 hg3) | ((with_reducible refine gate_callee (f := 88) rfl ?_); refine gB (some 33) Tryz.func88 #[.slice Av ((rd_T48 x0_1 x5_1).f2).length cv, .int .i64 (wrap64 (wrap64 (x1_1 + 1) + 1))] ?_; (with_reducible refine (laws_markIntS.calls k1 oki (.slice Av ((rd_T48 x0_1 x5_1).f2).length cv) ((rd_T48 x0_1 x5_1).f2) (wrap64 (wrap64 (x1_1 + 1) + 1)) t2 t3 w0 _ HB.out (Kd.R_lower HG.out HB0.out) A2.out).mono ?_); rintro e w4 ⟨rfl, hy, hb, hkp⟩; refine ⟨_, rfl, ?_⟩; have hH4 := Kd.H_kept HH.out hkp (fun _ _ hn => hn); have hg4 := Kd.R_raise (d := Kd.int .i64) (b := w0.heap.size) (b' := base) (fun _ _ _ _ h_ => h_) (Kd.R_reok rfl hy (fun k_ e_ => HG.out.1 k_ e_)) (fun k_ e_ => Kd.R_base HG.out k_ e_); have hS := Kd.H_back hH4 (k48_mkM _ _ _ (⟨x1_1, t1, t3⟩ : S48) hg4) (fun _ h_ => h_); have hk4 := Kept.then_ HK.out hkp (fun k_ hk_ => .inl (HI.out k_ hk_).1); clear HH HG HB HK hx2 hkp hy hH4 hg4; have HO_1 := Aside0.mk hS; have HK := Aside0.mk hk4; have HB := Aside0.mk hb; clear hS hk4 hb))
    go_roundg k1
    case measure => have := HK1.out; omega
    case rel => exact ⟨_, t2, wrap64 (x5_1 + 1), y0_15, y0_15, H', ⟨y0_16⟩, HO_1, HK, HB⟩
   rw [if_neg c3] at H
   have c3b0 : decide (x5_1 < (x0_1.length : Int)) = false := decide_eq_false c3; clear c3
   simp only [Option.some.injEq, Prod.mk.injEq] at H
   obtain ⟨rfl, rfl⟩ := H; obtain ⟨Ao, co, eo⟩ := Kd.S_slice HO_0.out; subst eo
   go_wp2
   go_ret
   exact ⟨y0_15, HO_0.out, HB.out, HK.out⟩

/-! ### laws_markPart: function 25 -/
def laws_markPart.f (k : Nat) (a0_0 : Int) (a0_1 : ByteArray) (l0_2 : List Int) (a1 : Int) : Option (Int × List Int) := (laws_markIntS.f k l0_2 a1).bind fun bt539 => (some (bt539.1, bt539.2))
theorem laws_markPart.mono : ∀ a0 a1 a2 a3 k, LeO (laws_markPart.f k a0 a1 a2 a3) (laws_markPart.f (k + 1) a0 a1 a2 a3) := by
 intro a0 a1 a2 a3 k
 unfold laws_markPart.f
 repeat' first | (with_reducible exact laws_markIntS.mono _ _ _) | (with_reducible exact LeO.refl _) | (with_reducible exact LeO.none _) | (with_reducible refine LeO.ite ?_ ?_) | (with_reducible refine LeO.bind ?_ (fun _ => ?_))
set_option maxHeartbeats 8000000 in
set_option maxRecDepth 100000 in
theorem laws_markPart.calls (k : Nat) (a0_0 : Int) (a0_1 : ByteArray) (P0_2_ : Nat → Prop) (u9000_ : Value) (l0_2 : List Int) (a1 : Int) (r1 : Int) (r2 : List Int) (w0 w : World) (hB : Below w0.heap.size w0 w) (ho0_2 : Kd.R (Kd.int .i64) 3 w w0.heap.size P0_2_ u9000_ l0_2) (h : laws_markPart.f k a0_0 a0_1 l0_2 a1 = some (r1, r2)) :
  Calls Tryz.prog 25 #[.agg #[.int .i64 a0_0, .string a0_1, u9000_], .int .i64 a1] w fun e w' => e = .returned (.int .i64 r1) ∧ Kd.R (Kd.int .i64) 3 w' w0.heap.size (fun k_ => (P0_2_ k_ ∨ w.heap.size ≤ k_)) u9000_ r2 ∧ Below w0.heap.size w0 w' ∧ Kept w w' (fun k_ => P0_2_ k_) := by
 have hu48 := Tryz.underlying48
 have HO0_2 := Aside0.mk (show Kd.R (Kd.int .i64) 3 w w0.heap.size (fun k_ => (P0_2_ k_ ∨ w.heap.size ≤ k_)) u9000_ l0_2 from Kd.R_mono ho0_2 (fun k_ hk => (.inl hk)))
 have HK := Aside0.mk (Kept.refl w (fun k_ => P0_2_ k_))
 have HW0 := Aside0.mk hB.size; have HB := Aside0.mk hB; clear hB
 have H := h; unfold laws_markPart.f at H
 clear h; obtain ⟨⟨t539, t540⟩, A3, H⟩ := oB H; (try dsimp only at H)
 simp only [Option.some.injEq, Prod.mk.injEq] at H
 obtain ⟨rfl, rfl⟩ := H; obtain ⟨Ao4, co4, eo4⟩ := Kd.R_slice HO0_2.out; subst eo4
 go_enter Tryz.func25, Tryz.ntmps25
 go_wp2_with (first | ((with_reducible refine gd 2 ?_); refine bA 2 #[.int .i64 a0_0, .string a0_1, .slice Ao4 l0_2.length co4] 48 ?_; intro gb538 hg w5 hbox hb; replace HO0_2 := rb HO0_2 hb; have BK538 := Aside0.mk (hbox); have GW538 := Aside0.mk ((by rw [hg]; exact (by first | exact HK.out.1 | exact (show Kept w _ (fun k_ => P0_2_ k_) from y0_4).1) : w.heap.size ≤ gb538)); have GJ538 := gi GW538; replace HK := Aside0.mk (Kept.below (S := (fun k_ => P0_2_ k_)) y0_4 hb); have GE538 := bg hg HB; have GI538 := gi GE538; replace HB := bs HB hb; clear hb hbox hg; obtain ⟨hcz6_0, hcz6_1, hcz6_2, hfz6_0, hfz6_1, hfz6_2⟩ := cs3 BK538) | ((with_reducible refine gate_callee (f := 88) rfl ?_); refine gB (some 8) Tryz.func88 #[.slice Ao4 l0_2.length co4, .int .i64 a1] ?_; (with_reducible refine (laws_markIntS.calls k (fun k_ => some k_ = (.slice Ao4 l0_2.length co4 : Value).ownBlock) (.slice Ao4 l0_2.length co4) l0_2 a1 t539 t540 w0 _ ?side1 ?side2 A3.out).mono ?_); (case side1 => exact bI HB.out); (case side2 => exact Kd.R_tight rfl HO0_2.out); rintro e w7 ⟨rfl, hy0, hb, hkp⟩; refine ⟨_, rfl, ?_⟩; replace BK538 := Aside0.mk (blk_kept (kI BK538.out) hkp (fun hs_ => (fun e_ => (Kd.R_ne HO0_2.out BK538.out (by decide)) e_) hs_)); replace HK := Aside0.mk (Kept.then_ (S := (fun k_ => P0_2_ k_)) (by repeat (first | (with_reducible first | exact HK.out | apply Kept.alloc | apply Kept.drewN | apply Kept.drew | refine Kept.setCell ?_ (.inr GW538.out) _) | exact HK.out)) hkp (fun k_ hs_ => (fun e_ => (HO0_2.out.1 k_ e_.symm)) hs_)); replace HO0_2 := Aside0.mk (Kd.R_reok rfl hy0 (fun k_ e_ => HO0_2.out.1 k_ e_)); replace HB := Aside0.mk (hb); (try clear hb); (try clear hkp); (try clear hy0)))
 go_ret
 exact ⟨y0_7, by (with_reducible repeat (first | apply Kd.R_alloc | apply Kd.R_drewN | apply Kd.R_drew)); exact HO0_2.out, bI HB.out, by repeat (first | (with_reducible first | exact HK.out | apply Kept.alloc | apply Kept.drewN | apply Kept.drew | refine Kept.setCell ?_ (.inr GW538.out) _) | exact HK.out)⟩

/-! ### laws_heldIntS: function 89 -/
def laws_heldIntS.l0 : Nat → List Int → Int → Int → Option (Int)
 | 0, _, _, _ => none
 | k + 1, x0, x1, x5 => if x5 < (x0.length : Int) then (if 0 ≤ x5 then (if (rd x0 x5) = x1 then (laws_heldIntS.l0 k x0 (wrap64 (x1 + 1)) (wrap64 (x5 + 1))) else (some (-1))) else (none)) else (some x1)
def laws_heldIntS.f (k : Nat) (l0 : List Int) (a1 : Int) : Option (Int) := laws_heldIntS.l0 k l0 a1 0
theorem laws_heldIntS.mono_l : ∀ k, (∀ y0 y1 y2, LeO (laws_heldIntS.l0 k y0 y1 y2) (laws_heldIntS.l0 (k + 1) y0 y1 y2))
 | 0 => fun _ _ _ r h => by simp [laws_heldIntS.l0] at h
 | k + 1 => by
  have ih0 := laws_heldIntS.mono_l k
  intro y0 y1 y2
  unfold laws_heldIntS.l0
  repeat' first | (with_reducible exact ih0 _ _ _) | (with_reducible exact LeO.refl _) | (with_reducible exact LeO.none _) | (with_reducible refine LeO.ite ?_ ?_) | (with_reducible refine LeO.bind ?_ (fun _ => ?_))
theorem laws_heldIntS.mono : ∀ a0 a1 k, LeO (laws_heldIntS.f k a0 a1) (laws_heldIntS.f (k + 1) a0 a1) := by
 intro a0 a1 k
 have ih0 := laws_heldIntS.mono_l k
 unfold laws_heldIntS.f
 repeat' first | (with_reducible exact ih0 _ _ _) | (with_reducible exact LeO.refl _) | (with_reducible exact LeO.none _) | (with_reducible refine LeO.ite ?_ ?_) | (with_reducible refine LeO.bind ?_ (fun _ => ?_))
set_option maxHeartbeats 8000000 in
set_option maxRecDepth 100000 in
theorem laws_heldIntS.calls (k : Nat) (A0 : Option Addr) (c0 : Nat) (l0 : List Int) (a1 : Int) (r : Int) (w : World) (hr0 : Kd.C (Kd.int .i64) w A0 l0.length l0) (hc0 : l0.length ≤ c0) (h : laws_heldIntS.f k l0 a1 = some r) :
  Calls Tryz.prog 89 #[.slice A0 l0.length c0, .int .i64 a1] w fun e w' => e = .returned (.int .i64 r) ∧ Drawn0 w w' := by
 have HR0 := Aside0.mk hr0; have HC0 := Aside0.mk hc0; clear hr0 hc0; have H := h; unfold laws_heldIntS.f at H; clear h; have H' := Aside0.mk H; clear H
 go_enter Tryz.func89, Tryz.ntmps89
 go_wp2
 go_loopg [1, 5] k (fun kq v1 v5 w' => ∃ (x1_1 : Int) (x5_1 : Int), v1 = .int .i64 x1_1 ∧ v5 = .int .i64 x5_1 ∧ Aside0 (laws_heldIntS.l0 kq l0 x1_1 x5_1 = some r) ∧ Aside0 (kq ≤ k) ∧ Drawn0 w w')
 case atStart => exact ⟨(a1), (0), y0_13, y0_13, H', ⟨Nat.le_refl _⟩, y0_9⟩
 case round =>
  clear H'
  try clear p2
  obtain ⟨x1_1, x5_1, rfl, rfl, HA, HK1, ⟨m1, rfl⟩⟩ := hrel; cases gk with
  | zero => exact absurd HA.out (by simp [laws_heldIntS.l0])
  | succ k1 =>
   have H := HA.out; clear HA
   simp only [laws_heldIntS.l0] at H
   by_cases c3 : x5_1 < (l0.length : Int)
   ·
    rw [if_pos c3] at H
    have c3b0 : decide (x5_1 < (l0.length : Int)) = true := decide_eq_true c3; clear c3
    by_cases c4 : 0 ≤ x5_1
    rotate_left
    ·
     rw [if_neg c4] at H
     exact absurd H (by simp)
    rw [if_pos c4] at H
    have c4b0 : decide (0 ≤ x5_1) = true := decide_eq_true c4; clear c4
    by_cases c5 : (rd l0 x5_1) = x1_1
    ·
     rw [if_pos c5] at H
     have c5b0 : ((rd l0 x5_1) == x1_1) = true := beq_iff_eq.mpr c5; have c5b1 : ((rd l0 x5_1) != x1_1) = false := bne_eq_false_iff_eq.mpr c5; clear c5; have H' := Aside0.mk H; clear H; have p541 : 0 ≤ (x5_1 : Int) := of_decide_eq_true y0_12; have q541 : x5_1 < (l0.length : Int) := of_decide_eq_true y0_12; obtain ⟨ad541, e541, hx541_0⟩ := Kd.at_int HR0.out x5_1 p541 q541; cases e541; replace p541 := eq_true p541; replace q541 := eq_true q541
     go_wp2
     go_roundg k1
     case measure => have := HK1.out; omega
     case rel => exact ⟨(wrap64 (x1_1 + 1)), (wrap64 (x5_1 + 1)), y0_13, y0_13, H', ⟨y0_16⟩, y0_9⟩
    rw [if_neg c5] at H
    have c5b0 : ((rd l0 x5_1) == x1_1) = false := beq_eq_false_iff_ne.mpr c5; have c5b1 : ((rd l0 x5_1) != x1_1) = true := bne_iff_ne.mpr c5; obtain rfl := Option.some.inj H; have p541 : 0 ≤ (x5_1 : Int) := of_decide_eq_true y0_12; have q541 : x5_1 < (l0.length : Int) := of_decide_eq_true y0_12; obtain ⟨ad541, e541, hx541_0⟩ := Kd.at_int HR0.out x5_1 p541 q541; cases e541; replace p541 := eq_true p541; replace q541 := eq_true q541
    go_wp2
    go_ret
    exact ⟨y0_13, y0_9⟩
   rw [if_neg c3] at H
   have c3b0 : decide (x5_1 < (l0.length : Int)) = false := decide_eq_false c3; clear c3; obtain rfl := Option.some.inj H
   go_wp2
   go_ret
   exact ⟨y0_13, y0_9⟩

end Go.Proofs.YtdmjhgogljhfkaaGreatDoor.PFnExactTableAdd
