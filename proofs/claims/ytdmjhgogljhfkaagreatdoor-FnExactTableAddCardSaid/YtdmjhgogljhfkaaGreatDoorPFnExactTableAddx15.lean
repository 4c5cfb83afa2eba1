-- By a program of this session, out of the translation (the print of the kit, with turns of its own). Lean checks it.
import Derived.Test.YtdmjhgogljhfkaaGreatDoorPFnExactTableAddx0
import Derived.Test.YtdmjhgogljhfkaaGreatDoorPFnExactTableAddx14
namespace Go.Proofs.YtdmjhgogljhfkaaGreatDoor.PFnExactTableAdd
open Go.RowKit Go.Proofs.YtdmjhgogljhfkaaGreatDoorW.PrintWords Go.Proofs.YtdmjhgogljhfkaaGreatDoorW.PrintLast Go.Proofs.YtdmjhgogljhfkaaGreatDoorW.PrintMore
attribute [local go_sem] max2_int min2_int max_two min_two max_three min_three max_four min_four   -- for this text's walks alone
attribute [local go_sem] cell_in frozen_in cell_g cell_p
set_option synthInstance.maxSize 1000000
set_option synthInstance.maxHeartbeats 2000000
set_option linter.unusedVariables false
set_option linter.unusedSimpArgs false

/-! ### laws_heldPartS: function 26 -/
def laws_heldPartS.l0 : Nat → List (S48) → Int → Int → Option (Int)
 | 0, _, _, _ => none
 | k + 1, x0, x1, x5 => if x5 < (x0.length : Int) then (if 0 ≤ x5 then (if ((rd_T48 x0 x5).f0) = x1 then ((laws_markText.f k (wrap64 (x1 + 1))).bind fun t544 => (if ((rd_T48 x0 x5).f1).toList = t544.toList then ((laws_heldIntS.f k ((rd_T48 x0 x5).f2) (wrap64 ((wrap64 (x1 + 1)) + 1))).bind fun t546 => (if t546 < 0 then (some (-1)) else (laws_heldPartS.l0 k x0 t546 (wrap64 (x5 + 1))))) else (some (-1)))) else (some (-1))) else (none)) else (some x1)
def laws_heldPartS.f (k : Nat) (l0 : List (S48)) (a1 : Int) : Option (Int) := laws_heldPartS.l0 k l0 a1 0
theorem laws_heldPartS.mono_l : ∀ k, (∀ y0 y1 y2, LeO (laws_heldPartS.l0 k y0 y1 y2) (laws_heldPartS.l0 (k + 1) y0 y1 y2))
 | 0 => fun _ _ _ r h => by simp [laws_heldPartS.l0] at h
 | k + 1 => by
  have ih0 := laws_heldPartS.mono_l k
  intro y0 y1 y2
  unfold laws_heldPartS.l0
  repeat' first | (with_reducible exact ih0 _ _ _) | (with_reducible exact laws_heldIntS.mono _ _ _) | (with_reducible exact laws_markText.mono _ _) | (with_reducible exact LeO.refl _) | (with_reducible exact LeO.none _) | (with_reducible refine LeO.ite ?_ ?_) | (with_reducible refine LeO.bind ?_ (fun _ => ?_))
theorem laws_heldPartS.mono : ∀ a0 a1 k, LeO (laws_heldPartS.f k a0 a1) (laws_heldPartS.f (k + 1) a0 a1) := by
 intro a0 a1 k
 have ih0 := laws_heldPartS.mono_l k
 unfold laws_heldPartS.f
 repeat' first | (with_reducible exact ih0 _ _ _) | (with_reducible exact laws_heldIntS.mono _ _ _) | (with_reducible exact laws_markText.mono _ _) | (with_reducible exact LeO.refl _) | (with_reducible exact LeO.none _) | (with_reducible refine LeO.ite ?_ ?_) | (with_reducible refine LeO.bind ?_ (fun _ => ?_))
def laws_heldPartS.T7 : Bool × List (List Nat × List Nat) := (true, [([], []), ([], []), ([0, 1], [0, 1]), ([2], [2]), ([3], [3]), ([], []), ([5], [5]), ([4, 6], [4, 6])])
def laws_heldPartS.B7 : List Nat := [0, 0, 3, 7, 15, 0, 32, 127]
theorem laws_heldPartS.tab7 : rtab .any (opsOf Tryz.f26 7) = laws_heldPartS.T7 := by kernel_rfl
theorem laws_heldPartS.bits7 : waitsOk laws_heldPartS.T7.2 laws_heldPartS.B7 = true := by kernel_rfl
set_option maxHeartbeats 8000000 in
set_option maxRecDepth 100000 in
theorem laws_heldPartS.calls (k : Nat) (A0 : Option Addr) (c0 : Nat) (l0 : List (S48)) (a1 : Int) (r : Int) (w : World) (hr0 : Kd.C k48 w A0 l0.length l0) (hc0 : l0.length ≤ c0) (h : laws_heldPartS.f k l0 a1 = some r) :
  Calls Tryz.prog 26 #[.slice A0 l0.length c0, .int .i64 a1] w fun e w' => e = .returned (.int .i64 r) ∧ Below w.heap.size w w' := by
 have HR0 := Aside0.mk hr0; have HC0 := Aside0.mk hc0; clear hr0 hc0; have HB := Aside0.mk (Below.refl w.heap.size w); have H := h; unfold laws_heldPartS.f at H; clear h; have H' := Aside0.mk H; clear H
 go_enter Tryz.func26, Tryz.ntmps26
 go_wp2
 go_loopg [1, 5] k (fun kq v1 v5 w' => ∃ (x1_1 : Int) (x5_1 : Int), v1 = .int .i64 x1_1 ∧ v5 = .int .i64 x5_1 ∧ Aside0 (laws_heldPartS.l0 kq l0 x1_1 x5_1 = some r) ∧ Aside0 (kq ≤ k) ∧ Aside0 (Below w.heap.size w w'))
 case atStart => exact ⟨(a1), (0), y0_13, y0_13, H', ⟨Nat.le_refl _⟩, ⟨bI HB.out⟩⟩
 case round =>
  clear H'
  try clear c2
  try clear p2
  obtain ⟨x1_1, x5_1, rfl, rfl, HA, HK1, HB⟩ := hrel; cases gk with
  | zero => exact absurd HA.out (by simp [laws_heldPartS.l0])
  | succ k1 =>
   have H := HA.out; clear HA
   simp only [laws_heldPartS.l0] at H
   by_cases c3 : x5_1 < (l0.length : Int)
   ·
    rw [if_pos c3] at H
    have c3b0 : decide (x5_1 < (l0.length : Int)) = true := decide_eq_true c3; clear c3
    by_cases c4 : 0 ≤ x5_1
    rotate_left
    ·
     rw [if_neg c4] at H
     exact absurd H (by simp)
    rw [if_pos c4] at H
    have c4b0 : decide (0 ≤ x5_1) = true := decide_eq_true c4; clear c4
    by_cases c5 : ((rd_T48 l0 x5_1).f0) = x1_1
    ·
     rw [if_pos c5] at H
     have c5b0 : (((rd_T48 l0 x5_1).f0) == x1_1) = true := beq_iff_eq.mpr c5; have c5b1 : (((rd_T48 l0 x5_1).f0) != x1_1) = false := bne_eq_false_iff_eq.mpr c5; clear c5; obtain ⟨t544, A6, H⟩ := oB H; (try dsimp only at H)
     by_cases c7 : ((rd_T48 l0 x5_1).f1).toList = t544.toList
     ·
      rw [if_pos c7] at H
      have c7b0 : (((rd_T48 l0 x5_1).f1).toList == t544.toList) = true := beq_iff_eq.mpr c7; have c7b1 : (((rd_T48 l0 x5_1).f1).toList != t544.toList) = false := bne_eq_false_iff_eq.mpr c7; clear c7; obtain ⟨t546, A8, H⟩ := oB H; (try dsimp only at H)
      by_cases c9 : t546 < 0
      ·
       rw [if_pos c9] at H
       have c9b0 : decide (t546 < 0) = true := decide_eq_true c9; clear c9; obtain rfl := Option.some.inj H; have p542 : 0 ≤ (x5_1 : Int) := of_decide_eq_true y0_12; have q542 : x5_1 < (l0.length : Int) := of_decide_eq_true y0_12; obtain ⟨ad542, A542_2, c542_2, e542, hx542_0, hx542_1, hx542_2, hl542_2, hi542_2⟩ := at_T48 HR0.out x5_1 p542 q542; have hr542_2 := hx542_2; cases e542; replace hx542_0 := bx HB hx542_0; replace hx542_1 := bx HB hx542_1; replace hx542_2 := bx HB hx542_2; have HR542_2 := Aside0.mk hi542_2; have HC542_2 := Aside0.mk hl542_2; clear hi542_2 hl542_2; replace p542 := eq_true p542; replace q542 := eq_true q542
       try go_wp2
       replace HB := Aside0.mk (below_drew1 HB.out); have p543 : 0 ≤ (x5_1 : Int) := of_decide_eq_true y0_12; have q543 : x5_1 < (l0.length : Int) := of_decide_eq_true y0_12; obtain ⟨ad543, A543_2, c543_2, e543, hx543_0, hx543_1, hx543_2, hl543_2, hi543_2⟩ := at_T48 HR0.out x5_1 p543 q543; have hw543_2 := hx543_2; have hw543_1 := hx543_1; have hw543_0 := hx543_0
       obtain rfl : ad542 = ad543 := (by injection e543); obtain ⟨rfl, rfl⟩ : A542_2 = A543_2 ∧ c542_2 = c543_2 := (by have h_ := Option.some.inj (hr542_2.symm.trans hx543_2); injection h_ with h1_ _ h3_; exact ⟨h1_, h3_⟩)
       replace hx543_0 := bx HB hx543_0; replace hx543_1 := bx HB hx543_1; replace hx543_2 := bx HB hx543_2; have HR543_2 := Aside0.mk hi543_2; have HC543_2 := Aside0.mk hl543_2; clear hi543_2 hl543_2; replace p543 := eq_true p543; replace q543 := eq_true q543
       refine start_ (n := 8) (S := fun w' => w'.cell? (ad542.add ((x5_1).toNat * 3)) = some (.int .i64 ((rd_T48 l0 x5_1).f0)) ∧ w'.cell? ⟨(ad542.add ((x5_1).toNat * 3)).block, (ad542.add ((x5_1).toNat * 3)).off + 1, none⟩ = some (.string ((rd_T48 l0 x5_1).f1)) ∧ w'.cell? ⟨(ad542.add ((x5_1).toNat * 3)).block, (ad542.add ((x5_1).toNat * 3)).off + 2, none⟩ = some (.slice A542_2 ((rd_T48 l0 x5_1).f2).length c542_2)) (ds := []) #[false, false, false, false, false, false, false, false] (by kernel_rfl) rfl rfl ⟨(bx HB hw543_0), (bx HB hw543_1), (bx HB hw543_2)⟩ (fun hHeld => ?_); refine with_tabW laws_heldPartS.tab7 laws_heldPartS.bits7 (fun HT_ HW_ => ?_)
       generalize wr.drew = w10 at HB HR543_2 hx543_0 hx543_1 hx543_2 hHeld ⊢
       refine pA 0 (some 21) (bz 8 1) HT_ ?_
       refine pA 1 (some 22) (bz 8 3) HT_ ?_
       refine pA 2 (some 23) (bz 8 7) HT_ ?_
       refine pA 3 (some 24) (bz 8 15) HT_ ?_
       refine pA 5 (some 26) (bz 8 47) HT_ ?_
       refine tA 4 (some 25) (bz 8 63) HT_ HW_ hHeld ?_
       refine oA 6 (some 27) (bz 8 127) HT_ (fun K hK => ?_)
       refine gA Tryz.func87 #[.int .i64 (wrap64 (x1_1 + 1))] ?_
       with_reducible refine (laws_markText.calls k1 (wrap64 (x1_1 + 1)) t544 _ A6.out).mono ?_
       rintro e w11 ⟨rfl, hb⟩
       refine ⟨_, rfl, ?_⟩
       replace HB := bs HB hb
       (try clear hb)
       (try clear hb2)
       (try clear hk)
       (try clear hi)
       refine hK.out _ _ ⟨(bx HB hw543_0), (bx HB hw543_1), (bx HB hw543_2)⟩ (fun hHeld => ?_)
       clear hK K
       refine nA (some 27) ?_
       refine pA 7 (some 28) (bz 8 255) HT_ ?_
       refine done_ (done_of HT_.out (by kernel_rfl)) ?_
       have p545 : 0 ≤ (x5_1 : Int) := of_decide_eq_true y0_12; have q545 : x5_1 < (l0.length : Int) := of_decide_eq_true y0_12; obtain ⟨ad545, A545_2, c545_2, e545, hx545_0, hx545_1, hx545_2, hl545_2, hi545_2⟩ := at_T48 HR0.out x5_1 p545 q545
       obtain rfl : ad542 = ad545 := (by injection e545); obtain ⟨rfl, rfl⟩ : A542_2 = A545_2 ∧ c542_2 = c545_2 := (by have h_ := Option.some.inj (hr542_2.symm.trans hx545_2); injection h_ with h1_ _ h3_; exact ⟨h1_, h3_⟩)
       replace hx545_0 := bx HB hx545_0; replace hx545_1 := bx HB hx545_1; replace hx545_2 := bx HB hx545_2; have HR545_2 := Aside0.mk hi545_2; have HC545_2 := Aside0.mk hl545_2; clear hi545_2 hl545_2; replace p545 := eq_true p545; replace q545 := eq_true q545
       try go_wp2_with (first | ((with_reducible refine gate_callee (f := 89) rfl ?_); refine gB (some 37) Tryz.func89 #[.slice A542_2 ((rd_T48 l0 x5_1).f2).length c542_2, .int .i64 (wrap64 ((wrap64 (x1_1 + 1)) + 1))] ?_; (with_reducible refine (laws_heldIntS.calls k1 _ _ ((rd_T48 l0 x5_1).f2) (wrap64 ((wrap64 (x1_1 + 1)) + 1)) t546 _ ?side1 ?side2 A8.out).mono ?_); (case side1 => exact ch HR545_2 HB); (case side2 => exact HC545_2.out); rintro e w' ⟨rfl, ⟨nd, rfl⟩⟩; refine ⟨_, rfl, ?_⟩))
       go_ret
       exact ⟨y0_7, bI HB.out⟩
      rw [if_neg c9] at H
      have c9b0 : decide (t546 < 0) = false := decide_eq_false c9; clear c9; have H' := Aside0.mk H; clear H; have p542 : 0 ≤ (x5_1 : Int) := of_decide_eq_true y0_12; have q542 : x5_1 < (l0.length : Int) := of_decide_eq_true y0_12; obtain ⟨ad542, A542_2, c542_2, e542, hx542_0, hx542_1, hx542_2, hl542_2, hi542_2⟩ := at_T48 HR0.out x5_1 p542 q542; have hr542_2 := hx542_2; cases e542; replace hx542_0 := bx HB hx542_0; replace hx542_1 := bx HB hx542_1; replace hx542_2 := bx HB hx542_2; have HR542_2 := Aside0.mk hi542_2; have HC542_2 := Aside0.mk hl542_2; clear hi542_2 hl542_2; replace p542 := eq_true p542; replace q542 := eq_true q542
      try go_wp2
      replace HB := Aside0.mk (below_drew1 HB.out); have p543 : 0 ≤ (x5_1 : Int) := of_decide_eq_true y0_12; have q543 : x5_1 < (l0.length : Int) := of_decide_eq_true y0_12; obtain ⟨ad543, A543_2, c543_2, e543, hx543_0, hx543_1, hx543_2, hl543_2, hi543_2⟩ := at_T48 HR0.out x5_1 p543 q543; have hw543_2 := hx543_2; have hw543_1 := hx543_1; have hw543_0 := hx543_0
      obtain rfl : ad542 = ad543 := (by injection e543); obtain ⟨rfl, rfl⟩ : A542_2 = A543_2 ∧ c542_2 = c543_2 := (by have h_ := Option.some.inj (hr542_2.symm.trans hx543_2); injection h_ with h1_ _ h3_; exact ⟨h1_, h3_⟩)
      replace hx543_0 := bx HB hx543_0; replace hx543_1 := bx HB hx543_1; replace hx543_2 := bx HB hx543_2; have HR543_2 := Aside0.mk hi543_2; have HC543_2 := Aside0.mk hl543_2; clear hi543_2 hl543_2; replace p543 := eq_true p543; replace q543 := eq_true q543
      refine start_ (n := 8) (S := fun w' => w'.cell? (ad542.add ((x5_1).toNat * 3)) = some (.int .i64 ((rd_T48 l0 x5_1).f0)) ∧ w'.cell? ⟨(ad542.add ((x5_1).toNat * 3)).block, (ad542.add ((x5_1).toNat * 3)).off + 1, none⟩ = some (.string ((rd_T48 l0 x5_1).f1)) ∧ w'.cell? ⟨(ad542.add ((x5_1).toNat * 3)).block, (ad542.add ((x5_1).toNat * 3)).off + 2, none⟩ = some (.slice A542_2 ((rd_T48 l0 x5_1).f2).length c542_2)) (ds := []) #[false, false, false, false, false, false, false, false] (by kernel_rfl) rfl rfl ⟨(bx HB hw543_0), (bx HB hw543_1), (bx HB hw543_2)⟩ (fun hHeld => ?_); refine with_tabW laws_heldPartS.tab7 laws_heldPartS.bits7 (fun HT_ HW_ => ?_)
      generalize wr.drew = w12 at HB HR543_2 hx543_0 hx543_1 hx543_2 hHeld ⊢
      refine pA 0 (some 21) (bz 8 1) HT_ ?_
      refine pA 1 (some 22) (bz 8 3) HT_ ?_
      refine pA 2 (some 23) (bz 8 7) HT_ ?_
      refine pA 3 (some 24) (bz 8 15) HT_ ?_
      refine pA 5 (some 26) (bz 8 47) HT_ ?_
      refine tA 4 (some 25) (bz 8 63) HT_ HW_ hHeld ?_
      refine oA 6 (some 27) (bz 8 127) HT_ (fun K hK => ?_)
      refine gA Tryz.func87 #[.int .i64 (wrap64 (x1_1 + 1))] ?_
      with_reducible refine (laws_markText.calls k1 (wrap64 (x1_1 + 1)) t544 _ A6.out).mono ?_
      rintro e w13 ⟨rfl, hb⟩
      refine ⟨_, rfl, ?_⟩
      replace HB := bs HB hb
      (try clear hb)
      (try clear hb2)
      (try clear hk)
      (try clear hi)
      refine hK.out _ _ ⟨(bx HB hw543_0), (bx HB hw543_1), (bx HB hw543_2)⟩ (fun hHeld => ?_)
      clear hK K
      refine nA (some 27) ?_
      refine pA 7 (some 28) (bz 8 255) HT_ ?_
      refine done_ (done_of HT_.out (by kernel_rfl)) ?_
      have p545 : 0 ≤ (x5_1 : Int) := of_decide_eq_true y0_12; have q545 : x5_1 < (l0.length : Int) := of_decide_eq_true y0_12; obtain ⟨ad545, A545_2, c545_2, e545, hx545_0, hx545_1, hx545_2, hl545_2, hi545_2⟩ := at_T48 HR0.out x5_1 p545 q545
      obtain rfl : ad542 = ad545 := (by injection e545); obtain ⟨rfl, rfl⟩ : A542_2 = A545_2 ∧ c542_2 = c545_2 := (by have h_ := Option.some.inj (hr542_2.symm.trans hx545_2); injection h_ with h1_ _ h3_; exact ⟨h1_, h3_⟩)
      replace hx545_0 := bx HB hx545_0; replace hx545_1 := bx HB hx545_1; replace hx545_2 := bx HB hx545_2; have HR545_2 := Aside0.mk hi545_2; have HC545_2 := Aside0.mk hl545_2; clear hi545_2 hl545_2; replace p545 := eq_true p545; replace q545 := eq_true q545
      try go_wp2_with (first | ((with_reducible refine gate_callee (f := 89) rfl ?_); refine gB (some 37) Tryz.func89 #[.slice A542_2 ((rd_T48 l0 x5_1).f2).length c542_2, .int .i64 (wrap64 ((wrap64 (x1_1 + 1)) + 1))] ?_; (with_reducible refine (laws_heldIntS.calls k1 _ _ ((rd_T48 l0 x5_1).f2) (wrap64 ((wrap64 (x1_1 + 1)) + 1)) t546 _ ?side1 ?side2 A8.out).mono ?_); (case side1 => exact ch HR545_2 HB); (case side2 => exact HC545_2.out); rintro e w' ⟨rfl, ⟨nd, rfl⟩⟩; refine ⟨_, rfl, ?_⟩))
      go_roundg k1
      case measure => have := HK1.out; omega
      case rel => exact ⟨(t546), (wrap64 (x5_1 + 1)), y0_13, y0_13, H', ⟨y0_16⟩, ⟨bI HB.out⟩⟩
     rw [if_neg c7] at H
     have c7b0 : (((rd_T48 l0 x5_1).f1).toList == t544.toList) = false := beq_eq_false_iff_ne.mpr c7; have c7b1 : (((rd_T48 l0 x5_1).f1).toList != t544.toList) = true := bne_iff_ne.mpr c7; obtain rfl := Option.some.inj H; have p542 : 0 ≤ (x5_1 : Int) := of_decide_eq_true y0_12; have q542 : x5_1 < (l0.length : Int) := of_decide_eq_true y0_12; obtain ⟨ad542, A542_2, c542_2, e542, hx542_0, hx542_1, hx542_2, hl542_2, hi542_2⟩ := at_T48 HR0.out x5_1 p542 q542; have hr542_2 := hx542_2; cases e542; replace hx542_0 := bx HB hx542_0; replace hx542_1 := bx HB hx542_1; replace hx542_2 := bx HB hx542_2; have HR542_2 := Aside0.mk hi542_2; have HC542_2 := Aside0.mk hl542_2; clear hi542_2 hl542_2; replace p542 := eq_true p542; replace q542 := eq_true q542
     try go_wp2
     replace HB := Aside0.mk (below_drew1 HB.out); have p543 : 0 ≤ (x5_1 : Int) := of_decide_eq_true y0_12; have q543 : x5_1 < (l0.length : Int) := of_decide_eq_true y0_12; obtain ⟨ad543, A543_2, c543_2, e543, hx543_0, hx543_1, hx543_2, hl543_2, hi543_2⟩ := at_T48 HR0.out x5_1 p543 q543; have hw543_2 := hx543_2; have hw543_1 := hx543_1; have hw543_0 := hx543_0
     obtain rfl : ad542 = ad543 := (by injection e543); obtain ⟨rfl, rfl⟩ : A542_2 = A543_2 ∧ c542_2 = c543_2 := (by have h_ := Option.some.inj (hr542_2.symm.trans hx543_2); injection h_ with h1_ _ h3_; exact ⟨h1_, h3_⟩)
     replace hx543_0 := bx HB hx543_0; replace hx543_1 := bx HB hx543_1; replace hx543_2 := bx HB hx543_2; have HR543_2 := Aside0.mk hi543_2; have HC543_2 := Aside0.mk hl543_2; clear hi543_2 hl543_2; replace p543 := eq_true p543; replace q543 := eq_true q543
     refine start_ (n := 8) (S := fun w' => w'.cell? (ad542.add ((x5_1).toNat * 3)) = some (.int .i64 ((rd_T48 l0 x5_1).f0)) ∧ w'.cell? ⟨(ad542.add ((x5_1).toNat * 3)).block, (ad542.add ((x5_1).toNat * 3)).off + 1, none⟩ = some (.string ((rd_T48 l0 x5_1).f1)) ∧ w'.cell? ⟨(ad542.add ((x5_1).toNat * 3)).block, (ad542.add ((x5_1).toNat * 3)).off + 2, none⟩ = some (.slice A542_2 ((rd_T48 l0 x5_1).f2).length c542_2)) (ds := []) #[false, false, false, false, false, false, false, false] (by kernel_rfl) rfl rfl ⟨(bx HB hw543_0), (bx HB hw543_1), (bx HB hw543_2)⟩ (fun hHeld => ?_); refine with_tabW laws_heldPartS.tab7 laws_heldPartS.bits7 (fun HT_ HW_ => ?_)
     generalize wr.drew = w14 at HB HR543_2 hx543_0 hx543_1 hx543_2 hHeld ⊢
     refine pA 0 (some 21) (bz 8 1) HT_ ?_
     refine pA 1 (some 22) (bz 8 3) HT_ ?_
     refine pA 2 (some 23) (bz 8 7) HT_ ?_
     refine pA 3 (some 24) (bz 8 15) HT_ ?_
     refine pA 5 (some 26) (bz 8 47) HT_ ?_
     refine tA 4 (some 25) (bz 8 63) HT_ HW_ hHeld ?_
     refine oA 6 (some 27) (bz 8 127) HT_ (fun K hK => ?_)
     refine gA Tryz.func87 #[.int .i64 (wrap64 (x1_1 + 1))] ?_
     with_reducible refine (laws_markText.calls k1 (wrap64 (x1_1 + 1)) t544 _ A6.out).mono ?_
     rintro e w15 ⟨rfl, hb⟩
     refine ⟨_, rfl, ?_⟩
     replace HB := bs HB hb
     (try clear hb)
     (try clear hb2)
     (try clear hk)
     (try clear hi)
     refine hK.out _ _ ⟨(bx HB hw543_0), (bx HB hw543_1), (bx HB hw543_2)⟩ (fun hHeld => ?_)
     clear hK K
     refine nA (some 27) ?_
     refine pA 7 (some 28) (bz 8 255) HT_ ?_
     refine done_ (done_of HT_.out (by kernel_rfl)) ?_
     try go_wp2
     go_ret
     exact ⟨y0_7, bI HB.out⟩
    rw [if_neg c5] at H
    have c5b0 : (((rd_T48 l0 x5_1).f0) == x1_1) = false := beq_eq_false_iff_ne.mpr c5; have c5b1 : (((rd_T48 l0 x5_1).f0) != x1_1) = true := bne_iff_ne.mpr c5; obtain rfl := Option.some.inj H; have p542 : 0 ≤ (x5_1 : Int) := of_decide_eq_true y0_12; have q542 : x5_1 < (l0.length : Int) := of_decide_eq_true y0_12; obtain ⟨ad542, A542_2, c542_2, e542, hx542_0, hx542_1, hx542_2, hl542_2, hi542_2⟩ := at_T48 HR0.out x5_1 p542 q542; have hr542_2 := hx542_2; cases e542; replace hx542_0 := bx HB hx542_0; replace hx542_1 := bx HB hx542_1; replace hx542_2 := bx HB hx542_2; have HR542_2 := Aside0.mk hi542_2; have HC542_2 := Aside0.mk hl542_2; clear hi542_2 hl542_2; replace p542 := eq_true p542; replace q542 := eq_true q542
    go_wp2
    go_ret
    exact ⟨y0_7, bI HB.out⟩
   rw [if_neg c3] at H
   have c3b0 : decide (x5_1 < (l0.length : Int)) = false := decide_eq_false c3; clear c3; obtain rfl := Option.some.inj H
   go_wp2
   go_ret
   exact ⟨y0_7, bI HB.out⟩

end Go.Proofs.YtdmjhgogljhfkaaGreatDoor.PFnExactTableAdd
