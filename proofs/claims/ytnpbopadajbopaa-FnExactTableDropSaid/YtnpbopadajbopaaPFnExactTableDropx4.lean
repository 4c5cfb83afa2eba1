-- By a program of this session, out of the translation (the print of the kit, with turns of its own). Lean checks it.
import Derived.Test.YtnpbopadajbopaaPFnExactTableDropx0
import Derived.Test.YtnpbopadajbopaaPFnExactTableDropx1
import Derived.Test.YtnpbopadajbopaaPFnExactTableDropx2
import Derived.Test.YtnpbopadajbopaaPFnExactTableDropx3
namespace Go.Proofs.Ytnpbopadajbopaa.PFnExactTableDrop
open Go.RowKit Go.Proofs.YtnpbopadajbopaaW.PrintWords Go.Proofs.YtnpbopadajbopaaW.PrintLast Go.Proofs.YtnpbopadajbopaaW.PrintMore
attribute [local go_sem] max2_int min2_int max_two min_two max_three min_three max_four min_four   -- for this text's walks alone
attribute [local go_sem] cell_in frozen_in
set_option synthInstance.maxSize 1000000
set_option synthInstance.maxHeartbeats 2000000
set_option linter.unusedVariables false
set_option linter.unusedSimpArgs false

/-! ### laws_heldPartS: function 16 -/
def laws_heldPartS.l0 : Nat → List (S26) → Int → Int → Option (Int)
 | 0, _, _, _ => none
 | k + 1, x0, x1, x5 => if x5 < (x0.length : Int) then (if 0 ≤ x5 then (if ((rd_T26 x0 x5).f0) = x1 then ((laws_markText.f k (wrap64 (x1 + 1))).bind fun t180 => (if ((rd_T26 x0 x5).f1).toList = t180.toList then ((laws_heldIntS.f k ((rd_T26 x0 x5).f2) (wrap64 ((wrap64 (x1 + 1)) + 1))).bind fun t182 => (if t182 < 0 then (some (-1)) else (laws_heldPartS.l0 k x0 t182 (wrap64 (x5 + 1))))) else (some (-1)))) else (some (-1))) else (none)) else (some x1)
def laws_heldPartS.f (k : Nat) (l0 : List (S26)) (a1 : Int) : Option (Int) := laws_heldPartS.l0 k l0 a1 0
theorem laws_heldPartS.mono_l : ∀ k, (∀ y0 y1 y2, LeO (laws_heldPartS.l0 k y0 y1 y2) (laws_heldPartS.l0 (k + 1) y0 y1 y2))
 | 0 => fun _ _ _ r h => by simp [laws_heldPartS.l0] at h
 | k + 1 => by
  have ih0 := laws_heldPartS.mono_l k
  intro y0 y1 y2
  unfold laws_heldPartS.l0
  repeat' first | (with_reducible exact ih0 _ _ _) | (with_reducible exact laws_heldIntS.mono _ _ _) | (with_reducible exact laws_markText.mono _ _) | (with_reducible exact LeO.refl _) | (with_reducible exact LeO.none _) | (with_reducible refine LeO.ite ?_ ?_) | (with_reducible refine LeO.bind ?_ (fun _ => ?_))
theorem laws_heldPartS.mono : ∀ a0 a1 k, LeO (laws_heldPartS.f k a0 a1) (laws_heldPartS.f (k + 1) a0 a1) := by
 intro a0 a1 k
 have ih0 := laws_heldPartS.mono_l k
 unfold laws_heldPartS.f
 repeat' first | (with_reducible exact ih0 _ _ _) | (with_reducible exact laws_heldIntS.mono _ _ _) | (with_reducible exact laws_markText.mono _ _) | (with_reducible exact LeO.refl _) | (with_reducible exact LeO.none _) | (with_reducible refine LeO.ite ?_ ?_) | (with_reducible refine LeO.bind ?_ (fun _ => ?_))
def laws_heldPartS.T7 : Bool × List (List Nat × List Nat) := (true, [([], []), ([], []), ([0, 1], [0, 1]), ([2], [2]), ([3], [3]), ([], []), ([5], [5]), ([4, 6], [4, 6])])
def laws_heldPartS.B7 : List Nat := [0, 0, 3, 7, 15, 0, 32, 127]
theorem laws_heldPartS.tab7 : rtab .any (opsOf Try.f16 7) = laws_heldPartS.T7 := by kernel_rfl
theorem laws_heldPartS.bits7 : waitsOk laws_heldPartS.T7.2 laws_heldPartS.B7 = true := by kernel_rfl
set_option maxHeartbeats 8000000 in
set_option maxRecDepth 100000 in
theorem laws_heldPartS.calls (k : Nat) (A0 : Option Addr) (c0 : Nat) (l0 : List (S26)) (a1 : Int) (r : Int) (w : World) (hr0 : Kd.C k26 w A0 l0.length l0) (hc0 : l0.length ≤ c0) (h : laws_heldPartS.f k l0 a1 = some r) :
  Calls Try.prog 16 #[.slice A0 l0.length c0, .int .i64 a1] w fun e w' => e = .returned (.int .i64 r) ∧ Below w.heap.size w w' := by
 have HR0 := Aside0.mk hr0; have HC0 := Aside0.mk hc0; clear hr0 hc0; have HB := Aside0.mk (Below.refl w.heap.size w); have H := h; unfold laws_heldPartS.f at H; clear h; have H' := Aside0.mk H; clear H
 go_enter Try.func16, Try.ntmps16
 go_wp2
 go_loopg [1, 5] k (fun kq v1 v5 w' => ∃ (x1_1 : Int) (x5_1 : Int), v1 = .int .i64 x1_1 ∧ v5 = .int .i64 x5_1 ∧ Aside0 (laws_heldPartS.l0 kq l0 x1_1 x5_1 = some r) ∧ Aside0 (kq ≤ k) ∧ Aside0 (Below w.heap.size w w'))
 case atStart => exact ⟨(a1), (0), y0_5, y0_5, H', ⟨Nat.le_refl _⟩, ⟨bI HB.out⟩⟩
 case round =>
  clear H'
  try clear c1
  try clear p2
  obtain ⟨x1_1, x5_1, rfl, rfl, HA, HK1, HB⟩ := hrel; cases gk with
  | zero => exact absurd HA.out (by simp [laws_heldPartS.l0])
  | succ k1 =>
   have H := HA.out; clear HA
   simp only [laws_heldPartS.l0] at H
   by_cases c3 : x5_1 < (l0.length : Int)
   ·
    rw [if_pos c3] at H
    have c3b0 : decide (x5_1 < (l0.length : Int)) = true := decide_eq_true c3; clear c3
    by_cases c4 : 0 ≤ x5_1
    rotate_left
    ·
     rw [if_neg c4] at H
     exact absurd H (by simp)
    rw [if_pos c4] at H
    have c4b0 : decide (0 ≤ x5_1) = true := decide_eq_true c4; clear c4
    by_cases c5 : ((rd_T26 l0 x5_1).f0) = x1_1
    ·
     rw [if_pos c5] at H
     have c5b0 : (((rd_T26 l0 x5_1).f0) == x1_1) = true := beq_iff_eq.mpr c5; have c5b1 : (((rd_T26 l0 x5_1).f0) != x1_1) = false := bne_eq_false_iff_eq.mpr c5; clear c5; obtain ⟨t180, A6, H⟩ := oB H; (try dsimp only at H)
     by_cases c7 : ((rd_T26 l0 x5_1).f1).toList = t180.toList
     ·
      rw [if_pos c7] at H
      have c7b0 : (((rd_T26 l0 x5_1).f1).toList == t180.toList) = true := beq_iff_eq.mpr c7; have c7b1 : (((rd_T26 l0 x5_1).f1).toList != t180.toList) = false := bne_eq_false_iff_eq.mpr c7; clear c7; obtain ⟨t182, A8, H⟩ := oB H; (try dsimp only at H)
      by_cases c9 : t182 < 0
      ·
       rw [if_pos c9] at H
       have c9b0 : decide (t182 < 0) = true := decide_eq_true c9; clear c9; obtain rfl := Option.some.inj H; have p178 : 0 ≤ (x5_1 : Int) := of_decide_eq_true y0_4; have q178 : x5_1 < (l0.length : Int) := of_decide_eq_true y0_4; obtain ⟨ad178, A178_2, c178_2, e178, hx178_0, hx178_1, hx178_2, hl178_2, hi178_2⟩ := at_T26 HR0.out x5_1 p178 q178; have hr178_2 := hx178_2; cases e178; replace hx178_0 := bx HB hx178_0; replace hx178_1 := bx HB hx178_1; replace hx178_2 := bx HB hx178_2; have HR178_2 := Aside0.mk hi178_2; have HC178_2 := Aside0.mk hl178_2; clear hi178_2 hl178_2; replace p178 := eq_true p178; replace q178 := eq_true q178
       try go_wp2
       replace HB := Aside0.mk (below_drew1 HB.out); have p179 : 0 ≤ (x5_1 : Int) := of_decide_eq_true y0_4; have q179 : x5_1 < (l0.length : Int) := of_decide_eq_true y0_4; obtain ⟨ad179, A179_2, c179_2, e179, hx179_0, hx179_1, hx179_2, hl179_2, hi179_2⟩ := at_T26 HR0.out x5_1 p179 q179; have hw179_2 := hx179_2; have hw179_1 := hx179_1; have hw179_0 := hx179_0
       obtain rfl : ad178 = ad179 := (by injection e179); obtain ⟨rfl, rfl⟩ : A178_2 = A179_2 ∧ c178_2 = c179_2 := (by have h_ := Option.some.inj (hr178_2.symm.trans hx179_2); injection h_ with h1_ _ h3_; exact ⟨h1_, h3_⟩)
       replace hx179_0 := bx HB hx179_0; replace hx179_1 := bx HB hx179_1; replace hx179_2 := bx HB hx179_2; have HR179_2 := Aside0.mk hi179_2; have HC179_2 := Aside0.mk hl179_2; clear hi179_2 hl179_2; replace p179 := eq_true p179; replace q179 := eq_true q179
       refine start_ (n := 8) (S := fun w' => w'.cell? (ad178.add ((x5_1).toNat * 3)) = some (.int .i64 ((rd_T26 l0 x5_1).f0)) ∧ w'.cell? ⟨(ad178.add ((x5_1).toNat * 3)).block, (ad178.add ((x5_1).toNat * 3)).off + 1, none⟩ = some (.string ((rd_T26 l0 x5_1).f1)) ∧ w'.cell? ⟨(ad178.add ((x5_1).toNat * 3)).block, (ad178.add ((x5_1).toNat * 3)).off + 2, none⟩ = some (.slice A178_2 ((rd_T26 l0 x5_1).f2).length c178_2)) (ds := []) #[false, false, false, false, false, false, false, false] (by kernel_rfl) rfl rfl ⟨(bx HB hw179_0), (bx HB hw179_1), (bx HB hw179_2)⟩ (fun hHeld => ?_); refine with_tabW laws_heldPartS.tab7 laws_heldPartS.bits7 (fun HT_ HW_ => ?_)
       generalize wr.drew = w10 at HB HR179_2 hx179_0 hx179_1 hx179_2 hHeld ⊢
       refine pA 0 (some 21) (bz 8 1) HT_ ?_
       refine pA 1 (some 22) (bz 8 3) HT_ ?_
       refine pA 2 (some 23) (bz 8 7) HT_ ?_
       refine pA 3 (some 24) (bz 8 15) HT_ ?_
       refine pA 5 (some 26) (bz 8 47) HT_ ?_
       refine tA 4 (some 25) (bz 8 63) HT_ HW_ hHeld ?_
       refine oA 6 (some 27) (bz 8 127) HT_ (fun K hK => ?_)
       refine gA Try.func22 #[.int .i64 (wrap64 (x1_1 + 1))] ?_
       with_reducible refine (laws_markText.calls k1 (wrap64 (x1_1 + 1)) t180 _ A6.out).mono ?_
       rintro e w11 ⟨rfl, hb⟩
       refine ⟨_, rfl, ?_⟩
       replace HB := bs HB hb
       (try clear hb)
       (try clear hb2)
       (try clear hk)
       (try clear hi)
       refine hK.out _ _ ⟨(bx HB hw179_0), (bx HB hw179_1), (bx HB hw179_2)⟩ (fun hHeld => ?_)
       clear hK K
       refine nA (some 27) ?_
       refine pA 7 (some 28) (bz 8 255) HT_ ?_
       refine done_ (done_of HT_.out (by kernel_rfl)) ?_
       have p181 : 0 ≤ (x5_1 : Int) := of_decide_eq_true y0_4; have q181 : x5_1 < (l0.length : Int) := of_decide_eq_true y0_4; obtain ⟨ad181, A181_2, c181_2, e181, hx181_0, hx181_1, hx181_2, hl181_2, hi181_2⟩ := at_T26 HR0.out x5_1 p181 q181
       obtain rfl : ad178 = ad181 := (by injection e181); obtain ⟨rfl, rfl⟩ : A178_2 = A181_2 ∧ c178_2 = c181_2 := (by have h_ := Option.some.inj (hr178_2.symm.trans hx181_2); injection h_ with h1_ _ h3_; exact ⟨h1_, h3_⟩)
       replace hx181_0 := bx HB hx181_0; replace hx181_1 := bx HB hx181_1; replace hx181_2 := bx HB hx181_2; have HR181_2 := Aside0.mk hi181_2; have HC181_2 := Aside0.mk hl181_2; clear hi181_2 hl181_2; replace p181 := eq_true p181; replace q181 := eq_true q181
       try go_wp2_with (first | ((with_reducible refine gate_callee (f := 24) rfl ?_); refine gB (some 37) Try.func24 #[.slice A178_2 ((rd_T26 l0 x5_1).f2).length c178_2, .int .i64 (wrap64 ((wrap64 (x1_1 + 1)) + 1))] ?_; (with_reducible refine (laws_heldIntS.calls k1 _ _ ((rd_T26 l0 x5_1).f2) (wrap64 ((wrap64 (x1_1 + 1)) + 1)) t182 _ ?side1 ?side2 A8.out).mono ?_); (case side1 => exact ch HR181_2 HB); (case side2 => exact HC181_2.out); rintro e w' ⟨rfl, ⟨nd, rfl⟩⟩; refine ⟨_, rfl, ?_⟩))
       go_ret
       exact ⟨y0_2, bI HB.out⟩
      rw [if_neg c9] at H
      have c9b0 : decide (t182 < 0) = false := decide_eq_false c9; clear c9; have H' := Aside0.mk H; clear H; have p178 : 0 ≤ (x5_1 : Int) := of_decide_eq_true y0_4; have q178 : x5_1 < (l0.length : Int) := of_decide_eq_true y0_4; obtain ⟨ad178, A178_2, c178_2, e178, hx178_0, hx178_1, hx178_2, hl178_2, hi178_2⟩ := at_T26 HR0.out x5_1 p178 q178; have hr178_2 := hx178_2; cases e178; replace hx178_0 := bx HB hx178_0; replace hx178_1 := bx HB hx178_1; replace hx178_2 := bx HB hx178_2; have HR178_2 := Aside0.mk hi178_2; have HC178_2 := Aside0.mk hl178_2; clear hi178_2 hl178_2; replace p178 := eq_true p178; replace q178 := eq_true q178
      try go_wp2
      replace HB := Aside0.mk (below_drew1 HB.out); have p179 : 0 ≤ (x5_1 : Int) := of_decide_eq_true y0_4; have q179 : x5_1 < (l0.length : Int) := of_decide_eq_true y0_4; obtain ⟨ad179, A179_2, c179_2, e179, hx179_0, hx179_1, hx179_2, hl179_2, hi179_2⟩ := at_T26 HR0.out x5_1 p179 q179; have hw179_2 := hx179_2; have hw179_1 := hx179_1; have hw179_0 := hx179_0
      obtain rfl : ad178 = ad179 := (by injection e179); obtain ⟨rfl, rfl⟩ : A178_2 = A179_2 ∧ c178_2 = c179_2 := (by have h_ := Option.some.inj (hr178_2.symm.trans hx179_2); injection h_ with h1_ _ h3_; exact ⟨h1_, h3_⟩)
      replace hx179_0 := bx HB hx179_0; replace hx179_1 := bx HB hx179_1; replace hx179_2 := bx HB hx179_2; have HR179_2 := Aside0.mk hi179_2; have HC179_2 := Aside0.mk hl179_2; clear hi179_2 hl179_2; replace p179 := eq_true p179; replace q179 := eq_true q179
      refine start_ (n := 8) (S := fun w' => w'.cell? (ad178.add ((x5_1).toNat * 3)) = some (.int .i64 ((rd_T26 l0 x5_1).f0)) ∧ w'.cell? ⟨(ad178.add ((x5_1).toNat * 3)).block, (ad178.add ((x5_1).toNat * 3)).off + 1, none⟩ = some (.string ((rd_T26 l0 x5_1).f1)) ∧ w'.cell? ⟨(ad178.add ((x5_1).toNat * 3)).block, (ad178.add ((x5_1).toNat * 3)).off + 2, none⟩ = some (.slice A178_2 ((rd_T26 l0 x5_1).f2).length c178_2)) (ds := []) #[false, false, false, false, false, false, false, false] (by kernel_rfl) rfl rfl ⟨(bx HB hw179_0), (bx HB hw179_1), (bx HB hw179_2)⟩ (fun hHeld => ?_); refine with_tabW laws_heldPartS.tab7 laws_heldPartS.bits7 (fun HT_ HW_ => ?_)
      generalize wr.drew = w12 at HB HR179_2 hx179_0 hx179_1 hx179_2 hHeld ⊢
      refine pA 0 (some 21) (bz 8 1) HT_ ?_
      refine pA 1 (some 22) (bz 8 3) HT_ ?_
      refine pA 2 (some 23) (bz 8 7) HT_ ?_
      refine pA 3 (some 24) (bz 8 15) HT_ ?_
      refine pA 5 (some 26) (bz 8 47) HT_ ?_
      refine tA 4 (some 25) (bz 8 63) HT_ HW_ hHeld ?_
      refine oA 6 (some 27) (bz 8 127) HT_ (fun K hK => ?_)
      refine gA Try.func22 #[.int .i64 (wrap64 (x1_1 + 1))] ?_
      with_reducible refine (laws_markText.calls k1 (wrap64 (x1_1 + 1)) t180 _ A6.out).mono ?_
      rintro e w13 ⟨rfl, hb⟩
      refine ⟨_, rfl, ?_⟩
      replace HB := bs HB hb
      (try clear hb)
      (try clear hb2)
      (try clear hk)
      (try clear hi)
      refine hK.out _ _ ⟨(bx HB hw179_0), (bx HB hw179_1), (bx HB hw179_2)⟩ (fun hHeld => ?_)
      clear hK K
      refine nA (some 27) ?_
      refine pA 7 (some 28) (bz 8 255) HT_ ?_
      refine done_ (done_of HT_.out (by kernel_rfl)) ?_
      have p181 : 0 ≤ (x5_1 : Int) := of_decide_eq_true y0_4; have q181 : x5_1 < (l0.length : Int) := of_decide_eq_true y0_4; obtain ⟨ad181, A181_2, c181_2, e181, hx181_0, hx181_1, hx181_2, hl181_2, hi181_2⟩ := at_T26 HR0.out x5_1 p181 q181
      obtain rfl : ad178 = ad181 := (by injection e181); obtain ⟨rfl, rfl⟩ : A178_2 = A181_2 ∧ c178_2 = c181_2 := (by have h_ := Option.some.inj (hr178_2.symm.trans hx181_2); injection h_ with h1_ _ h3_; exact ⟨h1_, h3_⟩)
      replace hx181_0 := bx HB hx181_0; replace hx181_1 := bx HB hx181_1; replace hx181_2 := bx HB hx181_2; have HR181_2 := Aside0.mk hi181_2; have HC181_2 := Aside0.mk hl181_2; clear hi181_2 hl181_2; replace p181 := eq_true p181; replace q181 := eq_true q181
      try go_wp2_with (first | ((with_reducible refine gate_callee (f := 24) rfl ?_); refine gB (some 37) Try.func24 #[.slice A178_2 ((rd_T26 l0 x5_1).f2).length c178_2, .int .i64 (wrap64 ((wrap64 (x1_1 + 1)) + 1))] ?_; (with_reducible refine (laws_heldIntS.calls k1 _ _ ((rd_T26 l0 x5_1).f2) (wrap64 ((wrap64 (x1_1 + 1)) + 1)) t182 _ ?side1 ?side2 A8.out).mono ?_); (case side1 => exact ch HR181_2 HB); (case side2 => exact HC181_2.out); rintro e w' ⟨rfl, ⟨nd, rfl⟩⟩; refine ⟨_, rfl, ?_⟩))
      go_roundg k1
      case measure => have := HK1.out; omega
      case rel => exact ⟨(t182), (wrap64 (x5_1 + 1)), y0_5, y0_5, H', ⟨y0_6⟩, ⟨bI HB.out⟩⟩
     rw [if_neg c7] at H
     have c7b0 : (((rd_T26 l0 x5_1).f1).toList == t180.toList) = false := beq_eq_false_iff_ne.mpr c7; have c7b1 : (((rd_T26 l0 x5_1).f1).toList != t180.toList) = true := bne_iff_ne.mpr c7; obtain rfl := Option.some.inj H; have p178 : 0 ≤ (x5_1 : Int) := of_decide_eq_true y0_4; have q178 : x5_1 < (l0.length : Int) := of_decide_eq_true y0_4; obtain ⟨ad178, A178_2, c178_2, e178, hx178_0, hx178_1, hx178_2, hl178_2, hi178_2⟩ := at_T26 HR0.out x5_1 p178 q178; have hr178_2 := hx178_2; cases e178; replace hx178_0 := bx HB hx178_0; replace hx178_1 := bx HB hx178_1; replace hx178_2 := bx HB hx178_2; have HR178_2 := Aside0.mk hi178_2; have HC178_2 := Aside0.mk hl178_2; clear hi178_2 hl178_2; replace p178 := eq_true p178; replace q178 := eq_true q178
     try go_wp2
     replace HB := Aside0.mk (below_drew1 HB.out); have p179 : 0 ≤ (x5_1 : Int) := of_decide_eq_true y0_4; have q179 : x5_1 < (l0.length : Int) := of_decide_eq_true y0_4; obtain ⟨ad179, A179_2, c179_2, e179, hx179_0, hx179_1, hx179_2, hl179_2, hi179_2⟩ := at_T26 HR0.out x5_1 p179 q179; have hw179_2 := hx179_2; have hw179_1 := hx179_1; have hw179_0 := hx179_0
     obtain rfl : ad178 = ad179 := (by injection e179); obtain ⟨rfl, rfl⟩ : A178_2 = A179_2 ∧ c178_2 = c179_2 := (by have h_ := Option.some.inj (hr178_2.symm.trans hx179_2); injection h_ with h1_ _ h3_; exact ⟨h1_, h3_⟩)
     replace hx179_0 := bx HB hx179_0; replace hx179_1 := bx HB hx179_1; replace hx179_2 := bx HB hx179_2; have HR179_2 := Aside0.mk hi179_2; have HC179_2 := Aside0.mk hl179_2; clear hi179_2 hl179_2; replace p179 := eq_true p179; replace q179 := eq_true q179
     refine start_ (n := 8) (S := fun w' => w'.cell? (ad178.add ((x5_1).toNat * 3)) = some (.int .i64 ((rd_T26 l0 x5_1).f0)) ∧ w'.cell? ⟨(ad178.add ((x5_1).toNat * 3)).block, (ad178.add ((x5_1).toNat * 3)).off + 1, none⟩ = some (.string ((rd_T26 l0 x5_1).f1)) ∧ w'.cell? ⟨(ad178.add ((x5_1).toNat * 3)).block, (ad178.add ((x5_1).toNat * 3)).off + 2, none⟩ = some (.slice A178_2 ((rd_T26 l0 x5_1).f2).length c178_2)) (ds := []) #[false, false, false, false, false, false, false, false] (by kernel_rfl) rfl rfl ⟨(bx HB hw179_0), (bx HB hw179_1), (bx HB hw179_2)⟩ (fun hHeld => ?_); refine with_tabW laws_heldPartS.tab7 laws_heldPartS.bits7 (fun HT_ HW_ => ?_)
     generalize wr.drew = w14 at HB HR179_2 hx179_0 hx179_1 hx179_2 hHeld ⊢
     refine pA 0 (some 21) (bz 8 1) HT_ ?_
     refine pA 1 (some 22) (bz 8 3) HT_ ?_
     refine pA 2 (some 23) (bz 8 7) HT_ ?_
     refine pA 3 (some 24) (bz 8 15) HT_ ?_
     refine pA 5 (some 26) (bz 8 47) HT_ ?_
     refine tA 4 (some 25) (bz 8 63) HT_ HW_ hHeld ?_
     refine oA 6 (some 27) (bz 8 127) HT_ (fun K hK => ?_)
     refine gA Try.func22 #[.int .i64 (wrap64 (x1_1 + 1))] ?_
     with_reducible refine (laws_markText.calls k1 (wrap64 (x1_1 + 1)) t180 _ A6.out).mono ?_
     rintro e w15 ⟨rfl, hb⟩
     refine ⟨_, rfl, ?_⟩
     replace HB := bs HB hb
     (try clear hb)
     (try clear hb2)
     (try clear hk)
     (try clear hi)
     refine hK.out _ _ ⟨(bx HB hw179_0), (bx HB hw179_1), (bx HB hw179_2)⟩ (fun hHeld => ?_)
     clear hK K
     refine nA (some 27) ?_
     refine pA 7 (some 28) (bz 8 255) HT_ ?_
     refine done_ (done_of HT_.out (by kernel_rfl)) ?_
     try go_wp2
     go_ret
     exact ⟨y0_2, bI HB.out⟩
    rw [if_neg c5] at H
    have c5b0 : (((rd_T26 l0 x5_1).f0) == x1_1) = false := beq_eq_false_iff_ne.mpr c5; have c5b1 : (((rd_T26 l0 x5_1).f0) != x1_1) = true := bne_iff_ne.mpr c5; obtain rfl := Option.some.inj H; have p178 : 0 ≤ (x5_1 : Int) := of_decide_eq_true y0_4; have q178 : x5_1 < (l0.length : Int) := of_decide_eq_true y0_4; obtain ⟨ad178, A178_2, c178_2, e178, hx178_0, hx178_1, hx178_2, hl178_2, hi178_2⟩ := at_T26 HR0.out x5_1 p178 q178; have hr178_2 := hx178_2; cases e178; replace hx178_0 := bx HB hx178_0; replace hx178_1 := bx HB hx178_1; replace hx178_2 := bx HB hx178_2; have HR178_2 := Aside0.mk hi178_2; have HC178_2 := Aside0.mk hl178_2; clear hi178_2 hl178_2; replace p178 := eq_true p178; replace q178 := eq_true q178
    go_wp2
    go_ret
    exact ⟨y0_2, bI HB.out⟩
   rw [if_neg c3] at H
   have c3b0 : decide (x5_1 < (l0.length : Int)) = false := decide_eq_false c3; clear c3; obtain rfl := Option.some.inj H
   go_wp2
   go_ret
   exact ⟨y0_2, bI HB.out⟩

/-! ### laws_FnExactTableDrop: function 4 -/
def laws_FnExactTableDrop.f (k : Nat) (l0 : List (S38)) (a1 : Int) : Option (Bool) := (laws_szPartS.f k l0 1048576).bind fun t183 => (if t183 < 0 then (some true) else ((laws_toPartS.f k l0).bind fun t184 => ((spec_TableDrop.f k t184 a1).bind fun t187 => ((laws_toPartS.f k l0).bind fun t190 => ((impl_TableDrop.f k t190 a1).bind fun t193 => ((laws_eqPartS.f k t193 t187).bind fun t196 => (if t196 = true then ((laws_toPartS.f k l0).bind fun t197 => ((laws_eqPartS.f k t190 t197).bind fun t200 => (if t200 = true then ((laws_markPartS.f k t190 1).bind fun bt201 => (if bt201.1 < 0 then (some false) else ((laws_eqPartS.f k t193 t187).bind fun t203 => (if t203 = true then ((laws_markPartS.f k t193 1).bind fun bt204 => ((laws_heldPartS.f k bt204.2 1).bind fun t206 => (if t206 < 0 then (some false) else (if t206 = bt204.1 then ((laws_toPartS.f k l0).bind fun t207 => ((impl_TableDrop.f k t207 a1).bind fun t210 => ((laws_eqPartS.f k t210 t187).bind fun t213 => (if t213 = true then ((laws_heldPartS.f k bt204.2 1).bind fun t214 => (if t214 < 0 then (some false) else (if t214 = bt204.1 then (some true) else (some false)))) else (some false))))) else (some false))))) else (some false))))) else (some false)))) else (some false))))))))
theorem laws_FnExactTableDrop.mono : ∀ a0 a1 k, LeO (laws_FnExactTableDrop.f k a0 a1) (laws_FnExactTableDrop.f (k + 1) a0 a1) := by
 intro a0 a1 k
 unfold laws_FnExactTableDrop.f
 repeat' first | (with_reducible exact impl_TableDrop.mono _ _ _) | (with_reducible exact laws_eqPartS.mono _ _ _) | (with_reducible exact laws_heldPartS.mono _ _ _) | (with_reducible exact laws_markPartS.mono _ _ _) | (with_reducible exact laws_szPartS.mono _ _ _) | (with_reducible exact laws_toPartS.mono _ _) | (with_reducible exact spec_TableDrop.mono _ _ _) | (with_reducible exact LeO.refl _) | (with_reducible exact LeO.none _) | (with_reducible refine LeO.ite ?_ ?_) | (with_reducible refine LeO.bind ?_ (fun _ => ?_))
set_option maxHeartbeats 8000000 in
set_option maxRecDepth 100000 in
theorem laws_FnExactTableDrop.calls (k : Nat) (A0 : Option Addr) (c0 : Nat) (l0 : List (S38)) (a1 : Int) (r : Bool) (hrt : Aside0 (r = true)) (w : World) (hr0 : Kd.C k38 w A0 l0.length l0) (hc0 : l0.length ≤ c0) (h : laws_FnExactTableDrop.f k l0 a1 = some r) :
  Calls Try.prog 4 #[.slice A0 l0.length c0, .int .i64 a1] w fun e w' => e = .returned (.bool r) ∧ Below w.heap.size w w' := by
 have HR0 := Aside0.mk hr0; have HC0 := Aside0.mk hc0; clear hr0 hc0; have HB := Aside0.mk (Below.refl w.heap.size w)
 have H := h; unfold laws_FnExactTableDrop.f at H
 clear h; obtain ⟨t183, A3, H⟩ := oB H; (try dsimp only at H)
 go_enter Try.func4, Try.ntmps4
 have H' := Aside0.mk H; clear H
 go_upto_if 17 with (first | ((with_reducible refine gate_callee (f := 5) rfl ?_); refine gC (some 15) Try.func5 (laws_szPartS.calls (hr0 := pC HR0) (hc0 := HC0.out) (w := _) (h := A3.out)) ?_; intro w4 _))
 have H := H'.out; clear H'
 by_cases c5 : t183 < 0
 ·
  rw [if_pos c5] at H
  have c5b0 : decide (t183 < 0) = true := decide_eq_true c5; clear c5
  (first | rw [c5b0] | (simp only [i64_w, i32_w]; rw [c5b0]) | skip)
  obtain rfl := Option.some.inj H
  go_wp2
  go_ret
  exact ⟨y0_5, UpW.out⟩
 rw [if_neg c5] at H
 have c5b0 : decide (t183 < 0) = false := decide_eq_false c5; clear c5
 (first | rw [c5b0] | (simp only [i64_w, i32_w]; rw [c5b0]) | skip)
 obtain ⟨t184, A6, H⟩ := oB H; (try dsimp only at H); obtain ⟨t187, A7, H⟩ := oB H; (try dsimp only at H); obtain ⟨t190, A8, H⟩ := oB H; (try dsimp only at H); obtain ⟨t193, A9, H⟩ := oB H; (try dsimp only at H); obtain ⟨t196, A10, H⟩ := oB H; (try dsimp only at H); have H' := Aside0.mk H; clear H
 go_upto_if 30 with (first | ((with_reducible refine gate_callee (f := 7) rfl ?_); refine gS1 (some 19) Try.func7 (laws_toPartS.calls (hr0 := pC HR0) (hc0 := HC0.out) (w := _) (h := A6.out)) ?_; intro Ao185 co185 w11 _ HO186) | ((with_reducible refine gate_callee (f := 14) rfl ?_); refine gS1 (some 21) Try.func14 (spec_TableDrop.calls (hr0 := sC HO186) (hc0 := sL HO186) (w := _) (h := A7.out)) ?_; intro Ao188 co188 w12 _ HO189) | ((with_reducible refine gate_callee (f := 7) rfl ?_); refine gS1 (some 23) Try.func7 (laws_toPartS.calls (hr0 := pC HR0) (hc0 := HC0.out) (w := _) (h := A8.out)) ?_; intro Ao191 co191 w13 _ HO192) | ((with_reducible refine gate_callee (f := 15) rfl ?_); refine gS1 (some 26) Try.func15 (impl_TableDrop.calls (hr0 := sC HO192) (hc0 := sL HO192) (w := _) (h := A9.out)) ?_; intro Ao194 co194 w14 _ HO195) | ((with_reducible refine gate_callee (f := 10) rfl ?_); refine gC (some 29) Try.func10 (laws_eqPartS.calls (hr0 := sC HO195) (hc0 := sL HO195) (hr1 := sC HO189) (hc1 := sL HO189) (w := _) (h := A10.out)) ?_; intro w15 _))
 have H := H'.out; clear H'
 by_cases c16 : t196 = true
 ·
  subst c16
  rw [if_pos rfl] at H
  obtain ⟨t197, A17, H⟩ := oB H; (try dsimp only at H); obtain ⟨t200, A18, H⟩ := oB H; (try dsimp only at H); have H' := Aside0.mk H; clear H
  go_upto_if 35 with (first | ((with_reducible refine gate_callee (f := 7) rfl ?_); refine gS1 (some 33) Try.func7 (laws_toPartS.calls (hr0 := pC HR0) (hc0 := HC0.out) (w := _) (h := A17.out)) ?_; intro Ao198 co198 w19 _ HO199) | ((with_reducible refine gate_callee (f := 10) rfl ?_); refine gC (some 34) Try.func10 (laws_eqPartS.calls (hr0 := sC HO192) (hc0 := sL HO192) (hr1 := sC HO199) (hc1 := sL HO199) (w := _) (h := A18.out)) ?_; intro w20 _))
  have H := H'.out; clear H'
  by_cases c21 : t200 = true
  rotate_left
  ·
   replace c21 := Bool.eq_false_iff.mpr c21; subst c21
   rw [if_neg (show ¬ (false = true) by decide)] at H
   exact absurd (hrt.out.symm.trans (Option.some.inj H).symm) (by decide)
  subst c21
  rw [if_pos rfl] at H
  obtain ⟨⟨t201, t202⟩, A22, H⟩ := oB H; (try dsimp only at H); have H' := Aside0.mk H; clear H
  go_upto_region 14 with (first | ((with_reducible refine gate_callee (f := 11) rfl ?_); refine gMS (some 38) Try.func11 HO192 (laws_markPartS.calls (w0 := w) (hB := UpW.out) (ho0 := oS HO192) (w := _) (h := A22.out)) ?_; intro w23 _ _ HO192 LEN24; replace HO186 := mS w23 HO186; replace HO189 := mS w23 HO189; replace HO195 := mS w23 HO195; replace HO199 := mS w23 HO199))
  have H := H'.out; clear H'
  by_cases c25 : t201 < 0
  ·
   rw [if_pos c25] at H
   have c25b0 : decide (t201 < 0) = true := decide_eq_true c25; clear c25
   (first | rw [c25b0] | (simp only [i64_w, i32_w]; rw [c25b0]) | skip)
   exact absurd (hrt.out.symm.trans (Option.some.inj H).symm) (by decide)
  rw [if_neg c25] at H
  have c25b0 : decide (t201 < 0) = false := decide_eq_false c25; clear c25
  (first | rw [c25b0] | (simp only [i64_w, i32_w]; rw [c25b0]) | skip)
  obtain ⟨t203, A26, H⟩ := oB H; (try dsimp only at H); have H' := Aside0.mk H; clear H
  go_upto_if 46 with (first | (go_at_call 10; refine aC (laws_eqPartS.calls (hr0 := sC HO195) (hc0 := sL HO195) (hr1 := sC HO189) (hc1 := sL HO189) (w := _) (h := A26.out)) ?_; intro w27 _))
  have H := H'.out; clear H'
  by_cases c28 : t203 = true
  rotate_left
  ·
   replace c28 := Bool.eq_false_iff.mpr c28; subst c28
   rw [if_neg (show ¬ (false = true) by decide)] at H
   exact absurd (hrt.out.symm.trans (Option.some.inj H).symm) (by decide)
  subst c28
  rw [if_pos rfl] at H
  obtain ⟨⟨t204, t205⟩, A29, H⟩ := oB H; (try dsimp only at H); obtain ⟨t206, A30, H⟩ := oB H; (try dsimp only at H); have H' := Aside0.mk H; clear H
  go_upto_if 54 with (first | ((with_reducible refine gate_callee (f := 11) rfl ?_); refine gMS (some 49) Try.func11 HO195 (laws_markPartS.calls (w0 := w) (hB := UpW.out) (ho0 := oS HO195) (w := _) (h := A29.out)) ?_; intro w31 _ _ HO195 LEN32; replace HO186 := mS w31 HO186; replace HO189 := mS w31 HO189; replace HO192 := mS w31 HO192; replace HO199 := mS w31 HO199) | ((with_reducible refine gate_callee (f := 16) rfl ?_); refine gC (hargs := by (simp only [List.map_toArray, List.map_cons, List.map_nil, LEN32]); rfl) (some 52) Try.func16 (laws_heldPartS.calls (hr0 := sC HO195) (hc0 := sL HO195) (w := _) (h := A30.out)) ?_; intro w33 _))
  have H := H'.out; clear H'
  by_cases c34 : t206 < 0
  ·
   rw [if_pos c34] at H
   have c34b0 : decide (t206 < 0) = true := decide_eq_true c34; clear c34
   (first | rw [c34b0] | (simp only [i64_w, i32_w]; rw [c34b0]) | skip)
   exact absurd (hrt.out.symm.trans (Option.some.inj H).symm) (by decide)
  rw [if_neg c34] at H
  have c34b0 : decide (t206 < 0) = false := decide_eq_false c34; clear c34
  (first | rw [c34b0] | (simp only [i64_w, i32_w]; rw [c34b0]) | skip)
  by_cases c35 : t206 = t204
  rotate_left
  ·
   rw [if_neg c35] at H
   have c35b0 : (t206 == t204) = false := beq_eq_false_iff_ne.mpr c35; have c35b1 : (t206 != t204) = true := bne_iff_ne.mpr c35
   exact absurd (hrt.out.symm.trans (Option.some.inj H).symm) (by decide)
  rw [if_pos c35] at H
  have c35b0 : (t206 == t204) = true := beq_iff_eq.mpr c35; have c35b1 : (t206 != t204) = false := bne_eq_false_iff_eq.mpr c35; clear c35; obtain ⟨t207, A36, H⟩ := oB H; (try dsimp only at H); obtain ⟨t210, A37, H⟩ := oB H; (try dsimp only at H); obtain ⟨t213, A38, H⟩ := oB H; (try dsimp only at H); have H' := Aside0.mk H; clear H
  go_upto_if 65 with (first | ((with_reducible refine gate_callee (f := 7) rfl ?_); refine gS1 (some 59) Try.func7 (laws_toPartS.calls (hr0 := pC HR0) (hc0 := HC0.out) (w := _) (h := A36.out)) ?_; intro Ao208 co208 w39 _ HO209) | ((with_reducible refine gate_callee (f := 15) rfl ?_); refine gS1 (some 61) Try.func15 (impl_TableDrop.calls (hr0 := sC HO209) (hc0 := sL HO209) (w := _) (h := A37.out)) ?_; intro Ao211 co211 w40 _ HO212) | ((with_reducible refine gate_callee (f := 10) rfl ?_); refine gC (some 64) Try.func10 (laws_eqPartS.calls (hr0 := sC HO212) (hc0 := sL HO212) (hr1 := sC HO189) (hc1 := sL HO189) (w := _) (h := A38.out)) ?_; intro w41 _))
  have H := H'.out; clear H'
  by_cases c42 : t213 = true
  rotate_left
  ·
   replace c42 := Bool.eq_false_iff.mpr c42; subst c42
   rw [if_neg (show ¬ (false = true) by decide)] at H
   exact absurd (hrt.out.symm.trans (Option.some.inj H).symm) (by decide)
  subst c42
  rw [if_pos rfl] at H
  obtain ⟨t214, A43, H⟩ := oB H; (try dsimp only at H); have H' := Aside0.mk H; clear H
  go_upto_if 70 with (first | ((with_reducible refine gate_callee (f := 16) rfl ?_); refine gC (hargs := by (simp only [List.map_toArray, List.map_cons, List.map_nil, LEN32]); rfl) (some 68) Try.func16 (laws_heldPartS.calls (hr0 := sC HO195) (hc0 := sL HO195) (w := _) (h := A43.out)) ?_; intro w44 _))
  have H := H'.out; clear H'
  by_cases c45 : t214 < 0
  ·
   rw [if_pos c45] at H
   have c45b0 : decide (t214 < 0) = true := decide_eq_true c45; clear c45
   (first | rw [c45b0] | (simp only [i64_w, i32_w]; rw [c45b0]) | skip)
   exact absurd (hrt.out.symm.trans (Option.some.inj H).symm) (by decide)
  rw [if_neg c45] at H
  have c45b0 : decide (t214 < 0) = false := decide_eq_false c45; clear c45
  (first | rw [c45b0] | (simp only [i64_w, i32_w]; rw [c45b0]) | skip)
  by_cases c46 : t214 = t204
  rotate_left
  ·
   rw [if_neg c46] at H
   have c46b0 : (t214 == t204) = false := beq_eq_false_iff_ne.mpr c46; have c46b1 : (t214 != t204) = true := bne_iff_ne.mpr c46
   exact absurd (hrt.out.symm.trans (Option.some.inj H).symm) (by decide)
  rw [if_pos c46] at H
  have c46b0 : (t214 == t204) = true := beq_iff_eq.mpr c46; have c46b1 : (t214 != t204) = false := bne_eq_false_iff_eq.mpr c46; clear c46; obtain rfl := Option.some.inj H
  go_wp2
  go_ret
  exact ⟨y0_5, UpW.out⟩
 replace c16 := Bool.eq_false_iff.mpr c16; subst c16
 rw [if_neg (show ¬ (false = true) by decide)] at H
 exact absurd (hrt.out.symm.trans (Option.some.inj H).symm) (by decide)

end Go.Proofs.Ytnpbopadajbopaa.PFnExactTableDrop
