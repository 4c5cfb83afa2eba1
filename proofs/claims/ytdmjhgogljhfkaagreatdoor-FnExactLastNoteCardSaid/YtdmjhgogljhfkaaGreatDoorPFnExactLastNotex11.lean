-- By a program of this session, out of the translation (the print of the kit, with turns of its own). Lean checks it.
import Derived.Test.YtdmjhgogljhfkaaGreatDoorPFnExactLastNotex0
import Derived.Test.YtdmjhgogljhfkaaGreatDoorPFnExactLastNotex7
import Derived.Test.YtdmjhgogljhfkaaGreatDoorPFnExactLastNotex10
namespace Go.Proofs.YtdmjhgogljhfkaaGreatDoor.PFnExactLastNote
open Go.RowKit Go.Proofs.YtdmjhgogljhfkaaGreatDoorW.PrintWords Go.Proofs.YtdmjhgogljhfkaaGreatDoorW.PrintLast Go.Proofs.YtdmjhgogljhfkaaGreatDoorW.PrintMore
attribute [local go_sem] max2_int min2_int max_two min_two max_three min_three max_four min_four   -- for this text's walks alone
attribute [local go_sem] cell_in frozen_in
set_option synthInstance.maxSize 1000000
set_option synthInstance.maxHeartbeats 2000000
set_option linter.unusedVariables false
set_option linter.unusedSimpArgs false

/-! ### impl_GetNum: function 135 -/
mutual
def impl_GetNum.l0 : Nat → List Int → Int → Int → Int → Option (Int × Int × Bool)
 | 0, _, _, _, _ => none
 | k + 1, x0, x1, x7, x8 => if x8 < 5 then (impl_GetNum.j1 k x0 x1 x7 x8 (decide ((wrap64 (x1 + x8)) < (x0.length : Int)))) else (impl_GetNum.j1 k x0 x1 x7 x8 false)
def impl_GetNum.j1 : Nat → List Int → Int → Int → Int → Bool → Option (Int × Int × Bool)
 | 0, _, _, _, _, _ => none
 | k + 1, x0, x1, x7, x8, x25 => if x25 = true then (if 0 ≤ (wrap64 (x1 + x8)) then (if (wrap64 (x1 + x8)) < (x0.length : Int) then (if 0 ≤ (wrap64 (7 * x8)) then (if (wrap64 (rd x0 (wrap64 (x1 + x8)))) < 128 then ((impl_PutNum.f k (wrap64 (x7 + (shl .i64 (Int.tmod (wrap64 (rd x0 (wrap64 (x1 + x8)))) 128) (wrap64 (7 * x8)))))).bind fun t420 => (if (t420.length : Int) = (wrap64 (x8 + 1)) then (some (wrap64 (x7 + (shl .i64 (Int.tmod (wrap64 (rd x0 (wrap64 (x1 + x8)))) 128) (wrap64 (7 * x8)))), wrap64 ((wrap64 (x1 + x8)) + 1), true)) else (some (0, 0, false)))) else (impl_GetNum.l0 k x0 x1 (wrap64 (x7 + (shl .i64 (Int.tmod (wrap64 (rd x0 (wrap64 (x1 + x8)))) 128) (wrap64 (7 * x8))))) (wrap64 (x8 + 1)))) else (none)) else (none)) else (none)) else (some (0, 0, false))
end
def impl_GetNum.f (k : Nat) (l0 : List Int) (a1 : Int) : Option (Int × Int × Bool) := (impl_within.f a1 0 (wrap64 ((l0.length : Int) - 1))).bind fun t418 => (if t418 = true then (impl_GetNum.l0 k l0 a1 0 0) else (some (0, 0, false)))
theorem impl_GetNum.mono_l : ∀ k, (∀ y0 y1 y2 y3, LeO (impl_GetNum.l0 k y0 y1 y2 y3) (impl_GetNum.l0 (k + 1) y0 y1 y2 y3)) ∧ (∀ y0 y1 y2 y3 y4, LeO (impl_GetNum.j1 k y0 y1 y2 y3 y4) (impl_GetNum.j1 (k + 1) y0 y1 y2 y3 y4))
 | 0 => ⟨fun _ _ _ _ r h => by simp [impl_GetNum.l0] at h, fun _ _ _ _ _ r h => by simp [impl_GetNum.j1] at h⟩
 | k + 1 => by
  obtain ⟨ih0, ih1⟩ := impl_GetNum.mono_l k
  refine ⟨?_, ?_⟩
  ·
   intro y0 y1 y2 y3
   unfold impl_GetNum.l0
   repeat' first | (with_reducible exact ih0 _ _ _ _) | (with_reducible exact ih1 _ _ _ _ _) | (with_reducible exact impl_PutNum.mono _ _) | (with_reducible exact LeO.refl _) | (with_reducible exact LeO.none _) | (with_reducible refine LeO.ite ?_ ?_) | (with_reducible refine LeO.bind ?_ (fun _ => ?_))
  intro y0 y1 y2 y3 y4
  unfold impl_GetNum.j1
  repeat' first | (with_reducible exact ih0 _ _ _ _) | (with_reducible exact ih1 _ _ _ _ _) | (with_reducible exact impl_PutNum.mono _ _) | (with_reducible exact LeO.refl _) | (with_reducible exact LeO.none _) | (with_reducible refine LeO.ite ?_ ?_) | (with_reducible refine LeO.bind ?_ (fun _ => ?_))
theorem impl_GetNum.mono : ∀ a0 a1 k, LeO (impl_GetNum.f k a0 a1) (impl_GetNum.f (k + 1) a0 a1) := by
 intro a0 a1 k
 obtain ⟨ih0, ih1⟩ := impl_GetNum.mono_l k
 unfold impl_GetNum.f
 repeat' first | (with_reducible exact ih0 _ _ _ _) | (with_reducible exact ih1 _ _ _ _ _) | (with_reducible exact impl_PutNum.mono _ _) | (with_reducible exact LeO.refl _) | (with_reducible exact LeO.none _) | (with_reducible refine LeO.ite ?_ ?_) | (with_reducible refine LeO.bind ?_ (fun _ => ?_))
set_option maxHeartbeats 8000000 in
set_option maxRecDepth 100000 in
theorem impl_GetNum.calls (k : Nat) (A0 : Option Addr) (c0 : Nat) (l0 : List Int) (a1 : Int) (r1 : Int) (r2 : Int) (r3 : Bool) (w : World) (hr0 : Kd.C (Kd.int .u8) w A0 l0.length l0) (hc0 : l0.length ≤ c0) (h : impl_GetNum.f k l0 a1 = some (r1, r2, r3)) :
  Calls Tryz.prog 135 #[.slice A0 l0.length c0, .int .i64 a1] w fun e w' => e = .returned (.tuple #[.int .i64 r1, .int .i64 r2, .bool r3]) ∧ Below w.heap.size w w' := by
 have HR0 := Aside0.mk hr0; have HC0 := Aside0.mk hc0; clear hr0 hc0; have HB := Aside0.mk (Below.refl w.heap.size w)
 have H := h; unfold impl_GetNum.f at H
 clear h; obtain ⟨t418, A3, H⟩ := oB H; (try dsimp only at H)
 by_cases c4 : t418 = true
 ·
  subst c4
  rw [if_pos rfl] at H
  have H' := Aside0.mk H; clear H
  go_enter Tryz.func135, Tryz.ntmps135
  go_wp2_with (first | ((with_reducible refine gate_callee (f := 106) rfl ?_); refine gB (some 14) Tryz.func106 #[.int .i64 a1, .int .i64 0, .int .i64 (wrap64 ((l0.length : Int) - 1))] ?_; (with_reducible refine (impl_within.calls a1 0 (wrap64 ((l0.length : Int) - 1)) true _ A3.out).mono ?_); rintro e w' ⟨rfl, ⟨nd, rfl⟩⟩; refine ⟨_, rfl, ?_⟩))
  go_loopg [7, 8] k (fun kq v7 v8 w' => ∃ (x7_1 : Int) (x8_1 : Int), v7 = .int .i64 x7_1 ∧ v8 = .int .i64 x8_1 ∧ Aside0 (impl_GetNum.l0 kq l0 a1 x7_1 x8_1 = some (r1, r2, r3)) ∧ Aside0 (kq ≤ k) ∧ Aside0 (Below w.heap.size w w'))
  case atStart => exact ⟨(0), (0), y0_17, y0_17, H', ⟨Nat.le_refl _⟩, ⟨bI HB.out⟩⟩
  case round =>
   clear H'
   try clear c1
   try clear p2
   try clear c4
   obtain ⟨x7_1, x8_1, rfl, rfl, HA, HK1, HB⟩ := hrel; cases gk with
   | zero => exact absurd HA.out (by simp [impl_GetNum.l0])
   | succ k1 =>
    have H := HA.out; clear HA
    simp only [impl_GetNum.l0] at H
    have HC5 := Aside0.mk H; clear H
    go_upto_region 5 with (fail)
    go_cut [25] (fun v25 wc => ∃ (kq : Nat) (x25_4 : Bool), v25 = .bool x25_4 ∧ Aside0 (impl_GetNum.j1 kq l0 a1 x7_1 x8_1 x25_4 = some (r1, r2, r3)) ∧ Aside0 (kq ≤ k1) ∧ Aside0 (Below w.heap.size w wc))
    case first =>
     have H := HC5.out; clear HC5
     by_cases c6 : x8_1 < 5
     ·
      rw [if_pos c6] at H
      have c6b0 : decide (x8_1 < 5) = true := decide_eq_true c6; clear c6
      (first | rw [c6b0] | (simp only [i64_w, i32_w]; rw [c6b0]) | skip)
      have H' := Aside0.mk H; clear H
      go_wp2
      go_meet
      case rel => exact ⟨_, (decide ((wrap64 (a1 + x8_1)) < (l0.length : Int))), y0_17, H', ⟨y0_15⟩, ⟨bI HB.out⟩⟩
     rw [if_neg c6] at H
     have c6b0 : decide (x8_1 < 5) = false := decide_eq_false c6; clear c6
     (first | rw [c6b0] | (simp only [i64_w, i32_w]; rw [c6b0]) | skip)
     have H' := Aside0.mk H; clear H
     go_wp2
     go_meet
     case rel => exact ⟨_, (false), y0_17, H', ⟨y0_15⟩, ⟨bI HB.out⟩⟩
    case rest =>
     clear HC5
     try clear c1
     try clear p2
     try clear c4
     try clear c6
     try clear c6b0
     try clear p6
     try clear p2
     obtain ⟨kq, x25_4, rfl, HA, HJ4, HB⟩ := hcut; cases kq with
     | zero => exact absurd HA.out (by simp [impl_GetNum.j1])
     | succ kj4 =>
      have H := HA.out; clear HA
      simp only [impl_GetNum.j1] at H
      by_cases c7 : x25_4 = true
      ·
       subst c7
       rw [if_pos rfl] at H
       obtain ⟨ji8, hji8⟩ : ∃ j_ : Int, (wrap64 (a1 + x8_1)) = j_ := ⟨_, rfl⟩
       replace H : (if 0 ≤ (ji8) then (if (ji8) < (l0.length : Int) then (if 0 ≤ (wrap64 (7 * x8_1)) then (if (wrap64 (rd l0 (ji8))) < 128 then ((impl_PutNum.f kj4 (wrap64 (x7_1 + (shl .i64 (Int.tmod (wrap64 (rd l0 (ji8))) 128) (wrap64 (7 * x8_1)))))).bind fun t420 => (if (t420.length : Int) = (wrap64 (x8_1 + 1)) then (some (wrap64 (x7_1 + (shl .i64 (Int.tmod (wrap64 (rd l0 (ji8))) 128) (wrap64 (7 * x8_1)))), wrap64 ((ji8) + 1), true)) else (some (0, 0, false)))) else (impl_GetNum.l0 kj4 l0 a1 (wrap64 (x7_1 + (shl .i64 (Int.tmod (wrap64 (rd l0 (ji8))) 128) (wrap64 (7 * x8_1))))) (wrap64 (x8_1 + 1)))) else (none)) else (none)) else (none)) = some (r1, r2, r3) := by first | (rw [hji8] at H; exact H) | (simp only [hji8] at H ⊢; exact H)
       have hji8w : (IntKind.i64.wrap (a1 + x8_1)) = ji8 := (i64_w _).trans hji8
       by_cases c9 : 0 ≤ (ji8)
       rotate_left
       ·
        rw [if_neg c9] at H
        exact absurd H (by simp)
       rw [if_pos c9] at H
       have c9b0 : decide (0 ≤ (ji8)) = true := decide_eq_true c9; clear c9
       by_cases c10 : (ji8) < (l0.length : Int)
       rotate_left
       ·
        rw [if_neg c10] at H
        exact absurd H (by simp)
       rw [if_pos c10] at H
       have c10b0 : decide ((ji8) < (l0.length : Int)) = true := decide_eq_true c10; clear c10; obtain ⟨ji11, hji11⟩ : ∃ j_ : Int, (wrap64 (7 * x8_1)) = j_ := ⟨_, rfl⟩
       replace H : (if 0 ≤ (ji11) then (if (wrap64 (rd l0 (ji8))) < 128 then ((impl_PutNum.f kj4 (wrap64 (x7_1 + (shl .i64 (Int.tmod (wrap64 (rd l0 (ji8))) 128) (ji11))))).bind fun t420 => (if (t420.length : Int) = (wrap64 (x8_1 + 1)) then (some (wrap64 (x7_1 + (shl .i64 (Int.tmod (wrap64 (rd l0 (ji8))) 128) (ji11))), wrap64 ((ji8) + 1), true)) else (some (0, 0, false)))) else (impl_GetNum.l0 kj4 l0 a1 (wrap64 (x7_1 + (shl .i64 (Int.tmod (wrap64 (rd l0 (ji8))) 128) (ji11)))) (wrap64 (x8_1 + 1)))) else (none)) = some (r1, r2, r3) := by first | (rw [hji11] at H; exact H) | (simp only [hji11] at H ⊢; exact H)
       have hji11w : (IntKind.i64.wrap (7 * x8_1)) = ji11 := (i64_w _).trans hji11
       by_cases c12 : 0 ≤ (ji11)
       rotate_left
       ·
        rw [if_neg c12] at H
        exact absurd H (by simp)
       rw [if_pos c12] at H
       have c12b0 := eq_true c12; have c12b1 : decide (0 ≤ (ji11)) = true := decide_eq_true c12; clear c12; obtain ⟨ji13, hji13⟩ : ∃ j_ : Int, (shl .i64 (Int.tmod (wrap64 (rd l0 (ji8))) 128) (ji11)) = j_ := ⟨_, rfl⟩
       replace H : (if (wrap64 (rd l0 (ji8))) < 128 then ((impl_PutNum.f kj4 (wrap64 (x7_1 + (ji13)))).bind fun t420 => (if (t420.length : Int) = (wrap64 (x8_1 + 1)) then (some (wrap64 (x7_1 + (ji13)), wrap64 ((ji8) + 1), true)) else (some (0, 0, false)))) else (impl_GetNum.l0 kj4 l0 a1 (wrap64 (x7_1 + (ji13))) (wrap64 (x8_1 + 1)))) = some (r1, r2, r3) := by first | (rw [hji13] at H; exact H) | (simp only [hji13] at H ⊢; exact H)
       have hji13_ : (IntKind.i64.wrap ((Int.tmod (wrap64 (rd l0 (ji8))) 128) * 2 ^ min (ji11).toNat 64)) = ji13 := hji13; have hji13z : (ji11) ≤ 64 → (IntKind.i64.wrap ((Int.tmod (wrap64 (rd l0 (ji8))) 128) * 2 ^ (ji11).toNat)) = ji13 := shl_small hji13; have hji13y : (wrap64 ((Int.tmod (wrap64 (rd l0 (ji8))) 128) * 2 ^ min (ji11).toNat 64)) = ji13 := (i64_w _).symm.trans hji13_
       have hji13x : (ji11) ≤ 64 → (wrap64 ((Int.tmod (wrap64 (rd l0 (ji8))) 128) * 2 ^ (ji11).toNat)) = ji13 := fun h_ => (i64_w _).symm.trans (hji13z h_)
       by_cases c14 : (wrap64 (rd l0 (ji8))) < 128
       ·
        rw [if_pos c14] at H
        have c14b0 : decide ((wrap64 (rd l0 (ji8))) < 128) = true := decide_eq_true c14; clear c14; obtain ⟨t420, A15, H⟩ := oB H; (try dsimp only at H)
        by_cases c16 : (t420.length : Int) = (wrap64 (x8_1 + 1))
        ·
         rw [if_pos c16] at H
         have c16b0 : ((t420.length : Int) == (wrap64 (x8_1 + 1))) = true := beq_iff_eq.mpr c16; have c16b1 : ((t420.length : Int) != (wrap64 (x8_1 + 1))) = false := bne_eq_false_iff_eq.mpr c16; clear c16
         simp only [Option.some.injEq, Prod.mk.injEq] at H
         obtain ⟨rfl, rfl, rfl⟩ := H; have p419 : 0 ≤ ((ji8) : Int) := of_decide_eq_true y0_16; have q419 : (ji8) < (l0.length : Int) := of_decide_eq_true y0_16; obtain ⟨ad419, e419, hx419_0⟩ := Kd.at_int HR0.out (ji8) p419 q419; cases e419; replace hx419_0 := bx HB hx419_0; replace p419 := eq_true p419; replace q419 := eq_true q419
         go_wp2_with (first | ((with_reducible refine gate_callee (f := 120) rfl ?_); refine goesL_ (some 45) rfl rfl Tryz.func120 (by kernel_rfl) rfl #[.int .i64 (wrap64 (x7_1 + (ji13)))] rfl (by (try simp only [List.map_toArray, List.map_cons, List.map_nil]); first | done | (simp only [hji13]; rfl) | rfl | (simp only [List.length_drop, List.length_take]; rfl)) ?_; (with_reducible refine (impl_PutNum.calls kj4 (wrap64 (x7_1 + (ji13))) t420 _ A15.out).mono ?_); rintro e w17 ⟨v421, rfl, ho0, hb⟩; refine ⟨_, rfl, ?_⟩; have HO422 := Aside0.mk (Kd.R_lower ho0 (below_size (bI HB.out))); replace HB := bs HB hb; (try clear hb); (try clear ho0); obtain ⟨Ao18, co18, eo18⟩ := Kd.R_slice HO422.out; subst eo18))
         go_ret3
         exact ⟨by first | rfl | (simp [errW_none, errW_some] <;> rfl) | (simp only [← hji8, ← hji11, ← hji13]; first | rfl | (simp [errW_none, errW_some] <;> rfl)) | (simp [*, errW_none, errW_some] <;> rfl), bI HB.out⟩
        rw [if_neg c16] at H
        have c16b0 : ((t420.length : Int) == (wrap64 (x8_1 + 1))) = false := beq_eq_false_iff_ne.mpr c16; have c16b1 : ((t420.length : Int) != (wrap64 (x8_1 + 1))) = true := bne_iff_ne.mpr c16
        simp only [Option.some.injEq, Prod.mk.injEq] at H
        obtain ⟨rfl, rfl, rfl⟩ := H; have p419 : 0 ≤ ((ji8) : Int) := of_decide_eq_true y0_16; have q419 : (ji8) < (l0.length : Int) := of_decide_eq_true y0_16; obtain ⟨ad419, e419, hx419_0⟩ := Kd.at_int HR0.out (ji8) p419 q419; cases e419; replace hx419_0 := bx HB hx419_0; replace p419 := eq_true p419; replace q419 := eq_true q419
        go_wp2_with (first | ((with_reducible refine gate_callee (f := 120) rfl ?_); refine goesL_ (some 45) rfl rfl Tryz.func120 (by kernel_rfl) rfl #[.int .i64 (wrap64 (x7_1 + (ji13)))] rfl (by (try simp only [List.map_toArray, List.map_cons, List.map_nil]); first | done | (simp only [hji13]; rfl) | rfl | (simp only [List.length_drop, List.length_take]; rfl)) ?_; (with_reducible refine (impl_PutNum.calls kj4 (wrap64 (x7_1 + (ji13))) t420 _ A15.out).mono ?_); rintro e w19 ⟨v421, rfl, ho0, hb⟩; refine ⟨_, rfl, ?_⟩; have HO422 := Aside0.mk (Kd.R_lower ho0 (below_size (bI HB.out))); replace HB := bs HB hb; (try clear hb); (try clear ho0); obtain ⟨Ao20, co20, eo20⟩ := Kd.R_slice HO422.out; subst eo20))
        go_ret3
        exact ⟨by first | rfl | (simp [errW_none, errW_some] <;> rfl) | (simp only [← hji8, ← hji11, ← hji13]; first | rfl | (simp [errW_none, errW_some] <;> rfl)) | (simp [*, errW_none, errW_some] <;> rfl), bI HB.out⟩
       rw [if_neg c14] at H
       have c14b0 : decide ((wrap64 (rd l0 (ji8))) < 128) = false := decide_eq_false c14; clear c14; have H' := Aside0.mk H; clear H; have p419 : 0 ≤ ((ji8) : Int) := of_decide_eq_true y0_16; have q419 : (ji8) < (l0.length : Int) := of_decide_eq_true y0_16; obtain ⟨ad419, e419, hx419_0⟩ := Kd.at_int HR0.out (ji8) p419 q419; cases e419; replace hx419_0 := bx HB hx419_0; replace p419 := eq_true p419; replace q419 := eq_true q419
       go_wp2
       go_roundg kj4
       case measure => have := HK1.out; have := HJ4.out; omega
       case rel => exact ⟨(wrap64 (x7_1 + (ji13))), (wrap64 (x8_1 + 1)), (by first | rfl | (simp; done) | (simp only [← hji13] <;> (first | rfl | simp)) | (simp [*]; done)), y0_17, H', ⟨by have := HK1.out; have := HJ4.out; omega⟩, ⟨bI HB.out⟩⟩
      replace c7 := Bool.eq_false_iff.mpr c7; subst c7
      rw [if_neg (show ¬ (false = true) by decide)] at H
      simp only [Option.some.injEq, Prod.mk.injEq] at H
      obtain ⟨rfl, rfl, rfl⟩ := H
      go_wp2
      go_ret3
      exact ⟨y0_11, bI HB.out⟩
 replace c4 := Bool.eq_false_iff.mpr c4; subst c4
 rw [if_neg (show ¬ (false = true) by decide)] at H
 simp only [Option.some.injEq, Prod.mk.injEq] at H
 obtain ⟨rfl, rfl, rfl⟩ := H
 go_enter Tryz.func135, Tryz.ntmps135
 go_wp2_with (first | ((with_reducible refine gate_callee (f := 106) rfl ?_); refine gB (some 14) Tryz.func106 #[.int .i64 a1, .int .i64 0, .int .i64 (wrap64 ((l0.length : Int) - 1))] ?_; (with_reducible refine (impl_within.calls a1 0 (wrap64 ((l0.length : Int) - 1)) false _ A3.out).mono ?_); rintro e w' ⟨rfl, ⟨nd, rfl⟩⟩; refine ⟨_, rfl, ?_⟩))
 go_ret3
 exact ⟨y0_11, bI HB.out⟩

/-- A state of type 134 at block g of W; what its slices lead to came in by w0. -/
def IsS134 (w0 W : World) (g : Nat) (f0 : List Int) (f1 : Int) (f2 : Bool) : Prop := ∃ A0 c0, W.heap[g]? = some (.cells #[.slice A0 f0.length c0, .int .i64 f1, .bool f2] 134 (0, 0)) ∧ w0.heap.size ≤ g ∧ Kd.C (Kd.int .u8) w0 A0 f0.length f0 ∧ f0.length ≤ c0
theorem IsS134.grown {w0 W : World} {g : Nat} {f0 : List Int} {f1 : Int} {f2 : Bool} {W1 : World} {row : Option Nat} (h : IsS134 w0 W g f0 f1 f2) (hw : W.grownBy W1 row) (hne : some g ≠ row) : IsS134 w0 W1 g f0 f1 f2 := by
 obtain ⟨A0, c0, hb, hg, hr0, hl0⟩ := h
 exact ⟨A0, c0, blk_grown hb hw hne, hg, hr0, hl0⟩
theorem IsS134.own_neN {w0 W : World} {g : Nat} {f0 : List Int} {f1 : Int} {f2 : Bool} {α : Type} {d : Kd α} {e : Nat} {base : Nat} {ok : Nat → Prop} {v : Value} {xs : List α} (h : IsS134 w0 W g f0 f1 f2) (ho : Kd.N d e W base ok v xs) (ht : e ≠ 134) : some g ≠ v.ownBlock := by
 obtain ⟨A0, c0, hb, hg, hr0, hl0⟩ := h
 exact Kd.N_ne ho hb ht
theorem IsS134.fresh {w0 W : World} {g : Nat} {f0 : List Int} {f1 : Int} {f2 : Bool} (h : IsS134 w0 W g f0 f1 f2) : ∀ k, W.heap.size ≤ k → k ≠ g := by
 obtain ⟨A0, c0, hb, hg, hr0, hl0⟩ := h
 exact Kd.freshB hb
theorem IsS134.kept {w0 W : World} {g : Nat} {f0 : List Int} {f1 : Int} {f2 : Bool} {W1 : World} {S : Nat → Prop} (h : IsS134 w0 W g f0 f1 f2) (hk : Kept W W1 S) (hne : ¬ S g) : IsS134 w0 W1 g f0 f1 f2 := by
 obtain ⟨A0, c0, hb, hg, hr0, hl0⟩ := h
 exact ⟨A0, c0, blk_kept hb hk hne, hg, hr0, hl0⟩
theorem IsS134.below {w0 W : World} {g : Nat} {f0 : List Int} {f1 : Int} {f2 : Bool} {W1 : World} (h : IsS134 w0 W g f0 f1 f2) (hw : Below W.heap.size W W1) : IsS134 w0 W1 g f0 f1 f2 := h.grown (grown_of_below hw none) (by simp)
theorem IsS134.alloc {w0 W : World} {g : Nat} {f0 : List Int} {f1 : Int} {f2 : Bool} (h : IsS134 w0 W g f0 f1 f2) (o : Obj) : IsS134 w0 (W.alloc o) g f0 f1 f2 := h.below (below_alloc (Below.refl _ _) o)
theorem IsS134.drewN {w0 W : World} {g : Nat} {f0 : List Int} {f1 : Int} {f2 : Bool} (h : IsS134 w0 W g f0 f1 f2) (m : Nat) : IsS134 w0 (W.drewN m) g f0 f1 f2 := h
theorem IsS134.drew {w0 W : World} {g : Nat} {f0 : List Int} {f1 : Int} {f2 : Bool} (h : IsS134 w0 W g f0 f1 f2) : IsS134 w0 W.drew g f0 f1 f2 := h
theorem IsS134.at_ {w0 W : World} {g : Nat} {f0 : List Int} {f1 : Int} {f2 : Bool} {w' : World} {m : Nat} (hq : W.drewN m = w') (h : IsS134 w0 W g f0 f1 f2) : IsS134 w0 w' g f0 f1 f2 := by subst hq; exact IsS134.drewN h m
theorem IsS134.apart {w0 W : World} {g : Nat} {f0 : List Int} {f1 : Int} {f2 : Bool} {α : Type} {d : Kd α} {e : Nat} {base : Nat} {ok : Nat → Prop} {v : Value} {xs : List α} (h : IsS134 w0 W g f0 f1 f2) (ho : d.R e W base ok v xs) (ht : ∀ q, q ∈ e :: d.E → q ≠ 134) : d.R e W base (fun k => ok k ∧ k ≠ g) v xs := by
 obtain ⟨A0, c0, hb, hg, hr0, hl0⟩ := h
 exact Kd.R_types ho hb ht
theorem IsS134.own_ne {w0 W : World} {g : Nat} {f0 : List Int} {f1 : Int} {f2 : Bool} {α : Type} {d : Kd α} {e : Nat} {base : Nat} {ok : Nat → Prop} {v : Value} {xs : List α} (h : IsS134 w0 W g f0 f1 f2) (ho : d.R e W base ok v xs) (ht : e ≠ 134) : some g ≠ v.ownBlock := by
 obtain ⟨A0, c0, hb, hg, hr0, hl0⟩ := h
 exact Kd.R_ne ho hb ht
theorem IsS134.apartQ {w0 W : World} {g : Nat} {f0 : List Int} {f1 : Int} {f2 : Bool} {α : Type} {d : Kd α} {e : Nat} {base : Nat} {ok : Nat → Prop} {v : Value} {xs : List α} (h : IsS134 w0 W g f0 f1 f2) (ho : d.Q e W base ok v xs) (ht : ∀ q, q ∈ e :: d.E → q ≠ 134) : d.Q e W base (fun k => ok k ∧ k ≠ g) v xs := by
 obtain ⟨A0, c0, hb, hg, hr0, hl0⟩ := h
 exact Kd.Q_types ho hb ht
theorem IsS134.own_neQ {w0 W : World} {g : Nat} {f0 : List Int} {f1 : Int} {f2 : Bool} {α : Type} {d : Kd α} {e : Nat} {base : Nat} {ok : Nat → Prop} {v : Value} {xs : List α} (h : IsS134 w0 W g f0 f1 f2) (ho : d.Q e W base ok v xs) (ht : e ≠ 134) : some g ≠ v.ownBlock := by
 obtain ⟨A0, c0, hb, hg, hr0, hl0⟩ := h
 exact Kd.Q_ne ho hb ht
theorem IsS134.apartS {w0 W : World} {g : Nat} {f0 : List Int} {f1 : Int} {f2 : Bool} {α : Type} {d : Kd α} {e : Nat} {base : Nat} {ok : Nat → Prop} {v : Value} {xs : List α} (h : IsS134 w0 W g f0 f1 f2) (ho : d.S e W base ok v xs) (ht : ∀ q, q ∈ e :: d.E → q ≠ 134) : d.S e W base (fun k => ok k ∧ k ≠ g) v xs := by
 obtain ⟨A0, c0, hb, hg, hr0, hl0⟩ := h
 exact Kd.S_types ho hb ht
theorem IsS134.own_neS {w0 W : World} {g : Nat} {f0 : List Int} {f1 : Int} {f2 : Bool} {α : Type} {d : Kd α} {e : Nat} {base : Nat} {ok : Nat → Prop} {v : Value} {xs : List α} (h : IsS134 w0 W g f0 f1 f2) (ho : d.S e W base ok v xs) (ht : e ≠ 134) : some g ≠ v.ownBlock := by
 obtain ⟨A0, c0, hb, hg, hr0, hl0⟩ := h
 exact Kd.S_ne ho hb ht
theorem IsS134.lt {w0 W : World} {g : Nat} {f0 : List Int} {f1 : Int} {f2 : Bool} (h : IsS134 w0 W g f0 f1 f2) : g < W.heap.size := by
 obtain ⟨A0, c0, hb, hg, hr0, hl0⟩ := h
 exact blk_lt hb
theorem IsS134.ge {w0 W : World} {g : Nat} {f0 : List Int} {f1 : Int} {f2 : Bool} (h : IsS134 w0 W g f0 f1 f2) : w0.heap.size ≤ g := by
 obtain ⟨A0, c0, hb, hg, hr0, hl0⟩ := h
 exact hg
theorem IsS134.ne_blk {w0 W : World} {g : Nat} {f0 : List Int} {f1 : Int} {f2 : Bool} {a : Nat} {cs : Array Value} {t : TypeId} {fr : Nat × Nat} (h : IsS134 w0 W g f0 f1 f2) (hb2 : W.heap[a]? = some (.cells cs t fr)) (ht : t ≠ 134) : g ≠ a := by
 obtain ⟨A0, c0, hb, hg, hr0, hl0⟩ := h
 rintro rfl
 rw [hb] at hb2
 injection hb2 with hb2
 injection hb2 with _ ht2
 exact ht ht2.symm
theorem IsS134.far {w0 W : World} {g : Nat} {f0 : List Int} {f1 : Int} {f2 : Bool} {p : Addr} (h : IsS134 w0 W g f0 f1 f2) (hne : g ≠ p.block) (u : Value) : IsS134 w0 (W.setCell p u) g f0 f1 f2 := by
 obtain ⟨A0, c0, hb, hg, hr0, hl0⟩ := h
 exact ⟨A0, c0, blk_far hb hne u, hg, hr0, hl0⟩
theorem cellS134_0 {W : World} {g : Nat} {A0 : Option Addr} {c0 : Nat} {f0 : List Int} {f1 : Int} {f2 : Bool} (h : W.heap[g]? = some (.cells #[.slice A0 f0.length c0, .int .i64 f1, .bool f2] 134 (0, 0))) : W.cell? ⟨g, 0, none⟩ = some (.slice A0 f0.length c0) := (blk_cell h 0).trans rfl
theorem cellS134_1 {W : World} {g : Nat} {A0 : Option Addr} {c0 : Nat} {f0 : List Int} {f1 : Int} {f2 : Bool} (h : W.heap[g]? = some (.cells #[.slice A0 f0.length c0, .int .i64 f1, .bool f2] 134 (0, 0))) : W.cell? ⟨g, 1, none⟩ = some (.int .i64 f1) := (blk_cell h 1).trans rfl
theorem IsS134.set_1 {w0 W : World} {g : Nat} {f0 : List Int} {f1 : Int} {f2 : Bool} (h : IsS134 w0 W g f0 f1 f2) (x : Int) : IsS134 w0 (W.setCell ⟨g, 1, none⟩ (.int .i64 x)) g f0 x f2 := by
 obtain ⟨A0, c0, hb, hg, hr0, hl0⟩ := h
 exact ⟨A0, c0, by simpa using blk_set hb 1 (.int .i64 x), hg, hr0, hl0⟩
theorem cellS134_2 {W : World} {g : Nat} {A0 : Option Addr} {c0 : Nat} {f0 : List Int} {f1 : Int} {f2 : Bool} (h : W.heap[g]? = some (.cells #[.slice A0 f0.length c0, .int .i64 f1, .bool f2] 134 (0, 0))) : W.cell? ⟨g, 2, none⟩ = some (.bool f2) := (blk_cell h 2).trans rfl
theorem IsS134.set_2 {w0 W : World} {g : Nat} {f0 : List Int} {f1 : Int} {f2 : Bool} (h : IsS134 w0 W g f0 f1 f2) (x : Bool) : IsS134 w0 (W.setCell ⟨g, 2, none⟩ (.bool x)) g f0 f1 x := by
 obtain ⟨A0, c0, hb, hg, hr0, hl0⟩ := h
 exact ⟨A0, c0, by simpa using blk_set hb 2 (.bool x), hg, hr0, hl0⟩
theorem IsS134.new (w0 W : World) (A0 : Option Addr) (c0 : Nat) (f0 : List Int) (f1 : Int) (f2 : Bool) (hB : Below w0.heap.size w0 W) (hr0 : Kd.C (Kd.int .u8) w0 A0 f0.length f0) (hl0 : f0.length ≤ c0) : IsS134 w0 (W.alloc (.cells #[.slice A0 f0.length c0, .int .i64 f1, .bool f2] 134)) W.heap.size f0 f1 f2 := ⟨A0, c0, by simpa using heap_alloc_new W _, hB.size, hr0, hl0⟩
theorem iS134 {w0 w W : World} {g : Nat} {f0 : List Int} {f1 : Int} {f2 : Bool} (h : Aside0 (IsS134 w0 w g f0 f1 f2)) [u : UpG g w W] : IsS134 w0 W g f0 f1 f2 := by obtain ⟨_, _, hb, r⟩ := h.out; exact ⟨_, _, u.out _ _ hb, r⟩
theorem oS134 {w0 w : World} {g : Nat} {f0 : List Int} {f1 : Int} {f2 : Bool} (h : Aside0 (IsS134 w0 w g f0 f1 f2)) : ∃ (A0 : Option Addr) (c0 : Nat), BkI g w #[.slice A0 f0.length c0, .int .i64 f1, .bool f2] 134 ∧ GeI w0.heap.size g ∧ Aside0 (Kd.C (Kd.int .u8) w0 A0 f0.length f0) ∧ Aside0 (f0.length ≤ c0) := by obtain ⟨A0, c0, hb, hg, hr0, hl0⟩ := h.out; exact ⟨A0, c0, ⟨hb⟩, ⟨hg⟩, ⟨hr0⟩, ⟨hl0⟩⟩
theorem nS134 {w0 W : World} {g : Nat} {A0 : Option Addr} {c0 : Nat} {f0 : List Int} {f1 : Int} {f2 : Bool} (hb : W.heap[g]? = some (.cells #[.slice A0 f0.length c0, .int .i64 f1, .bool f2] 134 (0, 0))) (hr0 : Aside0 (Kd.C (Kd.int .u8) w0 A0 f0.length f0)) (hl0 : Aside0 (f0.length ≤ c0)) [hg : GeI w0.heap.size g] : IsS134 w0 W g f0 f1 f2 := ⟨A0, c0, hb, hg.out, hr0.out, hl0.out⟩
theorem iB134 {w0 w : World} {g : Nat} {f0 : List Int} {f1 : Int} {f2 : Bool} (h : Aside0 (IsS134 w0 w g f0 f1 f2)) : StB g w 134 := ⟨by obtain ⟨_, _, hb, r⟩ := h.out; exact ⟨_, hb⟩⟩
instance (w0 : World) (g : Nat) (f0 : List Int) (f1 : Int) (f2 : Bool) : StP (fun w => IsS134 w0 w g f0 f1 f2) g 134 := ⟨fun w h => (iB134 ⟨h⟩).out⟩
instance (w0 : World) (f0 : List Int) (f1 : Int) (f2 : Bool) : StN (fun g w => IsS134 w0 w g f0 f1 f2) w0 134 := ⟨fun g w h => (iB134 ⟨h⟩).out, fun g w h => IsS134.ge h⟩

/-! ### impl_reader_num: function 123 -/
def impl_reader_num.f (k : Nat) (s0_0 : List Int) (s0_1 : Int) (s0_2 : Bool) : Option (Int × Int × Bool) := (impl_GetNum.f k s0_0 s0_1).bind fun bt423 => (if s0_2 = true then (some (0, s0_1, true)) else (if bt423.2.2 = true then (some (bt423.1, bt423.2.1, s0_2)) else (some (0, s0_1, true))))
theorem impl_reader_num.mono : ∀ a0 a1 a2 k, LeO (impl_reader_num.f k a0 a1 a2) (impl_reader_num.f (k + 1) a0 a1 a2) := by
 intro a0 a1 a2 k
 unfold impl_reader_num.f
 repeat' first | (with_reducible exact impl_GetNum.mono _ _ _) | (with_reducible exact LeO.refl _) | (with_reducible exact LeO.none _) | (with_reducible refine LeO.ite ?_ ?_) | (with_reducible refine LeO.bind ?_ (fun _ => ?_))
def impl_reader_num.T1 : Bool × List (List Nat × List Nat) := (true, [([], []), ([0], [0]), ([1], [1]), ([2], [2]), ([], []), ([4], [4]), ([5], [5]), ([6], [6]), ([3, 7], [3, 7]), ([8], [8]), ([9], [9]), ([9], [9]), ([9], [9]), ([10, 8, 0, 1, 2, 3, 4, 5, 6, 7, 8, 9, 10], [10]), ([11, 13, 0, 1, 2, 3, 4, 5, 6, 7, 8, 9, 10, 11, 13], [11]), ([12, 14, 0, 1, 2, 3, 4, 5, 6, 7, 8, 9, 10, 11, 12, 13, 14], [12])])
def impl_reader_num.B1 : List Nat := [0, 1, 3, 7, 0, 16, 48, 112, 255, 511, 1023, 1023, 1023, 2047, 12287, 32767]
theorem impl_reader_num.tab1 : rtab .any (opsOf Tryz.f123 1) = impl_reader_num.T1 := by kernel_rfl
theorem impl_reader_num.bits1 : waitsOk impl_reader_num.T1.2 impl_reader_num.B1 = true := by kernel_rfl
set_option maxHeartbeats 8000000 in
set_option maxRecDepth 100000 in
theorem impl_reader_num.calls (k : Nat) (g : Nat) (s0_0 : List Int) (s0_1 : Int) (s0_2 : Bool) (r1 : Int) (r2 : Int) (r3 : Bool) (w0 w : World) (hI : IsS134 w0 w g s0_0 s0_1 s0_2) (hB : Below w0.heap.size w0 w) (h : impl_reader_num.f k s0_0 s0_1 s0_2 = some (r1, r2, r3)) :
  Calls Tryz.prog 123 #[.pointer (some ⟨g, 0, none⟩)] w fun e w' => e = .returned (.int .i64 r1) ∧ IsS134 w0 w' g s0_0 r2 r3 ∧ Below w0.heap.size w0 w' ∧ KeepBut w w' g none := by
 have HI0 := Aside0.mk hI; have HK := Aside0.mk (KeepBut.refl w g none); have HL := Aside0.mk hB.size; clear hI; have HW0 := Aside0.mk hB.size; have HB := Aside0.mk hB; clear hB
 have H := h; unfold impl_reader_num.f at H
 clear h; obtain ⟨⟨t423, t424, t425⟩, A2, H⟩ := oB H; (try dsimp only at H); have i0_ := iB134 HI0; have i1_ : LB w0 w := ⟨HB.out⟩; obtain ⟨AS3_0, cS3_0, bk3, HG3, HS3_0, HL3_0⟩ := oS134 HI0
 go_enter Tryz.func123, Tryz.ntmps123
 have H' := Aside0.mk H; clear H
 try go_wp2
 refine sB [] impl_reader_num.tab1 impl_reader_num.bits1 ?_; intro w4 _ HT_ HW_
 refine pA 0 (some 7) (bz 16 1) HT_ ?_
 refine pA 1 (some 8) (bz 16 3) HT_ ?_
 refine pA 2 (some 9) (bz 16 7) HT_ ?_
 refine tB 3 (some 10) (bz 16 15) HT_ HW_ ?_
 refine pA 4 (some 11) (bz 16 31) HT_ ?_
 refine pA 5 (some 12) (bz 16 63) HT_ ?_
 refine pA 6 (some 13) (bz 16 127) HT_ ?_
 refine tB 7 (some 14) (bz 16 255) HT_ HW_ ?_
 refine o1 8 (some 15) (bz 16 511) HT_ rfl (kC Tryz.func135 (impl_GetNum.calls (hr0 := pC HS3_0) (hc0 := HL3_0.out) (w := _) (h := A2.out)) ?_); intro w5 _
 refine nA (some 15) ?_
 refine pA 9 (some 6) (bz 16 1023) HT_ ?_
 refine pA 10 (some 16) (bz 16 2047) HT_ ?_
 refine pA 11 (some 17) (bz 16 4095) HT_ ?_
 refine pA 12 (some 18) (bz 16 0x1fff) HT_ ?_
 refine pA 13 (some 3) (bz 16 0x3fff) HT_ ?_
 refine pA 14 (some 4) (bz 16 0x7fff) HT_ ?_
 refine pA 15 (some 5) (bz 16 0xffff) HT_ ?_
 refine done_ (done_of HT_.out (by kernel_rfl)) ?_
 go_upto_region 2 with fail
 have H := H'.out; clear H'
 by_cases c6 : s0_2 = true
 ·
  subst c6
  rw [if_pos rfl] at H
  have H' := Aside0.mk H; clear H
  go_upto_if 26 with fail
  have H := H'.out; clear H'
  simp only [Option.some.injEq, Prod.mk.injEq] at H
  obtain ⟨rfl, rfl, rfl⟩ := H
  go_wp2
  go_ret
  exact ⟨y0_17, (nS134 xB HS3_0 HL3_0), UpW.out, UpB.out⟩
 replace c6 := Bool.eq_false_iff.mpr c6; subst c6
 rw [if_neg (show ¬ (false = true) by decide)] at H
 have H' := Aside0.mk H; clear H
 go_upto_if 26 with fail
 have H := H'.out; clear H'
 by_cases c7 : t425 = true
 ·
  subst c7
  rw [if_pos rfl] at H
  simp only [Option.some.injEq, Prod.mk.injEq] at H
  obtain ⟨rfl, rfl, rfl⟩ := H
  go_wp2
  go_ret
  exact ⟨y0_17, (nS134 xB HS3_0 HL3_0), UpW.out, UpB.out⟩
 replace c7 := Bool.eq_false_iff.mpr c7; subst c7
 rw [if_neg (show ¬ (false = true) by decide)] at H
 simp only [Option.some.injEq, Prod.mk.injEq] at H
 obtain ⟨rfl, rfl, rfl⟩ := H
 go_wp2
 go_ret
 exact ⟨y0_17, (nS134 xB HS3_0 HL3_0), UpW.out, UpB.out⟩

/-! ### impl_GetText: function 73 -/
def impl_GetText.f (k : Nat) (l0 : List Int) (a1 : Int) : Option (ByteArray × Int × Bool) := (impl_GetNum.f k l0 a1).bind fun bt426 => (if bt426.2.2 = true then (if bt426.1 > (wrap64 ((l0.length : Int) - bt426.2.1)) then (some ((⟨#[]⟩ : ByteArray), 0, false)) else (if 0 ≤ bt426.2.1 then (if bt426.2.1 ≤ (wrap64 (bt426.2.1 + bt426.1)) then (if (wrap64 (bt426.2.1 + bt426.1)) ≤ (l0.length : Int) then (some (strOfNums ((l0.take ((wrap64 (bt426.2.1 + bt426.1)) : Int).toNat).drop (bt426.2.1 : Int).toNat), wrap64 (bt426.2.1 + bt426.1), true)) else (none)) else (none)) else (none))) else (some ((⟨#[]⟩ : ByteArray), 0, false)))
theorem impl_GetText.mono : ∀ a0 a1 k, LeO (impl_GetText.f k a0 a1) (impl_GetText.f (k + 1) a0 a1) := by
 intro a0 a1 k
 unfold impl_GetText.f
 repeat' first | (with_reducible exact impl_GetNum.mono _ _ _) | (with_reducible exact LeO.refl _) | (with_reducible exact LeO.none _) | (with_reducible refine LeO.ite ?_ ?_) | (with_reducible refine LeO.bind ?_ (fun _ => ?_))
set_option maxHeartbeats 8000000 in
set_option maxRecDepth 100000 in
theorem impl_GetText.calls (k : Nat) (A0 : Option Addr) (c0 : Nat) (l0 : List Int) (a1 : Int) (r1 : ByteArray) (r2 : Int) (r3 : Bool) (w : World) (hr0 : Kd.C (Kd.int .u8) w A0 l0.length l0) (hc0 : l0.length ≤ c0) (h : impl_GetText.f k l0 a1 = some (r1, r2, r3)) :
  Calls Tryz.prog 73 #[.slice A0 l0.length c0, .int .i64 a1] w fun e w' => e = .returned (.tuple #[.string r1, .int .i64 r2, .bool r3]) ∧ Below w.heap.size w w' := by
 have HR0 := Aside0.mk hr0; have HC0 := Aside0.mk hc0; clear hr0 hc0; have HB := Aside0.mk (Below.refl w.heap.size w)
 have H := h; unfold impl_GetText.f at H
 clear h; obtain ⟨⟨t426, t427, t428⟩, A3, H⟩ := oB H; (try dsimp only at H)
 by_cases c4 : t428 = true
 ·
  subst c4
  rw [if_pos rfl] at H
  by_cases c5 : t426 > (wrap64 ((l0.length : Int) - t427))
  ·
   rw [if_pos c5] at H
   have c5b0 : decide ((wrap64 ((l0.length : Int) - t427)) < t426) = true := decide_eq_true c5; clear c5
   simp only [Option.some.injEq, Prod.mk.injEq] at H
   obtain ⟨rfl, rfl, rfl⟩ := H
   go_enter Tryz.func73, Tryz.ntmps73
   go_wp2_with (first | ((with_reducible refine gate_callee (f := 135) rfl ?_); refine gB (some 13) Tryz.func135 #[.slice A0 l0.length c0, .int .i64 a1] ?_; (with_reducible refine (impl_GetNum.calls k _ _ l0 a1 t426 t427 true _ ?side1 ?side2 A3.out).mono ?_); (case side1 => exact cI HR0.out); (case side2 => exact HC0.out); rintro e w6 ⟨rfl, hb⟩; refine ⟨_, rfl, ?_⟩; replace HB := bs HB hb; (try clear hb); (try clear hb2); (try clear hk); (try clear hi)))
   go_ret3
   exact ⟨y0_11, bI HB.out⟩
  rw [if_neg c5] at H
  have c5b0 : decide ((wrap64 ((l0.length : Int) - t427)) < t426) = false := decide_eq_false c5; clear c5
  by_cases c7 : 0 ≤ t427
  rotate_left
  ·
   rw [if_neg c7] at H
   exact absurd H (by simp)
  rw [if_pos c7] at H
  have c7b0 := eq_true c7; have c7b1 : decide (0 ≤ t427) = true := decide_eq_true c7; clear c7
  by_cases c8 : t427 ≤ (wrap64 (t427 + t426))
  rotate_left
  ·
   rw [if_neg c8] at H
   exact absurd H (by simp)
  rw [if_pos c8] at H
  have c8b0 := eq_true c8; have c8b1 : decide (t427 ≤ (wrap64 (t427 + t426))) = true := decide_eq_true c8
  by_cases c9 : (wrap64 (t427 + t426)) ≤ (l0.length : Int)
  rotate_left
  ·
   rw [if_neg c9] at H
   exact absurd H (by simp)
  rw [if_pos c9] at H
  have c9b0 := eq_true c9; have c9b1 : decide ((wrap64 (t427 + t426)) ≤ (l0.length : Int)) = true := decide_eq_true c9
  simp only [Option.some.injEq, Prod.mk.injEq] at H
  obtain ⟨rfl, rfl, rfl⟩ := H
  go_enter Tryz.func73, Tryz.ntmps73
  go_wp2_with (first | ((with_reducible refine gate_callee (f := 135) rfl ?_); refine gB (some 13) Tryz.func135 #[.slice A0 l0.length c0, .int .i64 a1] ?_; (with_reducible refine (impl_GetNum.calls k _ _ l0 a1 t426 t427 true _ ?side1 ?side2 A3.out).mono ?_); (case side1 => exact cI HR0.out); (case side2 => exact HC0.out); rintro e w10 ⟨rfl, hb⟩; refine ⟨_, rfl, ?_⟩; replace HB := bs HB hb; (try clear hb); (try clear hb2); (try clear hk); (try clear hi); obtain ⟨i011, hi011, _, hsz11, _⟩ := info_parts info5; obtain ⟨A11, hcut11, hA11, hC11⟩ := print_mid_of (P := Tryz.prog) (Value.int .u8) 0 24 5 .i64 .i64 Tryz.underlying24 hi011 hsz11 A0 c0 l0 t427 (wrap64 (t427 + t426)) (of_decide_eq_true y0_16) y0_12 (of_decide_eq_true y0_16) HC0.out; have HR429 := Aside0.mk (Kd.C_of_reads (h1 := fun _ => rfl) (hA11 _ (Kd.reads_of_C HR0.out))); have HC429 := Aside0.mk hC11; clear hA11 hC11 hi011 hsz11; have hcv12 := Kd.C_string (P := Tryz.prog) (A := A11) (c := (c0 - t427.toNat)) Tryz.underlying24 Tryz.underlying5 Tryz.underlying9 (Kd.C_below HR429.out HB.out); rw [show (List.drop t427.toNat (List.take (wrap64 (t427 + t426)).toNat l0)).length = (wrap64 (t427 + t426)).toNat - t427.toNat from (by have h_ : (wrap64 (t427 + t426)) ≤ (l0.length : Int) := of_decide_eq_true (by first | (with_reducible assumption) | assumption); rw [List.length_drop, List.length_take, Nat.min_eq_left (by omega)])] at hcv12))
  go_ret3
  exact ⟨y0_11, bI HB.out⟩
 replace c4 := Bool.eq_false_iff.mpr c4; subst c4
 rw [if_neg (show ¬ (false = true) by decide)] at H
 simp only [Option.some.injEq, Prod.mk.injEq] at H
 obtain ⟨rfl, rfl, rfl⟩ := H
 go_enter Tryz.func73, Tryz.ntmps73
 go_wp2_with (first | ((with_reducible refine gate_callee (f := 135) rfl ?_); refine gB (some 13) Tryz.func135 #[.slice A0 l0.length c0, .int .i64 a1] ?_; (with_reducible refine (impl_GetNum.calls k _ _ l0 a1 t426 t427 false _ ?side1 ?side2 A3.out).mono ?_); (case side1 => exact cI HR0.out); (case side2 => exact HC0.out); rintro e w13 ⟨rfl, hb⟩; refine ⟨_, rfl, ?_⟩; replace HB := bs HB hb; (try clear hb); (try clear hb2); (try clear hk); (try clear hi)))
 go_ret3
 exact ⟨y0_11, bI HB.out⟩

/-! ### impl_reader_text: function 125 -/
def impl_reader_text.f (k : Nat) (s0_0 : List Int) (s0_1 : Int) (s0_2 : Bool) : Option (ByteArray × Int × Bool) := (impl_GetText.f k s0_0 s0_1).bind fun bt430 => (if s0_2 = true then (some ((⟨#[]⟩ : ByteArray), s0_1, true)) else (if bt430.2.2 = true then (some (bt430.1, bt430.2.1, s0_2)) else (some ((⟨#[]⟩ : ByteArray), s0_1, true))))
theorem impl_reader_text.mono : ∀ a0 a1 a2 k, LeO (impl_reader_text.f k a0 a1 a2) (impl_reader_text.f (k + 1) a0 a1 a2) := by
 intro a0 a1 a2 k
 unfold impl_reader_text.f
 repeat' first | (with_reducible exact impl_GetText.mono _ _ _) | (with_reducible exact LeO.refl _) | (with_reducible exact LeO.none _) | (with_reducible refine LeO.ite ?_ ?_) | (with_reducible refine LeO.bind ?_ (fun _ => ?_))
def impl_reader_text.T1 : Bool × List (List Nat × List Nat) := (true, [([], []), ([0], [0]), ([1], [1]), ([2], [2]), ([], []), ([4], [4]), ([5], [5]), ([6], [6]), ([3, 7], [3, 7]), ([8], [8]), ([9], [9]), ([9], [9]), ([9], [9]), ([10, 8, 0, 1, 2, 3, 4, 5, 6, 7, 8, 9, 10], [10]), ([11, 13, 0, 1, 2, 3, 4, 5, 6, 7, 8, 9, 10, 11, 13], [11]), ([12, 14, 0, 1, 2, 3, 4, 5, 6, 7, 8, 9, 10, 11, 12, 13, 14], [12])])
def impl_reader_text.B1 : List Nat := [0, 1, 3, 7, 0, 16, 48, 112, 255, 511, 1023, 1023, 1023, 2047, 12287, 32767]
theorem impl_reader_text.tab1 : rtab .any (opsOf Tryz.f125 1) = impl_reader_text.T1 := by kernel_rfl
theorem impl_reader_text.bits1 : waitsOk impl_reader_text.T1.2 impl_reader_text.B1 = true := by kernel_rfl
set_option maxHeartbeats 8000000 in
set_option maxRecDepth 100000 in
theorem impl_reader_text.calls (k : Nat) (g : Nat) (s0_0 : List Int) (s0_1 : Int) (s0_2 : Bool) (r1 : ByteArray) (r2 : Int) (r3 : Bool) (w0 w : World) (hI : IsS134 w0 w g s0_0 s0_1 s0_2) (hB : Below w0.heap.size w0 w) (h : impl_reader_text.f k s0_0 s0_1 s0_2 = some (r1, r2, r3)) :
  Calls Tryz.prog 125 #[.pointer (some ⟨g, 0, none⟩)] w fun e w' => e = .returned (.string r1) ∧ IsS134 w0 w' g s0_0 r2 r3 ∧ Below w0.heap.size w0 w' ∧ KeepBut w w' g none := by
 have HI0 := Aside0.mk hI; have HK := Aside0.mk (KeepBut.refl w g none); have HL := Aside0.mk hB.size; clear hI; have HW0 := Aside0.mk hB.size; have HB := Aside0.mk hB; clear hB
 have H := h; unfold impl_reader_text.f at H
 clear h; obtain ⟨⟨t430, t431, t432⟩, A2, H⟩ := oB H; (try dsimp only at H); have i0_ := iB134 HI0; have i1_ : LB w0 w := ⟨HB.out⟩; obtain ⟨AS3_0, cS3_0, bk3, HG3, HS3_0, HL3_0⟩ := oS134 HI0
 go_enter Tryz.func125, Tryz.ntmps125
 have H' := Aside0.mk H; clear H
 try go_wp2
 refine sB [] impl_reader_text.tab1 impl_reader_text.bits1 ?_; intro w4 _ HT_ HW_
 refine pA 0 (some 7) (bz 16 1) HT_ ?_
 refine pA 1 (some 8) (bz 16 3) HT_ ?_
 refine pA 2 (some 9) (bz 16 7) HT_ ?_
 refine tB 3 (some 10) (bz 16 15) HT_ HW_ ?_
 refine pA 4 (some 11) (bz 16 31) HT_ ?_
 refine pA 5 (some 12) (bz 16 63) HT_ ?_
 refine pA 6 (some 13) (bz 16 127) HT_ ?_
 refine tB 7 (some 14) (bz 16 255) HT_ HW_ ?_
 refine o1 8 (some 15) (bz 16 511) HT_ rfl (kC Tryz.func73 (impl_GetText.calls (hr0 := pC HS3_0) (hc0 := HL3_0.out) (w := _) (h := A2.out)) ?_); intro w5 _
 refine nA (some 15) ?_
 refine pA 9 (some 6) (bz 16 1023) HT_ ?_
 refine pA 10 (some 16) (bz 16 2047) HT_ ?_
 refine pA 11 (some 17) (bz 16 4095) HT_ ?_
 refine pA 12 (some 18) (bz 16 0x1fff) HT_ ?_
 refine pA 13 (some 3) (bz 16 0x3fff) HT_ ?_
 refine pA 14 (some 4) (bz 16 0x7fff) HT_ ?_
 refine pA 15 (some 5) (bz 16 0xffff) HT_ ?_
 refine done_ (done_of HT_.out (by kernel_rfl)) ?_
 go_upto_region 2 with fail
 have H := H'.out; clear H'
 by_cases c6 : s0_2 = true
 ·
  subst c6
  rw [if_pos rfl] at H
  have H' := Aside0.mk H; clear H
  go_upto_if 26 with fail
  have H := H'.out; clear H'
  simp only [Option.some.injEq, Prod.mk.injEq] at H
  obtain ⟨rfl, rfl, rfl⟩ := H
  go_wp2
  go_ret
  exact ⟨y0_17, (nS134 xB HS3_0 HL3_0), UpW.out, UpB.out⟩
 replace c6 := Bool.eq_false_iff.mpr c6; subst c6
 rw [if_neg (show ¬ (false = true) by decide)] at H
 have H' := Aside0.mk H; clear H
 go_upto_if 26 with fail
 have H := H'.out; clear H'
 by_cases c7 : t432 = true
 ·
  subst c7
  rw [if_pos rfl] at H
  simp only [Option.some.injEq, Prod.mk.injEq] at H
  obtain ⟨rfl, rfl, rfl⟩ := H
  go_wp2
  go_ret
  exact ⟨y0_17, (nS134 xB HS3_0 HL3_0), UpW.out, UpB.out⟩
 replace c7 := Bool.eq_false_iff.mpr c7; subst c7
 rw [if_neg (show ¬ (false = true) by decide)] at H
 simp only [Option.some.injEq, Prod.mk.injEq] at H
 obtain ⟨rfl, rfl, rfl⟩ := H
 go_wp2
 go_ret
 exact ⟨y0_17, (nS134 xB HS3_0 HL3_0), UpW.out, UpB.out⟩

/-! ### impl_reader_nums: function 159 -/
def impl_reader_nums.l0 : Nat → List Int → Int → Int → List Int → Int → Bool → Option (List Int × Int × Bool)
 | 0, _, _, _, _, _, _ => none
 | k + 1, x3, x4, x5, x1000, x1001, x1002 => if x5 < x4 then (if x1002 = true then (some (x3, x1001, x1002)) else ((impl_reader_num.f k x1000 x1001 x1002).bind fun bt436 => (if x3.length < 17592186044416 then (impl_reader_nums.l0 k (x3 ++ [bt436.1]) x4 (wrap64 (x5 + 1)) x1000 bt436.2.1 bt436.2.2) else (none)))) else (some (x3, x1001, x1002))
def impl_reader_nums.f (k : Nat) (s0_0 : List Int) (s0_1 : Int) (s0_2 : Bool) : Option (List Int × Int × Bool) := (impl_reader_num.f k s0_0 s0_1 s0_2).bind fun bt433 => (impl_reader_nums.l0 k ([] : List Int) bt433.1 0 s0_0 bt433.2.1 bt433.2.2)
theorem impl_reader_nums.mono_l : ∀ k, (∀ y0 y1 y2 y3 y4 y5, LeO (impl_reader_nums.l0 k y0 y1 y2 y3 y4 y5) (impl_reader_nums.l0 (k + 1) y0 y1 y2 y3 y4 y5))
 | 0 => fun _ _ _ _ _ _ r h => by simp [impl_reader_nums.l0] at h
 | k + 1 => by
  have ih0 := impl_reader_nums.mono_l k
  intro y0 y1 y2 y3 y4 y5
  unfold impl_reader_nums.l0
  repeat' first | (with_reducible exact ih0 _ _ _ _ _ _) | (with_reducible exact impl_reader_num.mono _ _ _ _) | (with_reducible exact LeO.refl _) | (with_reducible exact LeO.none _) | (with_reducible refine LeO.ite ?_ ?_) | (with_reducible refine LeO.bind ?_ (fun _ => ?_))
theorem impl_reader_nums.mono : ∀ a0 a1 a2 k, LeO (impl_reader_nums.f k a0 a1 a2) (impl_reader_nums.f (k + 1) a0 a1 a2) := by
 intro a0 a1 a2 k
 have ih0 := impl_reader_nums.mono_l k
 unfold impl_reader_nums.f
 repeat' first | (with_reducible exact ih0 _ _ _ _ _ _) | (with_reducible exact impl_reader_num.mono _ _ _ _) | (with_reducible exact LeO.refl _) | (with_reducible exact LeO.none _) | (with_reducible refine LeO.ite ?_ ?_) | (with_reducible refine LeO.bind ?_ (fun _ => ?_))
set_option maxHeartbeats 8000000 in
set_option maxRecDepth 100000 in
theorem impl_reader_nums.calls (k : Nat) (g : Nat) (s0_0 : List Int) (s0_1 : Int) (s0_2 : Bool) (r1 : List Int) (r2 : Int) (r3 : Bool) (w0 w : World) (hI : IsS134 w0 w g s0_0 s0_1 s0_2) (hB : Below w0.heap.size w0 w) (h : impl_reader_nums.f k s0_0 s0_1 s0_2 = some (r1, r2, r3)) :
  Calls Tryz.prog 159 #[.pointer (some ⟨g, 0, none⟩)] w fun e w' => ∃ v0_ : Value, e = .returned (v0_) ∧ Kd.R (Kd.int .i64) 3 w' w.heap.size (fun _ => True) v0_ r1 ∧ IsS134 w0 w' g s0_0 r2 r3 ∧ Below w0.heap.size w0 w' ∧ KeepBut w w' g none := by
 have HI0 := Aside0.mk hI; have HK := Aside0.mk (KeepBut.refl w g none); have HL := Aside0.mk hB.size; clear hI; have HW0 := Aside0.mk hB.size; have HB := Aside0.mk hB; clear hB
 have H := h; unfold impl_reader_nums.f at H
 clear h; obtain ⟨⟨t433, t434, t435⟩, A2, H⟩ := oB H; (try dsimp only at H); have i0_ := iB134 HI0; have i1_ : LB w0 w := ⟨HB.out⟩; obtain ⟨AS3_0, cS3_0, bk3, HG3, HS3_0, HL3_0⟩ := oS134 HI0
 go_enter Tryz.func159, Tryz.ntmps159
 have H' := Aside0.mk H; clear H
 go_wp2_with (first | ((with_reducible refine gate_callee (f := 123) rfl ?_); refine gK (some 7) Tryz.func123 (impl_reader_num.calls (hI := (nS134 xB HS3_0 HL3_0)) (hB := UpW.out) (w := _) (h := A2.out)) ?_; intro w4 _ _ _ HI5; obtain ⟨AS6_0, cS6_0, bk6, HG6, HS6_0, HL6_0⟩ := oS134 HI5; clear bk3))
 refine wC ?_; intro w7 _
 go_loopg [3, 5] k (fun kq v3 v5 w' => ∃ (x3_1 : List Int) (x5_1 : Int) (x1001_1 : Int) (x1002_1 : Bool) (Ao3_1 : Option Addr) (co3_1 : Nat), v3 = .slice Ao3_1 x3_1.length co3_1 ∧ v5 = .int .i64 x5_1 ∧ Aside0 (impl_reader_nums.l0 kq x3_1 t433 x5_1 s0_0 x1001_1 x1002_1 = some (r1, r2, r3)) ∧ Aside0 (kq ≤ k) ∧ Aside0 (Kd.R (Kd.int .i64) 3 w' w7.heap.size (iv w7 w') (.slice Ao3_1 x3_1.length co3_1) x3_1) ∧ StB g w' 134 ∧ Aside0 (IsS134 w0 w' g s0_0 x1001_1 x1002_1) ∧ KT w7 [g] w7 _ (Kd.int .i64) 3 w' ∧ LB w0 w' ∧ KS w g w')
 case atStart => exact ⟨(([] : List Int)), (0), (t434), (t435), (none), (0), y0_17, y0_17, H', ⟨Nat.le_refl _⟩, ⟨Kd.R_nil _ _ _ _ _⟩, iB134 ⟨(nS134 xB HS6_0 HL6_0)⟩, ⟨(nS134 xB HS6_0 HL6_0)⟩, ⟨UpT.out⟩, ⟨UpW.out⟩, ⟨UpB.out⟩⟩
 case round =>
  clear H'; obtain ⟨x3_1, x5_1, x1001_1, x1002_1, Ao3_1, co3_1, rfl, rfl, HA, HK1, HO_3, _, HI8, _, _, _⟩ := hrel; cases gk with
  | zero => exact absurd HA.out (by simp [impl_reader_nums.l0])
  | succ k1 =>
   have H := HA.out; clear HA
   simp only [impl_reader_nums.l0] at H
   obtain ⟨AS9_0, cS9_0, bk9, HG9, HS9_0, HL9_0⟩ := oS134 HI8; clear bk6
   by_cases c10 : x5_1 < t433
   ·
    rw [if_pos c10] at H
    have c10b0 : decide (x5_1 < t433) = true := decide_eq_true c10; clear c10; have H' := Aside0.mk H; clear H
    go_upto_if 17 with fail
    have H := H'.out; clear H'
    by_cases c11 : x1002_1 = true
    ·
     subst c11
     rw [if_pos rfl] at H
     simp only [Option.some.injEq, Prod.mk.injEq] at H
     obtain ⟨rfl, rfl, rfl⟩ := H
     go_wp2
     go_ret
     exact ⟨_, y0_17, rR HO_3, (nS134 xB HS9_0 HL9_0), UpW.out, UpB.out⟩
    replace c11 := Bool.eq_false_iff.mpr c11; subst c11
    rw [if_neg (show ¬ (false = true) by decide)] at H
    obtain ⟨⟨t436, t437, t438⟩, A12, H⟩ := oB H; (try dsimp only at H)
    by_cases c13 : x3_1.length < 17592186044416
    rotate_left
    ·
     rw [if_neg c13] at H
     exact absurd H (by simp)
    rw [if_pos c13] at H
    have LMc13 := Aside0.mk c13; clear c13; obtain ⟨y439, hy439⟩ : ∃ y_ : List Int, y_ = (x3_1 ++ [t436]) := ⟨_, rfl⟩
    replace H : (impl_reader_nums.l0 k1 y439 t433 (wrap64 (x5_1 + 1)) s0_0 t437 t438) = some (r1, r2, r3) := by first | (rw [hy439]; with_reducible exact H) | (have H2_ := (Option.bind_some _ _).symm.trans H; rw [hy439]; with_reducible exact H2_) | (have H2_ := (Option.bind_some _ _).symm.trans H; with_reducible exact H2_) | with_reducible exact H | (rw [hy439]; exact H) | exact H
    have Ny439 := Aside0.mk hy439; clear hy439; have H' := Aside0.mk H; clear H
    go_wp2_with (first | ((with_reducible refine gate_callee (f := 123) rfl ?_); refine gK (some 22) Tryz.func123 (impl_reader_num.calls (hI := (nS134 xB HS9_0 HL9_0)) (hB := UpW.out) (w := _) (h := A12.out)) ?_; intro w14 _ _ _ HI15; obtain ⟨AS16_0, cS16_0, bk16, HG16, HS16_0, HL16_0⟩ := oS134 HI15; clear bk9) | ((with_reducible refine gate_builtin (b := .append) (xs := #[.tmp 20, .tmp 23]) rfl ?_); at_builtin; refine gA (Kd.int .i64) (.tmp 20) (.tmp 23) 25 3 (.int .i64 0) 8 t436 [.int .i64 t436] w7 Ny439 HO_3 rfl (by have := LMc13.out; omega) ?_ (ht := Tryz.underlying25) (hinfo := info3); intro Ao440 co440 w17 _ _ HO441))
    go_roundg k1
    case measure => have := HK1.out; omega
    case rel => exact ⟨(y439), (wrap64 (x5_1 + 1)), (t437), (t438), (Ao440), (co440), y0_17, y0_17, H', ⟨y0_20⟩, ⟨rJ HO441⟩, iB134 ⟨(nS134 xB HS16_0 HL16_0)⟩, ⟨(nS134 xB HS16_0 HL16_0)⟩, ⟨UpT.out⟩, ⟨UpW.out⟩, ⟨UpB.out⟩⟩
   rw [if_neg c10] at H
   have c10b0 : decide (x5_1 < t433) = false := decide_eq_false c10; clear c10
   simp only [Option.some.injEq, Prod.mk.injEq] at H
   obtain ⟨rfl, rfl, rfl⟩ := H
   go_wp2
   go_ret
   exact ⟨_, y0_17, rR HO_3, (nS134 xB HS9_0 HL9_0), UpW.out, UpB.out⟩

/-! ### impl_reader_qc: function 124 -/
def impl_reader_qc.f (k : Nat) (s0_0 : List Int) (s0_1 : Int) (s0_2 : Bool) : Option (Int × ByteArray × List Int × Int × Bool) := (impl_reader_num.f k s0_0 s0_1 s0_2).bind fun bt443 => ((impl_reader_text.f k s0_0 bt443.2.1 bt443.2.2).bind fun bt447 => ((impl_reader_nums.f k s0_0 bt447.2.1 bt447.2.2).bind fun bt450 => (some (bt443.1, bt447.1, bt450.1, bt450.2.1, bt450.2.2))))
theorem impl_reader_qc.mono : ∀ a0 a1 a2 k, LeO (impl_reader_qc.f k a0 a1 a2) (impl_reader_qc.f (k + 1) a0 a1 a2) := by
 intro a0 a1 a2 k
 unfold impl_reader_qc.f
 repeat' first | (with_reducible exact impl_reader_num.mono _ _ _ _) | (with_reducible exact impl_reader_nums.mono _ _ _ _) | (with_reducible exact impl_reader_text.mono _ _ _ _) | (with_reducible exact LeO.refl _) | (with_reducible exact LeO.none _) | (with_reducible refine LeO.ite ?_ ?_) | (with_reducible refine LeO.bind ?_ (fun _ => ?_))
set_option maxHeartbeats 8000000 in
set_option maxRecDepth 100000 in
theorem impl_reader_qc.calls (k : Nat) (g : Nat) (s0_0 : List Int) (s0_1 : Int) (s0_2 : Bool) (r1 : Int) (r2 : ByteArray) (r3 : List Int) (r4 : Int) (r5 : Bool) (w0 w : World) (hI : IsS134 w0 w g s0_0 s0_1 s0_2) (hB : Below w0.heap.size w0 w) (h : impl_reader_qc.f k s0_0 s0_1 s0_2 = some (r1, r2, r3, r4, r5)) :
  Calls Tryz.prog 124 #[.pointer (some ⟨g, 0, none⟩)] w fun e w' => ∃ v2_ : Value, e = .returned (.agg #[.int .i64 r1, .string r2, v2_]) ∧ Kd.R (Kd.int .i64) 3 w' w.heap.size (fun _ => True) v2_ r3 ∧ IsS134 w0 w' g s0_0 r4 r5 ∧ Below w0.heap.size w0 w' ∧ KeepBut w w' g none := by
 have hu27 := Tryz.underlying27; have HI0 := Aside0.mk hI; have HK := Aside0.mk (KeepBut.refl w g none); have HL := Aside0.mk hB.size; clear hI; have HW0 := Aside0.mk hB.size; have HB := Aside0.mk hB; clear hB
 have H := h; unfold impl_reader_qc.f at H
 clear h; obtain ⟨⟨t443, t444, t445⟩, A2, H⟩ := oB H; (try dsimp only at H); obtain ⟨⟨t447, t448, t449⟩, A3, H⟩ := oB H; (try dsimp only at H); obtain ⟨⟨t450, t453, t454⟩, A4, H⟩ := oB H; (try dsimp only at H)
 simp only [Option.some.injEq, Prod.mk.injEq] at H
 obtain ⟨rfl, rfl, rfl, rfl, rfl⟩ := H; have i0_ := iB134 HI0; have i1_ : LB w0 w := ⟨HB.out⟩
 go_enter Tryz.func124, Tryz.ntmps124
 go_wp2_with (first | ((with_reducible refine gd 2 ?_); refine bL 2 #[.int .i64 0, .string (⟨#[]⟩ : ByteArray), .slice none 0 0] 27 ?_; intro gb442 w5 _ _ _) | ((with_reducible refine gate_callee (f := 123) rfl ?_); refine gK (some 5) Tryz.func123 (impl_reader_num.calls (hI := iS134 HI0) (hB := UpW.out) (w := _) (h := A2.out)) ?_; intro w6 _ _ _ HI7) | ((with_reducible refine gd 3 ?_); refine bL 3 #[.int .i64 0, .string (⟨#[]⟩ : ByteArray), .slice none 0 0] 27 ?_; intro gb446 w8 _ _ _) | ((with_reducible refine gate_callee (f := 125) rfl ?_); refine gK (some 8) Tryz.func125 (impl_reader_text.calls (hI := iS134 HI7) (hB := UpW.out) (w := _) (h := A3.out)) ?_; intro w9 _ _ _ HI10) | ((with_reducible refine gate_callee (f := 159) rfl ?_); refine gK1 (some 11) Tryz.func159 (impl_reader_nums.calls (hI := iS134 HI10) (hB := UpW.out) (w := _) (h := A4.out)) ?_; intro Ao451 co451 w11 _ _ _ HI12 HO452))
 refine bodyPost_ret (results_cell_row rfl _ _ gb442 27 #[.int .i64 t443, .string t447, .slice Ao451 t450.length co451] (0, 0) _ rfl xB Tryz.underlying27 rfl (by kernel_rfl)) rfl ?_
 exact ⟨_, y0_17, rR HO452, iS134 HI12, UpW.out, UpB.out⟩

end Go.Proofs.YtdmjhgogljhfkaaGreatDoor.PFnExactLastNote
