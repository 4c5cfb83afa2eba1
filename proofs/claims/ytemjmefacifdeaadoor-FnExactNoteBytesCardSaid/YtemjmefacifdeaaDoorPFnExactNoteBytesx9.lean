-- By a program of this session, out of the translation (the print of the kit, with turns of its own). Lean checks it.
import Derived.Test.YtemjmefacifdeaaDoorPFnExactNoteBytesx0
import Derived.Test.YtemjmefacifdeaaDoorPFnExactNoteBytesx7
import Derived.Test.YtemjmefacifdeaaDoorPFnExactNoteBytesx8
namespace Go.Proofs.YtemjmefacifdeaaDoor.PFnExactNoteBytes
open Go.RowKit Go.Proofs.YtemjmefacifdeaaDoorW.PrintWords Go.Proofs.YtemjmefacifdeaaDoorW.PrintLast Go.Proofs.YtemjmefacifdeaaDoorW.PrintMore
attribute [local go_sem] max2_int min2_int max_two min_two max_three min_three max_four min_four   -- for this text's walks alone
set_option linter.unusedVariables false
set_option linter.unusedSimpArgs false

/-! ### impl_Steps: function 50 -/
mutual
def impl_Steps.j0 : Nat → List ByteArray → Bool → Option ((List (S68)) × Bool)
 | 0, _, _ => none
 | k + 1, x4, x29 => if x29 = true then (some (([] : List (S68)), false)) else (if 1 ≤ (x4.length : Int) then ((some (x4.drop 1 : List ByteArray)).bind fun y365 => (impl_Steps.l0 k ([] : List (S68)) 0 y365 (y365.length : Int) 0)) else (none))
def impl_Steps.l0 : Nat → List (S68) → Int → List ByteArray → Int → Int → Option ((List (S68)) × Bool)
 | 0, _, _, _, _, _ => none
 | k + 1, x5, x6, x31, x32, x33 => if x33 < x32 then (if 0 ≤ x33 then (if x33 < (x31.length : Int) then ((strings_Cut.f (rdOf ByteArray.empty x31 x33) (⟨#[124]⟩ : ByteArray)).bind fun bt370 => ((impl_Number.f k bt370.1).bind fun bt373 => ((impl_TxsOf.f k bt370.2.1).bind fun bt375 => (if bt370.2.2 = true then (if bt373.2 = true then (if bt375.2 = true then ((impl_within.f bt373.1 (wrap64 (x6 + 1)) 60).bind fun t379 => (if t379 = true then (if (bt375.1.length : Int) > 2 then (some (([] : List (S68)), false)) else (if x5.length < 4398046511104 then (impl_Steps.l0 k (x5 ++ [(⟨bt373.1, bt375.1⟩ : S68)]) bt373.1 x31 x32 (wrap64 (x33 + 1))) else (none))) else (some (([] : List (S68)), false)))) else (some (([] : List (S68)), false))) else (some (([] : List (S68)), false))) else (some (([] : List (S68)), false)))))) else (none)) else (none)) else (some (x5, true))
end
def impl_Steps.f (k : Nat) (a0 : ByteArray) : Option ((List (S68)) × Bool) := if a0.toList = ([] : List UInt8) then (some (([] : List (S68)), true)) else ((impl_Split.f a0 47).bind fun t361 => (if 0 < (t361.length : Int) then (if (rdOf ByteArray.empty t361 0).toList = ([] : List UInt8) then (impl_Steps.j0 k t361 (decide ((wrap64 ((t361.length : Int) - 1)) > 30))) else (impl_Steps.j0 k t361 true)) else (none)))
theorem impl_Steps.mono_l : ∀ k, (∀ y0 y1, LeO (impl_Steps.j0 k y0 y1) (impl_Steps.j0 (k + 1) y0 y1)) ∧ (∀ y0 y1 y2 y3 y4, LeO (impl_Steps.l0 k y0 y1 y2 y3 y4) (impl_Steps.l0 (k + 1) y0 y1 y2 y3 y4))
 | 0 => ⟨fun _ _ r h => by simp [impl_Steps.j0] at h, fun _ _ _ _ _ r h => by simp [impl_Steps.l0] at h⟩
 | k + 1 => by
  obtain ⟨ih0, ih1⟩ := impl_Steps.mono_l k
  refine ⟨?_, ?_⟩
  ·
   intro y0 y1
   unfold impl_Steps.j0
   repeat' first | (with_reducible exact ih0 _ _) | (with_reducible exact ih1 _ _ _ _ _) | (with_reducible exact impl_Number.mono _ _) | (with_reducible exact impl_TxsOf.mono _ _) | (with_reducible exact LeO.refl _) | (with_reducible exact LeO.none _) | (with_reducible refine LeO.ite ?_ ?_) | (with_reducible refine LeO.bind ?_ (fun _ => ?_))
  intro y0 y1 y2 y3 y4
  unfold impl_Steps.l0
  repeat' first | (with_reducible exact ih0 _ _) | (with_reducible exact ih1 _ _ _ _ _) | (with_reducible exact impl_Number.mono _ _) | (with_reducible exact impl_TxsOf.mono _ _) | (with_reducible exact LeO.refl _) | (with_reducible exact LeO.none _) | (with_reducible refine LeO.ite ?_ ?_) | (with_reducible refine LeO.bind ?_ (fun _ => ?_))
theorem impl_Steps.mono : ∀ a0 k, LeO (impl_Steps.f k a0) (impl_Steps.f (k + 1) a0) := by
 intro a0 k
 obtain ⟨ih0, ih1⟩ := impl_Steps.mono_l k
 unfold impl_Steps.f
 repeat' first | (with_reducible exact ih0 _ _) | (with_reducible exact ih1 _ _ _ _ _) | (with_reducible exact impl_Number.mono _ _) | (with_reducible exact impl_TxsOf.mono _ _) | (with_reducible exact LeO.refl _) | (with_reducible exact LeO.none _) | (with_reducible refine LeO.ite ?_ ?_) | (with_reducible refine LeO.bind ?_ (fun _ => ?_))
set_option maxHeartbeats 8000000 in
set_option maxRecDepth 100000 in
theorem impl_Steps.calls (k : Nat) (a0 : ByteArray) (r1 : List (S68)) (r2 : Bool) (w : World) (h : impl_Steps.f k a0 = some (r1, r2)) (hG : Glob w := by exact gG HG HB) :
  Calls Tryd.prog 50 #[.string a0] w fun e w' => ∃ v0_ : Value, e = .returned (.tuple #[v0_, .bool r2]) ∧ Kd.S k68 68 w' w.heap.size (fun _ => True) v0_ r1 ∧ Below w.heap.size w w' := by
 have HG := Aside0.mk hG; clear hG; have hu68 := Tryd.underlying68; have HB := Aside0.mk (Below.refl w.heap.size w)
 have H : (if a0.toList = ([] : List UInt8) then (some (([] : List (S68)), true)) else ((impl_Split.f a0 47).bind fun t361 => (if 0 < (t361.length : Int) then (if (rdOf ByteArray.empty t361 0).toList = ([] : List UInt8) then (impl_Steps.j0 k t361 (decide ((wrap64 ((t361.length : Int) - 1)) > 30))) else (impl_Steps.j0 k t361 true)) else (none)))) = some (r1, r2) := h
 clear h
 by_cases c2 : a0.toList = ([] : List UInt8)
 ·
  rw [if_pos c2] at H
  have c2b0 : (a0.toList == ([] : List UInt8)) = true := beq_iff_eq.mpr c2; have c2b1 : (a0.toList != ([] : List UInt8)) = false := bne_eq_false_iff_eq.mpr c2; clear c2
  simp only [Option.some.injEq, Prod.mk.injEq] at H
  obtain ⟨rfl, rfl⟩ := H
  go_enter Tryd.func50, Tryd.ntmps50
  go_wp2
  go_ret2
  exact ⟨_, y0_7, y0_1, bI HB.out⟩
 rw [if_neg c2] at H
 have c2b0 : (a0.toList == ([] : List UInt8)) = false := beq_eq_false_iff_ne.mpr c2; have c2b1 : (a0.toList != ([] : List UInt8)) = true := bne_iff_ne.mpr c2; obtain ⟨t361, A30, H⟩ := Option.bind_eq_some_iff.mp H
 try dsimp only at H
 have A3 := Aside0.mk A30; clear A30; have HC4 := Aside0.mk H; clear H
 go_enter Tryd.func50, Tryd.ntmps50
 go_upto_region 4 with (first | ((with_reducible refine gate_callee (f := 57) rfl ?_); refine gB (some 19) Tryd.func57 #[.string a0, .int .u8 47] ?_; (with_reducible refine (impl_Split.calls a0 47 t361 _ A3.out).mono ?_); rintro e w5 ⟨v362, rfl, ho0, hb⟩; refine ⟨_, rfl, ?_⟩; have HO363 := Aside0.mk (Kd.R_lower ho0 (below_size (bI HB.out))); replace HB := bs HB hb; (try clear hb); (try clear ho0)))
 (try simp only [Act.put, List.setIfInBounds_toArray, List.set_cons_zero, List.set_cons_succ])
 go_cut [29] (fun v29 wc => ∃ (kq : Nat) (x29_3 : Bool), v29 = .bool x29_3 ∧ Aside0 (impl_Steps.j0 kq t361 x29_3 = some (r1, r2)) ∧ Aside0 (kq ≤ k) ∧ Aside0 (Kd.R Kd.string 9 wc w.heap.size (fun _ => True) v362 t361) ∧ Aside0 (Below w.heap.size w wc))
 case first =>
  have H := HC4.out; clear HC4
  by_cases c6 : 0 < (t361.length : Int)
  rotate_left
  ·
   rw [if_neg c6] at H
   exact absurd H (by simp)
  rw [if_pos c6] at H
  have c6b0 : decide (0 < (t361.length : Int)) = true := decide_eq_true c6
  have c6b1 : decide (0 < t361.length) = true := decide_eq_true (by omega)
  clear c6
  (first | rw [c6b0] | (simp only [i64_w, i32_w]; rw [c6b0]) | skip)
  by_cases c7 : (rdOf ByteArray.empty t361 0).toList = ([] : List UInt8)
  ·
   rw [if_pos c7] at H
   have c7b0 : ((rdOf ByteArray.empty t361 0).toList == ([] : List UInt8)) = true := beq_iff_eq.mpr c7; have c7b1 : ((rdOf ByteArray.empty t361 0).toList != ([] : List UInt8)) = false := bne_eq_false_iff_eq.mpr c7; clear c7; have H' := Aside0.mk H; clear H; obtain ⟨Ao8, co8, eo8⟩ := Kd.R_slice HO363.out; subst eo8
   have p364 : 0 ≤ (0 : Int) := (by omega)
   have q364 : 0 < (t361.length : Int) := of_decide_eq_true y0_9; obtain ⟨ad364, e364, hx364_0⟩ := Kd.at_string (Kd.R_reads' HO363.out).2.2 0 p364 q364; cases e364
   have qi364 : (0 < t361.length) = True := eq_true (by omega)
   (try rw [show ((0 : Int)).toNat = 0 from rfl] at hx364_0)
   (try rw [Addr.add_zero'] at hx364_0)
   replace p364 := eq_true p364; replace q364 := eq_true q364
   go_wp2
   go_meet
   case rel => exact ⟨_, (decide ((wrap64 ((t361.length : Int) - 1)) > 30)), y0_10, H', ⟨y0_11⟩, ⟨by (with_reducible repeat (first | apply Kd.R_alloc | apply Kd.R_drewN | apply Kd.R_drew)); exact HO363.out⟩, ⟨bI HB.out⟩⟩
  rw [if_neg c7] at H
  have c7b0 : ((rdOf ByteArray.empty t361 0).toList == ([] : List UInt8)) = false := beq_eq_false_iff_ne.mpr c7; have c7b1 : ((rdOf ByteArray.empty t361 0).toList != ([] : List UInt8)) = true := bne_iff_ne.mpr c7; have H' := Aside0.mk H; clear H; obtain ⟨Ao9, co9, eo9⟩ := Kd.R_slice HO363.out; subst eo9
  have p364 : 0 ≤ (0 : Int) := (by omega)
  have q364 : 0 < (t361.length : Int) := of_decide_eq_true y0_9; obtain ⟨ad364, e364, hx364_0⟩ := Kd.at_string (Kd.R_reads' HO363.out).2.2 0 p364 q364; cases e364
  have qi364 : (0 < t361.length) = True := eq_true (by omega)
  (try rw [show ((0 : Int)).toNat = 0 from rfl] at hx364_0)
  (try rw [Addr.add_zero'] at hx364_0)
  replace p364 := eq_true p364; replace q364 := eq_true q364
  go_wp2
  go_meet
  case rel => exact ⟨_, (true), y0_10, H', ⟨y0_11⟩, ⟨by (with_reducible repeat (first | apply Kd.R_alloc | apply Kd.R_drewN | apply Kd.R_drew)); exact HO363.out⟩, ⟨bI HB.out⟩⟩
 case rest =>
  clear HC4
  try clear c2
  try clear c2b0
  try clear c2b1
  try clear p2
  try clear p3
  try clear q3
  try clear hx3
  try clear qi3
  try clear c5
  try clear c6
  try clear c6b0
  try clear c6b1
  try clear p6
  try clear c7
  try clear c7b0
  try clear c7b1
  try clear hx364_0
  try clear p364
  try clear q364
  obtain ⟨kq, x29_3, rfl, HA, HJ3, HO_4, HB⟩ := hcut; cases kq with
  | zero => exact absurd HA.out (by simp [impl_Steps.j0])
  | succ kj3 =>
   have H := HA.out; clear HA
   simp only [impl_Steps.j0] at H
   by_cases c10 : x29_3 = true
   ·
    subst c10
    rw [if_pos rfl] at H
    simp only [Option.some.injEq, Prod.mk.injEq] at H
    obtain ⟨rfl, rfl⟩ := H
    go_wp2
    go_ret2
    exact ⟨_, y0_7, y0_1, bI HB.out⟩
   replace c10 := Bool.eq_false_iff.mpr c10; subst c10
   rw [if_neg (show ¬ (false = true) by decide)] at H
   by_cases c11 : 1 ≤ (t361.length : Int)
   ·
    rw [if_pos c11] at H
    have c11b0 := eq_true c11; have c11b1 : decide (1 ≤ (t361.length : Int)) = true := decide_eq_true c11; clear c11; obtain ⟨y365, hy365⟩ : ∃ y_ : List ByteArray, y_ = (t361.drop 1) := ⟨_, rfl⟩
    replace H : (impl_Steps.l0 kj3 ([] : List (S68)) 0 y365 (y365.length : Int) 0) = some (r1, r2) := by first | (rw [hy365]; with_reducible exact H) | (have H2_ := (Option.bind_some _ _).symm.trans H; rw [hy365]; with_reducible exact H2_) | (have H2_ := (Option.bind_some _ _).symm.trans H; with_reducible exact H2_) | with_reducible exact H | (rw [hy365]; exact H) | exact H
    have Ny365 := Aside0.mk hy365; clear hy365; have H' := Aside0.mk H; clear H; obtain ⟨Ao13, co13, eo13⟩ := Kd.R_slice HO_4.out; subst eo13; have q12 : (1 : Int) ≤ ((t361.length : Int) : Int) := of_decide_eq_true y0_9; obtain ⟨i012, hi012, _, hsz12, _⟩ := info_parts info9; have hroom12 : t361.length ≤ co13 := (Kd.R_reads' HO_4.out).2.1; have hC12 : Kd.C Kd.string _ Ao13 t361.length t361 := (Kd.R_reads' HO_4.out).2.2
    have hcut12 := cut_from (P := Tryd.prog) 69 9 .i64 Tryd.underlying69 hi012 1 hsz12 Ao13 t361.length co13 1 (by omega) q12
    have hr12 := Kd.C_drop (m := (1 : Int).toNat) (c := co13) hC12 (by omega) hroom12
    obtain ⟨A12, hA12⟩ : ∃ A1, A1 = (if co13 = (1 : Int).toNat then Ao13 else (Ao13 : Option Addr).map (·.add ((1 : Int).toNat * 1))) := ⟨_, rfl⟩
    obtain ⟨c12, hc12⟩ : ∃ c1, c1 = co13 - (1 : Int).toNat := ⟨_, rfl⟩
    have hy12 : y365.length = t361.length - (1 : Int).toNat := (by rw [Ny365.out, List.length_drop] <;> omega)
    rw [show (t361).drop (1 : Int).toNat = y365 from Ny365.out.symm] at hr12
    replace hr12 : Kd.C Kd.string _ A12 y365.length y365 := (by rw [hA12]; exact hr12)
    rw [← hy12, ← hA12, ← hc12] at hcut12
    have HR368 := Aside0.mk hr12
    have HC368 := Aside0.mk (show y365.length ≤ c12 from by rw [hy12, hc12]; exact Nat.sub_le_sub_right hroom12 _)
    clear hr12 hC12 hroom12 hi012 hsz12 hc12; have KY12 := Aside0.mk hy12; have KA12 := Aside0.mk hA12; clear hy12 hA12
    have KL12 := Aside0.mk (show 1 ≤ t361.length from by omega)
    replace q12 := eq_true q12
    go_wp2
    have HB0 := HB; replace HG := Aside0.mk (HG.out.below HB.out); replace HB := Aside0.mk (Below.refl wc.heap.size wc)
    go_loopg [5, 6, 33] kj3 (fun kq v5 v6 v33 w' => ∃ (x5_2 : List (S68)) (x6_2 : Int) (x33_2 : Int), v6 = .int .i64 x6_2 ∧ v33 = .int .i64 x33_2 ∧ Aside0 (impl_Steps.l0 kq x5_2 x6_2 y365 (y365.length : Int) x33_2 = some (r1, r2)) ∧ Aside0 (kq ≤ kj3) ∧ Aside0 (Kd.S k68 68 w' wc.heap.size (fun _ => True) v5 x5_2) ∧ Aside0 (Below wc.heap.size wc w'))
    case atStart => exact ⟨(([] : List (S68))), (0), (0), y0_10, y0_10, H', ⟨Nat.le_refl _⟩, ⟨y0_1⟩, ⟨bI HB.out⟩⟩
    case round =>
     clear H'
     try clear c1
     try clear q1
     try clear c2
     try clear c2b0
     try clear c2b1
     try clear p2
     try clear p3
     try clear q3
     try clear hx3
     try clear qi3
     try clear c5
     try clear c6
     try clear c6b0
     try clear c6b1
     try clear p6
     try clear c7
     try clear c7b0
     try clear c7b1
     try clear c10
     try clear c11
     try clear c11b0
     try clear c11b1
     try clear c12
     try clear q12
     try clear hx364_0
     try clear p2
     try clear p3
     try clear p364
     try clear p6
     try clear q12
     try clear q3
     try clear q364
     obtain ⟨x5_2, x6_2, x33_2, rfl, rfl, HA, HK2, HO_5, HB⟩ := hrel; cases gk with
     | zero => exact absurd HA.out (by simp [impl_Steps.l0])
     | succ k2 =>
      have H := HA.out; clear HA
      simp only [impl_Steps.l0] at H
      by_cases c14 : x33_2 < (y365.length : Int)
      ·
       rw [if_pos c14] at H
       have c14b0 : decide (x33_2 < (y365.length : Int)) = true := decide_eq_true c14; clear c14
       by_cases c15 : 0 ≤ x33_2
       rotate_left
       ·
        rw [if_neg c15] at H
        exact absurd H (by simp)
       rw [if_pos c15] at H
       have c15b0 : decide (0 ≤ x33_2) = true := decide_eq_true c15; clear c15
       by_cases c16 : x33_2 < (y365.length : Int)
       rotate_left
       ·
        rw [if_neg c16] at H
        exact absurd H (by simp)
       rw [if_pos c16] at H
       have c16b0 : decide (x33_2 < (y365.length : Int)) = true := decide_eq_true c16; clear c16; obtain ⟨⟨t370, t371, t372⟩, A170, H⟩ := Option.bind_eq_some_iff.mp H
       try dsimp only at H
       have A17 := Aside0.mk A170; clear A170; obtain ⟨⟨t373, t374⟩, A180, H⟩ := Option.bind_eq_some_iff.mp H
       try dsimp only at H
       have A18 := Aside0.mk A180; clear A180; obtain ⟨⟨t375, t376⟩, A190, H⟩ := Option.bind_eq_some_iff.mp H
       try dsimp only at H
       have A19 := Aside0.mk A190; clear A190
       by_cases c20 : t372 = true
       ·
        subst c20
        rw [if_pos rfl] at H
        by_cases c21 : t374 = true
        ·
         subst c21
         rw [if_pos rfl] at H
         by_cases c22 : t376 = true
         ·
          subst c22
          rw [if_pos rfl] at H
          obtain ⟨t379, A230, H⟩ := Option.bind_eq_some_iff.mp H
          try dsimp only at H
          have A23 := Aside0.mk A230; clear A230
          by_cases c24 : t379 = true
          ·
           subst c24
           rw [if_pos rfl] at H
           by_cases c25 : (t375.length : Int) > 2
           ·
            rw [if_pos c25] at H
            have c25b0 : decide (2 < (t375.length : Int)) = true := decide_eq_true c25
            have c25b1 : decide (2 < t375.length) = true := decide_eq_true (by omega)
            clear c25
            simp only [Option.some.injEq, Prod.mk.injEq] at H
            obtain ⟨rfl, rfl⟩ := H; have p369 : 0 ≤ (x33_2 : Int) := of_decide_eq_true y0_9; have q369 : x33_2 < (y365.length : Int) := of_decide_eq_true y0_9; obtain ⟨ad369, e369, hx369_0⟩ := Kd.at_string HR368.out x33_2 p369 q369; cases e369; replace hx369_0 := bx HB hx369_0; replace p369 := eq_true p369; replace q369 := eq_true q369
            go_wp2_with (first | ((with_reducible refine gate_callee (f := 58) rfl ?_); refine gB (some 39) Tryd.func58 #[.string (rdOf ByteArray.empty y365 x33_2), .string (⟨#[124]⟩ : ByteArray)] ?_; (with_reducible refine (strings_Cut.calls (rdOf ByteArray.empty y365 x33_2) (⟨#[124]⟩ : ByteArray) t370 t371 true _ A17.out).mono ?_); rintro e w26 ⟨rfl, hb⟩; refine ⟨_, rfl, ?_⟩; replace HO_5 := sb HO_5 hb; replace HB := bs HB hb; (try clear hb); (try clear hb2); (try clear hk); (try clear hi)) | ((with_reducible refine gate_callee (f := 59) rfl ?_); refine gB (some 45) Tryd.func59 #[.string t370] ?_; (with_reducible refine (impl_Number.calls k2 t370 t373 true _ A18.out).mono ?_); rintro e w27 ⟨rfl, hb⟩; refine ⟨_, rfl, ?_⟩; replace HO_5 := sb HO_5 hb; replace HB := bs HB hb; (try clear hb); (try clear hb2); (try clear hk); (try clear hi)) | ((with_reducible refine gate_callee (f := 60) rfl ?_); refine gB (some 50) Tryd.func60 #[.string t371] ?_; (with_reducible refine (impl_TxsOf.calls k2 t371 t375 true _ A19.out).mono ?_); rintro e w28 ⟨v377, rfl, ho0, hb⟩; refine ⟨_, rfl, ?_⟩; replace HO_5 := Aside0.mk (Kd.S_elder' (sI HO_5.out) (Kd.R_base ho0) hb); have HO378 := Aside0.mk (Kd.R_lower ho0 (below_size (bI HB.out))); replace HB := bs HB hb; (try clear hb)) | (go_at_call 32; (with_reducible refine (impl_within.calls t373 (wrap64 (x6_2 + 1)) 60 true _ A23.out).mono ?_); rintro e w' ⟨rfl, ⟨nd, rfl⟩⟩; obtain ⟨Ao29, co29, eo29⟩ := Kd.R_slice HO378.out; subst eo29))
            go_ret2
            exact ⟨_, y0_7, Kd.S_lower (base := wc.heap.size) y0_1 (below_size HB0.out), below_step HB0.out (bI HB.out)⟩
           rw [if_neg c25] at H
           have c25b0 : decide (2 < (t375.length : Int)) = false := decide_eq_false c25
           have c25b1 : decide (2 < t375.length) = false := decide_eq_false (by omega)
           clear c25
           by_cases c30 : x5_2.length < 4398046511104
           rotate_left
           ·
            rw [if_neg c30] at H
            exact absurd H (by simp)
           rw [if_pos c30] at H
           have LMc30 := Aside0.mk c30; clear c30; obtain ⟨y380, hy380⟩ : ∃ y_ : List (S68), y_ = (x5_2 ++ [(⟨t373, t375⟩ : S68)]) := ⟨_, rfl⟩
           replace H : (impl_Steps.l0 k2 y380 t373 y365 (y365.length : Int) (wrap64 (x33_2 + 1))) = some (r1, r2) := by first | (rw [hy380]; with_reducible exact H) | (have H2_ := (Option.bind_some _ _).symm.trans H; rw [hy380]; with_reducible exact H2_) | (have H2_ := (Option.bind_some _ _).symm.trans H; with_reducible exact H2_) | with_reducible exact H | (rw [hy380]; exact H) | exact H
           have Ny380 := Aside0.mk hy380; clear hy380; have H' := Aside0.mk H; clear H; have p369 : 0 ≤ (x33_2 : Int) := of_decide_eq_true y0_9; have q369 : x33_2 < (y365.length : Int) := of_decide_eq_true y0_9; obtain ⟨ad369, e369, hx369_0⟩ := Kd.at_string HR368.out x33_2 p369 q369; cases e369; replace hx369_0 := bx HB hx369_0; replace p369 := eq_true p369; replace q369 := eq_true q369
           go_wp2_with (first | ((with_reducible refine gate_callee (f := 58) rfl ?_); refine gB (some 39) Tryd.func58 #[.string (rdOf ByteArray.empty y365 x33_2), .string (⟨#[124]⟩ : ByteArray)] ?_; (with_reducible refine (strings_Cut.calls (rdOf ByteArray.empty y365 x33_2) (⟨#[124]⟩ : ByteArray) t370 t371 true _ A17.out).mono ?_); rintro e w31 ⟨rfl, hb⟩; refine ⟨_, rfl, ?_⟩; replace HO_5 := sb HO_5 hb; replace HB := bs HB hb; (try clear hb); (try clear hb2); (try clear hk); (try clear hi)) | ((with_reducible refine gate_callee (f := 59) rfl ?_); refine gB (some 45) Tryd.func59 #[.string t370] ?_; (with_reducible refine (impl_Number.calls k2 t370 t373 true _ A18.out).mono ?_); rintro e w32 ⟨rfl, hb⟩; refine ⟨_, rfl, ?_⟩; replace HO_5 := sb HO_5 hb; replace HB := bs HB hb; (try clear hb); (try clear hb2); (try clear hk); (try clear hi)) | ((with_reducible refine gate_callee (f := 60) rfl ?_); refine gB (some 50) Tryd.func60 #[.string t371] ?_; (with_reducible refine (impl_TxsOf.calls k2 t371 t375 true _ A19.out).mono ?_); rintro e w33 ⟨v377, rfl, ho0, hb⟩; refine ⟨_, rfl, ?_⟩; replace HO_5 := Aside0.mk (Kd.S_elder' (sI HO_5.out) (Kd.R_base ho0) hb); have HO378 := Aside0.mk (Kd.R_lower ho0 (below_size (bI HB.out))); replace HB := bs HB hb; (try clear hb)) | (go_at_call 32; (with_reducible refine (impl_within.calls t373 (wrap64 (x6_2 + 1)) 60 true _ A23.out).mono ?_); rintro e w' ⟨rfl, ⟨nd, rfl⟩⟩; obtain ⟨Ao34, co34, eo34⟩ := Kd.R_slice HO378.out; subst eo34) | ((with_reducible refine gate_builtin (b := .append) (xs := #[.tmp 75, .tmp 79]) rfl ?_); (try (refine gate_guard (by rfl) ?_; dsimp only)); at_builtin; refine Kd.S_append k68 (w0 := wc) wc.heap.size rfl (.tmp 75) (.tmp 79) 62 68 (.agg #[(.int .i64 0), (.slice none 0 0)]) 32 rfl Tryd.underlying62 info68 rfl (by decide) (by omega) u5 x5_2 (⟨t373, t375⟩ : S68) [.int .i64 t373, .slice Ao34 t375.length co34] (fun _ => True) (fun k_ => some k_ = (.slice Ao34 t375.length co34 : Value).ownBlock) rfl rfl ?aP (fun k_ hk_ => ((Kd.R_mono (ok' := fun k_ => ((fun _ => True)) k_ ∧ some k_ ≠ (u5 : Value).ownBlock) (Kd.R_apart' (HO378.out) (Kd.S_typed HO_5.out) (by decide)) (fun k_ hk => ⟨trivial, hk.2⟩))).1 k_ hk_.symm) ?aF ?aO ?aB ?aS ?aL ?_; (case aP => exact k68_mkM _ _ _ (⟨t373, t375⟩ : S68) (Kd.R_mono (Kd.R_tight rfl (Kd.R_mono (ok' := fun k_ => ((fun _ => True)) k_ ∧ some k_ ≠ (u5 : Value).ownBlock) (Kd.R_apart' (HO378.out) (Kd.S_typed HO_5.out) (by decide)) (fun k_ hk => ⟨trivial, hk.2⟩))) (fun _ h_ => h_))); (case aB => exact (bI HB.out)); (case aF => exact (fun _ _ => trivial)); (case aO => exact (sI (Kd.S_mono HO_5.out (fun k_ hk => ⟨trivial, fun e_ => hk.2 e_⟩)))); (case aS => exact (below_size (bI HB.out))); (case aL => have := LMc30.out; omega); intro v381 w35 ho hb hg hat; rw [← Ny380.out] at ho; have n0_ := Aside0.mk (hb); have n1_ := Aside0.mk (ho); clear HB; clear HO_5; clear HO378; have HB := n0_; have HO382 := n1_; clear n0_ n1_; clear ho hb hg hat))
           go_roundg k2
           case measure => have := HJ3.out; have := HK2.out; omega
           case rel => exact ⟨(y380), (t373), (wrap64 (x33_2 + 1)), y0_10, y0_10, H', ⟨by have := HJ3.out; have := HK2.out; omega⟩, ⟨by (with_reducible repeat (first | apply Kd.S_alloc | apply Kd.S_drewN | apply Kd.S_drew)); exact HO382.out⟩, ⟨bI HB.out⟩⟩
          replace c24 := Bool.eq_false_iff.mpr c24; subst c24
          rw [if_neg (show ¬ (false = true) by decide)] at H
          simp only [Option.some.injEq, Prod.mk.injEq] at H
          obtain ⟨rfl, rfl⟩ := H; have p369 : 0 ≤ (x33_2 : Int) := of_decide_eq_true y0_9; have q369 : x33_2 < (y365.length : Int) := of_decide_eq_true y0_9; obtain ⟨ad369, e369, hx369_0⟩ := Kd.at_string HR368.out x33_2 p369 q369; cases e369; replace hx369_0 := bx HB hx369_0; replace p369 := eq_true p369; replace q369 := eq_true q369
          go_wp2_with (first | ((with_reducible refine gate_callee (f := 58) rfl ?_); refine gB (some 39) Tryd.func58 #[.string (rdOf ByteArray.empty y365 x33_2), .string (⟨#[124]⟩ : ByteArray)] ?_; (with_reducible refine (strings_Cut.calls (rdOf ByteArray.empty y365 x33_2) (⟨#[124]⟩ : ByteArray) t370 t371 true _ A17.out).mono ?_); rintro e w36 ⟨rfl, hb⟩; refine ⟨_, rfl, ?_⟩; replace HO_5 := sb HO_5 hb; replace HB := bs HB hb; (try clear hb); (try clear hb2); (try clear hk); (try clear hi)) | ((with_reducible refine gate_callee (f := 59) rfl ?_); refine gB (some 45) Tryd.func59 #[.string t370] ?_; (with_reducible refine (impl_Number.calls k2 t370 t373 true _ A18.out).mono ?_); rintro e w37 ⟨rfl, hb⟩; refine ⟨_, rfl, ?_⟩; replace HO_5 := sb HO_5 hb; replace HB := bs HB hb; (try clear hb); (try clear hb2); (try clear hk); (try clear hi)) | ((with_reducible refine gate_callee (f := 60) rfl ?_); refine gB (some 50) Tryd.func60 #[.string t371] ?_; (with_reducible refine (impl_TxsOf.calls k2 t371 t375 true _ A19.out).mono ?_); rintro e w38 ⟨v377, rfl, ho0, hb⟩; refine ⟨_, rfl, ?_⟩; replace HO_5 := Aside0.mk (Kd.S_elder' (sI HO_5.out) (Kd.R_base ho0) hb); have HO378 := Aside0.mk (Kd.R_lower ho0 (below_size (bI HB.out))); replace HB := bs HB hb; (try clear hb)) | (go_at_call 32; (with_reducible refine (impl_within.calls t373 (wrap64 (x6_2 + 1)) 60 false _ A23.out).mono ?_); rintro e w' ⟨rfl, ⟨nd, rfl⟩⟩))
          go_ret2
          exact ⟨_, y0_7, Kd.S_lower (base := wc.heap.size) y0_1 (below_size HB0.out), below_step HB0.out (bI HB.out)⟩
         replace c22 := Bool.eq_false_iff.mpr c22; subst c22
         rw [if_neg (show ¬ (false = true) by decide)] at H
         simp only [Option.some.injEq, Prod.mk.injEq] at H
         obtain ⟨rfl, rfl⟩ := H; have p369 : 0 ≤ (x33_2 : Int) := of_decide_eq_true y0_9; have q369 : x33_2 < (y365.length : Int) := of_decide_eq_true y0_9; obtain ⟨ad369, e369, hx369_0⟩ := Kd.at_string HR368.out x33_2 p369 q369; cases e369; replace hx369_0 := bx HB hx369_0; replace p369 := eq_true p369; replace q369 := eq_true q369
         go_wp2_with (first | ((with_reducible refine gate_callee (f := 58) rfl ?_); refine gB (some 39) Tryd.func58 #[.string (rdOf ByteArray.empty y365 x33_2), .string (⟨#[124]⟩ : ByteArray)] ?_; (with_reducible refine (strings_Cut.calls (rdOf ByteArray.empty y365 x33_2) (⟨#[124]⟩ : ByteArray) t370 t371 true _ A17.out).mono ?_); rintro e w39 ⟨rfl, hb⟩; refine ⟨_, rfl, ?_⟩; replace HO_5 := sb HO_5 hb; replace HB := bs HB hb; (try clear hb); (try clear hb2); (try clear hk); (try clear hi)) | ((with_reducible refine gate_callee (f := 59) rfl ?_); refine gB (some 45) Tryd.func59 #[.string t370] ?_; (with_reducible refine (impl_Number.calls k2 t370 t373 true _ A18.out).mono ?_); rintro e w40 ⟨rfl, hb⟩; refine ⟨_, rfl, ?_⟩; replace HO_5 := sb HO_5 hb; replace HB := bs HB hb; (try clear hb); (try clear hb2); (try clear hk); (try clear hi)) | ((with_reducible refine gate_callee (f := 60) rfl ?_); refine gB (some 50) Tryd.func60 #[.string t371] ?_; (with_reducible refine (impl_TxsOf.calls k2 t371 t375 false _ A19.out).mono ?_); rintro e w41 ⟨v377, rfl, ho0, hb⟩; refine ⟨_, rfl, ?_⟩; replace HO_5 := Aside0.mk (Kd.S_elder' (sI HO_5.out) (Kd.R_base ho0) hb); have HO378 := Aside0.mk (Kd.R_lower ho0 (below_size (bI HB.out))); replace HB := bs HB hb; (try clear hb)))
         go_ret2
         exact ⟨_, y0_7, Kd.S_lower (base := wc.heap.size) y0_1 (below_size HB0.out), below_step HB0.out (bI HB.out)⟩
        replace c21 := Bool.eq_false_iff.mpr c21; subst c21
        rw [if_neg (show ¬ (false = true) by decide)] at H
        simp only [Option.some.injEq, Prod.mk.injEq] at H
        obtain ⟨rfl, rfl⟩ := H; have p369 : 0 ≤ (x33_2 : Int) := of_decide_eq_true y0_9; have q369 : x33_2 < (y365.length : Int) := of_decide_eq_true y0_9; obtain ⟨ad369, e369, hx369_0⟩ := Kd.at_string HR368.out x33_2 p369 q369; cases e369; replace hx369_0 := bx HB hx369_0; replace p369 := eq_true p369; replace q369 := eq_true q369
        go_wp2_with (first | ((with_reducible refine gate_callee (f := 58) rfl ?_); refine gB (some 39) Tryd.func58 #[.string (rdOf ByteArray.empty y365 x33_2), .string (⟨#[124]⟩ : ByteArray)] ?_; (with_reducible refine (strings_Cut.calls (rdOf ByteArray.empty y365 x33_2) (⟨#[124]⟩ : ByteArray) t370 t371 true _ A17.out).mono ?_); rintro e w42 ⟨rfl, hb⟩; refine ⟨_, rfl, ?_⟩; replace HO_5 := sb HO_5 hb; replace HB := bs HB hb; (try clear hb); (try clear hb2); (try clear hk); (try clear hi)) | ((with_reducible refine gate_callee (f := 59) rfl ?_); refine gB (some 45) Tryd.func59 #[.string t370] ?_; (with_reducible refine (impl_Number.calls k2 t370 t373 false _ A18.out).mono ?_); rintro e w43 ⟨rfl, hb⟩; refine ⟨_, rfl, ?_⟩; replace HO_5 := sb HO_5 hb; replace HB := bs HB hb; (try clear hb); (try clear hb2); (try clear hk); (try clear hi)) | ((with_reducible refine gate_callee (f := 60) rfl ?_); refine gB (some 50) Tryd.func60 #[.string t371] ?_; (with_reducible refine (impl_TxsOf.calls k2 t371 t375 t376 _ A19.out).mono ?_); rintro e w44 ⟨v377, rfl, ho0, hb⟩; refine ⟨_, rfl, ?_⟩; replace HO_5 := Aside0.mk (Kd.S_elder' (sI HO_5.out) (Kd.R_base ho0) hb); have HO378 := Aside0.mk (Kd.R_lower ho0 (below_size (bI HB.out))); replace HB := bs HB hb; (try clear hb)))
        go_ret2
        exact ⟨_, y0_7, Kd.S_lower (base := wc.heap.size) y0_1 (below_size HB0.out), below_step HB0.out (bI HB.out)⟩
       replace c20 := Bool.eq_false_iff.mpr c20; subst c20
       rw [if_neg (show ¬ (false = true) by decide)] at H
       simp only [Option.some.injEq, Prod.mk.injEq] at H
       obtain ⟨rfl, rfl⟩ := H; have p369 : 0 ≤ (x33_2 : Int) := of_decide_eq_true y0_9; have q369 : x33_2 < (y365.length : Int) := of_decide_eq_true y0_9; obtain ⟨ad369, e369, hx369_0⟩ := Kd.at_string HR368.out x33_2 p369 q369; cases e369; replace hx369_0 := bx HB hx369_0; replace p369 := eq_true p369; replace q369 := eq_true q369
       go_wp2_with (first | ((with_reducible refine gate_callee (f := 58) rfl ?_); refine gB (some 39) Tryd.func58 #[.string (rdOf ByteArray.empty y365 x33_2), .string (⟨#[124]⟩ : ByteArray)] ?_; (with_reducible refine (strings_Cut.calls (rdOf ByteArray.empty y365 x33_2) (⟨#[124]⟩ : ByteArray) t370 t371 false _ A17.out).mono ?_); rintro e w45 ⟨rfl, hb⟩; refine ⟨_, rfl, ?_⟩; replace HO_5 := sb HO_5 hb; replace HB := bs HB hb; (try clear hb); (try clear hb2); (try clear hk); (try clear hi)) | ((with_reducible refine gate_callee (f := 59) rfl ?_); refine gB (some 45) Tryd.func59 #[.string t370] ?_; (with_reducible refine (impl_Number.calls k2 t370 t373 t374 _ A18.out).mono ?_); rintro e w46 ⟨rfl, hb⟩; refine ⟨_, rfl, ?_⟩; replace HO_5 := sb HO_5 hb; replace HB := bs HB hb; (try clear hb); (try clear hb2); (try clear hk); (try clear hi)) | ((with_reducible refine gate_callee (f := 60) rfl ?_); refine gB (some 50) Tryd.func60 #[.string t371] ?_; (with_reducible refine (impl_TxsOf.calls k2 t371 t375 t376 _ A19.out).mono ?_); rintro e w47 ⟨v377, rfl, ho0, hb⟩; refine ⟨_, rfl, ?_⟩; replace HO_5 := Aside0.mk (Kd.S_elder' (sI HO_5.out) (Kd.R_base ho0) hb); have HO378 := Aside0.mk (Kd.R_lower ho0 (below_size (bI HB.out))); replace HB := bs HB hb; (try clear hb)))
       go_ret2
       exact ⟨_, y0_7, Kd.S_lower (base := wc.heap.size) y0_1 (below_size HB0.out), below_step HB0.out (bI HB.out)⟩
      rw [if_neg c14] at H
      have c14b0 : decide (x33_2 < (y365.length : Int)) = false := decide_eq_false c14; clear c14
      simp only [Option.some.injEq, Prod.mk.injEq] at H
      obtain ⟨rfl, rfl⟩ := H
      go_wp2
      go_ret2
      exact ⟨_, y0_7, Kd.S_lower (base := wc.heap.size) (by (with_reducible repeat (first | apply Kd.S_alloc | apply Kd.S_drewN | apply Kd.S_drew)); exact HO_5.out) (below_size HB0.out), below_step HB0.out (bI HB.out)⟩
   rw [if_neg c11] at H
   exact absurd H (by simp)

/-! ### impl_NameOk: function 38 -/
def impl_NameOk.f (k : Nat) (a0 : ByteArray) : Option (Bool) := (impl_Steps.f k a0).bind fun bt383 => (some bt383.2)
theorem impl_NameOk.mono : ∀ a0 k, LeO (impl_NameOk.f k a0) (impl_NameOk.f (k + 1) a0) := by
 intro a0 k
 unfold impl_NameOk.f
 repeat' first | (with_reducible exact impl_Steps.mono _ _) | (with_reducible exact LeO.refl _) | (with_reducible exact LeO.none _) | (with_reducible refine LeO.ite ?_ ?_) | (with_reducible refine LeO.bind ?_ (fun _ => ?_))
set_option maxHeartbeats 8000000 in
set_option maxRecDepth 100000 in
theorem impl_NameOk.calls (k : Nat) (a0 : ByteArray) (r : Bool) (w : World) (h : impl_NameOk.f k a0 = some r) (hG : Glob w := by exact gG HG HB) :
  Calls Tryd.prog 38 #[.string a0] w fun e w' => e = .returned (.bool r) ∧ Below w.heap.size w w' := by
 have HG := Aside0.mk hG; clear hG; have HB := Aside0.mk (Below.refl w.heap.size w)
 have H : ((impl_Steps.f k a0).bind fun bt383 => (some bt383.2)) = some r := h
 clear h; obtain ⟨⟨t383, t384⟩, A20, H⟩ := Option.bind_eq_some_iff.mp H
 try dsimp only at H
 have A2 := Aside0.mk A20; clear A20; obtain rfl := Option.some.inj H
 go_enter Tryd.func38, Tryd.ntmps38
 go_wp2_with (first | ((with_reducible refine gate_callee (f := 50) rfl ?_); refine gB (some 7) Tryd.func50 #[.string a0] ?_; (with_reducible refine (impl_Steps.calls k a0 t383 t384 _ A2.out).mono ?_); rintro e w3 ⟨v385, rfl, ho0, hb⟩; refine ⟨_, rfl, ?_⟩; have HO386 := Aside0.mk (Kd.S_lower ho0 (below_size (bI HB.out))); replace HB := bs HB hb; (try clear hb); (try clear ho0)))
 go_ret
 exact ⟨y0_7, bI HB.out⟩

/-! ### impl_ConfOk: function 44 -/
def impl_ConfOk.f (a0_0 : Int) (a0_1 : Int) : Option (Bool) := (impl_within.f a0_0 4 7).bind fun t388 => (if t388 = true then ((impl_within.f a0_1 1 6).bind fun t389 => (some t389)) else (some false))
set_option maxHeartbeats 8000000 in
set_option maxRecDepth 100000 in
theorem impl_ConfOk.calls (a0_0 : Int) (a0_1 : Int) (r : Bool) (w : World) (h : impl_ConfOk.f a0_0 a0_1 = some r) :
  Calls Tryd.prog 44 #[.agg #[.int .i64 a0_0, .int .i64 a0_1]] w fun e w' => e = .returned (.bool r) ∧ Below w.heap.size w w' := by
 have hu32 := Tryd.underlying32; have HB := Aside0.mk (Below.refl w.heap.size w)
 have H : ((impl_within.f a0_0 4 7).bind fun t388 => (if t388 = true then ((impl_within.f a0_1 1 6).bind fun t389 => (some t389)) else (some false))) = some r := h
 clear h; obtain ⟨t388, A20, H⟩ := Option.bind_eq_some_iff.mp H
 try dsimp only at H
 have A2 := Aside0.mk A20; clear A20
 by_cases c3 : t388 = true
 ·
  subst c3
  rw [if_pos rfl] at H
  obtain ⟨t389, A40, H⟩ := Option.bind_eq_some_iff.mp H
  try dsimp only at H
  have A4 := Aside0.mk A40; clear A40; obtain rfl := Option.some.inj H
  go_enter Tryd.func44, Tryd.ntmps44
  go_wp2_with (first | ((with_reducible refine gd 1 ?_); refine bA 1 #[.int .i64 a0_0, .int .i64 a0_1] 32 ?_; intro gb387 hg w5 hbox hb; have BK387 := Aside0.mk (hbox); have GW387 := bg hg HB; have GJ387 := gi GW387; have GE387 := GW387; replace HB := bs HB hb; clear hb hbox hg; obtain ⟨hcz6_0, hcz6_1, hfz6_0, hfz6_1⟩ := cs2 BK387) | ((with_reducible refine gate_callee (f := 32) rfl ?_); refine gB (some 5) Tryd.func32 #[.int .i64 a0_0, .int .i64 4, .int .i64 7] ?_; (with_reducible refine (impl_within.calls a0_0 4 7 true _ A2.out).mono ?_); rintro e w' ⟨rfl, ⟨nd, rfl⟩⟩; refine ⟨_, rfl, ?_⟩) | (go_at_call 32; (with_reducible refine (impl_within.calls a0_1 1 6 t389 _ A4.out).mono ?_); rintro e w' ⟨rfl, ⟨nd, rfl⟩⟩))
  go_ret
  exact ⟨y0_7, bI HB.out⟩
 replace c3 := Bool.eq_false_iff.mpr c3; subst c3
 rw [if_neg (show ¬ (false = true) by decide)] at H
 obtain rfl := Option.some.inj H
 go_enter Tryd.func44, Tryd.ntmps44
 go_wp2_with (first | ((with_reducible refine gd 1 ?_); refine bA 1 #[.int .i64 a0_0, .int .i64 a0_1] 32 ?_; intro gb387 hg w7 hbox hb; have BK387 := Aside0.mk (hbox); have GW387 := bg hg HB; have GJ387 := gi GW387; have GE387 := GW387; replace HB := bs HB hb; clear hb hbox hg; obtain ⟨hcz8_0, hcz8_1, hfz8_0, hfz8_1⟩ := cs2 BK387) | ((with_reducible refine gate_callee (f := 32) rfl ?_); refine gB (some 5) Tryd.func32 #[.int .i64 a0_0, .int .i64 4, .int .i64 7] ?_; (with_reducible refine (impl_within.calls a0_0 4 7 false _ A2.out).mono ?_); rintro e w' ⟨rfl, ⟨nd, rfl⟩⟩; refine ⟨_, rfl, ?_⟩))
 go_ret
 exact ⟨y0_7, bI HB.out⟩

/-! ### slices_Equal_int_int: function 55 -/
def slices_Equal_int_int.l0 : Nat → List Int → List Int → Int → Int → Option (Bool)
 | 0, _, _, _, _ => none
 | k + 1, x0, x1, x12, x13 => if x13 < x12 then (if 0 ≤ x13 then (if x13 < (x0.length : Int) then (if x13 < (x1.length : Int) then (if (rd x0 x13) = (rd x1 x13) then (slices_Equal_int_int.l0 k x0 x1 x12 (wrap64 (x13 + 1))) else (some false)) else (none)) else (none)) else (none)) else (some true)
def slices_Equal_int_int.f (k : Nat) (l0 : List Int) (l1 : List Int) : Option (Bool) := if (l0.length : Int) = (l1.length : Int) then (slices_Equal_int_int.l0 k l0 l1 (l0.length : Int) 0) else (some false)
theorem slices_Equal_int_int.mono_l : ∀ k, (∀ y0 y1 y2 y3, LeO (slices_Equal_int_int.l0 k y0 y1 y2 y3) (slices_Equal_int_int.l0 (k + 1) y0 y1 y2 y3))
 | 0 => fun _ _ _ _ r h => by simp [slices_Equal_int_int.l0] at h
 | k + 1 => by
  have ih0 := slices_Equal_int_int.mono_l k
  intro y0 y1 y2 y3
  unfold slices_Equal_int_int.l0
  repeat' first | (with_reducible exact ih0 _ _ _ _) | (with_reducible exact LeO.refl _) | (with_reducible exact LeO.none _) | (with_reducible refine LeO.ite ?_ ?_) | (with_reducible refine LeO.bind ?_ (fun _ => ?_))
theorem slices_Equal_int_int.mono : ∀ a0 a1 k, LeO (slices_Equal_int_int.f k a0 a1) (slices_Equal_int_int.f (k + 1) a0 a1) := by
 intro a0 a1 k
 have ih0 := slices_Equal_int_int.mono_l k
 unfold slices_Equal_int_int.f
 repeat' first | (with_reducible exact ih0 _ _ _ _) | (with_reducible exact LeO.refl _) | (with_reducible exact LeO.none _) | (with_reducible refine LeO.ite ?_ ?_) | (with_reducible refine LeO.bind ?_ (fun _ => ?_))
set_option maxHeartbeats 8000000 in
set_option maxRecDepth 100000 in
theorem slices_Equal_int_int.calls (k : Nat) (A0 : Option Addr) (c0 : Nat) (l0 : List Int) (A1 : Option Addr) (c1 : Nat) (l1 : List Int) (r : Bool) (w : World) (hr0 : Kd.C (Kd.int .i64) w A0 l0.length l0) (hc0 : l0.length ≤ c0) (hr1 : Kd.C (Kd.int .i64) w A1 l1.length l1) (hc1 : l1.length ≤ c1) (h : slices_Equal_int_int.f k l0 l1 = some r) :
  Calls Tryd.prog 55 #[.slice A0 l0.length c0, .slice A1 l1.length c1] w fun e w' => e = .returned (.bool r) ∧ Drawn0 w w' := by
 have HR0 := Aside0.mk hr0; have HC0 := Aside0.mk hc0; clear hr0 hc0; have HR1 := Aside0.mk hr1; have HC1 := Aside0.mk hc1; clear hr1 hc1; have H : (if (l0.length : Int) = (l1.length : Int) then (slices_Equal_int_int.l0 k l0 l1 (l0.length : Int) 0) else (some false)) = some r := h; clear h
 by_cases c3 : (l0.length : Int) = (l1.length : Int)
 ·
  rw [if_pos c3] at H
  have c3b0 : ((l0.length : Int) == (l1.length : Int)) = true := beq_iff_eq.mpr c3; have c3b1 : ((l0.length : Int) != (l1.length : Int)) = false := bne_eq_false_iff_eq.mpr c3
  have c3b2 : (l0.length == l1.length) = true := by first | simpa using c3 | (simp at c3 ⊢; omega)
  clear c3; have H' := Aside0.mk H; clear H
  go_enter Tryd.func55, Tryd.ntmps55
  go_wp2
  repeat (go_quiet (fail); try go_wp2)
  go_loopg [13] k (fun kq v13 w' => ∃ (x13_1 : Int), v13 = .int .i64 x13_1 ∧ Aside0 (slices_Equal_int_int.l0 kq l0 l1 (l0.length : Int) x13_1 = some r) ∧ Aside0 (kq ≤ k) ∧ Drawn0 w w')
  case atStart => exact ⟨(0), y0_10, H', ⟨Nat.le_refl _⟩, y0_8⟩
  case round =>
   clear H'
   try clear c1
   try clear p2
   try clear c3
   try clear c3b0
   try clear c3b1
   try clear c3b2
   obtain ⟨x13_1, rfl, HA, HK1, ⟨m1, rfl⟩⟩ := hrel; cases gk with
   | zero => exact absurd HA.out (by simp [slices_Equal_int_int.l0])
   | succ k1 =>
    have H := HA.out; clear HA
    simp only [slices_Equal_int_int.l0] at H
    by_cases c4 : x13_1 < (l0.length : Int)
    ·
     rw [if_pos c4] at H
     have c4b0 : decide (x13_1 < (l0.length : Int)) = true := decide_eq_true c4; clear c4
     by_cases c5 : 0 ≤ x13_1
     rotate_left
     ·
      rw [if_neg c5] at H
      exact absurd H (by simp)
     rw [if_pos c5] at H
     have c5b0 : decide (0 ≤ x13_1) = true := decide_eq_true c5; clear c5
     by_cases c6 : x13_1 < (l0.length : Int)
     rotate_left
     ·
      rw [if_neg c6] at H
      exact absurd H (by simp)
     rw [if_pos c6] at H
     have c6b0 : decide (x13_1 < (l0.length : Int)) = true := decide_eq_true c6; clear c6
     by_cases c7 : x13_1 < (l1.length : Int)
     rotate_left
     ·
      rw [if_neg c7] at H
      exact absurd H (by simp)
     rw [if_pos c7] at H
     have c7b0 : decide (x13_1 < (l1.length : Int)) = true := decide_eq_true c7; clear c7
     by_cases c8 : (rd l0 x13_1) = (rd l1 x13_1)
     ·
      rw [if_pos c8] at H
      have c8b0 : ((rd l0 x13_1) == (rd l1 x13_1)) = true := beq_iff_eq.mpr c8; have c8b1 : ((rd l0 x13_1) != (rd l1 x13_1)) = false := bne_eq_false_iff_eq.mpr c8; clear c8; have H' := Aside0.mk H; clear H; have p390 : 0 ≤ (x13_1 : Int) := of_decide_eq_true y0_9; have q390 : x13_1 < (l0.length : Int) := of_decide_eq_true y0_9; obtain ⟨ad390, e390, hx390_0⟩ := Kd.at_int HR0.out x13_1 p390 q390; cases e390; replace p390 := eq_true p390; replace q390 := eq_true q390; have p391 : 0 ≤ (x13_1 : Int) := of_decide_eq_true y0_9; have q391 : x13_1 < (l1.length : Int) := of_decide_eq_true y0_9; obtain ⟨ad391, e391, hx391_0⟩ := Kd.at_int HR1.out x13_1 p391 q391; cases e391; replace p391 := eq_true p391; replace q391 := eq_true q391
      go_wp2
      repeat (go_quiet (fail); try go_wp2)
      go_roundg k1
      case measure => have := HK1.out; omega
      case rel => exact ⟨(wrap64 (x13_1 + 1)), y0_10, H', ⟨y0_14⟩, y0_8⟩
     rw [if_neg c8] at H
     have c8b0 : ((rd l0 x13_1) == (rd l1 x13_1)) = false := beq_eq_false_iff_ne.mpr c8; have c8b1 : ((rd l0 x13_1) != (rd l1 x13_1)) = true := bne_iff_ne.mpr c8; obtain rfl := Option.some.inj H; have p390 : 0 ≤ (x13_1 : Int) := of_decide_eq_true y0_9; have q390 : x13_1 < (l0.length : Int) := of_decide_eq_true y0_9; obtain ⟨ad390, e390, hx390_0⟩ := Kd.at_int HR0.out x13_1 p390 q390; cases e390; replace p390 := eq_true p390; replace q390 := eq_true q390; have p391 : 0 ≤ (x13_1 : Int) := of_decide_eq_true y0_9; have q391 : x13_1 < (l1.length : Int) := of_decide_eq_true y0_9; obtain ⟨ad391, e391, hx391_0⟩ := Kd.at_int HR1.out x13_1 p391 q391; cases e391; replace p391 := eq_true p391; replace q391 := eq_true q391
     go_wp2
     repeat (go_quiet (fail); try go_wp2)
     go_ret
     exact ⟨y0_10, y0_8⟩
    rw [if_neg c4] at H
    have c4b0 : decide (x13_1 < (l0.length : Int)) = false := decide_eq_false c4; clear c4; obtain rfl := Option.some.inj H
    go_wp2
    repeat (go_quiet (fail); try go_wp2)
    go_ret
    exact ⟨y0_10, y0_8⟩
 rw [if_neg c3] at H
 have c3b0 : ((l0.length : Int) == (l1.length : Int)) = false := beq_eq_false_iff_ne.mpr c3; have c3b1 : ((l0.length : Int) != (l1.length : Int)) = true := bne_iff_ne.mpr c3
 have c3b2 : (l0.length == l1.length) = false := by first | simpa using c3 | (simp at c3 ⊢; omega)
 obtain rfl := Option.some.inj H
 go_enter Tryd.func55, Tryd.ntmps55
 go_wp2
 repeat (go_quiet (fail); try go_wp2)
 go_ret
 exact ⟨y0_10, y0_8⟩

/-! ### impl_QcSame: function 45 -/
def impl_QcSame.f (k : Nat) (a0_0 : Int) (a0_1 : ByteArray) (l0_2 : List Int) (a1_0 : Int) (a1_1 : ByteArray) (l1_2 : List Int) : Option (Bool) := if a0_0 = a1_0 then (if a0_1.toList = a1_1.toList then ((slices_Equal_int_int.f k l0_2 l1_2).bind fun t394 => (some t394)) else (some false)) else (some false)
theorem impl_QcSame.mono : ∀ a0 a1 a2 a3 a4 a5 k, LeO (impl_QcSame.f k a0 a1 a2 a3 a4 a5) (impl_QcSame.f (k + 1) a0 a1 a2 a3 a4 a5) := by
 intro a0 a1 a2 a3 a4 a5 k
 unfold impl_QcSame.f
 repeat' first | (with_reducible exact slices_Equal_int_int.mono _ _ _) | (with_reducible exact LeO.refl _) | (with_reducible exact LeO.none _) | (with_reducible refine LeO.ite ?_ ?_) | (with_reducible refine LeO.bind ?_ (fun _ => ?_))
set_option maxHeartbeats 8000000 in
set_option maxRecDepth 100000 in
theorem impl_QcSame.calls (k : Nat) (a0_0 : Int) (a0_1 : ByteArray) (A0_2 : Option Addr) (c0_2 : Nat) (l0_2 : List Int) (a1_0 : Int) (a1_1 : ByteArray) (A1_2 : Option Addr) (c1_2 : Nat) (l1_2 : List Int) (r : Bool) (w : World) (hr0_2 : Kd.C (Kd.int .i64) w A0_2 l0_2.length l0_2) (hc0_2 : l0_2.length ≤ c0_2) (hr1_2 : Kd.C (Kd.int .i64) w A1_2 l1_2.length l1_2) (hc1_2 : l1_2.length ≤ c1_2) (h : impl_QcSame.f k a0_0 a0_1 l0_2 a1_0 a1_1 l1_2 = some r) :
  Calls Tryd.prog 45 #[.agg #[.int .i64 a0_0, .string a0_1, .slice A0_2 l0_2.length c0_2], .agg #[.int .i64 a1_0, .string a1_1, .slice A1_2 l1_2.length c1_2]] w fun e w' => e = .returned (.bool r) ∧ Below w.heap.size w w' := by
 have hu34 := Tryd.underlying34; have HR0_2 := Aside0.mk hr0_2; have HC0_2 := Aside0.mk hc0_2; clear hr0_2 hc0_2; have HR1_2 := Aside0.mk hr1_2; have HC1_2 := Aside0.mk hc1_2; clear hr1_2 hc1_2; have HB := Aside0.mk (Below.refl w.heap.size w)
 have H : (if a0_0 = a1_0 then (if a0_1.toList = a1_1.toList then ((slices_Equal_int_int.f k l0_2 l1_2).bind fun t394 => (some t394)) else (some false)) else (some false)) = some r := h
 clear h
 by_cases c3 : a0_0 = a1_0
 ·
  rw [if_pos c3] at H
  have c3b0 : (a0_0 == a1_0) = true := beq_iff_eq.mpr c3; have c3b1 : (a0_0 != a1_0) = false := bne_eq_false_iff_eq.mpr c3; clear c3
  by_cases c4 : a0_1.toList = a1_1.toList
  ·
   rw [if_pos c4] at H
   have c4b0 : (a0_1.toList == a1_1.toList) = true := beq_iff_eq.mpr c4; have c4b1 : (a0_1.toList != a1_1.toList) = false := bne_eq_false_iff_eq.mpr c4; clear c4; obtain ⟨t394, A50, H⟩ := Option.bind_eq_some_iff.mp H
   try dsimp only at H
   have A5 := Aside0.mk A50; clear A50; obtain rfl := Option.some.inj H
   go_enter Tryd.func45, Tryd.ntmps45
   go_wp2_with (first | ((with_reducible refine gd 2 ?_); refine bA 2 #[.int .i64 a0_0, .string a0_1, .slice A0_2 l0_2.length c0_2] 34 ?_; intro gb392 hg w6 hbox hb; have BK392 := Aside0.mk (hbox); have GW392 := bg hg HB; have GJ392 := gi GW392; have GE392 := GW392; replace HB := bs HB hb; clear hb hbox hg) | ((with_reducible refine gd 3 ?_); refine bA 3 #[.int .i64 a1_0, .string a1_1, .slice A1_2 l1_2.length c1_2] 34 ?_; intro gb393 hg w7 hbox hb; have BK393 := Aside0.mk (hbox); have GW393 := bg hg HB; have GJ393 := gi GW393; have GE393 := GW393; replace HB := bs HB hb; have NB392_393 := b1 BK392 hg; have NI392_393 := ni NB392_393; have NB393_392 := b2 BK392 hg; have NI393_392 := ni NB393_392; replace BK392 := bk BK392 hb; clear hb hbox hg; have hnb8 := NB392_393.out; have hnc8 := NB393_392.out; obtain ⟨hcz9_0, hcz9_1, hcz9_2, hfz9_0, hfz9_1, hfz9_2⟩ := cs3 BK392; obtain ⟨hcz10_0, hcz10_1, hcz10_2, hfz10_0, hfz10_1, hfz10_2⟩ := cs3 BK393) | (go_at_call 55; (with_reducible refine (slices_Equal_int_int.calls k _ _ l0_2 _ _ l1_2 t394 _ ?side1 ?side2 ?side3 ?side4 A5.out).mono ?_); (case side1 => exact ch HR0_2 HB); (case side2 => exact HC0_2.out); (case side3 => exact ch HR1_2 HB); (case side4 => exact HC1_2.out); rintro e w' ⟨rfl, ⟨nd, rfl⟩⟩))
   go_ret
   exact ⟨y0_7, bI HB.out⟩
  rw [if_neg c4] at H
  have c4b0 : (a0_1.toList == a1_1.toList) = false := beq_eq_false_iff_ne.mpr c4; have c4b1 : (a0_1.toList != a1_1.toList) = true := bne_iff_ne.mpr c4; obtain rfl := Option.some.inj H
  go_enter Tryd.func45, Tryd.ntmps45
  go_wp2_with (first | ((with_reducible refine gd 2 ?_); refine bA 2 #[.int .i64 a0_0, .string a0_1, .slice A0_2 l0_2.length c0_2] 34 ?_; intro gb392 hg w11 hbox hb; have BK392 := Aside0.mk (hbox); have GW392 := bg hg HB; have GJ392 := gi GW392; have GE392 := GW392; replace HB := bs HB hb; clear hb hbox hg) | ((with_reducible refine gd 3 ?_); refine bA 3 #[.int .i64 a1_0, .string a1_1, .slice A1_2 l1_2.length c1_2] 34 ?_; intro gb393 hg w12 hbox hb; have BK393 := Aside0.mk (hbox); have GW393 := bg hg HB; have GJ393 := gi GW393; have GE393 := GW393; replace HB := bs HB hb; have NB392_393 := b1 BK392 hg; have NI392_393 := ni NB392_393; have NB393_392 := b2 BK392 hg; have NI393_392 := ni NB393_392; replace BK392 := bk BK392 hb; clear hb hbox hg; have hnb13 := NB392_393.out; have hnc13 := NB393_392.out; obtain ⟨hcz14_0, hcz14_1, hcz14_2, hfz14_0, hfz14_1, hfz14_2⟩ := cs3 BK392; obtain ⟨hcz15_0, hcz15_1, hcz15_2, hfz15_0, hfz15_1, hfz15_2⟩ := cs3 BK393))
  go_ret
  exact ⟨y0_7, bI HB.out⟩
 rw [if_neg c3] at H
 have c3b0 : (a0_0 == a1_0) = false := beq_eq_false_iff_ne.mpr c3; have c3b1 : (a0_0 != a1_0) = true := bne_iff_ne.mpr c3; obtain rfl := Option.some.inj H
 go_enter Tryd.func45, Tryd.ntmps45
 go_wp2_with (first | ((with_reducible refine gd 2 ?_); refine bA 2 #[.int .i64 a0_0, .string a0_1, .slice A0_2 l0_2.length c0_2] 34 ?_; intro gb392 hg w16 hbox hb; have BK392 := Aside0.mk (hbox); have GW392 := bg hg HB; have GJ392 := gi GW392; have GE392 := GW392; replace HB := bs HB hb; clear hb hbox hg) | ((with_reducible refine gd 3 ?_); refine bA 3 #[.int .i64 a1_0, .string a1_1, .slice A1_2 l1_2.length c1_2] 34 ?_; intro gb393 hg w17 hbox hb; have BK393 := Aside0.mk (hbox); have GW393 := bg hg HB; have GJ393 := gi GW393; have GE393 := GW393; replace HB := bs HB hb; have NB392_393 := b1 BK392 hg; have NI392_393 := ni NB392_393; have NB393_392 := b2 BK392 hg; have NI393_392 := ni NB393_392; replace BK392 := bk BK392 hb; clear hb hbox hg; have hnb18 := NB392_393.out; have hnc18 := NB393_392.out; obtain ⟨hcz19_0, hcz19_1, hcz19_2, hfz19_0, hfz19_1, hfz19_2⟩ := cs3 BK392; obtain ⟨hcz20_0, hcz20_1, hcz20_2, hfz20_0, hfz20_1, hfz20_2⟩ := cs3 BK393))
 go_ret
 exact ⟨y0_7, bI HB.out⟩

/-! ### impl_QcFirst: function 46 -/
def impl_QcFirst.f  : Option (Int × ByteArray × List Int) := some (0, (⟨#[]⟩ : ByteArray), ([] : List Int))
set_option maxHeartbeats 8000000 in
set_option maxRecDepth 100000 in
theorem impl_QcFirst.calls  (r1 : Int) (r2 : ByteArray) (r3 : List Int) (w : World) (h : impl_QcFirst.f  = some (r1, r2, r3)) :
  Calls Tryd.prog 46 #[] w fun e w' => ∃ v2_ : Value, e = .returned (.agg #[.int .i64 r1, .string r2, v2_]) ∧ Kd.R (Kd.int .i64) 3 w' w.heap.size (fun _ => True) v2_ r3 ∧ Below w.heap.size w w' := by
 have hu34 := Tryd.underlying34; have HB := Aside0.mk (Below.refl w.heap.size w); have H : (some (0, (⟨#[]⟩ : ByteArray), ([] : List Int))) = some (r1, r2, r3) := h; clear h
 simp only [Option.some.injEq, Prod.mk.injEq] at H
 obtain ⟨rfl, rfl, rfl⟩ := H
 go_enter Tryd.func46, Tryd.ntmps46
 go_wp2_with (first | ((with_reducible refine gd 0 ?_); refine bA 0 #[.int .i64 0, .string (⟨#[]⟩ : ByteArray), .slice none 0 0] 34 ?_; intro gb395 hg w1 hbox hb; have BK395 := Aside0.mk (hbox); have GW395 := bg hg HB; have GJ395 := gi GW395; have GE395 := GW395; replace HB := bs HB hb; clear hb hbox hg; obtain ⟨hcz2_0, hcz2_1, hcz2_2, hfz2_0, hfz2_1, hfz2_2⟩ := cs3 BK395))
 refine bodyPost_ret (results_cell_row rfl _ _ gb395 34 #[.int .i64 0, .string (⟨#[]⟩ : ByteArray), .slice none 0 0] (0, 0) _ rfl (pI BK395) Tryd.underlying34 rfl (by kernel_rfl)) rfl ?_
 exact ⟨_, y0_7, y0_0, bI HB.out⟩

/-! ### impl_ViewOf: function 47 -/
def impl_ViewOf.f (k : Nat) (a0 : ByteArray) : Option (Int) := (impl_Steps.f k a0).bind fun bt396 => (if (bt396.1.length : Int) = 0 then (some 0) else (if 0 ≤ (wrap64 ((bt396.1.length : Int) - 1)) then (if (wrap64 ((bt396.1.length : Int) - 1)) < (bt396.1.length : Int) then (some ((rd_T68 bt396.1 (wrap64 ((bt396.1.length : Int) - 1))).f0)) else (none)) else (none)))
theorem impl_ViewOf.mono : ∀ a0 k, LeO (impl_ViewOf.f k a0) (impl_ViewOf.f (k + 1) a0) := by
 intro a0 k
 unfold impl_ViewOf.f
 repeat' first | (with_reducible exact impl_Steps.mono _ _) | (with_reducible exact LeO.refl _) | (with_reducible exact LeO.none _) | (with_reducible refine LeO.ite ?_ ?_) | (with_reducible refine LeO.bind ?_ (fun _ => ?_))
set_option maxHeartbeats 8000000 in
set_option maxRecDepth 100000 in
theorem impl_ViewOf.calls (k : Nat) (a0 : ByteArray) (r : Int) (w : World) (h : impl_ViewOf.f k a0 = some r) (hG : Glob w := by exact gG HG HB) :
  Calls Tryd.prog 47 #[.string a0] w fun e w' => e = .returned (.int .i64 r) ∧ Below w.heap.size w w' := by
 have HG := Aside0.mk hG; clear hG; have HB := Aside0.mk (Below.refl w.heap.size w)
 have H : ((impl_Steps.f k a0).bind fun bt396 => (if (bt396.1.length : Int) = 0 then (some 0) else (if 0 ≤ (wrap64 ((bt396.1.length : Int) - 1)) then (if (wrap64 ((bt396.1.length : Int) - 1)) < (bt396.1.length : Int) then (some ((rd_T68 bt396.1 (wrap64 ((bt396.1.length : Int) - 1))).f0)) else (none)) else (none)))) = some r := h
 clear h; obtain ⟨⟨t396, t397⟩, A20, H⟩ := Option.bind_eq_some_iff.mp H
 try dsimp only at H
 have A2 := Aside0.mk A20; clear A20
 by_cases c3 : (t396.length : Int) = 0
 ·
  rw [if_pos c3] at H
  have c3b0 : ((t396.length : Int) == 0) = true := beq_iff_eq.mpr c3; have c3b1 : ((t396.length : Int) != 0) = false := bne_eq_false_iff_eq.mpr c3; clear c3; obtain rfl := Option.some.inj H
  go_enter Tryd.func47, Tryd.ntmps47
  go_wp2_with (first | ((with_reducible refine gate_callee (f := 50) rfl ?_); refine gB (some 7) Tryd.func50 #[.string a0] ?_; (with_reducible refine (impl_Steps.calls k a0 t396 t397 _ A2.out).mono ?_); rintro e w4 ⟨v398, rfl, ho0, hb⟩; refine ⟨_, rfl, ?_⟩; have HO399 := Aside0.mk (Kd.S_lower ho0 (below_size (bI HB.out))); replace HB := bs HB hb; (try clear hb); (try clear ho0); obtain ⟨Ao5, co5, eo5⟩ := Kd.S_slice HO399.out; subst eo5))
  go_ret
  exact ⟨y0_7, bI HB.out⟩
 rw [if_neg c3] at H
 have c3b0 : ((t396.length : Int) == 0) = false := beq_eq_false_iff_ne.mpr c3; have c3b1 : ((t396.length : Int) != 0) = true := bne_iff_ne.mpr c3
 have c3b2 : ¬ (t396 = []) := fun h_ => c3 (by rw [h_]; rfl)
 obtain ⟨ji6, hji6⟩ : ∃ j_ : Int, (wrap64 ((t396.length : Int) - 1)) = j_ := ⟨_, rfl⟩
 replace H : (if 0 ≤ (ji6) then (if (ji6) < (t396.length : Int) then (some ((rd_T68 t396 (ji6)).f0)) else (none)) else (none)) = some r := by first | (rw [hji6] at H; exact H) | (simp only [hji6] at H ⊢; exact H)
 (try rw [hji6] at A2)
 have hji6w : (IntKind.i64.wrap ((t396.length : Int) - 1)) = ji6 := (i64_w _).trans hji6
 by_cases c7 : 0 ≤ (ji6)
 ·
  rw [if_pos c7] at H
  have c7b0 : decide (0 ≤ (ji6)) = true := decide_eq_true c7; clear c7
  by_cases c8 : (ji6) < (t396.length : Int)
  rotate_left
  ·
   rw [if_neg c8] at H
   exact absurd H (by simp)
  rw [if_pos c8] at H
  have c8b0 : decide ((ji6) < (t396.length : Int)) = true := decide_eq_true c8; clear c8; obtain rfl := Option.some.inj H
  go_enter Tryd.func47, Tryd.ntmps47
  go_wp2_with (first | ((with_reducible refine gate_callee (f := 50) rfl ?_); refine gB (some 7) Tryd.func50 #[.string a0] ?_; (with_reducible refine (impl_Steps.calls k a0 t396 t397 _ A2.out).mono ?_); rintro e w9 ⟨v398, rfl, ho0, hb⟩; refine ⟨_, rfl, ?_⟩; have HO399 := Aside0.mk (Kd.S_lower ho0 (below_size (bI HB.out))); replace HB := bs HB hb; (try clear hb); (try clear ho0); obtain ⟨Ao10, co10, eo10⟩ := Kd.S_slice HO399.out; subst eo10; have p400 : 0 ≤ ((ji6) : Int) := of_decide_eq_true y0_9; have q400 : (ji6) < (t396.length : Int) := of_decide_eq_true y0_9; obtain ⟨ad400, A400_1, c400_1, e400, hx400_0, hx400_1, hl400_1, hi400_1⟩ := at_T68 (Kd.S_reads' HO399.out).2.2 (ji6) p400 q400; cases e400; obtain ⟨ce400, hce400, hMe400, hcc400⟩ := Kd.S_get HO399.out z68 (ji6) p400 (by first | exact q400 | exact of_decide_eq_true y0_9 | (have e_ := (Kd.S_reads' HO399.out).1; omega)); obtain ⟨ve400_1, rfl, ge400_1⟩ := k68_openM hMe400; have hv400_1 := hcc400 1 _ rfl; rw [add_field _ _ 1 (by omega)] at hv400_1; replace hv400_1 := Option.some.inj (hv400_1.symm.trans hx400_1); rw [hv400_1] at ge400_1; have HL400_1 := Aside0.mk (show Kd.R k80 80 _ _ _ _ ((rd_T68 t396 (ji6)).f1) from ge400_1); clear hv400_1 ge400_1; clear hcc400 hce400; have HR400_1 := Aside0.mk hi400_1; have HC400_1 := Aside0.mk hl400_1; clear hi400_1 hl400_1; replace p400 := eq_true p400; replace q400 := eq_true q400))
  go_ret
  exact ⟨by first | rfl | (simp [errW_none, errW_some] <;> rfl) | (simp only [← hji6]; first | rfl | (simp [errW_none, errW_some] <;> rfl)) | (simp [*, errW_none, errW_some] <;> rfl), bI HB.out⟩
 rw [if_neg c7] at H
 exact absurd H (by simp)

end Go.Proofs.YtemjmefacifdeaaDoor.PFnExactNoteBytes
