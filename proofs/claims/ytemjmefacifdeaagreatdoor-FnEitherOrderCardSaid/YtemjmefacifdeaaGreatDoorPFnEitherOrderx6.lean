-- By a program of this session, out of the translation (the print of the kit, with turns of its own). Lean checks it.
import Derived.Test.YtemjmefacifdeaaGreatDoorPFnEitherOrderx0
import Derived.Test.YtemjmefacifdeaaGreatDoorPFnEitherOrderx5
namespace Go.Proofs.YtemjmefacifdeaaGreatDoor.PFnEitherOrder
open Go.RowKit Go.Proofs.YtemjmefacifdeaaGreatDoorW.PrintWords Go.Proofs.YtemjmefacifdeaaGreatDoorW.PrintLast Go.Proofs.YtemjmefacifdeaaGreatDoorW.PrintMore
attribute [local go_sem] max2_int min2_int max_two min_two max_three min_three max_four min_four   -- for this text's walks alone
attribute [local go_sem] cell_in frozen_in
set_option synthInstance.maxSize 1000000
set_option synthInstance.maxHeartbeats 2000000
set_option linter.unusedVariables false
set_option linter.unusedSimpArgs false

/-! ### impl_Steps: function 90 -/
mutual
def impl_Steps.j0 : Nat → List ByteArray → Bool → Option ((List (S112)) × Bool)
 | 0, _, _ => none
 | k + 1, x4, x29 => if x29 = true then (some (([] : List (S112)), false)) else (if 1 ≤ (x4.length : Int) then ((some (x4.drop 1 : List ByteArray)).bind fun y326 => (impl_Steps.l0 k ([] : List (S112)) 0 y326 (y326.length : Int) 0)) else (none))
def impl_Steps.l0 : Nat → List (S112) → Int → List ByteArray → Int → Int → Option ((List (S112)) × Bool)
 | 0, _, _, _, _, _ => none
 | k + 1, x5, x6, x31, x32, x33 => if x33 < x32 then (if 0 ≤ x33 then (if x33 < (x31.length : Int) then ((strings_Cut.f (rdOf ByteArray.empty x31 x33) (⟨#[124]⟩ : ByteArray)).bind fun bt331 => ((impl_Number.f k bt331.1).bind fun bt334 => ((impl_TxsOf.f k bt331.2.1).bind fun bt336 => (if bt331.2.2 = true then (if bt334.2 = true then (if bt336.2 = true then ((impl_within.f bt334.1 (wrap64 (x6 + 1)) 60).bind fun t340 => (if t340 = true then (if (bt336.1.length : Int) > 2 then (some (([] : List (S112)), false)) else (if x5.length < 4398046511104 then (impl_Steps.l0 k (x5 ++ [(⟨bt334.1, bt336.1⟩ : S112)]) bt334.1 x31 x32 (wrap64 (x33 + 1))) else (none))) else (some (([] : List (S112)), false)))) else (some (([] : List (S112)), false))) else (some (([] : List (S112)), false))) else (some (([] : List (S112)), false)))))) else (none)) else (none)) else (some (x5, true))
end
def impl_Steps.f (k : Nat) (a0 : ByteArray) : Option ((List (S112)) × Bool) := if a0.toList = ([] : List UInt8) then (some (([] : List (S112)), true)) else ((impl_Split.f a0 47).bind fun t322 => (if 0 < (t322.length : Int) then (if (rdOf ByteArray.empty t322 0).toList = ([] : List UInt8) then (impl_Steps.j0 k t322 (decide ((wrap64 ((t322.length : Int) - 1)) > 30))) else (impl_Steps.j0 k t322 true)) else (none)))
theorem impl_Steps.mono_l : ∀ k, (∀ y0 y1, LeO (impl_Steps.j0 k y0 y1) (impl_Steps.j0 (k + 1) y0 y1)) ∧ (∀ y0 y1 y2 y3 y4, LeO (impl_Steps.l0 k y0 y1 y2 y3 y4) (impl_Steps.l0 (k + 1) y0 y1 y2 y3 y4))
 | 0 => ⟨fun _ _ r h => by simp [impl_Steps.j0] at h, fun _ _ _ _ _ r h => by simp [impl_Steps.l0] at h⟩
 | k + 1 => by
  obtain ⟨ih0, ih1⟩ := impl_Steps.mono_l k
  refine ⟨?_, ?_⟩
  ·
   intro y0 y1
   unfold impl_Steps.j0
   repeat' first | (with_reducible exact ih0 _ _) | (with_reducible exact ih1 _ _ _ _ _) | (with_reducible exact impl_Number.mono _ _) | (with_reducible exact impl_TxsOf.mono _ _) | (with_reducible exact LeO.refl _) | (with_reducible exact LeO.none _) | (with_reducible refine LeO.ite ?_ ?_) | (with_reducible refine LeO.bind ?_ (fun _ => ?_))
  intro y0 y1 y2 y3 y4
  unfold impl_Steps.l0
  repeat' first | (with_reducible exact ih0 _ _) | (with_reducible exact ih1 _ _ _ _ _) | (with_reducible exact impl_Number.mono _ _) | (with_reducible exact impl_TxsOf.mono _ _) | (with_reducible exact LeO.refl _) | (with_reducible exact LeO.none _) | (with_reducible refine LeO.ite ?_ ?_) | (with_reducible refine LeO.bind ?_ (fun _ => ?_))
theorem impl_Steps.mono : ∀ a0 k, LeO (impl_Steps.f k a0) (impl_Steps.f (k + 1) a0) := by
 intro a0 k
 obtain ⟨ih0, ih1⟩ := impl_Steps.mono_l k
 unfold impl_Steps.f
 repeat' first | (with_reducible exact ih0 _ _) | (with_reducible exact ih1 _ _ _ _ _) | (with_reducible exact impl_Number.mono _ _) | (with_reducible exact impl_TxsOf.mono _ _) | (with_reducible exact LeO.refl _) | (with_reducible exact LeO.none _) | (with_reducible refine LeO.ite ?_ ?_) | (with_reducible refine LeO.bind ?_ (fun _ => ?_))
set_option maxHeartbeats 8000000 in
set_option maxRecDepth 100000 in
theorem impl_Steps.calls (k : Nat) (a0 : ByteArray) (r1 : List (S112)) (r2 : Bool) (w : World) (h : impl_Steps.f k a0 = some (r1, r2)) (hG : Glob w := by exact gG HG HB) :
  Calls Tryz.prog 90 #[.string a0] w fun e w' => ∃ v0_ : Value, e = .returned (.tuple #[v0_, .bool r2]) ∧ Kd.S k112 112 w' w.heap.size (fun _ => True) v0_ r1 ∧ Below w.heap.size w w' := by
 have HG := Aside0.mk hG; clear hG; have hu112 := Tryz.underlying112; have HB := Aside0.mk (Below.refl w.heap.size w)
 have H : (if a0.toList = ([] : List UInt8) then (some (([] : List (S112)), true)) else ((impl_Split.f a0 47).bind fun t322 => (if 0 < (t322.length : Int) then (if (rdOf ByteArray.empty t322 0).toList = ([] : List UInt8) then (impl_Steps.j0 k t322 (decide ((wrap64 ((t322.length : Int) - 1)) > 30))) else (impl_Steps.j0 k t322 true)) else (none)))) = some (r1, r2) := h
 clear h
 by_cases c2 : a0.toList = ([] : List UInt8)
 ·
  rw [if_pos c2] at H
  have c2b0 : (a0.toList == ([] : List UInt8)) = true := beq_iff_eq.mpr c2; have c2b1 : (a0.toList != ([] : List UInt8)) = false := bne_eq_false_iff_eq.mpr c2; clear c2
  simp only [Option.some.injEq, Prod.mk.injEq] at H
  obtain ⟨rfl, rfl⟩ := H
  go_enter Tryz.func90, Tryz.ntmps90
  go_wp2
  go_ret2
  exact ⟨_, y0_14, y0_10, bI HB.out⟩
 rw [if_neg c2] at H
 have c2b0 : (a0.toList == ([] : List UInt8)) = false := beq_eq_false_iff_ne.mpr c2; have c2b1 : (a0.toList != ([] : List UInt8)) = true := bne_iff_ne.mpr c2; obtain ⟨t322, A30, H⟩ := Option.bind_eq_some_iff.mp H
 try dsimp only at H
 have A3 := Aside0.mk A30; clear A30; have HC4 := Aside0.mk H; clear H
 go_enter Tryz.func90, Tryz.ntmps90
 go_upto_region 4 with (first | ((with_reducible refine gate_callee (f := 119) rfl ?_); refine gB (some 19) Tryz.func119 #[.string a0, .int .u8 47] ?_; (with_reducible refine (impl_Split.calls a0 47 t322 _ A3.out).mono ?_); rintro e w5 ⟨v323, rfl, ho0, hb⟩; refine ⟨_, rfl, ?_⟩; have HO324 := Aside0.mk (Kd.R_lower ho0 (below_size (bI HB.out))); replace HB := bs HB hb; (try clear hb); (try clear ho0)))
 (try simp only [Act.put, List.setIfInBounds_toArray, List.set_cons_zero, List.set_cons_succ])
 go_cut [29] (fun v29 wc => ∃ (kq : Nat) (x29_3 : Bool), v29 = .bool x29_3 ∧ Aside0 (impl_Steps.j0 kq t322 x29_3 = some (r1, r2)) ∧ Aside0 (kq ≤ k) ∧ Aside0 (Kd.R Kd.string 9 wc w.heap.size (fun _ => True) v323 t322) ∧ Aside0 (Below w.heap.size w wc))
 case first =>
  have H := HC4.out; clear HC4
  by_cases c6 : 0 < (t322.length : Int)
  rotate_left
  ·
   rw [if_neg c6] at H
   exact absurd H (by simp)
  rw [if_pos c6] at H
  have c6b0 : decide (0 < (t322.length : Int)) = true := decide_eq_true c6
  have c6b1 : decide (0 < t322.length) = true := decide_eq_true (by omega)
  clear c6
  (first | rw [c6b0] | (simp only [i64_w, i32_w]; rw [c6b0]) | skip)
  by_cases c7 : (rdOf ByteArray.empty t322 0).toList = ([] : List UInt8)
  ·
   rw [if_pos c7] at H
   have c7b0 : ((rdOf ByteArray.empty t322 0).toList == ([] : List UInt8)) = true := beq_iff_eq.mpr c7; have c7b1 : ((rdOf ByteArray.empty t322 0).toList != ([] : List UInt8)) = false := bne_eq_false_iff_eq.mpr c7; clear c7; have H' := Aside0.mk H; clear H; obtain ⟨Ao8, co8, eo8⟩ := Kd.R_slice HO324.out; subst eo8
   have p325 : 0 ≤ (0 : Int) := (by omega)
   have q325 : 0 < (t322.length : Int) := of_decide_eq_true y0_18; obtain ⟨ad325, e325, hx325_0⟩ := Kd.at_string (Kd.R_reads' HO324.out).2.2 0 p325 q325; cases e325
   have qi325 : (0 < t322.length) = True := eq_true (by omega)
   (try rw [show ((0 : Int)).toNat = 0 from rfl] at hx325_0)
   (try rw [Addr.add_zero'] at hx325_0)
   replace p325 := eq_true p325; replace q325 := eq_true q325
   go_wp2
   go_meet
   case rel => exact ⟨_, (decide ((wrap64 ((t322.length : Int) - 1)) > 30)), y0_19, H', ⟨y0_20⟩, ⟨by (with_reducible repeat (first | apply Kd.R_alloc | apply Kd.R_drewN | apply Kd.R_drew)); exact HO324.out⟩, ⟨bI HB.out⟩⟩
  rw [if_neg c7] at H
  have c7b0 : ((rdOf ByteArray.empty t322 0).toList == ([] : List UInt8)) = false := beq_eq_false_iff_ne.mpr c7; have c7b1 : ((rdOf ByteArray.empty t322 0).toList != ([] : List UInt8)) = true := bne_iff_ne.mpr c7; have H' := Aside0.mk H; clear H; obtain ⟨Ao9, co9, eo9⟩ := Kd.R_slice HO324.out; subst eo9
  have p325 : 0 ≤ (0 : Int) := (by omega)
  have q325 : 0 < (t322.length : Int) := of_decide_eq_true y0_18; obtain ⟨ad325, e325, hx325_0⟩ := Kd.at_string (Kd.R_reads' HO324.out).2.2 0 p325 q325; cases e325
  have qi325 : (0 < t322.length) = True := eq_true (by omega)
  (try rw [show ((0 : Int)).toNat = 0 from rfl] at hx325_0)
  (try rw [Addr.add_zero'] at hx325_0)
  replace p325 := eq_true p325; replace q325 := eq_true q325
  go_wp2
  go_meet
  case rel => exact ⟨_, (true), y0_19, H', ⟨y0_20⟩, ⟨by (with_reducible repeat (first | apply Kd.R_alloc | apply Kd.R_drewN | apply Kd.R_drew)); exact HO324.out⟩, ⟨bI HB.out⟩⟩
 case rest =>
  clear HC4
  try clear c1
  try clear c2
  try clear c2b0
  try clear c2b1
  try clear p2
  try clear p3
  try clear q3
  try clear hx3
  try clear qi3
  try clear c6
  try clear c6b0
  try clear c6b1
  try clear p6
  try clear c7
  try clear c7b0
  try clear c7b1
  try clear c9
  try clear hx325_0
  try clear p325
  try clear q325
  obtain ⟨kq, x29_3, rfl, HA, HJ3, HO_4, HB⟩ := hcut; cases kq with
  | zero => exact absurd HA.out (by simp [impl_Steps.j0])
  | succ kj3 =>
   have H := HA.out; clear HA
   simp only [impl_Steps.j0] at H
   by_cases c10 : x29_3 = true
   ·
    subst c10
    rw [if_pos rfl] at H
    simp only [Option.some.injEq, Prod.mk.injEq] at H
    obtain ⟨rfl, rfl⟩ := H
    go_wp2
    go_ret2
    exact ⟨_, y0_14, y0_10, bI HB.out⟩
   replace c10 := Bool.eq_false_iff.mpr c10; subst c10
   rw [if_neg (show ¬ (false = true) by decide)] at H
   by_cases c11 : 1 ≤ (t322.length : Int)
   ·
    rw [if_pos c11] at H
    have c11b0 := eq_true c11; have c11b1 : decide (1 ≤ (t322.length : Int)) = true := decide_eq_true c11; clear c11; obtain ⟨y326, hy326⟩ : ∃ y_ : List ByteArray, y_ = (t322.drop 1) := ⟨_, rfl⟩
    replace H : (impl_Steps.l0 kj3 ([] : List (S112)) 0 y326 (y326.length : Int) 0) = some (r1, r2) := by first | (rw [hy326]; with_reducible exact H) | (have H2_ := (Option.bind_some _ _).symm.trans H; rw [hy326]; with_reducible exact H2_) | (have H2_ := (Option.bind_some _ _).symm.trans H; with_reducible exact H2_) | with_reducible exact H | (rw [hy326]; exact H) | exact H
    have Ny326 := Aside0.mk hy326; clear hy326; have H' := Aside0.mk H; clear H; obtain ⟨Ao13, co13, eo13⟩ := Kd.R_slice HO_4.out; subst eo13; have q12 : (1 : Int) ≤ ((t322.length : Int) : Int) := of_decide_eq_true y0_18; obtain ⟨i012, hi012, _, hsz12, _⟩ := info_parts info9; have hroom12 : t322.length ≤ co13 := (Kd.R_reads' HO_4.out).2.1; have hC12 : Kd.C Kd.string _ Ao13 t322.length t322 := (Kd.R_reads' HO_4.out).2.2
    have hcut12 := cut_from (P := Tryz.prog) 69 9 .i64 Tryz.underlying69 hi012 1 hsz12 Ao13 t322.length co13 1 (by omega) q12
    have hr12 := Kd.C_drop (m := (1 : Int).toNat) (c := co13) hC12 (by omega) hroom12
    obtain ⟨A12, hA12⟩ : ∃ A1, A1 = (if co13 = (1 : Int).toNat then Ao13 else (Ao13 : Option Addr).map (·.add ((1 : Int).toNat * 1))) := ⟨_, rfl⟩
    obtain ⟨c12, hc12⟩ : ∃ c1, c1 = co13 - (1 : Int).toNat := ⟨_, rfl⟩
    have hy12 : y326.length = t322.length - (1 : Int).toNat := (by rw [Ny326.out, List.length_drop] <;> omega)
    rw [show (t322).drop (1 : Int).toNat = y326 from Ny326.out.symm] at hr12
    replace hr12 : Kd.C Kd.string _ A12 y326.length y326 := (by rw [hA12]; exact hr12)
    rw [← hy12, ← hA12, ← hc12] at hcut12
    have HR329 := Aside0.mk hr12
    have HC329 := Aside0.mk (show y326.length ≤ c12 from by rw [hy12, hc12]; exact Nat.sub_le_sub_right hroom12 _)
    clear hr12 hC12 hroom12 hi012 hsz12 hc12; have KY12 := Aside0.mk hy12; have KA12 := Aside0.mk hA12; clear hy12 hA12
    have KL12 := Aside0.mk (show 1 ≤ t322.length from by omega)
    replace q12 := eq_true q12
    go_wp2
    have HB0 := HB; replace HG := Aside0.mk (HG.out.below HB.out); replace HB := Aside0.mk (Below.refl wc.heap.size wc)
    go_loopg [5, 6, 33] kj3 (fun kq v5 v6 v33 w' => ∃ (x5_2 : List (S112)) (x6_2 : Int) (x33_2 : Int), v6 = .int .i64 x6_2 ∧ v33 = .int .i64 x33_2 ∧ Aside0 (impl_Steps.l0 kq x5_2 x6_2 y326 (y326.length : Int) x33_2 = some (r1, r2)) ∧ Aside0 (kq ≤ kj3) ∧ Aside0 (Kd.S k112 112 w' wc.heap.size (fun _ => True) v5 x5_2) ∧ Aside0 (Below wc.heap.size wc w'))
    case atStart => exact ⟨(([] : List (S112))), (0), (0), y0_19, y0_19, H', ⟨Nat.le_refl _⟩, ⟨y0_10⟩, ⟨bI HB.out⟩⟩
    case round =>
     clear H'
     try clear c1
     try clear q1
     try clear c2
     try clear c2b0
     try clear c2b1
     try clear p2
     try clear p3
     try clear q3
     try clear hx3
     try clear qi3
     try clear c6
     try clear c6b0
     try clear c6b1
     try clear p6
     try clear c7
     try clear c7b0
     try clear c7b1
     try clear c9
     try clear c10
     try clear c11
     try clear c11b0
     try clear c11b1
     try clear c12
     try clear q12
     try clear hx325_0
     try clear p2
     try clear p3
     try clear p325
     try clear p6
     try clear q12
     try clear q3
     try clear q325
     obtain ⟨x5_2, x6_2, x33_2, rfl, rfl, HA, HK2, HO_5, HB⟩ := hrel; cases gk with
     | zero => exact absurd HA.out (by simp [impl_Steps.l0])
     | succ k2 =>
      have H := HA.out; clear HA
      simp only [impl_Steps.l0] at H
      by_cases c14 : x33_2 < (y326.length : Int)
      ·
       rw [if_pos c14] at H
       have c14b0 : decide (x33_2 < (y326.length : Int)) = true := decide_eq_true c14; clear c14
       by_cases c15 : 0 ≤ x33_2
       rotate_left
       ·
        rw [if_neg c15] at H
        exact absurd H (by simp)
       rw [if_pos c15] at H
       have c15b0 : decide (0 ≤ x33_2) = true := decide_eq_true c15; clear c15
       by_cases c16 : x33_2 < (y326.length : Int)
       rotate_left
       ·
        rw [if_neg c16] at H
        exact absurd H (by simp)
       rw [if_pos c16] at H
       have c16b0 : decide (x33_2 < (y326.length : Int)) = true := decide_eq_true c16; clear c16; obtain ⟨⟨t331, t332, t333⟩, A170, H⟩ := Option.bind_eq_some_iff.mp H
       try dsimp only at H
       have A17 := Aside0.mk A170; clear A170; obtain ⟨⟨t334, t335⟩, A180, H⟩ := Option.bind_eq_some_iff.mp H
       try dsimp only at H
       have A18 := Aside0.mk A180; clear A180; obtain ⟨⟨t336, t337⟩, A190, H⟩ := Option.bind_eq_some_iff.mp H
       try dsimp only at H
       have A19 := Aside0.mk A190; clear A190
       by_cases c20 : t333 = true
       ·
        subst c20
        rw [if_pos rfl] at H
        by_cases c21 : t335 = true
        ·
         subst c21
         rw [if_pos rfl] at H
         by_cases c22 : t337 = true
         ·
          subst c22
          rw [if_pos rfl] at H
          obtain ⟨t340, A230, H⟩ := Option.bind_eq_some_iff.mp H
          try dsimp only at H
          have A23 := Aside0.mk A230; clear A230
          by_cases c24 : t340 = true
          ·
           subst c24
           rw [if_pos rfl] at H
           by_cases c25 : (t336.length : Int) > 2
           ·
            rw [if_pos c25] at H
            have c25b0 : decide (2 < (t336.length : Int)) = true := decide_eq_true c25
            have c25b1 : decide (2 < t336.length) = true := decide_eq_true (by omega)
            clear c25
            simp only [Option.some.injEq, Prod.mk.injEq] at H
            obtain ⟨rfl, rfl⟩ := H; have p330 : 0 ≤ (x33_2 : Int) := of_decide_eq_true y0_18; have q330 : x33_2 < (y326.length : Int) := of_decide_eq_true y0_18; obtain ⟨ad330, e330, hx330_0⟩ := Kd.at_string HR329.out x33_2 p330 q330; cases e330; replace hx330_0 := bx HB hx330_0; replace p330 := eq_true p330; replace q330 := eq_true q330
            go_wp2_with (first | ((with_reducible refine gate_callee (f := 120) rfl ?_); refine gB (some 39) Tryz.func120 #[.string (rdOf ByteArray.empty y326 x33_2), .string (⟨#[124]⟩ : ByteArray)] ?_; (with_reducible refine (strings_Cut.calls (rdOf ByteArray.empty y326 x33_2) (⟨#[124]⟩ : ByteArray) t331 t332 true _ A17.out).mono ?_); rintro e w26 ⟨rfl, hb⟩; refine ⟨_, rfl, ?_⟩; replace HO_5 := sb HO_5 hb; replace HB := bs HB hb; (try clear hb); (try clear hb2); (try clear hk); (try clear hi)) | ((with_reducible refine gate_callee (f := 121) rfl ?_); refine gB (some 45) Tryz.func121 #[.string t331] ?_; (with_reducible refine (impl_Number.calls k2 t331 t334 true _ A18.out).mono ?_); rintro e w27 ⟨rfl, hb⟩; refine ⟨_, rfl, ?_⟩; replace HO_5 := sb HO_5 hb; replace HB := bs HB hb; (try clear hb); (try clear hb2); (try clear hk); (try clear hi)) | ((with_reducible refine gate_callee (f := 122) rfl ?_); refine gB (some 50) Tryz.func122 #[.string t332] ?_; (with_reducible refine (impl_TxsOf.calls k2 t332 t336 true _ A19.out).mono ?_); rintro e w28 ⟨v338, rfl, ho0, hb⟩; refine ⟨_, rfl, ?_⟩; replace HO_5 := Aside0.mk (Kd.S_elder' (sI HO_5.out) (Kd.R_base ho0) hb); have HO339 := Aside0.mk (Kd.R_lower ho0 (below_size (bI HB.out))); replace HB := bs HB hb; (try clear hb)) | (go_at_call 99; (with_reducible refine (impl_within.calls t334 (wrap64 (x6_2 + 1)) 60 true _ A23.out).mono ?_); rintro e w' ⟨rfl, ⟨nd, rfl⟩⟩; obtain ⟨Ao29, co29, eo29⟩ := Kd.R_slice HO339.out; subst eo29))
            go_ret2
            exact ⟨_, y0_14, Kd.S_lower (base := wc.heap.size) y0_10 (below_size HB0.out), below_step HB0.out (bI HB.out)⟩
           rw [if_neg c25] at H
           have c25b0 : decide (2 < (t336.length : Int)) = false := decide_eq_false c25
           have c25b1 : decide (2 < t336.length) = false := decide_eq_false (by omega)
           clear c25
           by_cases c30 : x5_2.length < 4398046511104
           rotate_left
           ·
            rw [if_neg c30] at H
            exact absurd H (by simp)
           rw [if_pos c30] at H
           have LMc30 := Aside0.mk c30; clear c30; obtain ⟨y341, hy341⟩ : ∃ y_ : List (S112), y_ = (x5_2 ++ [(⟨t334, t336⟩ : S112)]) := ⟨_, rfl⟩
           replace H : (impl_Steps.l0 k2 y341 t334 y326 (y326.length : Int) (wrap64 (x33_2 + 1))) = some (r1, r2) := by first | (rw [hy341]; with_reducible exact H) | (have H2_ := (Option.bind_some _ _).symm.trans H; rw [hy341]; with_reducible exact H2_) | (have H2_ := (Option.bind_some _ _).symm.trans H; with_reducible exact H2_) | with_reducible exact H | (rw [hy341]; exact H) | exact H
           have Ny341 := Aside0.mk hy341; clear hy341; have H' := Aside0.mk H; clear H; have p330 : 0 ≤ (x33_2 : Int) := of_decide_eq_true y0_18; have q330 : x33_2 < (y326.length : Int) := of_decide_eq_true y0_18; obtain ⟨ad330, e330, hx330_0⟩ := Kd.at_string HR329.out x33_2 p330 q330; cases e330; replace hx330_0 := bx HB hx330_0; replace p330 := eq_true p330; replace q330 := eq_true q330
           go_wp2_with (first | ((with_reducible refine gate_callee (f := 120) rfl ?_); refine gB (some 39) Tryz.func120 #[.string (rdOf ByteArray.empty y326 x33_2), .string (⟨#[124]⟩ : ByteArray)] ?_; (with_reducible refine (strings_Cut.calls (rdOf ByteArray.empty y326 x33_2) (⟨#[124]⟩ : ByteArray) t331 t332 true _ A17.out).mono ?_); rintro e w31 ⟨rfl, hb⟩; refine ⟨_, rfl, ?_⟩; replace HO_5 := sb HO_5 hb; replace HB := bs HB hb; (try clear hb); (try clear hb2); (try clear hk); (try clear hi)) | ((with_reducible refine gate_callee (f := 121) rfl ?_); refine gB (some 45) Tryz.func121 #[.string t331] ?_; (with_reducible refine (impl_Number.calls k2 t331 t334 true _ A18.out).mono ?_); rintro e w32 ⟨rfl, hb⟩; refine ⟨_, rfl, ?_⟩; replace HO_5 := sb HO_5 hb; replace HB := bs HB hb; (try clear hb); (try clear hb2); (try clear hk); (try clear hi)) | ((with_reducible refine gate_callee (f := 122) rfl ?_); refine gB (some 50) Tryz.func122 #[.string t332] ?_; (with_reducible refine (impl_TxsOf.calls k2 t332 t336 true _ A19.out).mono ?_); rintro e w33 ⟨v338, rfl, ho0, hb⟩; refine ⟨_, rfl, ?_⟩; replace HO_5 := Aside0.mk (Kd.S_elder' (sI HO_5.out) (Kd.R_base ho0) hb); have HO339 := Aside0.mk (Kd.R_lower ho0 (below_size (bI HB.out))); replace HB := bs HB hb; (try clear hb)) | (go_at_call 99; (with_reducible refine (impl_within.calls t334 (wrap64 (x6_2 + 1)) 60 true _ A23.out).mono ?_); rintro e w' ⟨rfl, ⟨nd, rfl⟩⟩; obtain ⟨Ao34, co34, eo34⟩ := Kd.R_slice HO339.out; subst eo34) | ((with_reducible refine gate_builtin (b := .append) (xs := #[.tmp 75, .tmp 79]) rfl ?_); (try (refine gate_guard (by rfl) ?_; dsimp only)); at_builtin; refine Kd.S_append k112 (w0 := wc) wc.heap.size rfl (.tmp 75) (.tmp 79) 108 112 (.agg #[(.int .i64 0), (.slice none 0 0)]) 32 rfl Tryz.underlying108 info112 rfl (by decide) (by omega) u5 x5_2 (⟨t334, t336⟩ : S112) [.int .i64 t334, .slice Ao34 t336.length co34] (fun _ => True) (fun k_ => some k_ = (.slice Ao34 t336.length co34 : Value).ownBlock) rfl rfl ?aP (fun k_ hk_ => ((Kd.R_mono (ok' := fun k_ => ((fun _ => True)) k_ ∧ some k_ ≠ (u5 : Value).ownBlock) (Kd.R_apart' (HO339.out) (Kd.S_typed HO_5.out) (by decide)) (fun k_ hk => ⟨trivial, hk.2⟩))).1 k_ hk_.symm) ?aF ?aO ?aB ?aS ?aL ?_; (case aP => exact k112_mkM _ _ _ (⟨t334, t336⟩ : S112) (Kd.R_mono (Kd.R_tight rfl (Kd.R_mono (ok' := fun k_ => ((fun _ => True)) k_ ∧ some k_ ≠ (u5 : Value).ownBlock) (Kd.R_apart' (HO339.out) (Kd.S_typed HO_5.out) (by decide)) (fun k_ hk => ⟨trivial, hk.2⟩))) (fun _ h_ => h_))); (case aB => exact (bI HB.out)); (case aF => exact (fun _ _ => trivial)); (case aO => exact (sI (Kd.S_mono HO_5.out (fun k_ hk => ⟨trivial, fun e_ => hk.2 e_⟩)))); (case aS => exact (below_size (bI HB.out))); (case aL => have := LMc30.out; omega); intro v342 w35 ho hb hg hat; rw [← Ny341.out] at ho; have n0_ := Aside0.mk (hb); have n1_ := Aside0.mk (ho); clear HB; clear HO_5; clear HO339; have HB := n0_; have HO343 := n1_; clear n0_ n1_; clear ho hb hg hat))
           go_roundg k2
           case measure => have := HJ3.out; have := HK2.out; omega
           case rel => exact ⟨(y341), (t334), (wrap64 (x33_2 + 1)), y0_19, y0_19, H', ⟨by have := HJ3.out; have := HK2.out; omega⟩, ⟨by (with_reducible repeat (first | apply Kd.S_alloc | apply Kd.S_drewN | apply Kd.S_drew)); exact HO343.out⟩, ⟨bI HB.out⟩⟩
          replace c24 := Bool.eq_false_iff.mpr c24; subst c24
          rw [if_neg (show ¬ (false = true) by decide)] at H
          simp only [Option.some.injEq, Prod.mk.injEq] at H
          obtain ⟨rfl, rfl⟩ := H; have p330 : 0 ≤ (x33_2 : Int) := of_decide_eq_true y0_18; have q330 : x33_2 < (y326.length : Int) := of_decide_eq_true y0_18; obtain ⟨ad330, e330, hx330_0⟩ := Kd.at_string HR329.out x33_2 p330 q330; cases e330; replace hx330_0 := bx HB hx330_0; replace p330 := eq_true p330; replace q330 := eq_true q330
          go_wp2_with (first | ((with_reducible refine gate_callee (f := 120) rfl ?_); refine gB (some 39) Tryz.func120 #[.string (rdOf ByteArray.empty y326 x33_2), .string (⟨#[124]⟩ : ByteArray)] ?_; (with_reducible refine (strings_Cut.calls (rdOf ByteArray.empty y326 x33_2) (⟨#[124]⟩ : ByteArray) t331 t332 true _ A17.out).mono ?_); rintro e w36 ⟨rfl, hb⟩; refine ⟨_, rfl, ?_⟩; replace HO_5 := sb HO_5 hb; replace HB := bs HB hb; (try clear hb); (try clear hb2); (try clear hk); (try clear hi)) | ((with_reducible refine gate_callee (f := 121) rfl ?_); refine gB (some 45) Tryz.func121 #[.string t331] ?_; (with_reducible refine (impl_Number.calls k2 t331 t334 true _ A18.out).mono ?_); rintro e w37 ⟨rfl, hb⟩; refine ⟨_, rfl, ?_⟩; replace HO_5 := sb HO_5 hb; replace HB := bs HB hb; (try clear hb); (try clear hb2); (try clear hk); (try clear hi)) | ((with_reducible refine gate_callee (f := 122) rfl ?_); refine gB (some 50) Tryz.func122 #[.string t332] ?_; (with_reducible refine (impl_TxsOf.calls k2 t332 t336 true _ A19.out).mono ?_); rintro e w38 ⟨v338, rfl, ho0, hb⟩; refine ⟨_, rfl, ?_⟩; replace HO_5 := Aside0.mk (Kd.S_elder' (sI HO_5.out) (Kd.R_base ho0) hb); have HO339 := Aside0.mk (Kd.R_lower ho0 (below_size (bI HB.out))); replace HB := bs HB hb; (try clear hb)) | (go_at_call 99; (with_reducible refine (impl_within.calls t334 (wrap64 (x6_2 + 1)) 60 false _ A23.out).mono ?_); rintro e w' ⟨rfl, ⟨nd, rfl⟩⟩))
          go_ret2
          exact ⟨_, y0_14, Kd.S_lower (base := wc.heap.size) y0_10 (below_size HB0.out), below_step HB0.out (bI HB.out)⟩
         replace c22 := Bool.eq_false_iff.mpr c22; subst c22
         rw [if_neg (show ¬ (false = true) by decide)] at H
         simp only [Option.some.injEq, Prod.mk.injEq] at H
         obtain ⟨rfl, rfl⟩ := H; have p330 : 0 ≤ (x33_2 : Int) := of_decide_eq_true y0_18; have q330 : x33_2 < (y326.length : Int) := of_decide_eq_true y0_18; obtain ⟨ad330, e330, hx330_0⟩ := Kd.at_string HR329.out x33_2 p330 q330; cases e330; replace hx330_0 := bx HB hx330_0; replace p330 := eq_true p330; replace q330 := eq_true q330
         go_wp2_with (first | ((with_reducible refine gate_callee (f := 120) rfl ?_); refine gB (some 39) Tryz.func120 #[.string (rdOf ByteArray.empty y326 x33_2), .string (⟨#[124]⟩ : ByteArray)] ?_; (with_reducible refine (strings_Cut.calls (rdOf ByteArray.empty y326 x33_2) (⟨#[124]⟩ : ByteArray) t331 t332 true _ A17.out).mono ?_); rintro e w39 ⟨rfl, hb⟩; refine ⟨_, rfl, ?_⟩; replace HO_5 := sb HO_5 hb; replace HB := bs HB hb; (try clear hb); (try clear hb2); (try clear hk); (try clear hi)) | ((with_reducible refine gate_callee (f := 121) rfl ?_); refine gB (some 45) Tryz.func121 #[.string t331] ?_; (with_reducible refine (impl_Number.calls k2 t331 t334 true _ A18.out).mono ?_); rintro e w40 ⟨rfl, hb⟩; refine ⟨_, rfl, ?_⟩; replace HO_5 := sb HO_5 hb; replace HB := bs HB hb; (try clear hb); (try clear hb2); (try clear hk); (try clear hi)) | ((with_reducible refine gate_callee (f := 122) rfl ?_); refine gB (some 50) Tryz.func122 #[.string t332] ?_; (with_reducible refine (impl_TxsOf.calls k2 t332 t336 false _ A19.out).mono ?_); rintro e w41 ⟨v338, rfl, ho0, hb⟩; refine ⟨_, rfl, ?_⟩; replace HO_5 := Aside0.mk (Kd.S_elder' (sI HO_5.out) (Kd.R_base ho0) hb); have HO339 := Aside0.mk (Kd.R_lower ho0 (below_size (bI HB.out))); replace HB := bs HB hb; (try clear hb)))
         go_ret2
         exact ⟨_, y0_14, Kd.S_lower (base := wc.heap.size) y0_10 (below_size HB0.out), below_step HB0.out (bI HB.out)⟩
        replace c21 := Bool.eq_false_iff.mpr c21; subst c21
        rw [if_neg (show ¬ (false = true) by decide)] at H
        simp only [Option.some.injEq, Prod.mk.injEq] at H
        obtain ⟨rfl, rfl⟩ := H; have p330 : 0 ≤ (x33_2 : Int) := of_decide_eq_true y0_18; have q330 : x33_2 < (y326.length : Int) := of_decide_eq_true y0_18; obtain ⟨ad330, e330, hx330_0⟩ := Kd.at_string HR329.out x33_2 p330 q330; cases e330; replace hx330_0 := bx HB hx330_0; replace p330 := eq_true p330; replace q330 := eq_true q330
        go_wp2_with (first | ((with_reducible refine gate_callee (f := 120) rfl ?_); refine gB (some 39) Tryz.func120 #[.string (rdOf ByteArray.empty y326 x33_2), .string (⟨#[124]⟩ : ByteArray)] ?_; (with_reducible refine (strings_Cut.calls (rdOf ByteArray.empty y326 x33_2) (⟨#[124]⟩ : ByteArray) t331 t332 true _ A17.out).mono ?_); rintro e w42 ⟨rfl, hb⟩; refine ⟨_, rfl, ?_⟩; replace HO_5 := sb HO_5 hb; replace HB := bs HB hb; (try clear hb); (try clear hb2); (try clear hk); (try clear hi)) | ((with_reducible refine gate_callee (f := 121) rfl ?_); refine gB (some 45) Tryz.func121 #[.string t331] ?_; (with_reducible refine (impl_Number.calls k2 t331 t334 false _ A18.out).mono ?_); rintro e w43 ⟨rfl, hb⟩; refine ⟨_, rfl, ?_⟩; replace HO_5 := sb HO_5 hb; replace HB := bs HB hb; (try clear hb); (try clear hb2); (try clear hk); (try clear hi)) | ((with_reducible refine gate_callee (f := 122) rfl ?_); refine gB (some 50) Tryz.func122 #[.string t332] ?_; (with_reducible refine (impl_TxsOf.calls k2 t332 t336 t337 _ A19.out).mono ?_); rintro e w44 ⟨v338, rfl, ho0, hb⟩; refine ⟨_, rfl, ?_⟩; replace HO_5 := Aside0.mk (Kd.S_elder' (sI HO_5.out) (Kd.R_base ho0) hb); have HO339 := Aside0.mk (Kd.R_lower ho0 (below_size (bI HB.out))); replace HB := bs HB hb; (try clear hb)))
        go_ret2
        exact ⟨_, y0_14, Kd.S_lower (base := wc.heap.size) y0_10 (below_size HB0.out), below_step HB0.out (bI HB.out)⟩
       replace c20 := Bool.eq_false_iff.mpr c20; subst c20
       rw [if_neg (show ¬ (false = true) by decide)] at H
       simp only [Option.some.injEq, Prod.mk.injEq] at H
       obtain ⟨rfl, rfl⟩ := H; have p330 : 0 ≤ (x33_2 : Int) := of_decide_eq_true y0_18; have q330 : x33_2 < (y326.length : Int) := of_decide_eq_true y0_18; obtain ⟨ad330, e330, hx330_0⟩ := Kd.at_string HR329.out x33_2 p330 q330; cases e330; replace hx330_0 := bx HB hx330_0; replace p330 := eq_true p330; replace q330 := eq_true q330
       go_wp2_with (first | ((with_reducible refine gate_callee (f := 120) rfl ?_); refine gB (some 39) Tryz.func120 #[.string (rdOf ByteArray.empty y326 x33_2), .string (⟨#[124]⟩ : ByteArray)] ?_; (with_reducible refine (strings_Cut.calls (rdOf ByteArray.empty y326 x33_2) (⟨#[124]⟩ : ByteArray) t331 t332 false _ A17.out).mono ?_); rintro e w45 ⟨rfl, hb⟩; refine ⟨_, rfl, ?_⟩; replace HO_5 := sb HO_5 hb; replace HB := bs HB hb; (try clear hb); (try clear hb2); (try clear hk); (try clear hi)) | ((with_reducible refine gate_callee (f := 121) rfl ?_); refine gB (some 45) Tryz.func121 #[.string t331] ?_; (with_reducible refine (impl_Number.calls k2 t331 t334 t335 _ A18.out).mono ?_); rintro e w46 ⟨rfl, hb⟩; refine ⟨_, rfl, ?_⟩; replace HO_5 := sb HO_5 hb; replace HB := bs HB hb; (try clear hb); (try clear hb2); (try clear hk); (try clear hi)) | ((with_reducible refine gate_callee (f := 122) rfl ?_); refine gB (some 50) Tryz.func122 #[.string t332] ?_; (with_reducible refine (impl_TxsOf.calls k2 t332 t336 t337 _ A19.out).mono ?_); rintro e w47 ⟨v338, rfl, ho0, hb⟩; refine ⟨_, rfl, ?_⟩; replace HO_5 := Aside0.mk (Kd.S_elder' (sI HO_5.out) (Kd.R_base ho0) hb); have HO339 := Aside0.mk (Kd.R_lower ho0 (below_size (bI HB.out))); replace HB := bs HB hb; (try clear hb)))
       go_ret2
       exact ⟨_, y0_14, Kd.S_lower (base := wc.heap.size) y0_10 (below_size HB0.out), below_step HB0.out (bI HB.out)⟩
      rw [if_neg c14] at H
      have c14b0 : decide (x33_2 < (y326.length : Int)) = false := decide_eq_false c14; clear c14
      simp only [Option.some.injEq, Prod.mk.injEq] at H
      obtain ⟨rfl, rfl⟩ := H
      go_wp2
      go_ret2
      exact ⟨_, y0_14, Kd.S_lower (base := wc.heap.size) (by (with_reducible repeat (first | apply Kd.S_alloc | apply Kd.S_drewN | apply Kd.S_drew)); exact HO_5.out) (below_size HB0.out), below_step HB0.out (bI HB.out)⟩
   rw [if_neg c11] at H
   exact absurd H (by simp)

/-! ### impl_ViewOf: function 44 -/
def impl_ViewOf.f (k : Nat) (a0 : ByteArray) : Option (Int) := (impl_Steps.f k a0).bind fun bt344 => (if (bt344.1.length : Int) = 0 then (some 0) else (if 0 ≤ (wrap64 ((bt344.1.length : Int) - 1)) then (if (wrap64 ((bt344.1.length : Int) - 1)) < (bt344.1.length : Int) then (some ((rd_T112 bt344.1 (wrap64 ((bt344.1.length : Int) - 1))).f0)) else (none)) else (none)))
theorem impl_ViewOf.mono : ∀ a0 k, LeO (impl_ViewOf.f k a0) (impl_ViewOf.f (k + 1) a0) := by
 intro a0 k
 unfold impl_ViewOf.f
 repeat' first | (with_reducible exact impl_Steps.mono _ _) | (with_reducible exact LeO.refl _) | (with_reducible exact LeO.none _) | (with_reducible refine LeO.ite ?_ ?_) | (with_reducible refine LeO.bind ?_ (fun _ => ?_))
set_option maxHeartbeats 8000000 in
set_option maxRecDepth 100000 in
theorem impl_ViewOf.calls (k : Nat) (a0 : ByteArray) (r : Int) (w : World) (h : impl_ViewOf.f k a0 = some r) (hG : Glob w := by exact gG HG HB) :
  Calls Tryz.prog 44 #[.string a0] w fun e w' => e = .returned (.int .i64 r) ∧ Below w.heap.size w w' := by
 have HG := Aside0.mk hG; clear hG; have HB := Aside0.mk (Below.refl w.heap.size w)
 have H : ((impl_Steps.f k a0).bind fun bt344 => (if (bt344.1.length : Int) = 0 then (some 0) else (if 0 ≤ (wrap64 ((bt344.1.length : Int) - 1)) then (if (wrap64 ((bt344.1.length : Int) - 1)) < (bt344.1.length : Int) then (some ((rd_T112 bt344.1 (wrap64 ((bt344.1.length : Int) - 1))).f0)) else (none)) else (none)))) = some r := h
 clear h; obtain ⟨⟨t344, t345⟩, A20, H⟩ := Option.bind_eq_some_iff.mp H
 try dsimp only at H
 have A2 := Aside0.mk A20; clear A20
 by_cases c3 : (t344.length : Int) = 0
 ·
  rw [if_pos c3] at H
  have c3b0 : ((t344.length : Int) == 0) = true := beq_iff_eq.mpr c3; have c3b1 : ((t344.length : Int) != 0) = false := bne_eq_false_iff_eq.mpr c3; clear c3; obtain rfl := Option.some.inj H
  go_enter Tryz.func44, Tryz.ntmps44
  go_wp2_with (first | ((with_reducible refine gate_callee (f := 90) rfl ?_); refine gB (some 7) Tryz.func90 #[.string a0] ?_; (with_reducible refine (impl_Steps.calls k a0 t344 t345 _ A2.out).mono ?_); rintro e w4 ⟨v346, rfl, ho0, hb⟩; refine ⟨_, rfl, ?_⟩; have HO347 := Aside0.mk (Kd.S_lower ho0 (below_size (bI HB.out))); replace HB := bs HB hb; (try clear hb); (try clear ho0); obtain ⟨Ao5, co5, eo5⟩ := Kd.S_slice HO347.out; subst eo5))
  go_ret
  exact ⟨y0_14, bI HB.out⟩
 rw [if_neg c3] at H
 have c3b0 : ((t344.length : Int) == 0) = false := beq_eq_false_iff_ne.mpr c3; have c3b1 : ((t344.length : Int) != 0) = true := bne_iff_ne.mpr c3
 have c3b2 : ¬ (t344 = []) := fun h_ => c3 (by rw [h_]; rfl)
 obtain ⟨ji6, hji6⟩ : ∃ j_ : Int, (wrap64 ((t344.length : Int) - 1)) = j_ := ⟨_, rfl⟩
 replace H : (if 0 ≤ (ji6) then (if (ji6) < (t344.length : Int) then (some ((rd_T112 t344 (ji6)).f0)) else (none)) else (none)) = some r := by first | (rw [hji6] at H; exact H) | (simp only [hji6] at H ⊢; exact H)
 (try rw [hji6] at A2)
 have hji6w : (IntKind.i64.wrap ((t344.length : Int) - 1)) = ji6 := (i64_w _).trans hji6
 by_cases c7 : 0 ≤ (ji6)
 ·
  rw [if_pos c7] at H
  have c7b0 : decide (0 ≤ (ji6)) = true := decide_eq_true c7; clear c7
  by_cases c8 : (ji6) < (t344.length : Int)
  rotate_left
  ·
   rw [if_neg c8] at H
   exact absurd H (by simp)
  rw [if_pos c8] at H
  have c8b0 : decide ((ji6) < (t344.length : Int)) = true := decide_eq_true c8; clear c8; obtain rfl := Option.some.inj H
  go_enter Tryz.func44, Tryz.ntmps44
  go_wp2_with (first | ((with_reducible refine gate_callee (f := 90) rfl ?_); refine gB (some 7) Tryz.func90 #[.string a0] ?_; (with_reducible refine (impl_Steps.calls k a0 t344 t345 _ A2.out).mono ?_); rintro e w9 ⟨v346, rfl, ho0, hb⟩; refine ⟨_, rfl, ?_⟩; have HO347 := Aside0.mk (Kd.S_lower ho0 (below_size (bI HB.out))); replace HB := bs HB hb; (try clear hb); (try clear ho0); obtain ⟨Ao10, co10, eo10⟩ := Kd.S_slice HO347.out; subst eo10; have p348 : 0 ≤ ((ji6) : Int) := of_decide_eq_true y0_18; have q348 : (ji6) < (t344.length : Int) := of_decide_eq_true y0_18; obtain ⟨ad348, A348_1, c348_1, e348, hx348_0, hx348_1, hl348_1, hi348_1⟩ := at_T112 (Kd.S_reads' HO347.out).2.2 (ji6) p348 q348; cases e348; obtain ⟨ce348, hce348, hMe348, hcc348⟩ := Kd.S_get HO347.out z112 (ji6) p348 (by first | exact q348 | exact of_decide_eq_true y0_18 | (have e_ := (Kd.S_reads' HO347.out).1; omega)); obtain ⟨ve348_1, rfl, ge348_1⟩ := k112_openM hMe348; have hv348_1 := hcc348 1 _ rfl; rw [add_field _ _ 1 (by omega)] at hv348_1; replace hv348_1 := Option.some.inj (hv348_1.symm.trans hx348_1); rw [hv348_1] at ge348_1; have HL348_1 := Aside0.mk (show Kd.R k99 99 _ _ _ _ ((rd_T112 t344 (ji6)).f1) from ge348_1); clear hv348_1 ge348_1; clear hcc348 hce348; have HR348_1 := Aside0.mk hi348_1; have HC348_1 := Aside0.mk hl348_1; clear hi348_1 hl348_1; replace p348 := eq_true p348; replace q348 := eq_true q348))
  go_ret
  exact ⟨by first | rfl | (simp [errW_none, errW_some] <;> rfl) | (simp only [← hji6]; first | rfl | (simp [errW_none, errW_some] <;> rfl)) | (simp [*, errW_none, errW_some] <;> rfl), bI HB.out⟩
 rw [if_neg c7] at H
 exact absurd H (by simp)

/-! ### impl_QcFirst: function 39 -/
def impl_QcFirst.f  : Option (Int × ByteArray × List Int) := some (0, (⟨#[]⟩ : ByteArray), ([] : List Int))
set_option maxHeartbeats 8000000 in
set_option maxRecDepth 100000 in
theorem impl_QcFirst.calls  (r1 : Int) (r2 : ByteArray) (r3 : List Int) (w : World) (h : impl_QcFirst.f  = some (r1, r2, r3)) :
  Calls Tryz.prog 39 #[] w fun e w' => ∃ v2_ : Value, e = .returned (.agg #[.int .i64 r1, .string r2, v2_]) ∧ Kd.R (Kd.int .i64) 3 w' w.heap.size (fun _ => True) v2_ r3 ∧ Below w.heap.size w w' := by
 have hu33 := Tryz.underlying33; have HB := Aside0.mk (Below.refl w.heap.size w); have H : (some (0, (⟨#[]⟩ : ByteArray), ([] : List Int))) = some (r1, r2, r3) := h; clear h
 simp only [Option.some.injEq, Prod.mk.injEq] at H
 obtain ⟨rfl, rfl, rfl⟩ := H
 go_enter Tryz.func39, Tryz.ntmps39
 go_wp2_with (first | ((with_reducible refine gd 0 ?_); refine bL 0 #[.int .i64 0, .string (⟨#[]⟩ : ByteArray), .slice none 0 0] 33 ?_; intro gb349 w1 _ _ _))
 refine bodyPost_ret (results_cell_row rfl _ _ gb349 33 #[.int .i64 0, .string (⟨#[]⟩ : ByteArray), .slice none 0 0] (0, 0) _ rfl xB Tryz.underlying33 rfl (by kernel_rfl)) rfl ?_
 exact ⟨_, y0_19, Kd.R_nil _ _ _ _ _, UpW.out⟩

/-! ### impl_ConfOk: function 54 -/
def impl_ConfOk.f (a0_0 : Int) (a0_1 : Int) : Option (Bool) := (impl_within.f a0_0 4 7).bind fun t351 => (if t351 = true then ((impl_within.f a0_1 1 6).bind fun t352 => (some t352)) else (some false))
set_option maxHeartbeats 8000000 in
set_option maxRecDepth 100000 in
theorem impl_ConfOk.calls (a0_0 : Int) (a0_1 : Int) (r : Bool) (w : World) (h : impl_ConfOk.f a0_0 a0_1 = some r) :
  Calls Tryz.prog 54 #[.agg #[.int .i64 a0_0, .int .i64 a0_1]] w fun e w' => e = .returned (.bool r) ∧ Below w.heap.size w w' := by
 have hu38 := Tryz.underlying38; have HB := Aside0.mk (Below.refl w.heap.size w)
 have H : ((impl_within.f a0_0 4 7).bind fun t351 => (if t351 = true then ((impl_within.f a0_1 1 6).bind fun t352 => (some t352)) else (some false))) = some r := h
 clear h; obtain ⟨t351, A20, H⟩ := Option.bind_eq_some_iff.mp H
 try dsimp only at H
 have A2 := Aside0.mk A20; clear A20
 by_cases c3 : t351 = true
 ·
  subst c3
  rw [if_pos rfl] at H
  obtain ⟨t352, A40, H⟩ := Option.bind_eq_some_iff.mp H
  try dsimp only at H
  have A4 := Aside0.mk A40; clear A40; obtain rfl := Option.some.inj H
  go_enter Tryz.func54, Tryz.ntmps54
  go_wp2_with (first | ((with_reducible refine gd 1 ?_); refine bL 1 #[.int .i64 a0_0, .int .i64 a0_1] 38 ?_; intro gb350 w5 _ _ _) | ((with_reducible refine gate_callee (f := 99) rfl ?_); refine gD (some 5) Tryz.func99 (impl_within.calls (w := _) (h := A2.out)) ?_; intro w6 _) | (go_at_call 99; refine aD (impl_within.calls (w := _) (h := A4.out)) ?_; intro w7 _))
  go_ret
  exact ⟨y0_19, UpW.out⟩
 replace c3 := Bool.eq_false_iff.mpr c3; subst c3
 rw [if_neg (show ¬ (false = true) by decide)] at H
 obtain rfl := Option.some.inj H
 go_enter Tryz.func54, Tryz.ntmps54
 go_wp2_with (first | ((with_reducible refine gd 1 ?_); refine bL 1 #[.int .i64 a0_0, .int .i64 a0_1] 38 ?_; intro gb350 w8 _ _ _) | ((with_reducible refine gate_callee (f := 99) rfl ?_); refine gD (some 5) Tryz.func99 (impl_within.calls (w := _) (h := A2.out)) ?_; intro w9 _))
 go_ret
 exact ⟨y0_19, UpW.out⟩

/-! ### impl_Faults: function 50 -/
def impl_Faults.f (a0_0 : Int) (a0_1 : Int) : Option (Int) := (impl_ConfOk.f a0_0 a0_1).bind fun t354 => (if t354 = true then (some (wrap64 (Int.tdiv (wrap64 (a0_0 - 1)) 3))) else (some 0))
set_option maxHeartbeats 8000000 in
set_option maxRecDepth 100000 in
theorem impl_Faults.calls (a0_0 : Int) (a0_1 : Int) (r : Int) (w : World) (h : impl_Faults.f a0_0 a0_1 = some r) :
  Calls Tryz.prog 50 #[.agg #[.int .i64 a0_0, .int .i64 a0_1]] w fun e w' => e = .returned (.int .i64 r) ∧ Below w.heap.size w w' := by
 have hu38 := Tryz.underlying38; have HB := Aside0.mk (Below.refl w.heap.size w)
 have H : ((impl_ConfOk.f a0_0 a0_1).bind fun t354 => (if t354 = true then (some (wrap64 (Int.tdiv (wrap64 (a0_0 - 1)) 3))) else (some 0))) = some r := h
 clear h; obtain ⟨t354, A20, H⟩ := Option.bind_eq_some_iff.mp H
 try dsimp only at H
 have A2 := Aside0.mk A20; clear A20
 by_cases c3 : t354 = true
 ·
  subst c3
  rw [if_pos rfl] at H
  obtain rfl := Option.some.inj H
  go_enter Tryz.func50, Tryz.ntmps50
  go_wp2_with (first | ((with_reducible refine gd 1 ?_); refine bL 1 #[.int .i64 a0_0, .int .i64 a0_1] 38 ?_; intro gb353 w4 _ _ _) | ((with_reducible refine gate_callee (f := 54) rfl ?_); refine gC (some 4) Tryz.func54 (impl_ConfOk.calls (w := _) (h := A2.out)) ?_; intro w5 _))
  go_ret
  exact ⟨y0_19, UpW.out⟩
 replace c3 := Bool.eq_false_iff.mpr c3; subst c3
 rw [if_neg (show ¬ (false = true) by decide)] at H
 obtain rfl := Option.some.inj H
 go_enter Tryz.func50, Tryz.ntmps50
 go_wp2_with (first | ((with_reducible refine gd 1 ?_); refine bL 1 #[.int .i64 a0_0, .int .i64 a0_1] 38 ?_; intro gb353 w6 _ _ _) | ((with_reducible refine gate_callee (f := 54) rfl ?_); refine gC (some 4) Tryz.func54 (impl_ConfOk.calls (w := _) (h := A2.out)) ?_; intro w7 _))
 go_ret
 exact ⟨y0_19, UpW.out⟩

/-! ### impl_Quorum: function 52 -/
def impl_Quorum.f (a0_0 : Int) (a0_1 : Int) : Option (Int) := (impl_ConfOk.f a0_0 a0_1).bind fun t356 => (if t356 = true then ((impl_Faults.f a0_0 a0_1).bind fun t357 => (some (wrap64 (a0_0 - t357)))) else (some 0))
def impl_Quorum.T3 : Bool × List (List Nat × List Nat) := (true, [([], []), ([0], [0]), ([], []), ([2], [2]), ([1, 3], [1, 3]), ([4, 3, 0, 1, 2, 3, 4], [4])])
def impl_Quorum.B3 : List Nat := [0, 1, 0, 4, 15, 31]
theorem impl_Quorum.tab3 : rtab .any (opsOf Tryz.f52 3) = impl_Quorum.T3 := by kernel_rfl
theorem impl_Quorum.bits3 : waitsOk impl_Quorum.T3.2 impl_Quorum.B3 = true := by kernel_rfl
set_option maxHeartbeats 8000000 in
set_option maxRecDepth 100000 in
theorem impl_Quorum.calls (a0_0 : Int) (a0_1 : Int) (r : Int) (w : World) (h : impl_Quorum.f a0_0 a0_1 = some r) :
  Calls Tryz.prog 52 #[.agg #[.int .i64 a0_0, .int .i64 a0_1]] w fun e w' => e = .returned (.int .i64 r) ∧ Below w.heap.size w w' := by
 have hu38 := Tryz.underlying38; have HB := Aside0.mk (Below.refl w.heap.size w)
 have H : ((impl_ConfOk.f a0_0 a0_1).bind fun t356 => (if t356 = true then ((impl_Faults.f a0_0 a0_1).bind fun t357 => (some (wrap64 (a0_0 - t357)))) else (some 0))) = some r := h
 clear h; obtain ⟨t356, A20, H⟩ := Option.bind_eq_some_iff.mp H
 try dsimp only at H
 have A2 := Aside0.mk A20; clear A20
 by_cases c3 : t356 = true
 ·
  subst c3
  rw [if_pos rfl] at H
  obtain ⟨t357, A40, H⟩ := Option.bind_eq_some_iff.mp H
  try dsimp only at H
  have A4 := Aside0.mk A40; clear A40; obtain rfl := Option.some.inj H
  go_enter Tryz.func52, Tryz.ntmps52
  try go_wp2_with (first | ((with_reducible refine gd 1 ?_); refine bL 1 #[.int .i64 a0_0, .int .i64 a0_1] 38 ?_; intro gb355 w5 _ _ _) | ((with_reducible refine gate_callee (f := 54) rfl ?_); refine gC (some 4) Tryz.func54 (impl_ConfOk.calls (w := _) (h := A2.out)) ?_; intro w6 _))
  refine sB [] impl_Quorum.tab3 impl_Quorum.bits3 ?_; intro w7 _ HT_ HW_
  refine pA 0 (some 6) (bz 6 1) HT_ ?_
  refine tB 1 (some 7) (bz 6 3) HT_ HW_ ?_
  refine tB 2 (some 8) (bz 6 7) HT_ HW_ ?_
  refine o1 3 (some 9) (bz 6 15) HT_ rfl (kC Tryz.func50 (impl_Faults.calls (w := _) (h := A4.out)) ?_); intro w8 _
  refine nA (some 9) ?_
  refine pA 4 (some 10) (bz 6 31) HT_ ?_
  refine pA 5 (some 2) (bz 6 63) HT_ ?_
  refine done_ (done_of HT_.out (by kernel_rfl)) ?_
  try go_wp2
  go_ret
  exact ⟨y0_19, UpW.out⟩
 replace c3 := Bool.eq_false_iff.mpr c3; subst c3
 rw [if_neg (show ¬ (false = true) by decide)] at H
 obtain rfl := Option.some.inj H
 go_enter Tryz.func52, Tryz.ntmps52
 go_wp2_with (first | ((with_reducible refine gd 1 ?_); refine bL 1 #[.int .i64 a0_0, .int .i64 a0_1] 38 ?_; intro gb355 w9 _ _ _) | ((with_reducible refine gate_callee (f := 54) rfl ?_); refine gC (some 4) Tryz.func54 (impl_ConfOk.calls (w := _) (h := A2.out)) ?_; intro w10 _))
 go_ret
 exact ⟨y0_19, UpW.out⟩

/-! ### slices_Equal_int_int: function 101 -/
def slices_Equal_int_int.l0 : Nat → List Int → List Int → Int → Int → Option (Bool)
 | 0, _, _, _, _ => none
 | k + 1, x0, x1, x12, x13 => if x13 < x12 then (if 0 ≤ x13 then (if x13 < (x0.length : Int) then (if x13 < (x1.length : Int) then (if (rd x0 x13) = (rd x1 x13) then (slices_Equal_int_int.l0 k x0 x1 x12 (wrap64 (x13 + 1))) else (some false)) else (none)) else (none)) else (none)) else (some true)
def slices_Equal_int_int.f (k : Nat) (l0 : List Int) (l1 : List Int) : Option (Bool) := if (l0.length : Int) = (l1.length : Int) then (slices_Equal_int_int.l0 k l0 l1 (l0.length : Int) 0) else (some false)
theorem slices_Equal_int_int.mono_l : ∀ k, (∀ y0 y1 y2 y3, LeO (slices_Equal_int_int.l0 k y0 y1 y2 y3) (slices_Equal_int_int.l0 (k + 1) y0 y1 y2 y3))
 | 0 => fun _ _ _ _ r h => by simp [slices_Equal_int_int.l0] at h
 | k + 1 => by
  have ih0 := slices_Equal_int_int.mono_l k
  intro y0 y1 y2 y3
  unfold slices_Equal_int_int.l0
  repeat' first | (with_reducible exact ih0 _ _ _ _) | (with_reducible exact LeO.refl _) | (with_reducible exact LeO.none _) | (with_reducible refine LeO.ite ?_ ?_) | (with_reducible refine LeO.bind ?_ (fun _ => ?_))
theorem slices_Equal_int_int.mono : ∀ a0 a1 k, LeO (slices_Equal_int_int.f k a0 a1) (slices_Equal_int_int.f (k + 1) a0 a1) := by
 intro a0 a1 k
 have ih0 := slices_Equal_int_int.mono_l k
 unfold slices_Equal_int_int.f
 repeat' first | (with_reducible exact ih0 _ _ _ _) | (with_reducible exact LeO.refl _) | (with_reducible exact LeO.none _) | (with_reducible refine LeO.ite ?_ ?_) | (with_reducible refine LeO.bind ?_ (fun _ => ?_))
set_option maxHeartbeats 8000000 in
set_option maxRecDepth 100000 in
theorem slices_Equal_int_int.calls (k : Nat) (A0 : Option Addr) (c0 : Nat) (l0 : List Int) (A1 : Option Addr) (c1 : Nat) (l1 : List Int) (r : Bool) (w : World) (hr0 : Kd.C (Kd.int .i64) w A0 l0.length l0) (hc0 : l0.length ≤ c0) (hr1 : Kd.C (Kd.int .i64) w A1 l1.length l1) (hc1 : l1.length ≤ c1) (h : slices_Equal_int_int.f k l0 l1 = some r) :
  Calls Tryz.prog 101 #[.slice A0 l0.length c0, .slice A1 l1.length c1] w fun e w' => e = .returned (.bool r) ∧ Drawn0 w w' := by
 have HR0 := Aside0.mk hr0; have HC0 := Aside0.mk hc0; clear hr0 hc0; have HR1 := Aside0.mk hr1; have HC1 := Aside0.mk hc1; clear hr1 hc1; have H : (if (l0.length : Int) = (l1.length : Int) then (slices_Equal_int_int.l0 k l0 l1 (l0.length : Int) 0) else (some false)) = some r := h; clear h
 by_cases c3 : (l0.length : Int) = (l1.length : Int)
 ·
  rw [if_pos c3] at H
  have c3b0 : ((l0.length : Int) == (l1.length : Int)) = true := beq_iff_eq.mpr c3; have c3b1 : ((l0.length : Int) != (l1.length : Int)) = false := bne_eq_false_iff_eq.mpr c3
  have c3b2 : (l0.length == l1.length) = true := by first | simpa using c3 | (simp at c3 ⊢; omega)
  clear c3; have H' := Aside0.mk H; clear H
  go_enter Tryz.func101, Tryz.ntmps101
  go_wp2
  repeat (go_quiet (fail); try go_wp2)
  go_loopg [13] k (fun kq v13 w' => ∃ (x13_1 : Int), v13 = .int .i64 x13_1 ∧ Aside0 (slices_Equal_int_int.l0 kq l0 l1 (l0.length : Int) x13_1 = some r) ∧ Aside0 (kq ≤ k) ∧ Drawn0 w w')
  case atStart => exact ⟨(0), y0_19, H', ⟨Nat.le_refl _⟩, y0_17⟩
  case round =>
   clear H'
   try clear c1
   try clear p2
   try clear c3
   try clear c3b0
   try clear c3b1
   try clear c3b2
   obtain ⟨x13_1, rfl, HA, HK1, ⟨m1, rfl⟩⟩ := hrel; cases gk with
   | zero => exact absurd HA.out (by simp [slices_Equal_int_int.l0])
   | succ k1 =>
    have H := HA.out; clear HA
    simp only [slices_Equal_int_int.l0] at H
    by_cases c4 : x13_1 < (l0.length : Int)
    ·
     rw [if_pos c4] at H
     have c4b0 : decide (x13_1 < (l0.length : Int)) = true := decide_eq_true c4; clear c4
     by_cases c5 : 0 ≤ x13_1
     rotate_left
     ·
      rw [if_neg c5] at H
      exact absurd H (by simp)
     rw [if_pos c5] at H
     have c5b0 : decide (0 ≤ x13_1) = true := decide_eq_true c5; clear c5
     by_cases c6 : x13_1 < (l0.length : Int)
     rotate_left
     ·
      rw [if_neg c6] at H
      exact absurd H (by simp)
     rw [if_pos c6] at H
     have c6b0 : decide (x13_1 < (l0.length : Int)) = true := decide_eq_true c6; clear c6
     by_cases c7 : x13_1 < (l1.length : Int)
     rotate_left
     ·
      rw [if_neg c7] at H
      exact absurd H (by simp)
     rw [if_pos c7] at H
     have c7b0 : decide (x13_1 < (l1.length : Int)) = true := decide_eq_true c7; clear c7
     by_cases c8 : (rd l0 x13_1) = (rd l1 x13_1)
     ·
      rw [if_pos c8] at H
      have c8b0 : ((rd l0 x13_1) == (rd l1 x13_1)) = true := beq_iff_eq.mpr c8; have c8b1 : ((rd l0 x13_1) != (rd l1 x13_1)) = false := bne_eq_false_iff_eq.mpr c8; clear c8; have H' := Aside0.mk H; clear H; have p358 : 0 ≤ (x13_1 : Int) := of_decide_eq_true y0_18; have q358 : x13_1 < (l0.length : Int) := of_decide_eq_true y0_18; obtain ⟨ad358, e358, hx358_0⟩ := Kd.at_int HR0.out x13_1 p358 q358; cases e358; replace p358 := eq_true p358; replace q358 := eq_true q358; have p359 : 0 ≤ (x13_1 : Int) := of_decide_eq_true y0_18; have q359 : x13_1 < (l1.length : Int) := of_decide_eq_true y0_18; obtain ⟨ad359, e359, hx359_0⟩ := Kd.at_int HR1.out x13_1 p359 q359; cases e359; replace p359 := eq_true p359; replace q359 := eq_true q359
      go_wp2
      repeat (go_quiet (fail); try go_wp2)
      go_roundg k1
      case measure => have := HK1.out; omega
      case rel => exact ⟨(wrap64 (x13_1 + 1)), y0_19, H', ⟨y0_21⟩, y0_17⟩
     rw [if_neg c8] at H
     have c8b0 : ((rd l0 x13_1) == (rd l1 x13_1)) = false := beq_eq_false_iff_ne.mpr c8; have c8b1 : ((rd l0 x13_1) != (rd l1 x13_1)) = true := bne_iff_ne.mpr c8; obtain rfl := Option.some.inj H; have p358 : 0 ≤ (x13_1 : Int) := of_decide_eq_true y0_18; have q358 : x13_1 < (l0.length : Int) := of_decide_eq_true y0_18; obtain ⟨ad358, e358, hx358_0⟩ := Kd.at_int HR0.out x13_1 p358 q358; cases e358; replace p358 := eq_true p358; replace q358 := eq_true q358; have p359 : 0 ≤ (x13_1 : Int) := of_decide_eq_true y0_18; have q359 : x13_1 < (l1.length : Int) := of_decide_eq_true y0_18; obtain ⟨ad359, e359, hx359_0⟩ := Kd.at_int HR1.out x13_1 p359 q359; cases e359; replace p359 := eq_true p359; replace q359 := eq_true q359
     go_wp2
     repeat (go_quiet (fail); try go_wp2)
     go_ret
     exact ⟨y0_19, y0_17⟩
    rw [if_neg c4] at H
    have c4b0 : decide (x13_1 < (l0.length : Int)) = false := decide_eq_false c4; clear c4; obtain rfl := Option.some.inj H
    go_wp2
    repeat (go_quiet (fail); try go_wp2)
    go_ret
    exact ⟨y0_19, y0_17⟩
 rw [if_neg c3] at H
 have c3b0 : ((l0.length : Int) == (l1.length : Int)) = false := beq_eq_false_iff_ne.mpr c3; have c3b1 : ((l0.length : Int) != (l1.length : Int)) = true := bne_iff_ne.mpr c3
 have c3b2 : (l0.length == l1.length) = false := by first | simpa using c3 | (simp at c3 ⊢; omega)
 obtain rfl := Option.some.inj H
 go_enter Tryz.func101, Tryz.ntmps101
 go_wp2
 repeat (go_quiet (fail); try go_wp2)
 go_ret
 exact ⟨y0_19, y0_17⟩

end Go.Proofs.YtemjmefacifdeaaGreatDoor.PFnEitherOrder
