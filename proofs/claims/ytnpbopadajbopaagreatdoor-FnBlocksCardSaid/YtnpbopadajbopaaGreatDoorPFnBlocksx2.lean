-- By a program of this session, out of the translation (the print of the kit, with turns of its own). Lean checks it.
import Derived.Test.YtnpbopadajbopaaGreatDoorPFnBlocksx0
import Derived.Test.YtnpbopadajbopaaGreatDoorPFnBlocksx1
namespace Go.Proofs.YtnpbopadajbopaaGreatDoor.PFnBlocks
open Go.RowKit Go.Proofs.YtnpbopadajbopaaGreatDoorW.PrintWords Go.Proofs.YtnpbopadajbopaaGreatDoorW.PrintLast Go.Proofs.YtnpbopadajbopaaGreatDoorW.PrintMore
attribute [local go_sem] max2_int min2_int max_two min_two max_three min_three max_four min_four   -- for this text's walks alone
attribute [local go_sem] cell_in frozen_in
set_option synthInstance.maxSize 1000000
set_option synthInstance.maxHeartbeats 2000000
set_option linter.unusedVariables false
set_option linter.unusedSimpArgs false

/-! ### impl_Steps: function 130 -/
mutual
def impl_Steps.j0 : Nat → List ByteArray → Bool → Option ((List (S150)) × Bool)
 | 0, _, _ => none
 | k + 1, x4, x29 => if x29 = true then (some (([] : List (S150)), false)) else (if 1 ≤ (x4.length : Int) then ((some (x4.drop 1 : List ByteArray)).bind fun y137 => (impl_Steps.l0 k ([] : List (S150)) 0 y137 (y137.length : Int) 0)) else (none))
def impl_Steps.l0 : Nat → List (S150) → Int → List ByteArray → Int → Int → Option ((List (S150)) × Bool)
 | 0, _, _, _, _, _ => none
 | k + 1, x5, x6, x31, x32, x33 => if x33 < x32 then (if 0 ≤ x33 then (if x33 < (x31.length : Int) then ((strings_Cut.f (rdOf ByteArray.empty x31 x33) (⟨#[124]⟩ : ByteArray)).bind fun bt142 => ((impl_Number.f k bt142.1).bind fun bt145 => ((impl_TxsOf.f k bt142.2.1).bind fun bt147 => (if bt142.2.2 = true then (if bt145.2 = true then (if bt147.2 = true then ((impl_within.f bt145.1 (wrap64 (x6 + 1)) 60).bind fun t151 => (if t151 = true then (if (bt147.1.length : Int) > 2 then (some (([] : List (S150)), false)) else (if x5.length < 4398046511104 then (impl_Steps.l0 k (x5 ++ [(⟨bt145.1, bt147.1⟩ : S150)]) bt145.1 x31 x32 (wrap64 (x33 + 1))) else (none))) else (some (([] : List (S150)), false)))) else (some (([] : List (S150)), false))) else (some (([] : List (S150)), false))) else (some (([] : List (S150)), false)))))) else (none)) else (none)) else (some (x5, true))
end
def impl_Steps.f (k : Nat) (a0 : ByteArray) : Option ((List (S150)) × Bool) := if a0.toList = ([] : List UInt8) then (some (([] : List (S150)), true)) else ((impl_Split.f a0 47).bind fun t133 => (if 0 < (t133.length : Int) then (if (rdOf ByteArray.empty t133 0).toList = ([] : List UInt8) then (impl_Steps.j0 k t133 (decide ((wrap64 ((t133.length : Int) - 1)) > 30))) else (impl_Steps.j0 k t133 true)) else (none)))
theorem impl_Steps.mono_l : ∀ k, (∀ y0 y1, LeO (impl_Steps.j0 k y0 y1) (impl_Steps.j0 (k + 1) y0 y1)) ∧ (∀ y0 y1 y2 y3 y4, LeO (impl_Steps.l0 k y0 y1 y2 y3 y4) (impl_Steps.l0 (k + 1) y0 y1 y2 y3 y4))
 | 0 => ⟨fun _ _ r h => by simp [impl_Steps.j0] at h, fun _ _ _ _ _ r h => by simp [impl_Steps.l0] at h⟩
 | k + 1 => by
  obtain ⟨ih0, ih1⟩ := impl_Steps.mono_l k
  refine ⟨?_, ?_⟩
  ·
   intro y0 y1
   unfold impl_Steps.j0
   repeat' first | (with_reducible exact ih0 _ _) | (with_reducible exact ih1 _ _ _ _ _) | (with_reducible exact impl_Number.mono _ _) | (with_reducible exact impl_TxsOf.mono _ _) | (with_reducible exact LeO.refl _) | (with_reducible exact LeO.none _) | (with_reducible refine LeO.ite ?_ ?_) | (with_reducible refine LeO.bind ?_ (fun _ => ?_))
  intro y0 y1 y2 y3 y4
  unfold impl_Steps.l0
  repeat' first | (with_reducible exact ih0 _ _) | (with_reducible exact ih1 _ _ _ _ _) | (with_reducible exact impl_Number.mono _ _) | (with_reducible exact impl_TxsOf.mono _ _) | (with_reducible exact LeO.refl _) | (with_reducible exact LeO.none _) | (with_reducible refine LeO.ite ?_ ?_) | (with_reducible refine LeO.bind ?_ (fun _ => ?_))
theorem impl_Steps.mono : ∀ a0 k, LeO (impl_Steps.f k a0) (impl_Steps.f (k + 1) a0) := by
 intro a0 k
 obtain ⟨ih0, ih1⟩ := impl_Steps.mono_l k
 unfold impl_Steps.f
 repeat' first | (with_reducible exact ih0 _ _) | (with_reducible exact ih1 _ _ _ _ _) | (with_reducible exact impl_Number.mono _ _) | (with_reducible exact impl_TxsOf.mono _ _) | (with_reducible exact LeO.refl _) | (with_reducible exact LeO.none _) | (with_reducible refine LeO.ite ?_ ?_) | (with_reducible refine LeO.bind ?_ (fun _ => ?_))
set_option maxHeartbeats 8000000 in
set_option maxRecDepth 100000 in
theorem impl_Steps.calls (k : Nat) (a0 : ByteArray) (r1 : List (S150)) (r2 : Bool) (w : World) (h : impl_Steps.f k a0 = some (r1, r2)) (hG : Glob w := by exact gG HG HB) :
  Calls Tryz.prog 130 #[.string a0] w fun e w' => ∃ v0_ : Value, e = .returned (.tuple #[v0_, .bool r2]) ∧ Kd.S k150 150 w' w.heap.size (fun _ => True) v0_ r1 ∧ Below w.heap.size w w' := by
 have HG := Aside0.mk hG; clear hG; have hu150 := Tryz.underlying150; have HB := Aside0.mk (Below.refl w.heap.size w)
 have H : (if a0.toList = ([] : List UInt8) then (some (([] : List (S150)), true)) else ((impl_Split.f a0 47).bind fun t133 => (if 0 < (t133.length : Int) then (if (rdOf ByteArray.empty t133 0).toList = ([] : List UInt8) then (impl_Steps.j0 k t133 (decide ((wrap64 ((t133.length : Int) - 1)) > 30))) else (impl_Steps.j0 k t133 true)) else (none)))) = some (r1, r2) := h
 clear h
 by_cases c2 : a0.toList = ([] : List UInt8)
 ·
  rw [if_pos c2] at H
  have c2b0 : (a0.toList == ([] : List UInt8)) = true := beq_iff_eq.mpr c2; have c2b1 : (a0.toList != ([] : List UInt8)) = false := bne_eq_false_iff_eq.mpr c2; clear c2
  simp only [Option.some.injEq, Prod.mk.injEq] at H
  obtain ⟨rfl, rfl⟩ := H
  go_enter Tryz.func130, Tryz.ntmps130
  go_wp2
  go_ret2
  exact ⟨_, y0_14, y0_10, bI HB.out⟩
 rw [if_neg c2] at H
 have c2b0 : (a0.toList == ([] : List UInt8)) = false := beq_eq_false_iff_ne.mpr c2; have c2b1 : (a0.toList != ([] : List UInt8)) = true := bne_iff_ne.mpr c2; obtain ⟨t133, A30, H⟩ := Option.bind_eq_some_iff.mp H
 try dsimp only at H
 have A3 := Aside0.mk A30; clear A30; have HC4 := Aside0.mk H; clear H
 go_enter Tryz.func130, Tryz.ntmps130
 go_upto_region 4 with (first | ((with_reducible refine gate_callee (f := 193) rfl ?_); refine gB (some 19) Tryz.func193 #[.string a0, .int .u8 47] ?_; (with_reducible refine (impl_Split.calls a0 47 t133 _ A3.out).mono ?_); rintro e w5 ⟨v134, rfl, ho0, hb⟩; refine ⟨_, rfl, ?_⟩; have HO135 := Aside0.mk (Kd.R_lower ho0 (below_size (bI HB.out))); replace HB := bs HB hb; (try clear hb); (try clear ho0)))
 (try simp only [Act.put, List.setIfInBounds_toArray, List.set_cons_zero, List.set_cons_succ])
 go_cut [29] (fun v29 wc => ∃ (kq : Nat) (x29_3 : Bool), v29 = .bool x29_3 ∧ Aside0 (impl_Steps.j0 kq t133 x29_3 = some (r1, r2)) ∧ Aside0 (kq ≤ k) ∧ Aside0 (Kd.R Kd.string 9 wc w.heap.size (fun _ => True) v134 t133) ∧ Aside0 (Below w.heap.size w wc))
 case first =>
  have H := HC4.out; clear HC4
  by_cases c6 : 0 < (t133.length : Int)
  rotate_left
  ·
   rw [if_neg c6] at H
   exact absurd H (by simp)
  rw [if_pos c6] at H
  have c6b0 : decide (0 < (t133.length : Int)) = true := decide_eq_true c6
  have c6b1 : decide (0 < t133.length) = true := decide_eq_true (by omega)
  clear c6
  (first | rw [c6b0] | (simp only [i64_w, i32_w]; rw [c6b0]) | skip)
  by_cases c7 : (rdOf ByteArray.empty t133 0).toList = ([] : List UInt8)
  ·
   rw [if_pos c7] at H
   have c7b0 : ((rdOf ByteArray.empty t133 0).toList == ([] : List UInt8)) = true := beq_iff_eq.mpr c7; have c7b1 : ((rdOf ByteArray.empty t133 0).toList != ([] : List UInt8)) = false := bne_eq_false_iff_eq.mpr c7; clear c7; have H' := Aside0.mk H; clear H; obtain ⟨Ao8, co8, eo8⟩ := Kd.R_slice HO135.out; subst eo8
   have p136 : 0 ≤ (0 : Int) := (by omega)
   have q136 : 0 < (t133.length : Int) := of_decide_eq_true y0_17; obtain ⟨ad136, e136, hx136_0⟩ := Kd.at_string (Kd.R_reads' HO135.out).2.2 0 p136 q136; cases e136
   have qi136 : (0 < t133.length) = True := eq_true (by omega)
   (try rw [show ((0 : Int)).toNat = 0 from rfl] at hx136_0)
   (try rw [Addr.add_zero'] at hx136_0)
   replace p136 := eq_true p136; replace q136 := eq_true q136
   go_wp2
   go_meet
   case rel => exact ⟨_, (decide ((wrap64 ((t133.length : Int) - 1)) > 30)), y0_18, H', ⟨y0_19⟩, ⟨by (with_reducible repeat (first | apply Kd.R_alloc | apply Kd.R_drewN | apply Kd.R_drew)); exact HO135.out⟩, ⟨bI HB.out⟩⟩
  rw [if_neg c7] at H
  have c7b0 : ((rdOf ByteArray.empty t133 0).toList == ([] : List UInt8)) = false := beq_eq_false_iff_ne.mpr c7; have c7b1 : ((rdOf ByteArray.empty t133 0).toList != ([] : List UInt8)) = true := bne_iff_ne.mpr c7; have H' := Aside0.mk H; clear H; obtain ⟨Ao9, co9, eo9⟩ := Kd.R_slice HO135.out; subst eo9
  have p136 : 0 ≤ (0 : Int) := (by omega)
  have q136 : 0 < (t133.length : Int) := of_decide_eq_true y0_17; obtain ⟨ad136, e136, hx136_0⟩ := Kd.at_string (Kd.R_reads' HO135.out).2.2 0 p136 q136; cases e136
  have qi136 : (0 < t133.length) = True := eq_true (by omega)
  (try rw [show ((0 : Int)).toNat = 0 from rfl] at hx136_0)
  (try rw [Addr.add_zero'] at hx136_0)
  replace p136 := eq_true p136; replace q136 := eq_true q136
  go_wp2
  go_meet
  case rel => exact ⟨_, (true), y0_18, H', ⟨y0_19⟩, ⟨by (with_reducible repeat (first | apply Kd.R_alloc | apply Kd.R_drewN | apply Kd.R_drew)); exact HO135.out⟩, ⟨bI HB.out⟩⟩
 case rest =>
  clear HC4
  try clear c1
  try clear p1
  try clear q1
  try clear hx1
  try clear qi1
  try clear c2
  try clear c2b0
  try clear c2b1
  try clear p2
  try clear c6
  try clear c6b0
  try clear c6b1
  try clear p6
  try clear c7
  try clear c7b0
  try clear c7b1
  try clear hx136_0
  try clear p136
  try clear q136
  obtain ⟨kq, x29_3, rfl, HA, HJ3, HO_4, HB⟩ := hcut; cases kq with
  | zero => exact absurd HA.out (by simp [impl_Steps.j0])
  | succ kj3 =>
   have H := HA.out; clear HA
   simp only [impl_Steps.j0] at H
   by_cases c10 : x29_3 = true
   ·
    subst c10
    rw [if_pos rfl] at H
    simp only [Option.some.injEq, Prod.mk.injEq] at H
    obtain ⟨rfl, rfl⟩ := H
    go_wp2
    go_ret2
    exact ⟨_, y0_14, y0_10, bI HB.out⟩
   replace c10 := Bool.eq_false_iff.mpr c10; subst c10
   rw [if_neg (show ¬ (false = true) by decide)] at H
   by_cases c11 : 1 ≤ (t133.length : Int)
   ·
    rw [if_pos c11] at H
    have c11b0 := eq_true c11; have c11b1 : decide (1 ≤ (t133.length : Int)) = true := decide_eq_true c11; clear c11; obtain ⟨y137, hy137⟩ : ∃ y_ : List ByteArray, y_ = (t133.drop 1) := ⟨_, rfl⟩
    replace H : (impl_Steps.l0 kj3 ([] : List (S150)) 0 y137 (y137.length : Int) 0) = some (r1, r2) := by first | (rw [hy137]; with_reducible exact H) | (have H2_ := (Option.bind_some _ _).symm.trans H; rw [hy137]; with_reducible exact H2_) | (have H2_ := (Option.bind_some _ _).symm.trans H; with_reducible exact H2_) | with_reducible exact H | (rw [hy137]; exact H) | exact H
    have Ny137 := Aside0.mk hy137; clear hy137; have H' := Aside0.mk H; clear H; obtain ⟨Ao13, co13, eo13⟩ := Kd.R_slice HO_4.out; subst eo13; have q12 : (1 : Int) ≤ ((t133.length : Int) : Int) := of_decide_eq_true y0_17; obtain ⟨i012, hi012, _, hsz12, _⟩ := info_parts info9; have hroom12 : t133.length ≤ co13 := (Kd.R_reads' HO_4.out).2.1; have hC12 : Kd.C Kd.string _ Ao13 t133.length t133 := (Kd.R_reads' HO_4.out).2.2
    have hcut12 := cut_from (P := Tryz.prog) 192 9 .i64 Tryz.underlying192 hi012 1 hsz12 Ao13 t133.length co13 1 (by omega) q12
    have hr12 := Kd.C_drop (m := (1 : Int).toNat) (c := co13) hC12 (by omega) hroom12
    obtain ⟨A12, hA12⟩ : ∃ A1, A1 = (if co13 = (1 : Int).toNat then Ao13 else (Ao13 : Option Addr).map (·.add ((1 : Int).toNat * 1))) := ⟨_, rfl⟩
    obtain ⟨c12, hc12⟩ : ∃ c1, c1 = co13 - (1 : Int).toNat := ⟨_, rfl⟩
    have hy12 : y137.length = t133.length - (1 : Int).toNat := (by rw [Ny137.out, List.length_drop] <;> omega)
    rw [show (t133).drop (1 : Int).toNat = y137 from Ny137.out.symm] at hr12
    replace hr12 : Kd.C Kd.string _ A12 y137.length y137 := (by rw [hA12]; exact hr12)
    rw [← hy12, ← hA12, ← hc12] at hcut12
    have HR140 := Aside0.mk hr12
    have HC140 := Aside0.mk (show y137.length ≤ c12 from by rw [hy12, hc12]; exact Nat.sub_le_sub_right hroom12 _)
    clear hr12 hC12 hroom12 hi012 hsz12 hc12; have KY12 := Aside0.mk hy12; have KA12 := Aside0.mk hA12; clear hy12 hA12
    have KL12 := Aside0.mk (show 1 ≤ t133.length from by omega)
    replace q12 := eq_true q12
    go_wp2
    have HB0 := HB; replace HG := Aside0.mk (HG.out.below HB.out); replace HB := Aside0.mk (Below.refl wc.heap.size wc)
    go_loopg [5, 6, 33] kj3 (fun kq v5 v6 v33 w' => ∃ (x5_2 : List (S150)) (x6_2 : Int) (x33_2 : Int), v6 = .int .i64 x6_2 ∧ v33 = .int .i64 x33_2 ∧ Aside0 (impl_Steps.l0 kq x5_2 x6_2 y137 (y137.length : Int) x33_2 = some (r1, r2)) ∧ Aside0 (kq ≤ kj3) ∧ Aside0 (Kd.S k150 150 w' wc.heap.size (fun _ => True) v5 x5_2) ∧ Aside0 (Below wc.heap.size wc w'))
    case atStart => exact ⟨(([] : List (S150))), (0), (0), y0_18, y0_18, H', ⟨Nat.le_refl _⟩, ⟨y0_10⟩, ⟨bI HB.out⟩⟩
    case round =>
     clear H'
     try clear c1
     try clear p1
     try clear q1
     try clear hx1
     try clear qi1
     try clear c2
     try clear c2b0
     try clear c2b1
     try clear p2
     try clear c6
     try clear c6b0
     try clear c6b1
     try clear p6
     try clear c7
     try clear c7b0
     try clear c7b1
     try clear c10
     try clear c11
     try clear c11b0
     try clear c11b1
     try clear c12
     try clear q12
     try clear c13
     try clear p13
     try clear q13
     try clear hx13
     try clear qi13
     try clear hx136_0
     try clear p1
     try clear p136
     try clear p2
     try clear p6
     try clear q1
     try clear q12
     try clear q136
     obtain ⟨x5_2, x6_2, x33_2, rfl, rfl, HA, HK2, HO_5, HB⟩ := hrel; cases gk with
     | zero => exact absurd HA.out (by simp [impl_Steps.l0])
     | succ k2 =>
      have H := HA.out; clear HA
      simp only [impl_Steps.l0] at H
      by_cases c14 : x33_2 < (y137.length : Int)
      ·
       rw [if_pos c14] at H
       have c14b0 : decide (x33_2 < (y137.length : Int)) = true := decide_eq_true c14; clear c14
       by_cases c15 : 0 ≤ x33_2
       rotate_left
       ·
        rw [if_neg c15] at H
        exact absurd H (by simp)
       rw [if_pos c15] at H
       have c15b0 : decide (0 ≤ x33_2) = true := decide_eq_true c15; clear c15
       by_cases c16 : x33_2 < (y137.length : Int)
       rotate_left
       ·
        rw [if_neg c16] at H
        exact absurd H (by simp)
       rw [if_pos c16] at H
       have c16b0 : decide (x33_2 < (y137.length : Int)) = true := decide_eq_true c16; clear c16; obtain ⟨⟨t142, t143, t144⟩, A170, H⟩ := Option.bind_eq_some_iff.mp H
       try dsimp only at H
       have A17 := Aside0.mk A170; clear A170; obtain ⟨⟨t145, t146⟩, A180, H⟩ := Option.bind_eq_some_iff.mp H
       try dsimp only at H
       have A18 := Aside0.mk A180; clear A180; obtain ⟨⟨t147, t148⟩, A190, H⟩ := Option.bind_eq_some_iff.mp H
       try dsimp only at H
       have A19 := Aside0.mk A190; clear A190
       by_cases c20 : t144 = true
       ·
        subst c20
        rw [if_pos rfl] at H
        by_cases c21 : t146 = true
        ·
         subst c21
         rw [if_pos rfl] at H
         by_cases c22 : t148 = true
         ·
          subst c22
          rw [if_pos rfl] at H
          obtain ⟨t151, A230, H⟩ := Option.bind_eq_some_iff.mp H
          try dsimp only at H
          have A23 := Aside0.mk A230; clear A230
          by_cases c24 : t151 = true
          ·
           subst c24
           rw [if_pos rfl] at H
           by_cases c25 : (t147.length : Int) > 2
           ·
            rw [if_pos c25] at H
            have c25b0 : decide (2 < (t147.length : Int)) = true := decide_eq_true c25
            have c25b1 : decide (2 < t147.length) = true := decide_eq_true (by omega)
            clear c25
            simp only [Option.some.injEq, Prod.mk.injEq] at H
            obtain ⟨rfl, rfl⟩ := H; have p141 : 0 ≤ (x33_2 : Int) := of_decide_eq_true y0_17; have q141 : x33_2 < (y137.length : Int) := of_decide_eq_true y0_17; obtain ⟨ad141, e141, hx141_0⟩ := Kd.at_string HR140.out x33_2 p141 q141; cases e141; replace hx141_0 := bx HB hx141_0; replace p141 := eq_true p141; replace q141 := eq_true q141
            go_wp2_with (first | ((with_reducible refine gate_callee (f := 194) rfl ?_); refine gB (some 39) Tryz.func194 #[.string (rdOf ByteArray.empty y137 x33_2), .string (⟨#[124]⟩ : ByteArray)] ?_; (with_reducible refine (strings_Cut.calls (rdOf ByteArray.empty y137 x33_2) (⟨#[124]⟩ : ByteArray) t142 t143 true _ A17.out).mono ?_); rintro e w26 ⟨rfl, hb⟩; refine ⟨_, rfl, ?_⟩; replace HO_5 := sb HO_5 hb; replace HB := bs HB hb; (try clear hb); (try clear hb2); (try clear hk); (try clear hi)) | ((with_reducible refine gate_callee (f := 195) rfl ?_); refine gB (some 45) Tryz.func195 #[.string t142] ?_; (with_reducible refine (impl_Number.calls k2 t142 t145 true _ A18.out).mono ?_); rintro e w27 ⟨rfl, hb⟩; refine ⟨_, rfl, ?_⟩; replace HO_5 := sb HO_5 hb; replace HB := bs HB hb; (try clear hb); (try clear hb2); (try clear hk); (try clear hi)) | ((with_reducible refine gate_callee (f := 196) rfl ?_); refine gB (some 50) Tryz.func196 #[.string t143] ?_; (with_reducible refine (impl_TxsOf.calls k2 t143 t147 true _ A19.out).mono ?_); rintro e w28 ⟨v149, rfl, ho0, hb⟩; refine ⟨_, rfl, ?_⟩; replace HO_5 := Aside0.mk (Kd.S_elder' (sI HO_5.out) (Kd.R_base ho0) hb); have HO150 := Aside0.mk (Kd.R_lower ho0 (below_size (bI HB.out))); replace HB := bs HB hb; (try clear hb)) | (go_at_call 138; (with_reducible refine (impl_within.calls t145 (wrap64 (x6_2 + 1)) 60 true _ A23.out).mono ?_); rintro e w' ⟨rfl, ⟨nd, rfl⟩⟩; obtain ⟨Ao29, co29, eo29⟩ := Kd.R_slice HO150.out; subst eo29))
            go_ret2
            exact ⟨_, y0_14, Kd.S_lower (base := wc.heap.size) y0_10 (below_size HB0.out), below_step HB0.out (bI HB.out)⟩
           rw [if_neg c25] at H
           have c25b0 : decide (2 < (t147.length : Int)) = false := decide_eq_false c25
           have c25b1 : decide (2 < t147.length) = false := decide_eq_false (by omega)
           clear c25
           by_cases c30 : x5_2.length < 4398046511104
           rotate_left
           ·
            rw [if_neg c30] at H
            exact absurd H (by simp)
           rw [if_pos c30] at H
           have LMc30 := Aside0.mk c30; clear c30; obtain ⟨y152, hy152⟩ : ∃ y_ : List (S150), y_ = (x5_2 ++ [(⟨t145, t147⟩ : S150)]) := ⟨_, rfl⟩
           replace H : (impl_Steps.l0 k2 y152 t145 y137 (y137.length : Int) (wrap64 (x33_2 + 1))) = some (r1, r2) := by first | (rw [hy152]; with_reducible exact H) | (have H2_ := (Option.bind_some _ _).symm.trans H; rw [hy152]; with_reducible exact H2_) | (have H2_ := (Option.bind_some _ _).symm.trans H; with_reducible exact H2_) | with_reducible exact H | (rw [hy152]; exact H) | exact H
           have Ny152 := Aside0.mk hy152; clear hy152; have H' := Aside0.mk H; clear H; have p141 : 0 ≤ (x33_2 : Int) := of_decide_eq_true y0_17; have q141 : x33_2 < (y137.length : Int) := of_decide_eq_true y0_17; obtain ⟨ad141, e141, hx141_0⟩ := Kd.at_string HR140.out x33_2 p141 q141; cases e141; replace hx141_0 := bx HB hx141_0; replace p141 := eq_true p141; replace q141 := eq_true q141
           go_wp2_with (first | ((with_reducible refine gate_callee (f := 194) rfl ?_); refine gB (some 39) Tryz.func194 #[.string (rdOf ByteArray.empty y137 x33_2), .string (⟨#[124]⟩ : ByteArray)] ?_; (with_reducible refine (strings_Cut.calls (rdOf ByteArray.empty y137 x33_2) (⟨#[124]⟩ : ByteArray) t142 t143 true _ A17.out).mono ?_); rintro e w31 ⟨rfl, hb⟩; refine ⟨_, rfl, ?_⟩; replace HO_5 := sb HO_5 hb; replace HB := bs HB hb; (try clear hb); (try clear hb2); (try clear hk); (try clear hi)) | ((with_reducible refine gate_callee (f := 195) rfl ?_); refine gB (some 45) Tryz.func195 #[.string t142] ?_; (with_reducible refine (impl_Number.calls k2 t142 t145 true _ A18.out).mono ?_); rintro e w32 ⟨rfl, hb⟩; refine ⟨_, rfl, ?_⟩; replace HO_5 := sb HO_5 hb; replace HB := bs HB hb; (try clear hb); (try clear hb2); (try clear hk); (try clear hi)) | ((with_reducible refine gate_callee (f := 196) rfl ?_); refine gB (some 50) Tryz.func196 #[.string t143] ?_; (with_reducible refine (impl_TxsOf.calls k2 t143 t147 true _ A19.out).mono ?_); rintro e w33 ⟨v149, rfl, ho0, hb⟩; refine ⟨_, rfl, ?_⟩; replace HO_5 := Aside0.mk (Kd.S_elder' (sI HO_5.out) (Kd.R_base ho0) hb); have HO150 := Aside0.mk (Kd.R_lower ho0 (below_size (bI HB.out))); replace HB := bs HB hb; (try clear hb)) | (go_at_call 138; (with_reducible refine (impl_within.calls t145 (wrap64 (x6_2 + 1)) 60 true _ A23.out).mono ?_); rintro e w' ⟨rfl, ⟨nd, rfl⟩⟩; obtain ⟨Ao34, co34, eo34⟩ := Kd.R_slice HO150.out; subst eo34) | ((with_reducible refine gate_builtin (b := .append) (xs := #[.tmp 75, .tmp 79]) rfl ?_); (try (refine gate_guard (by rfl) ?_; dsimp only)); at_builtin; refine Kd.S_append k150 (w0 := wc) wc.heap.size rfl (.tmp 75) (.tmp 79) 146 150 (.agg #[(.int .i64 0), (.slice none 0 0)]) 32 rfl Tryz.underlying146 info150 rfl (by decide) (by omega) u5 x5_2 (⟨t145, t147⟩ : S150) [.int .i64 t145, .slice Ao34 t147.length co34] (fun _ => True) (fun k_ => some k_ = (.slice Ao34 t147.length co34 : Value).ownBlock) rfl rfl ?aP (fun k_ hk_ => ((Kd.R_mono (ok' := fun k_ => ((fun _ => True)) k_ ∧ some k_ ≠ (u5 : Value).ownBlock) (Kd.R_apart' (HO150.out) (Kd.S_typed HO_5.out) (by decide)) (fun k_ hk => ⟨trivial, hk.2⟩))).1 k_ hk_.symm) ?aF ?aO ?aB ?aS ?aL ?_; (case aP => exact k150_mkM _ _ _ (⟨t145, t147⟩ : S150) (Kd.R_mono (Kd.R_tight rfl (Kd.R_mono (ok' := fun k_ => ((fun _ => True)) k_ ∧ some k_ ≠ (u5 : Value).ownBlock) (Kd.R_apart' (HO150.out) (Kd.S_typed HO_5.out) (by decide)) (fun k_ hk => ⟨trivial, hk.2⟩))) (fun _ h_ => h_))); (case aB => exact (bI HB.out)); (case aF => exact (fun _ _ => trivial)); (case aO => exact (sI (Kd.S_mono HO_5.out (fun k_ hk => ⟨trivial, fun e_ => hk.2 e_⟩)))); (case aS => exact (below_size (bI HB.out))); (case aL => have := LMc30.out; omega); intro v153 w35 ho hb hg hat; rw [← Ny152.out] at ho; have n0_ := Aside0.mk (hb); have n1_ := Aside0.mk (ho); clear HB; clear HO_5; clear HO150; have HB := n0_; have HO154 := n1_; clear n0_ n1_; clear ho hb hg hat))
           go_roundg k2
           case measure => have := HJ3.out; have := HK2.out; omega
           case rel => exact ⟨(y152), (t145), (wrap64 (x33_2 + 1)), y0_18, y0_18, H', ⟨by have := HJ3.out; have := HK2.out; omega⟩, ⟨by (with_reducible repeat (first | apply Kd.S_alloc | apply Kd.S_drewN | apply Kd.S_drew)); exact HO154.out⟩, ⟨bI HB.out⟩⟩
          replace c24 := Bool.eq_false_iff.mpr c24; subst c24
          rw [if_neg (show ¬ (false = true) by decide)] at H
          simp only [Option.some.injEq, Prod.mk.injEq] at H
          obtain ⟨rfl, rfl⟩ := H; have p141 : 0 ≤ (x33_2 : Int) := of_decide_eq_true y0_17; have q141 : x33_2 < (y137.length : Int) := of_decide_eq_true y0_17; obtain ⟨ad141, e141, hx141_0⟩ := Kd.at_string HR140.out x33_2 p141 q141; cases e141; replace hx141_0 := bx HB hx141_0; replace p141 := eq_true p141; replace q141 := eq_true q141
          go_wp2_with (first | ((with_reducible refine gate_callee (f := 194) rfl ?_); refine gB (some 39) Tryz.func194 #[.string (rdOf ByteArray.empty y137 x33_2), .string (⟨#[124]⟩ : ByteArray)] ?_; (with_reducible refine (strings_Cut.calls (rdOf ByteArray.empty y137 x33_2) (⟨#[124]⟩ : ByteArray) t142 t143 true _ A17.out).mono ?_); rintro e w36 ⟨rfl, hb⟩; refine ⟨_, rfl, ?_⟩; replace HO_5 := sb HO_5 hb; replace HB := bs HB hb; (try clear hb); (try clear hb2); (try clear hk); (try clear hi)) | ((with_reducible refine gate_callee (f := 195) rfl ?_); refine gB (some 45) Tryz.func195 #[.string t142] ?_; (with_reducible refine (impl_Number.calls k2 t142 t145 true _ A18.out).mono ?_); rintro e w37 ⟨rfl, hb⟩; refine ⟨_, rfl, ?_⟩; replace HO_5 := sb HO_5 hb; replace HB := bs HB hb; (try clear hb); (try clear hb2); (try clear hk); (try clear hi)) | ((with_reducible refine gate_callee (f := 196) rfl ?_); refine gB (some 50) Tryz.func196 #[.string t143] ?_; (with_reducible refine (impl_TxsOf.calls k2 t143 t147 true _ A19.out).mono ?_); rintro e w38 ⟨v149, rfl, ho0, hb⟩; refine ⟨_, rfl, ?_⟩; replace HO_5 := Aside0.mk (Kd.S_elder' (sI HO_5.out) (Kd.R_base ho0) hb); have HO150 := Aside0.mk (Kd.R_lower ho0 (below_size (bI HB.out))); replace HB := bs HB hb; (try clear hb)) | (go_at_call 138; (with_reducible refine (impl_within.calls t145 (wrap64 (x6_2 + 1)) 60 false _ A23.out).mono ?_); rintro e w' ⟨rfl, ⟨nd, rfl⟩⟩))
          go_ret2
          exact ⟨_, y0_14, Kd.S_lower (base := wc.heap.size) y0_10 (below_size HB0.out), below_step HB0.out (bI HB.out)⟩
         replace c22 := Bool.eq_false_iff.mpr c22; subst c22
         rw [if_neg (show ¬ (false = true) by decide)] at H
         simp only [Option.some.injEq, Prod.mk.injEq] at H
         obtain ⟨rfl, rfl⟩ := H; have p141 : 0 ≤ (x33_2 : Int) := of_decide_eq_true y0_17; have q141 : x33_2 < (y137.length : Int) := of_decide_eq_true y0_17; obtain ⟨ad141, e141, hx141_0⟩ := Kd.at_string HR140.out x33_2 p141 q141; cases e141; replace hx141_0 := bx HB hx141_0; replace p141 := eq_true p141; replace q141 := eq_true q141
         go_wp2_with (first | ((with_reducible refine gate_callee (f := 194) rfl ?_); refine gB (some 39) Tryz.func194 #[.string (rdOf ByteArray.empty y137 x33_2), .string (⟨#[124]⟩ : ByteArray)] ?_; (with_reducible refine (strings_Cut.calls (rdOf ByteArray.empty y137 x33_2) (⟨#[124]⟩ : ByteArray) t142 t143 true _ A17.out).mono ?_); rintro e w39 ⟨rfl, hb⟩; refine ⟨_, rfl, ?_⟩; replace HO_5 := sb HO_5 hb; replace HB := bs HB hb; (try clear hb); (try clear hb2); (try clear hk); (try clear hi)) | ((with_reducible refine gate_callee (f := 195) rfl ?_); refine gB (some 45) Tryz.func195 #[.string t142] ?_; (with_reducible refine (impl_Number.calls k2 t142 t145 true _ A18.out).mono ?_); rintro e w40 ⟨rfl, hb⟩; refine ⟨_, rfl, ?_⟩; replace HO_5 := sb HO_5 hb; replace HB := bs HB hb; (try clear hb); (try clear hb2); (try clear hk); (try clear hi)) | ((with_reducible refine gate_callee (f := 196) rfl ?_); refine gB (some 50) Tryz.func196 #[.string t143] ?_; (with_reducible refine (impl_TxsOf.calls k2 t143 t147 false _ A19.out).mono ?_); rintro e w41 ⟨v149, rfl, ho0, hb⟩; refine ⟨_, rfl, ?_⟩; replace HO_5 := Aside0.mk (Kd.S_elder' (sI HO_5.out) (Kd.R_base ho0) hb); have HO150 := Aside0.mk (Kd.R_lower ho0 (below_size (bI HB.out))); replace HB := bs HB hb; (try clear hb)))
         go_ret2
         exact ⟨_, y0_14, Kd.S_lower (base := wc.heap.size) y0_10 (below_size HB0.out), below_step HB0.out (bI HB.out)⟩
        replace c21 := Bool.eq_false_iff.mpr c21; subst c21
        rw [if_neg (show ¬ (false = true) by decide)] at H
        simp only [Option.some.injEq, Prod.mk.injEq] at H
        obtain ⟨rfl, rfl⟩ := H; have p141 : 0 ≤ (x33_2 : Int) := of_decide_eq_true y0_17; have q141 : x33_2 < (y137.length : Int) := of_decide_eq_true y0_17; obtain ⟨ad141, e141, hx141_0⟩ := Kd.at_string HR140.out x33_2 p141 q141; cases e141; replace hx141_0 := bx HB hx141_0; replace p141 := eq_true p141; replace q141 := eq_true q141
        go_wp2_with (first | ((with_reducible refine gate_callee (f := 194) rfl ?_); refine gB (some 39) Tryz.func194 #[.string (rdOf ByteArray.empty y137 x33_2), .string (⟨#[124]⟩ : ByteArray)] ?_; (with_reducible refine (strings_Cut.calls (rdOf ByteArray.empty y137 x33_2) (⟨#[124]⟩ : ByteArray) t142 t143 true _ A17.out).mono ?_); rintro e w42 ⟨rfl, hb⟩; refine ⟨_, rfl, ?_⟩; replace HO_5 := sb HO_5 hb; replace HB := bs HB hb; (try clear hb); (try clear hb2); (try clear hk); (try clear hi)) | ((with_reducible refine gate_callee (f := 195) rfl ?_); refine gB (some 45) Tryz.func195 #[.string t142] ?_; (with_reducible refine (impl_Number.calls k2 t142 t145 false _ A18.out).mono ?_); rintro e w43 ⟨rfl, hb⟩; refine ⟨_, rfl, ?_⟩; replace HO_5 := sb HO_5 hb; replace HB := bs HB hb; (try clear hb); (try clear hb2); (try clear hk); (try clear hi)) | ((with_reducible refine gate_callee (f := 196) rfl ?_); refine gB (some 50) Tryz.func196 #[.string t143] ?_; (with_reducible refine (impl_TxsOf.calls k2 t143 t147 t148 _ A19.out).mono ?_); rintro e w44 ⟨v149, rfl, ho0, hb⟩; refine ⟨_, rfl, ?_⟩; replace HO_5 := Aside0.mk (Kd.S_elder' (sI HO_5.out) (Kd.R_base ho0) hb); have HO150 := Aside0.mk (Kd.R_lower ho0 (below_size (bI HB.out))); replace HB := bs HB hb; (try clear hb)))
        go_ret2
        exact ⟨_, y0_14, Kd.S_lower (base := wc.heap.size) y0_10 (below_size HB0.out), below_step HB0.out (bI HB.out)⟩
       replace c20 := Bool.eq_false_iff.mpr c20; subst c20
       rw [if_neg (show ¬ (false = true) by decide)] at H
       simp only [Option.some.injEq, Prod.mk.injEq] at H
       obtain ⟨rfl, rfl⟩ := H; have p141 : 0 ≤ (x33_2 : Int) := of_decide_eq_true y0_17; have q141 : x33_2 < (y137.length : Int) := of_decide_eq_true y0_17; obtain ⟨ad141, e141, hx141_0⟩ := Kd.at_string HR140.out x33_2 p141 q141; cases e141; replace hx141_0 := bx HB hx141_0; replace p141 := eq_true p141; replace q141 := eq_true q141
       go_wp2_with (first | ((with_reducible refine gate_callee (f := 194) rfl ?_); refine gB (some 39) Tryz.func194 #[.string (rdOf ByteArray.empty y137 x33_2), .string (⟨#[124]⟩ : ByteArray)] ?_; (with_reducible refine (strings_Cut.calls (rdOf ByteArray.empty y137 x33_2) (⟨#[124]⟩ : ByteArray) t142 t143 false _ A17.out).mono ?_); rintro e w45 ⟨rfl, hb⟩; refine ⟨_, rfl, ?_⟩; replace HO_5 := sb HO_5 hb; replace HB := bs HB hb; (try clear hb); (try clear hb2); (try clear hk); (try clear hi)) | ((with_reducible refine gate_callee (f := 195) rfl ?_); refine gB (some 45) Tryz.func195 #[.string t142] ?_; (with_reducible refine (impl_Number.calls k2 t142 t145 t146 _ A18.out).mono ?_); rintro e w46 ⟨rfl, hb⟩; refine ⟨_, rfl, ?_⟩; replace HO_5 := sb HO_5 hb; replace HB := bs HB hb; (try clear hb); (try clear hb2); (try clear hk); (try clear hi)) | ((with_reducible refine gate_callee (f := 196) rfl ?_); refine gB (some 50) Tryz.func196 #[.string t143] ?_; (with_reducible refine (impl_TxsOf.calls k2 t143 t147 t148 _ A19.out).mono ?_); rintro e w47 ⟨v149, rfl, ho0, hb⟩; refine ⟨_, rfl, ?_⟩; replace HO_5 := Aside0.mk (Kd.S_elder' (sI HO_5.out) (Kd.R_base ho0) hb); have HO150 := Aside0.mk (Kd.R_lower ho0 (below_size (bI HB.out))); replace HB := bs HB hb; (try clear hb)))
       go_ret2
       exact ⟨_, y0_14, Kd.S_lower (base := wc.heap.size) y0_10 (below_size HB0.out), below_step HB0.out (bI HB.out)⟩
      rw [if_neg c14] at H
      have c14b0 : decide (x33_2 < (y137.length : Int)) = false := decide_eq_false c14; clear c14
      simp only [Option.some.injEq, Prod.mk.injEq] at H
      obtain ⟨rfl, rfl⟩ := H
      go_wp2
      go_ret2
      exact ⟨_, y0_14, Kd.S_lower (base := wc.heap.size) (by (with_reducible repeat (first | apply Kd.S_alloc | apply Kd.S_drewN | apply Kd.S_drew)); exact HO_5.out) (below_size HB0.out), below_step HB0.out (bI HB.out)⟩
   rw [if_neg c11] at H
   exact absurd H (by simp)

/-! ### impl_NameOk: function 139 -/
def impl_NameOk.f (k : Nat) (a0 : ByteArray) : Option (Bool) := (impl_Steps.f k a0).bind fun bt155 => (some bt155.2)
theorem impl_NameOk.mono : ∀ a0 k, LeO (impl_NameOk.f k a0) (impl_NameOk.f (k + 1) a0) := by
 intro a0 k
 unfold impl_NameOk.f
 repeat' first | (with_reducible exact impl_Steps.mono _ _) | (with_reducible exact LeO.refl _) | (with_reducible exact LeO.none _) | (with_reducible refine LeO.ite ?_ ?_) | (with_reducible refine LeO.bind ?_ (fun _ => ?_))
set_option maxHeartbeats 8000000 in
set_option maxRecDepth 100000 in
theorem impl_NameOk.calls (k : Nat) (a0 : ByteArray) (r : Bool) (w : World) (h : impl_NameOk.f k a0 = some r) (hG : Glob w := by exact gG HG HB) :
  Calls Tryz.prog 139 #[.string a0] w fun e w' => e = .returned (.bool r) ∧ Below w.heap.size w w' := by
 have HG := Aside0.mk hG; clear hG; have HB := Aside0.mk (Below.refl w.heap.size w)
 have H : ((impl_Steps.f k a0).bind fun bt155 => (some bt155.2)) = some r := h
 clear h; obtain ⟨⟨t155, t156⟩, A20, H⟩ := Option.bind_eq_some_iff.mp H
 try dsimp only at H
 have A2 := Aside0.mk A20; clear A20; obtain rfl := Option.some.inj H
 go_enter Tryz.func139, Tryz.ntmps139
 go_wp2_with (first | ((with_reducible refine gate_callee (f := 130) rfl ?_); refine gS1 (some 7) Tryz.func130 (impl_Steps.calls (w := _) (h := A2.out)) ?_; intro Ao157 co157 w3 _ HO158))
 go_ret
 exact ⟨y0_18, UpW.out⟩

/-! ### stringslite_HasPrefix: function 203 -/
def stringslite_HasPrefix.f (a0 : ByteArray) (a1 : ByteArray) : Option (Bool) := if (a0.size : Int) ≥ (a1.size : Int) then (if 0 ≤ (a1.size : Int) then (if (a1.size : Int) ≤ (a0.size : Int) then (some ((a0.extract 0 ((a1.size : Int) : Int).toNat).toList == a1.toList)) else (none)) else (none)) else (some false)
set_option maxHeartbeats 8000000 in
set_option maxRecDepth 100000 in
theorem stringslite_HasPrefix.calls (a0 : ByteArray) (a1 : ByteArray) (r : Bool) (w : World) (h : stringslite_HasPrefix.f a0 a1 = some r) :
  Calls Tryz.prog 203 #[.string a0, .string a1] w fun e w' => e = .returned (.bool r) ∧ Drawn0 w w' := by
 have H : (if (a0.size : Int) ≥ (a1.size : Int) then (if 0 ≤ (a1.size : Int) then (if (a1.size : Int) ≤ (a0.size : Int) then (some ((a0.extract 0 ((a1.size : Int) : Int).toNat).toList == a1.toList)) else (none)) else (none)) else (some false)) = some r := h; clear h
 by_cases c3 : (a0.size : Int) ≥ (a1.size : Int)
 ·
  rw [if_pos c3] at H
  have c3b0 : decide ((a1.size : Int) ≤ (a0.size : Int)) = true := decide_eq_true c3; have c3b1 : decide (a1.size ≤ a0.size) = true := decide_eq_true (Int.ofNat_le.mp c3); clear c3
  by_cases c4 : 0 ≤ (a1.size : Int)
  rotate_left
  ·
   rw [if_neg c4] at H
   exact absurd H (by simp)
  rw [if_pos c4] at H
  have c4b0 := eq_true c4; have c4b1 : decide (0 ≤ (a1.size : Int)) = true := decide_eq_true c4; clear c4
  by_cases c5 : (a1.size : Int) ≤ (a0.size : Int)
  rotate_left
  ·
   rw [if_neg c5] at H
   exact absurd H (by simp)
  rw [if_pos c5] at H
  have c5b0 := eq_true c5; have c5b1 : decide ((a1.size : Int) ≤ (a0.size : Int)) = true := decide_eq_true c5; clear c5; obtain rfl := Option.some.inj H
  go_enter Tryz.func203, Tryz.ntmps203
  go_wp2
  go_ret
  exact ⟨y0_18, y0_16⟩
 rw [if_neg c3] at H
 have c3b0 : decide ((a1.size : Int) ≤ (a0.size : Int)) = false := decide_eq_false c3
 have c3b1 : decide (a1.size ≤ a0.size) = false := decide_eq_false (fun h => c3 (Int.ofNat_le.mpr h))
 clear c3; obtain rfl := Option.some.inj H
 go_enter Tryz.func203, Tryz.ntmps203
 go_wp2
 go_ret
 exact ⟨y0_18, y0_16⟩

/-! ### strings_HasPrefix: function 142 -/
def strings_HasPrefix.f (a0 : ByteArray) (a1 : ByteArray) : Option (Bool) := (stringslite_HasPrefix.f a0 a1).bind fun t159 => (some t159)
set_option maxHeartbeats 8000000 in
set_option maxRecDepth 100000 in
theorem strings_HasPrefix.calls (a0 : ByteArray) (a1 : ByteArray) (r : Bool) (w : World) (h : strings_HasPrefix.f a0 a1 = some r) :
  Calls Tryz.prog 142 #[.string a0, .string a1] w fun e w' => e = .returned (.bool r) ∧ Drawn0 w w' := by
 have H : ((stringslite_HasPrefix.f a0 a1).bind fun t159 => (some t159)) = some r := h
 clear h; obtain ⟨t159, A30, H⟩ := Option.bind_eq_some_iff.mp H
 try dsimp only at H
 have A3 := Aside0.mk A30; clear A30; obtain rfl := Option.some.inj H
 go_enter Tryz.func142, Tryz.ntmps142
 go_wp2_with (first | ((with_reducible refine gate_callee (f := 203) rfl ?_); refine gB (some 7) Tryz.func203 #[.string a0, .string a1] ?_; (with_reducible refine (stringslite_HasPrefix.calls a0 a1 t159 _ A3.out).mono ?_); rintro e w' ⟨rfl, ⟨nd, rfl⟩⟩; refine ⟨_, rfl, ?_⟩))
 go_ret
 exact ⟨y0_18, y0_16⟩

/-! ### impl_Extends: function 47 -/
theorem bt_size_impl_Extends (s t : ByteArray) : ∀ h : t.size < s.size, (((s[t.size]'h).toNat : Nat) : Int) = bt s (t.size : Int) := fun h => by
 unfold bt
 rw [dif_pos (show ((t.size : Int)).toNat < s.size by simpa using h)]
 rfl
def impl_Extends.f (k : Nat) (a0 : ByteArray) (a1 : ByteArray) : Option (Bool) := (impl_NameOk.f k a0).bind fun t160 => (if t160 = true then ((impl_NameOk.f k a1).bind fun t161 => (if t161 = true then ((strings_HasPrefix.f a0 a1).bind fun t162 => (if t162 = true then (if (a0.size : Int) = (a1.size : Int) then (some true) else (if 0 ≤ (a1.size : Int) then (if (a1.size : Int) < (a0.size : Int) then (some ((bt a0 (a1.size : Int)) == 47)) else (none)) else (none))) else (some false))) else (some false))) else (some false))
theorem impl_Extends.mono : ∀ a0 a1 k, LeO (impl_Extends.f k a0 a1) (impl_Extends.f (k + 1) a0 a1) := by
 intro a0 a1 k
 unfold impl_Extends.f
 repeat' first | (with_reducible exact impl_NameOk.mono _ _) | (with_reducible exact LeO.refl _) | (with_reducible exact LeO.none _) | (with_reducible refine LeO.ite ?_ ?_) | (with_reducible refine LeO.bind ?_ (fun _ => ?_))
set_option maxHeartbeats 8000000 in
set_option maxRecDepth 100000 in
theorem impl_Extends.calls (k : Nat) (a0 : ByteArray) (a1 : ByteArray) (r : Bool) (w : World) (h : impl_Extends.f k a0 a1 = some r) (hG : Glob w := by exact gG HG HB) :
  Calls Tryz.prog 47 #[.string a0, .string a1] w fun e w' => e = .returned (.bool r) ∧ Below w.heap.size w w' := by
 have HG := Aside0.mk hG; clear hG; have HB := Aside0.mk (Below.refl w.heap.size w); have hxs := bt_size_impl_Extends a0 a1
 have H : ((impl_NameOk.f k a0).bind fun t160 => (if t160 = true then ((impl_NameOk.f k a1).bind fun t161 => (if t161 = true then ((strings_HasPrefix.f a0 a1).bind fun t162 => (if t162 = true then (if (a0.size : Int) = (a1.size : Int) then (some true) else (if 0 ≤ (a1.size : Int) then (if (a1.size : Int) < (a0.size : Int) then (some ((bt a0 (a1.size : Int)) == 47)) else (none)) else (none))) else (some false))) else (some false))) else (some false))) = some r := h
 clear h; obtain ⟨t160, A30, H⟩ := Option.bind_eq_some_iff.mp H
 try dsimp only at H
 have A3 := Aside0.mk A30; clear A30
 by_cases c4 : t160 = true
 ·
  subst c4
  rw [if_pos rfl] at H
  obtain ⟨t161, A50, H⟩ := Option.bind_eq_some_iff.mp H
  try dsimp only at H
  have A5 := Aside0.mk A50; clear A50
  by_cases c6 : t161 = true
  ·
   subst c6
   rw [if_pos rfl] at H
   obtain ⟨t162, A70, H⟩ := Option.bind_eq_some_iff.mp H
   try dsimp only at H
   have A7 := Aside0.mk A70; clear A70
   by_cases c8 : t162 = true
   ·
    subst c8
    rw [if_pos rfl] at H
    by_cases c9 : (a0.size : Int) = (a1.size : Int)
    ·
     rw [if_pos c9] at H
     have c9b0 : ((a0.size : Int) == (a1.size : Int)) = true := beq_iff_eq.mpr c9; have c9b1 : ((a0.size : Int) != (a1.size : Int)) = false := bne_eq_false_iff_eq.mpr c9
     have c9b2 : (a0.size == a1.size) = true := by first | simpa using c9 | (simp at c9 ⊢; omega)
     clear c9; obtain rfl := Option.some.inj H
     go_enter Tryz.func47, Tryz.ntmps47
     go_wp2_with (first | ((with_reducible refine gate_callee (f := 139) rfl ?_); refine gB (some 6) Tryz.func139 #[.string a0] ?_; (with_reducible refine (impl_NameOk.calls k a0 true _ A3.out).mono ?_); rintro e w10 ⟨rfl, hb⟩; refine ⟨_, rfl, ?_⟩; replace HB := bs HB hb; (try clear hb); (try clear hb2); (try clear hk); (try clear hi)) | (go_at_call 139; (with_reducible refine (impl_NameOk.calls k a1 true _ A5.out).mono ?_); rintro e w11 ⟨rfl, hb⟩; replace HB := bs HB hb; (try clear hb); (try clear hb2); (try clear hk); (try clear hi)) | (go_at_call 142; (with_reducible refine (strings_HasPrefix.calls a0 a1 true _ A7.out).mono ?_); rintro e w' ⟨rfl, ⟨nd, rfl⟩⟩))
     go_ret
     exact ⟨y0_14, bI HB.out⟩
    rw [if_neg c9] at H
    have c9b0 : ((a0.size : Int) == (a1.size : Int)) = false := beq_eq_false_iff_ne.mpr c9; have c9b1 : ((a0.size : Int) != (a1.size : Int)) = true := bne_iff_ne.mpr c9
    have c9b2 : (a0.size == a1.size) = false := by first | simpa using c9 | (simp at c9 ⊢; omega)
    by_cases c12 : 0 ≤ (a1.size : Int)
    rotate_left
    ·
     rw [if_neg c12] at H
     exact absurd H (by simp)
    rw [if_pos c12] at H
    have c12b0 : decide (0 ≤ (a1.size : Int)) = true := decide_eq_true c12
    have c12b1 : decide (0 ≤ a1.size) = true := decide_eq_true (by omega)
    clear c12
    by_cases c13 : (a1.size : Int) < (a0.size : Int)
    rotate_left
    ·
     rw [if_neg c13] at H
     exact absurd H (by simp)
    rw [if_pos c13] at H
    have c13b0 : decide ((a1.size : Int) < (a0.size : Int)) = true := decide_eq_true c13; have c13b1 : decide (a1.size < a0.size) = true := decide_eq_true (Int.ofNat_lt.mp c13); clear c13; obtain rfl := Option.some.inj H
    go_enter Tryz.func47, Tryz.ntmps47
    go_wp2_with (first | ((with_reducible refine gate_callee (f := 139) rfl ?_); refine gB (some 6) Tryz.func139 #[.string a0] ?_; (with_reducible refine (impl_NameOk.calls k a0 true _ A3.out).mono ?_); rintro e w15 ⟨rfl, hb⟩; refine ⟨_, rfl, ?_⟩; replace HB := bs HB hb; (try clear hb); (try clear hb2); (try clear hk); (try clear hi)) | (go_at_call 139; (with_reducible refine (impl_NameOk.calls k a1 true _ A5.out).mono ?_); rintro e w16 ⟨rfl, hb⟩; replace HB := bs HB hb; (try clear hb); (try clear hb2); (try clear hk); (try clear hi)) | (go_at_call 142; (with_reducible refine (strings_HasPrefix.calls a0 a1 true _ A7.out).mono ?_); rintro e w' ⟨rfl, ⟨nd, rfl⟩⟩; have p14 : 0 ≤ ((a1.size : Int) : Int) := of_decide_eq_true y0_17; have q14 : (a1.size : Int) < (a0.size : Int) := of_decide_eq_true y0_17; have hx14 := bt_at a0 (a1.size : Int); replace p14 := eq_true p14; replace q14 := eq_true q14))
    go_ret
    exact ⟨y0_14, bI HB.out⟩
   replace c8 := Bool.eq_false_iff.mpr c8; subst c8
   rw [if_neg (show ¬ (false = true) by decide)] at H
   obtain rfl := Option.some.inj H
   go_enter Tryz.func47, Tryz.ntmps47
   go_wp2_with (first | ((with_reducible refine gate_callee (f := 139) rfl ?_); refine gB (some 6) Tryz.func139 #[.string a0] ?_; (with_reducible refine (impl_NameOk.calls k a0 true _ A3.out).mono ?_); rintro e w17 ⟨rfl, hb⟩; refine ⟨_, rfl, ?_⟩; replace HB := bs HB hb; (try clear hb); (try clear hb2); (try clear hk); (try clear hi)) | (go_at_call 139; (with_reducible refine (impl_NameOk.calls k a1 true _ A5.out).mono ?_); rintro e w18 ⟨rfl, hb⟩; replace HB := bs HB hb; (try clear hb); (try clear hb2); (try clear hk); (try clear hi)) | (go_at_call 142; (with_reducible refine (strings_HasPrefix.calls a0 a1 false _ A7.out).mono ?_); rintro e w' ⟨rfl, ⟨nd, rfl⟩⟩))
   go_ret
   exact ⟨y0_14, bI HB.out⟩
  replace c6 := Bool.eq_false_iff.mpr c6; subst c6
  rw [if_neg (show ¬ (false = true) by decide)] at H
  obtain rfl := Option.some.inj H
  go_enter Tryz.func47, Tryz.ntmps47
  go_wp2_with (first | ((with_reducible refine gate_callee (f := 139) rfl ?_); refine gB (some 6) Tryz.func139 #[.string a0] ?_; (with_reducible refine (impl_NameOk.calls k a0 true _ A3.out).mono ?_); rintro e w19 ⟨rfl, hb⟩; refine ⟨_, rfl, ?_⟩; replace HB := bs HB hb; (try clear hb); (try clear hb2); (try clear hk); (try clear hi)) | (go_at_call 139; (with_reducible refine (impl_NameOk.calls k a1 false _ A5.out).mono ?_); rintro e w20 ⟨rfl, hb⟩; replace HB := bs HB hb; (try clear hb); (try clear hb2); (try clear hk); (try clear hi)))
  go_ret
  exact ⟨y0_14, bI HB.out⟩
 replace c4 := Bool.eq_false_iff.mpr c4; subst c4
 rw [if_neg (show ¬ (false = true) by decide)] at H
 obtain rfl := Option.some.inj H
 go_enter Tryz.func47, Tryz.ntmps47
 go_wp2_with (first | ((with_reducible refine gate_callee (f := 139) rfl ?_); refine gB (some 6) Tryz.func139 #[.string a0] ?_; (with_reducible refine (impl_NameOk.calls k a0 false _ A3.out).mono ?_); rintro e w21 ⟨rfl, hb⟩; refine ⟨_, rfl, ?_⟩; replace HB := bs HB hb; (try clear hb); (try clear hb2); (try clear hk); (try clear hi)))
 go_ret
 exact ⟨y0_14, bI HB.out⟩

/-! ### impl_Height: function 48 -/
def impl_Height.f (k : Nat) (a0 : ByteArray) : Option (Int) := (impl_Steps.f k a0).bind fun bt163 => (if bt163.2 = true then (some (bt163.1.length : Int)) else (some (-1)))
theorem impl_Height.mono : ∀ a0 k, LeO (impl_Height.f k a0) (impl_Height.f (k + 1) a0) := by
 intro a0 k
 unfold impl_Height.f
 repeat' first | (with_reducible exact impl_Steps.mono _ _) | (with_reducible exact LeO.refl _) | (with_reducible exact LeO.none _) | (with_reducible refine LeO.ite ?_ ?_) | (with_reducible refine LeO.bind ?_ (fun _ => ?_))
set_option maxHeartbeats 8000000 in
set_option maxRecDepth 100000 in
theorem impl_Height.calls (k : Nat) (a0 : ByteArray) (r : Int) (w : World) (h : impl_Height.f k a0 = some r) (hG : Glob w := by exact gG HG HB) :
  Calls Tryz.prog 48 #[.string a0] w fun e w' => e = .returned (.int .i64 r) ∧ Below w.heap.size w w' := by
 have HG := Aside0.mk hG; clear hG; have HB := Aside0.mk (Below.refl w.heap.size w)
 have H : ((impl_Steps.f k a0).bind fun bt163 => (if bt163.2 = true then (some (bt163.1.length : Int)) else (some (-1)))) = some r := h
 clear h; obtain ⟨⟨t163, t164⟩, A20, H⟩ := Option.bind_eq_some_iff.mp H
 try dsimp only at H
 have A2 := Aside0.mk A20; clear A20
 by_cases c3 : t164 = true
 ·
  subst c3
  rw [if_pos rfl] at H
  obtain rfl := Option.some.inj H
  go_enter Tryz.func48, Tryz.ntmps48
  go_wp2_with (first | ((with_reducible refine gate_callee (f := 130) rfl ?_); refine gS1 (some 7) Tryz.func130 (impl_Steps.calls (w := _) (h := A2.out)) ?_; intro Ao165 co165 w4 _ HO166))
  go_ret
  exact ⟨y0_18, UpW.out⟩
 replace c3 := Bool.eq_false_iff.mpr c3; subst c3
 rw [if_neg (show ¬ (false = true) by decide)] at H
 obtain rfl := Option.some.inj H
 go_enter Tryz.func48, Tryz.ntmps48
 go_wp2_with (first | ((with_reducible refine gate_callee (f := 130) rfl ?_); refine gS1 (some 7) Tryz.func130 (impl_Steps.calls (w := _) (h := A2.out)) ?_; intro Ao165 co165 w5 _ HO166))
 go_ret
 exact ⟨y0_18, UpW.out⟩

end Go.Proofs.YtnpbopadajbopaaGreatDoor.PFnBlocks
