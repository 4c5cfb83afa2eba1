-- By a program of this session, out of the translation (the print of the kit, with turns of its own). Lean checks it.
import Derived.Test.YtdmjhgogljhfkaaGreatDoorPFnExactLastNotex0
import Derived.Test.YtdmjhgogljhfkaaGreatDoorPFnExactLastNotex7
import Derived.Test.YtdmjhgogljhfkaaGreatDoorPFnExactLastNotex8
namespace Go.Proofs.YtdmjhgogljhfkaaGreatDoor.PFnExactLastNote
open Go.RowKit Go.Proofs.YtdmjhgogljhfkaaGreatDoorW.PrintWords Go.Proofs.YtdmjhgogljhfkaaGreatDoorW.PrintLast Go.Proofs.YtdmjhgogljhfkaaGreatDoorW.PrintMore
attribute [local go_sem] max2_int min2_int max_two min_two max_three min_three max_four min_four   -- for this text's walks alone
attribute [local go_sem] cell_in frozen_in
set_option synthInstance.maxSize 1000000
set_option synthInstance.maxHeartbeats 2000000
set_option linter.unusedVariables false
set_option linter.unusedSimpArgs false

/-! ### impl_Steps: function 151 -/
mutual
def impl_Steps.j0 : Nat → List ByteArray → Bool → Option ((List (S163)) × Bool)
 | 0, _, _ => none
 | k + 1, x4, x29 => if x29 = true then (some (([] : List (S163)), false)) else (if 1 ≤ (x4.length : Int) then ((some (x4.drop 1 : List ByteArray)).bind fun y359 => (impl_Steps.l0 k ([] : List (S163)) 0 y359 (y359.length : Int) 0)) else (none))
def impl_Steps.l0 : Nat → List (S163) → Int → List ByteArray → Int → Int → Option ((List (S163)) × Bool)
 | 0, _, _, _, _, _ => none
 | k + 1, x5, x6, x31, x32, x33 => if x33 < x32 then (if 0 ≤ x33 then (if x33 < (x31.length : Int) then ((strings_Cut.f (rdOf ByteArray.empty x31 x33) (⟨#[124]⟩ : ByteArray)).bind fun bt364 => ((impl_Number.f k bt364.1).bind fun bt367 => ((impl_TxsOf.f k bt364.2.1).bind fun bt369 => (if bt364.2.2 = true then (if bt367.2 = true then (if bt369.2 = true then ((impl_within.f bt367.1 (wrap64 (x6 + 1)) 60).bind fun t373 => (if t373 = true then (if (bt369.1.length : Int) > 2 then (some (([] : List (S163)), false)) else (if x5.length < 4398046511104 then (impl_Steps.l0 k (x5 ++ [(⟨bt367.1, bt369.1⟩ : S163)]) bt367.1 x31 x32 (wrap64 (x33 + 1))) else (none))) else (some (([] : List (S163)), false)))) else (some (([] : List (S163)), false))) else (some (([] : List (S163)), false))) else (some (([] : List (S163)), false)))))) else (none)) else (none)) else (some (x5, true))
end
def impl_Steps.f (k : Nat) (a0 : ByteArray) : Option ((List (S163)) × Bool) := if a0.toList = ([] : List UInt8) then (some (([] : List (S163)), true)) else ((impl_Split.f a0 47).bind fun t355 => (if 0 < (t355.length : Int) then (if (rdOf ByteArray.empty t355 0).toList = ([] : List UInt8) then (impl_Steps.j0 k t355 (decide ((wrap64 ((t355.length : Int) - 1)) > 30))) else (impl_Steps.j0 k t355 true)) else (none)))
theorem impl_Steps.mono_l : ∀ k, (∀ y0 y1, LeO (impl_Steps.j0 k y0 y1) (impl_Steps.j0 (k + 1) y0 y1)) ∧ (∀ y0 y1 y2 y3 y4, LeO (impl_Steps.l0 k y0 y1 y2 y3 y4) (impl_Steps.l0 (k + 1) y0 y1 y2 y3 y4))
 | 0 => ⟨fun _ _ r h => by simp [impl_Steps.j0] at h, fun _ _ _ _ _ r h => by simp [impl_Steps.l0] at h⟩
 | k + 1 => by
  obtain ⟨ih0, ih1⟩ := impl_Steps.mono_l k
  refine ⟨?_, ?_⟩
  ·
   intro y0 y1
   unfold impl_Steps.j0
   repeat' first | (with_reducible exact ih0 _ _) | (with_reducible exact ih1 _ _ _ _ _) | (with_reducible exact impl_Number.mono _ _) | (with_reducible exact impl_TxsOf.mono _ _) | (with_reducible exact LeO.refl _) | (with_reducible exact LeO.none _) | (with_reducible refine LeO.ite ?_ ?_) | (with_reducible refine LeO.bind ?_ (fun _ => ?_))
  intro y0 y1 y2 y3 y4
  unfold impl_Steps.l0
  repeat' first | (with_reducible exact ih0 _ _) | (with_reducible exact ih1 _ _ _ _ _) | (with_reducible exact impl_Number.mono _ _) | (with_reducible exact impl_TxsOf.mono _ _) | (with_reducible exact LeO.refl _) | (with_reducible exact LeO.none _) | (with_reducible refine LeO.ite ?_ ?_) | (with_reducible refine LeO.bind ?_ (fun _ => ?_))
theorem impl_Steps.mono : ∀ a0 k, LeO (impl_Steps.f k a0) (impl_Steps.f (k + 1) a0) := by
 intro a0 k
 obtain ⟨ih0, ih1⟩ := impl_Steps.mono_l k
 unfold impl_Steps.f
 repeat' first | (with_reducible exact ih0 _ _) | (with_reducible exact ih1 _ _ _ _ _) | (with_reducible exact impl_Number.mono _ _) | (with_reducible exact impl_TxsOf.mono _ _) | (with_reducible exact LeO.refl _) | (with_reducible exact LeO.none _) | (with_reducible refine LeO.ite ?_ ?_) | (with_reducible refine LeO.bind ?_ (fun _ => ?_))
set_option maxHeartbeats 8000000 in
set_option maxRecDepth 100000 in
theorem impl_Steps.calls (k : Nat) (a0 : ByteArray) (r1 : List (S163)) (r2 : Bool) (w : World) (h : impl_Steps.f k a0 = some (r1, r2)) (hG : Glob w := by exact gG HG HB) :
  Calls Tryz.prog 151 #[.string a0] w fun e w' => ∃ v0_ : Value, e = .returned (.tuple #[v0_, .bool r2]) ∧ Kd.S k163 163 w' w.heap.size (fun _ => True) v0_ r1 ∧ Below w.heap.size w w' := by
 have HG := Aside0.mk hG; clear hG; have hu163 := Tryz.underlying163; have HB := Aside0.mk (Below.refl w.heap.size w)
 have H := h; unfold impl_Steps.f at H
 clear h
 by_cases c2 : a0.toList = ([] : List UInt8)
 ·
  rw [if_pos c2] at H
  have c2b0 : (a0.toList == ([] : List UInt8)) = true := beq_iff_eq.mpr c2; have c2b1 : (a0.toList != ([] : List UInt8)) = false := bne_eq_false_iff_eq.mpr c2; clear c2
  simp only [Option.some.injEq, Prod.mk.injEq] at H
  obtain ⟨rfl, rfl⟩ := H
  go_enter Tryz.func151, Tryz.ntmps151
  go_wp2
  go_ret2
  exact ⟨_, y0_11, y0_3, bI HB.out⟩
 rw [if_neg c2] at H
 have c2b0 : (a0.toList == ([] : List UInt8)) = false := beq_eq_false_iff_ne.mpr c2; have c2b1 : (a0.toList != ([] : List UInt8)) = true := bne_iff_ne.mpr c2; obtain ⟨t355, A3, H⟩ := oB H; (try dsimp only at H); have HC4 := Aside0.mk H; clear H
 go_enter Tryz.func151, Tryz.ntmps151
 go_upto_region 4 with (first | ((with_reducible refine gate_callee (f := 174) rfl ?_); refine gB (some 19) Tryz.func174 #[.string a0, .int .u8 47] ?_; (with_reducible refine (impl_Split.calls a0 47 t355 _ A3.out).mono ?_); rintro e w5 ⟨v356, rfl, ho0, hb⟩; refine ⟨_, rfl, ?_⟩; have HO357 := Aside0.mk (Kd.R_lower ho0 (below_size (bI HB.out))); replace HB := bs HB hb; (try clear hb); (try clear ho0)))
 (try simp only [Act.put, List.setIfInBounds_toArray, List.set_cons_zero, List.set_cons_succ])
 go_cut [29] (fun v29 wc => ∃ (kq : Nat) (x29_3 : Bool), v29 = .bool x29_3 ∧ Aside0 (impl_Steps.j0 kq t355 x29_3 = some (r1, r2)) ∧ Aside0 (kq ≤ k) ∧ Aside0 (Kd.R Kd.string 9 wc w.heap.size (fun _ => True) v356 t355) ∧ Aside0 (Below w.heap.size w wc))
 case first =>
  have H := HC4.out; clear HC4
  by_cases c6 : 0 < (t355.length : Int)
  rotate_left
  ·
   rw [if_neg c6] at H
   exact absurd H (by simp)
  rw [if_pos c6] at H
  have c6b0 : decide (0 < (t355.length : Int)) = true := decide_eq_true c6
  have c6b1 : decide (0 < t355.length) = true := decide_eq_true (by omega)
  clear c6
  (first | rw [c6b0] | (simp only [i64_w, i32_w]; rw [c6b0]) | skip)
  by_cases c7 : (rdOf ByteArray.empty t355 0).toList = ([] : List UInt8)
  ·
   rw [if_pos c7] at H
   have c7b0 : ((rdOf ByteArray.empty t355 0).toList == ([] : List UInt8)) = true := beq_iff_eq.mpr c7; have c7b1 : ((rdOf ByteArray.empty t355 0).toList != ([] : List UInt8)) = false := bne_eq_false_iff_eq.mpr c7; clear c7; have H' := Aside0.mk H; clear H; obtain ⟨Ao8, co8, eo8⟩ := Kd.R_slice HO357.out; subst eo8
   have p358 : 0 ≤ (0 : Int) := (by omega)
   have q358 : 0 < (t355.length : Int) := of_decide_eq_true y0_16; obtain ⟨ad358, e358, hx358_0⟩ := Kd.at_string (Kd.R_reads' HO357.out).2.2 0 p358 q358; cases e358
   have qi358 : (0 < t355.length) = True := eq_true (by omega)
   (try rw [show ((0 : Int)).toNat = 0 from rfl] at hx358_0)
   (try rw [Addr.add_zero'] at hx358_0)
   replace p358 := eq_true p358; replace q358 := eq_true q358
   go_wp2
   go_meet
   case rel => exact ⟨_, (decide ((wrap64 ((t355.length : Int) - 1)) > 30)), y0_17, H', ⟨y0_18⟩, ⟨by (with_reducible repeat (first | apply Kd.R_alloc | apply Kd.R_drewN | apply Kd.R_drew)); exact HO357.out⟩, ⟨bI HB.out⟩⟩
  rw [if_neg c7] at H
  have c7b0 : ((rdOf ByteArray.empty t355 0).toList == ([] : List UInt8)) = false := beq_eq_false_iff_ne.mpr c7; have c7b1 : ((rdOf ByteArray.empty t355 0).toList != ([] : List UInt8)) = true := bne_iff_ne.mpr c7; have H' := Aside0.mk H; clear H; obtain ⟨Ao9, co9, eo9⟩ := Kd.R_slice HO357.out; subst eo9
  have p358 : 0 ≤ (0 : Int) := (by omega)
  have q358 : 0 < (t355.length : Int) := of_decide_eq_true y0_16; obtain ⟨ad358, e358, hx358_0⟩ := Kd.at_string (Kd.R_reads' HO357.out).2.2 0 p358 q358; cases e358
  have qi358 : (0 < t355.length) = True := eq_true (by omega)
  (try rw [show ((0 : Int)).toNat = 0 from rfl] at hx358_0)
  (try rw [Addr.add_zero'] at hx358_0)
  replace p358 := eq_true p358; replace q358 := eq_true q358
  go_wp2
  go_meet
  case rel => exact ⟨_, (true), y0_17, H', ⟨y0_18⟩, ⟨by (with_reducible repeat (first | apply Kd.R_alloc | apply Kd.R_drewN | apply Kd.R_drew)); exact HO357.out⟩, ⟨bI HB.out⟩⟩
 case rest =>
  clear HC4
  try clear c1
  try clear c2
  try clear c2b0
  try clear c2b1
  try clear p2
  try clear p3
  try clear q3
  try clear hx3
  try clear qi3
  try clear c6
  try clear c6b0
  try clear c6b1
  try clear p6
  try clear c7
  try clear c7b0
  try clear c7b1
  try clear hx358_0
  try clear p358
  try clear q358
  obtain ⟨kq, x29_3, rfl, HA, HJ3, HO_4, HB⟩ := hcut; cases kq with
  | zero => exact absurd HA.out (by simp [impl_Steps.j0])
  | succ kj3 =>
   have H := HA.out; clear HA
   simp only [impl_Steps.j0] at H
   by_cases c10 : x29_3 = true
   ·
    subst c10
    rw [if_pos rfl] at H
    simp only [Option.some.injEq, Prod.mk.injEq] at H
    obtain ⟨rfl, rfl⟩ := H
    go_wp2
    go_ret2
    exact ⟨_, y0_11, y0_3, bI HB.out⟩
   replace c10 := Bool.eq_false_iff.mpr c10; subst c10
   rw [if_neg (show ¬ (false = true) by decide)] at H
   by_cases c11 : 1 ≤ (t355.length : Int)
   ·
    rw [if_pos c11] at H
    have c11b0 := eq_true c11; have c11b1 : decide (1 ≤ (t355.length : Int)) = true := decide_eq_true c11; clear c11; obtain ⟨y359, hy359⟩ : ∃ y_ : List ByteArray, y_ = (t355.drop 1) := ⟨_, rfl⟩
    replace H : (impl_Steps.l0 kj3 ([] : List (S163)) 0 y359 (y359.length : Int) 0) = some (r1, r2) := by first | (rw [hy359]; with_reducible exact H) | (have H2_ := (Option.bind_some _ _).symm.trans H; rw [hy359]; with_reducible exact H2_) | (have H2_ := (Option.bind_some _ _).symm.trans H; with_reducible exact H2_) | with_reducible exact H | (rw [hy359]; exact H) | exact H
    have Ny359 := Aside0.mk hy359; clear hy359; have H' := Aside0.mk H; clear H; obtain ⟨Ao13, co13, eo13⟩ := Kd.R_slice HO_4.out; subst eo13; have q12 : (1 : Int) ≤ ((t355.length : Int) : Int) := of_decide_eq_true y0_16; obtain ⟨i012, hi012, _, hsz12, _⟩ := info_parts info9; have hroom12 : t355.length ≤ co13 := (Kd.R_reads' HO_4.out).2.1; have hC12 : Kd.C Kd.string _ Ao13 t355.length t355 := (Kd.R_reads' HO_4.out).2.2
    have hcut12 := cut_from (P := Tryz.prog) 178 9 .i64 Tryz.underlying178 hi012 1 hsz12 Ao13 t355.length co13 1 (by omega) q12
    have hr12 := Kd.C_drop (m := (1 : Int).toNat) (c := co13) hC12 (by omega) hroom12
    obtain ⟨A12, hA12⟩ : ∃ A1, A1 = (if co13 = (1 : Int).toNat then Ao13 else (Ao13 : Option Addr).map (·.add ((1 : Int).toNat * 1))) := ⟨_, rfl⟩
    obtain ⟨c12, hc12⟩ : ∃ c1, c1 = co13 - (1 : Int).toNat := ⟨_, rfl⟩
    have hy12 : y359.length = t355.length - (1 : Int).toNat := (by rw [Ny359.out, List.length_drop] <;> omega)
    rw [show (t355).drop (1 : Int).toNat = y359 from Ny359.out.symm] at hr12
    replace hr12 : Kd.C Kd.string _ A12 y359.length y359 := (by rw [hA12]; exact hr12)
    rw [← hy12, ← hA12, ← hc12] at hcut12
    have HR362 := Aside0.mk hr12
    have HC362 := Aside0.mk (show y359.length ≤ c12 from by rw [hy12, hc12]; exact Nat.sub_le_sub_right hroom12 _)
    clear hr12 hC12 hroom12 hi012 hsz12 hc12; have KY12 := Aside0.mk hy12; have KA12 := Aside0.mk hA12; clear hy12 hA12
    have KL12 := Aside0.mk (show 1 ≤ t355.length from by omega)
    replace q12 := eq_true q12
    go_wp2
    have HB0 := HB; replace HG := Aside0.mk (HG.out.below HB.out); replace HB := Aside0.mk (Below.refl wc.heap.size wc)
    go_loopg [5, 6, 33] kj3 (fun kq v5 v6 v33 w' => ∃ (x5_2 : List (S163)) (x6_2 : Int) (x33_2 : Int), v6 = .int .i64 x6_2 ∧ v33 = .int .i64 x33_2 ∧ Aside0 (impl_Steps.l0 kq x5_2 x6_2 y359 (y359.length : Int) x33_2 = some (r1, r2)) ∧ Aside0 (kq ≤ kj3) ∧ Aside0 (Kd.S k163 163 w' wc.heap.size (fun _ => True) v5 x5_2) ∧ Aside0 (Below wc.heap.size wc w'))
    case atStart => exact ⟨(([] : List (S163))), (0), (0), y0_17, y0_17, H', ⟨Nat.le_refl _⟩, ⟨y0_3⟩, ⟨bI HB.out⟩⟩
    case round =>
     clear H'
     try clear c1
     try clear q1
     try clear c2
     try clear c2b0
     try clear c2b1
     try clear p2
     try clear p3
     try clear q3
     try clear hx3
     try clear qi3
     try clear c6
     try clear c6b0
     try clear c6b1
     try clear p6
     try clear c7
     try clear c7b0
     try clear c7b1
     try clear c10
     try clear c11
     try clear c11b0
     try clear c11b1
     try clear c12
     try clear q12
     try clear hx358_0
     try clear p2
     try clear p3
     try clear p358
     try clear p6
     try clear q12
     try clear q3
     try clear q358
     obtain ⟨x5_2, x6_2, x33_2, rfl, rfl, HA, HK2, HO_5, HB⟩ := hrel; cases gk with
     | zero => exact absurd HA.out (by simp [impl_Steps.l0])
     | succ k2 =>
      have H := HA.out; clear HA
      simp only [impl_Steps.l0] at H
      by_cases c14 : x33_2 < (y359.length : Int)
      ·
       rw [if_pos c14] at H
       have c14b0 : decide (x33_2 < (y359.length : Int)) = true := decide_eq_true c14; clear c14
       by_cases c15 : 0 ≤ x33_2
       rotate_left
       ·
        rw [if_neg c15] at H
        exact absurd H (by simp)
       rw [if_pos c15] at H
       have c15b0 : decide (0 ≤ x33_2) = true := decide_eq_true c15; clear c15
       by_cases c16 : x33_2 < (y359.length : Int)
       rotate_left
       ·
        rw [if_neg c16] at H
        exact absurd H (by simp)
       rw [if_pos c16] at H
       have c16b0 : decide (x33_2 < (y359.length : Int)) = true := decide_eq_true c16; clear c16; obtain ⟨⟨t364, t365, t366⟩, A17, H⟩ := oB H; (try dsimp only at H); obtain ⟨⟨t367, t368⟩, A18, H⟩ := oB H; (try dsimp only at H); obtain ⟨⟨t369, t370⟩, A19, H⟩ := oB H; (try dsimp only at H)
       by_cases c20 : t366 = true
       ·
        subst c20
        rw [if_pos rfl] at H
        by_cases c21 : t368 = true
        ·
         subst c21
         rw [if_pos rfl] at H
         by_cases c22 : t370 = true
         ·
          subst c22
          rw [if_pos rfl] at H
          obtain ⟨t373, A23, H⟩ := oB H; (try dsimp only at H)
          by_cases c24 : t373 = true
          ·
           subst c24
           rw [if_pos rfl] at H
           by_cases c25 : (t369.length : Int) > 2
           ·
            rw [if_pos c25] at H
            have c25b0 : decide (2 < (t369.length : Int)) = true := decide_eq_true c25
            have c25b1 : decide (2 < t369.length) = true := decide_eq_true (by omega)
            clear c25
            simp only [Option.some.injEq, Prod.mk.injEq] at H
            obtain ⟨rfl, rfl⟩ := H; have p363 : 0 ≤ (x33_2 : Int) := of_decide_eq_true y0_16; have q363 : x33_2 < (y359.length : Int) := of_decide_eq_true y0_16; obtain ⟨ad363, e363, hx363_0⟩ := Kd.at_string HR362.out x33_2 p363 q363; cases e363; replace hx363_0 := bx HB hx363_0; replace p363 := eq_true p363; replace q363 := eq_true q363
            go_wp2_with (first | ((with_reducible refine gate_callee (f := 175) rfl ?_); refine gB (some 39) Tryz.func175 #[.string (rdOf ByteArray.empty y359 x33_2), .string (⟨#[124]⟩ : ByteArray)] ?_; (with_reducible refine (strings_Cut.calls (rdOf ByteArray.empty y359 x33_2) (⟨#[124]⟩ : ByteArray) t364 t365 true _ A17.out).mono ?_); rintro e w26 ⟨rfl, hb⟩; refine ⟨_, rfl, ?_⟩; replace HO_5 := sb HO_5 hb; replace HB := bs HB hb; (try clear hb); (try clear hb2); (try clear hk); (try clear hi)) | ((with_reducible refine gate_callee (f := 176) rfl ?_); refine gB (some 45) Tryz.func176 #[.string t364] ?_; (with_reducible refine (impl_Number.calls k2 t364 t367 true _ A18.out).mono ?_); rintro e w27 ⟨rfl, hb⟩; refine ⟨_, rfl, ?_⟩; replace HO_5 := sb HO_5 hb; replace HB := bs HB hb; (try clear hb); (try clear hb2); (try clear hk); (try clear hi)) | ((with_reducible refine gate_callee (f := 177) rfl ?_); refine gB (some 50) Tryz.func177 #[.string t365] ?_; (with_reducible refine (impl_TxsOf.calls k2 t365 t369 true _ A19.out).mono ?_); rintro e w28 ⟨v371, rfl, ho0, hb⟩; refine ⟨_, rfl, ?_⟩; replace HO_5 := Aside0.mk (Kd.S_elder' (sI HO_5.out) (Kd.R_base ho0) hb); have HO372 := Aside0.mk (Kd.R_lower ho0 (below_size (bI HB.out))); replace HB := bs HB hb; (try clear hb)) | (go_at_call 106; (with_reducible refine (impl_within.calls t367 (wrap64 (x6_2 + 1)) 60 true _ A23.out).mono ?_); rintro e w' ⟨rfl, ⟨nd, rfl⟩⟩; obtain ⟨Ao29, co29, eo29⟩ := Kd.R_slice HO372.out; subst eo29))
            go_ret2
            exact ⟨_, y0_11, Kd.S_lower (base := wc.heap.size) y0_3 (below_size HB0.out), below_step HB0.out (bI HB.out)⟩
           rw [if_neg c25] at H
           have c25b0 : decide (2 < (t369.length : Int)) = false := decide_eq_false c25
           have c25b1 : decide (2 < t369.length) = false := decide_eq_false (by omega)
           clear c25
           by_cases c30 : x5_2.length < 4398046511104
           rotate_left
           ·
            rw [if_neg c30] at H
            exact absurd H (by simp)
           rw [if_pos c30] at H
           have LMc30 := Aside0.mk c30; clear c30; obtain ⟨y374, hy374⟩ : ∃ y_ : List (S163), y_ = (x5_2 ++ [(⟨t367, t369⟩ : S163)]) := ⟨_, rfl⟩
           replace H : (impl_Steps.l0 k2 y374 t367 y359 (y359.length : Int) (wrap64 (x33_2 + 1))) = some (r1, r2) := by first | (rw [hy374]; with_reducible exact H) | (have H2_ := (Option.bind_some _ _).symm.trans H; rw [hy374]; with_reducible exact H2_) | (have H2_ := (Option.bind_some _ _).symm.trans H; with_reducible exact H2_) | with_reducible exact H | (rw [hy374]; exact H) | exact H
           have Ny374 := Aside0.mk hy374; clear hy374; have H' := Aside0.mk H; clear H; have p363 : 0 ≤ (x33_2 : Int) := of_decide_eq_true y0_16; have q363 : x33_2 < (y359.length : Int) := of_decide_eq_true y0_16; obtain ⟨ad363, e363, hx363_0⟩ := Kd.at_string HR362.out x33_2 p363 q363; cases e363; replace hx363_0 := bx HB hx363_0; replace p363 := eq_true p363; replace q363 := eq_true q363
           go_wp2_with (first | ((with_reducible refine gate_callee (f := 175) rfl ?_); refine gB (some 39) Tryz.func175 #[.string (rdOf ByteArray.empty y359 x33_2), .string (⟨#[124]⟩ : ByteArray)] ?_; (with_reducible refine (strings_Cut.calls (rdOf ByteArray.empty y359 x33_2) (⟨#[124]⟩ : ByteArray) t364 t365 true _ A17.out).mono ?_); rintro e w31 ⟨rfl, hb⟩; refine ⟨_, rfl, ?_⟩; replace HO_5 := sb HO_5 hb; replace HB := bs HB hb; (try clear hb); (try clear hb2); (try clear hk); (try clear hi)) | ((with_reducible refine gate_callee (f := 176) rfl ?_); refine gB (some 45) Tryz.func176 #[.string t364] ?_; (with_reducible refine (impl_Number.calls k2 t364 t367 true _ A18.out).mono ?_); rintro e w32 ⟨rfl, hb⟩; refine ⟨_, rfl, ?_⟩; replace HO_5 := sb HO_5 hb; replace HB := bs HB hb; (try clear hb); (try clear hb2); (try clear hk); (try clear hi)) | ((with_reducible refine gate_callee (f := 177) rfl ?_); refine gB (some 50) Tryz.func177 #[.string t365] ?_; (with_reducible refine (impl_TxsOf.calls k2 t365 t369 true _ A19.out).mono ?_); rintro e w33 ⟨v371, rfl, ho0, hb⟩; refine ⟨_, rfl, ?_⟩; replace HO_5 := Aside0.mk (Kd.S_elder' (sI HO_5.out) (Kd.R_base ho0) hb); have HO372 := Aside0.mk (Kd.R_lower ho0 (below_size (bI HB.out))); replace HB := bs HB hb; (try clear hb)) | (go_at_call 106; (with_reducible refine (impl_within.calls t367 (wrap64 (x6_2 + 1)) 60 true _ A23.out).mono ?_); rintro e w' ⟨rfl, ⟨nd, rfl⟩⟩; obtain ⟨Ao34, co34, eo34⟩ := Kd.R_slice HO372.out; subst eo34) | ((with_reducible refine gate_builtin (b := .append) (xs := #[.tmp 75, .tmp 79]) rfl ?_); (try (refine gate_guard (by rfl) ?_; dsimp only)); at_builtin; refine Kd.S_append k163 (w0 := wc) wc.heap.size rfl (.tmp 75) (.tmp 79) 159 163 (.agg #[(.int .i64 0), (.slice none 0 0)]) 32 rfl Tryz.underlying159 info163 rfl (by decide) (by omega) u5 x5_2 (⟨t367, t369⟩ : S163) [.int .i64 t367, .slice Ao34 t369.length co34] (fun _ => True) (fun k_ => some k_ = (.slice Ao34 t369.length co34 : Value).ownBlock) rfl rfl ?aP (fun k_ hk_ => ((Kd.R_mono (ok' := fun k_ => ((fun _ => True)) k_ ∧ some k_ ≠ (u5 : Value).ownBlock) (Kd.R_apart' (HO372.out) (Kd.S_typed HO_5.out) (by decide)) (fun k_ hk => ⟨trivial, hk.2⟩))).1 k_ hk_.symm) ?aF ?aO ?aB ?aS ?aL ?_; (case aP => exact k163_mkM _ _ _ (⟨t367, t369⟩ : S163) (Kd.R_mono (Kd.R_tight rfl (Kd.R_mono (ok' := fun k_ => ((fun _ => True)) k_ ∧ some k_ ≠ (u5 : Value).ownBlock) (Kd.R_apart' (HO372.out) (Kd.S_typed HO_5.out) (by decide)) (fun k_ hk => ⟨trivial, hk.2⟩))) (fun _ h_ => h_))); (case aB => exact (bI HB.out)); (case aF => exact (fun _ _ => trivial)); (case aO => exact (sI (Kd.S_mono HO_5.out (fun k_ hk => ⟨trivial, fun e_ => hk.2 e_⟩)))); (case aS => exact (below_size (bI HB.out))); (case aL => have := LMc30.out; omega); intro v375 w35 ho hb hg hat; rw [← Ny374.out] at ho; have n0_ := Aside0.mk (hb); have n1_ := Aside0.mk (ho); clear HB; clear HO_5; clear HO372; have HB := n0_; have HO376 := n1_; clear n0_ n1_; clear ho hb hg hat))
           go_roundg k2
           case measure => have := HJ3.out; have := HK2.out; omega
           case rel => exact ⟨(y374), (t367), (wrap64 (x33_2 + 1)), y0_17, y0_17, H', ⟨by have := HJ3.out; have := HK2.out; omega⟩, ⟨by (with_reducible repeat (first | apply Kd.S_alloc | apply Kd.S_drewN | apply Kd.S_drew)); exact HO376.out⟩, ⟨bI HB.out⟩⟩
          replace c24 := Bool.eq_false_iff.mpr c24; subst c24
          rw [if_neg (show ¬ (false = true) by decide)] at H
          simp only [Option.some.injEq, Prod.mk.injEq] at H
          obtain ⟨rfl, rfl⟩ := H; have p363 : 0 ≤ (x33_2 : Int) := of_decide_eq_true y0_16; have q363 : x33_2 < (y359.length : Int) := of_decide_eq_true y0_16; obtain ⟨ad363, e363, hx363_0⟩ := Kd.at_string HR362.out x33_2 p363 q363; cases e363; replace hx363_0 := bx HB hx363_0; replace p363 := eq_true p363; replace q363 := eq_true q363
          go_wp2_with (first | ((with_reducible refine gate_callee (f := 175) rfl ?_); refine gB (some 39) Tryz.func175 #[.string (rdOf ByteArray.empty y359 x33_2), .string (⟨#[124]⟩ : ByteArray)] ?_; (with_reducible refine (strings_Cut.calls (rdOf ByteArray.empty y359 x33_2) (⟨#[124]⟩ : ByteArray) t364 t365 true _ A17.out).mono ?_); rintro e w36 ⟨rfl, hb⟩; refine ⟨_, rfl, ?_⟩; replace HO_5 := sb HO_5 hb; replace HB := bs HB hb; (try clear hb); (try clear hb2); (try clear hk); (try clear hi)) | ((with_reducible refine gate_callee (f := 176) rfl ?_); refine gB (some 45) Tryz.func176 #[.string t364] ?_; (with_reducible refine (impl_Number.calls k2 t364 t367 true _ A18.out).mono ?_); rintro e w37 ⟨rfl, hb⟩; refine ⟨_, rfl, ?_⟩; replace HO_5 := sb HO_5 hb; replace HB := bs HB hb; (try clear hb); (try clear hb2); (try clear hk); (try clear hi)) | ((with_reducible refine gate_callee (f := 177) rfl ?_); refine gB (some 50) Tryz.func177 #[.string t365] ?_; (with_reducible refine (impl_TxsOf.calls k2 t365 t369 true _ A19.out).mono ?_); rintro e w38 ⟨v371, rfl, ho0, hb⟩; refine ⟨_, rfl, ?_⟩; replace HO_5 := Aside0.mk (Kd.S_elder' (sI HO_5.out) (Kd.R_base ho0) hb); have HO372 := Aside0.mk (Kd.R_lower ho0 (below_size (bI HB.out))); replace HB := bs HB hb; (try clear hb)) | (go_at_call 106; (with_reducible refine (impl_within.calls t367 (wrap64 (x6_2 + 1)) 60 false _ A23.out).mono ?_); rintro e w' ⟨rfl, ⟨nd, rfl⟩⟩))
          go_ret2
          exact ⟨_, y0_11, Kd.S_lower (base := wc.heap.size) y0_3 (below_size HB0.out), below_step HB0.out (bI HB.out)⟩
         replace c22 := Bool.eq_false_iff.mpr c22; subst c22
         rw [if_neg (show ¬ (false = true) by decide)] at H
         simp only [Option.some.injEq, Prod.mk.injEq] at H
         obtain ⟨rfl, rfl⟩ := H; have p363 : 0 ≤ (x33_2 : Int) := of_decide_eq_true y0_16; have q363 : x33_2 < (y359.length : Int) := of_decide_eq_true y0_16; obtain ⟨ad363, e363, hx363_0⟩ := Kd.at_string HR362.out x33_2 p363 q363; cases e363; replace hx363_0 := bx HB hx363_0; replace p363 := eq_true p363; replace q363 := eq_true q363
         go_wp2_with (first | ((with_reducible refine gate_callee (f := 175) rfl ?_); refine gB (some 39) Tryz.func175 #[.string (rdOf ByteArray.empty y359 x33_2), .string (⟨#[124]⟩ : ByteArray)] ?_; (with_reducible refine (strings_Cut.calls (rdOf ByteArray.empty y359 x33_2) (⟨#[124]⟩ : ByteArray) t364 t365 true _ A17.out).mono ?_); rintro e w39 ⟨rfl, hb⟩; refine ⟨_, rfl, ?_⟩; replace HO_5 := sb HO_5 hb; replace HB := bs HB hb; (try clear hb); (try clear hb2); (try clear hk); (try clear hi)) | ((with_reducible refine gate_callee (f := 176) rfl ?_); refine gB (some 45) Tryz.func176 #[.string t364] ?_; (with_reducible refine (impl_Number.calls k2 t364 t367 true _ A18.out).mono ?_); rintro e w40 ⟨rfl, hb⟩; refine ⟨_, rfl, ?_⟩; replace HO_5 := sb HO_5 hb; replace HB := bs HB hb; (try clear hb); (try clear hb2); (try clear hk); (try clear hi)) | ((with_reducible refine gate_callee (f := 177) rfl ?_); refine gB (some 50) Tryz.func177 #[.string t365] ?_; (with_reducible refine (impl_TxsOf.calls k2 t365 t369 false _ A19.out).mono ?_); rintro e w41 ⟨v371, rfl, ho0, hb⟩; refine ⟨_, rfl, ?_⟩; replace HO_5 := Aside0.mk (Kd.S_elder' (sI HO_5.out) (Kd.R_base ho0) hb); have HO372 := Aside0.mk (Kd.R_lower ho0 (below_size (bI HB.out))); replace HB := bs HB hb; (try clear hb)))
         go_ret2
         exact ⟨_, y0_11, Kd.S_lower (base := wc.heap.size) y0_3 (below_size HB0.out), below_step HB0.out (bI HB.out)⟩
        replace c21 := Bool.eq_false_iff.mpr c21; subst c21
        rw [if_neg (show ¬ (false = true) by decide)] at H
        simp only [Option.some.injEq, Prod.mk.injEq] at H
        obtain ⟨rfl, rfl⟩ := H; have p363 : 0 ≤ (x33_2 : Int) := of_decide_eq_true y0_16; have q363 : x33_2 < (y359.length : Int) := of_decide_eq_true y0_16; obtain ⟨ad363, e363, hx363_0⟩ := Kd.at_string HR362.out x33_2 p363 q363; cases e363; replace hx363_0 := bx HB hx363_0; replace p363 := eq_true p363; replace q363 := eq_true q363
        go_wp2_with (first | ((with_reducible refine gate_callee (f := 175) rfl ?_); refine gB (some 39) Tryz.func175 #[.string (rdOf ByteArray.empty y359 x33_2), .string (⟨#[124]⟩ : ByteArray)] ?_; (with_reducible refine (strings_Cut.calls (rdOf ByteArray.empty y359 x33_2) (⟨#[124]⟩ : ByteArray) t364 t365 true _ A17.out).mono ?_); rintro e w42 ⟨rfl, hb⟩; refine ⟨_, rfl, ?_⟩; replace HO_5 := sb HO_5 hb; replace HB := bs HB hb; (try clear hb); (try clear hb2); (try clear hk); (try clear hi)) | ((with_reducible refine gate_callee (f := 176) rfl ?_); refine gB (some 45) Tryz.func176 #[.string t364] ?_; (with_reducible refine (impl_Number.calls k2 t364 t367 false _ A18.out).mono ?_); rintro e w43 ⟨rfl, hb⟩; refine ⟨_, rfl, ?_⟩; replace HO_5 := sb HO_5 hb; replace HB := bs HB hb; (try clear hb); (try clear hb2); (try clear hk); (try clear hi)) | ((with_reducible refine gate_callee (f := 177) rfl ?_); refine gB (some 50) Tryz.func177 #[.string t365] ?_; (with_reducible refine (impl_TxsOf.calls k2 t365 t369 t370 _ A19.out).mono ?_); rintro e w44 ⟨v371, rfl, ho0, hb⟩; refine ⟨_, rfl, ?_⟩; replace HO_5 := Aside0.mk (Kd.S_elder' (sI HO_5.out) (Kd.R_base ho0) hb); have HO372 := Aside0.mk (Kd.R_lower ho0 (below_size (bI HB.out))); replace HB := bs HB hb; (try clear hb)))
        go_ret2
        exact ⟨_, y0_11, Kd.S_lower (base := wc.heap.size) y0_3 (below_size HB0.out), below_step HB0.out (bI HB.out)⟩
       replace c20 := Bool.eq_false_iff.mpr c20; subst c20
       rw [if_neg (show ¬ (false = true) by decide)] at H
       simp only [Option.some.injEq, Prod.mk.injEq] at H
       obtain ⟨rfl, rfl⟩ := H; have p363 : 0 ≤ (x33_2 : Int) := of_decide_eq_true y0_16; have q363 : x33_2 < (y359.length : Int) := of_decide_eq_true y0_16; obtain ⟨ad363, e363, hx363_0⟩ := Kd.at_string HR362.out x33_2 p363 q363; cases e363; replace hx363_0 := bx HB hx363_0; replace p363 := eq_true p363; replace q363 := eq_true q363
       go_wp2_with (first | ((with_reducible refine gate_callee (f := 175) rfl ?_); refine gB (some 39) Tryz.func175 #[.string (rdOf ByteArray.empty y359 x33_2), .string (⟨#[124]⟩ : ByteArray)] ?_; (with_reducible refine (strings_Cut.calls (rdOf ByteArray.empty y359 x33_2) (⟨#[124]⟩ : ByteArray) t364 t365 false _ A17.out).mono ?_); rintro e w45 ⟨rfl, hb⟩; refine ⟨_, rfl, ?_⟩; replace HO_5 := sb HO_5 hb; replace HB := bs HB hb; (try clear hb); (try clear hb2); (try clear hk); (try clear hi)) | ((with_reducible refine gate_callee (f := 176) rfl ?_); refine gB (some 45) Tryz.func176 #[.string t364] ?_; (with_reducible refine (impl_Number.calls k2 t364 t367 t368 _ A18.out).mono ?_); rintro e w46 ⟨rfl, hb⟩; refine ⟨_, rfl, ?_⟩; replace HO_5 := sb HO_5 hb; replace HB := bs HB hb; (try clear hb); (try clear hb2); (try clear hk); (try clear hi)) | ((with_reducible refine gate_callee (f := 177) rfl ?_); refine gB (some 50) Tryz.func177 #[.string t365] ?_; (with_reducible refine (impl_TxsOf.calls k2 t365 t369 t370 _ A19.out).mono ?_); rintro e w47 ⟨v371, rfl, ho0, hb⟩; refine ⟨_, rfl, ?_⟩; replace HO_5 := Aside0.mk (Kd.S_elder' (sI HO_5.out) (Kd.R_base ho0) hb); have HO372 := Aside0.mk (Kd.R_lower ho0 (below_size (bI HB.out))); replace HB := bs HB hb; (try clear hb)))
       go_ret2
       exact ⟨_, y0_11, Kd.S_lower (base := wc.heap.size) y0_3 (below_size HB0.out), below_step HB0.out (bI HB.out)⟩
      rw [if_neg c14] at H
      have c14b0 : decide (x33_2 < (y359.length : Int)) = false := decide_eq_false c14; clear c14
      simp only [Option.some.injEq, Prod.mk.injEq] at H
      obtain ⟨rfl, rfl⟩ := H
      go_wp2
      go_ret2
      exact ⟨_, y0_11, Kd.S_lower (base := wc.heap.size) (by (with_reducible repeat (first | apply Kd.S_alloc | apply Kd.S_drewN | apply Kd.S_drew)); exact HO_5.out) (below_size HB0.out), below_step HB0.out (bI HB.out)⟩
   rw [if_neg c11] at H
   exact absurd H (by simp)

/-! ### impl_NameOk: function 107 -/
def impl_NameOk.f (k : Nat) (a0 : ByteArray) : Option (Bool) := (impl_Steps.f k a0).bind fun bt377 => (some bt377.2)
theorem impl_NameOk.mono : ∀ a0 k, LeO (impl_NameOk.f k a0) (impl_NameOk.f (k + 1) a0) := by
 intro a0 k
 unfold impl_NameOk.f
 repeat' first | (with_reducible exact impl_Steps.mono _ _) | (with_reducible exact LeO.refl _) | (with_reducible exact LeO.none _) | (with_reducible refine LeO.ite ?_ ?_) | (with_reducible refine LeO.bind ?_ (fun _ => ?_))
set_option maxHeartbeats 8000000 in
set_option maxRecDepth 100000 in
theorem impl_NameOk.calls (k : Nat) (a0 : ByteArray) (r : Bool) (w : World) (h : impl_NameOk.f k a0 = some r) (hG : Glob w := by exact gG HG HB) :
  Calls Tryz.prog 107 #[.string a0] w fun e w' => e = .returned (.bool r) ∧ Below w.heap.size w w' := by
 have HG := Aside0.mk hG; clear hG; have HB := Aside0.mk (Below.refl w.heap.size w)
 have H := h; unfold impl_NameOk.f at H
 clear h; obtain ⟨⟨t377, t378⟩, A2, H⟩ := oB H; (try dsimp only at H); obtain rfl := Option.some.inj H
 go_enter Tryz.func107, Tryz.ntmps107
 go_wp2_with (first | ((with_reducible refine gate_callee (f := 151) rfl ?_); refine gS1 (some 7) Tryz.func151 (impl_Steps.calls (w := _) (h := A2.out)) ?_; intro Ao379 co379 w3 _ HO380))
 go_ret
 exact ⟨y0_17, UpW.out⟩

/-! ### impl_ViewOf: function 108 -/
def impl_ViewOf.f (k : Nat) (a0 : ByteArray) : Option (Int) := (impl_Steps.f k a0).bind fun bt381 => (if (bt381.1.length : Int) = 0 then (some 0) else (if 0 ≤ (wrap64 ((bt381.1.length : Int) - 1)) then (if (wrap64 ((bt381.1.length : Int) - 1)) < (bt381.1.length : Int) then (some ((rd_T163 bt381.1 (wrap64 ((bt381.1.length : Int) - 1))).f0)) else (none)) else (none)))
theorem impl_ViewOf.mono : ∀ a0 k, LeO (impl_ViewOf.f k a0) (impl_ViewOf.f (k + 1) a0) := by
 intro a0 k
 unfold impl_ViewOf.f
 repeat' first | (with_reducible exact impl_Steps.mono _ _) | (with_reducible exact LeO.refl _) | (with_reducible exact LeO.none _) | (with_reducible refine LeO.ite ?_ ?_) | (with_reducible refine LeO.bind ?_ (fun _ => ?_))
set_option maxHeartbeats 8000000 in
set_option maxRecDepth 100000 in
theorem impl_ViewOf.calls (k : Nat) (a0 : ByteArray) (r : Int) (w : World) (h : impl_ViewOf.f k a0 = some r) (hG : Glob w := by exact gG HG HB) :
  Calls Tryz.prog 108 #[.string a0] w fun e w' => e = .returned (.int .i64 r) ∧ Below w.heap.size w w' := by
 have HG := Aside0.mk hG; clear hG; have HB := Aside0.mk (Below.refl w.heap.size w)
 have H := h; unfold impl_ViewOf.f at H
 clear h; obtain ⟨⟨t381, t382⟩, A2, H⟩ := oB H; (try dsimp only at H)
 by_cases c3 : (t381.length : Int) = 0
 ·
  rw [if_pos c3] at H
  have c3b0 : ((t381.length : Int) == 0) = true := beq_iff_eq.mpr c3; have c3b1 : ((t381.length : Int) != 0) = false := bne_eq_false_iff_eq.mpr c3; clear c3; obtain rfl := Option.some.inj H
  go_enter Tryz.func108, Tryz.ntmps108
  go_wp2_with (first | ((with_reducible refine gate_callee (f := 151) rfl ?_); refine gB (some 7) Tryz.func151 #[.string a0] ?_; (with_reducible refine (impl_Steps.calls k a0 t381 t382 _ A2.out).mono ?_); rintro e w4 ⟨v383, rfl, ho0, hb⟩; refine ⟨_, rfl, ?_⟩; have HO384 := Aside0.mk (Kd.S_lower ho0 (below_size (bI HB.out))); replace HB := bs HB hb; (try clear hb); (try clear ho0); obtain ⟨Ao5, co5, eo5⟩ := Kd.S_slice HO384.out; subst eo5))
  go_ret
  exact ⟨y0_11, bI HB.out⟩
 rw [if_neg c3] at H
 have c3b0 : ((t381.length : Int) == 0) = false := beq_eq_false_iff_ne.mpr c3; have c3b1 : ((t381.length : Int) != 0) = true := bne_iff_ne.mpr c3
 have c3b2 : ¬ (t381 = []) := fun h_ => c3 (by rw [h_]; rfl)
 obtain ⟨ji6, hji6⟩ : ∃ j_ : Int, (wrap64 ((t381.length : Int) - 1)) = j_ := ⟨_, rfl⟩
 replace H : (if 0 ≤ (ji6) then (if (ji6) < (t381.length : Int) then (some ((rd_T163 t381 (ji6)).f0)) else (none)) else (none)) = some r := by first | (rw [hji6] at H; exact H) | (simp only [hji6] at H ⊢; exact H)
 (try rw [hji6] at A2)
 have hji6w : (IntKind.i64.wrap ((t381.length : Int) - 1)) = ji6 := (i64_w _).trans hji6
 by_cases c7 : 0 ≤ (ji6)
 ·
  rw [if_pos c7] at H
  have c7b0 : decide (0 ≤ (ji6)) = true := decide_eq_true c7; clear c7
  by_cases c8 : (ji6) < (t381.length : Int)
  rotate_left
  ·
   rw [if_neg c8] at H
   exact absurd H (by simp)
  rw [if_pos c8] at H
  have c8b0 : decide ((ji6) < (t381.length : Int)) = true := decide_eq_true c8; clear c8; obtain rfl := Option.some.inj H
  go_enter Tryz.func108, Tryz.ntmps108
  go_wp2_with (first | ((with_reducible refine gate_callee (f := 151) rfl ?_); refine gB (some 7) Tryz.func151 #[.string a0] ?_; (with_reducible refine (impl_Steps.calls k a0 t381 t382 _ A2.out).mono ?_); rintro e w9 ⟨v383, rfl, ho0, hb⟩; refine ⟨_, rfl, ?_⟩; have HO384 := Aside0.mk (Kd.S_lower ho0 (below_size (bI HB.out))); replace HB := bs HB hb; (try clear hb); (try clear ho0); obtain ⟨Ao10, co10, eo10⟩ := Kd.S_slice HO384.out; subst eo10; have p385 : 0 ≤ ((ji6) : Int) := of_decide_eq_true y0_16; have q385 : (ji6) < (t381.length : Int) := of_decide_eq_true y0_16; obtain ⟨ad385, A385_1, c385_1, e385, hx385_0, hx385_1, hl385_1, hi385_1⟩ := at_T163 (Kd.S_reads' HO384.out).2.2 (ji6) p385 q385; cases e385; obtain ⟨ce385, hce385, hMe385, hcc385⟩ := Kd.S_get HO384.out z163 (ji6) p385 (by first | exact q385 | exact of_decide_eq_true y0_16 | (have e_ := (Kd.S_reads' HO384.out).1; omega)); obtain ⟨ve385_1, rfl, ge385_1⟩ := k163_openM hMe385; have hv385_1 := hcc385 1 _ rfl; rw [add_field _ _ 1 (by omega)] at hv385_1; replace hv385_1 := Option.some.inj (hv385_1.symm.trans hx385_1); rw [hv385_1] at ge385_1; have HL385_1 := Aside0.mk (show Kd.R k156 156 _ _ _ _ ((rd_T163 t381 (ji6)).f1) from ge385_1); clear hv385_1 ge385_1; clear hcc385 hce385; have HR385_1 := Aside0.mk hi385_1; have HC385_1 := Aside0.mk hl385_1; clear hi385_1 hl385_1; replace p385 := eq_true p385; replace q385 := eq_true q385))
  go_ret
  exact ⟨by first | rfl | (simp [errW_none, errW_some] <;> rfl) | (simp only [← hji6]; first | rfl | (simp [errW_none, errW_some] <;> rfl)) | (simp [*, errW_none, errW_some] <;> rfl), bI HB.out⟩
 rw [if_neg c7] at H
 exact absurd H (by simp)

/-! ### impl_QcFirst: function 114 -/
def impl_QcFirst.f  : Option (Int × ByteArray × List Int) := some (0, (⟨#[]⟩ : ByteArray), ([] : List Int))
set_option maxHeartbeats 8000000 in
set_option maxRecDepth 100000 in
theorem impl_QcFirst.calls  (r1 : Int) (r2 : ByteArray) (r3 : List Int) (w : World) (h : impl_QcFirst.f  = some (r1, r2, r3)) :
  Calls Tryz.prog 114 #[] w fun e w' => ∃ v2_ : Value, e = .returned (.agg #[.int .i64 r1, .string r2, v2_]) ∧ Kd.R (Kd.int .i64) 3 w' w.heap.size (fun _ => True) v2_ r3 ∧ Below w.heap.size w w' := by
 have hu27 := Tryz.underlying27; have HB := Aside0.mk (Below.refl w.heap.size w); have H := h; unfold impl_QcFirst.f at H; clear h
 simp only [Option.some.injEq, Prod.mk.injEq] at H
 obtain ⟨rfl, rfl, rfl⟩ := H
 go_enter Tryz.func114, Tryz.ntmps114
 go_wp2_with (first | ((with_reducible refine gd 0 ?_); refine bL 0 #[.int .i64 0, .string (⟨#[]⟩ : ByteArray), .slice none 0 0] 27 ?_; intro gb386 w1 _ _ _))
 refine bodyPost_ret (results_cell_row rfl _ _ gb386 27 #[.int .i64 0, .string (⟨#[]⟩ : ByteArray), .slice none 0 0] (0, 0) _ rfl xB Tryz.underlying27 rfl (by kernel_rfl)) rfl ?_
 exact ⟨_, y0_17, Kd.R_nil _ _ _ _ _, UpW.out⟩

/-! ### impl_Faults: function 153 -/
def impl_Faults.f (a0_0 : Int) (a0_1 : Int) : Option (Int) := (impl_ConfOk.f a0_0 a0_1).bind fun t388 => (if t388 = true then (some (wrap64 (Int.tdiv (wrap64 (a0_0 - 1)) 3))) else (some 0))
set_option maxHeartbeats 8000000 in
set_option maxRecDepth 100000 in
theorem impl_Faults.calls (a0_0 : Int) (a0_1 : Int) (r : Int) (w : World) (h : impl_Faults.f a0_0 a0_1 = some r) :
  Calls Tryz.prog 153 #[.agg #[.int .i64 a0_0, .int .i64 a0_1]] w fun e w' => e = .returned (.int .i64 r) ∧ Below w.heap.size w w' := by
 have hu32 := Tryz.underlying32; have HB := Aside0.mk (Below.refl w.heap.size w)
 have H := h; unfold impl_Faults.f at H
 clear h; obtain ⟨t388, A2, H⟩ := oB H; (try dsimp only at H)
 go_enter Tryz.func153, Tryz.ntmps153
 have H' := Aside0.mk H; clear H
 go_upto_if 5 with (first | ((with_reducible refine gd 1 ?_); refine bL 1 #[.int .i64 a0_0, .int .i64 a0_1] 32 ?_; intro gb387 w3 _ _ _) | ((with_reducible refine gate_callee (f := 105) rfl ?_); refine gC (some 4) Tryz.func105 (impl_ConfOk.calls (w := _) (h := A2.out)) ?_; intro w4 _))
 have H := H'.out; clear H'
 by_cases c5 : t388 = true
 ·
  subst c5
  rw [if_pos rfl] at H
  obtain rfl := Option.some.inj H
  go_wp2
  go_ret
  exact ⟨y0_17, UpW.out⟩
 replace c5 := Bool.eq_false_iff.mpr c5; subst c5
 rw [if_neg (show ¬ (false = true) by decide)] at H
 obtain rfl := Option.some.inj H
 go_wp2
 go_ret
 exact ⟨y0_17, UpW.out⟩

/-! ### impl_Quorum: function 115 -/
def impl_Quorum.f (a0_0 : Int) (a0_1 : Int) : Option (Int) := (impl_ConfOk.f a0_0 a0_1).bind fun t390 => (if t390 = true then ((impl_Faults.f a0_0 a0_1).bind fun t391 => (some (wrap64 (a0_0 - t391)))) else (some 0))
def impl_Quorum.T3 : Bool × List (List Nat × List Nat) := (true, [([], []), ([0], [0]), ([], []), ([2], [2]), ([1, 3], [1, 3]), ([4, 3, 0, 1, 2, 3, 4], [4])])
def impl_Quorum.B3 : List Nat := [0, 1, 0, 4, 15, 31]
theorem impl_Quorum.tab3 : rtab .any (opsOf Tryz.f115 3) = impl_Quorum.T3 := by kernel_rfl
theorem impl_Quorum.bits3 : waitsOk impl_Quorum.T3.2 impl_Quorum.B3 = true := by kernel_rfl
set_option maxHeartbeats 8000000 in
set_option maxRecDepth 100000 in
theorem impl_Quorum.calls (a0_0 : Int) (a0_1 : Int) (r : Int) (w : World) (h : impl_Quorum.f a0_0 a0_1 = some r) :
  Calls Tryz.prog 115 #[.agg #[.int .i64 a0_0, .int .i64 a0_1]] w fun e w' => e = .returned (.int .i64 r) ∧ Below w.heap.size w w' := by
 have hu32 := Tryz.underlying32; have HB := Aside0.mk (Below.refl w.heap.size w)
 have H := h; unfold impl_Quorum.f at H
 clear h; obtain ⟨t390, A2, H⟩ := oB H; (try dsimp only at H)
 go_enter Tryz.func115, Tryz.ntmps115
 have H' := Aside0.mk H; clear H
 go_upto_if 5 with (first | ((with_reducible refine gd 1 ?_); refine bL 1 #[.int .i64 a0_0, .int .i64 a0_1] 32 ?_; intro gb389 w3 _ _ _) | ((with_reducible refine gate_callee (f := 105) rfl ?_); refine gC (some 4) Tryz.func105 (impl_ConfOk.calls (w := _) (h := A2.out)) ?_; intro w4 _))
 have H := H'.out; clear H'
 by_cases c5 : t390 = true
 ·
  subst c5
  rw [if_pos rfl] at H
  obtain ⟨t391, A6, H⟩ := oB H; (try dsimp only at H); obtain rfl := Option.some.inj H
  try go_wp2
  refine sB [] impl_Quorum.tab3 impl_Quorum.bits3 ?_; intro w7 _ HT_ HW_
  refine pA 0 (some 6) (bz 6 1) HT_ ?_
  refine tB 1 (some 7) (bz 6 3) HT_ HW_ ?_
  refine tB 2 (some 8) (bz 6 7) HT_ HW_ ?_
  refine o1 3 (some 9) (bz 6 15) HT_ rfl (kC Tryz.func153 (impl_Faults.calls (w := _) (h := A6.out)) ?_); intro w8 _
  refine nA (some 9) ?_
  refine pA 4 (some 10) (bz 6 31) HT_ ?_
  refine pA 5 (some 2) (bz 6 63) HT_ ?_
  refine done_ (done_of HT_.out (by kernel_rfl)) ?_
  try go_wp2
  go_ret
  exact ⟨y0_17, UpW.out⟩
 replace c5 := Bool.eq_false_iff.mpr c5; subst c5
 rw [if_neg (show ¬ (false = true) by decide)] at H
 obtain rfl := Option.some.inj H
 go_wp2
 go_ret
 exact ⟨y0_17, UpW.out⟩

end Go.Proofs.YtdmjhgogljhfkaaGreatDoor.PFnExactLastNote
