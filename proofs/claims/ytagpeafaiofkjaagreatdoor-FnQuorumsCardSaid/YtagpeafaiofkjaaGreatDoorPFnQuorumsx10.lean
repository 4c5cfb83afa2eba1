-- By a program of this session, out of the translation (the print of the kit, with turns of its own). Lean checks it.
import Derived.Test.YtagpeafaiofkjaaGreatDoorPFnQuorumsx0
import Derived.Test.YtagpeafaiofkjaaGreatDoorPFnQuorumsx8
import Derived.Test.YtagpeafaiofkjaaGreatDoorPFnQuorumsx9
namespace Go.Proofs.YtagpeafaiofkjaaGreatDoor.PFnQuorums
open Go.RowKit Go.Proofs.YtagpeafaiofkjaaGreatDoorW.PrintWords Go.Proofs.YtagpeafaiofkjaaGreatDoorW.PrintLast Go.Proofs.YtagpeafaiofkjaaGreatDoorW.PrintMore
attribute [local go_sem] max2_int min2_int max_two min_two max_three min_three max_four min_four   -- for this text's walks alone
attribute [local go_sem] cell_in frozen_in
set_option synthInstance.maxSize 1000000
set_option synthInstance.maxHeartbeats 2000000
set_option linter.unusedVariables false
set_option linter.unusedSimpArgs false

/-! ### impl_Steps: function 45 -/
mutual
def impl_Steps.j0 : Nat → List ByteArray → Bool → Option ((List (S64)) × Bool)
 | 0, _, _ => none
 | k + 1, x4, x29 => if x29 = true then (some (([] : List (S64)), false)) else (if 1 ≤ (x4.length : Int) then ((some (x4.drop 1 : List ByteArray)).bind fun y522 => (impl_Steps.l0 k ([] : List (S64)) 0 y522 (y522.length : Int) 0)) else (none))
def impl_Steps.l0 : Nat → List (S64) → Int → List ByteArray → Int → Int → Option ((List (S64)) × Bool)
 | 0, _, _, _, _, _ => none
 | k + 1, x5, x6, x31, x32, x33 => if x33 < x32 then (if 0 ≤ x33 then (if x33 < (x31.length : Int) then ((strings_Cut.f (rdOf ByteArray.empty x31 x33) (⟨#[124]⟩ : ByteArray)).bind fun bt527 => ((impl_Number.f k bt527.1).bind fun bt530 => ((impl_TxsOf.f k bt527.2.1).bind fun bt532 => (if bt527.2.2 = true then (if bt530.2 = true then (if bt532.2 = true then ((impl_within.f bt530.1 (wrap64 (x6 + 1)) 60).bind fun t536 => (if t536 = true then (if (bt532.1.length : Int) > 2 then (some (([] : List (S64)), false)) else (if x5.length < 4398046511104 then (impl_Steps.l0 k (x5 ++ [(⟨bt530.1, bt532.1⟩ : S64)]) bt530.1 x31 x32 (wrap64 (x33 + 1))) else (none))) else (some (([] : List (S64)), false)))) else (some (([] : List (S64)), false))) else (some (([] : List (S64)), false))) else (some (([] : List (S64)), false)))))) else (none)) else (none)) else (some (x5, true))
end
def impl_Steps.f (k : Nat) (a0 : ByteArray) : Option ((List (S64)) × Bool) := if a0.toList = ([] : List UInt8) then (some (([] : List (S64)), true)) else ((impl_Split.f a0 47).bind fun t518 => (if 0 < (t518.length : Int) then (if (rdOf ByteArray.empty t518 0).toList = ([] : List UInt8) then (impl_Steps.j0 k t518 (decide ((wrap64 ((t518.length : Int) - 1)) > 30))) else (impl_Steps.j0 k t518 true)) else (none)))
theorem impl_Steps.mono_l : ∀ k, (∀ y0 y1, LeO (impl_Steps.j0 k y0 y1) (impl_Steps.j0 (k + 1) y0 y1)) ∧ (∀ y0 y1 y2 y3 y4, LeO (impl_Steps.l0 k y0 y1 y2 y3 y4) (impl_Steps.l0 (k + 1) y0 y1 y2 y3 y4))
 | 0 => ⟨fun _ _ r h => by simp [impl_Steps.j0] at h, fun _ _ _ _ _ r h => by simp [impl_Steps.l0] at h⟩
 | k + 1 => by
  obtain ⟨ih0, ih1⟩ := impl_Steps.mono_l k
  refine ⟨?_, ?_⟩
  ·
   intro y0 y1
   unfold impl_Steps.j0
   repeat' first | (with_reducible exact ih0 _ _) | (with_reducible exact ih1 _ _ _ _ _) | (with_reducible exact impl_Number.mono _ _) | (with_reducible exact impl_TxsOf.mono _ _) | (with_reducible exact LeO.refl _) | (with_reducible exact LeO.none _) | (with_reducible refine LeO.ite ?_ ?_) | (with_reducible refine LeO.bind ?_ (fun _ => ?_))
  intro y0 y1 y2 y3 y4
  unfold impl_Steps.l0
  repeat' first | (with_reducible exact ih0 _ _) | (with_reducible exact ih1 _ _ _ _ _) | (with_reducible exact impl_Number.mono _ _) | (with_reducible exact impl_TxsOf.mono _ _) | (with_reducible exact LeO.refl _) | (with_reducible exact LeO.none _) | (with_reducible refine LeO.ite ?_ ?_) | (with_reducible refine LeO.bind ?_ (fun _ => ?_))
theorem impl_Steps.mono : ∀ a0 k, LeO (impl_Steps.f k a0) (impl_Steps.f (k + 1) a0) := by
 intro a0 k
 obtain ⟨ih0, ih1⟩ := impl_Steps.mono_l k
 unfold impl_Steps.f
 repeat' first | (with_reducible exact ih0 _ _) | (with_reducible exact ih1 _ _ _ _ _) | (with_reducible exact impl_Number.mono _ _) | (with_reducible exact impl_TxsOf.mono _ _) | (with_reducible exact LeO.refl _) | (with_reducible exact LeO.none _) | (with_reducible refine LeO.ite ?_ ?_) | (with_reducible refine LeO.bind ?_ (fun _ => ?_))
set_option maxHeartbeats 8000000 in
set_option maxRecDepth 100000 in
theorem impl_Steps.calls (k : Nat) (a0 : ByteArray) (r1 : List (S64)) (r2 : Bool) (w : World) (h : impl_Steps.f k a0 = some (r1, r2)) (hG : Glob w := by exact gG HG HB) :
  Calls Tryz.prog 45 #[.string a0] w fun e w' => ∃ v0_ : Value, e = .returned (.tuple #[v0_, .bool r2]) ∧ Kd.S k64 64 w' w.heap.size (fun _ => True) v0_ r1 ∧ Below w.heap.size w w' := by
 have HG := Aside0.mk hG; clear hG; have hu64 := Tryz.underlying64; have HB := Aside0.mk (Below.refl w.heap.size w)
 have H := h; unfold impl_Steps.f at H
 clear h
 by_cases c2 : a0.toList = ([] : List UInt8)
 ·
  rw [if_pos c2] at H
  have c2b0 : (a0.toList == ([] : List UInt8)) = true := beq_iff_eq.mpr c2; have c2b1 : (a0.toList != ([] : List UInt8)) = false := bne_eq_false_iff_eq.mpr c2; clear c2
  simp only [Option.some.injEq, Prod.mk.injEq] at H
  obtain ⟨rfl, rfl⟩ := H
  go_enter Tryz.func45, Tryz.ntmps45
  go_wp2
  go_ret2
  exact ⟨_, y0_11, y0_7, bI HB.out⟩
 rw [if_neg c2] at H
 have c2b0 : (a0.toList == ([] : List UInt8)) = false := beq_eq_false_iff_ne.mpr c2; have c2b1 : (a0.toList != ([] : List UInt8)) = true := bne_iff_ne.mpr c2; obtain ⟨t518, A3, H⟩ := oB H; (try dsimp only at H); have HC4 := Aside0.mk H; clear H
 go_enter Tryz.func45, Tryz.ntmps45
 go_upto_region 4 with (first | ((with_reducible refine gate_callee (f := 55) rfl ?_); refine gB (some 19) Tryz.func55 #[.string a0, .int .u8 47] ?_; (with_reducible refine (impl_Split.calls a0 47 t518 _ A3.out).mono ?_); rintro e w5 ⟨v519, rfl, ho0, hb⟩; refine ⟨_, rfl, ?_⟩; have HO520 := Aside0.mk (Kd.R_lower ho0 (below_size (bI HB.out))); replace HB := bs HB hb; (try clear hb); (try clear ho0)))
 (try simp only [Act.put, List.setIfInBounds_toArray, List.set_cons_zero, List.set_cons_succ])
 go_cut [29] (fun v29 wc => ∃ (kq : Nat) (x29_3 : Bool), v29 = .bool x29_3 ∧ Aside0 (impl_Steps.j0 kq t518 x29_3 = some (r1, r2)) ∧ Aside0 (kq ≤ k) ∧ Aside0 (Kd.R Kd.string 9 wc w.heap.size (fun _ => True) v519 t518) ∧ Aside0 (Below w.heap.size w wc))
 case first =>
  have H := HC4.out; clear HC4
  by_cases c6 : 0 < (t518.length : Int)
  rotate_left
  ·
   rw [if_neg c6] at H
   exact absurd H (by simp)
  rw [if_pos c6] at H
  have c6b0 : decide (0 < (t518.length : Int)) = true := decide_eq_true c6
  have c6b1 : decide (0 < t518.length) = true := decide_eq_true (by omega)
  clear c6
  (first | rw [c6b0] | (simp only [i64_w, i32_w]; rw [c6b0]) | skip)
  by_cases c7 : (rdOf ByteArray.empty t518 0).toList = ([] : List UInt8)
  ·
   rw [if_pos c7] at H
   have c7b0 : ((rdOf ByteArray.empty t518 0).toList == ([] : List UInt8)) = true := beq_iff_eq.mpr c7; have c7b1 : ((rdOf ByteArray.empty t518 0).toList != ([] : List UInt8)) = false := bne_eq_false_iff_eq.mpr c7; clear c7; have H' := Aside0.mk H; clear H; obtain ⟨Ao8, co8, eo8⟩ := Kd.R_slice HO520.out; subst eo8
   have p521 : 0 ≤ (0 : Int) := (by omega)
   have q521 : 0 < (t518.length : Int) := of_decide_eq_true y0_14; obtain ⟨ad521, e521, hx521_0⟩ := Kd.at_string (Kd.R_reads' HO520.out).2.2 0 p521 q521; cases e521
   have qi521 : (0 < t518.length) = True := eq_true (by omega)
   (try rw [show ((0 : Int)).toNat = 0 from rfl] at hx521_0)
   (try rw [Addr.add_zero'] at hx521_0)
   replace p521 := eq_true p521; replace q521 := eq_true q521
   go_wp2
   go_meet
   case rel => exact ⟨_, (decide ((wrap64 ((t518.length : Int) - 1)) > 30)), y0_15, H', ⟨y0_16⟩, ⟨by (with_reducible repeat (first | apply Kd.R_alloc | apply Kd.R_drewN | apply Kd.R_drew)); exact HO520.out⟩, ⟨bI HB.out⟩⟩
  rw [if_neg c7] at H
  have c7b0 : ((rdOf ByteArray.empty t518 0).toList == ([] : List UInt8)) = false := beq_eq_false_iff_ne.mpr c7; have c7b1 : ((rdOf ByteArray.empty t518 0).toList != ([] : List UInt8)) = true := bne_iff_ne.mpr c7; have H' := Aside0.mk H; clear H; obtain ⟨Ao9, co9, eo9⟩ := Kd.R_slice HO520.out; subst eo9
  have p521 : 0 ≤ (0 : Int) := (by omega)
  have q521 : 0 < (t518.length : Int) := of_decide_eq_true y0_14; obtain ⟨ad521, e521, hx521_0⟩ := Kd.at_string (Kd.R_reads' HO520.out).2.2 0 p521 q521; cases e521
  have qi521 : (0 < t518.length) = True := eq_true (by omega)
  (try rw [show ((0 : Int)).toNat = 0 from rfl] at hx521_0)
  (try rw [Addr.add_zero'] at hx521_0)
  replace p521 := eq_true p521; replace q521 := eq_true q521
  go_wp2
  go_meet
  case rel => exact ⟨_, (true), y0_15, H', ⟨y0_16⟩, ⟨by (with_reducible repeat (first | apply Kd.R_alloc | apply Kd.R_drewN | apply Kd.R_drew)); exact HO520.out⟩, ⟨bI HB.out⟩⟩
 case rest =>
  clear HC4
  try clear c2
  try clear c2b0
  try clear c2b1
  try clear p2
  try clear c4
  try clear c5
  try clear p5
  try clear q5
  try clear hx5
  try clear qi5
  try clear c6
  try clear c6b0
  try clear c6b1
  try clear p6
  try clear c7
  try clear c7b0
  try clear c7b1
  try clear hx521_0
  try clear p521
  try clear q521
  obtain ⟨kq, x29_3, rfl, HA, HJ3, HO_4, HB⟩ := hcut; cases kq with
  | zero => exact absurd HA.out (by simp [impl_Steps.j0])
  | succ kj3 =>
   have H := HA.out; clear HA
   simp only [impl_Steps.j0] at H
   by_cases c10 : x29_3 = true
   ·
    subst c10
    rw [if_pos rfl] at H
    simp only [Option.some.injEq, Prod.mk.injEq] at H
    obtain ⟨rfl, rfl⟩ := H
    go_wp2
    go_ret2
    exact ⟨_, y0_11, y0_7, bI HB.out⟩
   replace c10 := Bool.eq_false_iff.mpr c10; subst c10
   rw [if_neg (show ¬ (false = true) by decide)] at H
   by_cases c11 : 1 ≤ (t518.length : Int)
   ·
    rw [if_pos c11] at H
    have c11b0 := eq_true c11; have c11b1 : decide (1 ≤ (t518.length : Int)) = true := decide_eq_true c11; clear c11; obtain ⟨y522, hy522⟩ : ∃ y_ : List ByteArray, y_ = (t518.drop 1) := ⟨_, rfl⟩
    replace H : (impl_Steps.l0 kj3 ([] : List (S64)) 0 y522 (y522.length : Int) 0) = some (r1, r2) := by first | (rw [hy522]; with_reducible exact H) | (have H2_ := (Option.bind_some _ _).symm.trans H; rw [hy522]; with_reducible exact H2_) | (have H2_ := (Option.bind_some _ _).symm.trans H; with_reducible exact H2_) | with_reducible exact H | (rw [hy522]; exact H) | exact H
    have Ny522 := Aside0.mk hy522; clear hy522; have H' := Aside0.mk H; clear H; obtain ⟨Ao13, co13, eo13⟩ := Kd.R_slice HO_4.out; subst eo13; have q12 : (1 : Int) ≤ ((t518.length : Int) : Int) := of_decide_eq_true y0_14; obtain ⟨i012, hi012, _, hsz12, _⟩ := info_parts info9; have hroom12 : t518.length ≤ co13 := (Kd.R_reads' HO_4.out).2.1; have hC12 : Kd.C Kd.string _ Ao13 t518.length t518 := (Kd.R_reads' HO_4.out).2.2
    have hcut12 := cut_from (P := Tryz.prog) 74 9 .i64 Tryz.underlying74 hi012 1 hsz12 Ao13 t518.length co13 1 (by omega) q12
    have hr12 := Kd.C_drop (m := (1 : Int).toNat) (c := co13) hC12 (by omega) hroom12
    obtain ⟨A12, hA12⟩ : ∃ A1, A1 = (if co13 = (1 : Int).toNat then Ao13 else (Ao13 : Option Addr).map (·.add ((1 : Int).toNat * 1))) := ⟨_, rfl⟩
    obtain ⟨c12, hc12⟩ : ∃ c1, c1 = co13 - (1 : Int).toNat := ⟨_, rfl⟩
    have hy12 : y522.length = t518.length - (1 : Int).toNat := (by rw [Ny522.out, List.length_drop] <;> omega)
    rw [show (t518).drop (1 : Int).toNat = y522 from Ny522.out.symm] at hr12
    replace hr12 : Kd.C Kd.string _ A12 y522.length y522 := (by rw [hA12]; exact hr12)
    rw [← hy12, ← hA12, ← hc12] at hcut12
    have HR525 := Aside0.mk hr12
    have HC525 := Aside0.mk (show y522.length ≤ c12 from by rw [hy12, hc12]; exact Nat.sub_le_sub_right hroom12 _)
    clear hr12 hC12 hroom12 hi012 hsz12 hc12; have KY12 := Aside0.mk hy12; have KA12 := Aside0.mk hA12; clear hy12 hA12
    have KL12 := Aside0.mk (show 1 ≤ t518.length from by omega)
    replace q12 := eq_true q12
    go_wp2
    have HB0 := HB; replace HG := Aside0.mk (HG.out.below HB.out); replace HB := Aside0.mk (Below.refl wc.heap.size wc)
    go_loopg [5, 6, 33] kj3 (fun kq v5 v6 v33 w' => ∃ (x5_2 : List (S64)) (x6_2 : Int) (x33_2 : Int), v6 = .int .i64 x6_2 ∧ v33 = .int .i64 x33_2 ∧ Aside0 (impl_Steps.l0 kq x5_2 x6_2 y522 (y522.length : Int) x33_2 = some (r1, r2)) ∧ Aside0 (kq ≤ kj3) ∧ Aside0 (Kd.S k64 64 w' wc.heap.size (fun _ => True) v5 x5_2) ∧ Aside0 (Below wc.heap.size wc w'))
    case atStart => exact ⟨(([] : List (S64))), (0), (0), y0_15, y0_15, H', ⟨Nat.le_refl _⟩, ⟨y0_7⟩, ⟨bI HB.out⟩⟩
    case round =>
     clear H'
     try clear c1
     try clear q1
     try clear c2
     try clear c2b0
     try clear c2b1
     try clear p2
     try clear c4
     try clear c5
     try clear p5
     try clear q5
     try clear hx5
     try clear qi5
     try clear c6
     try clear c6b0
     try clear c6b1
     try clear p6
     try clear c7
     try clear c7b0
     try clear c7b1
     try clear c10
     try clear c11
     try clear c11b0
     try clear c11b1
     try clear c12
     try clear q12
     try clear hx521_0
     try clear p2
     try clear p5
     try clear p521
     try clear p6
     try clear q12
     try clear q5
     try clear q521
     obtain ⟨x5_2, x6_2, x33_2, rfl, rfl, HA, HK2, HO_5, HB⟩ := hrel; cases gk with
     | zero => exact absurd HA.out (by simp [impl_Steps.l0])
     | succ k2 =>
      have H := HA.out; clear HA
      simp only [impl_Steps.l0] at H
      by_cases c14 : x33_2 < (y522.length : Int)
      ·
       rw [if_pos c14] at H
       have c14b0 : decide (x33_2 < (y522.length : Int)) = true := decide_eq_true c14; clear c14
       by_cases c15 : 0 ≤ x33_2
       rotate_left
       ·
        rw [if_neg c15] at H
        exact absurd H (by simp)
       rw [if_pos c15] at H
       have c15b0 : decide (0 ≤ x33_2) = true := decide_eq_true c15; clear c15
       by_cases c16 : x33_2 < (y522.length : Int)
       rotate_left
       ·
        rw [if_neg c16] at H
        exact absurd H (by simp)
       rw [if_pos c16] at H
       have c16b0 : decide (x33_2 < (y522.length : Int)) = true := decide_eq_true c16; clear c16; obtain ⟨⟨t527, t528, t529⟩, A17, H⟩ := oB H; (try dsimp only at H); obtain ⟨⟨t530, t531⟩, A18, H⟩ := oB H; (try dsimp only at H); obtain ⟨⟨t532, t533⟩, A19, H⟩ := oB H; (try dsimp only at H)
       by_cases c20 : t529 = true
       ·
        subst c20
        rw [if_pos rfl] at H
        by_cases c21 : t531 = true
        ·
         subst c21
         rw [if_pos rfl] at H
         by_cases c22 : t533 = true
         ·
          subst c22
          rw [if_pos rfl] at H
          obtain ⟨t536, A23, H⟩ := oB H; (try dsimp only at H)
          by_cases c24 : t536 = true
          ·
           subst c24
           rw [if_pos rfl] at H
           by_cases c25 : (t532.length : Int) > 2
           ·
            rw [if_pos c25] at H
            have c25b0 : decide (2 < (t532.length : Int)) = true := decide_eq_true c25
            have c25b1 : decide (2 < t532.length) = true := decide_eq_true (by omega)
            clear c25
            simp only [Option.some.injEq, Prod.mk.injEq] at H
            obtain ⟨rfl, rfl⟩ := H; have p526 : 0 ≤ (x33_2 : Int) := of_decide_eq_true y0_14; have q526 : x33_2 < (y522.length : Int) := of_decide_eq_true y0_14; obtain ⟨ad526, e526, hx526_0⟩ := Kd.at_string HR525.out x33_2 p526 q526; cases e526; replace hx526_0 := bx HB hx526_0; replace p526 := eq_true p526; replace q526 := eq_true q526
            go_wp2_with (first | ((with_reducible refine gate_callee (f := 56) rfl ?_); refine gB (some 39) Tryz.func56 #[.string (rdOf ByteArray.empty y522 x33_2), .string (⟨#[124]⟩ : ByteArray)] ?_; (with_reducible refine (strings_Cut.calls (rdOf ByteArray.empty y522 x33_2) (⟨#[124]⟩ : ByteArray) t527 t528 true _ A17.out).mono ?_); rintro e w26 ⟨rfl, hb⟩; refine ⟨_, rfl, ?_⟩; replace HO_5 := sb HO_5 hb; replace HB := bs HB hb; (try clear hb); (try clear hb2); (try clear hk); (try clear hi)) | ((with_reducible refine gate_callee (f := 57) rfl ?_); refine gB (some 45) Tryz.func57 #[.string t527] ?_; (with_reducible refine (impl_Number.calls k2 t527 t530 true _ A18.out).mono ?_); rintro e w27 ⟨rfl, hb⟩; refine ⟨_, rfl, ?_⟩; replace HO_5 := sb HO_5 hb; replace HB := bs HB hb; (try clear hb); (try clear hb2); (try clear hk); (try clear hi)) | ((with_reducible refine gate_callee (f := 58) rfl ?_); refine gB (some 50) Tryz.func58 #[.string t528] ?_; (with_reducible refine (impl_TxsOf.calls k2 t528 t532 true _ A19.out).mono ?_); rintro e w28 ⟨v534, rfl, ho0, hb⟩; refine ⟨_, rfl, ?_⟩; replace HO_5 := Aside0.mk (Kd.S_elder' (sI HO_5.out) (Kd.R_base ho0) hb); have HO535 := Aside0.mk (Kd.R_lower ho0 (below_size (bI HB.out))); replace HB := bs HB hb; (try clear hb)) | (go_at_call 32; (with_reducible refine (impl_within.calls t530 (wrap64 (x6_2 + 1)) 60 true _ A23.out).mono ?_); rintro e w' ⟨rfl, ⟨nd, rfl⟩⟩; obtain ⟨Ao29, co29, eo29⟩ := Kd.R_slice HO535.out; subst eo29))
            go_ret2
            exact ⟨_, y0_11, Kd.S_lower (base := wc.heap.size) y0_7 (below_size HB0.out), below_step HB0.out (bI HB.out)⟩
           rw [if_neg c25] at H
           have c25b0 : decide (2 < (t532.length : Int)) = false := decide_eq_false c25
           have c25b1 : decide (2 < t532.length) = false := decide_eq_false (by omega)
           clear c25
           by_cases c30 : x5_2.length < 4398046511104
           rotate_left
           ·
            rw [if_neg c30] at H
            exact absurd H (by simp)
           rw [if_pos c30] at H
           have LMc30 := Aside0.mk c30; clear c30; obtain ⟨y537, hy537⟩ : ∃ y_ : List (S64), y_ = (x5_2 ++ [(⟨t530, t532⟩ : S64)]) := ⟨_, rfl⟩
           replace H : (impl_Steps.l0 k2 y537 t530 y522 (y522.length : Int) (wrap64 (x33_2 + 1))) = some (r1, r2) := by first | (rw [hy537]; with_reducible exact H) | (have H2_ := (Option.bind_some _ _).symm.trans H; rw [hy537]; with_reducible exact H2_) | (have H2_ := (Option.bind_some _ _).symm.trans H; with_reducible exact H2_) | with_reducible exact H | (rw [hy537]; exact H) | exact H
           have Ny537 := Aside0.mk hy537; clear hy537; have H' := Aside0.mk H; clear H; have p526 : 0 ≤ (x33_2 : Int) := of_decide_eq_true y0_14; have q526 : x33_2 < (y522.length : Int) := of_decide_eq_true y0_14; obtain ⟨ad526, e526, hx526_0⟩ := Kd.at_string HR525.out x33_2 p526 q526; cases e526; replace hx526_0 := bx HB hx526_0; replace p526 := eq_true p526; replace q526 := eq_true q526
           go_wp2_with (first | ((with_reducible refine gate_callee (f := 56) rfl ?_); refine gB (some 39) Tryz.func56 #[.string (rdOf ByteArray.empty y522 x33_2), .string (⟨#[124]⟩ : ByteArray)] ?_; (with_reducible refine (strings_Cut.calls (rdOf ByteArray.empty y522 x33_2) (⟨#[124]⟩ : ByteArray) t527 t528 true _ A17.out).mono ?_); rintro e w31 ⟨rfl, hb⟩; refine ⟨_, rfl, ?_⟩; replace HO_5 := sb HO_5 hb; replace HB := bs HB hb; (try clear hb); (try clear hb2); (try clear hk); (try clear hi)) | ((with_reducible refine gate_callee (f := 57) rfl ?_); refine gB (some 45) Tryz.func57 #[.string t527] ?_; (with_reducible refine (impl_Number.calls k2 t527 t530 true _ A18.out).mono ?_); rintro e w32 ⟨rfl, hb⟩; refine ⟨_, rfl, ?_⟩; replace HO_5 := sb HO_5 hb; replace HB := bs HB hb; (try clear hb); (try clear hb2); (try clear hk); (try clear hi)) | ((with_reducible refine gate_callee (f := 58) rfl ?_); refine gB (some 50) Tryz.func58 #[.string t528] ?_; (with_reducible refine (impl_TxsOf.calls k2 t528 t532 true _ A19.out).mono ?_); rintro e w33 ⟨v534, rfl, ho0, hb⟩; refine ⟨_, rfl, ?_⟩; replace HO_5 := Aside0.mk (Kd.S_elder' (sI HO_5.out) (Kd.R_base ho0) hb); have HO535 := Aside0.mk (Kd.R_lower ho0 (below_size (bI HB.out))); replace HB := bs HB hb; (try clear hb)) | (go_at_call 32; (with_reducible refine (impl_within.calls t530 (wrap64 (x6_2 + 1)) 60 true _ A23.out).mono ?_); rintro e w' ⟨rfl, ⟨nd, rfl⟩⟩; obtain ⟨Ao34, co34, eo34⟩ := Kd.R_slice HO535.out; subst eo34) | ((with_reducible refine gate_builtin (b := .append) (xs := #[.tmp 75, .tmp 79]) rfl ?_); (try (refine gate_guard (by rfl) ?_; dsimp only)); at_builtin; refine Kd.S_append k64 (w0 := wc) wc.heap.size rfl (.tmp 75) (.tmp 79) 59 64 (.agg #[(.int .i64 0), (.slice none 0 0)]) 32 rfl Tryz.underlying59 info64 rfl (by decide) (by omega) u5 x5_2 (⟨t530, t532⟩ : S64) [.int .i64 t530, .slice Ao34 t532.length co34] (fun _ => True) (fun k_ => some k_ = (.slice Ao34 t532.length co34 : Value).ownBlock) rfl rfl ?aP (fun k_ hk_ => ((Kd.R_mono (ok' := fun k_ => ((fun _ => True)) k_ ∧ some k_ ≠ (u5 : Value).ownBlock) (Kd.R_apart' (HO535.out) (Kd.S_typed HO_5.out) (by decide)) (fun k_ hk => ⟨trivial, hk.2⟩))).1 k_ hk_.symm) ?aF ?aO ?aB ?aS ?aL ?_; (case aP => exact k64_mkM _ _ _ (⟨t530, t532⟩ : S64) (Kd.R_mono (Kd.R_tight rfl (Kd.R_mono (ok' := fun k_ => ((fun _ => True)) k_ ∧ some k_ ≠ (u5 : Value).ownBlock) (Kd.R_apart' (HO535.out) (Kd.S_typed HO_5.out) (by decide)) (fun k_ hk => ⟨trivial, hk.2⟩))) (fun _ h_ => h_))); (case aB => exact (bI HB.out)); (case aF => exact (fun _ _ => trivial)); (case aO => exact (sI (Kd.S_mono HO_5.out (fun k_ hk => ⟨trivial, fun e_ => hk.2 e_⟩)))); (case aS => exact (below_size (bI HB.out))); (case aL => have := LMc30.out; omega); intro v538 w35 ho hb hg hat; rw [← Ny537.out] at ho; have n0_ := Aside0.mk (hb); have n1_ := Aside0.mk (ho); clear HB; clear HO_5; clear HO535; have HB := n0_; have HO539 := n1_; clear n0_ n1_; clear ho hb hg hat))
           go_roundg k2
           case measure => have := HJ3.out; have := HK2.out; omega
           case rel => exact ⟨(y537), (t530), (wrap64 (x33_2 + 1)), y0_15, y0_15, H', ⟨by have := HJ3.out; have := HK2.out; omega⟩, ⟨by (with_reducible repeat (first | apply Kd.S_alloc | apply Kd.S_drewN | apply Kd.S_drew)); exact HO539.out⟩, ⟨bI HB.out⟩⟩
          replace c24 := Bool.eq_false_iff.mpr c24; subst c24
          rw [if_neg (show ¬ (false = true) by decide)] at H
          simp only [Option.some.injEq, Prod.mk.injEq] at H
          obtain ⟨rfl, rfl⟩ := H; have p526 : 0 ≤ (x33_2 : Int) := of_decide_eq_true y0_14; have q526 : x33_2 < (y522.length : Int) := of_decide_eq_true y0_14; obtain ⟨ad526, e526, hx526_0⟩ := Kd.at_string HR525.out x33_2 p526 q526; cases e526; replace hx526_0 := bx HB hx526_0; replace p526 := eq_true p526; replace q526 := eq_true q526
          go_wp2_with (first | ((with_reducible refine gate_callee (f := 56) rfl ?_); refine gB (some 39) Tryz.func56 #[.string (rdOf ByteArray.empty y522 x33_2), .string (⟨#[124]⟩ : ByteArray)] ?_; (with_reducible refine (strings_Cut.calls (rdOf ByteArray.empty y522 x33_2) (⟨#[124]⟩ : ByteArray) t527 t528 true _ A17.out).mono ?_); rintro e w36 ⟨rfl, hb⟩; refine ⟨_, rfl, ?_⟩; replace HO_5 := sb HO_5 hb; replace HB := bs HB hb; (try clear hb); (try clear hb2); (try clear hk); (try clear hi)) | ((with_reducible refine gate_callee (f := 57) rfl ?_); refine gB (some 45) Tryz.func57 #[.string t527] ?_; (with_reducible refine (impl_Number.calls k2 t527 t530 true _ A18.out).mono ?_); rintro e w37 ⟨rfl, hb⟩; refine ⟨_, rfl, ?_⟩; replace HO_5 := sb HO_5 hb; replace HB := bs HB hb; (try clear hb); (try clear hb2); (try clear hk); (try clear hi)) | ((with_reducible refine gate_callee (f := 58) rfl ?_); refine gB (some 50) Tryz.func58 #[.string t528] ?_; (with_reducible refine (impl_TxsOf.calls k2 t528 t532 true _ A19.out).mono ?_); rintro e w38 ⟨v534, rfl, ho0, hb⟩; refine ⟨_, rfl, ?_⟩; replace HO_5 := Aside0.mk (Kd.S_elder' (sI HO_5.out) (Kd.R_base ho0) hb); have HO535 := Aside0.mk (Kd.R_lower ho0 (below_size (bI HB.out))); replace HB := bs HB hb; (try clear hb)) | (go_at_call 32; (with_reducible refine (impl_within.calls t530 (wrap64 (x6_2 + 1)) 60 false _ A23.out).mono ?_); rintro e w' ⟨rfl, ⟨nd, rfl⟩⟩))
          go_ret2
          exact ⟨_, y0_11, Kd.S_lower (base := wc.heap.size) y0_7 (below_size HB0.out), below_step HB0.out (bI HB.out)⟩
         replace c22 := Bool.eq_false_iff.mpr c22; subst c22
         rw [if_neg (show ¬ (false = true) by decide)] at H
         simp only [Option.some.injEq, Prod.mk.injEq] at H
         obtain ⟨rfl, rfl⟩ := H; have p526 : 0 ≤ (x33_2 : Int) := of_decide_eq_true y0_14; have q526 : x33_2 < (y522.length : Int) := of_decide_eq_true y0_14; obtain ⟨ad526, e526, hx526_0⟩ := Kd.at_string HR525.out x33_2 p526 q526; cases e526; replace hx526_0 := bx HB hx526_0; replace p526 := eq_true p526; replace q526 := eq_true q526
         go_wp2_with (first | ((with_reducible refine gate_callee (f := 56) rfl ?_); refine gB (some 39) Tryz.func56 #[.string (rdOf ByteArray.empty y522 x33_2), .string (⟨#[124]⟩ : ByteArray)] ?_; (with_reducible refine (strings_Cut.calls (rdOf ByteArray.empty y522 x33_2) (⟨#[124]⟩ : ByteArray) t527 t528 true _ A17.out).mono ?_); rintro e w39 ⟨rfl, hb⟩; refine ⟨_, rfl, ?_⟩; replace HO_5 := sb HO_5 hb; replace HB := bs HB hb; (try clear hb); (try clear hb2); (try clear hk); (try clear hi)) | ((with_reducible refine gate_callee (f := 57) rfl ?_); refine gB (some 45) Tryz.func57 #[.string t527] ?_; (with_reducible refine (impl_Number.calls k2 t527 t530 true _ A18.out).mono ?_); rintro e w40 ⟨rfl, hb⟩; refine ⟨_, rfl, ?_⟩; replace HO_5 := sb HO_5 hb; replace HB := bs HB hb; (try clear hb); (try clear hb2); (try clear hk); (try clear hi)) | ((with_reducible refine gate_callee (f := 58) rfl ?_); refine gB (some 50) Tryz.func58 #[.string t528] ?_; (with_reducible refine (impl_TxsOf.calls k2 t528 t532 false _ A19.out).mono ?_); rintro e w41 ⟨v534, rfl, ho0, hb⟩; refine ⟨_, rfl, ?_⟩; replace HO_5 := Aside0.mk (Kd.S_elder' (sI HO_5.out) (Kd.R_base ho0) hb); have HO535 := Aside0.mk (Kd.R_lower ho0 (below_size (bI HB.out))); replace HB := bs HB hb; (try clear hb)))
         go_ret2
         exact ⟨_, y0_11, Kd.S_lower (base := wc.heap.size) y0_7 (below_size HB0.out), below_step HB0.out (bI HB.out)⟩
        replace c21 := Bool.eq_false_iff.mpr c21; subst c21
        rw [if_neg (show ¬ (false = true) by decide)] at H
        simp only [Option.some.injEq, Prod.mk.injEq] at H
        obtain ⟨rfl, rfl⟩ := H; have p526 : 0 ≤ (x33_2 : Int) := of_decide_eq_true y0_14; have q526 : x33_2 < (y522.length : Int) := of_decide_eq_true y0_14; obtain ⟨ad526, e526, hx526_0⟩ := Kd.at_string HR525.out x33_2 p526 q526; cases e526; replace hx526_0 := bx HB hx526_0; replace p526 := eq_true p526; replace q526 := eq_true q526
        go_wp2_with (first | ((with_reducible refine gate_callee (f := 56) rfl ?_); refine gB (some 39) Tryz.func56 #[.string (rdOf ByteArray.empty y522 x33_2), .string (⟨#[124]⟩ : ByteArray)] ?_; (with_reducible refine (strings_Cut.calls (rdOf ByteArray.empty y522 x33_2) (⟨#[124]⟩ : ByteArray) t527 t528 true _ A17.out).mono ?_); rintro e w42 ⟨rfl, hb⟩; refine ⟨_, rfl, ?_⟩; replace HO_5 := sb HO_5 hb; replace HB := bs HB hb; (try clear hb); (try clear hb2); (try clear hk); (try clear hi)) | ((with_reducible refine gate_callee (f := 57) rfl ?_); refine gB (some 45) Tryz.func57 #[.string t527] ?_; (with_reducible refine (impl_Number.calls k2 t527 t530 false _ A18.out).mono ?_); rintro e w43 ⟨rfl, hb⟩; refine ⟨_, rfl, ?_⟩; replace HO_5 := sb HO_5 hb; replace HB := bs HB hb; (try clear hb); (try clear hb2); (try clear hk); (try clear hi)) | ((with_reducible refine gate_callee (f := 58) rfl ?_); refine gB (some 50) Tryz.func58 #[.string t528] ?_; (with_reducible refine (impl_TxsOf.calls k2 t528 t532 t533 _ A19.out).mono ?_); rintro e w44 ⟨v534, rfl, ho0, hb⟩; refine ⟨_, rfl, ?_⟩; replace HO_5 := Aside0.mk (Kd.S_elder' (sI HO_5.out) (Kd.R_base ho0) hb); have HO535 := Aside0.mk (Kd.R_lower ho0 (below_size (bI HB.out))); replace HB := bs HB hb; (try clear hb)))
        go_ret2
        exact ⟨_, y0_11, Kd.S_lower (base := wc.heap.size) y0_7 (below_size HB0.out), below_step HB0.out (bI HB.out)⟩
       replace c20 := Bool.eq_false_iff.mpr c20; subst c20
       rw [if_neg (show ¬ (false = true) by decide)] at H
       simp only [Option.some.injEq, Prod.mk.injEq] at H
       obtain ⟨rfl, rfl⟩ := H; have p526 : 0 ≤ (x33_2 : Int) := of_decide_eq_true y0_14; have q526 : x33_2 < (y522.length : Int) := of_decide_eq_true y0_14; obtain ⟨ad526, e526, hx526_0⟩ := Kd.at_string HR525.out x33_2 p526 q526; cases e526; replace hx526_0 := bx HB hx526_0; replace p526 := eq_true p526; replace q526 := eq_true q526
       go_wp2_with (first | ((with_reducible refine gate_callee (f := 56) rfl ?_); refine gB (some 39) Tryz.func56 #[.string (rdOf ByteArray.empty y522 x33_2), .string (⟨#[124]⟩ : ByteArray)] ?_; (with_reducible refine (strings_Cut.calls (rdOf ByteArray.empty y522 x33_2) (⟨#[124]⟩ : ByteArray) t527 t528 false _ A17.out).mono ?_); rintro e w45 ⟨rfl, hb⟩; refine ⟨_, rfl, ?_⟩; replace HO_5 := sb HO_5 hb; replace HB := bs HB hb; (try clear hb); (try clear hb2); (try clear hk); (try clear hi)) | ((with_reducible refine gate_callee (f := 57) rfl ?_); refine gB (some 45) Tryz.func57 #[.string t527] ?_; (with_reducible refine (impl_Number.calls k2 t527 t530 t531 _ A18.out).mono ?_); rintro e w46 ⟨rfl, hb⟩; refine ⟨_, rfl, ?_⟩; replace HO_5 := sb HO_5 hb; replace HB := bs HB hb; (try clear hb); (try clear hb2); (try clear hk); (try clear hi)) | ((with_reducible refine gate_callee (f := 58) rfl ?_); refine gB (some 50) Tryz.func58 #[.string t528] ?_; (with_reducible refine (impl_TxsOf.calls k2 t528 t532 t533 _ A19.out).mono ?_); rintro e w47 ⟨v534, rfl, ho0, hb⟩; refine ⟨_, rfl, ?_⟩; replace HO_5 := Aside0.mk (Kd.S_elder' (sI HO_5.out) (Kd.R_base ho0) hb); have HO535 := Aside0.mk (Kd.R_lower ho0 (below_size (bI HB.out))); replace HB := bs HB hb; (try clear hb)))
       go_ret2
       exact ⟨_, y0_11, Kd.S_lower (base := wc.heap.size) y0_7 (below_size HB0.out), below_step HB0.out (bI HB.out)⟩
      rw [if_neg c14] at H
      have c14b0 : decide (x33_2 < (y522.length : Int)) = false := decide_eq_false c14; clear c14
      simp only [Option.some.injEq, Prod.mk.injEq] at H
      obtain ⟨rfl, rfl⟩ := H
      go_wp2
      go_ret2
      exact ⟨_, y0_11, Kd.S_lower (base := wc.heap.size) (by (with_reducible repeat (first | apply Kd.S_alloc | apply Kd.S_drewN | apply Kd.S_drew)); exact HO_5.out) (below_size HB0.out), below_step HB0.out (bI HB.out)⟩
   rw [if_neg c11] at H
   exact absurd H (by simp)

/-! ### impl_NameOk: function 26 -/
def impl_NameOk.f (k : Nat) (a0 : ByteArray) : Option (Bool) := (impl_Steps.f k a0).bind fun bt540 => (some bt540.2)
theorem impl_NameOk.mono : ∀ a0 k, LeO (impl_NameOk.f k a0) (impl_NameOk.f (k + 1) a0) := by
 intro a0 k
 unfold impl_NameOk.f
 repeat' first | (with_reducible exact impl_Steps.mono _ _) | (with_reducible exact LeO.refl _) | (with_reducible exact LeO.none _) | (with_reducible refine LeO.ite ?_ ?_) | (with_reducible refine LeO.bind ?_ (fun _ => ?_))
set_option maxHeartbeats 8000000 in
set_option maxRecDepth 100000 in
theorem impl_NameOk.calls (k : Nat) (a0 : ByteArray) (r : Bool) (w : World) (h : impl_NameOk.f k a0 = some r) (hG : Glob w := by exact gG HG HB) :
  Calls Tryz.prog 26 #[.string a0] w fun e w' => e = .returned (.bool r) ∧ Below w.heap.size w w' := by
 have HG := Aside0.mk hG; clear hG; have HB := Aside0.mk (Below.refl w.heap.size w)
 have H := h; unfold impl_NameOk.f at H
 clear h; obtain ⟨⟨t540, t541⟩, A2, H⟩ := oB H; (try dsimp only at H); obtain rfl := Option.some.inj H
 go_enter Tryz.func26, Tryz.ntmps26
 go_wp2_with (first | ((with_reducible refine gate_callee (f := 45) rfl ?_); refine gS1 (some 7) Tryz.func45 (impl_Steps.calls (w := _) (h := A2.out)) ?_; intro Ao542 co542 w3 _ HO543))
 go_ret
 exact ⟨y0_15, UpW.out⟩

/-! ### impl_ViewOf: function 27 -/
def impl_ViewOf.f (k : Nat) (a0 : ByteArray) : Option (Int) := (impl_Steps.f k a0).bind fun bt544 => (if (bt544.1.length : Int) = 0 then (some 0) else (if 0 ≤ (wrap64 ((bt544.1.length : Int) - 1)) then (if (wrap64 ((bt544.1.length : Int) - 1)) < (bt544.1.length : Int) then (some ((rd_T64 bt544.1 (wrap64 ((bt544.1.length : Int) - 1))).f0)) else (none)) else (none)))
theorem impl_ViewOf.mono : ∀ a0 k, LeO (impl_ViewOf.f k a0) (impl_ViewOf.f (k + 1) a0) := by
 intro a0 k
 unfold impl_ViewOf.f
 repeat' first | (with_reducible exact impl_Steps.mono _ _) | (with_reducible exact LeO.refl _) | (with_reducible exact LeO.none _) | (with_reducible refine LeO.ite ?_ ?_) | (with_reducible refine LeO.bind ?_ (fun _ => ?_))
set_option maxHeartbeats 8000000 in
set_option maxRecDepth 100000 in
theorem impl_ViewOf.calls (k : Nat) (a0 : ByteArray) (r : Int) (w : World) (h : impl_ViewOf.f k a0 = some r) (hG : Glob w := by exact gG HG HB) :
  Calls Tryz.prog 27 #[.string a0] w fun e w' => e = .returned (.int .i64 r) ∧ Below w.heap.size w w' := by
 have HG := Aside0.mk hG; clear hG; have HB := Aside0.mk (Below.refl w.heap.size w)
 have H := h; unfold impl_ViewOf.f at H
 clear h; obtain ⟨⟨t544, t545⟩, A2, H⟩ := oB H; (try dsimp only at H)
 by_cases c3 : (t544.length : Int) = 0
 ·
  rw [if_pos c3] at H
  have c3b0 : ((t544.length : Int) == 0) = true := beq_iff_eq.mpr c3; have c3b1 : ((t544.length : Int) != 0) = false := bne_eq_false_iff_eq.mpr c3; clear c3; obtain rfl := Option.some.inj H
  go_enter Tryz.func27, Tryz.ntmps27
  go_wp2_with (first | ((with_reducible refine gate_callee (f := 45) rfl ?_); refine gB (some 7) Tryz.func45 #[.string a0] ?_; (with_reducible refine (impl_Steps.calls k a0 t544 t545 _ A2.out).mono ?_); rintro e w4 ⟨v546, rfl, ho0, hb⟩; refine ⟨_, rfl, ?_⟩; have HO547 := Aside0.mk (Kd.S_lower ho0 (below_size (bI HB.out))); replace HB := bs HB hb; (try clear hb); (try clear ho0); obtain ⟨Ao5, co5, eo5⟩ := Kd.S_slice HO547.out; subst eo5))
  go_ret
  exact ⟨y0_11, bI HB.out⟩
 rw [if_neg c3] at H
 have c3b0 : ((t544.length : Int) == 0) = false := beq_eq_false_iff_ne.mpr c3; have c3b1 : ((t544.length : Int) != 0) = true := bne_iff_ne.mpr c3
 have c3b2 : ¬ (t544 = []) := fun h_ => c3 (by rw [h_]; rfl)
 obtain ⟨ji6, hji6⟩ : ∃ j_ : Int, (wrap64 ((t544.length : Int) - 1)) = j_ := ⟨_, rfl⟩
 replace H : (if 0 ≤ (ji6) then (if (ji6) < (t544.length : Int) then (some ((rd_T64 t544 (ji6)).f0)) else (none)) else (none)) = some r := by first | (rw [hji6] at H; exact H) | (simp only [hji6] at H ⊢; exact H)
 (try rw [hji6] at A2)
 have hji6w : (IntKind.i64.wrap ((t544.length : Int) - 1)) = ji6 := (i64_w _).trans hji6
 by_cases c7 : 0 ≤ (ji6)
 ·
  rw [if_pos c7] at H
  have c7b0 : decide (0 ≤ (ji6)) = true := decide_eq_true c7; clear c7
  by_cases c8 : (ji6) < (t544.length : Int)
  rotate_left
  ·
   rw [if_neg c8] at H
   exact absurd H (by simp)
  rw [if_pos c8] at H
  have c8b0 : decide ((ji6) < (t544.length : Int)) = true := decide_eq_true c8; clear c8; obtain rfl := Option.some.inj H
  go_enter Tryz.func27, Tryz.ntmps27
  go_wp2_with (first | ((with_reducible refine gate_callee (f := 45) rfl ?_); refine gB (some 7) Tryz.func45 #[.string a0] ?_; (with_reducible refine (impl_Steps.calls k a0 t544 t545 _ A2.out).mono ?_); rintro e w9 ⟨v546, rfl, ho0, hb⟩; refine ⟨_, rfl, ?_⟩; have HO547 := Aside0.mk (Kd.S_lower ho0 (below_size (bI HB.out))); replace HB := bs HB hb; (try clear hb); (try clear ho0); obtain ⟨Ao10, co10, eo10⟩ := Kd.S_slice HO547.out; subst eo10; have p548 : 0 ≤ ((ji6) : Int) := of_decide_eq_true y0_14; have q548 : (ji6) < (t544.length : Int) := of_decide_eq_true y0_14; obtain ⟨ad548, A548_1, c548_1, e548, hx548_0, hx548_1, hl548_1, hi548_1⟩ := at_T64 (Kd.S_reads' HO547.out).2.2 (ji6) p548 q548; cases e548; obtain ⟨ce548, hce548, hMe548, hcc548⟩ := Kd.S_get HO547.out z64 (ji6) p548 (by first | exact q548 | exact of_decide_eq_true y0_14 | (have e_ := (Kd.S_reads' HO547.out).1; omega)); obtain ⟨ve548_1, rfl, ge548_1⟩ := k64_openM hMe548; have hv548_1 := hcc548 1 _ rfl; rw [add_field _ _ 1 (by omega)] at hv548_1; replace hv548_1 := Option.some.inj (hv548_1.symm.trans hx548_1); rw [hv548_1] at ge548_1; have HL548_1 := Aside0.mk (show Kd.R k68 68 _ _ _ _ ((rd_T64 t544 (ji6)).f1) from ge548_1); clear hv548_1 ge548_1; clear hcc548 hce548; have HR548_1 := Aside0.mk hi548_1; have HC548_1 := Aside0.mk hl548_1; clear hi548_1 hl548_1; replace p548 := eq_true p548; replace q548 := eq_true q548))
  go_ret
  exact ⟨by first | rfl | (simp [errW_none, errW_some] <;> rfl) | (simp only [← hji6]; first | rfl | (simp [errW_none, errW_some] <;> rfl)) | (simp [*, errW_none, errW_some] <;> rfl), bI HB.out⟩
 rw [if_neg c7] at H
 exact absurd H (by simp)

/-! ### impl_SetOk: function 28 -/
def impl_SetOk.l0 : Nat → Int → List Int → List Int → Int → Int → Option (Bool)
 | 0, _, _, _, _, _ => none
 | k + 1, x0, x1, x7, x8, x9 => if x9 < x8 then (if 0 ≤ x9 then (if x9 < (x7.length : Int) then (if (rd x7 x9) < 0 then (some false) else (if (rd x7 x9) ≥ x0 then (some false) else (if x9 > 0 then (if 0 ≤ (wrap64 (x9 - 1)) then (if (wrap64 (x9 - 1)) < (x1.length : Int) then (if (rd x1 (wrap64 (x9 - 1))) ≥ (rd x7 x9) then (some false) else (impl_SetOk.l0 k x0 x1 x7 x8 (wrap64 (x9 + 1)))) else (none)) else (none)) else (impl_SetOk.l0 k x0 x1 x7 x8 (wrap64 (x9 + 1)))))) else (none)) else (none)) else (some true)
def impl_SetOk.f (k : Nat) (a0 : Int) (l1 : List Int) : Option (Bool) := impl_SetOk.l0 k a0 l1 l1 (l1.length : Int) 0
theorem impl_SetOk.mono_l : ∀ k, (∀ y0 y1 y2 y3 y4, LeO (impl_SetOk.l0 k y0 y1 y2 y3 y4) (impl_SetOk.l0 (k + 1) y0 y1 y2 y3 y4))
 | 0 => fun _ _ _ _ _ r h => by simp [impl_SetOk.l0] at h
 | k + 1 => by
  have ih0 := impl_SetOk.mono_l k
  intro y0 y1 y2 y3 y4
  unfold impl_SetOk.l0
  repeat' first | (with_reducible exact ih0 _ _ _ _ _) | (with_reducible exact LeO.refl _) | (with_reducible exact LeO.none _) | (with_reducible refine LeO.ite ?_ ?_) | (with_reducible refine LeO.bind ?_ (fun _ => ?_))
theorem impl_SetOk.mono : ∀ a0 a1 k, LeO (impl_SetOk.f k a0 a1) (impl_SetOk.f (k + 1) a0 a1) := by
 intro a0 a1 k
 have ih0 := impl_SetOk.mono_l k
 unfold impl_SetOk.f
 repeat' first | (with_reducible exact ih0 _ _ _ _ _) | (with_reducible exact LeO.refl _) | (with_reducible exact LeO.none _) | (with_reducible refine LeO.ite ?_ ?_) | (with_reducible refine LeO.bind ?_ (fun _ => ?_))
set_option maxHeartbeats 8000000 in
set_option maxRecDepth 100000 in
theorem impl_SetOk.calls (k : Nat) (a0 : Int) (A1 : Option Addr) (c1 : Nat) (l1 : List Int) (r : Bool) (w : World) (hr1 : Kd.C (Kd.int .i64) w A1 l1.length l1) (hc1 : l1.length ≤ c1) (h : impl_SetOk.f k a0 l1 = some r) :
  Calls Tryz.prog 28 #[.int .i64 a0, .slice A1 l1.length c1] w fun e w' => e = .returned (.bool r) ∧ Drawn0 w w' := by
 have HR1 := Aside0.mk hr1; have HC1 := Aside0.mk hc1; clear hr1 hc1; have H := h; unfold impl_SetOk.f at H; clear h; have H' := Aside0.mk H; clear H
 go_enter Tryz.func28, Tryz.ntmps28
 go_wp2
 go_loopg [9] k (fun kq v9 w' => ∃ (x9_1 : Int), v9 = .int .i64 x9_1 ∧ Aside0 (impl_SetOk.l0 kq a0 l1 l1 (l1.length : Int) x9_1 = some r) ∧ Aside0 (kq ≤ k) ∧ Drawn0 w w')
 case atStart => exact ⟨(0), y0_15, H', ⟨Nat.le_refl _⟩, y0_13⟩
 case round =>
  clear H'
  try clear c1
  try clear c2
  try clear p2
  obtain ⟨x9_1, rfl, HA, HK1, ⟨m1, rfl⟩⟩ := hrel; cases gk with
  | zero => exact absurd HA.out (by simp [impl_SetOk.l0])
  | succ k1 =>
   have H := HA.out; clear HA
   simp only [impl_SetOk.l0] at H
   by_cases c3 : x9_1 < (l1.length : Int)
   ·
    rw [if_pos c3] at H
    have c3b0 : decide (x9_1 < (l1.length : Int)) = true := decide_eq_true c3; clear c3
    by_cases c4 : 0 ≤ x9_1
    rotate_left
    ·
     rw [if_neg c4] at H
     exact absurd H (by simp)
    rw [if_pos c4] at H
    have c4b0 : decide (0 ≤ x9_1) = true := decide_eq_true c4; clear c4
    by_cases c5 : x9_1 < (l1.length : Int)
    rotate_left
    ·
     rw [if_neg c5] at H
     exact absurd H (by simp)
    rw [if_pos c5] at H
    have c5b0 : decide (x9_1 < (l1.length : Int)) = true := decide_eq_true c5; clear c5
    by_cases c6 : (rd l1 x9_1) < 0
    ·
     rw [if_pos c6] at H
     have c6b0 : decide ((rd l1 x9_1) < 0) = true := decide_eq_true c6; clear c6; obtain rfl := Option.some.inj H; have p549 : 0 ≤ (x9_1 : Int) := of_decide_eq_true y0_14; have q549 : x9_1 < (l1.length : Int) := of_decide_eq_true y0_14; obtain ⟨ad549, e549, hx549_0⟩ := Kd.at_int HR1.out x9_1 p549 q549; cases e549; replace p549 := eq_true p549; replace q549 := eq_true q549
     go_wp2
     go_ret
     exact ⟨y0_15, y0_13⟩
    rw [if_neg c6] at H
    have c6b0 : decide ((rd l1 x9_1) < 0) = false := decide_eq_false c6; clear c6
    by_cases c7 : (rd l1 x9_1) ≥ a0
    ·
     rw [if_pos c7] at H
     have c7b0 : decide (a0 ≤ (rd l1 x9_1)) = true := decide_eq_true c7; clear c7; obtain rfl := Option.some.inj H; have p549 : 0 ≤ (x9_1 : Int) := of_decide_eq_true y0_14; have q549 : x9_1 < (l1.length : Int) := of_decide_eq_true y0_14; obtain ⟨ad549, e549, hx549_0⟩ := Kd.at_int HR1.out x9_1 p549 q549; cases e549; replace p549 := eq_true p549; replace q549 := eq_true q549
     go_wp2
     go_ret
     exact ⟨y0_15, y0_13⟩
    rw [if_neg c7] at H
    have c7b0 : decide (a0 ≤ (rd l1 x9_1)) = false := decide_eq_false c7; clear c7
    by_cases c8 : x9_1 > 0
    ·
     rw [if_pos c8] at H
     have c8b0 : decide (0 < x9_1) = true := decide_eq_true c8; clear c8; obtain ⟨ji9, hji9⟩ : ∃ j_ : Int, (wrap64 (x9_1 - 1)) = j_ := ⟨_, rfl⟩
     replace H : (if 0 ≤ (ji9) then (if (ji9) < (l1.length : Int) then (if (rd l1 (ji9)) ≥ (rd l1 x9_1) then (some false) else (impl_SetOk.l0 k1 a0 l1 l1 (l1.length : Int) (wrap64 (x9_1 + 1)))) else (none)) else (none)) = some r := by first | (rw [hji9] at H; exact H) | (simp only [hji9] at H ⊢; exact H)
     have hji9w : (IntKind.i64.wrap (x9_1 - 1)) = ji9 := (i64_w _).trans hji9
     by_cases c10 : 0 ≤ (ji9)
     rotate_left
     ·
      rw [if_neg c10] at H
      exact absurd H (by simp)
     rw [if_pos c10] at H
     have c10b0 : decide (0 ≤ (ji9)) = true := decide_eq_true c10; clear c10
     by_cases c11 : (ji9) < (l1.length : Int)
     rotate_left
     ·
      rw [if_neg c11] at H
      exact absurd H (by simp)
     rw [if_pos c11] at H
     have c11b0 : decide ((ji9) < (l1.length : Int)) = true := decide_eq_true c11; clear c11
     by_cases c12 : (rd l1 (ji9)) ≥ (rd l1 x9_1)
     ·
      rw [if_pos c12] at H
      have c12b0 : decide ((rd l1 x9_1) ≤ (rd l1 (ji9))) = true := decide_eq_true c12; clear c12; obtain rfl := Option.some.inj H; have p549 : 0 ≤ (x9_1 : Int) := of_decide_eq_true y0_14; have q549 : x9_1 < (l1.length : Int) := of_decide_eq_true y0_14; obtain ⟨ad549, e549, hx549_0⟩ := Kd.at_int HR1.out x9_1 p549 q549; cases e549; replace p549 := eq_true p549; replace q549 := eq_true q549; have p550 : 0 ≤ ((ji9) : Int) := of_decide_eq_true y0_14; have q550 : (ji9) < (l1.length : Int) := of_decide_eq_true y0_14; obtain ⟨ad550, e550, hx550_0⟩ := Kd.at_int HR1.out (ji9) p550 q550
      obtain rfl : ad549 = ad550 := (by injection e550)
      replace p550 := eq_true p550; replace q550 := eq_true q550
      go_wp2
      go_ret
      exact ⟨by first | rfl | (simp; done) | (simp only [← hji9] <;> (first | rfl | simp)) | (simp [*]; done), y0_13⟩
     rw [if_neg c12] at H
     have c12b0 : decide ((rd l1 x9_1) ≤ (rd l1 (ji9))) = false := decide_eq_false c12; clear c12; have H' := Aside0.mk H; clear H; have p549 : 0 ≤ (x9_1 : Int) := of_decide_eq_true y0_14; have q549 : x9_1 < (l1.length : Int) := of_decide_eq_true y0_14; obtain ⟨ad549, e549, hx549_0⟩ := Kd.at_int HR1.out x9_1 p549 q549; cases e549; replace p549 := eq_true p549; replace q549 := eq_true q549; have p550 : 0 ≤ ((ji9) : Int) := of_decide_eq_true y0_14; have q550 : (ji9) < (l1.length : Int) := of_decide_eq_true y0_14; obtain ⟨ad550, e550, hx550_0⟩ := Kd.at_int HR1.out (ji9) p550 q550
     obtain rfl : ad549 = ad550 := (by injection e550)
     replace p550 := eq_true p550; replace q550 := eq_true q550
     go_wp2
     go_roundg k1
     case measure => have := HK1.out; omega
     case rel => exact ⟨(wrap64 (x9_1 + 1)), y0_15, H', ⟨y0_17⟩, y0_13⟩
    rw [if_neg c8] at H
    have c8b0 : decide (0 < x9_1) = false := decide_eq_false c8; clear c8; have H' := Aside0.mk H; clear H; have p549 : 0 ≤ (x9_1 : Int) := of_decide_eq_true y0_14; have q549 : x9_1 < (l1.length : Int) := of_decide_eq_true y0_14; obtain ⟨ad549, e549, hx549_0⟩ := Kd.at_int HR1.out x9_1 p549 q549; cases e549; replace p549 := eq_true p549; replace q549 := eq_true q549
    go_wp2
    go_roundg k1
    case measure => have := HK1.out; omega
    case rel => exact ⟨(wrap64 (x9_1 + 1)), y0_15, H', ⟨y0_17⟩, y0_13⟩
   rw [if_neg c3] at H
   have c3b0 : decide (x9_1 < (l1.length : Int)) = false := decide_eq_false c3; clear c3; obtain rfl := Option.some.inj H
   go_wp2
   go_ret
   exact ⟨y0_15, y0_13⟩

end Go.Proofs.YtagpeafaiofkjaaGreatDoor.PFnQuorums
