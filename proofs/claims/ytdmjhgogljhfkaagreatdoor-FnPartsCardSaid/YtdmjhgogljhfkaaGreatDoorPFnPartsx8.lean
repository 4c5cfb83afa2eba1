import Derived.Test.YtdmjhgogljhfkaaGreatDoorPFnPartsx0
namespace Go.Proofs.YtdmjhgogljhfkaaGreatDoor.PFnParts
open Go.RowKit Go.Proofs.YtdmjhgogljhfkaaGreatDoorW.PrintWords Go.Proofs.YtdmjhgogljhfkaaGreatDoorW.PrintLast Go.Proofs.YtdmjhgogljhfkaaGreatDoorW.PrintMore
attribute [local go_sem] max2_int min2_int max_two min_two max_three min_three max_four min_four
attribute [local go_sem] cell_in frozen_in cell_g cell_p cell_r cell_q
set_option synthInstance.maxSize 1000000
set_option synthInstance.maxHeartbeats 2000000
set_option linter.unusedVariables false
set_option linter.unusedSimpArgs false
set_option maxHeartbeats 8000000
set_option maxRecDepth 100000
def impl_SetOk.l0 : Nat → Int → List Int → List Int → Int → Int → Option (Bool)
 | 0, _, _, _, _, _ => none
 | k + 1, x0, x1, x7, x8, x9 => if x9 < x8 then (if 0 ≤ x9 then (if x9 < (x7.length : Int) then (if (rd x7 x9) < 0 then (some false) else (if (rd x7 x9) ≥ x0 then (some false) else (if x9 > 0 then (if 0 ≤ (wrap64 (x9 - 1)) then (if (wrap64 (x9 - 1)) < (x1.length : Int) then (if (rd x1 (wrap64 (x9 - 1))) ≥ (rd x7 x9) then (some false) else (impl_SetOk.l0 k x0 x1 x7 x8 (wrap64 (x9 + 1)))) else (none)) else (none)) else (impl_SetOk.l0 k x0 x1 x7 x8 (wrap64 (x9 + 1)))))) else (none)) else (none)) else (some true)
def impl_SetOk.f (k : Nat) (a0 : Int) (l1 : List Int) : Option (Bool) := impl_SetOk.l0 k a0 l1 l1 (l1.length : Int) 0
theorem impl_SetOk.mono_l : ∀ k, (∀ y0 y1 y2 y3 y4, LeO (impl_SetOk.l0 k y0 y1 y2 y3 y4) (impl_SetOk.l0 (k + 1) y0 y1 y2 y3 y4))
 | 0 => fun _ _ _ _ _ r h => by simp [impl_SetOk.l0] at h
 | k + 1 => by
  have ih0 := impl_SetOk.mono_l k
  intro y0 y1 y2 y3 y4
  unfold impl_SetOk.l0
  repeat' first | (with_reducible exact ih0 _ _ _ _ _) | (with_reducible exact LeO.refl _) | (with_reducible exact LeO.none _) | (with_reducible refine LeO.ite ?_ ?_) | (with_reducible refine LeO.bind ?_ (fun _ => ?_))
theorem impl_SetOk.mono : ∀ a0 a1 k, LeO (impl_SetOk.f k a0 a1) (impl_SetOk.f (k + 1) a0 a1) := by
 intro a0 a1 k
 have ih0 := impl_SetOk.mono_l k
 unfold impl_SetOk.f
 repeat' first | (with_reducible exact ih0 _ _ _ _ _) | (with_reducible exact LeO.refl _) | (with_reducible exact LeO.none _) | (with_reducible refine LeO.ite ?_ ?_) | (with_reducible refine LeO.bind ?_ (fun _ => ?_))
theorem impl_SetOk.calls (k : Nat) (a0 : Int) (A1 : Option Addr) (c1 : Nat) (l1 : List Int) (r : Bool) (w : World) (hr1 : Kd.C (Kd.int .i64) w A1 l1.length l1) (hc1 : l1.length ≤ c1) (h : impl_SetOk.f k a0 l1 = some r) :
  Calls Tryz.prog 51 #[.int .i64 a0, .slice A1 l1.length c1] w fun e w' => e = .returned (.bool r) ∧ Drawn0 w w' := by
 have HR1 := Aside0.mk hr1; have HC1 := Aside0.mk hc1; clear hr1 hc1; have H := h; unfold impl_SetOk.f at H; clear h; have H' := Aside0.mk H; clear H
 go_enter Tryz.func51, Tryz.ntmps51
 go_wp2
 go_loopg [9] k (fun kq v9 w' => ∃ (x9_1 : Int), v9 = .int .i64 x9_1 ∧ Aside0 (impl_SetOk.l0 kq a0 l1 l1 (l1.length : Int) x9_1 = some r) ∧ Aside0 (kq ≤ k) ∧ Drawn0 w w')
 case atStart => exact ⟨(0), y0_17, H', ⟨Nat.le_refl _⟩, y0_15⟩
 case round =>
  clear H'
  try clear c1
  try clear p2
  obtain ⟨x9_1, rfl, HA, HK1, ⟨m1, rfl⟩⟩ := hrel; cases gk with
  | zero => exact absurd HA.out (by simp [impl_SetOk.l0])
  | succ k1 =>
   have H := HA.out; clear HA
   simp only [impl_SetOk.l0] at H
   by_cases c3 : x9_1 < (l1.length : Int)
   ·
    rw [if_pos c3] at H
    have c3b0 : decide (x9_1 < (l1.length : Int)) = true := decide_eq_true c3; clear c3
    by_cases c4 : 0 ≤ x9_1
    rotate_left
    ·
     rw [if_neg c4] at H
     exact absurd H (by simp)
    rw [if_pos c4] at H
    have c4b0 : decide (0 ≤ x9_1) = true := decide_eq_true c4; clear c4
    by_cases c5 : x9_1 < (l1.length : Int)
    rotate_left
    ·
     rw [if_neg c5] at H
     exact absurd H (by simp)
    rw [if_pos c5] at H
    have c5b0 : decide (x9_1 < (l1.length : Int)) = true := decide_eq_true c5; clear c5
    by_cases c6 : (rd l1 x9_1) < 0
    ·
     rw [if_pos c6] at H
     have c6b0 : decide ((rd l1 x9_1) < 0) = true := decide_eq_true c6; clear c6; obtain rfl := Option.some.inj H; have p394 : 0 ≤ (x9_1 : Int) := of_decide_eq_true y0_16; have q394 : x9_1 < (l1.length : Int) := of_decide_eq_true y0_16; obtain ⟨ad394, e394, hx394_0⟩ := Kd.at_int HR1.out x9_1 p394 q394; cases e394; replace p394 := eq_true p394; replace q394 := eq_true q394
     go_wp2
     go_ret
     exact ⟨y0_17, y0_15⟩
    rw [if_neg c6] at H
    have c6b0 : decide ((rd l1 x9_1) < 0) = false := decide_eq_false c6; clear c6
    by_cases c7 : (rd l1 x9_1) ≥ a0
    ·
     rw [if_pos c7] at H
     have c7b0 : decide (a0 ≤ (rd l1 x9_1)) = true := decide_eq_true c7; clear c7; obtain rfl := Option.some.inj H; have p394 : 0 ≤ (x9_1 : Int) := of_decide_eq_true y0_16; have q394 : x9_1 < (l1.length : Int) := of_decide_eq_true y0_16; obtain ⟨ad394, e394, hx394_0⟩ := Kd.at_int HR1.out x9_1 p394 q394; cases e394; replace p394 := eq_true p394; replace q394 := eq_true q394
     go_wp2
     go_ret
     exact ⟨y0_17, y0_15⟩
    rw [if_neg c7] at H
    have c7b0 : decide (a0 ≤ (rd l1 x9_1)) = false := decide_eq_false c7; clear c7
    by_cases c8 : x9_1 > 0
    ·
     rw [if_pos c8] at H
     have c8b0 : decide (0 < x9_1) = true := decide_eq_true c8; clear c8; obtain ⟨ji9, hji9⟩ : ∃ j_ : Int, (wrap64 (x9_1 - 1)) = j_ := ⟨_, rfl⟩
     replace H : (if 0 ≤ (ji9) then (if (ji9) < (l1.length : Int) then (if (rd l1 (ji9)) ≥ (rd l1 x9_1) then (some false) else (impl_SetOk.l0 k1 a0 l1 l1 (l1.length : Int) (wrap64 (x9_1 + 1)))) else (none)) else (none)) = some r := by first | (rw [hji9] at H; exact H) | (simp only [hji9] at H ⊢; exact H)
     have hji9w : (IntKind.i64.wrap (x9_1 - 1)) = ji9 := (i64_w _).trans hji9
     by_cases c10 : 0 ≤ (ji9)
     rotate_left
     ·
      rw [if_neg c10] at H
      exact absurd H (by simp)
     rw [if_pos c10] at H
     have c10b0 : decide (0 ≤ (ji9)) = true := decide_eq_true c10; clear c10
     by_cases c11 : (ji9) < (l1.length : Int)
     rotate_left
     ·
      rw [if_neg c11] at H
      exact absurd H (by simp)
     rw [if_pos c11] at H
     have c11b0 : decide ((ji9) < (l1.length : Int)) = true := decide_eq_true c11; clear c11
     by_cases c12 : (rd l1 (ji9)) ≥ (rd l1 x9_1)
     ·
      rw [if_pos c12] at H
      have c12b0 : decide ((rd l1 x9_1) ≤ (rd l1 (ji9))) = true := decide_eq_true c12; clear c12; obtain rfl := Option.some.inj H; have p394 : 0 ≤ (x9_1 : Int) := of_decide_eq_true y0_16; have q394 : x9_1 < (l1.length : Int) := of_decide_eq_true y0_16; obtain ⟨ad394, e394, hx394_0⟩ := Kd.at_int HR1.out x9_1 p394 q394; cases e394; replace p394 := eq_true p394; replace q394 := eq_true q394; have p395 : 0 ≤ ((ji9) : Int) := of_decide_eq_true y0_16; have q395 : (ji9) < (l1.length : Int) := of_decide_eq_true y0_16; obtain ⟨ad395, e395, hx395_0⟩ := Kd.at_int HR1.out (ji9) p395 q395
      obtain rfl : ad394 = ad395 := (by injection e395)
      replace p395 := eq_true p395; replace q395 := eq_true q395
      go_wp2
      go_ret
      exact ⟨by first | rfl | (simp; done) | (simp only [← hji9] <;> (first | rfl | simp)) | (simp [*]; done), y0_15⟩
     rw [if_neg c12] at H
     have c12b0 : decide ((rd l1 x9_1) ≤ (rd l1 (ji9))) = false := decide_eq_false c12; clear c12; have H' := Aside0.mk H; clear H; have p394 : 0 ≤ (x9_1 : Int) := of_decide_eq_true y0_16; have q394 : x9_1 < (l1.length : Int) := of_decide_eq_true y0_16; obtain ⟨ad394, e394, hx394_0⟩ := Kd.at_int HR1.out x9_1 p394 q394; cases e394; replace p394 := eq_true p394; replace q394 := eq_true q394; have p395 : 0 ≤ ((ji9) : Int) := of_decide_eq_true y0_16; have q395 : (ji9) < (l1.length : Int) := of_decide_eq_true y0_16; obtain ⟨ad395, e395, hx395_0⟩ := Kd.at_int HR1.out (ji9) p395 q395
     obtain rfl : ad394 = ad395 := (by injection e395)
     replace p395 := eq_true p395; replace q395 := eq_true q395
     go_wp2
     go_roundg k1
     case measure => have := HK1.out; omega
     case rel => exact ⟨(wrap64 (x9_1 + 1)), y0_17, H', ⟨y0_20⟩, y0_15⟩
    rw [if_neg c8] at H
    have c8b0 : decide (0 < x9_1) = false := decide_eq_false c8; clear c8; have H' := Aside0.mk H; clear H; have p394 : 0 ≤ (x9_1 : Int) := of_decide_eq_true y0_16; have q394 : x9_1 < (l1.length : Int) := of_decide_eq_true y0_16; obtain ⟨ad394, e394, hx394_0⟩ := Kd.at_int HR1.out x9_1 p394 q394; cases e394; replace p394 := eq_true p394; replace q394 := eq_true q394
    go_wp2
    go_roundg k1
    case measure => have := HK1.out; omega
    case rel => exact ⟨(wrap64 (x9_1 + 1)), y0_17, H', ⟨y0_20⟩, y0_15⟩
   rw [if_neg c3] at H
   have c3b0 : decide (x9_1 < (l1.length : Int)) = false := decide_eq_false c3; clear c3; obtain rfl := Option.some.inj H
   go_wp2
   go_ret
   exact ⟨y0_17, y0_15⟩
def impl_within.f (a0 : Int) (a1 : Int) (a2 : Int) : Option (Bool) := if a0 ≥ a1 then (some (decide (a0 ≤ a2))) else (some false)
theorem impl_within.calls (a0 : Int) (a1 : Int) (a2 : Int) (r : Bool) (w : World) (h : impl_within.f a0 a1 a2 = some r) :
  Calls Tryz.prog 106 #[.int .i64 a0, .int .i64 a1, .int .i64 a2] w fun e w' => e = .returned (.bool r) ∧ Drawn0 w w' := by
 have H := h; unfold impl_within.f at H; clear h
 by_cases c4 : a0 ≥ a1
 ·
  rw [if_pos c4] at H
  have c4b0 : decide (a1 ≤ a0) = true := decide_eq_true c4; clear c4; obtain rfl := Option.some.inj H
  go_enter Tryz.func106, Tryz.ntmps106
  go_wp2
  go_ret
  exact ⟨y0_17, y0_15⟩
 rw [if_neg c4] at H
 have c4b0 : decide (a1 ≤ a0) = false := decide_eq_false c4; clear c4; obtain rfl := Option.some.inj H
 go_enter Tryz.func106, Tryz.ntmps106
 go_wp2
 go_ret
 exact ⟨y0_17, y0_15⟩
def impl_ConfOk.f (a0_0 : Int) (a0_1 : Int) : Option (Bool) := (impl_within.f a0_0 4 7).bind fun t397 => (if t397 = true then ((impl_within.f a0_1 1 6).bind fun t398 => (some t398)) else (some false))
theorem impl_ConfOk.calls (a0_0 : Int) (a0_1 : Int) (r : Bool) (w : World) (h : impl_ConfOk.f a0_0 a0_1 = some r) :
  Calls Tryz.prog 105 #[.agg #[.int .i64 a0_0, .int .i64 a0_1]] w fun e w' => e = .returned (.bool r) ∧ Below w.heap.size w w' := by
 have hu32 := Tryz.underlying32; have HB := Aside0.mk (Below.refl w.heap.size w)
 have H := h; unfold impl_ConfOk.f at H
 clear h
 go_enter Tryz.func105, Tryz.ntmps105
 have H' := Aside0.mk H; clear H
 go_upto_region 1 with (first | ((with_reducible refine gd 1 ?_); refine bL 1 #[.int .i64 a0_0, .int .i64 a0_1] 32 ?_; intro gb396 w2 _ _ _))
 have H := H'.out; clear H'; obtain ⟨t397, A3, H⟩ := oB H; (try dsimp only at H)
 by_cases c4 : t397 = true
 ·
  subst c4
  rw [if_pos rfl] at H
  obtain ⟨t398, A5, H⟩ := oB H; (try dsimp only at H); obtain rfl := Option.some.inj H
  go_wp2_with (first | ((with_reducible refine gate_callee (f := 106) rfl ?_); refine gD (some 5) Tryz.func106 (impl_within.calls (w := _) (h := A3.out)) ?_; intro w6 _) | (go_at_call 106; refine aD (impl_within.calls (w := _) (h := A5.out)) ?_; intro w7 _))
  go_ret
  exact ⟨y0_17, UpW.out⟩
 replace c4 := Bool.eq_false_iff.mpr c4; subst c4
 rw [if_neg Bool.false_ne_true] at H
 obtain rfl := Option.some.inj H
 go_wp2_with (first | ((with_reducible refine gate_callee (f := 106) rfl ?_); refine gD (some 5) Tryz.func106 (impl_within.calls (w := _) (h := A3.out)) ?_; intro w8 _))
 go_ret
 exact ⟨y0_17, UpW.out⟩
def impl_Split.f (a0 : ByteArray) (a1 : Int) : Option (List ByteArray) := (strings_Split.f a0 (strOfNums (([a1] : List Int)))).bind fun t402 => (some t402)
theorem impl_Split.calls (a0 : ByteArray) (a1 : Int) (r : List ByteArray) (w : World) (h : impl_Split.f a0 a1 = some r) (hG : Glob w := by exact gG HG HB) :
  Calls Tryz.prog 174 #[.string a0, .int .u8 a1] w fun e w' => ∃ v0_ : Value, e = .returned (v0_) ∧ Kd.R Kd.string 9 w' w.heap.size (fun _ => True) v0_ r ∧ Below w.heap.size w w' := by
 have HG := Aside0.mk hG; clear hG; have HB := Aside0.mk (Below.refl w.heap.size w)
 have H := h; unfold impl_Split.f at H
 clear h; obtain ⟨y399, hy399⟩ : ∃ y_ : List Int, y_ = (([a1] : List Int)) := ⟨_, rfl⟩
 replace H : ((strings_Split.f a0 (strOfNums y399)).bind fun t402 => (some t402)) = some r := by first | (rw [hy399]; with_reducible exact H) | (rw [hy399]; with_reducible exact (Option.bind_some _ _).symm.trans H) | (rw [hy399]; exact H) | exact H
 have Ny399 := Aside0.mk hy399; clear hy399; obtain ⟨t402, A3, H⟩ := oB H; (try dsimp only at H); obtain rfl := Option.some.inj H
 go_enter Tryz.func174, Tryz.ntmps174
 go_wp2_with (first | ((with_reducible refine gate_dst (N := 7) rfl ?_); refine Kd.R_lit (Kd.int .u8) _ 5 ?hg (N := 7) ?hd (xs := ([a1] : List Int)) (inner := [.int .u8 a1]) (ok := fun _ => True) (okp := fun _ => True) ?hr ?hp (fun _ hk => hk) trivial (Below.refl _ _) (Nat.le_refl _) (by simp) ?_; (case hd => rfl); (case hg => rfl); (case hr => first | (go_simp; done) | (go_simp; rfl)); (case hp => exact (Reps.one (show Kd.M (Kd.int .u8) _ _ _ a1 [.int .u8 a1] from rfl) (Reps.none _ _))); intro v400 w4 ho5 hb hg_ hnew_; clear hg_ hnew_; (first | rw [← Ny399.out] at ho5 | (simp only [Int.reduceToNat] at ho5; rw [← Ny399.out] at ho5)); have HO401 := Aside0.mk (Kd.R_lower ho5 (below_size (bI HB.out))); replace HB := bs HB hb; clear hb ho5; have hcv6 := own_string (P := Tryz.prog) Tryz.underlying24 Tryz.underlying5 Tryz.underlying9 (Kd.own_of_R HO401.out)) | ((with_reducible refine gate_callee (f := 195) rfl ?_); refine gB (some 9) Tryz.func195 #[.string a0, .string (strOfNums y399)] ?_; (with_reducible refine (strings_Split.calls a0 (strOfNums y399) t402 _ A3.out).mono ?_); rintro e w7 ⟨v403, rfl, ho0, hb⟩; refine ⟨_, rfl, ?_⟩; replace HO401 := rb HO401 hb; have HO404 := Aside0.mk (Kd.R_lower ho0 (below_size (bI HB.out))); replace HB := bs HB hb; (try clear hb); (try clear ho0)))
 go_ret
 exact ⟨_, y0_12, by (with_reducible repeat (first | apply Kd.R_alloc | apply Kd.R_drewN | apply Kd.R_drew)); exact HO404.out, bI HB.out⟩
def impl_Digits.f (a0 : Int) : Option (ByteArray) := (strconv_Itoa_205.f a0).bind fun t405 => (some t405)
theorem impl_Digits.calls (a0 : Int) (r : ByteArray) (w : World) (h : impl_Digits.f a0 = some r) (hG : Glob w := by exact gG HG HB) :
  Calls Tryz.prog 197 #[.int .i64 a0] w fun e w' => e = .returned (.string r) ∧ Below w.heap.size w w' := by
 have HG := Aside0.mk hG; clear hG; have HB := Aside0.mk (Below.refl w.heap.size w)
 have H := h; unfold impl_Digits.f at H
 clear h; obtain ⟨t405, A2, H⟩ := oB H; (try dsimp only at H); obtain rfl := Option.some.inj H
 go_enter Tryz.func197, Tryz.ntmps197
 go_wp2_with (first | ((with_reducible refine gate_callee (f := 205) rfl ?_); refine gC (some 4) Tryz.func205 (strconv_Itoa_205.calls (w := _) (h := A2.out)) ?_; intro w3 _))
 go_ret
 exact ⟨y0_17, UpW.out⟩
def impl_Number.l0 : Nat → ByteArray → Int → Int → Option (Int × Bool)
 | 0, _, _, _ => none
 | k + 1, x0, x4, x5 => if x5 < (x0.size : Int) then (if 0 ≤ x5 then (if (bt x0 x5) < 48 then (some (0, false)) else (if (bt x0 x5) > 57 then (some (0, false)) else (impl_Number.l0 k x0 (wrap64 ((wrap64 (10 * x4)) + (((bt x0 x5) - 48) % 256))) (wrap64 (x5 + 1))))) else (none)) else ((impl_Digits.f x4).bind fun t406 => (if t406.toList = x0.toList then (some (x4, true)) else (some (0, false))))
def impl_Number.f (k : Nat) (a0 : ByteArray) : Option (Int × Bool) := if (a0.size : Int) < 1 then (some (0, false)) else (if (a0.size : Int) > 6 then (some (0, false)) else (impl_Number.l0 k a0 0 0))
theorem impl_Number.mono_l : ∀ k, (∀ y0 y1 y2, LeO (impl_Number.l0 k y0 y1 y2) (impl_Number.l0 (k + 1) y0 y1 y2))
 | 0 => fun _ _ _ r h => by simp [impl_Number.l0] at h
 | k + 1 => by
  have ih0 := impl_Number.mono_l k
  intro y0 y1 y2
  unfold impl_Number.l0
  repeat' first | (with_reducible exact ih0 _ _ _) | (with_reducible exact LeO.refl _) | (with_reducible exact LeO.none _) | (with_reducible refine LeO.ite ?_ ?_) | (with_reducible refine LeO.bind ?_ (fun _ => ?_))
theorem impl_Number.mono : ∀ a0 k, LeO (impl_Number.f k a0) (impl_Number.f (k + 1) a0) := by
 intro a0 k
 have ih0 := impl_Number.mono_l k
 unfold impl_Number.f
 repeat' first | (with_reducible exact ih0 _ _ _) | (with_reducible exact LeO.refl _) | (with_reducible exact LeO.none _) | (with_reducible refine LeO.ite ?_ ?_) | (with_reducible refine LeO.bind ?_ (fun _ => ?_))
theorem impl_Number.calls (k : Nat) (a0 : ByteArray) (r1 : Int) (r2 : Bool) (w : World) (h : impl_Number.f k a0 = some (r1, r2)) (hG : Glob w := by exact gG HG HB) :
  Calls Tryz.prog 176 #[.string a0] w fun e w' => e = .returned (.tuple #[.int .i64 r1, .bool r2]) ∧ Below w.heap.size w w' := by
 have HG := Aside0.mk hG; clear hG; have HB := Aside0.mk (Below.refl w.heap.size w); have H := h; unfold impl_Number.f at H; clear h
 go_enter Tryz.func176, Tryz.ntmps176
 have H' := Aside0.mk H; clear H
 go_upto_region 1 with fail
 have H := H'.out; clear H'
 by_cases c2 : (a0.size : Int) < 1
 ·
  rw [if_pos c2] at H
  have c2b0 : decide ((a0.size : Int) < 1) = true := decide_eq_true c2
  have c2b1 : decide (a0.size < 1) = true := decide_eq_true (by omega)
  clear c2
  (first | rw [c2b0] | (simp only [i64_w, i32_w]; rw [c2b0]) | skip)
  simp only [Option.some.injEq, Prod.mk.injEq] at H
  obtain ⟨rfl, rfl⟩ := H
  go_wp2
  go_ret2
  exact ⟨y0_17, UpW.out⟩
 rw [if_neg c2] at H
 have c2b0 : decide ((a0.size : Int) < 1) = false := decide_eq_false c2
 have c2b1 : decide (a0.size < 1) = false := decide_eq_false (by omega)
 clear c2
 (first | rw [c2b0] | (simp only [i64_w, i32_w]; rw [c2b0]) | skip)
 by_cases c3 : (a0.size : Int) > 6
 ·
  rw [if_pos c3] at H
  have c3b0 : decide (6 < (a0.size : Int)) = true := decide_eq_true c3
  have c3b1 : decide (6 < a0.size) = true := decide_eq_true (by omega)
  clear c3
  simp only [Option.some.injEq, Prod.mk.injEq] at H
  obtain ⟨rfl, rfl⟩ := H
  go_wp2
  go_ret2
  exact ⟨y0_17, UpW.out⟩
 rw [if_neg c3] at H
 have c3b0 : decide (6 < (a0.size : Int)) = false := decide_eq_false c3
 have c3b1 : decide (6 < a0.size) = false := decide_eq_false (by omega)
 clear c3; have H' := Aside0.mk H; clear H
 go_wp2
 refine wC ?_; intro w4 _
 go_loopg [4, 5] k (fun kq v4 v5 w' => ∃ (x4_1 : Int) (x5_1 : Int), v4 = .int .i64 x4_1 ∧ v5 = .int .i64 x5_1 ∧ Aside0 (impl_Number.l0 kq a0 x4_1 x5_1 = some (r1, r2)) ∧ Aside0 (kq ≤ k) ∧ UB w4 w')
 case atStart => exact ⟨(0), (0), y0_17, y0_17, H', ⟨Nat.le_refl _⟩, ⟨UpW.out⟩⟩
 case round =>
  clear H'; obtain ⟨x4_1, x5_1, rfl, rfl, HA, HK1, _⟩ := hrel; cases gk with
  | zero => exact absurd HA.out (by simp [impl_Number.l0])
  | succ k1 =>
   have H := HA.out; clear HA
   simp only [impl_Number.l0] at H
   by_cases c5 : x5_1 < (a0.size : Int)
   ·
    rw [if_pos c5] at H
    have c5b0 : decide (x5_1 < (a0.size : Int)) = true := decide_eq_true c5; clear c5
    by_cases c6 : 0 ≤ x5_1
    rotate_left
    ·
     rw [if_neg c6] at H
     exact absurd H (by simp)
    rw [if_pos c6] at H
    have c6b0 : decide (0 ≤ x5_1) = true := decide_eq_true c6; clear c6
    by_cases c8 : (bt a0 x5_1) < 48
    ·
     rw [if_pos c8] at H
     have c8b0 : decide ((bt a0 x5_1) < 48) = true := decide_eq_true c8; clear c8; have H' := Aside0.mk H; clear H; have p7 : 0 ≤ (x5_1 : Int) := of_decide_eq_true y0_16; have q7 : x5_1 < (a0.size : Int) := of_decide_eq_true y0_16; have hx7 := bt_at a0 x5_1; replace p7 := eq_true p7; replace q7 := eq_true q7
     go_upto_if 29 with fail
     have H := H'.out; clear H'
     simp only [Option.some.injEq, Prod.mk.injEq] at H
     obtain ⟨rfl, rfl⟩ := H
     go_wp2
     go_ret2
     exact ⟨y0_17, UpW.out⟩
    rw [if_neg c8] at H
    have c8b0 : decide ((bt a0 x5_1) < 48) = false := decide_eq_false c8; clear c8; have H' := Aside0.mk H; clear H; have p7 : 0 ≤ (x5_1 : Int) := of_decide_eq_true y0_16; have q7 : x5_1 < (a0.size : Int) := of_decide_eq_true y0_16; have hx7 := bt_at a0 x5_1; replace p7 := eq_true p7; replace q7 := eq_true q7; have p9 : 0 ≤ (x5_1 : Int) := of_decide_eq_true y0_16; have q9 : x5_1 < (a0.size : Int) := of_decide_eq_true y0_16; have hx9 := bt_at a0 x5_1; replace p9 := eq_true p9; replace q9 := eq_true q9
    go_upto_if 29 with fail
    have H := H'.out; clear H'
    by_cases c10 : (bt a0 x5_1) > 57
    ·
     rw [if_pos c10] at H
     have c10b0 : decide (57 < (bt a0 x5_1)) = true := decide_eq_true c10; clear c10
     (first | rw [c10b0] | (simp only [i64_w, i32_w]; rw [c10b0]) | skip)
     simp only [Option.some.injEq, Prod.mk.injEq] at H
     obtain ⟨rfl, rfl⟩ := H
     go_wp2
     go_ret2
     exact ⟨y0_17, UpW.out⟩
    rw [if_neg c10] at H
    have c10b0 : decide (57 < (bt a0 x5_1)) = false := decide_eq_false c10; clear c10
    (first | rw [c10b0] | (simp only [i64_w, i32_w]; rw [c10b0]) | skip)
    have H' := Aside0.mk H; clear H; have p11 : 0 ≤ (x5_1 : Int) := of_decide_eq_true y0_16; have q11 : x5_1 < (a0.size : Int) := of_decide_eq_true y0_16; have hx11 := bt_at a0 x5_1; replace p11 := eq_true p11; replace q11 := eq_true q11
    go_wp2
    go_roundg k1
    case measure => have := HK1.out; omega
    case rel => exact ⟨(wrap64 ((wrap64 (10 * x4_1)) + (((bt a0 x5_1) - 48) % 256))), (wrap64 (x5_1 + 1)), y0_17, y0_17, H', ⟨y0_20⟩, ⟨UpW.out⟩⟩
   rw [if_neg c5] at H
   have c5b0 : decide (x5_1 < (a0.size : Int)) = false := decide_eq_false c5; clear c5; obtain ⟨t406, A12, H⟩ := oB H; (try dsimp only at H); have H' := Aside0.mk H; clear H
   go_upto_if 41 with (first | ((with_reducible refine gate_callee (f := 197) rfl ?_); refine gC (some 39) Tryz.func197 (impl_Digits.calls (w := _) (h := A12.out)) ?_; intro w13 _))
   have H := H'.out; clear H'
   by_cases c14 : t406.toList = a0.toList
   ·
    rw [if_pos c14] at H
    have c14b0 : (t406.toList == a0.toList) = true := beq_iff_eq.mpr c14; have c14b1 : (t406.toList != a0.toList) = false := bne_eq_false_iff_eq.mpr c14; clear c14
    (first | rw [c14b0] | (simp only [i64_w, i32_w]; rw [c14b0]) | skip)
    simp only [Option.some.injEq, Prod.mk.injEq] at H
    obtain ⟨rfl, rfl⟩ := H
    go_wp2
    go_ret2
    exact ⟨y0_17, UpW.out⟩
   rw [if_neg c14] at H
   have c14b0 : (t406.toList == a0.toList) = false := beq_eq_false_iff_ne.mpr c14; have c14b1 : (t406.toList != a0.toList) = true := bne_iff_ne.mpr c14
   (first | rw [c14b0] | (simp only [i64_w, i32_w]; rw [c14b0]) | skip)
   simp only [Option.some.injEq, Prod.mk.injEq] at H
   obtain ⟨rfl, rfl⟩ := H
   go_wp2
   go_ret2
   exact ⟨y0_17, UpW.out⟩
def impl_TxOk.f (a0_0 : Int) (a0_1 : Int) (a0_2 : Int) (a0_3 : Int) : Option (Bool) := (impl_within.f a0_0 0 3).bind fun t408 => (if t408 = true then ((impl_within.f a0_1 0 3).bind fun t409 => (if t409 = true then ((impl_within.f a0_2 0 1000).bind fun t410 => (if t410 = true then ((impl_within.f a0_3 0 99).bind fun t411 => (some t411)) else (some false))) else (some false))) else (some false))
theorem impl_TxOk.calls (a0_0 : Int) (a0_1 : Int) (a0_2 : Int) (a0_3 : Int) (r : Bool) (w : World) (h : impl_TxOk.f a0_0 a0_1 a0_2 a0_3 = some r) :
  Calls Tryz.prog 206 #[.agg #[.int .i64 a0_0, .int .i64 a0_1, .int .i64 a0_2, .int .i64 a0_3]] w fun e w' => e = .returned (.bool r) ∧ Below w.heap.size w w' := by
 have hu156 := Tryz.underlying156; have HB := Aside0.mk (Below.refl w.heap.size w)
 have H := h; unfold impl_TxOk.f at H
 clear h
 go_enter Tryz.func206, Tryz.ntmps206
 have H' := Aside0.mk H; clear H
 go_upto_region 1 with (first | ((with_reducible refine gd 1 ?_); refine bL 1 #[.int .i64 a0_0, .int .i64 a0_1, .int .i64 a0_2, .int .i64 a0_3] 156 ?_; intro gb407 w2 _ _ _))
 have H := H'.out; clear H'; obtain ⟨t408, A3, H⟩ := oB H; (try dsimp only at H)
 by_cases c4 : t408 = true
 ·
  subst c4
  rw [if_pos rfl] at H
  obtain ⟨t409, A5, H⟩ := oB H; (try dsimp only at H)
  by_cases c6 : t409 = true
  ·
   subst c6
   rw [if_pos rfl] at H
   obtain ⟨t410, A7, H⟩ := oB H; (try dsimp only at H)
   by_cases c8 : t410 = true
   ·
    subst c8
    rw [if_pos rfl] at H
    obtain ⟨t411, A9, H⟩ := oB H; (try dsimp only at H); obtain rfl := Option.some.inj H
    go_wp2_with (first | ((with_reducible refine gate_callee (f := 106) rfl ?_); refine gD (some 5) Tryz.func106 (impl_within.calls (w := _) (h := A3.out)) ?_; intro w10 _) | (go_at_call 106; refine aD (impl_within.calls (w := _) (h := A5.out)) ?_; intro w11 _) | (go_at_call 106; refine aD (impl_within.calls (w := _) (h := A7.out)) ?_; intro w12 _) | (go_at_call 106; refine aD (impl_within.calls (w := _) (h := A9.out)) ?_; intro w13 _))
    go_ret
    exact ⟨y0_17, UpW.out⟩
   replace c8 := Bool.eq_false_iff.mpr c8; subst c8
   rw [if_neg Bool.false_ne_true] at H
   obtain rfl := Option.some.inj H
   go_wp2_with (first | ((with_reducible refine gate_callee (f := 106) rfl ?_); refine gD (some 5) Tryz.func106 (impl_within.calls (w := _) (h := A3.out)) ?_; intro w14 _) | (go_at_call 106; refine aD (impl_within.calls (w := _) (h := A5.out)) ?_; intro w15 _) | (go_at_call 106; refine aD (impl_within.calls (w := _) (h := A7.out)) ?_; intro w16 _))
   go_ret
   exact ⟨y0_17, UpW.out⟩
  replace c6 := Bool.eq_false_iff.mpr c6; subst c6
  rw [if_neg Bool.false_ne_true] at H
  obtain rfl := Option.some.inj H
  go_wp2_with (first | ((with_reducible refine gate_callee (f := 106) rfl ?_); refine gD (some 5) Tryz.func106 (impl_within.calls (w := _) (h := A3.out)) ?_; intro w17 _) | (go_at_call 106; refine aD (impl_within.calls (w := _) (h := A5.out)) ?_; intro w18 _))
  go_ret
  exact ⟨y0_17, UpW.out⟩
 replace c4 := Bool.eq_false_iff.mpr c4; subst c4
 rw [if_neg Bool.false_ne_true] at H
 obtain rfl := Option.some.inj H
 go_wp2_with (first | ((with_reducible refine gate_callee (f := 106) rfl ?_); refine gD (some 5) Tryz.func106 (impl_within.calls (w := _) (h := A3.out)) ?_; intro w19 _))
 go_ret
 exact ⟨y0_17, UpW.out⟩
def impl_TxText.f (a0_0 : Int) (a0_1 : Int) (a0_2 : Int) (a0_3 : Int) : Option (ByteArray) := (impl_TxOk.f a0_0 a0_1 a0_2 a0_3).bind fun t413 => (if t413 = true then ((impl_Digits.f a0_0).bind fun t414 => (if t414.size + 1 ≤ 9223372036854775807 then ((impl_Digits.f a0_1).bind fun t415 => (if (t414 ++ (⟨#[62]⟩ : ByteArray)).size + t415.size ≤ 9223372036854775807 then (if ((t414 ++ (⟨#[62]⟩ : ByteArray)) ++ t415).size + 1 ≤ 9223372036854775807 then ((impl_Digits.f a0_2).bind fun t416 => (if (((t414 ++ (⟨#[62]⟩ : ByteArray)) ++ t415) ++ (⟨#[58]⟩ : ByteArray)).size + t416.size ≤ 9223372036854775807 then (if ((((t414 ++ (⟨#[62]⟩ : ByteArray)) ++ t415) ++ (⟨#[58]⟩ : ByteArray)) ++ t416).size + 1 ≤ 9223372036854775807 then ((impl_Digits.f a0_3).bind fun t417 => (if (((((t414 ++ (⟨#[62]⟩ : ByteArray)) ++ t415) ++ (⟨#[58]⟩ : ByteArray)) ++ t416) ++ (⟨#[35]⟩ : ByteArray)).size + t417.size ≤ 9223372036854775807 then (some ((((((t414 ++ (⟨#[62]⟩ : ByteArray)) ++ t415) ++ (⟨#[58]⟩ : ByteArray)) ++ t416) ++ (⟨#[35]⟩ : ByteArray)) ++ t417)) else (none))) else (none)) else (none))) else (none)) else (none))) else (none))) else (some (⟨#[]⟩ : ByteArray)))
def impl_TxText.T3 : Bool × List (List Nat × List Nat) := (true, [([], []), ([0], [0]), ([1], [1]), ([2], [2]), ([], []), ([4], [4]), ([5, 2], [5]), ([3, 6], [3, 6]), ([7], [7]), ([], []), ([9], [9]), ([10, 6], [10]), ([8, 11], [8, 11]), ([12], [12]), ([], []), ([14], [14]), ([15, 11], [15]), ([13, 16], [13, 16]), ([17, 16, 0, 1, 2, 3, 4, 5, 6, 7, 8, 9, 10, 11, 12, 13, 14, 15, 16, 17], [17])])
def impl_TxText.B3 : List Nat := [0, 1, 3, 7, 0, 16, 55, 127, 255, 0, 512, 1655, 4095, 8191, 0, 16384, 52855, 131071, 262143]
theorem impl_TxText.tab3 : rtab .any (opsOf Tryz.f207 3) = impl_TxText.T3 := by kernel_rfl
theorem impl_TxText.bits3 : waitsOk impl_TxText.T3.2 impl_TxText.B3 = true := by kernel_rfl
theorem impl_TxText.calls (a0_0 : Int) (a0_1 : Int) (a0_2 : Int) (a0_3 : Int) (r : ByteArray) (w : World) (h : impl_TxText.f a0_0 a0_1 a0_2 a0_3 = some r) (hG : Glob w := by exact gG HG HB) :
  Calls Tryz.prog 207 #[.agg #[.int .i64 a0_0, .int .i64 a0_1, .int .i64 a0_2, .int .i64 a0_3]] w fun e w' => e = .returned (.string r) ∧ Below w.heap.size w w' := by
 have HG := Aside0.mk hG; clear hG; have hu156 := Tryz.underlying156; have HB := Aside0.mk (Below.refl w.heap.size w)
 have H := h; unfold impl_TxText.f at H
 clear h; obtain ⟨t413, A2, H⟩ := oB H; (try dsimp only at H)
 go_enter Tryz.func207, Tryz.ntmps207
 have H' := Aside0.mk H; clear H
 go_upto_if 5 with (first | ((with_reducible refine gd 1 ?_); refine bL 1 #[.int .i64 a0_0, .int .i64 a0_1, .int .i64 a0_2, .int .i64 a0_3] 156 ?_; intro gb412 w3 _ _ _) | ((with_reducible refine gate_callee (f := 206) rfl ?_); refine gC (some 4) Tryz.func206 (impl_TxOk.calls (w := _) (h := A2.out)) ?_; intro w4 _))
 have H := H'.out; clear H'
 by_cases c5 : t413 = true
 ·
  subst c5
  rw [if_pos rfl] at H
  obtain ⟨t414, A6, H⟩ := oB H; (try dsimp only at H)
  by_cases c7 : t414.size + 1 ≤ 9223372036854775807
  rotate_left
  ·
   rw [if_neg c7] at H
   exact absurd H (by simp)
  rw [if_pos c7] at H
  have c7b0 := eq_true c7; have c7b1 : decide (t414.size + 1 ≤ 9223372036854775807) = true := decide_eq_true c7
  try have c7b2 : (9223372036854775807 < t414.size + 1) = False := eq_false (Nat.not_lt.2 c7)
  obtain ⟨t415, A8, H⟩ := oB H; (try dsimp only at H)
  by_cases c9 : (t414 ++ (⟨#[62]⟩ : ByteArray)).size + t415.size ≤ 9223372036854775807
  rotate_left
  ·
   rw [if_neg c9] at H
   exact absurd H (by simp)
  rw [if_pos c9] at H
  have c9b0 := eq_true c9; have c9b1 : decide ((t414 ++ (⟨#[62]⟩ : ByteArray)).size + t415.size ≤ 9223372036854775807) = true := decide_eq_true c9
  try have c9b2 : (9223372036854775807 < (t414 ++ (⟨#[62]⟩ : ByteArray)).size + t415.size) = False := eq_false (Nat.not_lt.2 c9)
  (try have c9b3 : (9223372036854775807 < t414.size + 1 + t415.size) = False := eq_false (by have h_ := c9; simp only [ByteArray.size_append, ByteArray.size_extract, show (⟨#[62]⟩ : ByteArray).size = 1 from rfl] at h_; omega))
  by_cases c10 : ((t414 ++ (⟨#[62]⟩ : ByteArray)) ++ t415).size + 1 ≤ 9223372036854775807
  rotate_left
  ·
   rw [if_neg c10] at H
   exact absurd H (by simp)
  rw [if_pos c10] at H
  have c10b0 := eq_true c10; have c10b1 : decide (((t414 ++ (⟨#[62]⟩ : ByteArray)) ++ t415).size + 1 ≤ 9223372036854775807) = true := decide_eq_true c10
  try have c10b2 : (9223372036854775807 < ((t414 ++ (⟨#[62]⟩ : ByteArray)) ++ t415).size + 1) = False := eq_false (Nat.not_lt.2 c10)
  (try have c10b3 : (9223372036854775807 < t414.size + 1 + t415.size + 1) = False := eq_false (by have h_ := c10; simp only [ByteArray.size_append, ByteArray.size_extract, show (⟨#[62]⟩ : ByteArray).size = 1 from rfl] at h_; omega))
  obtain ⟨t416, A11, H⟩ := oB H; (try dsimp only at H)
  by_cases c12 : (((t414 ++ (⟨#[62]⟩ : ByteArray)) ++ t415) ++ (⟨#[58]⟩ : ByteArray)).size + t416.size ≤ 9223372036854775807
  rotate_left
  ·
   rw [if_neg c12] at H
   exact absurd H (by simp)
  rw [if_pos c12] at H
  have c12b0 := eq_true c12; have c12b1 : decide ((((t414 ++ (⟨#[62]⟩ : ByteArray)) ++ t415) ++ (⟨#[58]⟩ : ByteArray)).size + t416.size ≤ 9223372036854775807) = true := decide_eq_true c12
  try have c12b2 : (9223372036854775807 < (((t414 ++ (⟨#[62]⟩ : ByteArray)) ++ t415) ++ (⟨#[58]⟩ : ByteArray)).size + t416.size) = False := eq_false (Nat.not_lt.2 c12)
  (try have c12b3 : (9223372036854775807 < t414.size + 1 + t415.size + 1 + t416.size) = False := eq_false (by have h_ := c12; simp only [ByteArray.size_append, ByteArray.size_extract, show (⟨#[58]⟩ : ByteArray).size = 1 from rfl, show (⟨#[62]⟩ : ByteArray).size = 1 from rfl] at h_; omega))
  by_cases c13 : ((((t414 ++ (⟨#[62]⟩ : ByteArray)) ++ t415) ++ (⟨#[58]⟩ : ByteArray)) ++ t416).size + 1 ≤ 9223372036854775807
  rotate_left
  ·
   rw [if_neg c13] at H
   exact absurd H (by simp)
  rw [if_pos c13] at H
  have c13b0 := eq_true c13; have c13b1 : decide (((((t414 ++ (⟨#[62]⟩ : ByteArray)) ++ t415) ++ (⟨#[58]⟩ : ByteArray)) ++ t416).size + 1 ≤ 9223372036854775807) = true := decide_eq_true c13
  try have c13b2 : (9223372036854775807 < ((((t414 ++ (⟨#[62]⟩ : ByteArray)) ++ t415) ++ (⟨#[58]⟩ : ByteArray)) ++ t416).size + 1) = False := eq_false (Nat.not_lt.2 c13)
  (try have c13b3 : (9223372036854775807 < t414.size + 1 + t415.size + 1 + t416.size + 1) = False := eq_false (by have h_ := c13; simp only [ByteArray.size_append, ByteArray.size_extract, show (⟨#[58]⟩ : ByteArray).size = 1 from rfl, show (⟨#[62]⟩ : ByteArray).size = 1 from rfl] at h_; omega))
  obtain ⟨t417, A14, H⟩ := oB H; (try dsimp only at H)
  by_cases c15 : (((((t414 ++ (⟨#[62]⟩ : ByteArray)) ++ t415) ++ (⟨#[58]⟩ : ByteArray)) ++ t416) ++ (⟨#[35]⟩ : ByteArray)).size + t417.size ≤ 9223372036854775807
  rotate_left
  ·
   rw [if_neg c15] at H
   exact absurd H (by simp)
  rw [if_pos c15] at H
  have c15b0 := eq_true c15; have c15b1 : decide ((((((t414 ++ (⟨#[62]⟩ : ByteArray)) ++ t415) ++ (⟨#[58]⟩ : ByteArray)) ++ t416) ++ (⟨#[35]⟩ : ByteArray)).size + t417.size ≤ 9223372036854775807) = true := decide_eq_true c15
  try have c15b2 : (9223372036854775807 < (((((t414 ++ (⟨#[62]⟩ : ByteArray)) ++ t415) ++ (⟨#[58]⟩ : ByteArray)) ++ t416) ++ (⟨#[35]⟩ : ByteArray)).size + t417.size) = False := eq_false (Nat.not_lt.2 c15)
  (try have c15b3 : (9223372036854775807 < t414.size + 1 + t415.size + 1 + t416.size + 1 + t417.size) = False := eq_false (by have h_ := c15; simp only [ByteArray.size_append, ByteArray.size_extract, show (⟨#[35]⟩ : ByteArray).size = 1 from rfl, show (⟨#[58]⟩ : ByteArray).size = 1 from rfl, show (⟨#[62]⟩ : ByteArray).size = 1 from rfl] at h_; omega))
  obtain rfl := Option.some.inj H
  try go_wp2
  refine sB [] impl_TxText.tab3 impl_TxText.bits3 ?_; intro w16 _ HT_ HW_
  refine pA 0 (some 6) (bz 19 1) HT_ ?_
  refine tB 1 (some 7) (bz 19 3) HT_ HW_ ?_
  refine pA 4 (some 10) (bz 19 19) HT_ ?_
  refine tB 5 (some 11) (bz 19 51) HT_ HW_ ?_
  refine pA 9 (some 15) (bz 19 563) HT_ ?_
  refine tB 10 (some 16) (bz 19 1587) HT_ HW_ ?_
  refine pA 14 (some 20) (bz 19 0x4633) HT_ ?_
  refine tB 15 (some 21) (bz 19 0xc633) HT_ HW_ ?_
  refine o1 2 (some 8) (bz 19 0xc637) HT_ rfl (kC Tryz.func197 (impl_Digits.calls (w := _) (h := A6.out)) ?_); intro w17 _
  refine nA (some 8) ?_
  refine pA 3 (some 9) (bz 19 0xc63f) HT_ ?_
  refine o1 6 (some 12) (bz 19 0xc67f) HT_ rfl (kC Tryz.func197 (impl_Digits.calls (w := _) (h := A8.out)) ?_); intro w18 _
  refine nA (some 12) ?_
  refine pA 7 (some 13) (bz 19 0xc6ff) HT_ ?_
  refine pA 8 (some 14) (bz 19 0xc7ff) HT_ ?_
  refine o1 11 (some 17) (bz 19 0xcfff) HT_ rfl (kC Tryz.func197 (impl_Digits.calls (w := _) (h := A11.out)) ?_); intro w19 _
  refine nA (some 17) ?_
  refine pA 12 (some 18) (bz 19 0xdfff) HT_ ?_
  refine pA 13 (some 19) (bz 19 0xffff) HT_ ?_
  refine o1 16 (some 22) (bz 19 0x1ffff) HT_ rfl (kC Tryz.func197 (impl_Digits.calls (w := _) (h := A14.out)) ?_); intro w20 _
  refine nA (some 22) ?_
  refine pA 17 (some 23) (bz 19 0x3ffff) HT_ ?_
  refine pA 18 (some 2) (bz 19 0x7ffff) HT_ ?_
  refine done_ (done_of HT_.out (by kernel_rfl)) ?_
  try go_wp2
  go_ret
  exact ⟨y0_17, UpW.out⟩
 replace c5 := Bool.eq_false_iff.mpr c5; subst c5
 rw [if_neg Bool.false_ne_true] at H
 obtain rfl := Option.some.inj H
 go_wp2
 go_ret
 exact ⟨y0_17, UpW.out⟩
def impl_TxOf.f (k : Nat) (a0 : ByteArray) : Option (Int × Int × Int × Int × Bool) := (strings_Cut.f a0 (⟨#[62]⟩ : ByteArray)).bind fun c1 => (strings_Cut.f c1.2.1 (⟨#[58]⟩ : ByteArray)).bind fun c2 => (strings_Cut.f c2.2.1 (⟨#[35]⟩ : ByteArray)).bind fun c3 => (impl_Number.f k c1.1).bind fun n0 => (impl_Number.f k c2.1).bind fun n1 => (impl_Number.f k c3.1).bind fun n2 => (impl_Number.f k c3.2.1).bind fun n3 => (impl_TxOk.f n0.1 n1.1 n2.1 n3.1).bind fun b => (if b = true then ((impl_TxText.f n0.1 n1.1 n2.1 n3.1).bind fun t => (if t.toList = a0.toList then (some (n0.1, n1.1, n2.1, n3.1, true)) else (some (0, 0, 0, 0, false)))) else (some (0, 0, 0, 0, false)))
theorem impl_TxOf.mono : ∀ a0 k, LeO (impl_TxOf.f k a0) (impl_TxOf.f (k + 1) a0) := by
 intro a0 k
 unfold impl_TxOf.f
 repeat' first | (with_reducible exact impl_Number.mono _ _) | (with_reducible exact LeO.refl _) | (with_reducible exact LeO.none _) | (with_reducible refine LeO.ite ?_ ?_) | (with_reducible refine LeO.bind ?_ (fun _ => ?_))
section
variable {P : Program} {ops : Array Oper} {rest : List Oper} {o : Oper} {a : Act} {Q : Exit → Act → World → Prop}
theorem impl_TxOf.lit {W : World} (n : Nat) (cs : Array Value) (t : TypeId)
  (h : ∀ g, g = W.heap.size → ∀ w1, w1.heap[g]? = some (.cells cs t (0, 0)) → Below W.heap.size W w1 → wpList P ops Q rest (a.put o.dst (.slice (some ⟨g, 0, none⟩) n n)) w1)
  (hgd : o.guard = none := by rfl) (hrun : (execOp a.eval o).run P W = .ok (.value (.slice (some ⟨W.heap.size, 0, none⟩) n n)) (W.alloc (.cells cs t (0, 0))) := by first | (go_simp; done) | (go_simp; rfl) | rfl) : wpList P ops Q (o :: rest) a W :=
 Kd.event_run hgd hrun (h _ rfl _ (blk_new W _) (below_alloc (Below.refl _ _) _))
end
def impl_TxOf.arr (a b c d : Int) : Nat → Array Value
 | 0 => #[.int .i64 0, .int .i64 0, .int .i64 0, .int .i64 0]
 | 1 => #[.int .i64 a, .int .i64 0, .int .i64 0, .int .i64 0]
 | 2 => #[.int .i64 a, .int .i64 b, .int .i64 0, .int .i64 0]
 | 3 => #[.int .i64 a, .int .i64 b, .int .i64 c, .int .i64 0]
 | _ => #[.int .i64 a, .int .i64 b, .int .i64 c, .int .i64 d]
theorem impl_TxOf.calls (k : Nat) (a0 : ByteArray) (r1 : Int) (r2 : Int) (r3 : Int) (r4 : Int) (r5 : Bool) (w : World) (h : impl_TxOf.f k a0 = some (r1, r2, r3, r4, r5)) (hG : Glob w := by exact gG HG HB) :
  Calls Tryz.prog 198 #[.string a0] w fun e w' => e = .returned (.tuple #[.agg #[.int .i64 r1, .int .i64 r2, .int .i64 r3, .int .i64 r4], .bool r5]) ∧ Below w.heap.size w w' := by
 have HG := Aside0.mk hG; clear hG; have huT := Tryz.underlying156; have HB := Aside0.mk (Below.refl w.heap.size w); have H := h
 unfold impl_TxOf.f at H
 clear h; obtain ⟨⟨s1, s2, s3⟩, A10, H⟩ := Option.bind_eq_some_iff.mp H; obtain ⟨⟨s4, s5, s6⟩, A20, H⟩ := Option.bind_eq_some_iff.mp H; obtain ⟨⟨s7, s8, s9⟩, A30, H⟩ := Option.bind_eq_some_iff.mp H; obtain ⟨⟨n0, m0⟩, A40, H⟩ := Option.bind_eq_some_iff.mp H; obtain ⟨⟨n1, m1⟩, A50, H⟩ := Option.bind_eq_some_iff.mp H; obtain ⟨⟨n2, m2⟩, A60, H⟩ := Option.bind_eq_some_iff.mp H; obtain ⟨⟨n3, m3⟩, A70, H⟩ := Option.bind_eq_some_iff.mp H; obtain ⟨bk_, A80, H⟩ := Option.bind_eq_some_iff.mp H
 dsimp only at A10 A20 A30 A40 A50 A60 A70 A80 H
 have HH := Aside0.mk H; clear H; have A1 := Aside0.mk A10; clear A10; have A2 := Aside0.mk A20; clear A20; have A3 := Aside0.mk A30; clear A30; have A4 := Aside0.mk A40; clear A40; have A5 := Aside0.mk A50; clear A50; have A6 := Aside0.mk A60; clear A60; have A7 := Aside0.mk A70; clear A70; have A8 := Aside0.mk A80; clear A80
 go_enter Tryz.func198, Tryz.ntmps198
 go_wp2_with (first | ((with_reducible refine gd 2 ?_); refine bA 2 #[.int .i64 0, .int .i64 0, .int .i64 0, .int .i64 0] 156 ?_; intro gx hg w' hbox hb; have Kgx := Aside0.mk hbox; have GWgx := bg hg HB; have GJgx := gi GWgx; skip; replace HB := bs HB hb; clear hb hbox hg) | ((with_reducible refine gate_callee (f := 175) rfl ?_); refine gB (some 18) Tryz.func175 #[.string a0, .string (⟨#[62]⟩ : ByteArray)] ?_; (with_reducible refine (strings_Cut.calls a0 (⟨#[62]⟩ : ByteArray) s1 s2 s3 _ A1.out).mono ?_); rintro e w' ⟨rfl, hb⟩; refine ⟨_, rfl, ?_⟩; replace Kgx := bk Kgx hb; replace HB := bs HB hb; clear hb) | ((with_reducible refine gate_callee (f := 175) rfl ?_); refine gB (some 24) Tryz.func175 #[.string s2, .string (⟨#[58]⟩ : ByteArray)] ?_; (with_reducible refine (strings_Cut.calls s2 (⟨#[58]⟩ : ByteArray) s4 s5 s6 _ A2.out).mono ?_); rintro e w' ⟨rfl, hb⟩; refine ⟨_, rfl, ?_⟩; replace Kgx := bk Kgx hb; replace HB := bs HB hb; clear hb) | ((with_reducible refine gate_callee (f := 175) rfl ?_); refine gB (some 30) Tryz.func175 #[.string s5, .string (⟨#[35]⟩ : ByteArray)] ?_; (with_reducible refine (strings_Cut.calls s5 (⟨#[35]⟩ : ByteArray) s7 s8 s9 _ A3.out).mono ?_); rintro e w' ⟨rfl, hb⟩; refine ⟨_, rfl, ?_⟩; replace Kgx := bk Kgx hb; replace HB := bs HB hb; clear hb) | ((with_reducible refine gd 12 ?_); refine bA 12 #[.int .i64 0, .int .i64 0, .int .i64 0, .int .i64 0] 205 ?_; intro ga hg w' hbox hb; have Kga := Aside0.mk hbox; have GWga := bg hg HB; have GJga := gi GWga; have Ngxga := b1 Kgx hg; have NIgxga := ni Ngxga; have Ngagx := b2 Kgx hg; have NIgagx := ni Ngagx; replace Kgx := bk Kgx hb; replace HB := bs HB hb; clear hb hbox hg) | ((with_reducible refine gd 38 ?_); refine impl_TxOf.lit 4 #[.string s1, .string s4, .string s7, .string s8] 9 ?_; intro gl hg w' hbox hb; have Kgl := Aside0.mk hbox; have GWgl := bg hg HB; have GJgl := gi GWgl; have Ngxgl := b1 Kgx hg; have NIgxgl := ni Ngxgl; have Nglgx := b2 Kgx hg; have NIglgx := ni Nglgx; replace Kgx := bk Kgx hb; have Ngagl := b1 Kga hg; have NIgagl := ni Ngagl; have Nglga := b2 Kga hg; have NIglga := ni Nglga; replace Kga := bk Kga hb; replace HB := bs HB hb; clear hb hbox hg))
 go_loopg [40] 5 (fun kq v40 w' => ∃ (i_ : Nat), v40 = .int .i64 (i_ : Int) ∧ Aside0 (kq + i_ = 5 ∧ i_ ≤ 4) ∧ Aside0 (w'.heap[gx]? = some (.cells #[.int .i64 0, .int .i64 0, .int .i64 0, .int .i64 0] 156 (0, 0))) ∧ Aside0 (w'.heap[ga]? = some (.cells (impl_TxOf.arr n0 n1 n2 n3 i_) 205 (0, 0))) ∧ Aside0 (w'.heap[gl]? = some (.cells #[.string s1, .string s4, .string s7, .string s8] 9 (0, 0))) ∧ Aside0 (Below w.heap.size w w'))
 case atStart => exact ⟨0, rfl, ⟨by omega⟩, Kgx, ⟨kI Kga.out⟩, ⟨kI Kgl.out⟩, ⟨bI HB.out⟩⟩
 case round =>
  obtain ⟨i_, rfl, HI_, Kgx, Kga, Kgl, HB⟩ := hrel
  have hi5 : i_ = 0 ∨ i_ = 1 ∨ i_ = 2 ∨ i_ = 3 ∨ i_ = 4 := by have := HI_.out; omega
  rcases hi5 with rfl | rfl | rfl | rfl | rfl
  ·
   replace Kga : Aside0 (wr.heap[ga]? = some (.cells #[.int .i64 0, .int .i64 0, .int .i64 0, .int .i64 0] 205 (0, 0))) := Kga; obtain ⟨gk, rfl⟩ : ∃ q, gk = q + 1 := ⟨gk - 1, y0_21⟩; have hcs := bc0 Kgl.out; have hfs := blk_frozen Kgl.out 0; have hfa := blk_frozen Kga.out 0
   go_wp2_with (first | ((with_reducible refine gate_callee (f := 176) rfl ?_); refine gB (some 48) Tryz.func176 #[.string s1] ?_; (with_reducible refine (impl_Number.calls k s1 n0 m0 _ A4.out).mono ?_); rintro e w' ⟨rfl, hb⟩; refine ⟨_, rfl, ?_⟩; replace Kgx := bk Kgx hb; replace Kgl := bk Kgl hb; replace Kga := bk Kga hb; replace HB := bs HB hb; clear hb hfa; have hfa := blk_frozen Kga.out 0; have hca := bc0 Kga.out))
   go_roundg gk
   case measure => omega
   case rel => exact ⟨1, y0_19, ⟨y0_21⟩, ⟨gI Kgx.out⟩, ⟨pI Kga⟩, ⟨gI Kgl.out⟩, ⟨bI HB.out⟩⟩
  ·
   replace Kga : Aside0 (wr.heap[ga]? = some (.cells #[.int .i64 n0, .int .i64 0, .int .i64 0, .int .i64 0] 205 (0, 0))) := Kga; obtain ⟨gk, rfl⟩ : ∃ q, gk = q + 1 := ⟨gk - 1, y0_21⟩; have hcs := bc1 Kgl.out; have hfs := blk_frozen Kgl.out 1; have hfa := blk_frozen Kga.out 1
   go_wp2_with (first | ((with_reducible refine gate_callee (f := 176) rfl ?_); refine gB (some 48) Tryz.func176 #[.string s4] ?_; (with_reducible refine (impl_Number.calls k s4 n1 m1 _ A5.out).mono ?_); rintro e w' ⟨rfl, hb⟩; refine ⟨_, rfl, ?_⟩; replace Kgx := bk Kgx hb; replace Kgl := bk Kgl hb; replace Kga := bk Kga hb; replace HB := bs HB hb; clear hb hfa; have hfa := blk_frozen Kga.out 1; have hca := bc1 Kga.out))
   go_roundg gk
   case measure => omega
   case rel => exact ⟨2, y0_19, ⟨y0_21⟩, ⟨gI Kgx.out⟩, ⟨pI Kga⟩, ⟨gI Kgl.out⟩, ⟨bI HB.out⟩⟩
  ·
   replace Kga : Aside0 (wr.heap[ga]? = some (.cells #[.int .i64 n0, .int .i64 n1, .int .i64 0, .int .i64 0] 205 (0, 0))) := Kga; obtain ⟨gk, rfl⟩ : ∃ q, gk = q + 1 := ⟨gk - 1, y0_21⟩; have hcs := bc2 Kgl.out; have hfs := blk_frozen Kgl.out 2; have hfa := blk_frozen Kga.out 2
   go_wp2_with (first | ((with_reducible refine gate_callee (f := 176) rfl ?_); refine gB (some 48) Tryz.func176 #[.string s7] ?_; (with_reducible refine (impl_Number.calls k s7 n2 m2 _ A6.out).mono ?_); rintro e w' ⟨rfl, hb⟩; refine ⟨_, rfl, ?_⟩; replace Kgx := bk Kgx hb; replace Kgl := bk Kgl hb; replace Kga := bk Kga hb; replace HB := bs HB hb; clear hb hfa; have hfa := blk_frozen Kga.out 2; have hca := bc2 Kga.out))
   go_roundg gk
   case measure => omega
   case rel => exact ⟨3, y0_19, ⟨y0_21⟩, ⟨gI Kgx.out⟩, ⟨pI Kga⟩, ⟨gI Kgl.out⟩, ⟨bI HB.out⟩⟩
  ·
   replace Kga : Aside0 (wr.heap[ga]? = some (.cells #[.int .i64 n0, .int .i64 n1, .int .i64 n2, .int .i64 0] 205 (0, 0))) := Kga; obtain ⟨gk, rfl⟩ : ∃ q, gk = q + 1 := ⟨gk - 1, y0_21⟩; have hcs := bc3 Kgl.out; have hfs := blk_frozen Kgl.out 3; have hfa := blk_frozen Kga.out 3
   go_wp2_with (first | ((with_reducible refine gate_callee (f := 176) rfl ?_); refine gB (some 48) Tryz.func176 #[.string s8] ?_; (with_reducible refine (impl_Number.calls k s8 n3 m3 _ A7.out).mono ?_); rintro e w' ⟨rfl, hb⟩; refine ⟨_, rfl, ?_⟩; replace Kgx := bk Kgx hb; replace Kgl := bk Kgl hb; replace Kga := bk Kga hb; replace HB := bs HB hb; clear hb hfa; have hfa := blk_frozen Kga.out 3; have hca := bc3 Kga.out))
   go_roundg gk
   case measure => omega
   case rel => exact ⟨4, y0_19, ⟨y0_21⟩, ⟨gI Kgx.out⟩, ⟨pI Kga⟩, ⟨gI Kgl.out⟩, ⟨bI HB.out⟩⟩
  replace Kga : Aside0 (wr.heap[ga]? = some (.cells #[.int .i64 n0, .int .i64 n1, .int .i64 n2, .int .i64 n3] 205 (0, 0))) := Kga; have H := HH.out; clear HH; obtain ⟨hca0, hca1, hca2, hca3, hfa0, hfa1, hfa2, hfa3⟩ := cs4 Kga; obtain ⟨hcx0, hcx1, hcx2, hcx3, hfx0, hfx1, hfx2, hfx3⟩ := cs4 Kgx
  by_cases cb : bk_ = true
  ·
   subst cb
   rw [if_pos rfl] at H
   obtain ⟨t_, A90, H⟩ := Option.bind_eq_some_iff.mp H; have A9 := Aside0.mk A90; clear A90
   by_cases ct : t_.toList = a0.toList
   ·
    rw [if_pos ct] at H
    have ctb0 : (t_.toList == a0.toList) = true := beq_iff_eq.mpr ct; have ctb1 : (t_.toList != a0.toList) = false := bne_eq_false_iff_eq.mpr ct; clear ct
    simp only [Option.some.injEq, Prod.mk.injEq] at H
    obtain ⟨rfl, rfl, rfl, rfl, rfl⟩ := H
    go_wp2_with (first | ((with_reducible refine gd 15 ?_); refine bA 15 #[.int .i64 0, .int .i64 0, .int .i64 0, .int .i64 0] 156 ?_; intro gv hg w' hbox hb; have Kgv := Aside0.mk hbox; have GWgv := bg hg HB; have GJgv := gi GWgv; have Ngxgv := b1 Kgx hg; have NIgxgv := ni Ngxgv; have Ngvgx := b2 Kgx hg; have NIgvgx := ni Ngvgx; replace Kgx := bk Kgx hb; have Ngagv := b1 Kga hg; have NIgagv := ni Ngagv; have Ngvga := b2 Kga hg; have NIgvga := ni Ngvga; replace Kga := bk Kga hb; replace HB := bs HB hb; clear hb hbox hg; obtain ⟨hcv0, hcv1, hcv2, hcv3, hfv0, hfv1, hfv2, hfv3⟩ := cs4 Kgv; have hn1 := Ngxgv.out; have hn2 := Ngvgx.out) | (go_at_call 206; (with_reducible refine (impl_TxOk.calls n0 n1 n2 n3 true _ A8.out).mono ?_); rintro e w' ⟨rfl, hb⟩; replace Kgx := Aside0.mk (blk_below (gI Kgx.out) hb); replace Kgv := bp Kgv hb #[.int .i64 n0, .int .i64 n1, .int .i64 n2, .int .i64 n3]; replace HB := bs HB hb; clear hb; obtain ⟨hcx0, hcx1, hcx2, hcx3, hfx0, hfx1, hfx2, hfx3⟩ := cs4 Kgx; obtain ⟨hcv0, hcv1, hcv2, hcv3, hfv0, hfv1, hfv2, hfv3⟩ := cs4 Kgv) | (go_at_call 207; (with_reducible refine (impl_TxText.calls n0 n1 n2 n3 t_ _ A9.out).mono ?_); rintro e w' ⟨rfl, hb⟩; replace Kgx := Aside0.mk (blk_below (gI Kgx.out) hb); replace Kgv := bp Kgv hb #[.int .i64 n0, .int .i64 n1, .int .i64 n2, .int .i64 n3]; replace HB := bs HB hb; clear hb; obtain ⟨hcx0, hcx1, hcx2, hcx3, hfx0, hfx1, hfx2, hfx3⟩ := cs4 Kgx; obtain ⟨hcv0, hcv1, hcv2, hcv3, hfv0, hfv1, hfv2, hfv3⟩ := cs4 Kgv))
    refine bodyPost_ret (results_ct rfl _ _ gx 156 #[.int .i64 n0, .int .i64 n1, .int .i64 n2, .int .i64 n3] (0, 0) _ rfl (pI Kgx) Tryz.underlying156 rfl (by kernel_rfl)) rfl ?_
    exact ⟨y0_17, bI HB.out⟩
   rw [if_neg ct] at H
   have ctb0 : (t_.toList == a0.toList) = false := beq_eq_false_iff_ne.mpr ct; have ctb1 : (t_.toList != a0.toList) = true := bne_iff_ne.mpr ct
   simp only [Option.some.injEq, Prod.mk.injEq] at H
   obtain ⟨rfl, rfl, rfl, rfl, rfl⟩ := H
   go_wp2_with (first | ((with_reducible refine gd 15 ?_); refine bA 15 #[.int .i64 0, .int .i64 0, .int .i64 0, .int .i64 0] 156 ?_; intro gv hg w' hbox hb; have Kgv := Aside0.mk hbox; have GWgv := bg hg HB; have GJgv := gi GWgv; have Ngxgv := b1 Kgx hg; have NIgxgv := ni Ngxgv; have Ngvgx := b2 Kgx hg; have NIgvgx := ni Ngvgx; replace Kgx := bk Kgx hb; have Ngagv := b1 Kga hg; have NIgagv := ni Ngagv; have Ngvga := b2 Kga hg; have NIgvga := ni Ngvga; replace Kga := bk Kga hb; replace HB := bs HB hb; clear hb hbox hg; obtain ⟨hcv0, hcv1, hcv2, hcv3, hfv0, hfv1, hfv2, hfv3⟩ := cs4 Kgv; have hn1 := Ngxgv.out; have hn2 := Ngvgx.out) | (go_at_call 206; (with_reducible refine (impl_TxOk.calls n0 n1 n2 n3 true _ A8.out).mono ?_); rintro e w' ⟨rfl, hb⟩; replace Kgx := Aside0.mk (blk_below (gI Kgx.out) hb); replace Kgv := bp Kgv hb #[.int .i64 n0, .int .i64 n1, .int .i64 n2, .int .i64 n3]; replace HB := bs HB hb; clear hb; obtain ⟨hcx0, hcx1, hcx2, hcx3, hfx0, hfx1, hfx2, hfx3⟩ := cs4 Kgx; obtain ⟨hcv0, hcv1, hcv2, hcv3, hfv0, hfv1, hfv2, hfv3⟩ := cs4 Kgv) | (go_at_call 207; (with_reducible refine (impl_TxText.calls n0 n1 n2 n3 t_ _ A9.out).mono ?_); rintro e w' ⟨rfl, hb⟩; replace Kgx := Aside0.mk (blk_below (gI Kgx.out) hb); replace Kgv := bp Kgv hb #[.int .i64 n0, .int .i64 n1, .int .i64 n2, .int .i64 n3]; replace HB := bs HB hb; clear hb; obtain ⟨hcx0, hcx1, hcx2, hcx3, hfx0, hfx1, hfx2, hfx3⟩ := cs4 Kgx; obtain ⟨hcv0, hcv1, hcv2, hcv3, hfv0, hfv1, hfv2, hfv3⟩ := cs4 Kgv))
   refine bodyPost_ret (results_ct rfl _ _ gx 156 #[.int .i64 0, .int .i64 0, .int .i64 0, .int .i64 0] (0, 0) _ rfl (pI Kgx) Tryz.underlying156 rfl (by kernel_rfl)) rfl ?_
   exact ⟨y0_17, bI HB.out⟩
  replace cb := Bool.eq_false_iff.mpr cb; subst cb
  rw [if_neg Bool.false_ne_true] at H
  simp only [Option.some.injEq, Prod.mk.injEq] at H
  obtain ⟨rfl, rfl, rfl, rfl, rfl⟩ := H
  go_wp2_with (first | ((with_reducible refine gd 15 ?_); refine bA 15 #[.int .i64 0, .int .i64 0, .int .i64 0, .int .i64 0] 156 ?_; intro gv hg w' hbox hb; have Kgv := Aside0.mk hbox; have GWgv := bg hg HB; have GJgv := gi GWgv; have Ngxgv := b1 Kgx hg; have NIgxgv := ni Ngxgv; have Ngvgx := b2 Kgx hg; have NIgvgx := ni Ngvgx; replace Kgx := bk Kgx hb; have Ngagv := b1 Kga hg; have NIgagv := ni Ngagv; have Ngvga := b2 Kga hg; have NIgvga := ni Ngvga; replace Kga := bk Kga hb; replace HB := bs HB hb; clear hb hbox hg; obtain ⟨hcv0, hcv1, hcv2, hcv3, hfv0, hfv1, hfv2, hfv3⟩ := cs4 Kgv; have hn1 := Ngxgv.out; have hn2 := Ngvgx.out) | (go_at_call 206; (with_reducible refine (impl_TxOk.calls n0 n1 n2 n3 false _ A8.out).mono ?_); rintro e w' ⟨rfl, hb⟩; replace Kgx := Aside0.mk (blk_below (gI Kgx.out) hb); replace Kgv := bp Kgv hb #[.int .i64 n0, .int .i64 n1, .int .i64 n2, .int .i64 n3]; replace HB := bs HB hb; clear hb; obtain ⟨hcx0, hcx1, hcx2, hcx3, hfx0, hfx1, hfx2, hfx3⟩ := cs4 Kgx; obtain ⟨hcv0, hcv1, hcv2, hcv3, hfv0, hfv1, hfv2, hfv3⟩ := cs4 Kgv))
  refine bodyPost_ret (results_ct rfl _ _ gx 156 #[.int .i64 0, .int .i64 0, .int .i64 0, .int .i64 0] (0, 0) _ rfl (pI Kgx) Tryz.underlying156 rfl (by kernel_rfl)) rfl ?_
  exact ⟨y0_17, bI HB.out⟩
end Go.Proofs.YtdmjhgogljhfkaaGreatDoor.PFnParts
