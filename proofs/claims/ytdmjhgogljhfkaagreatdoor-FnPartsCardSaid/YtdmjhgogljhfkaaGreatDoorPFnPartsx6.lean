import Derived.Test.YtdmjhgogljhfkaaGreatDoorPFnPartsx0
namespace Go.Proofs.YtdmjhgogljhfkaaGreatDoor.PFnParts
open Go.RowKit Go.Proofs.YtdmjhgogljhfkaaGreatDoorW.PrintWords Go.Proofs.YtdmjhgogljhfkaaGreatDoorW.PrintLast Go.Proofs.YtdmjhgogljhfkaaGreatDoorW.PrintMore
attribute [local go_sem] max2_int min2_int max_two min_two max_three min_three max_four min_four
attribute [local go_sem] cell_in frozen_in cell_g cell_p cell_r cell_q
set_option synthInstance.maxSize 1000000
set_option synthInstance.maxHeartbeats 2000000
set_option linter.unusedVariables false
set_option linter.unusedSimpArgs false
set_option maxHeartbeats 8000000
set_option maxRecDepth 100000
def slices_Index_int_int.l0 : Nat → List Int → Int → Int → Int → Option (Int)
 | 0, _, _, _, _ => none
 | k + 1, x0, x1, x7, x8 => if x8 < x7 then (if 0 ≤ x8 then (if x8 < (x0.length : Int) then (if x1 = (rd x0 x8) then (some x8) else (slices_Index_int_int.l0 k x0 x1 x7 (wrap64 (x8 + 1)))) else (none)) else (none)) else (some (-1))
def slices_Index_int_int.f (k : Nat) (l0 : List Int) (a1 : Int) : Option (Int) := slices_Index_int_int.l0 k l0 a1 (l0.length : Int) 0
theorem slices_Index_int_int.calls (k : Nat) (A0 : Option Addr) (c0 : Nat) (l0 : List Int) (a1 : Int) (r : Int) (w : World) (hr0 : Kd.C (Kd.int .i64) w A0 l0.length l0) (hc0 : l0.length ≤ c0) (h : slices_Index_int_int.f k l0 a1 = some r) :
  Calls Tryz.prog 182 #[.slice A0 l0.length c0, .int .i64 a1] w fun e w' => e = .returned (.int .i64 r) ∧ Drawn0 w w' := by
 have HR0 := Aside0.mk hr0; have HC0 := Aside0.mk hc0; clear hr0 hc0; have H := h; unfold slices_Index_int_int.f at H; clear h; have H' := Aside0.mk H; clear H
 go_enter Tryz.func182, Tryz.ntmps182
 go_wp2
 go_loopg [8] k (fun kq v8 w' => ∃ (x8_1 : Int), v8 = .int .i64 x8_1 ∧ Aside0 (slices_Index_int_int.l0 kq l0 a1 (l0.length : Int) x8_1 = some r) ∧ Aside0 (kq ≤ k) ∧ Drawn0 w w')
 case atStart => exact ⟨(0), y0_17, H', ⟨Nat.le_refl _⟩, y0_15⟩
 case round =>
  clear H'
  try clear c1
  try clear p2
  obtain ⟨x8_1, rfl, HA, HK1, ⟨m1, rfl⟩⟩ := hrel; cases gk with
  | zero => exact absurd HA.out (by simp [slices_Index_int_int.l0])
  | succ k1 =>
   have H := HA.out; clear HA
   simp only [slices_Index_int_int.l0] at H
   by_cases c3 : x8_1 < (l0.length : Int)
   ·
    rw [if_pos c3] at H
    have c3b0 : decide (x8_1 < (l0.length : Int)) = true := decide_eq_true c3; clear c3
    by_cases c4 : 0 ≤ x8_1
    rotate_left
    ·
     rw [if_neg c4] at H
     exact absurd H (by simp)
    rw [if_pos c4] at H
    have c4b0 : decide (0 ≤ x8_1) = true := decide_eq_true c4; clear c4
    by_cases c5 : x8_1 < (l0.length : Int)
    rotate_left
    ·
     rw [if_neg c5] at H
     exact absurd H (by simp)
    rw [if_pos c5] at H
    have c5b0 : decide (x8_1 < (l0.length : Int)) = true := decide_eq_true c5; clear c5
    by_cases c6 : a1 = (rd l0 x8_1)
    ·
     rw [if_pos c6] at H
     have c6b0 : (a1 == (rd l0 x8_1)) = true := beq_iff_eq.mpr c6; have c6b1 : (a1 != (rd l0 x8_1)) = false := bne_eq_false_iff_eq.mpr c6; clear c6; obtain rfl := Option.some.inj H; have p359 : 0 ≤ (x8_1 : Int) := of_decide_eq_true y0_16; have q359 : x8_1 < (l0.length : Int) := of_decide_eq_true y0_16; obtain ⟨ad359, e359, hx359_0⟩ := Kd.at_int HR0.out x8_1 p359 q359; cases e359; replace p359 := eq_true p359; replace q359 := eq_true q359
     go_wp2
     go_ret
     exact ⟨y0_17, y0_15⟩
    rw [if_neg c6] at H
    have c6b0 : (a1 == (rd l0 x8_1)) = false := beq_eq_false_iff_ne.mpr c6; have c6b1 : (a1 != (rd l0 x8_1)) = true := bne_iff_ne.mpr c6; have H' := Aside0.mk H; clear H; have p359 : 0 ≤ (x8_1 : Int) := of_decide_eq_true y0_16; have q359 : x8_1 < (l0.length : Int) := of_decide_eq_true y0_16; obtain ⟨ad359, e359, hx359_0⟩ := Kd.at_int HR0.out x8_1 p359 q359; cases e359; replace p359 := eq_true p359; replace q359 := eq_true q359
    go_wp2
    go_roundg k1
    case measure => have := HK1.out; omega
    case rel => exact ⟨(wrap64 (x8_1 + 1)), y0_17, H', ⟨y0_20⟩, y0_15⟩
   rw [if_neg c3] at H
   have c3b0 : decide (x8_1 < (l0.length : Int)) = false := decide_eq_false c3; clear c3; obtain rfl := Option.some.inj H
   go_wp2
   go_ret
   exact ⟨y0_17, y0_15⟩
def slices_Contains_int_int.f (k : Nat) (l0 : List Int) (a1 : Int) : Option (Bool) := (slices_Index_int_int.f k l0 a1).bind fun t360 => (some (decide (t360 ≥ 0)))
theorem slices_Contains_int_int.calls (k : Nat) (A0 : Option Addr) (c0 : Nat) (l0 : List Int) (a1 : Int) (r : Bool) (w : World) (hr0 : Kd.C (Kd.int .i64) w A0 l0.length l0) (hc0 : l0.length ≤ c0) (h : slices_Contains_int_int.f k l0 a1 = some r) :
  Calls Tryz.prog 154 #[.slice A0 l0.length c0, .int .i64 a1] w fun e w' => e = .returned (.bool r) ∧ Drawn0 w w' := by
 have HR0 := Aside0.mk hr0; have HC0 := Aside0.mk hc0; clear hr0 hc0
 have H := h; unfold slices_Contains_int_int.f at H
 clear h; obtain ⟨t360, A3, H⟩ := oB H; (try dsimp only at H); obtain rfl := Option.some.inj H
 go_enter Tryz.func154, Tryz.ntmps154
 go_wp2_with (first | ((with_reducible refine gate_callee (f := 182) rfl ?_); refine gB (some 7) Tryz.func182 #[.slice A0 l0.length c0, .int .i64 a1] ?_; (with_reducible refine (slices_Index_int_int.calls k _ _ l0 a1 t360 _ ?side1 ?side2 A3.out).mono ?_); (case side1 => exact cI HR0.out); (case side2 => exact HC0.out); rintro e w' ⟨rfl, ⟨nd, rfl⟩⟩; refine ⟨_, rfl, ?_⟩))
 go_ret
 exact ⟨y0_17, y0_15⟩
def impl_SetHas.f (k : Nat) (l0 : List Int) (a1 : Int) : Option (Bool) := (slices_Contains_int_int.f k l0 a1).bind fun t361 => (some t361)
theorem impl_SetHas.calls (k : Nat) (A0 : Option Addr) (c0 : Nat) (l0 : List Int) (a1 : Int) (r : Bool) (w : World) (hr0 : Kd.C (Kd.int .i64) w A0 l0.length l0) (hc0 : l0.length ≤ c0) (h : impl_SetHas.f k l0 a1 = some r) :
  Calls Tryz.prog 116 #[.slice A0 l0.length c0, .int .i64 a1] w fun e w' => e = .returned (.bool r) ∧ Drawn0 w w' := by
 have HR0 := Aside0.mk hr0; have HC0 := Aside0.mk hc0; clear hr0 hc0
 have H := h; unfold impl_SetHas.f at H
 clear h; obtain ⟨t361, A3, H⟩ := oB H; (try dsimp only at H); obtain rfl := Option.some.inj H
 go_enter Tryz.func116, Tryz.ntmps116
 go_wp2_with (first | ((with_reducible refine gate_callee (f := 154) rfl ?_); refine gB (some 7) Tryz.func154 #[.slice A0 l0.length c0, .int .i64 a1] ?_; (with_reducible refine (slices_Contains_int_int.calls k _ _ l0 a1 t361 _ ?side1 ?side2 A3.out).mono ?_); (case side1 => exact cI HR0.out); (case side2 => exact HC0.out); rintro e w' ⟨rfl, ⟨nd, rfl⟩⟩; refine ⟨_, rfl, ?_⟩))
 go_ret
 exact ⟨y0_17, y0_15⟩
def impl_copyInts.f (l0 : List Int) : Option (List Int) := if ([] : List Int).length + l0.length < 17592186044416 then (some (([] : List Int) ++ l0)) else (none)
theorem impl_copyInts.calls (A0 : Option Addr) (c0 : Nat) (l0 : List Int) (r : List Int) (w : World) (hr0 : Kd.C (Kd.int .i64) w A0 l0.length l0) (hc0 : l0.length ≤ c0) (h : impl_copyInts.f l0 = some r) :
  Calls Tryz.prog 140 #[.slice A0 l0.length c0] w fun e w' => ∃ v0_ : Value, e = .returned (v0_) ∧ Kd.R (Kd.int .i64) 3 w' w.heap.size (fun _ => True) v0_ r ∧ Below w.heap.size w w' := by
 have HR0 := Aside0.mk hr0; have HC0 := Aside0.mk hc0; clear hr0 hc0; have HB := Aside0.mk (Below.refl w.heap.size w); have H := h; unfold impl_copyInts.f at H; clear h
 by_cases c2 : ([] : List Int).length + l0.length < 17592186044416
 ·
  rw [if_pos c2] at H
  have LMc2 := Aside0.mk c2; clear c2; obtain ⟨y362, hy362⟩ : ∃ y_ : List Int, y_ = (([] : List Int) ++ l0) := ⟨_, rfl⟩
  replace H : (some y362) = some r := by first | (rw [hy362]; with_reducible exact H) | (rw [hy362]; with_reducible exact (Option.bind_some _ _).symm.trans H) | (rw [hy362]; exact H) | exact H
  have Ny362 := Aside0.mk hy362; clear hy362; obtain rfl := Option.some.inj H
  go_enter Tryz.func140, Tryz.ntmps140
  go_wp2_with (first | ((with_reducible refine gate_builtin (b := .append) (xs := #[.const (.slice none 0 0), .tmp 3]) rfl ?_); at_builtin; refine gR (w1 := w) (w3 := w) (w4 := w) (Kd.int .i64) (.const (.slice none 0 0)) (.tmp 3) 25 3 (.int .i64 0) 8 w Ny362 ⟨Kd.R_nil _ _ _ _ _⟩ (pC HR0) (by have := LMc2.out; omega) ?_ (ht := Tryz.underlying25) (hinfo := info3); intro Ao363 co363 w3 _ _ HO364))
  go_ret
  exact ⟨_, y0_17, rR HO364, UpW.out⟩
 rw [if_neg c2] at H
 exact absurd H (by simp)
def slices_Reverse_int_int.l0 : Nat → List Int → Int → Int → Option (List Int)
 | 0, _, _, _ => none
 | k + 1, x0, x2, x3 => if x2 < x3 then (if 0 ≤ x3 then (if x3 < (x0.length : Int) then (if 0 ≤ x2 then (if x2 < (x0.length : Int) then (slices_Reverse_int_int.l0 k ((x0.set (x2 : Int).toNat (rd x0 x3)).set (x3 : Int).toNat (rd x0 x2)) (wrap64 (x2 + 1)) (wrap64 (x3 - 1))) else (none)) else (none)) else (none)) else (none)) else (some x0)
def slices_Reverse_int_int.f (k : Nat) (l0 : List Int) : Option (List Int) := slices_Reverse_int_int.l0 k l0 0 (wrap64 ((l0.length : Int) - 1))
def slices_Reverse_int_int.T3 : Bool × List (List Nat × List Nat) := (true, [([], []), ([], []), ([], []), ([], []), ([], []), ([], []), ([4, 5], [4, 5]), ([6], [6]), ([], []), ([], []), ([8, 9], [8, 9]), ([10], [10]), ([0, 1, 0, 1, 4, 5, 6, 7, 11], [0, 1]), ([12, 7, 0, 1, 4, 5, 6, 7, 11], [7, 12]), ([2, 3, 0, 1, 2, 3, 4, 5, 6, 7, 8, 9, 10, 11, 12, 13], [2, 3]), ([14, 11, 13, 0, 1, 2, 3, 4, 5, 6, 7, 8, 9, 10, 11, 12, 13], [11, 14])])
def slices_Reverse_int_int.B3 : List Nat := [0, 0, 0, 0, 0, 0, 48, 112, 0, 0, 768, 1792, 4083, 8179, 16383, 32767]
theorem slices_Reverse_int_int.tab3 : rtab .any (opsOf Tryz.f208 3) = slices_Reverse_int_int.T3 := by kernel_rfl
theorem slices_Reverse_int_int.bits3 : waitsOk slices_Reverse_int_int.T3.2 slices_Reverse_int_int.B3 = true := by kernel_rfl
theorem slices_Reverse_int_int.calls (k : Nat) (P0_ : Nat → Prop) (u9000_ : Value) (l0 : List Int) (r : List Int) (w0 w : World) (hB : Below w0.heap.size w0 w) (ho0 : Kd.R (Kd.int .i64) 3 w w0.heap.size P0_ u9000_ l0) (h : slices_Reverse_int_int.f k l0 = some r) :
  Calls Tryz.prog 208 #[u9000_] w fun e w' => e = .returned (.tuple #[]) ∧ Kd.R (Kd.int .i64) 3 w' w0.heap.size (fun k_ => (P0_ k_ ∨ w.heap.size ≤ k_)) u9000_ r ∧ Below w0.heap.size w0 w' ∧ Kept w w' (fun k_ => P0_ k_) := by
 have HO0 := Aside0.mk (show Kd.R (Kd.int .i64) 3 w w0.heap.size (fun k_ => (P0_ k_ ∨ w.heap.size ≤ k_)) u9000_ l0 from Kd.R_mono ho0 (fun k_ hk => (.inl hk)))
 have HK := Aside0.mk (Kept.refl w (fun k_ => P0_ k_))
 have HW0 := Aside0.mk hB.size; have HB := Aside0.mk hB; clear hB; have H := h; unfold slices_Reverse_int_int.f at H; clear h; have H' := Aside0.mk H; clear H; obtain ⟨Ao2, co2, eo2⟩ := Kd.R_slice HO0.out; subst eo2
 go_enter Tryz.func208, Tryz.ntmps208
 go_wp2
 go_loopg [2, 3] k (fun kq v2 v3 w' => ∃ (x0_1 : List Int) (x2_1 : Int) (x3_1 : Int), v2 = .int .i64 x2_1 ∧ v3 = .int .i64 x3_1 ∧ Aside0 (slices_Reverse_int_int.l0 kq x0_1 x2_1 x3_1 = some r) ∧ Aside0 (kq ≤ k) ∧ Aside0 (Kd.R (Kd.int .i64) 3 w' w0.heap.size (fun k_ => (P0_ k_ ∨ w.heap.size ≤ k_)) (.slice Ao2 l0.length co2) x0_1) ∧ Aside0 (Kept w w' (fun k_ => P0_ k_)) ∧ Aside0 (Below w0.heap.size w0 w'))
 case atStart => exact ⟨(l0), (0), (wrap64 ((l0.length : Int) - 1)), y0_17, y0_17, H', ⟨Nat.le_refl _⟩, ⟨by (with_reducible repeat (first | apply Kd.R_alloc | apply Kd.R_drewN | apply Kd.R_drew)); exact HO0.out⟩, ⟨by repeat (first | (with_reducible first | exact HK.out | apply Kept.alloc | apply Kept.drewN | apply Kept.drew) | exact HK.out)⟩, ⟨bI HB.out⟩⟩
 case round =>
  clear H'
  try clear c2
  try clear p2
  obtain ⟨x0_1, x2_1, x3_1, rfl, rfl, HA, HK1, HO_0, HK, HB⟩ := hrel; have hl0_1 := (Kd.R_reads' HO_0.out).1
  rw [hl0_1] at HO_0
  (try simp only [hl0_1])
  cases gk with
  | zero => exact absurd HA.out (by simp [slices_Reverse_int_int.l0])
  | succ k1 =>
   have H := HA.out; clear HA
   simp only [slices_Reverse_int_int.l0] at H
   by_cases c3 : x2_1 < x3_1
   ·
    rw [if_pos c3] at H
    have c3b0 : decide (x2_1 < x3_1) = true := decide_eq_true c3; clear c3
    by_cases c4 : 0 ≤ x3_1
    rotate_left
    ·
     rw [if_neg c4] at H
     exact absurd H (by simp)
    rw [if_pos c4] at H
    have c4b0 : decide (0 ≤ x3_1) = true := decide_eq_true c4; clear c4
    by_cases c5 : x3_1 < (x0_1.length : Int)
    rotate_left
    ·
     rw [if_neg c5] at H
     exact absurd H (by simp)
    rw [if_pos c5] at H
    have c5b0 : decide (x3_1 < (x0_1.length : Int)) = true := decide_eq_true c5; clear c5
    by_cases c6 : 0 ≤ x2_1
    rotate_left
    ·
     rw [if_neg c6] at H
     exact absurd H (by simp)
    rw [if_pos c6] at H
    have c6b0 : decide (0 ≤ x2_1) = true := decide_eq_true c6; clear c6
    by_cases c7 : x2_1 < (x0_1.length : Int)
    rotate_left
    ·
     rw [if_neg c7] at H
     exact absurd H (by simp)
    rw [if_pos c7] at H
    have c7b0 : decide (x2_1 < (x0_1.length : Int)) = true := decide_eq_true c7; clear c7; obtain ⟨y367, hy367⟩ : ∃ y_ : List Int, y_ = (x0_1.set (x2_1 : Int).toNat (rd x0_1 x3_1)) := ⟨_, rfl⟩
    replace H : (slices_Reverse_int_int.l0 k1 (y367.set (x3_1 : Int).toNat (rd x0_1 x2_1)) (wrap64 (x2_1 + 1)) (wrap64 (x3_1 - 1))) = some r := by first | (rw [hy367]; with_reducible exact H) | (rw [hy367]; with_reducible exact (Option.bind_some _ _).symm.trans H) | (rw [hy367]; exact H) | exact H
    have Ny367 := Aside0.mk hy367; clear hy367; obtain ⟨y368, hy368⟩ : ∃ y_ : List Int, y_ = (y367.set (x3_1 : Int).toNat (rd x0_1 x2_1)) := ⟨_, rfl⟩
    replace H : (slices_Reverse_int_int.l0 k1 y368 (wrap64 (x2_1 + 1)) (wrap64 (x3_1 - 1))) = some r := by first | (rw [hy368]; with_reducible exact H) | (rw [hy368]; with_reducible exact (Option.bind_some _ _).symm.trans H) | (rw [hy368]; exact H) | exact H
    have Ny368 := Aside0.mk hy368; clear hy368; have H' := Aside0.mk H; clear H
    try go_wp2
    replace HO_0 := Aside0.mk (Kd.R_drew HO_0.out); replace HK := Aside0.mk (Kept.drew HK.out); replace HB := Aside0.mk (below_drew1 HB.out); have p365 : 0 ≤ (x3_1 : Int) := of_decide_eq_true y0_16; have q365 : x3_1 < (x0_1.length : Int) := of_decide_eq_true y0_16; obtain ⟨ad365, e365, hx365_0⟩ := Kd.at_int (Kd.R_reads' HO_0.out).2.2 x3_1 p365 q365; cases e365; replace p365 := eq_true p365; replace q365 := eq_true q365; have p366 : 0 ≤ (x2_1 : Int) := of_decide_eq_true y0_16; have q366 : x2_1 < (x0_1.length : Int) := of_decide_eq_true y0_16; obtain ⟨ad366, e366, hx366_0⟩ := Kd.at_int (Kd.R_reads' HO_0.out).2.2 x2_1 p366 q366
    obtain rfl : ad365 = ad366 := (by injection e366)
    replace p366 := eq_true p366; replace q366 := eq_true q366; have p8 : 0 ≤ (x2_1 : Int) := of_decide_eq_true y0_16; have q8 : (x2_1 : Int) < ((x0_1.length : Int) : Int) := of_decide_eq_true y0_16
    obtain ⟨go8, co8, eo8, gb8, gl8, cl8, HG8⟩ := Kd.R_form HO_0.out (by omega)
    (first | cases eo8 | (injection eo8 with ea_ en_ ec_; (first | subst ea_ | (injection ea_ with ea_; subst ea_)); subst ec_; clear en_))
    have GB8 := Aside0.mk gb8; have GG8 := Aside0.mk HG8; clear gb8 gl8 HG8
    have HMgo8 := Aside0.mk (show (P0_ go8 ∨ w.heap.size ≤ go8) from (HO_0.out.1 _ rfl))
    (first | simp only [add_plain] at hx365_0 | skip)
    (first | simp only [add_plain] at hx366_0 | skip)
    obtain ⟨hx8_0, hf8_0⟩ := Kd.R_celln 0 HO_0.out (x2_1 : Int) p8 q8; replace p8 := eq_true p8; replace q8 := eq_true q8; have HP11 := Kd.R_putn HO_0.out (x2_1 : Int) (rd x0_1 x3_1)
    rw [← Ny367.out] at HP11
    have HQ11 := Aside0.mk HP11; clear HP11; have p9 : 0 ≤ (x3_1 : Int) := of_decide_eq_true y0_16; have q9 : (x3_1 : Int) < ((x0_1.length : Int) : Int) := of_decide_eq_true y0_16; obtain ⟨hx9_0, hf9_0⟩ := Kd.R_celln 0 HQ11.out (x3_1 : Int) p9 q9; replace p9 := eq_true p9; replace q9 := eq_true q9; have HP12 := Kd.R_putn HQ11.out (x3_1 : Int) (rd x0_1 x2_1)
    rw [← Ny368.out] at HP12
    have HQ12 := Aside0.mk HP12; clear HP12
    refine start_ (n := 16) (S := fun w' => w'.cell? ⟨go8, (x3_1).toNat, none⟩ = some (.int .i64 (rd x0_1 x3_1)) ∧ w'.cell? ⟨go8, (x2_1).toNat, none⟩ = some (.int .i64 (rd x0_1 x2_1))) (ds := [13, 15]) #[false, false, false, false, false, false, false, false, false, false, false, false, false, false, false, false] (by kernel_rfl) rfl rfl ⟨hx365_0, hx366_0⟩ (fun hHeld => ?_); refine with_tabW slices_Reverse_int_int.tab3 slices_Reverse_int_int.bits3 (fun HT_ HW_ => ?_)
    generalize wr.drew = w10 at HO_0 HK HB GG8 HQ11 HQ12 hf8_0 hf9_0 hx365_0 hx366_0 hx8_0 hx9_0 hHeld ⊢
    refine pA 0 (some 14) (bz 16 1) HT_ ?_
    refine pA 1 (some 15) (bz 16 3) HT_ ?_
    refine pA 2 (some 16) (bz 16 7) HT_ ?_
    refine pA 3 (some 17) (bz 16 15) HT_ ?_
    refine pA 4 (some 18) (bz 16 31) HT_ ?_
    refine pA 5 (some 19) (bz 16 63) HT_ ?_
    refine pA 6 (some 20) (bz 16 127) HT_ ?_
    refine pA 8 (some 22) (bz 16 383) HT_ ?_
    refine pA 9 (some 23) (bz 16 895) HT_ ?_
    refine pA 10 (some 24) (bz 16 1919) HT_ ?_
    refine tA 7 (some 21) (bz 16 2047) HT_ HW_ hHeld ?_
    refine tA 11 (some 25) (bz 16 4095) HT_ HW_ hHeld ?_
    refine pA 12 (some 26) (bz 16 0x1fff) HT_ ?_
    refine last_ (i := 13) (N := none) #[true, true, true, true, true, true, true, true, true, true, true, true, true, true, false, false] rfl rfl (one_of HT_.out (by kernel_rfl)) (by decide) (fun K hK => ?_)
    refine skip_ (w1 := ?_) (by rfl) rfl ?_ ?_
    rotate_left
    ·
     go_simp
     rfl
    refine hK.out _ _ ?_
    clear hK K
    refine pA 14 (some 27) (bz 16 0x7fff) HT_ ?_
    refine last_ (i := 15) (N := none) #[true, true, true, true, true, true, true, true, true, true, true, true, true, true, true, true] rfl rfl (one_of HT_.out (by kernel_rfl)) (by decide) (fun K hK => ?_)
    refine skip_ (w1 := ?_) (by rfl) rfl ?_ ?_
    rotate_left
    ·
     go_simp
     rfl
    refine hK.out _ _ ?_
    clear hK K
    refine done_ (done_of HT_.out (by kernel_rfl)) ?_
    try go_wp2
    (try simp only [← hl0_1])
    go_roundg k1
    case measure => have := HK1.out; omega
    case rel => exact ⟨(y368), (wrap64 (x2_1 + 1)), (wrap64 (x3_1 - 1)), y0_17, y0_17, H', ⟨y0_20⟩, ⟨by (try simp only [hl0_1]); (with_reducible repeat (first | apply Kd.R_alloc | apply Kd.R_drewN | apply Kd.R_drew)); exact HQ12.out⟩, ⟨by repeat (first | (with_reducible first | exact HK.out | apply Kept.alloc | apply Kept.drewN | apply Kept.drew | refine Kept.setCell ?_ HMgo8.out _ | refine Kept.setCell ?_ HMgo8.out _) | exact HK.out)⟩, ⟨by repeat (first | (with_reducible first | exact HB.out | apply below_alloc | apply pw_below_drewN | apply below_drew1 | refine below_set ?_ GB8.out | refine below_set ?_ GB8.out) | exact HB.out)⟩⟩
   rw [if_neg c3] at H
   have c3b0 : decide (x2_1 < x3_1) = false := decide_eq_false c3; clear c3; obtain rfl := Option.some.inj H
   go_wp2
   first | go_end0 | ((try simp only [Exit.inBlock, Exit.then]); refine bodyPost_ret (results_none rfl _ _ _) rfl ?_)
   exact ⟨y0_12, (by first | exact (rI HO_0.out) | (simp only [hl0_1]; exact (rI HO_0.out))), bI HB.out, by repeat (first | (with_reducible first | exact HK.out | apply Kept.alloc | apply Kept.drewN | apply Kept.drew) | exact HK.out)⟩
def impl_SetAdd.at_ (l0 : List Int) (a1 : Int) : Nat := (l0.takeWhile (fun y => decide (y < a1))).length
theorem impl_SetAdd.at_le (l0 : List Int) (a1 : Int) : impl_SetAdd.at_ l0 a1 ≤ l0.length := (List.takeWhile_sublist _).length_le
theorem impl_SetAdd.idx (a1 : Int) : ∀ (l0 : List Int) (n : Nat), Lib.idxByFrom (fun _ y => decide (y ≥ a1)) default l0 n = if impl_SetAdd.at_ l0 a1 = l0.length then -1 else ((n + impl_SetAdd.at_ l0 a1 : Nat) : Int)
 | [], n => rfl
 | y :: r, n => by
  unfold Lib.idxByFrom
  by_cases hy : y ≥ a1
  ·
   rw [if_pos (decide_eq_true hy)]
   have : impl_SetAdd.at_ (y :: r) a1 = 0 := by
    unfold impl_SetAdd.at_
    rw [List.takeWhile_cons_of_neg (by simpa using hy)]; rfl
   rw [this, if_neg (by simp)]; simp
  rw [if_neg (by simpa using hy), impl_SetAdd.idx a1 r (n + 1)]
  have : impl_SetAdd.at_ (y :: r) a1 = impl_SetAdd.at_ r a1 + 1 := by
   unfold impl_SetAdd.at_
   rw [List.takeWhile_cons_of_pos (by simpa using hy)]; rfl
  rw [this, List.length_cons]
  by_cases he : impl_SetAdd.at_ r a1 = r.length
  ·
   rw [if_pos he, if_pos (by omega)]
  rw [if_neg he, if_neg (by omega)]
  congr 1; omega
def impl_SetAdd.f (k : Nat) (l0 : List Int) (a1 : Int) : Option (List Int) := (impl_SetHas.f k l0 a1).bind fun b => (impl_copyInts.f l0).bind fun c => if b = true then some c else some (c.take (impl_SetAdd.at_ l0 a1) ++ a1 :: c.drop (impl_SetAdd.at_ l0 a1))
set_option maxRecDepth 100000 in
theorem impl_SetAdd.find (A0 : Option Addr) (c0 : Nat) (l0 : List Int) (a1 : Int) (g : Nat) (w : World) (hr0 : Kd.C (Kd.int .i64) w A0 l0.length l0) (hg : w.heap[g]? = some (.cells #[.int .i64 a1] 3 (0, 0))) :
  Calls Tryz.prog 168 #[.slice A0 l0.length c0, .func (.func 169) #[] #[.pointer (some ⟨g, 0, none⟩)]] w fun e w' => e = .returned (.int .i64 (if impl_SetAdd.at_ l0 a1 = l0.length then -1 else (impl_SetAdd.at_ l0 a1 : Int))) ∧ ∃ q, w' = w.drewN q := by
 rcases Nat.eq_zero_or_pos l0.length with h0 | h0
 ·
  have hx : l0 = [] := List.length_eq_zero_iff.1 h0; subst hx
  refine (Tryz.slices_IndexFunc_empty (α := Int) A0 c0 _ w).mono ?_
  rintro e w' ⟨rfl, rfl⟩
  exact ⟨rfl, 0, rfl⟩
 obtain ⟨ad, rfl, hc⟩ := hr0.2.2 h0
 have hc' : ∀ j (hj : j < l0.length), w.cell? ((ad.add j)) = some (.int .i64 l0[j]) := by
  intro j hj
  obtain ⟨c, _, hK, hu⟩ := hc j _ (List.getElem?_eq_getElem hj)
  have hK' : c = [Value.int .i64 l0[j]] := hK; subst hK'; have := hu 0 _ rfl
  have e : j * (Kd.int IntKind.i64).sz + 0 = j := by show j * 1 + 0 = j; omega
  rwa [e] at this
 obtain ⟨b, off, sp⟩ := ad
 have hsp : sp = none := by
  cases sp with
  | none => rfl
  | some s =>
   have h1 := hc' 0 h0
   simp [Addr.add, World.cell?] at h1
   split at h1 <;> simp at h1
 subst hsp
 have hc2 : ∀ j, j < l0.length → w.cell? ⟨b, off + j, none⟩ = some (Value.int .i64 l0[j]!) := by
  intro j hj
  have h1 := hc' j hj
  rw [getElem!_pos l0 j hj]
  by_cases hj0 : j = 0
  ·
   subst hj0
   simpa [Addr.add] using h1
  simpa [Addr.add, hj0] using h1
 refine (Tryz.slices_IndexFunc (α := Int) (Value.int .i64) (fun x => decide (x ≥ a1)) 169 #[.pointer (some ⟨g, 0, none⟩)] (fun _ _ => rfl) b off l0.length c0 l0 w (Ins.pred w g a1 hg) (Nat.le_refl _) hr0.2.1 hc2).mono ?_
 rintro e w' ⟨rfl, hq⟩
 refine ⟨?_, hq⟩
 have h1 := impl_SetAdd.idx a1 l0 0
 rw [List.take_length]
 unfold Lib.idxBy
 rw [h1, Nat.zero_add]
theorem impl_SetAdd.find2 (A0 : Option Addr) (c0 : Nat) (l0 : List Int) (a1 : Int) (g : Nat) (w : World) (z : Int) (hr0 : Kd.C (Kd.int .i64) w A0 l0.length l0) (hg : w.heap[g]? = some (.cells #[.int .i64 a1] 3 (0, 0))) (hz : (if impl_SetAdd.at_ l0 a1 = l0.length then -1 else (impl_SetAdd.at_ l0 a1 : Int)) = z) :
  Calls Tryz.prog 168 #[.slice A0 l0.length c0, .func (.func 169) #[] #[.pointer (some ⟨g, 0, none⟩)]] w fun e w' => e = .returned (.int .i64 z) ∧ ∃ q, w' = w.drewN q := by
 subst hz
 exact impl_SetAdd.find A0 c0 l0 a1 g w hr0 hg
section
variable {P : Program} {ops : Array Oper} {rest : List Oper} {o : Oper} {a : Act} {Q : Exit → Act → World → Prop}
theorem impl_SetAdd.lit {W : World} (n : Nat) (cs : Array Value) (t : TypeId)
  (h : ∀ g, g = W.heap.size → ∀ w1, w1.heap[g]? = some (.cells cs t (0, 0)) → Below W.heap.size W w1 → wpList P ops Q rest (a.put o.dst (.slice (some ⟨g, 0, none⟩) n n)) w1)
  (hgd : o.guard = none := by rfl) (hrun : (execOp a.eval o).run P W = .ok (.value (.slice (some ⟨W.heap.size, 0, none⟩) n n)) (W.alloc (.cells cs t (0, 0))) := by first | (go_simp; done) | (go_simp; rfl) | rfl) : wpList P ops Q (o :: rest) a W :=
 Kd.event_run hgd hrun (h _ rfl _ (blk_new W _) (below_alloc (Below.refl _ _) _))
end
section
variable {P : Program} {ops : Array Oper} {o : Oper} {a : Act} {Q : Exit → Act → World → Prop} {Kc : Act → World → Prop}
theorem impl_SetAdd.lit_step {W : World} (n : Nat) (cs : Array Value) (t : TypeId)
  (h : ∀ g, g = W.heap.size → ∀ w1, w1.heap[g]? = some (.cells cs t (0, 0)) → Below W.heap.size W w1 → Kc (a.put o.dst (.slice (some ⟨g, 0, none⟩) n n)) w1)
  (hw : Region.wanted o (yielded ops a.tmps) = true := by rfl) (hrun : (execOp a.eval o).run P W = .ok (.value (.slice (some ⟨W.heap.size, 0, none⟩) n n)) (W.alloc (.cells cs t (0, 0))) := by first | (go_simp; done) | (go_simp; rfl) | rfl) :
  if Region.wanted o (yielded ops a.tmps) = true then Oper.wp P o a W Kc Q else Kc (a.put o.dst undef) W :=
 event_step hw hrun (h _ rfl _ (blk_new W _) (below_alloc (Below.refl _ _) _))
end
section
variable {P : Program} {ops : Array Oper} {Q : Exit → Act → World → Prop} {md : Region.Mode} {S : World → Prop} {ds : List Nat}
theorem impl_SetAdd.two {i j : Nat} {Ni Nj : Option Tmp} {oi oj : Oper} {fuel : Nat} {l : Array Bool} {a : Act} {w : World} (li lj : Array Bool) (hi : ops[i]? = some oi) (hj : ops[j]? = some oj) (hNi : oi.dst = Ni) (hNj : oj.dst = Nj)
  (hc : (Region.ready md ops l == [i, j] && l.setIfInBounds i true == li && l.setIfInBounds j true == lj) = true) (hdi : i ∉ ds) (hdj : j ∉ ds)
  (h1 : ∀ K : Act → World → Prop, Shut (∀ a' w', S w' → (S w' → wpAnyLast P md ops Q S ds fuel li a' w') → K a' w') → if Region.wanted oi (yielded ops a.tmps) = true then Oper.wp P oi a w K Q else K (a.put Ni undef) w)
  (h2 : ∀ K : Act → World → Prop, Shut (∀ a' w', S w' → (S w' → wpAnyLast P md ops Q S ds fuel lj a' w') → K a' w') → if Region.wanted oj (yielded ops a.tmps) = true then Oper.wp P oj a w K Q else K (a.put Nj undef) w) :
  wpAnyLast P md ops Q S ds (fuel + 1) l a w := by
 subst hNi; subst hNj
 simp only [Bool.and_eq_true, beq_iff_eq] at hc
 obtain ⟨⟨h3, h4⟩, h5⟩ := hc; subst h4; subst h5
 exact wpAnyLast_ready h3 (by simp) (AllReadyL.cons hi hdi (fun K hK => h1 K hK) (AllReadyL.cons hj hdj (fun K hK => h2 K hK) AllReadyL.nil))
end
theorem impl_SetAdd.copied {l0 c : List Int} (h : impl_copyInts.f l0 = some c) : c = l0 ∧ l0.length < 17592186044416 := by
 unfold impl_copyInts.f at h
 by_cases hc : ([] : List Int).length + l0.length < 17592186044416
 rotate_left
 ·
  rw [if_neg hc] at h
  exact absurd h (by simp)
 rw [if_pos hc] at h
 exact ⟨by simpa using (Option.some.inj h).symm, by simpa using hc⟩
theorem impl_SetAdd.calls (k : Nat) (A0 : Option Addr) (c0 : Nat) (l0 : List Int) (a1 : Int) (r : List Int) (w : World) (hr0 : Kd.C (Kd.int .i64) w A0 l0.length l0) (hc0 : l0.length ≤ c0) (h : impl_SetAdd.f k l0 a1 = some r) :
  Calls Tryz.prog 144 #[.slice A0 l0.length c0, .int .i64 a1] w fun e w' => ∃ v0_ : Value, e = .returned (v0_) ∧ Kd.R (Kd.int .i64) 3 w' w.heap.size (fun _ => True) v0_ r ∧ Below w.heap.size w w' := by
 have HR0 := Aside0.mk hr0; have HC0 := Aside0.mk hc0; clear hr0 hc0; have HB := Aside0.mk (Below.refl w.heap.size w); obtain ⟨b, A1, H⟩ := Option.bind_eq_some_iff.mp h; obtain ⟨c, A2, H⟩ := Option.bind_eq_some_iff.mp H; obtain ⟨hcl, hln⟩ := impl_SetAdd.copied A2; subst hcl; have A1 := Aside0.mk A1; have A2 := Aside0.mk A2; have LN := Aside0.mk hln; clear h hln; cases b with
 | true =>
  rw [if_pos rfl] at H
  obtain rfl := Option.some.inj H
  go_enter Tryz.func144, Tryz.ntmps144
  go_wp2_with (first | ((with_reducible refine gd 3 ?_); refine bA 3 #[.int .i64 a1] 3 ?_; intro gb hg w2 hbox hb; have BK := Aside0.mk hbox; have hcz := bc0 hbox; have hfz := blk_frozen hbox 0; have GW := bg hg HB; replace HB := bs HB hb; clear hb hbox hg) | ((with_reducible refine gate_callee (f := 116) rfl ?_); refine gB (some 8) Tryz.func116 #[.slice A0 c.length c0, .int .i64 a1] ?_; (with_reducible refine (impl_SetHas.calls k _ _ c a1 true _ ?side1 ?side2 A1.out).mono ?_); (case side1 => exact ch HR0 HB); (case side2 => exact HC0.out); rintro e w' ⟨rfl, ⟨nd, rfl⟩⟩; refine ⟨_, rfl, ?_⟩) | ((with_reducible refine gate_callee (f := 140) rfl ?_); refine gB (some 10) Tryz.func140 #[.slice A0 c.length c0] ?_; (with_reducible refine (impl_copyInts.calls _ _ c c _ ?side1 ?side2 A2.out).mono ?_); (case side1 => exact ch HR0 HB); (case side2 => exact HC0.out); rintro e w' ⟨v0, rfl, ho, hb⟩; refine ⟨_, rfl, ?_⟩; have HO := Aside0.mk (Kd.R_lower ho (below_size (bI HB.out))); replace HB := bs HB hb; clear hb ho))
  go_ret
  exact ⟨_, rfl, rI HO.out, bI HB.out⟩
 | false =>
  rw [if_neg Bool.false_ne_true] at H
  obtain ⟨m, hm⟩ : ∃ m, m = impl_SetAdd.at_ c a1 := ⟨_, rfl⟩; have ML := Aside0.mk (impl_SetAdd.at_le c a1)
  rw [← hm] at H ML
  obtain rfl := Option.some.inj H
  by_cases he : m = c.length
  ·
   have HZ : Aside0 ((if impl_SetAdd.at_ c a1 = c.length then -1 else (impl_SetAdd.at_ c a1 : Int)) = -1) := Aside0.mk (if_pos (hm ▸ he)); clear hm; subst he
   go_enter Tryz.func144, Tryz.ntmps144
   go_wp2_with (first | ((with_reducible refine gd 3 ?_); refine bA 3 #[.int .i64 a1] 3 ?_; intro gb hg w2 hbox hb; have BK := Aside0.mk hbox; have hcz := bc0 hbox; have hfz := blk_frozen hbox 0; have GW := bg hg HB; replace HB := bs HB hb; clear hb hbox hg) | ((with_reducible refine gate_callee (f := 116) rfl ?_); refine gB (some 8) Tryz.func116 #[.slice A0 c.length c0, .int .i64 a1] ?_; (with_reducible refine (impl_SetHas.calls k _ _ c a1 false _ ?side1 ?side2 A1.out).mono ?_); (case side1 => exact ch HR0 HB); (case side2 => exact HC0.out); rintro e w' ⟨rfl, ⟨nd, rfl⟩⟩; refine ⟨_, rfl, ?_⟩) | ((with_reducible refine gate_callee (f := 168) rfl ?_); refine gB (some 13) Tryz.func168 #[.slice A0 c.length c0, .func (.func 169) #[] #[.pointer (some ⟨gb, 0, none⟩)]] ?_; (with_reducible refine (impl_SetAdd.find2 A0 c0 c a1 gb _ (-1) ?side1 ?side2 HZ.out).mono ?_); (case side1 => exact ch HR0 HB); (case side2 => exact kI BK.out); rintro e w' ⟨rfl, ⟨nf, rfl⟩⟩; refine ⟨_, rfl, ?_⟩) | ((with_reducible refine gate_callee (f := 140) rfl ?_); refine gB (some 19) Tryz.func140 #[.slice A0 c.length c0] ?_; (with_reducible refine (impl_copyInts.calls _ _ c c _ ?side1 ?side2 A2.out).mono ?_); (case side1 => exact ch HR0 HB); (case side2 => exact HC0.out); rintro e w' ⟨v0, rfl, ho, hb⟩; refine ⟨_, rfl, ?_⟩; have HO := Aside0.mk (Kd.R_lower ho (below_size (bI HB.out))); replace BK := bk BK hb; replace HB := bs HB hb; clear hb ho; clear hcz hfz; have hcz := bc0 BK.out; have hfz := blk_frozen BK.out 0; obtain ⟨Ao, co, eo⟩ := Kd.R_slice HO.out; subst eo) | ((with_reducible refine gd 22 ?_); refine impl_SetAdd.lit 1 #[.int .i64 a1] 3 ?_; intro gl hg w4 hbox hb; have KL := Aside0.mk hbox; have NE : Aside0 (some gl ≠ (Value.slice Ao c.length co).ownBlock) := Aside0.mk (fun e => by have h1 := ((Kd.own_of_R (rI HO.out)).lt _ e.symm).2; rw [hg] at h1; exact Nat.lt_irrefl _ h1); replace HO := rb HO hb; replace HB := bs HB hb; clear hb hbox hg) | ((with_reducible refine gate_callee (f := 170) rfl ?_); refine gB (some 23) Tryz.func170 #[.slice Ao c.length co, .int .i64 (c.length : Int), .slice (some ⟨gl, 0, none⟩) 1 1] ?_; (with_reducible refine (Ins.ins _ w.heap.size (fun _ => True) _ c c.length a1 gl ?side1 ?side2 ?side3 ?side4 ?side5 NE.out).mono ?_); (case side1 => exact rI HO.out); (case side2 => exact below_size (bI HB.out)); (case side3 => exact ML.out); (case side4 => have := LN.out; omega); (case side5 => exact kI KL.out); rintro e w' ⟨v1, rfl, ho, hb⟩; refine ⟨_, rfl, ?_⟩; have HO2 := Aside0.mk ho; have HB2 := Aside0.mk ((bI HB.out).trans hb); clear hb ho))
   refine start_ (n := 7) (S := fun w' => w'.cell? ⟨gb, 0, none⟩ = some (.int .i64 a1)) (ds := [5]) #[false, false, false, false, false, false, false] (by kernel_rfl) rfl rfl (bc0 (kI BK.out)) (fun hHeld => ?_)
   refine pure_ (i := 0) (N := some 18) (v := ?_) (a' := ?_) #[true, false, false, false, false, false, false] rfl rfl (by kernel_rfl) (fun _ _ _ h => h) (Or.inl ⟨by rfl, ?_⟩) ?_ ?_
   rotate_left
   ·
    intro w'
    go_simp
    with_reducible rfl
   rotate_left
   ·
    simp only [Act.put, List.setIfInBounds_toArray, List.set_cons_zero, List.set_cons_succ, i64_w, i32_w]
    rfl
   refine pure_ (i := 2) (N := some 20) (v := ?_) (a' := ?_) #[true, false, true, false, false, false, false] rfl rfl (by kernel_rfl) (fun _ _ _ h => h) (Or.inl ⟨by rfl, ?_⟩) ?_ ?_
   rotate_left
   ·
    intro w'
    go_simp
    with_reducible rfl
   rotate_left
   ·
    simp only [Act.put, List.setIfInBounds_toArray, List.set_cons_zero, List.set_cons_succ, i64_w, i32_w]
    rfl
   refine take_ (i := 3) (N := some 21) (v := ?_) (a' := ?_) #[true, false, true, true, false, false, false] rfl rfl (by kernel_rfl) (fun _ _ _ h => h) (Or.inl ⟨by rfl, ?_⟩) hHeld ?_ ?_
   rotate_left
   ·
    intro w' s0
    go_simp
    with_reducible rfl
   rotate_left
   ·
    simp only [Act.put, List.setIfInBounds_toArray, List.set_cons_zero, List.set_cons_succ, i64_w, i32_w]
    rfl
   refine impl_SetAdd.two (i := 1) (j := 4) (Ni := some 19) (Nj := some 22) #[true, true, true, true, false, false, false] #[true, false, true, true, true, false, false] rfl rfl rfl rfl (by kernel_rfl) (by decide) (by decide) (fun K hK => ?_) (fun K hK => ?_)
   ·
    refine gA Tryz.func140 #[.slice A0 c.length c0] ?_
    with_reducible refine (impl_copyInts.calls _ _ c c _ ?side1 ?side2 A2.out).mono ?_
    (case side1 => exact ch HR0 HB)
    (case side2 => exact HC0.out)
    rintro e w5 ⟨v0, rfl, ho, hb⟩
    refine ⟨_, rfl, ?_⟩
    have HO := Aside0.mk (Kd.R_lower ho (below_size (bI HB.out))); replace BK := bk BK hb; replace HB := bs HB hb; clear hb ho
    refine hK.out _ _ (bc0 BK.out) (fun hHeld => ?_)
    clear hK K; obtain ⟨Ao, co, eo⟩ := Kd.R_slice HO.out; subst eo
    refine nA (some 19) ?_
    refine one_ (i := 4) (N := some 22) #[true, true, true, true, true, false, false] rfl rfl (by kernel_rfl) (by decide) (fun K hK => ?_)
    refine impl_SetAdd.lit_step 1 #[.int .i64 a1] 3 ?_
    intro gl hg w4 hbox hb
    have KL := Aside0.mk hbox
    have NE : Aside0 (some gl ≠ (Value.slice Ao c.length co).ownBlock) := Aside0.mk (fun e => by have h1 := ((Kd.own_of_R HO.out).lt _ e.symm).2; rw [hg] at h1; exact Nat.lt_irrefl _ h1)
    replace HO := rb HO hb; replace BK := bk BK hb; replace HB := bs HB hb; clear hb hbox hg
    refine hK.out _ _ (bc0 BK.out) (fun hHeld => ?_)
    clear hK K
    refine nA (some 22) ?_
    refine last_ (i := 5) (N := some 23) #[true, true, true, true, true, true, false] rfl rfl (by kernel_rfl) (by decide) (fun K hK => ?_)
    refine gA Tryz.func170 #[.slice Ao c.length co, .int .i64 (c.length : Int), .slice (some ⟨gl, 0, none⟩) 1 1] ?_
    with_reducible refine (Ins.ins _ w.heap.size (fun _ => True) _ c c.length a1 gl ?side1 ?side2 ?side3 ?side4 ?side5 NE.out).mono ?_
    (case side1 => exact rI HO.out)
    (case side2 => exact below_size (bI HB.out))
    (case side3 => exact ML.out)
    (case side4 => have := LN.out; omega)
    (case side5 => exact kI KL.out)
    rintro e w6 ⟨v1, rfl, ho, hb⟩
    refine ⟨_, rfl, ?_⟩
    have HO2 := Aside0.mk ho; have HB2 := Aside0.mk ((bI HB.out).trans hb)
    refine hK.out _ _ ?_
    clear hK K hb ho
    refine nA (some 23) ?_
    refine pure_ (i := 6) (N := some 4) (v := ?_) (a' := ?_) #[true, true, true, true, true, true, true] rfl rfl (by kernel_rfl) (fun _ _ _ h => h) (Or.inl ⟨by rfl, ?_⟩) ?_ ?_
    rotate_left
    ·
     intro w'
     go_simp
     with_reducible rfl
    rotate_left
    ·
     simp only [Act.put, List.setIfInBounds_toArray, List.set_cons_zero, List.set_cons_succ, i64_w, i32_w]
     rfl
    refine done_ (by kernel_rfl) ?_
    go_wp2
    go_ret
    exact ⟨_, rfl, HO2.out, HB2.out⟩
   refine impl_SetAdd.lit_step 1 #[.int .i64 a1] 3 ?_
   intro gl hg w4 hbox hb
   have KL := Aside0.mk hbox; replace BK := bk BK hb; replace HB := bs HB hb; clear hb hbox hg
   refine hK.out _ _ (bc0 BK.out) (fun hHeld => ?_)
   clear hK K
   refine nA (some 22) ?_
   refine one_ (i := 1) (N := some 19) #[true, true, true, true, true, false, false] rfl rfl (by kernel_rfl) (by decide) (fun K hK => ?_)
   refine gA Tryz.func140 #[.slice A0 c.length c0] ?_
   with_reducible refine (impl_copyInts.calls _ _ c c _ ?side1 ?side2 A2.out).mono ?_
   (case side1 => exact ch HR0 HB)
   (case side2 => exact HC0.out)
   rintro e w5 ⟨v0, rfl, ho, hb⟩
   refine ⟨_, rfl, ?_⟩
   have HO := Aside0.mk (Kd.R_lower ho (below_size (bI HB.out))); replace BK := bk BK hb; have KL' := bk KL hb
   have NE : Aside0 (some gl ≠ v0.ownBlock) := Aside0.mk (fun e => by have h1 := ((Kd.own_of_R ho).lt _ e.symm).1; exact (Nat.not_lt.2 h1) (blk_lt (kI KL.out)))
   replace KL := KL'; clear KL'; replace HB := bs HB hb; clear hb ho
   refine hK.out _ _ (bc0 BK.out) (fun hHeld => ?_)
   clear hK K; obtain ⟨Ao, co, eo⟩ := Kd.R_slice HO.out; subst eo
   refine nA (some 19) ?_
   refine last_ (i := 5) (N := some 23) #[true, true, true, true, true, true, false] rfl rfl (by kernel_rfl) (by decide) (fun K hK => ?_)
   refine gA Tryz.func170 #[.slice Ao c.length co, .int .i64 (c.length : Int), .slice (some ⟨gl, 0, none⟩) 1 1] ?_
   with_reducible refine (Ins.ins _ w.heap.size (fun _ => True) _ c c.length a1 gl ?side1 ?side2 ?side3 ?side4 ?side5 NE.out).mono ?_
   (case side1 => exact rI HO.out)
   (case side2 => exact below_size (bI HB.out))
   (case side3 => exact ML.out)
   (case side4 => have := LN.out; omega)
   (case side5 => exact kI KL.out)
   rintro e w6 ⟨v1, rfl, ho, hb⟩
   refine ⟨_, rfl, ?_⟩
   have HO2 := Aside0.mk ho; have HB2 := Aside0.mk ((bI HB.out).trans hb)
   refine hK.out _ _ ?_
   clear hK K hb ho
   refine nA (some 23) ?_
   refine pure_ (i := 6) (N := some 4) (v := ?_) (a' := ?_) #[true, true, true, true, true, true, true] rfl rfl (by kernel_rfl) (fun _ _ _ h => h) (Or.inl ⟨by rfl, ?_⟩) ?_ ?_
   rotate_left
   ·
    intro w'
    go_simp
    with_reducible rfl
   rotate_left
   ·
    simp only [Act.put, List.setIfInBounds_toArray, List.set_cons_zero, List.set_cons_succ, i64_w, i32_w]
    rfl
   refine done_ (by kernel_rfl) ?_
   go_wp2
   go_ret
   exact ⟨_, rfl, HO2.out, HB2.out⟩
  have HZ : Aside0 ((if impl_SetAdd.at_ c a1 = c.length then -1 else (impl_SetAdd.at_ c a1 : Int)) = (m : Int)) := Aside0.mk (by rw [← hm, if_neg he])
  clear hm he
  have hd : decide ((m : Int) < 0) = false := decide_eq_false (by omega)
  go_enter Tryz.func144, Tryz.ntmps144
  go_wp2_with (first | ((with_reducible refine gd 3 ?_); refine bA 3 #[.int .i64 a1] 3 ?_; intro gb hg w2 hbox hb; have BK := Aside0.mk hbox; have hcz := bc0 hbox; have hfz := blk_frozen hbox 0; have GW := bg hg HB; replace HB := bs HB hb; clear hb hbox hg) | ((with_reducible refine gate_callee (f := 116) rfl ?_); refine gB (some 8) Tryz.func116 #[.slice A0 c.length c0, .int .i64 a1] ?_; (with_reducible refine (impl_SetHas.calls k _ _ c a1 false _ ?side1 ?side2 A1.out).mono ?_); (case side1 => exact ch HR0 HB); (case side2 => exact HC0.out); rintro e w' ⟨rfl, ⟨nd, rfl⟩⟩; refine ⟨_, rfl, ?_⟩) | ((with_reducible refine gate_callee (f := 168) rfl ?_); refine gB (some 13) Tryz.func168 #[.slice A0 c.length c0, .func (.func 169) #[] #[.pointer (some ⟨gb, 0, none⟩)]] ?_; (with_reducible refine (impl_SetAdd.find2 A0 c0 c a1 gb _ (m : Int) ?side1 ?side2 HZ.out).mono ?_); (case side1 => exact ch HR0 HB); (case side2 => exact kI BK.out); rintro e w' ⟨rfl, ⟨nf, rfl⟩⟩; refine ⟨_, rfl, ?_⟩) | ((with_reducible refine gate_callee (f := 140) rfl ?_); refine gB (some 19) Tryz.func140 #[.slice A0 c.length c0] ?_; (with_reducible refine (impl_copyInts.calls _ _ c c _ ?side1 ?side2 A2.out).mono ?_); (case side1 => exact ch HR0 HB); (case side2 => exact HC0.out); rintro e w' ⟨v0, rfl, ho, hb⟩; refine ⟨_, rfl, ?_⟩; have HO := Aside0.mk (Kd.R_lower ho (below_size (bI HB.out))); replace BK := bk BK hb; replace HB := bs HB hb; clear hb ho; clear hcz hfz; have hcz := bc0 BK.out; have hfz := blk_frozen BK.out 0; obtain ⟨Ao, co, eo⟩ := Kd.R_slice HO.out; subst eo) | ((with_reducible refine gd 22 ?_); refine impl_SetAdd.lit 1 #[.int .i64 a1] 3 ?_; intro gl hg w4 hbox hb; have KL := Aside0.mk hbox; have NE : Aside0 (some gl ≠ (Value.slice Ao c.length co).ownBlock) := Aside0.mk (fun e => by have h1 := ((Kd.own_of_R HO.out).lt _ e.symm).2; rw [hg] at h1; exact Nat.lt_irrefl _ h1); replace HO := rb HO hb; replace HB := bs HB hb; clear hb hbox hg) | ((with_reducible refine gate_callee (f := 170) rfl ?_); refine gB (some 23) Tryz.func170 #[.slice Ao c.length co, .int .i64 (m : Int), .slice (some ⟨gl, 0, none⟩) 1 1] ?_; (with_reducible refine (Ins.ins _ w.heap.size (fun _ => True) _ c m a1 gl ?side1 ?side2 ?side3 ?side4 ?side5 NE.out).mono ?_); (case side1 => exact rI HO.out); (case side2 => exact below_size (bI HB.out)); (case side3 => exact ML.out); (case side4 => have := LN.out; omega); (case side5 => exact kI KL.out); rintro e w' ⟨v1, rfl, ho, hb⟩; refine ⟨_, rfl, ?_⟩; have HO2 := Aside0.mk ho; have HB2 := Aside0.mk ((bI HB.out).trans hb); clear hb ho))
  refine start_ (n := 7) (S := fun w' => w'.cell? ⟨gb, 0, none⟩ = some (.int .i64 a1)) (ds := [5]) #[false, false, false, false, false, false, false] (by kernel_rfl) rfl rfl (bc0 (kI BK.out)) (fun hHeld => ?_)
  refine pure_ (i := 0) (N := some 18) (v := ?_) (a' := ?_) #[true, false, false, false, false, false, false] rfl rfl (by kernel_rfl) (fun _ _ _ h => h) (Or.inl ⟨by rfl, ?_⟩) ?_ ?_
  rotate_left
  ·
   intro w'
   go_simp
   with_reducible rfl
  rotate_left
  ·
   simp only [Act.put, List.setIfInBounds_toArray, List.set_cons_zero, List.set_cons_succ, i64_w, i32_w]
   rfl
  refine pure_ (i := 2) (N := some 20) (v := ?_) (a' := ?_) #[true, false, true, false, false, false, false] rfl rfl (by kernel_rfl) (fun _ _ _ h => h) (Or.inl ⟨by rfl, ?_⟩) ?_ ?_
  rotate_left
  ·
   intro w'
   go_simp
   with_reducible rfl
  rotate_left
  ·
   simp only [Act.put, List.setIfInBounds_toArray, List.set_cons_zero, List.set_cons_succ, i64_w, i32_w]
   rfl
  refine take_ (i := 3) (N := some 21) (v := ?_) (a' := ?_) #[true, false, true, true, false, false, false] rfl rfl (by kernel_rfl) (fun _ _ _ h => h) (Or.inl ⟨by rfl, ?_⟩) hHeld ?_ ?_
  rotate_left
  ·
   intro w' s0
   go_simp
   with_reducible rfl
  rotate_left
  ·
   simp only [Act.put, List.setIfInBounds_toArray, List.set_cons_zero, List.set_cons_succ, i64_w, i32_w]
   rfl
  refine impl_SetAdd.two (i := 1) (j := 4) (Ni := some 19) (Nj := some 22) #[true, true, true, true, false, false, false] #[true, false, true, true, true, false, false] rfl rfl rfl rfl (by kernel_rfl) (by decide) (by decide) (fun K hK => ?_) (fun K hK => ?_)
  ·
   refine gA Tryz.func140 #[.slice A0 c.length c0] ?_
   with_reducible refine (impl_copyInts.calls _ _ c c _ ?side1 ?side2 A2.out).mono ?_
   (case side1 => exact ch HR0 HB)
   (case side2 => exact HC0.out)
   rintro e w5 ⟨v0, rfl, ho, hb⟩
   refine ⟨_, rfl, ?_⟩
   have HO := Aside0.mk (Kd.R_lower ho (below_size (bI HB.out))); replace BK := bk BK hb; replace HB := bs HB hb; clear hb ho
   refine hK.out _ _ (bc0 BK.out) (fun hHeld => ?_)
   clear hK K; obtain ⟨Ao, co, eo⟩ := Kd.R_slice HO.out; subst eo
   refine nA (some 19) ?_
   refine one_ (i := 4) (N := some 22) #[true, true, true, true, true, false, false] rfl rfl (by kernel_rfl) (by decide) (fun K hK => ?_)
   refine impl_SetAdd.lit_step 1 #[.int .i64 a1] 3 ?_
   intro gl hg w4 hbox hb
   have KL := Aside0.mk hbox
   have NE : Aside0 (some gl ≠ (Value.slice Ao c.length co).ownBlock) := Aside0.mk (fun e => by have h1 := ((Kd.own_of_R HO.out).lt _ e.symm).2; rw [hg] at h1; exact Nat.lt_irrefl _ h1)
   replace HO := rb HO hb; replace BK := bk BK hb; replace HB := bs HB hb; clear hb hbox hg
   refine hK.out _ _ (bc0 BK.out) (fun hHeld => ?_)
   clear hK K
   refine nA (some 22) ?_
   refine last_ (i := 5) (N := some 23) #[true, true, true, true, true, true, false] rfl rfl (by kernel_rfl) (by decide) (fun K hK => ?_)
   refine gA Tryz.func170 #[.slice Ao c.length co, .int .i64 (m : Int), .slice (some ⟨gl, 0, none⟩) 1 1] ?_
   with_reducible refine (Ins.ins _ w.heap.size (fun _ => True) _ c m a1 gl ?side1 ?side2 ?side3 ?side4 ?side5 NE.out).mono ?_
   (case side1 => exact rI HO.out)
   (case side2 => exact below_size (bI HB.out))
   (case side3 => exact ML.out)
   (case side4 => have := LN.out; omega)
   (case side5 => exact kI KL.out)
   rintro e w6 ⟨v1, rfl, ho, hb⟩
   refine ⟨_, rfl, ?_⟩
   have HO2 := Aside0.mk ho; have HB2 := Aside0.mk ((bI HB.out).trans hb)
   refine hK.out _ _ ?_
   clear hK K hb ho
   refine nA (some 23) ?_
   refine pure_ (i := 6) (N := some 4) (v := ?_) (a' := ?_) #[true, true, true, true, true, true, true] rfl rfl (by kernel_rfl) (fun _ _ _ h => h) (Or.inl ⟨by rfl, ?_⟩) ?_ ?_
   rotate_left
   ·
    intro w'
    go_simp
    with_reducible rfl
   rotate_left
   ·
    simp only [Act.put, List.setIfInBounds_toArray, List.set_cons_zero, List.set_cons_succ, i64_w, i32_w]
    rfl
   refine done_ (by kernel_rfl) ?_
   go_wp2
   go_ret
   exact ⟨_, rfl, HO2.out, HB2.out⟩
  refine impl_SetAdd.lit_step 1 #[.int .i64 a1] 3 ?_
  intro gl hg w4 hbox hb
  have KL := Aside0.mk hbox; replace BK := bk BK hb; replace HB := bs HB hb; clear hb hbox hg
  refine hK.out _ _ (bc0 BK.out) (fun hHeld => ?_)
  clear hK K
  refine nA (some 22) ?_
  refine one_ (i := 1) (N := some 19) #[true, true, true, true, true, false, false] rfl rfl (by kernel_rfl) (by decide) (fun K hK => ?_)
  refine gA Tryz.func140 #[.slice A0 c.length c0] ?_
  with_reducible refine (impl_copyInts.calls _ _ c c _ ?side1 ?side2 A2.out).mono ?_
  (case side1 => exact ch HR0 HB)
  (case side2 => exact HC0.out)
  rintro e w5 ⟨v0, rfl, ho, hb⟩
  refine ⟨_, rfl, ?_⟩
  have HO := Aside0.mk (Kd.R_lower ho (below_size (bI HB.out))); replace BK := bk BK hb; have KL' := bk KL hb
  have NE : Aside0 (some gl ≠ v0.ownBlock) := Aside0.mk (fun e => by have h1 := ((Kd.own_of_R ho).lt _ e.symm).1; exact (Nat.not_lt.2 h1) (blk_lt (kI KL.out)))
  replace KL := KL'; clear KL'; replace HB := bs HB hb; clear hb ho
  refine hK.out _ _ (bc0 BK.out) (fun hHeld => ?_)
  clear hK K; obtain ⟨Ao, co, eo⟩ := Kd.R_slice HO.out; subst eo
  refine nA (some 19) ?_
  refine last_ (i := 5) (N := some 23) #[true, true, true, true, true, true, false] rfl rfl (by kernel_rfl) (by decide) (fun K hK => ?_)
  refine gA Tryz.func170 #[.slice Ao c.length co, .int .i64 (m : Int), .slice (some ⟨gl, 0, none⟩) 1 1] ?_
  with_reducible refine (Ins.ins _ w.heap.size (fun _ => True) _ c m a1 gl ?side1 ?side2 ?side3 ?side4 ?side5 NE.out).mono ?_
  (case side1 => exact rI HO.out)
  (case side2 => exact below_size (bI HB.out))
  (case side3 => exact ML.out)
  (case side4 => have := LN.out; omega)
  (case side5 => exact kI KL.out)
  rintro e w6 ⟨v1, rfl, ho, hb⟩
  refine ⟨_, rfl, ?_⟩
  have HO2 := Aside0.mk ho; have HB2 := Aside0.mk ((bI HB.out).trans hb)
  refine hK.out _ _ ?_
  clear hK K hb ho
  refine nA (some 23) ?_
  refine pure_ (i := 6) (N := some 4) (v := ?_) (a' := ?_) #[true, true, true, true, true, true, true] rfl rfl (by kernel_rfl) (fun _ _ _ h => h) (Or.inl ⟨by rfl, ?_⟩) ?_ ?_
  rotate_left
  ·
   intro w'
   go_simp
   with_reducible rfl
  rotate_left
  ·
   simp only [Act.put, List.setIfInBounds_toArray, List.set_cons_zero, List.set_cons_succ, i64_w, i32_w]
   rfl
  refine done_ (by kernel_rfl) ?_
  go_wp2
  go_ret
  exact ⟨_, rfl, HO2.out, HB2.out⟩
mutual
def impl_SetJoin.l0 : Nat → List Int → List Int → List Int → Int → Int → Option (List Int)
 | 0, _, _, _, _, _ => none
 | k + 1, x1, x5, x10, x11, x12 => if x12 < x11 then (if 0 ≤ x12 then (if x12 < (x10.length : Int) then ((impl_SetAdd.f k x5 (rd x10 x12)).bind fun t381 => (impl_SetJoin.l0 k x1 t381 x10 x11 (wrap64 (x12 + 1)))) else (none)) else (none)) else (impl_SetJoin.l1 k x5 x1 (x1.length : Int) 0)
def impl_SetJoin.l1 : Nat → List Int → List Int → Int → Int → Option (List Int)
 | 0, _, _, _, _ => none
 | k + 1, x5, x20, x21, x22 => if x22 < x21 then (if 0 ≤ x22 then (if x22 < (x20.length : Int) then ((impl_SetAdd.f k x5 (rd x20 x22)).bind fun t385 => (impl_SetJoin.l1 k t385 x20 x21 (wrap64 (x22 + 1)))) else (none)) else (none)) else (some x5)
end
def impl_SetJoin.f (k : Nat) (l0 : List Int) (l1 : List Int) : Option (List Int) := impl_SetJoin.l0 k l1 ([] : List Int) l0 (l0.length : Int) 0
theorem impl_SetJoin.calls (k : Nat) (A0 : Option Addr) (c0 : Nat) (l0 : List Int) (A1 : Option Addr) (c1 : Nat) (l1 : List Int) (r : List Int) (w : World) (hr0 : Kd.C (Kd.int .i64) w A0 l0.length l0) (hc0 : l0.length ≤ c0) (hr1 : Kd.C (Kd.int .i64) w A1 l1.length l1) (hc1 : l1.length ≤ c1) (h : impl_SetJoin.f k l0 l1 = some r) :
  Calls Tryz.prog 94 #[.slice A0 l0.length c0, .slice A1 l1.length c1] w fun e w' => ∃ v0_ : Value, e = .returned (v0_) ∧ Kd.R (Kd.int .i64) 3 w' w.heap.size (fun _ => True) v0_ r ∧ Below w.heap.size w w' := by
 have HR0 := Aside0.mk hr0; have HC0 := Aside0.mk hc0; clear hr0 hc0; have HR1 := Aside0.mk hr1; have HC1 := Aside0.mk hc1; clear hr1 hc1; have HB := Aside0.mk (Below.refl w.heap.size w); have H := h; unfold impl_SetJoin.f at H; clear h
 go_enter Tryz.func94, Tryz.ntmps94
 have H' := Aside0.mk H; clear H
 go_wp2
 refine wC ?_; intro w3 _
 go_loopg [5, 12] k (fun kq v5 v12 w' => ∃ (x5_1 : List Int) (x12_1 : Int) (Ao5_1 : Option Addr) (co5_1 : Nat), v5 = .slice Ao5_1 x5_1.length co5_1 ∧ v12 = .int .i64 x12_1 ∧ Aside0 (impl_SetJoin.l0 kq l1 x5_1 l0 (l0.length : Int) x12_1 = some r) ∧ Aside0 (kq ≤ k) ∧ Aside0 (Kd.R (Kd.int .i64) 3 w' w.heap.size (iv w w') (.slice Ao5_1 x5_1.length co5_1) x5_1) ∧ UB w3 w')
 case atStart => exact ⟨(([] : List Int)), (0), (none), (0), y0_17, y0_17, H', ⟨Nat.le_refl _⟩, ⟨Kd.R_nil _ _ _ _ _⟩, ⟨UpW.out⟩⟩
 case round =>
  clear H'; obtain ⟨x5_1, x12_1, Ao5_1, co5_1, rfl, rfl, HA, HK1, HO_5, _⟩ := hrel; cases gk with
  | zero => exact absurd HA.out (by simp [impl_SetJoin.l0])
  | succ k1 =>
   have H := HA.out; clear HA
   simp only [impl_SetJoin.l0] at H
   by_cases c4 : x12_1 < (l0.length : Int)
   ·
    rw [if_pos c4] at H
    have c4b0 : decide (x12_1 < (l0.length : Int)) = true := decide_eq_true c4; clear c4
    by_cases c5 : 0 ≤ x12_1
    rotate_left
    ·
     rw [if_neg c5] at H
     exact absurd H (by simp)
    rw [if_pos c5] at H
    have c5b0 : decide (0 ≤ x12_1) = true := decide_eq_true c5; clear c5
    by_cases c6 : x12_1 < (l0.length : Int)
    rotate_left
    ·
     rw [if_neg c6] at H
     exact absurd H (by simp)
    rw [if_pos c6] at H
    have c6b0 : decide (x12_1 < (l0.length : Int)) = true := decide_eq_true c6; clear c6; obtain ⟨t381, A7, H⟩ := oB H; (try dsimp only at H); have H' := Aside0.mk H; clear H; have p380 : 0 ≤ (x12_1 : Int) := of_decide_eq_true y0_16; have q380 : x12_1 < (l0.length : Int) := of_decide_eq_true y0_16; obtain ⟨ad380, e380, hx380_0⟩ := Kd.at_int HR0.out x12_1 p380 q380; cases e380; have i380_0_ := RdP.mk hx380_0; clear hx380_0; replace p380 := eq_true p380; replace q380 := eq_true q380
    go_wp2_with (first | ((with_reducible refine gate_callee (f := 144) rfl ?_); refine gC1 (some 18) Tryz.func144 (impl_SetAdd.calls (hr0 := rC HO_5) (hc0 := rL HO_5) (w := _) (h := A7.out)) ?_; intro Ao382 co382 w8 _ HO383))
    go_roundg k1
    case measure => have := HK1.out; omega
    case rel => exact ⟨(t381), (wrap64 (x12_1 + 1)), (Ao382), (co382), y0_17, y0_17, H', ⟨y0_20⟩, ⟨rJ HO383⟩, ⟨UpW.out⟩⟩
   rw [if_neg c4] at H
   have c4b0 : decide (x12_1 < (l0.length : Int)) = false := decide_eq_false c4; clear c4; have H' := Aside0.mk H; clear H
   go_wp2
   refine wC ?_; intro w9 _
   go_loopg [5, 22] k1 (fun kq v5 v22 w' => ∃ (x5_2 : List Int) (x22_2 : Int) (Ao5_2 : Option Addr) (co5_2 : Nat), v5 = .slice Ao5_2 x5_2.length co5_2 ∧ v22 = .int .i64 x22_2 ∧ Aside0 (impl_SetJoin.l1 kq x5_2 l1 (l1.length : Int) x22_2 = some r) ∧ Aside0 (kq ≤ k1) ∧ Aside0 (Kd.R (Kd.int .i64) 3 w' w.heap.size (iv w w') (.slice Ao5_2 x5_2.length co5_2) x5_2) ∧ UB w9 w')
   case atStart => exact ⟨(x5_1), (0), (Ao5_1), (co5_1), y0_17, y0_17, H', ⟨Nat.le_refl _⟩, ⟨rJ HO_5⟩, ⟨UpW.out⟩⟩
   case round =>
    clear H'; obtain ⟨x5_2, x22_2, Ao5_2, co5_2, rfl, rfl, HA, HK2, HO_5, _⟩ := hrel; cases gk with
    | zero => exact absurd HA.out (by simp [impl_SetJoin.l1])
    | succ k2 =>
     have H := HA.out; clear HA
     simp only [impl_SetJoin.l1] at H
     by_cases c10 : x22_2 < (l1.length : Int)
     ·
      rw [if_pos c10] at H
      have c10b0 : decide (x22_2 < (l1.length : Int)) = true := decide_eq_true c10; clear c10
      by_cases c11 : 0 ≤ x22_2
      rotate_left
      ·
       rw [if_neg c11] at H
       exact absurd H (by simp)
      rw [if_pos c11] at H
      have c11b0 : decide (0 ≤ x22_2) = true := decide_eq_true c11; clear c11
      by_cases c12 : x22_2 < (l1.length : Int)
      rotate_left
      ·
       rw [if_neg c12] at H
       exact absurd H (by simp)
      rw [if_pos c12] at H
      have c12b0 : decide (x22_2 < (l1.length : Int)) = true := decide_eq_true c12; clear c12; obtain ⟨t385, A13, H⟩ := oB H; (try dsimp only at H); have H' := Aside0.mk H; clear H; have p384 : 0 ≤ (x22_2 : Int) := of_decide_eq_true y0_16; have q384 : x22_2 < (l1.length : Int) := of_decide_eq_true y0_16; obtain ⟨ad384, e384, hx384_0⟩ := Kd.at_int HR1.out x22_2 p384 q384; cases e384; have i384_0_ := RdP.mk hx384_0; clear hx384_0; replace p384 := eq_true p384; replace q384 := eq_true q384
      go_wp2_with (first | ((with_reducible refine gate_callee (f := 144) rfl ?_); refine gC1 (some 28) Tryz.func144 (impl_SetAdd.calls (hr0 := rC HO_5) (hc0 := rL HO_5) (w := _) (h := A13.out)) ?_; intro Ao386 co386 w14 _ HO387))
      go_roundg k2
      case measure => have := HK1.out; have := HK2.out; omega
      case rel => exact ⟨(t385), (wrap64 (x22_2 + 1)), (Ao386), (co386), y0_17, y0_17, H', ⟨by have := HK1.out; have := HK2.out; omega⟩, ⟨rJ HO387⟩, ⟨UpW.out⟩⟩
     rw [if_neg c10] at H
     have c10b0 : decide (x22_2 < (l1.length : Int)) = false := decide_eq_false c10; clear c10; obtain rfl := Option.some.inj H
     go_wp2
     go_ret
     exact ⟨_, y0_17, rR HO_5, UpW.out⟩
def impl_PartJoin.f (k : Nat) (a0_0 : Int) (a0_1 : ByteArray) (l0_2 : List Int) (a1_0 : Int) (a1_1 : ByteArray) (l1_2 : List Int) : Option (Int × ByteArray × List Int × Bool) := if a0_0 = a1_0 then (if a0_1.toList = a1_1.toList then ((impl_SetJoin.f k l0_2 l1_2).bind fun t391 => (some (a0_0, a0_1, t391, true))) else (some (0, (⟨#[]⟩ : ByteArray), ([] : List Int), false))) else (some (0, (⟨#[]⟩ : ByteArray), ([] : List Int), false))
def impl_PartJoin.T3 : Bool × List (List Nat × List Nat) := (true, [([], []), ([0], [0]), ([], []), ([2], [2]), ([], []), ([4], [4]), ([], []), ([6], [6]), ([5, 7], [5, 7]), ([1, 3, 8], [1, 3, 8]), ([9, 8, 0, 1, 2, 3, 4, 5, 6, 7, 8, 9], [9]), ([10, 0, 1, 2, 3, 4, 5, 6, 7, 8, 9, 10], [])])
def impl_PartJoin.B3 : List Nat := [0, 1, 0, 4, 0, 16, 0, 64, 240, 511, 1023, 2047]
theorem impl_PartJoin.tab3 : rtab .any (opsOf Tryz.f29 3) = impl_PartJoin.T3 := by kernel_rfl
theorem impl_PartJoin.bits3 : waitsOk impl_PartJoin.T3.2 impl_PartJoin.B3 = true := by kernel_rfl
theorem impl_PartJoin.calls (k : Nat) (a0_0 : Int) (a0_1 : ByteArray) (A0_2 : Option Addr) (c0_2 : Nat) (l0_2 : List Int) (a1_0 : Int) (a1_1 : ByteArray) (A1_2 : Option Addr) (c1_2 : Nat) (l1_2 : List Int) (r1 : Int) (r2 : ByteArray) (r3 : List Int) (r4 : Bool) (w : World) (hr0_2 : Kd.C (Kd.int .i64) w A0_2 l0_2.length l0_2) (hc0_2 : l0_2.length ≤ c0_2) (hr1_2 : Kd.C (Kd.int .i64) w A1_2 l1_2.length l1_2) (hc1_2 : l1_2.length ≤ c1_2) (h : impl_PartJoin.f k a0_0 a0_1 l0_2 a1_0 a1_1 l1_2 = some (r1, r2, r3, r4)) :
  Calls Tryz.prog 29 #[.agg #[.int .i64 a0_0, .string a0_1, .slice A0_2 l0_2.length c0_2], .agg #[.int .i64 a1_0, .string a1_1, .slice A1_2 l1_2.length c1_2]] w fun e w' => ∃ v2_ : Value, e = .returned (.tuple #[.agg #[.int .i64 r1, .string r2, v2_], .bool r4]) ∧ Kd.R (Kd.int .i64) 3 w' w.heap.size (fun _ => True) v2_ r3 ∧ Below w.heap.size w w' := by
 have hu48 := Tryz.underlying48; have HR0_2 := Aside0.mk hr0_2; have HC0_2 := Aside0.mk hc0_2; clear hr0_2 hc0_2; have HR1_2 := Aside0.mk hr1_2; have HC1_2 := Aside0.mk hc1_2; clear hr1_2 hc1_2; have HB := Aside0.mk (Below.refl w.heap.size w)
 have H := h; unfold impl_PartJoin.f at H
 clear h
 go_enter Tryz.func29, Tryz.ntmps29
 have H' := Aside0.mk H; clear H
 go_upto_region 1 with (first | ((with_reducible refine gd 2 ?_); refine bL 2 #[.int .i64 a0_0, .string a0_1, .slice A0_2 l0_2.length c0_2] 48 ?_; intro gb388 w3 _ _ _) | ((with_reducible refine gd 3 ?_); refine bL 3 #[.int .i64 a1_0, .string a1_1, .slice A1_2 l1_2.length c1_2] 48 ?_; intro gb389 w4 _ _ _) | ((with_reducible refine gd 4 ?_); refine bL 4 #[.int .i64 0, .string (⟨#[]⟩ : ByteArray), .slice none 0 0] 48 ?_; intro gb390 w5 _ _ _))
 have H := H'.out; clear H'
 by_cases c6 : a0_0 = a1_0
 ·
  rw [if_pos c6] at H
  have c6b0 : (a0_0 == a1_0) = true := beq_iff_eq.mpr c6; have c6b1 : (a0_0 != a1_0) = false := bne_eq_false_iff_eq.mpr c6; clear c6
  (first | rw [c6b0] | (simp only [i64_w, i32_w]; rw [c6b0]) | skip)
  have H' := Aside0.mk H; clear H
  go_upto_if 17 with fail
  have H := H'.out; clear H'
  by_cases c7 : a0_1.toList = a1_1.toList
  ·
   rw [if_pos c7] at H
   have c7b0 : (a0_1.toList == a1_1.toList) = true := beq_iff_eq.mpr c7; have c7b1 : (a0_1.toList != a1_1.toList) = false := bne_eq_false_iff_eq.mpr c7; clear c7
   (first | rw [c7b0] | (simp only [i64_w, i32_w]; rw [c7b0]) | skip)
   obtain ⟨t391, A8, H⟩ := oB H; (try dsimp only at H)
   simp only [Option.some.injEq, Prod.mk.injEq] at H
   obtain ⟨rfl, rfl, rfl, rfl⟩ := H
   try go_wp2
   refine sB [gb390] impl_PartJoin.tab3 impl_PartJoin.bits3 ?_; intro w9 _ HT_ HW_
   refine pA 0 (some 19) (bz 12 1) HT_ ?_
   refine tB 1 (some 20) (bz 12 3) HT_ HW_ ?_
   refine pA 2 (some 21) (bz 12 7) HT_ ?_
   refine tB 3 (some 22) (bz 12 15) HT_ HW_ ?_
   refine pA 4 (some 23) (bz 12 31) HT_ ?_
   refine tB 5 (some 24) (bz 12 63) HT_ HW_ ?_
   refine pA 6 (some 25) (bz 12 127) HT_ ?_
   refine tB 7 (some 26) (bz 12 255) HT_ HW_ ?_
   refine o1 8 (some 27) (bz 12 511) HT_ rfl (kC1 Tryz.func94 (impl_SetJoin.calls (hr0 := pC HR0_2) (hc0 := HC0_2.out) (hr1 := pC HR1_2) (hc1 := HC1_2.out) (w := _) (h := A8.out)) ?_); intro Ao392 co392 w10 _ HO393
   refine nA (some 27) ?_
   refine pA 9 (some 28) (bz 12 1023) HT_ ?_
   refine o1 10 none (bz 12 2047) HT_ rfl (kS ?_)
   refine pA 11 (some 5) (bz 12 4095) HT_ ?_
   refine done_ (done_of HT_.out (by kernel_rfl)) ?_
   try go_wp2
   refine bodyPost_ret (results_ct rfl _ _ gb390 48 #[.int .i64 a0_0, .string a0_1, .slice Ao392 t391.length co392] (0, 0) _ rfl xB Tryz.underlying48 rfl (by kernel_rfl)) rfl ?_
   exact ⟨_, y0_17, rR HO393, UpW.out⟩
  rw [if_neg c7] at H
  have c7b0 : (a0_1.toList == a1_1.toList) = false := beq_eq_false_iff_ne.mpr c7; have c7b1 : (a0_1.toList != a1_1.toList) = true := bne_iff_ne.mpr c7
  (first | rw [c7b0] | (simp only [i64_w, i32_w]; rw [c7b0]) | skip)
  simp only [Option.some.injEq, Prod.mk.injEq] at H
  obtain ⟨rfl, rfl, rfl, rfl⟩ := H
  go_wp2
  refine bodyPost_ret (results_ct rfl _ _ gb390 48 #[.int .i64 0, .string (⟨#[]⟩ : ByteArray), .slice none 0 0] (0, 0) _ rfl xB Tryz.underlying48 rfl (by kernel_rfl)) rfl ?_
  exact ⟨_, y0_17, Kd.R_nil _ _ _ _ _, UpW.out⟩
 rw [if_neg c6] at H
 have c6b0 : (a0_0 == a1_0) = false := beq_eq_false_iff_ne.mpr c6; have c6b1 : (a0_0 != a1_0) = true := bne_iff_ne.mpr c6
 (first | rw [c6b0] | (simp only [i64_w, i32_w]; rw [c6b0]) | skip)
 have H' := Aside0.mk H; clear H
 go_upto_if 17 with fail
 have H := H'.out; clear H'
 simp only [Option.some.injEq, Prod.mk.injEq] at H
 obtain ⟨rfl, rfl, rfl, rfl⟩ := H
 go_wp2
 refine bodyPost_ret (results_ct rfl _ _ gb390 48 #[.int .i64 0, .string (⟨#[]⟩ : ByteArray), .slice none 0 0] (0, 0) _ rfl xB Tryz.underlying48 rfl (by kernel_rfl)) rfl ?_
 exact ⟨_, y0_17, Kd.R_nil _ _ _ _ _, UpW.out⟩
end Go.Proofs.YtdmjhgogljhfkaaGreatDoor.PFnParts
