import Derived.Test.YtdmjhgogljhfkaaGreatDoorPFnPartsx0
import Derived.Test.YtdmjhgogljhfkaaGreatDoorPFnPartsx1
namespace Go.Proofs.YtdmjhgogljhfkaaGreatDoor.PFnParts
open Go.RowKit Go.Proofs.YtdmjhgogljhfkaaGreatDoorW.PrintWords Go.Proofs.YtdmjhgogljhfkaaGreatDoorW.PrintLast Go.Proofs.YtdmjhgogljhfkaaGreatDoorW.PrintMore
attribute [local go_sem] max2_int min2_int max_two min_two max_three min_three max_four min_four
attribute [local go_sem] cell_in frozen_in cell_g cell_p cell_r cell_q
set_option synthInstance.maxSize 1000000
set_option synthInstance.maxHeartbeats 2000000
set_option linter.unusedVariables false
set_option linter.unusedSimpArgs false
set_option maxHeartbeats 8000000
set_option maxRecDepth 100000
def spec_SetOk.l0 : Nat → Int → List Int → Int → Option (Bool)
 | 0, _, _, _ => none
 | k + 1, x0, x1, x5 => if x5 < (x1.length : Int) then (if 0 ≤ x5 then (if (rd x1 x5) < 0 then (some false) else (if (rd x1 x5) ≥ x0 then (some false) else (if x5 > 0 then (if 0 ≤ (wrap64 (x5 - 1)) then (if (wrap64 (x5 - 1)) < (x1.length : Int) then (if (rd x1 (wrap64 (x5 - 1))) ≥ (rd x1 x5) then (some false) else (spec_SetOk.l0 k x0 x1 (wrap64 (x5 + 1)))) else (none)) else (none)) else (spec_SetOk.l0 k x0 x1 (wrap64 (x5 + 1)))))) else (none)) else (some true)
def spec_SetOk.f (k : Nat) (a0 : Int) (l1 : List Int) : Option (Bool) := spec_SetOk.l0 k a0 l1 0
theorem spec_SetOk.calls (k : Nat) (a0 : Int) (A1 : Option Addr) (c1 : Nat) (l1 : List Int) (r : Bool) (w : World) (hr1 : Kd.C (Kd.int .i64) w A1 l1.length l1) (hc1 : l1.length ≤ c1) (h : spec_SetOk.f k a0 l1 = some r) :
  Calls Tryz.prog 111 #[.int .i64 a0, .slice A1 l1.length c1] w fun e w' => e = .returned (.bool r) ∧ Drawn0 w w' := by
 have HR1 := Aside0.mk hr1; have HC1 := Aside0.mk hc1; clear hr1 hc1; have H := h; unfold spec_SetOk.f at H; clear h; have H' := Aside0.mk H; clear H
 go_enter Tryz.func111, Tryz.ntmps111
 go_wp2
 repeat (go_quiet (fail); try go_wp2)
 go_loopg [5] k (fun kq v5 w' => ∃ (x5_1 : Int), v5 = .int .i64 x5_1 ∧ Aside0 (spec_SetOk.l0 kq a0 l1 x5_1 = some r) ∧ Aside0 (kq ≤ k) ∧ Drawn0 w w')
 case atStart => exact ⟨(0), y0_17, H', ⟨Nat.le_refl _⟩, y0_15⟩
 case round =>
  clear H'
  try clear c1
  try clear p2
  obtain ⟨x5_1, rfl, HA, HK1, ⟨m1, rfl⟩⟩ := hrel; cases gk with
  | zero => exact absurd HA.out (by simp [spec_SetOk.l0])
  | succ k1 =>
   have H := HA.out; clear HA
   simp only [spec_SetOk.l0] at H
   by_cases c3 : x5_1 < (l1.length : Int)
   ·
    rw [if_pos c3] at H
    have c3b0 : decide (x5_1 < (l1.length : Int)) = true := decide_eq_true c3; clear c3
    by_cases c4 : 0 ≤ x5_1
    rotate_left
    ·
     rw [if_neg c4] at H
     exact absurd H (by simp)
    rw [if_pos c4] at H
    have c4b0 : decide (0 ≤ x5_1) = true := decide_eq_true c4; clear c4
    by_cases c5 : (rd l1 x5_1) < 0
    ·
     rw [if_pos c5] at H
     have c5b0 : decide ((rd l1 x5_1) < 0) = true := decide_eq_true c5; clear c5; obtain rfl := Option.some.inj H; have p158 : 0 ≤ (x5_1 : Int) := of_decide_eq_true y0_16; have q158 : x5_1 < (l1.length : Int) := of_decide_eq_true y0_16; obtain ⟨ad158, e158, hx158_0⟩ := Kd.at_int HR1.out x5_1 p158 q158; cases e158; replace p158 := eq_true p158; replace q158 := eq_true q158
     go_wp2
     repeat (go_quiet (fail); try go_wp2)
     go_ret
     exact ⟨y0_17, y0_15⟩
    rw [if_neg c5] at H
    have c5b0 : decide ((rd l1 x5_1) < 0) = false := decide_eq_false c5; clear c5
    by_cases c6 : (rd l1 x5_1) ≥ a0
    ·
     rw [if_pos c6] at H
     have c6b0 : decide (a0 ≤ (rd l1 x5_1)) = true := decide_eq_true c6; clear c6; obtain rfl := Option.some.inj H; have p158 : 0 ≤ (x5_1 : Int) := of_decide_eq_true y0_16; have q158 : x5_1 < (l1.length : Int) := of_decide_eq_true y0_16; obtain ⟨ad158, e158, hx158_0⟩ := Kd.at_int HR1.out x5_1 p158 q158; cases e158; replace p158 := eq_true p158; replace q158 := eq_true q158; have p159 : 0 ≤ (x5_1 : Int) := of_decide_eq_true y0_16; have q159 : x5_1 < (l1.length : Int) := of_decide_eq_true y0_16; obtain ⟨ad159, e159, hx159_0⟩ := Kd.at_int HR1.out x5_1 p159 q159
     obtain rfl : ad158 = ad159 := (by injection e159)
     replace p159 := eq_true p159; replace q159 := eq_true q159
     go_wp2
     repeat (go_quiet (fail); try go_wp2)
     go_ret
     exact ⟨y0_17, y0_15⟩
    rw [if_neg c6] at H
    have c6b0 : decide (a0 ≤ (rd l1 x5_1)) = false := decide_eq_false c6; clear c6
    by_cases c7 : x5_1 > 0
    ·
     rw [if_pos c7] at H
     have c7b0 : decide (0 < x5_1) = true := decide_eq_true c7; clear c7; obtain ⟨ji8, hji8⟩ : ∃ j_ : Int, (wrap64 (x5_1 - 1)) = j_ := ⟨_, rfl⟩
     replace H : (if 0 ≤ (ji8) then (if (ji8) < (l1.length : Int) then (if (rd l1 (ji8)) ≥ (rd l1 x5_1) then (some false) else (spec_SetOk.l0 k1 a0 l1 (wrap64 (x5_1 + 1)))) else (none)) else (none)) = some r := by first | (rw [hji8] at H; exact H) | (simp only [hji8] at H ⊢; exact H)
     have hji8w : (IntKind.i64.wrap (x5_1 - 1)) = ji8 := (i64_w _).trans hji8
     by_cases c9 : 0 ≤ (ji8)
     rotate_left
     ·
      rw [if_neg c9] at H
      exact absurd H (by simp)
     rw [if_pos c9] at H
     have c9b0 : decide (0 ≤ (ji8)) = true := decide_eq_true c9; clear c9
     by_cases c10 : (ji8) < (l1.length : Int)
     rotate_left
     ·
      rw [if_neg c10] at H
      exact absurd H (by simp)
     rw [if_pos c10] at H
     have c10b0 : decide ((ji8) < (l1.length : Int)) = true := decide_eq_true c10; clear c10
     by_cases c11 : (rd l1 (ji8)) ≥ (rd l1 x5_1)
     ·
      rw [if_pos c11] at H
      have c11b0 : decide ((rd l1 x5_1) ≤ (rd l1 (ji8))) = true := decide_eq_true c11; clear c11; obtain rfl := Option.some.inj H; have p158 : 0 ≤ (x5_1 : Int) := of_decide_eq_true y0_16; have q158 : x5_1 < (l1.length : Int) := of_decide_eq_true y0_16; obtain ⟨ad158, e158, hx158_0⟩ := Kd.at_int HR1.out x5_1 p158 q158; cases e158; replace p158 := eq_true p158; replace q158 := eq_true q158; have p159 : 0 ≤ (x5_1 : Int) := of_decide_eq_true y0_16; have q159 : x5_1 < (l1.length : Int) := of_decide_eq_true y0_16; obtain ⟨ad159, e159, hx159_0⟩ := Kd.at_int HR1.out x5_1 p159 q159
      obtain rfl : ad158 = ad159 := (by injection e159)
      replace p159 := eq_true p159; replace q159 := eq_true q159; have p160 : 0 ≤ ((ji8) : Int) := of_decide_eq_true y0_16; have q160 : (ji8) < (l1.length : Int) := of_decide_eq_true y0_16; obtain ⟨ad160, e160, hx160_0⟩ := Kd.at_int HR1.out (ji8) p160 q160
      obtain rfl : ad158 = ad160 := (by injection e160)
      replace p160 := eq_true p160; replace q160 := eq_true q160; have p161 : 0 ≤ (x5_1 : Int) := of_decide_eq_true y0_16; have q161 : x5_1 < (l1.length : Int) := of_decide_eq_true y0_16; obtain ⟨ad161, e161, hx161_0⟩ := Kd.at_int HR1.out x5_1 p161 q161
      obtain rfl : ad158 = ad161 := (by injection e161)
      replace p161 := eq_true p161; replace q161 := eq_true q161
      go_wp2
      repeat (go_quiet (fail); try go_wp2)
      go_ret
      exact ⟨by first | rfl | (simp; done) | (simp only [← hji8] <;> (first | rfl | simp)) | (simp [*]; done), y0_15⟩
     rw [if_neg c11] at H
     have c11b0 : decide ((rd l1 x5_1) ≤ (rd l1 (ji8))) = false := decide_eq_false c11; clear c11; have H' := Aside0.mk H; clear H; have p158 : 0 ≤ (x5_1 : Int) := of_decide_eq_true y0_16; have q158 : x5_1 < (l1.length : Int) := of_decide_eq_true y0_16; obtain ⟨ad158, e158, hx158_0⟩ := Kd.at_int HR1.out x5_1 p158 q158; cases e158; replace p158 := eq_true p158; replace q158 := eq_true q158; have p159 : 0 ≤ (x5_1 : Int) := of_decide_eq_true y0_16; have q159 : x5_1 < (l1.length : Int) := of_decide_eq_true y0_16; obtain ⟨ad159, e159, hx159_0⟩ := Kd.at_int HR1.out x5_1 p159 q159
     obtain rfl : ad158 = ad159 := (by injection e159)
     replace p159 := eq_true p159; replace q159 := eq_true q159; have p160 : 0 ≤ ((ji8) : Int) := of_decide_eq_true y0_16; have q160 : (ji8) < (l1.length : Int) := of_decide_eq_true y0_16; obtain ⟨ad160, e160, hx160_0⟩ := Kd.at_int HR1.out (ji8) p160 q160
     obtain rfl : ad158 = ad160 := (by injection e160)
     replace p160 := eq_true p160; replace q160 := eq_true q160; have p161 : 0 ≤ (x5_1 : Int) := of_decide_eq_true y0_16; have q161 : x5_1 < (l1.length : Int) := of_decide_eq_true y0_16; obtain ⟨ad161, e161, hx161_0⟩ := Kd.at_int HR1.out x5_1 p161 q161
     obtain rfl : ad158 = ad161 := (by injection e161)
     replace p161 := eq_true p161; replace q161 := eq_true q161
     go_wp2
     repeat (go_quiet (fail); try go_wp2)
     go_roundg k1
     case measure => have := HK1.out; omega
     case rel => exact ⟨(wrap64 (x5_1 + 1)), y0_17, H', ⟨y0_20⟩, y0_15⟩
    rw [if_neg c7] at H
    have c7b0 : decide (0 < x5_1) = false := decide_eq_false c7; clear c7; have H' := Aside0.mk H; clear H; have p158 : 0 ≤ (x5_1 : Int) := of_decide_eq_true y0_16; have q158 : x5_1 < (l1.length : Int) := of_decide_eq_true y0_16; obtain ⟨ad158, e158, hx158_0⟩ := Kd.at_int HR1.out x5_1 p158 q158; cases e158; replace p158 := eq_true p158; replace q158 := eq_true q158; have p159 : 0 ≤ (x5_1 : Int) := of_decide_eq_true y0_16; have q159 : x5_1 < (l1.length : Int) := of_decide_eq_true y0_16; obtain ⟨ad159, e159, hx159_0⟩ := Kd.at_int HR1.out x5_1 p159 q159
    obtain rfl : ad158 = ad159 := (by injection e159)
    replace p159 := eq_true p159; replace q159 := eq_true q159
    go_wp2
    repeat (go_quiet (fail); try go_wp2)
    go_roundg k1
    case measure => have := HK1.out; omega
    case rel => exact ⟨(wrap64 (x5_1 + 1)), y0_17, H', ⟨y0_20⟩, y0_15⟩
   rw [if_neg c3] at H
   have c3b0 : decide (x5_1 < (l1.length : Int)) = false := decide_eq_false c3; clear c3; obtain rfl := Option.some.inj H
   go_wp2
   repeat (go_quiet (fail); try go_wp2)
   go_ret
   exact ⟨y0_17, y0_15⟩
def spec_Split.l0 : Nat → ByteArray → Int → List ByteArray → Int → Int → Option (List ByteArray)
 | 0, _, _, _, _, _ => none
 | k + 1, x0, x1, x5, x6, x7 => if x7 ≤ (x0.size : Int) then (if x7 = (x0.size : Int) then (if 0 ≤ x6 then (if x6 ≤ x7 then (if x5.length < 8796093022208 then (spec_Split.l0 k x0 x1 (x5 ++ [x0.extract (x6 : Int).toNat (x7 : Int).toNat]) (wrap64 (x7 + 1)) (wrap64 (x7 + 1))) else (none)) else (none)) else (none)) else (if 0 ≤ x7 then (if x7 < (x0.size : Int) then (if (bt x0 x7) = x1 then (if 0 ≤ x6 then (if x6 ≤ x7 then (if x5.length < 8796093022208 then (spec_Split.l0 k x0 x1 (x5 ++ [x0.extract (x6 : Int).toNat (x7 : Int).toNat]) (wrap64 (x7 + 1)) (wrap64 (x7 + 1))) else (none)) else (none)) else (none)) else (spec_Split.l0 k x0 x1 x5 x6 (wrap64 (x7 + 1)))) else (none)) else (none))) else (some x5)
def spec_Split.f (k : Nat) (a0 : ByteArray) (a1 : Int) : Option (List ByteArray) := spec_Split.l0 k a0 a1 (([] : List ByteArray)) 0 0
theorem spec_Split.mono_l : ∀ k, (∀ y0 y1 y2 y3 y4, LeO (spec_Split.l0 k y0 y1 y2 y3 y4) (spec_Split.l0 (k + 1) y0 y1 y2 y3 y4))
 | 0 => fun _ _ _ _ _ r h => by simp [spec_Split.l0] at h
 | k + 1 => by
  have ih0 := spec_Split.mono_l k
  intro y0 y1 y2 y3 y4
  unfold spec_Split.l0
  repeat' first | (with_reducible exact ih0 _ _ _ _ _) | (with_reducible exact LeO.refl _) | (with_reducible exact LeO.none _) | (with_reducible refine LeO.ite ?_ ?_) | (with_reducible refine LeO.bind ?_ (fun _ => ?_))
theorem spec_Split.mono : ∀ a0 a1 k, LeO (spec_Split.f k a0 a1) (spec_Split.f (k + 1) a0 a1) := by
 intro a0 a1 k
 have ih0 := spec_Split.mono_l k
 unfold spec_Split.f
 repeat' first | (with_reducible exact ih0 _ _ _ _ _) | (with_reducible exact LeO.refl _) | (with_reducible exact LeO.none _) | (with_reducible refine LeO.ite ?_ ?_) | (with_reducible refine LeO.bind ?_ (fun _ => ?_))
theorem spec_Split.calls (k : Nat) (a0 : ByteArray) (a1 : Int) (r : List ByteArray) (w : World) (h : spec_Split.f k a0 a1 = some r) :
  Calls Tryz.prog 178 #[.string a0, .int .u8 a1] w fun e w' => ∃ v0_ : Value, e = .returned (v0_) ∧ Kd.R Kd.string 9 w' w.heap.size (fun _ => True) v0_ r ∧ Below w.heap.size w w' := by
 have HB := Aside0.mk (Below.refl w.heap.size w); have H := h; unfold spec_Split.f at H; clear h; obtain ⟨y162, hy162⟩ : ∃ y_ : List ByteArray, y_ = (([] : List ByteArray)) := ⟨_, rfl⟩
 replace H : (spec_Split.l0 k a0 a1 y162 0 0) = some r := by first | (rw [hy162]; with_reducible exact H) | (rw [hy162]; with_reducible exact (Option.bind_some _ _).symm.trans H) | (rw [hy162]; exact H) | exact H
 have Ny162 := Aside0.mk hy162; clear hy162
 go_enter Tryz.func178, Tryz.ntmps178
 have H' := Aside0.mk H; clear H
 go_wp2_with (first | ((with_reducible refine gate_dst (N := 8) rfl ?_); refine lL 8 9 Kd.string rfl Ny162 ?_; intro Ao163 co163 w3 _ HO164))
 refine wC ?_; intro w4 _
 go_loopg [5, 6, 7] k (fun kq v5 v6 v7 w' => ∃ (x5_1 : List ByteArray) (x6_1 : Int) (x7_1 : Int) (Ao5_1 : Option Addr) (co5_1 : Nat), v5 = .slice Ao5_1 x5_1.length co5_1 ∧ v6 = .int .i64 x6_1 ∧ v7 = .int .i64 x7_1 ∧ Aside0 (spec_Split.l0 kq a0 a1 x5_1 x6_1 x7_1 = some r) ∧ Aside0 (kq ≤ k) ∧ Aside0 (Kd.R Kd.string 9 w' w.heap.size (iv w w') (.slice Ao5_1 x5_1.length co5_1) x5_1) ∧ KT w4 [] w _ Kd.string 9 w' ∧ LB w w')
 case atStart => exact ⟨(y162), (0), (0), (Ao163), (co163), y0_17, y0_17, y0_17, H', ⟨Nat.le_refl _⟩, ⟨rJ HO164⟩, ⟨UpT.out⟩, ⟨UpW.out⟩⟩
 case round =>
  clear H'; obtain ⟨x5_1, x6_1, x7_1, Ao5_1, co5_1, rfl, rfl, rfl, HA, HK1, HO_5, _, _⟩ := hrel; have HO_8 := HO164; cases gk with
  | zero => exact absurd HA.out (by simp [spec_Split.l0])
  | succ k1 =>
   have H := HA.out; clear HA
   simp only [spec_Split.l0] at H
   by_cases c5 : x7_1 ≤ (a0.size : Int)
   ·
    rw [if_pos c5] at H
    have c5b0 : decide (x7_1 ≤ (a0.size : Int)) = true := decide_eq_true c5; clear c5
    by_cases c6 : x7_1 = (a0.size : Int)
    ·
     rw [if_pos c6] at H
     have c6b0 : (x7_1 == (a0.size : Int)) = true := beq_iff_eq.mpr c6; have c6b1 : (x7_1 != (a0.size : Int)) = false := bne_eq_false_iff_eq.mpr c6; clear c6
     by_cases c7 : 0 ≤ x6_1
     rotate_left
     ·
      rw [if_neg c7] at H
      exact absurd H (by simp)
     rw [if_pos c7] at H
     have c7b0 := eq_true c7; have c7b1 : decide (0 ≤ x6_1) = true := decide_eq_true c7; clear c7
     by_cases c8 : x6_1 ≤ x7_1
     rotate_left
     ·
      rw [if_neg c8] at H
      exact absurd H (by simp)
     rw [if_pos c8] at H
     have c8b0 := eq_true c8; have c8b1 : decide (x6_1 ≤ x7_1) = true := decide_eq_true c8; clear c8; have c9b0 := eq_true (of_decide_eq_true y0_16 : x7_1 ≤ (a0.size : Int))
     by_cases c10 : x5_1.length < 8796093022208
     rotate_left
     ·
      rw [if_neg c10] at H
      exact absurd H (by simp)
     rw [if_pos c10] at H
     have LMc10 := Aside0.mk c10; clear c10; obtain ⟨y165, hy165⟩ : ∃ y_ : List ByteArray, y_ = (x5_1 ++ [a0.extract (x6_1 : Int).toNat (x7_1 : Int).toNat]) := ⟨_, rfl⟩
     replace H : (spec_Split.l0 k1 a0 a1 y165 (wrap64 (x7_1 + 1)) (wrap64 (x7_1 + 1))) = some r := by first | (rw [hy165]; with_reducible exact H) | (rw [hy165]; with_reducible exact (Option.bind_some _ _).symm.trans H) | (rw [hy165]; exact H) | exact H
     have Ny165 := Aside0.mk hy165; clear hy165; have H' := Aside0.mk H; clear H
     go_wp2_with (first | ((with_reducible refine gate_builtin (b := .append) (xs := #[.tmp 26, .tmp 31]) rfl ?_); at_builtin; refine gA Kd.string (.tmp 26) (.tmp 31) 178 9 (.string ⟨#[]⟩) 16 (a0.extract (x6_1 : Int).toNat (x7_1 : Int).toNat) [.string (a0.extract (x6_1 : Int).toNat (x7_1 : Int).toNat)] w Ny165 HO_5 rfl (by have := LMc10.out; omega) ?_ (ht := Tryz.underlying178) (hinfo := info9); intro Ao166 co166 w11 _ _ HO167))
     go_roundg k1
     case measure => have := HK1.out; omega
     case rel => exact ⟨(y165), (wrap64 (x7_1 + 1)), (wrap64 (x7_1 + 1)), (Ao166), (co166), y0_17, y0_17, y0_17, H', ⟨y0_20⟩, ⟨rJ HO167⟩, ⟨UpT.out⟩, ⟨UpW.out⟩⟩
    rw [if_neg c6] at H
    have c6b0 : (x7_1 == (a0.size : Int)) = false := beq_eq_false_iff_ne.mpr c6; have c6b1 : (x7_1 != (a0.size : Int)) = true := bne_iff_ne.mpr c6
    by_cases c12 : 0 ≤ x7_1
    rotate_left
    ·
     rw [if_neg c12] at H
     exact absurd H (by simp)
    rw [if_pos c12] at H
    have c12b0 : decide (0 ≤ x7_1) = true := decide_eq_true c12; clear c12
    by_cases c13 : x7_1 < (a0.size : Int)
    rotate_left
    ·
     rw [if_neg c13] at H
     exact absurd H (by simp)
    rw [if_pos c13] at H
    have c13b0 : decide (x7_1 < (a0.size : Int)) = true := decide_eq_true c13; clear c13; have H' := Aside0.mk H; clear H; have p14 : 0 ≤ (x7_1 : Int) := of_decide_eq_true y0_16; have q14 : x7_1 < (a0.size : Int) := of_decide_eq_true y0_16; have hx14 := bt_at a0 x7_1; replace p14 := eq_true p14; replace q14 := eq_true q14
    go_upto_if 25 with fail
    have H := H'.out; clear H'
    by_cases c15 : (bt a0 x7_1) = a1
    ·
     rw [if_pos c15] at H
     have c15b0 : ((bt a0 x7_1) == a1) = true := beq_iff_eq.mpr c15; have c15b1 : ((bt a0 x7_1) != a1) = false := bne_eq_false_iff_eq.mpr c15; clear c15
     (first | rw [c15b0] | (simp only [i64_w, i32_w]; rw [c15b0]) | skip)
     by_cases c16 : 0 ≤ x6_1
     rotate_left
     ·
      rw [if_neg c16] at H
      exact absurd H (by simp)
     rw [if_pos c16] at H
     have c16b0 := eq_true c16; have c16b1 : decide (0 ≤ x6_1) = true := decide_eq_true c16; clear c16
     by_cases c17 : x6_1 ≤ x7_1
     rotate_left
     ·
      rw [if_neg c17] at H
      exact absurd H (by simp)
     rw [if_pos c17] at H
     have c17b0 := eq_true c17; have c17b1 : decide (x6_1 ≤ x7_1) = true := decide_eq_true c17; clear c17; have c18b0 := eq_true (of_decide_eq_true y0_16 : x7_1 ≤ (a0.size : Int))
     by_cases c19 : x5_1.length < 8796093022208
     rotate_left
     ·
      rw [if_neg c19] at H
      exact absurd H (by simp)
     rw [if_pos c19] at H
     have LMc19 := Aside0.mk c19; clear c19; obtain ⟨y168, hy168⟩ : ∃ y_ : List ByteArray, y_ = (x5_1 ++ [a0.extract (x6_1 : Int).toNat (x7_1 : Int).toNat]) := ⟨_, rfl⟩
     replace H : (spec_Split.l0 k1 a0 a1 y168 (wrap64 (x7_1 + 1)) (wrap64 (x7_1 + 1))) = some r := by first | (rw [hy168]; with_reducible exact H) | (rw [hy168]; with_reducible exact (Option.bind_some _ _).symm.trans H) | (rw [hy168]; exact H) | exact H
     have Ny168 := Aside0.mk hy168; clear hy168; have H' := Aside0.mk H; clear H
     go_wp2_with (first | ((with_reducible refine gate_builtin (b := .append) (xs := #[.tmp 26, .tmp 31]) rfl ?_); at_builtin; refine gA Kd.string (.tmp 26) (.tmp 31) 178 9 (.string ⟨#[]⟩) 16 (a0.extract (x6_1 : Int).toNat (x7_1 : Int).toNat) [.string (a0.extract (x6_1 : Int).toNat (x7_1 : Int).toNat)] w Ny168 HO_5 rfl (by have := LMc19.out; omega) ?_ (ht := Tryz.underlying178) (hinfo := info9); intro Ao169 co169 w20 _ _ HO170))
     go_roundg k1
     case measure => have := HK1.out; omega
     case rel => exact ⟨(y168), (wrap64 (x7_1 + 1)), (wrap64 (x7_1 + 1)), (Ao169), (co169), y0_17, y0_17, y0_17, H', ⟨y0_20⟩, ⟨rJ HO170⟩, ⟨UpT.out⟩, ⟨UpW.out⟩⟩
    rw [if_neg c15] at H
    have c15b0 : ((bt a0 x7_1) == a1) = false := beq_eq_false_iff_ne.mpr c15; have c15b1 : ((bt a0 x7_1) != a1) = true := bne_iff_ne.mpr c15
    (first | rw [c15b0] | (simp only [i64_w, i32_w]; rw [c15b0]) | skip)
    have H' := Aside0.mk H; clear H
    go_wp2
    go_roundg k1
    case measure => have := HK1.out; omega
    case rel => exact ⟨(x5_1), (x6_1), (wrap64 (x7_1 + 1)), (Ao5_1), (co5_1), y0_17, y0_17, y0_17, H', ⟨y0_20⟩, ⟨rJ HO_5⟩, ⟨UpT.out⟩, ⟨UpW.out⟩⟩
   rw [if_neg c5] at H
   have c5b0 : decide (x7_1 ≤ (a0.size : Int)) = false := decide_eq_false c5; clear c5; obtain rfl := Option.some.inj H
   go_wp2
   go_ret
   exact ⟨_, y0_17, rR HO_5, UpW.out⟩
def spec_l2Cut.l0 : Nat → ByteArray → Int → Int → Option (ByteArray × ByteArray × Bool)
 | 0, _, _, _ => none
 | k + 1, x0, x1, x7 => if x7 < (x0.size : Int) then (if 0 ≤ x7 then (if (bt x0 x7) = x1 then (if x7 ≤ (x0.size : Int) then (if 0 ≤ (wrap64 (x7 + 1)) then (if (wrap64 (x7 + 1)) ≤ (x0.size : Int) then (some (x0.extract 0 (x7 : Int).toNat, x0.extract ((wrap64 (x7 + 1)) : Int).toNat x0.size, true)) else (none)) else (none)) else (none)) else (spec_l2Cut.l0 k x0 x1 (wrap64 (x7 + 1)))) else (none)) else (some ((⟨#[]⟩ : ByteArray), (⟨#[]⟩ : ByteArray), false))
def spec_l2Cut.f (k : Nat) (a0 : ByteArray) (a1 : Int) : Option (ByteArray × ByteArray × Bool) := spec_l2Cut.l0 k a0 a1 0
theorem spec_l2Cut.mono_l : ∀ k, (∀ y0 y1 y2, LeO (spec_l2Cut.l0 k y0 y1 y2) (spec_l2Cut.l0 (k + 1) y0 y1 y2))
 | 0 => fun _ _ _ r h => by simp [spec_l2Cut.l0] at h
 | k + 1 => by
  have ih0 := spec_l2Cut.mono_l k
  intro y0 y1 y2
  unfold spec_l2Cut.l0
  repeat' first | (with_reducible exact ih0 _ _ _) | (with_reducible exact LeO.refl _) | (with_reducible exact LeO.none _) | (with_reducible refine LeO.ite ?_ ?_) | (with_reducible refine LeO.bind ?_ (fun _ => ?_))
theorem spec_l2Cut.mono : ∀ a0 a1 k, LeO (spec_l2Cut.f k a0 a1) (spec_l2Cut.f (k + 1) a0 a1) := by
 intro a0 a1 k
 have ih0 := spec_l2Cut.mono_l k
 unfold spec_l2Cut.f
 repeat' first | (with_reducible exact ih0 _ _ _) | (with_reducible exact LeO.refl _) | (with_reducible exact LeO.none _) | (with_reducible refine LeO.ite ?_ ?_) | (with_reducible refine LeO.bind ?_ (fun _ => ?_))
theorem spec_l2Cut.calls (k : Nat) (a0 : ByteArray) (a1 : Int) (r1 : ByteArray) (r2 : ByteArray) (r3 : Bool) (w : World) (h : spec_l2Cut.f k a0 a1 = some (r1, r2, r3)) :
  Calls Tryz.prog 179 #[.string a0, .int .u8 a1] w fun e w' => e = .returned (.tuple #[.string r1, .string r2, .bool r3]) ∧ Drawn0 w w' := by
 have H := h; unfold spec_l2Cut.f at H; clear h; have H' := Aside0.mk H; clear H
 go_enter Tryz.func179, Tryz.ntmps179
 go_wp2
 repeat (go_quiet (fail); try go_wp2)
 go_loopg [7] k (fun kq v7 w' => ∃ (x7_1 : Int), v7 = .int .i64 x7_1 ∧ Aside0 (spec_l2Cut.l0 kq a0 a1 x7_1 = some (r1, r2, r3)) ∧ Aside0 (kq ≤ k) ∧ Drawn0 w w')
 case atStart => exact ⟨(0), y0_17, H', ⟨Nat.le_refl _⟩, y0_15⟩
 case round =>
  clear H'
  try clear c1
  try clear p2
  obtain ⟨x7_1, rfl, HA, HK1, ⟨m1, rfl⟩⟩ := hrel; cases gk with
  | zero => exact absurd HA.out (by simp [spec_l2Cut.l0])
  | succ k1 =>
   have H := HA.out; clear HA
   simp only [spec_l2Cut.l0] at H
   by_cases c3 : x7_1 < (a0.size : Int)
   ·
    rw [if_pos c3] at H
    have c3b0 : decide (x7_1 < (a0.size : Int)) = true := decide_eq_true c3; clear c3
    by_cases c4 : 0 ≤ x7_1
    rotate_left
    ·
     rw [if_neg c4] at H
     exact absurd H (by simp)
    rw [if_pos c4] at H
    have c4b0 : decide (0 ≤ x7_1) = true := decide_eq_true c4; clear c4
    by_cases c6 : (bt a0 x7_1) = a1
    ·
     rw [if_pos c6] at H
     have c6b0 : ((bt a0 x7_1) == a1) = true := beq_iff_eq.mpr c6; have c6b1 : ((bt a0 x7_1) != a1) = false := bne_eq_false_iff_eq.mpr c6; clear c6; have c7b0 := eq_true (of_decide_eq_true y0_16 : 0 ≤ x7_1)
     by_cases c8 : x7_1 ≤ (a0.size : Int)
     rotate_left
     ·
      rw [if_neg c8] at H
      exact absurd H (by simp)
     rw [if_pos c8] at H
     have c8b0 := eq_true c8; have c8b1 : decide (x7_1 ≤ (a0.size : Int)) = true := decide_eq_true c8; clear c8; obtain ⟨ji9, hji9⟩ : ∃ j_ : Int, (wrap64 (x7_1 + 1)) = j_ := ⟨_, rfl⟩
     replace H : (if 0 ≤ (ji9) then (if (ji9) ≤ (a0.size : Int) then (some (a0.extract 0 (x7_1 : Int).toNat, a0.extract ((ji9) : Int).toNat a0.size, true)) else (none)) else (none)) = some (r1, r2, r3) := by first | (rw [hji9] at H; exact H) | (simp only [hji9] at H ⊢; exact H)
     have hji9w : (IntKind.i64.wrap (x7_1 + 1)) = ji9 := (i64_w _).trans hji9
     by_cases c10 : 0 ≤ (ji9)
     rotate_left
     ·
      rw [if_neg c10] at H
      exact absurd H (by simp)
     rw [if_pos c10] at H
     have c10b0 := eq_true c10; have c10b1 : decide (0 ≤ (ji9)) = true := decide_eq_true c10; clear c10
     by_cases c11 : (ji9) ≤ (a0.size : Int)
     rotate_left
     ·
      rw [if_neg c11] at H
      exact absurd H (by simp)
     rw [if_pos c11] at H
     have c11b0 := eq_true c11; have c11b1 : decide ((ji9) ≤ (a0.size : Int)) = true := decide_eq_true c11; clear c11
     simp only [Option.some.injEq, Prod.mk.injEq] at H
     obtain ⟨rfl, rfl, rfl⟩ := H; have p5 : 0 ≤ (x7_1 : Int) := of_decide_eq_true y0_16; have q5 : x7_1 < (a0.size : Int) := of_decide_eq_true y0_16; have hx5 := bt_at a0 x7_1; replace p5 := eq_true p5; replace q5 := eq_true q5
     go_wp2
     repeat (go_quiet (fail); try go_wp2)
     go_ret3
     exact ⟨by first | rfl | (simp; done) | (simp only [← hji9] <;> (first | rfl | simp)) | (simp [*]; done), y0_15⟩
    rw [if_neg c6] at H
    have c6b0 : ((bt a0 x7_1) == a1) = false := beq_eq_false_iff_ne.mpr c6; have c6b1 : ((bt a0 x7_1) != a1) = true := bne_iff_ne.mpr c6; have H' := Aside0.mk H; clear H; have p5 : 0 ≤ (x7_1 : Int) := of_decide_eq_true y0_16; have q5 : x7_1 < (a0.size : Int) := of_decide_eq_true y0_16; have hx5 := bt_at a0 x7_1; replace p5 := eq_true p5; replace q5 := eq_true q5
    go_wp2
    repeat (go_quiet (fail); try go_wp2)
    go_roundg k1
    case measure => have := HK1.out; omega
    case rel => exact ⟨(wrap64 (x7_1 + 1)), y0_17, H', ⟨y0_20⟩, y0_15⟩
   rw [if_neg c3] at H
   have c3b0 : decide (x7_1 < (a0.size : Int)) = false := decide_eq_false c3; clear c3
   simp only [Option.some.injEq, Prod.mk.injEq] at H
   obtain ⟨rfl, rfl, rfl⟩ := H
   go_wp2
   repeat (go_quiet (fail); try go_wp2)
   go_ret3
   exact ⟨y0_17, y0_15⟩
def spec_Digits.l0 : Nat → Int → Bool → ByteArray → Option (ByteArray)
 | 0, _, _, _ => none
 | k + 1, x0, x3, x4 => if x0 = 0 then (if x3 = true then (if 1 + x4.size ≤ 9223372036854775807 then (some ((⟨#[45]⟩ : ByteArray) ++ x4)) else (none)) else (some x4)) else (if (Int.tmod x0 10) < 0 then ((some (([(wrap64 (48 + (wrap64 (-(Int.tmod x0 10))))) % 256] : List Int) : List Int)).bind fun y171 => (if (strOfNums y171).size + x4.size ≤ 9223372036854775807 then (spec_Digits.l0 k (wrap64 (Int.tdiv x0 10)) x3 ((strOfNums y171) ++ x4)) else (none))) else ((some (([(wrap64 (48 + (Int.tmod x0 10))) % 256] : List Int) : List Int)).bind fun y174 => (if (strOfNums y174).size + x4.size ≤ 9223372036854775807 then (spec_Digits.l0 k (wrap64 (Int.tdiv x0 10)) x3 ((strOfNums y174) ++ x4)) else (none))))
def spec_Digits.f (k : Nat) (a0 : Int) : Option (ByteArray) := if a0 = 0 then (some (⟨#[48]⟩ : ByteArray)) else (spec_Digits.l0 k a0 (decide (a0 < 0)) (⟨#[]⟩ : ByteArray))
theorem spec_Digits.mono_l : ∀ k, (∀ y0 y1 y2, LeO (spec_Digits.l0 k y0 y1 y2) (spec_Digits.l0 (k + 1) y0 y1 y2))
 | 0 => fun _ _ _ r h => by simp [spec_Digits.l0] at h
 | k + 1 => by
  have ih0 := spec_Digits.mono_l k
  intro y0 y1 y2
  unfold spec_Digits.l0
  repeat' first | (with_reducible exact ih0 _ _ _) | (with_reducible exact LeO.refl _) | (with_reducible exact LeO.none _) | (with_reducible refine LeO.ite ?_ ?_) | (with_reducible refine LeO.bind ?_ (fun _ => ?_))
theorem spec_Digits.mono : ∀ a0 k, LeO (spec_Digits.f k a0) (spec_Digits.f (k + 1) a0) := by
 intro a0 k
 have ih0 := spec_Digits.mono_l k
 unfold spec_Digits.f
 repeat' first | (with_reducible exact ih0 _ _ _) | (with_reducible exact LeO.refl _) | (with_reducible exact LeO.none _) | (with_reducible refine LeO.ite ?_ ?_) | (with_reducible refine LeO.bind ?_ (fun _ => ?_))
theorem spec_Digits.calls (k : Nat) (a0 : Int) (r : ByteArray) (w : World) (h : spec_Digits.f k a0 = some r) :
  Calls Tryz.prog 166 #[.int .i64 a0] w fun e w' => e = .returned (.string r) ∧ Below w.heap.size w w' := by
 have HB := Aside0.mk (Below.refl w.heap.size w); have H := h; unfold spec_Digits.f at H; clear h
 by_cases c2 : a0 = 0
 ·
  rw [if_pos c2] at H
  have c2b0 : (a0 == 0) = true := beq_iff_eq.mpr c2; have c2b1 : (a0 != 0) = false := bne_eq_false_iff_eq.mpr c2; clear c2; obtain rfl := Option.some.inj H
  go_enter Tryz.func166, Tryz.ntmps166
  go_wp2
  go_ret
  exact ⟨y0_12, bI HB.out⟩
 rw [if_neg c2] at H
 have c2b0 : (a0 == 0) = false := beq_eq_false_iff_ne.mpr c2; have c2b1 : (a0 != 0) = true := bne_iff_ne.mpr c2; have H' := Aside0.mk H; clear H
 go_enter Tryz.func166, Tryz.ntmps166
 go_wp2
 go_loopg [0, 4] k (fun kq v0 v4 w' => ∃ (x0_1 : Int) (x4_1 : ByteArray), v0 = .int .i64 x0_1 ∧ v4 = .string x4_1 ∧ Aside0 (spec_Digits.l0 kq x0_1 (decide (a0 < 0)) x4_1 = some r) ∧ Aside0 (kq ≤ k) ∧ Aside0 (Below w.heap.size w w'))
 case atStart => exact ⟨(a0), ((⟨#[]⟩ : ByteArray)), y0_17, y0_17, H', ⟨Nat.le_refl _⟩, ⟨bI HB.out⟩⟩
 case round =>
  clear H'
  try clear c1
  try clear c2
  try clear c2b0
  try clear c2b1
  try clear p2
  obtain ⟨x0_1, x4_1, rfl, rfl, HA, HK1, HB⟩ := hrel; cases gk with
  | zero => exact absurd HA.out (by simp [spec_Digits.l0])
  | succ k1 =>
   have H := HA.out; clear HA
   simp only [spec_Digits.l0] at H
   by_cases c3 : x0_1 = 0
   ·
    rw [if_pos c3] at H
    have c3b0 : (x0_1 == 0) = true := beq_iff_eq.mpr c3; have c3b1 : (x0_1 != 0) = false := bne_eq_false_iff_eq.mpr c3; clear c3
    by_cases c4 : (decide (a0 < 0)) = true
    ·
     rw [if_pos c4] at H
     have c4b0 : (decide (a0 < 0)) = true := c4
     (try simp only [c4b0])
     clear c4
     by_cases c5 : 1 + x4_1.size ≤ 9223372036854775807
     rotate_left
     ·
      rw [if_neg c5] at H
      exact absurd H (by simp)
     rw [if_pos c5] at H
     have c5b0 := eq_true c5; have c5b1 : decide (1 + x4_1.size ≤ 9223372036854775807) = true := decide_eq_true c5
     try have c5b2 : (9223372036854775807 < 1 + x4_1.size) = False := eq_false (Nat.not_lt.2 c5)
     obtain rfl := Option.some.inj H
     go_wp2
     go_ret
     exact ⟨y0_12, bI HB.out⟩
    rw [if_neg c4] at H
    have c4b0 : (decide (a0 < 0)) = false := by simpa using c4
    (try simp only [c4b0])
    clear c4; obtain rfl := Option.some.inj H
    go_wp2
    go_ret
    exact ⟨y0_12, bI HB.out⟩
   rw [if_neg c3] at H
   have c3b0 : (x0_1 == 0) = false := beq_eq_false_iff_ne.mpr c3; have c3b1 : (x0_1 != 0) = true := bne_iff_ne.mpr c3
   by_cases c6 : (Int.tmod x0_1 10) < 0
   ·
    rw [if_pos c6] at H
    have c6b0 : decide ((Int.tmod x0_1 10) < 0) = true := decide_eq_true c6; clear c6; obtain ⟨y171, hy171⟩ : ∃ y_ : List Int, y_ = (([(wrap64 (48 + (wrap64 (-(Int.tmod x0_1 10))))) % 256] : List Int)) := ⟨_, rfl⟩
    replace H : (if (strOfNums y171).size + x4_1.size ≤ 9223372036854775807 then (spec_Digits.l0 k1 (wrap64 (Int.tdiv x0_1 10)) (decide (a0 < 0)) ((strOfNums y171) ++ x4_1)) else (none)) = some r := by first | (rw [hy171]; with_reducible exact H) | (rw [hy171]; with_reducible exact (Option.bind_some _ _).symm.trans H) | (rw [hy171]; exact H) | exact H
    have Ny171 := Aside0.mk hy171; clear hy171
    by_cases c7 : (strOfNums y171).size + x4_1.size ≤ 9223372036854775807
    rotate_left
    ·
     rw [if_neg c7] at H
     exact absurd H (by simp)
    rw [if_pos c7] at H
    have c7b0 := eq_true c7; have c7b1 : decide ((strOfNums y171).size + x4_1.size ≤ 9223372036854775807) = true := decide_eq_true c7
    try have c7b2 : (9223372036854775807 < (strOfNums y171).size + x4_1.size) = False := eq_false (Nat.not_lt.2 c7)
    have H' := Aside0.mk H; clear H
    go_wp2_with (first | ((with_reducible refine gate_dst (N := 21) rfl ?_); refine Kd.R_lit (Kd.int .u8) _ 5 ?hg (N := 21) ?hd (xs := ([(wrap64 (48 + (wrap64 (-(Int.tmod x0_1 10))))) % 256] : List Int)) (inner := [.int .u8 ((wrap64 (48 + (wrap64 (-(Int.tmod x0_1 10))))) % 256)]) (ok := fun _ => True) (okp := fun _ => True) ?hr ?hp (fun _ hk => hk) trivial (Below.refl _ _) (Nat.le_refl _) (by simp) ?_; (case hd => rfl); (case hg => rfl); (case hr => first | (go_simp; done) | (go_simp; rfl)); (case hp => exact (Reps.one (show Kd.M (Kd.int .u8) _ _ _ ((wrap64 (48 + (wrap64 (-(Int.tmod x0_1 10))))) % 256) [.int .u8 ((wrap64 (48 + (wrap64 (-(Int.tmod x0_1 10))))) % 256)] from rfl) (Reps.none _ _))); intro v172 w8 ho9 hb hg_ hnew_; clear hg_ hnew_; (first | rw [← Ny171.out] at ho9 | (simp only [Int.reduceToNat] at ho9; rw [← Ny171.out] at ho9)); have HO173 := Aside0.mk (Kd.R_lower ho9 (below_size (bI HB.out))); replace HB := bs HB hb; clear hb ho9; have hcv10 := own_string (P := Tryz.prog) Tryz.underlying24 Tryz.underlying5 Tryz.underlying9 (Kd.own_of_R HO173.out)))
    go_roundg k1
    case measure => have := HK1.out; omega
    case rel => exact ⟨(wrap64 (Int.tdiv x0_1 10)), ((strOfNums y171) ++ x4_1), y0_17, y0_17, H', ⟨y0_20⟩, ⟨bI HB.out⟩⟩
   rw [if_neg c6] at H
   have c6b0 : decide ((Int.tmod x0_1 10) < 0) = false := decide_eq_false c6; clear c6; obtain ⟨y174, hy174⟩ : ∃ y_ : List Int, y_ = (([(wrap64 (48 + (Int.tmod x0_1 10))) % 256] : List Int)) := ⟨_, rfl⟩
   replace H : (if (strOfNums y174).size + x4_1.size ≤ 9223372036854775807 then (spec_Digits.l0 k1 (wrap64 (Int.tdiv x0_1 10)) (decide (a0 < 0)) ((strOfNums y174) ++ x4_1)) else (none)) = some r := by first | (rw [hy174]; with_reducible exact H) | (rw [hy174]; with_reducible exact (Option.bind_some _ _).symm.trans H) | (rw [hy174]; exact H) | exact H
   have Ny174 := Aside0.mk hy174; clear hy174
   by_cases c11 : (strOfNums y174).size + x4_1.size ≤ 9223372036854775807
   ·
    rw [if_pos c11] at H
    have c11b0 := eq_true c11; have c11b1 : decide ((strOfNums y174).size + x4_1.size ≤ 9223372036854775807) = true := decide_eq_true c11
    try have c11b2 : (9223372036854775807 < (strOfNums y174).size + x4_1.size) = False := eq_false (Nat.not_lt.2 c11)
    have H' := Aside0.mk H; clear H
    go_wp2_with (first | ((with_reducible refine gate_dst (N := 21) rfl ?_); refine Kd.R_lit (Kd.int .u8) _ 5 ?hg (N := 21) ?hd (xs := ([(wrap64 (48 + (Int.tmod x0_1 10))) % 256] : List Int)) (inner := [.int .u8 ((wrap64 (48 + (Int.tmod x0_1 10))) % 256)]) (ok := fun _ => True) (okp := fun _ => True) ?hr ?hp (fun _ hk => hk) trivial (Below.refl _ _) (Nat.le_refl _) (by simp) ?_; (case hd => rfl); (case hg => rfl); (case hr => first | (go_simp; done) | (go_simp; rfl)); (case hp => exact (Reps.one (show Kd.M (Kd.int .u8) _ _ _ ((wrap64 (48 + (Int.tmod x0_1 10))) % 256) [.int .u8 ((wrap64 (48 + (Int.tmod x0_1 10))) % 256)] from rfl) (Reps.none _ _))); intro v175 w12 ho13 hb hg_ hnew_; clear hg_ hnew_; (first | rw [← Ny174.out] at ho13 | (simp only [Int.reduceToNat] at ho13; rw [← Ny174.out] at ho13)); have HO176 := Aside0.mk (Kd.R_lower ho13 (below_size (bI HB.out))); replace HB := bs HB hb; clear hb ho13; have hcv14 := own_string (P := Tryz.prog) Tryz.underlying24 Tryz.underlying5 Tryz.underlying9 (Kd.own_of_R HO176.out)))
    go_roundg k1
    case measure => have := HK1.out; omega
    case rel => exact ⟨(wrap64 (Int.tdiv x0_1 10)), ((strOfNums y174) ++ x4_1), y0_17, y0_17, H', ⟨y0_20⟩, ⟨bI HB.out⟩⟩
   rw [if_neg c11] at H
   exact absurd H (by simp)
def spec_Number.l0 : Nat → ByteArray → Int → Int → Option (Int × Bool)
 | 0, _, _, _ => none
 | k + 1, x0, x4, x5 => if x5 < (x0.size : Int) then (if 0 ≤ x5 then (if (bt x0 x5) < 48 then (some (0, false)) else (if (bt x0 x5) > 57 then (some (0, false)) else (spec_Number.l0 k x0 (wrap64 ((wrap64 ((wrap64 (10 * x4)) + (wrap64 (bt x0 x5)))) - 48)) (wrap64 (x5 + 1))))) else (none)) else ((spec_Digits.f k x4).bind fun t177 => (if t177.toList = x0.toList then (some (x4, true)) else (some (0, false))))
def spec_Number.f (k : Nat) (a0 : ByteArray) : Option (Int × Bool) := if (a0.size : Int) < 1 then (some (0, false)) else (if (a0.size : Int) > 6 then (some (0, false)) else (spec_Number.l0 k a0 0 0))
theorem spec_Number.mono_l : ∀ k, (∀ y0 y1 y2, LeO (spec_Number.l0 k y0 y1 y2) (spec_Number.l0 (k + 1) y0 y1 y2))
 | 0 => fun _ _ _ r h => by simp [spec_Number.l0] at h
 | k + 1 => by
  have ih0 := spec_Number.mono_l k
  intro y0 y1 y2
  unfold spec_Number.l0
  repeat' first | (with_reducible exact ih0 _ _ _) | (with_reducible exact spec_Digits.mono _ _) | (with_reducible exact LeO.refl _) | (with_reducible exact LeO.none _) | (with_reducible refine LeO.ite ?_ ?_) | (with_reducible refine LeO.bind ?_ (fun _ => ?_))
theorem spec_Number.mono : ∀ a0 k, LeO (spec_Number.f k a0) (spec_Number.f (k + 1) a0) := by
 intro a0 k
 have ih0 := spec_Number.mono_l k
 unfold spec_Number.f
 repeat' first | (with_reducible exact ih0 _ _ _) | (with_reducible exact spec_Digits.mono _ _) | (with_reducible exact LeO.refl _) | (with_reducible exact LeO.none _) | (with_reducible refine LeO.ite ?_ ?_) | (with_reducible refine LeO.bind ?_ (fun _ => ?_))
theorem spec_Number.calls (k : Nat) (a0 : ByteArray) (r1 : Int) (r2 : Bool) (w : World) (h : spec_Number.f k a0 = some (r1, r2)) :
  Calls Tryz.prog 180 #[.string a0] w fun e w' => e = .returned (.tuple #[.int .i64 r1, .bool r2]) ∧ Below w.heap.size w w' := by
 have HB := Aside0.mk (Below.refl w.heap.size w); have H := h; unfold spec_Number.f at H; clear h
 go_enter Tryz.func180, Tryz.ntmps180
 have H' := Aside0.mk H; clear H
 go_upto_region 1 with fail
 have H := H'.out; clear H'
 by_cases c2 : (a0.size : Int) < 1
 ·
  rw [if_pos c2] at H
  have c2b0 : decide ((a0.size : Int) < 1) = true := decide_eq_true c2
  have c2b1 : decide (a0.size < 1) = true := decide_eq_true (by omega)
  clear c2
  (first | rw [c2b0] | (simp only [i64_w, i32_w]; rw [c2b0]) | skip)
  simp only [Option.some.injEq, Prod.mk.injEq] at H
  obtain ⟨rfl, rfl⟩ := H
  go_wp2
  go_ret2
  exact ⟨y0_17, UpW.out⟩
 rw [if_neg c2] at H
 have c2b0 : decide ((a0.size : Int) < 1) = false := decide_eq_false c2
 have c2b1 : decide (a0.size < 1) = false := decide_eq_false (by omega)
 clear c2
 (first | rw [c2b0] | (simp only [i64_w, i32_w]; rw [c2b0]) | skip)
 by_cases c3 : (a0.size : Int) > 6
 ·
  rw [if_pos c3] at H
  have c3b0 : decide (6 < (a0.size : Int)) = true := decide_eq_true c3
  have c3b1 : decide (6 < a0.size) = true := decide_eq_true (by omega)
  clear c3
  simp only [Option.some.injEq, Prod.mk.injEq] at H
  obtain ⟨rfl, rfl⟩ := H
  go_wp2
  go_ret2
  exact ⟨y0_17, UpW.out⟩
 rw [if_neg c3] at H
 have c3b0 : decide (6 < (a0.size : Int)) = false := decide_eq_false c3
 have c3b1 : decide (6 < a0.size) = false := decide_eq_false (by omega)
 clear c3; have H' := Aside0.mk H; clear H
 go_wp2
 refine wC ?_; intro w4 _
 go_loopg [4, 5] k (fun kq v4 v5 w' => ∃ (x4_1 : Int) (x5_1 : Int), v4 = .int .i64 x4_1 ∧ v5 = .int .i64 x5_1 ∧ Aside0 (spec_Number.l0 kq a0 x4_1 x5_1 = some (r1, r2)) ∧ Aside0 (kq ≤ k) ∧ UB w4 w')
 case atStart => exact ⟨(0), (0), y0_17, y0_17, H', ⟨Nat.le_refl _⟩, ⟨UpW.out⟩⟩
 case round =>
  clear H'; obtain ⟨x4_1, x5_1, rfl, rfl, HA, HK1, _⟩ := hrel; cases gk with
  | zero => exact absurd HA.out (by simp [spec_Number.l0])
  | succ k1 =>
   have H := HA.out; clear HA
   simp only [spec_Number.l0] at H
   by_cases c5 : x5_1 < (a0.size : Int)
   ·
    rw [if_pos c5] at H
    have c5b0 : decide (x5_1 < (a0.size : Int)) = true := decide_eq_true c5; clear c5
    by_cases c6 : 0 ≤ x5_1
    rotate_left
    ·
     rw [if_neg c6] at H
     exact absurd H (by simp)
    rw [if_pos c6] at H
    have c6b0 : decide (0 ≤ x5_1) = true := decide_eq_true c6; clear c6
    by_cases c8 : (bt a0 x5_1) < 48
    ·
     rw [if_pos c8] at H
     have c8b0 : decide ((bt a0 x5_1) < 48) = true := decide_eq_true c8; clear c8; have H' := Aside0.mk H; clear H; have p7 : 0 ≤ (x5_1 : Int) := of_decide_eq_true y0_16; have q7 : x5_1 < (a0.size : Int) := of_decide_eq_true y0_16; have hx7 := bt_at a0 x5_1; replace p7 := eq_true p7; replace q7 := eq_true q7
     go_upto_if 29 with fail
     have H := H'.out; clear H'
     simp only [Option.some.injEq, Prod.mk.injEq] at H
     obtain ⟨rfl, rfl⟩ := H
     go_wp2
     go_ret2
     exact ⟨y0_17, UpW.out⟩
    rw [if_neg c8] at H
    have c8b0 : decide ((bt a0 x5_1) < 48) = false := decide_eq_false c8; clear c8; have H' := Aside0.mk H; clear H; have p7 : 0 ≤ (x5_1 : Int) := of_decide_eq_true y0_16; have q7 : x5_1 < (a0.size : Int) := of_decide_eq_true y0_16; have hx7 := bt_at a0 x5_1; replace p7 := eq_true p7; replace q7 := eq_true q7; have p9 : 0 ≤ (x5_1 : Int) := of_decide_eq_true y0_16; have q9 : x5_1 < (a0.size : Int) := of_decide_eq_true y0_16; have hx9 := bt_at a0 x5_1; replace p9 := eq_true p9; replace q9 := eq_true q9
    go_upto_if 29 with fail
    have H := H'.out; clear H'
    by_cases c10 : (bt a0 x5_1) > 57
    ·
     rw [if_pos c10] at H
     have c10b0 : decide (57 < (bt a0 x5_1)) = true := decide_eq_true c10; clear c10
     (first | rw [c10b0] | (simp only [i64_w, i32_w]; rw [c10b0]) | skip)
     simp only [Option.some.injEq, Prod.mk.injEq] at H
     obtain ⟨rfl, rfl⟩ := H
     go_wp2
     go_ret2
     exact ⟨y0_17, UpW.out⟩
    rw [if_neg c10] at H
    have c10b0 : decide (57 < (bt a0 x5_1)) = false := decide_eq_false c10; clear c10
    (first | rw [c10b0] | (simp only [i64_w, i32_w]; rw [c10b0]) | skip)
    have H' := Aside0.mk H; clear H; have p11 : 0 ≤ (x5_1 : Int) := of_decide_eq_true y0_16; have q11 : x5_1 < (a0.size : Int) := of_decide_eq_true y0_16; have hx11 := bt_at a0 x5_1; replace p11 := eq_true p11; replace q11 := eq_true q11
    go_wp2
    go_roundg k1
    case measure => have := HK1.out; omega
    case rel => exact ⟨(wrap64 ((wrap64 ((wrap64 (10 * x4_1)) + (wrap64 (bt a0 x5_1)))) - 48)), (wrap64 (x5_1 + 1)), y0_17, y0_17, H', ⟨y0_20⟩, ⟨UpW.out⟩⟩
   rw [if_neg c5] at H
   have c5b0 : decide (x5_1 < (a0.size : Int)) = false := decide_eq_false c5; clear c5; obtain ⟨t177, A12, H⟩ := oB H; (try dsimp only at H); have H' := Aside0.mk H; clear H
   go_upto_if 41 with (first | ((with_reducible refine gate_callee (f := 166) rfl ?_); refine gC (some 39) Tryz.func166 (spec_Digits.calls (w := _) (h := A12.out)) ?_; intro w13 _))
   have H := H'.out; clear H'
   by_cases c14 : t177.toList = a0.toList
   ·
    rw [if_pos c14] at H
    have c14b0 : (t177.toList == a0.toList) = true := beq_iff_eq.mpr c14; have c14b1 : (t177.toList != a0.toList) = false := bne_eq_false_iff_eq.mpr c14; clear c14
    (first | rw [c14b0] | (simp only [i64_w, i32_w]; rw [c14b0]) | skip)
    simp only [Option.some.injEq, Prod.mk.injEq] at H
    obtain ⟨rfl, rfl⟩ := H
    go_wp2
    go_ret2
    exact ⟨y0_17, UpW.out⟩
   rw [if_neg c14] at H
   have c14b0 : (t177.toList == a0.toList) = false := beq_eq_false_iff_ne.mpr c14; have c14b1 : (t177.toList != a0.toList) = true := bne_iff_ne.mpr c14
   (first | rw [c14b0] | (simp only [i64_w, i32_w]; rw [c14b0]) | skip)
   simp only [Option.some.injEq, Prod.mk.injEq] at H
   obtain ⟨rfl, rfl⟩ := H
   go_wp2
   go_ret2
   exact ⟨y0_17, UpW.out⟩
def spec_TxOk.f (a0_0 : Int) (a0_1 : Int) (a0_2 : Int) (a0_3 : Int) : Option (Bool) := (spec_l1In.f a0_0 0 3).bind fun t179 => (if t179 = true then ((spec_l1In.f a0_1 0 3).bind fun t180 => (if t180 = true then ((spec_l1In.f a0_2 0 1000).bind fun t181 => (if t181 = true then ((spec_l1In.f a0_3 0 99).bind fun t182 => (some t182)) else (some false))) else (some false))) else (some false))
theorem spec_TxOk.calls (a0_0 : Int) (a0_1 : Int) (a0_2 : Int) (a0_3 : Int) (r : Bool) (w : World) (h : spec_TxOk.f a0_0 a0_1 a0_2 a0_3 = some r) :
  Calls Tryz.prog 172 #[.agg #[.int .i64 a0_0, .int .i64 a0_1, .int .i64 a0_2, .int .i64 a0_3]] w fun e w' => e = .returned (.bool r) ∧ Below w.heap.size w w' := by
 have hu156 := Tryz.underlying156; have HB := Aside0.mk (Below.refl w.heap.size w)
 have H := h; unfold spec_TxOk.f at H
 clear h
 go_enter Tryz.func172, Tryz.ntmps172
 have H' := Aside0.mk H; clear H
 go_upto_region 1 with (first | ((with_reducible refine gd 1 ?_); refine bL 1 #[.int .i64 a0_0, .int .i64 a0_1, .int .i64 a0_2, .int .i64 a0_3] 156 ?_; intro gb178 w2 _ _ _))
 have H := H'.out; clear H'; obtain ⟨t179, A3, H⟩ := oB H; (try dsimp only at H)
 by_cases c4 : t179 = true
 ·
  subst c4
  rw [if_pos rfl] at H
  obtain ⟨t180, A5, H⟩ := oB H; (try dsimp only at H)
  by_cases c6 : t180 = true
  ·
   subst c6
   rw [if_pos rfl] at H
   obtain ⟨t181, A7, H⟩ := oB H; (try dsimp only at H)
   by_cases c8 : t181 = true
   ·
    subst c8
    rw [if_pos rfl] at H
    obtain ⟨t182, A9, H⟩ := oB H; (try dsimp only at H); obtain rfl := Option.some.inj H
    go_wp2_with (first | ((with_reducible refine gate_callee (f := 110) rfl ?_); refine gD (some 5) Tryz.func110 (spec_l1In.calls (w := _) (h := A3.out)) ?_; intro w10 _) | (go_at_call 110; refine aD (spec_l1In.calls (w := _) (h := A5.out)) ?_; intro w11 _) | (go_at_call 110; refine aD (spec_l1In.calls (w := _) (h := A7.out)) ?_; intro w12 _) | (go_at_call 110; refine aD (spec_l1In.calls (w := _) (h := A9.out)) ?_; intro w13 _))
    go_ret
    exact ⟨y0_17, UpW.out⟩
   replace c8 := Bool.eq_false_iff.mpr c8; subst c8
   rw [if_neg Bool.false_ne_true] at H
   obtain rfl := Option.some.inj H
   go_wp2_with (first | ((with_reducible refine gate_callee (f := 110) rfl ?_); refine gD (some 5) Tryz.func110 (spec_l1In.calls (w := _) (h := A3.out)) ?_; intro w14 _) | (go_at_call 110; refine aD (spec_l1In.calls (w := _) (h := A5.out)) ?_; intro w15 _) | (go_at_call 110; refine aD (spec_l1In.calls (w := _) (h := A7.out)) ?_; intro w16 _))
   go_ret
   exact ⟨y0_17, UpW.out⟩
  replace c6 := Bool.eq_false_iff.mpr c6; subst c6
  rw [if_neg Bool.false_ne_true] at H
  obtain rfl := Option.some.inj H
  go_wp2_with (first | ((with_reducible refine gate_callee (f := 110) rfl ?_); refine gD (some 5) Tryz.func110 (spec_l1In.calls (w := _) (h := A3.out)) ?_; intro w17 _) | (go_at_call 110; refine aD (spec_l1In.calls (w := _) (h := A5.out)) ?_; intro w18 _))
  go_ret
  exact ⟨y0_17, UpW.out⟩
 replace c4 := Bool.eq_false_iff.mpr c4; subst c4
 rw [if_neg Bool.false_ne_true] at H
 obtain rfl := Option.some.inj H
 go_wp2_with (first | ((with_reducible refine gate_callee (f := 110) rfl ?_); refine gD (some 5) Tryz.func110 (spec_l1In.calls (w := _) (h := A3.out)) ?_; intro w19 _))
 go_ret
 exact ⟨y0_17, UpW.out⟩
def spec_TxText.f (k : Nat) (a0_0 : Int) (a0_1 : Int) (a0_2 : Int) (a0_3 : Int) : Option (ByteArray) := (spec_TxOk.f a0_0 a0_1 a0_2 a0_3).bind fun t184 => (if t184 = true then ((spec_Digits.f k a0_0).bind fun t185 => (if t185.size + 1 ≤ 9223372036854775807 then ((spec_Digits.f k a0_1).bind fun t186 => (if (t185 ++ (⟨#[62]⟩ : ByteArray)).size + t186.size ≤ 9223372036854775807 then (if ((t185 ++ (⟨#[62]⟩ : ByteArray)) ++ t186).size + 1 ≤ 9223372036854775807 then ((spec_Digits.f k a0_2).bind fun t187 => (if (((t185 ++ (⟨#[62]⟩ : ByteArray)) ++ t186) ++ (⟨#[58]⟩ : ByteArray)).size + t187.size ≤ 9223372036854775807 then (if ((((t185 ++ (⟨#[62]⟩ : ByteArray)) ++ t186) ++ (⟨#[58]⟩ : ByteArray)) ++ t187).size + 1 ≤ 9223372036854775807 then ((spec_Digits.f k a0_3).bind fun t188 => (if (((((t185 ++ (⟨#[62]⟩ : ByteArray)) ++ t186) ++ (⟨#[58]⟩ : ByteArray)) ++ t187) ++ (⟨#[35]⟩ : ByteArray)).size + t188.size ≤ 9223372036854775807 then (some ((((((t185 ++ (⟨#[62]⟩ : ByteArray)) ++ t186) ++ (⟨#[58]⟩ : ByteArray)) ++ t187) ++ (⟨#[35]⟩ : ByteArray)) ++ t188)) else (none))) else (none)) else (none))) else (none)) else (none))) else (none))) else (some (⟨#[]⟩ : ByteArray)))
theorem spec_TxText.mono : ∀ a0 a1 a2 a3 k, LeO (spec_TxText.f k a0 a1 a2 a3) (spec_TxText.f (k + 1) a0 a1 a2 a3) := by
 intro a0 a1 a2 a3 k
 unfold spec_TxText.f
 repeat' first | (with_reducible exact spec_Digits.mono _ _) | (with_reducible exact LeO.refl _) | (with_reducible exact LeO.none _) | (with_reducible refine LeO.ite ?_ ?_) | (with_reducible refine LeO.bind ?_ (fun _ => ?_))
def spec_TxText.T3 : Bool × List (List Nat × List Nat) := (true, [([], []), ([0], [0]), ([1], [1]), ([2], [2]), ([], []), ([4], [4]), ([5, 2], [5]), ([3, 6], [3, 6]), ([7], [7]), ([], []), ([9], [9]), ([10, 6], [10]), ([8, 11], [8, 11]), ([12], [12]), ([], []), ([14], [14]), ([15, 11], [15]), ([13, 16], [13, 16]), ([17, 16, 0, 1, 2, 3, 4, 5, 6, 7, 8, 9, 10, 11, 12, 13, 14, 15, 16, 17], [17])])
def spec_TxText.B3 : List Nat := [0, 1, 3, 7, 0, 16, 55, 127, 255, 0, 512, 1655, 4095, 8191, 0, 16384, 52855, 131071, 262143]
theorem spec_TxText.tab3 : rtab .any (opsOf Tryz.f194 3) = spec_TxText.T3 := by kernel_rfl
theorem spec_TxText.bits3 : waitsOk spec_TxText.T3.2 spec_TxText.B3 = true := by kernel_rfl
theorem spec_TxText.calls (k : Nat) (a0_0 : Int) (a0_1 : Int) (a0_2 : Int) (a0_3 : Int) (r : ByteArray) (w : World) (h : spec_TxText.f k a0_0 a0_1 a0_2 a0_3 = some r) :
  Calls Tryz.prog 194 #[.agg #[.int .i64 a0_0, .int .i64 a0_1, .int .i64 a0_2, .int .i64 a0_3]] w fun e w' => e = .returned (.string r) ∧ Below w.heap.size w w' := by
 have hu156 := Tryz.underlying156; have HB := Aside0.mk (Below.refl w.heap.size w)
 have H := h; unfold spec_TxText.f at H
 clear h; obtain ⟨t184, A2, H⟩ := oB H; (try dsimp only at H)
 go_enter Tryz.func194, Tryz.ntmps194
 have H' := Aside0.mk H; clear H
 go_upto_if 5 with (first | ((with_reducible refine gd 1 ?_); refine bL 1 #[.int .i64 a0_0, .int .i64 a0_1, .int .i64 a0_2, .int .i64 a0_3] 156 ?_; intro gb183 w3 _ _ _) | ((with_reducible refine gate_callee (f := 172) rfl ?_); refine gC (some 4) Tryz.func172 (spec_TxOk.calls (w := _) (h := A2.out)) ?_; intro w4 _))
 have H := H'.out; clear H'
 by_cases c5 : t184 = true
 ·
  subst c5
  rw [if_pos rfl] at H
  obtain ⟨t185, A6, H⟩ := oB H; (try dsimp only at H)
  by_cases c7 : t185.size + 1 ≤ 9223372036854775807
  rotate_left
  ·
   rw [if_neg c7] at H
   exact absurd H (by simp)
  rw [if_pos c7] at H
  have c7b0 := eq_true c7; have c7b1 : decide (t185.size + 1 ≤ 9223372036854775807) = true := decide_eq_true c7
  try have c7b2 : (9223372036854775807 < t185.size + 1) = False := eq_false (Nat.not_lt.2 c7)
  obtain ⟨t186, A8, H⟩ := oB H; (try dsimp only at H)
  by_cases c9 : (t185 ++ (⟨#[62]⟩ : ByteArray)).size + t186.size ≤ 9223372036854775807
  rotate_left
  ·
   rw [if_neg c9] at H
   exact absurd H (by simp)
  rw [if_pos c9] at H
  have c9b0 := eq_true c9; have c9b1 : decide ((t185 ++ (⟨#[62]⟩ : ByteArray)).size + t186.size ≤ 9223372036854775807) = true := decide_eq_true c9
  try have c9b2 : (9223372036854775807 < (t185 ++ (⟨#[62]⟩ : ByteArray)).size + t186.size) = False := eq_false (Nat.not_lt.2 c9)
  (try have c9b3 : (9223372036854775807 < t185.size + 1 + t186.size) = False := eq_false (by have h_ := c9; simp only [ByteArray.size_append, ByteArray.size_extract, show (⟨#[62]⟩ : ByteArray).size = 1 from rfl] at h_; omega))
  by_cases c10 : ((t185 ++ (⟨#[62]⟩ : ByteArray)) ++ t186).size + 1 ≤ 9223372036854775807
  rotate_left
  ·
   rw [if_neg c10] at H
   exact absurd H (by simp)
  rw [if_pos c10] at H
  have c10b0 := eq_true c10; have c10b1 : decide (((t185 ++ (⟨#[62]⟩ : ByteArray)) ++ t186).size + 1 ≤ 9223372036854775807) = true := decide_eq_true c10
  try have c10b2 : (9223372036854775807 < ((t185 ++ (⟨#[62]⟩ : ByteArray)) ++ t186).size + 1) = False := eq_false (Nat.not_lt.2 c10)
  (try have c10b3 : (9223372036854775807 < t185.size + 1 + t186.size + 1) = False := eq_false (by have h_ := c10; simp only [ByteArray.size_append, ByteArray.size_extract, show (⟨#[62]⟩ : ByteArray).size = 1 from rfl] at h_; omega))
  obtain ⟨t187, A11, H⟩ := oB H; (try dsimp only at H)
  by_cases c12 : (((t185 ++ (⟨#[62]⟩ : ByteArray)) ++ t186) ++ (⟨#[58]⟩ : ByteArray)).size + t187.size ≤ 9223372036854775807
  rotate_left
  ·
   rw [if_neg c12] at H
   exact absurd H (by simp)
  rw [if_pos c12] at H
  have c12b0 := eq_true c12; have c12b1 : decide ((((t185 ++ (⟨#[62]⟩ : ByteArray)) ++ t186) ++ (⟨#[58]⟩ : ByteArray)).size + t187.size ≤ 9223372036854775807) = true := decide_eq_true c12
  try have c12b2 : (9223372036854775807 < (((t185 ++ (⟨#[62]⟩ : ByteArray)) ++ t186) ++ (⟨#[58]⟩ : ByteArray)).size + t187.size) = False := eq_false (Nat.not_lt.2 c12)
  (try have c12b3 : (9223372036854775807 < t185.size + 1 + t186.size + 1 + t187.size) = False := eq_false (by have h_ := c12; simp only [ByteArray.size_append, ByteArray.size_extract, show (⟨#[58]⟩ : ByteArray).size = 1 from rfl, show (⟨#[62]⟩ : ByteArray).size = 1 from rfl] at h_; omega))
  by_cases c13 : ((((t185 ++ (⟨#[62]⟩ : ByteArray)) ++ t186) ++ (⟨#[58]⟩ : ByteArray)) ++ t187).size + 1 ≤ 9223372036854775807
  rotate_left
  ·
   rw [if_neg c13] at H
   exact absurd H (by simp)
  rw [if_pos c13] at H
  have c13b0 := eq_true c13; have c13b1 : decide (((((t185 ++ (⟨#[62]⟩ : ByteArray)) ++ t186) ++ (⟨#[58]⟩ : ByteArray)) ++ t187).size + 1 ≤ 9223372036854775807) = true := decide_eq_true c13
  try have c13b2 : (9223372036854775807 < ((((t185 ++ (⟨#[62]⟩ : ByteArray)) ++ t186) ++ (⟨#[58]⟩ : ByteArray)) ++ t187).size + 1) = False := eq_false (Nat.not_lt.2 c13)
  (try have c13b3 : (9223372036854775807 < t185.size + 1 + t186.size + 1 + t187.size + 1) = False := eq_false (by have h_ := c13; simp only [ByteArray.size_append, ByteArray.size_extract, show (⟨#[58]⟩ : ByteArray).size = 1 from rfl, show (⟨#[62]⟩ : ByteArray).size = 1 from rfl] at h_; omega))
  obtain ⟨t188, A14, H⟩ := oB H; (try dsimp only at H)
  by_cases c15 : (((((t185 ++ (⟨#[62]⟩ : ByteArray)) ++ t186) ++ (⟨#[58]⟩ : ByteArray)) ++ t187) ++ (⟨#[35]⟩ : ByteArray)).size + t188.size ≤ 9223372036854775807
  rotate_left
  ·
   rw [if_neg c15] at H
   exact absurd H (by simp)
  rw [if_pos c15] at H
  have c15b0 := eq_true c15; have c15b1 : decide ((((((t185 ++ (⟨#[62]⟩ : ByteArray)) ++ t186) ++ (⟨#[58]⟩ : ByteArray)) ++ t187) ++ (⟨#[35]⟩ : ByteArray)).size + t188.size ≤ 9223372036854775807) = true := decide_eq_true c15
  try have c15b2 : (9223372036854775807 < (((((t185 ++ (⟨#[62]⟩ : ByteArray)) ++ t186) ++ (⟨#[58]⟩ : ByteArray)) ++ t187) ++ (⟨#[35]⟩ : ByteArray)).size + t188.size) = False := eq_false (Nat.not_lt.2 c15)
  (try have c15b3 : (9223372036854775807 < t185.size + 1 + t186.size + 1 + t187.size + 1 + t188.size) = False := eq_false (by have h_ := c15; simp only [ByteArray.size_append, ByteArray.size_extract, show (⟨#[35]⟩ : ByteArray).size = 1 from rfl, show (⟨#[58]⟩ : ByteArray).size = 1 from rfl, show (⟨#[62]⟩ : ByteArray).size = 1 from rfl] at h_; omega))
  obtain rfl := Option.some.inj H
  try go_wp2
  refine sB [] spec_TxText.tab3 spec_TxText.bits3 ?_; intro w16 _ HT_ HW_
  refine pA 0 (some 6) (bz 19 1) HT_ ?_
  refine tB 1 (some 7) (bz 19 3) HT_ HW_ ?_
  refine pA 4 (some 10) (bz 19 19) HT_ ?_
  refine tB 5 (some 11) (bz 19 51) HT_ HW_ ?_
  refine pA 9 (some 15) (bz 19 563) HT_ ?_
  refine tB 10 (some 16) (bz 19 1587) HT_ HW_ ?_
  refine pA 14 (some 20) (bz 19 0x4633) HT_ ?_
  refine tB 15 (some 21) (bz 19 0xc633) HT_ HW_ ?_
  refine o1 2 (some 8) (bz 19 0xc637) HT_ rfl (kC Tryz.func166 (spec_Digits.calls (w := _) (h := A6.out)) ?_); intro w17 _
  refine nA (some 8) ?_
  refine pA 3 (some 9) (bz 19 0xc63f) HT_ ?_
  refine o1 6 (some 12) (bz 19 0xc67f) HT_ rfl (kC Tryz.func166 (spec_Digits.calls (w := _) (h := A8.out)) ?_); intro w18 _
  refine nA (some 12) ?_
  refine pA 7 (some 13) (bz 19 0xc6ff) HT_ ?_
  refine pA 8 (some 14) (bz 19 0xc7ff) HT_ ?_
  refine o1 11 (some 17) (bz 19 0xcfff) HT_ rfl (kC Tryz.func166 (spec_Digits.calls (w := _) (h := A11.out)) ?_); intro w19 _
  refine nA (some 17) ?_
  refine pA 12 (some 18) (bz 19 0xdfff) HT_ ?_
  refine pA 13 (some 19) (bz 19 0xffff) HT_ ?_
  refine o1 16 (some 22) (bz 19 0x1ffff) HT_ rfl (kC Tryz.func166 (spec_Digits.calls (w := _) (h := A14.out)) ?_); intro w20 _
  refine nA (some 22) ?_
  refine pA 17 (some 23) (bz 19 0x3ffff) HT_ ?_
  refine pA 18 (some 2) (bz 19 0x7ffff) HT_ ?_
  refine done_ (done_of HT_.out (by kernel_rfl)) ?_
  try go_wp2
  go_ret
  exact ⟨y0_17, UpW.out⟩
 replace c5 := Bool.eq_false_iff.mpr c5; subst c5
 rw [if_neg Bool.false_ne_true] at H
 obtain rfl := Option.some.inj H
 go_wp2
 go_ret
 exact ⟨y0_17, UpW.out⟩
def spec_TxOf.f (k : Nat) (a0 : ByteArray) : Option (Int × Int × Int × Int × Bool) := (spec_l2Cut.f k a0 62).bind fun bt190 => ((spec_l2Cut.f k bt190.2.1 58).bind fun bt193 => ((spec_l2Cut.f k bt193.2.1 35).bind fun bt196 => ((spec_Number.f k bt190.1).bind fun bt200 => ((spec_Number.f k bt193.1).bind fun bt202 => ((spec_Number.f k bt196.1).bind fun bt204 => ((spec_Number.f k bt196.2.1).bind fun bt206 => (if a0.toList = ([] : List UInt8) then (some (0, 0, 0, 0, false)) else ((spec_TxText.f k bt200.1 bt202.1 bt204.1 bt206.1).bind fun t208 => (if t208.toList = a0.toList then (some (bt200.1, bt202.1, bt204.1, bt206.1, true)) else (some (0, 0, 0, 0, false)))))))))))
theorem spec_TxOf.mono : ∀ a0 k, LeO (spec_TxOf.f k a0) (spec_TxOf.f (k + 1) a0) := by
 intro a0 k
 unfold spec_TxOf.f
 repeat' first | (with_reducible exact spec_Number.mono _ _) | (with_reducible exact spec_TxText.mono _ _ _ _ _) | (with_reducible exact spec_l2Cut.mono _ _ _) | (with_reducible exact LeO.refl _) | (with_reducible exact LeO.none _) | (with_reducible refine LeO.ite ?_ ?_) | (with_reducible refine LeO.bind ?_ (fun _ => ?_))
theorem spec_TxOf.calls (k : Nat) (a0 : ByteArray) (r1 : Int) (r2 : Int) (r3 : Int) (r4 : Int) (r5 : Bool) (w : World) (h : spec_TxOf.f k a0 = some (r1, r2, r3, r4, r5)) :
  Calls Tryz.prog 199 #[.string a0] w fun e w' => e = .returned (.tuple #[.agg #[.int .i64 r1, .int .i64 r2, .int .i64 r3, .int .i64 r4], .bool r5]) ∧ Below w.heap.size w w' := by
 have hu156 := Tryz.underlying156; have HB := Aside0.mk (Below.refl w.heap.size w)
 have H := h; unfold spec_TxOf.f at H
 clear h; obtain ⟨⟨t190, t191, t192⟩, A2, H⟩ := oB H; (try dsimp only at H); obtain ⟨⟨t193, t194, t195⟩, A3, H⟩ := oB H; (try dsimp only at H); obtain ⟨⟨t196, t197, t198⟩, A4, H⟩ := oB H; (try dsimp only at H); obtain ⟨⟨t200, t201⟩, A5, H⟩ := oB H; (try dsimp only at H); obtain ⟨⟨t202, t203⟩, A6, H⟩ := oB H; (try dsimp only at H); obtain ⟨⟨t204, t205⟩, A7, H⟩ := oB H; (try dsimp only at H); obtain ⟨⟨t206, t207⟩, A8, H⟩ := oB H; (try dsimp only at H)
 go_enter Tryz.func199, Tryz.ntmps199
 have H' := Aside0.mk H; clear H
 go_upto_region 9 with (first | ((with_reducible refine gd 2 ?_); refine bL 2 #[.int .i64 0, .int .i64 0, .int .i64 0, .int .i64 0] 156 ?_; intro gb189 w9 _ _ _) | ((with_reducible refine gate_callee (f := 179) rfl ?_); refine gD (some 16) Tryz.func179 (spec_l2Cut.calls (w := _) (h := A2.out)) ?_; intro w10 _) | ((with_reducible refine gate_callee (f := 179) rfl ?_); refine gD (some 22) Tryz.func179 (spec_l2Cut.calls (w := _) (h := A3.out)) ?_; intro w11 _) | ((with_reducible refine gate_callee (f := 179) rfl ?_); refine gD (some 28) Tryz.func179 (spec_l2Cut.calls (w := _) (h := A4.out)) ?_; intro w12 _) | ((with_reducible refine gd 13 ?_); refine bL 13 #[.int .i64 0, .int .i64 0, .int .i64 0, .int .i64 0] 156 ?_; intro gb199 w13 _ _ _) | ((with_reducible refine gate_callee (f := 180) rfl ?_); refine gC (some 35) Tryz.func180 (spec_Number.calls (w := _) (h := A5.out)) ?_; intro w14 _) | ((with_reducible refine gate_callee (f := 180) rfl ?_); refine gC (some 41) Tryz.func180 (spec_Number.calls (w := _) (h := A6.out)) ?_; intro w15 _) | ((with_reducible refine gate_callee (f := 180) rfl ?_); refine gC (some 47) Tryz.func180 (spec_Number.calls (w := _) (h := A7.out)) ?_; intro w16 _) | ((with_reducible refine gate_callee (f := 180) rfl ?_); refine gC (some 53) Tryz.func180 (spec_Number.calls (w := _) (h := A8.out)) ?_; intro w17 _))
 have H := H'.out; clear H'
 by_cases c18 : a0.toList = ([] : List UInt8)
 ·
  rw [if_pos c18] at H
  have c18b0 : (a0.toList == ([] : List UInt8)) = true := beq_iff_eq.mpr c18; have c18b1 : (a0.toList != ([] : List UInt8)) = false := bne_eq_false_iff_eq.mpr c18; clear c18
  (first | rw [c18b0] | (simp only [i64_w, i32_w]; rw [c18b0]) | rw [show List.isEmpty (a0.toList) = true from by simpa using c18b0] | skip)
  simp only [Option.some.injEq, Prod.mk.injEq] at H
  obtain ⟨rfl, rfl, rfl, rfl, rfl⟩ := H
  go_wp2
  refine bodyPost_ret (results_ct rfl _ _ gb189 156 #[.int .i64 0, .int .i64 0, .int .i64 0, .int .i64 0] (0, 0) _ rfl xB Tryz.underlying156 rfl (by kernel_rfl)) rfl ?_
  exact ⟨y0_17, UpW.out⟩
 rw [if_neg c18] at H
 have c18b0 : (a0.toList == ([] : List UInt8)) = false := beq_eq_false_iff_ne.mpr c18; have c18b1 : (a0.toList != ([] : List UInt8)) = true := bne_iff_ne.mpr c18
 (first | rw [c18b0] | (simp only [i64_w, i32_w]; rw [c18b0]) | rw [show List.isEmpty (a0.toList) = false from by simpa using c18b0] | skip)
 obtain ⟨t208, A19, H⟩ := oB H; (try dsimp only at H); have H' := Aside0.mk H; clear H
 go_upto_if 64 with (first | (go_at_call 194; refine aC (spec_TxText.calls (w := _) (h := A19.out)) ?_; intro w20 _))
 have H := H'.out; clear H'
 by_cases c21 : t208.toList = a0.toList
 ·
  rw [if_pos c21] at H
  have c21b0 : (t208.toList == a0.toList) = true := beq_iff_eq.mpr c21; have c21b1 : (t208.toList != a0.toList) = false := bne_eq_false_iff_eq.mpr c21; clear c21
  (first | rw [c21b0] | (simp only [i64_w, i32_w]; rw [c21b0]) | skip)
  simp only [Option.some.injEq, Prod.mk.injEq] at H
  obtain ⟨rfl, rfl, rfl, rfl, rfl⟩ := H
  go_wp2
  refine bodyPost_ret (results_ct rfl _ _ gb189 156 #[.int .i64 t200, .int .i64 t202, .int .i64 t204, .int .i64 t206] (0, 0) _ rfl xB Tryz.underlying156 rfl (by kernel_rfl)) rfl ?_
  exact ⟨y0_17, UpW.out⟩
 rw [if_neg c21] at H
 have c21b0 : (t208.toList == a0.toList) = false := beq_eq_false_iff_ne.mpr c21; have c21b1 : (t208.toList != a0.toList) = true := bne_iff_ne.mpr c21
 (first | rw [c21b0] | (simp only [i64_w, i32_w]; rw [c21b0]) | skip)
 simp only [Option.some.injEq, Prod.mk.injEq] at H
 obtain ⟨rfl, rfl, rfl, rfl, rfl⟩ := H
 go_wp2
 refine bodyPost_ret (results_ct rfl _ _ gb189 156 #[.int .i64 0, .int .i64 0, .int .i64 0, .int .i64 0] (0, 0) _ rfl xB Tryz.underlying156 rfl (by kernel_rfl)) rfl ?_
 exact ⟨y0_17, UpW.out⟩
def spec_TxsOf.l0 : Nat → List (S156) → List ByteArray → Int → Option ((List (S156)) × Bool)
 | 0, _, _, _ => none
 | k + 1, x4, x5, x6 => if x6 < (x5.length : Int) then (if 0 ≤ x6 then ((spec_TxOf.f k (rdOf ByteArray.empty x5 x6)).bind fun bt216 => (if bt216.2.2.2.2 = true then (if x4.length < 4398046511104 then (spec_TxsOf.l0 k (x4 ++ [(⟨bt216.1, bt216.2.1, bt216.2.2.1, bt216.2.2.2.1⟩ : S156)]) x5 (wrap64 (x6 + 1))) else (none)) else (some ((([] : List (S156))), false)))) else (none)) else (some (x4, true))
def spec_TxsOf.f (k : Nat) (a0 : ByteArray) : Option ((List (S156)) × Bool) := (some (([] : List (S156)) : List (S156))).bind fun y209 => (if a0.toList = ([] : List UInt8) then (some (y209, true)) else ((spec_Split.f k a0 44).bind fun t212 => (spec_TxsOf.l0 k y209 t212 0)))
theorem spec_TxsOf.mono_l : ∀ k, (∀ y0 y1 y2, LeO (spec_TxsOf.l0 k y0 y1 y2) (spec_TxsOf.l0 (k + 1) y0 y1 y2))
 | 0 => fun _ _ _ r h => by simp [spec_TxsOf.l0] at h
 | k + 1 => by
  have ih0 := spec_TxsOf.mono_l k
  intro y0 y1 y2
  unfold spec_TxsOf.l0
  repeat' first | (with_reducible exact ih0 _ _ _) | (with_reducible exact spec_Split.mono _ _ _) | (with_reducible exact spec_TxOf.mono _ _) | (with_reducible exact LeO.refl _) | (with_reducible exact LeO.none _) | (with_reducible refine LeO.ite ?_ ?_) | (with_reducible refine LeO.bind ?_ (fun _ => ?_))
theorem spec_TxsOf.mono : ∀ a0 k, LeO (spec_TxsOf.f k a0) (spec_TxsOf.f (k + 1) a0) := by
 intro a0 k
 have ih0 := spec_TxsOf.mono_l k
 unfold spec_TxsOf.f
 repeat' first | (with_reducible exact ih0 _ _ _) | (with_reducible exact spec_Split.mono _ _ _) | (with_reducible exact spec_TxOf.mono _ _) | (with_reducible exact LeO.refl _) | (with_reducible exact LeO.none _) | (with_reducible refine LeO.ite ?_ ?_) | (with_reducible refine LeO.bind ?_ (fun _ => ?_))
theorem spec_TxsOf.calls (k : Nat) (a0 : ByteArray) (r1 : List (S156)) (r2 : Bool) (w : World) (h : spec_TxsOf.f k a0 = some (r1, r2)) :
  Calls Tryz.prog 181 #[.string a0] w fun e w' => ∃ v0_ : Value, e = .returned (.tuple #[v0_, .bool r2]) ∧ Kd.R k156 156 w' w.heap.size (fun _ => True) v0_ r1 ∧ Below w.heap.size w w' := by
 have hu156 := Tryz.underlying156; have HB := Aside0.mk (Below.refl w.heap.size w)
 have H := h; unfold spec_TxsOf.f at H
 clear h; obtain ⟨y209, hy209⟩ : ∃ y_ : List (S156), y_ = (([] : List (S156))) := ⟨_, rfl⟩
 replace H : (if a0.toList = ([] : List UInt8) then (some (y209, true)) else ((spec_Split.f k a0 44).bind fun t212 => (spec_TxsOf.l0 k y209 t212 0))) = some (r1, r2) := by first | (rw [hy209]; with_reducible exact H) | (rw [hy209]; with_reducible exact (Option.bind_some _ _).symm.trans H) | (rw [hy209]; exact H) | exact H
 have Ny209 := Aside0.mk hy209; clear hy209
 go_enter Tryz.func181, Tryz.ntmps181
 have H' := Aside0.mk H; clear H
 go_upto_if 11 with (first | ((with_reducible refine gate_dst (N := 9) rfl ?_); refine lE 9 156 k156 Ny209 ?_; intro Ao210 co210 w2 _ HO211))
 have H := H'.out; clear H'
 by_cases c3 : a0.toList = ([] : List UInt8)
 ·
  rw [if_pos c3] at H
  have c3b0 : (a0.toList == ([] : List UInt8)) = true := beq_iff_eq.mpr c3; have c3b1 : (a0.toList != ([] : List UInt8)) = false := bne_eq_false_iff_eq.mpr c3; clear c3
  (first | rw [c3b0] | (simp only [i64_w, i32_w]; rw [c3b0]) | rw [show List.isEmpty (a0.toList) = true from by simpa using c3b0] | skip)
  simp only [Option.some.injEq, Prod.mk.injEq] at H
  obtain ⟨rfl, rfl⟩ := H
  go_wp2
  go_ret2
  exact ⟨_, y0_17, rR HO211, UpW.out⟩
 rw [if_neg c3] at H
 have c3b0 : (a0.toList == ([] : List UInt8)) = false := beq_eq_false_iff_ne.mpr c3; have c3b1 : (a0.toList != ([] : List UInt8)) = true := bne_iff_ne.mpr c3
 (first | rw [c3b0] | (simp only [i64_w, i32_w]; rw [c3b0]) | rw [show List.isEmpty (a0.toList) = false from by simpa using c3b0] | skip)
 obtain ⟨t212, A4, H⟩ := oB H; (try dsimp only at H); have H' := Aside0.mk H; clear H
 go_wp2_with (first | ((with_reducible refine gate_callee (f := 178) rfl ?_); refine gC1 (some 14) Tryz.func178 (spec_Split.calls (w := _) (h := A4.out)) ?_; intro Ao213 co213 w5 _ HO214))
 refine wC ?_; intro w6 _
 go_loopg [4, 6] k (fun kq v4 v6 w' => ∃ (x4_1 : List (S156)) (x6_1 : Int) (Ao4_1 : Option Addr) (co4_1 : Nat), v4 = .slice Ao4_1 x4_1.length co4_1 ∧ v6 = .int .i64 x6_1 ∧ Aside0 (spec_TxsOf.l0 kq x4_1 t212 x6_1 = some (r1, r2)) ∧ Aside0 (kq ≤ k) ∧ Aside0 (Kd.R k156 156 w' w.heap.size (iv w w') (.slice Ao4_1 x4_1.length co4_1) x4_1) ∧ KT w6 [] w _ k156 156 w' ∧ LB w w')
 case atStart => exact ⟨(y209), (0), (Ao210), (co210), y0_17, y0_17, H', ⟨Nat.le_refl _⟩, ⟨rJ HO211⟩, ⟨UpT.out⟩, ⟨UpW.out⟩⟩
 case round =>
  clear H'; obtain ⟨x4_1, x6_1, Ao4_1, co4_1, rfl, rfl, HA, HK1, HO_4, _, _⟩ := hrel; have HO_9 := HO211; have HO_14 := HO214; have HO_5 := HO214; cases gk with
  | zero => exact absurd HA.out (by simp [spec_TxsOf.l0])
  | succ k1 =>
   have H := HA.out; clear HA
   simp only [spec_TxsOf.l0] at H
   have H' := Aside0.mk H; clear H
   go_upto_if 18 with fail
   have H := H'.out; clear H'
   by_cases c7 : x6_1 < (t212.length : Int)
   ·
    rw [if_pos c7] at H
    have c7b0 : decide (x6_1 < (t212.length : Int)) = true := decide_eq_true c7; clear c7
    (first | rw [c7b0] | (simp only [i64_w, i32_w]; rw [c7b0]) | skip)
    by_cases c8 : 0 ≤ x6_1
    rotate_left
    ·
     rw [if_neg c8] at H
     exact absurd H (by simp)
    rw [if_pos c8] at H
    have c8b0 : decide (0 ≤ x6_1) = true := decide_eq_true c8; clear c8; obtain ⟨⟨t216, t217, t218, t219, t220⟩, A9, H⟩ := oB H; (try dsimp only at H); have H' := Aside0.mk H; clear H; have p215 : 0 ≤ (x6_1 : Int) := of_decide_eq_true y0_16; have q215 : x6_1 < (t212.length : Int) := of_decide_eq_true y0_16; obtain ⟨ad215, e215, hx215_0⟩ := Kd.at_string (rC (W := w5) HO_5) x6_1 p215 q215; cases e215; clear hx215_0
    have hx215_0 : ∀ W_, UpR Kd.string 9 w5 W_ → W_.cell? (ad215.add (x6_1 : Int).toNat) = some (.string (rdOf ByteArray.empty t212 x6_1)) := fun W_ u_ => (by obtain ⟨ad_, e_, h0_⟩ := Kd.at_string (rC (W := W_) HO_5) x6_1 p215 q215; cases e_; exact h0_)
    have i215_0_ := RdR.mk hx215_0; clear hx215_0; replace p215 := eq_true p215; replace q215 := eq_true q215
    go_upto_if 30 with (first | ((with_reducible refine gate_callee (f := 199) rfl ?_); refine gC (some 26) Tryz.func199 (spec_TxOf.calls (w := _) (h := A9.out)) ?_; intro w10 _) | ((with_reducible refine gd 7 ?_); refine bL 7 #[.int .i64 0, .int .i64 0, .int .i64 0, .int .i64 0] 156 ?_; intro gb221 w11 _ _ _))
    have H := H'.out; clear H'
    by_cases c12 : t220 = true
    ·
     subst c12
     rw [if_pos rfl] at H
     by_cases c13 : x4_1.length < 4398046511104
     rotate_left
     ·
      rw [if_neg c13] at H
      exact absurd H (by simp)
     rw [if_pos c13] at H
     have LMc13 := Aside0.mk c13; clear c13; obtain ⟨y222, hy222⟩ : ∃ y_ : List (S156), y_ = (x4_1 ++ [(⟨t216, t217, t218, t219⟩ : S156)]) := ⟨_, rfl⟩
     replace H : (spec_TxsOf.l0 k1 y222 t212 (wrap64 (x6_1 + 1))) = some (r1, r2) := by first | (rw [hy222]; with_reducible exact H) | (rw [hy222]; with_reducible exact (Option.bind_some _ _).symm.trans H) | (rw [hy222]; exact H) | exact H
     have Ny222 := Aside0.mk hy222; clear hy222; have H' := Aside0.mk H; clear H
     go_wp2_with (first | ((with_reducible refine gate_builtin (b := .append) (xs := #[.tmp 32, .tmp 34]) rfl ?_); at_builtin; refine gA k156 (.tmp 32) (.tmp 34) 154 156 (.agg #[(.int .i64 0), (.int .i64 0), (.int .i64 0), (.int .i64 0)]) 32 (⟨t216, t217, t218, t219⟩ : S156) [.int .i64 t216, .int .i64 t217, .int .i64 t218, .int .i64 t219] w Ny222 HO_4 (k156_mkM _ _ _ (⟨t216, t217, t218, t219⟩ : S156)) (by have := LMc13.out; omega) ?_ (ht := Tryz.underlying154) (hinfo := info156); intro Ao223 co223 w14 _ _ HO224))
     go_roundg k1
     case measure => have := HK1.out; omega
     case rel => exact ⟨(y222), (wrap64 (x6_1 + 1)), (Ao223), (co223), y0_17, y0_17, H', ⟨y0_20⟩, ⟨rJ HO224⟩, ⟨UpT.out⟩, ⟨UpW.out⟩⟩
    replace c12 := Bool.eq_false_iff.mpr c12; subst c12
    rw [if_neg Bool.false_ne_true] at H
    obtain ⟨y225, hy225⟩ : ∃ y_ : List (S156), y_ = (([] : List (S156))) := ⟨_, rfl⟩
    replace H : (some (y225, false)) = some (r1, r2) := by first | (rw [hy225]; with_reducible exact H) | (rw [hy225]; with_reducible exact (Option.bind_some _ _).symm.trans H) | (rw [hy225]; exact H) | exact H
    have Ny225 := Aside0.mk hy225; clear hy225
    simp only [Option.some.injEq, Prod.mk.injEq] at H
    obtain ⟨rfl, rfl⟩ := H
    go_wp2_with (first | ((with_reducible refine gate_dst (N := 31) rfl ?_); refine lE 31 156 k156 Ny225 ?_; intro Ao226 co226 w15 _ HO227))
    go_ret2
    exact ⟨_, y0_17, rR HO227, UpW.out⟩
   rw [if_neg c7] at H
   have c7b0 : decide (x6_1 < (t212.length : Int)) = false := decide_eq_false c7; clear c7
   (first | rw [c7b0] | (simp only [i64_w, i32_w]; rw [c7b0]) | skip)
   simp only [Option.some.injEq, Prod.mk.injEq] at H
   obtain ⟨rfl, rfl⟩ := H
   go_wp2
   go_ret2
   exact ⟨_, y0_17, rR HO_4, UpW.out⟩
end Go.Proofs.YtdmjhgogljhfkaaGreatDoor.PFnParts
