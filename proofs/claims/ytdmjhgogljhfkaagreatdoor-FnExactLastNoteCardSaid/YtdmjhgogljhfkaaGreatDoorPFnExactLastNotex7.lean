-- By a program of this session, out of the translation (the print of the kit, with turns of its own). Lean checks it.
import Derived.Test.YtdmjhgogljhfkaaGreatDoorPFnExactLastNotex0
namespace Go.Proofs.YtdmjhgogljhfkaaGreatDoor.PFnExactLastNote
open Go.RowKit Go.Proofs.YtdmjhgogljhfkaaGreatDoorW.PrintWords Go.Proofs.YtdmjhgogljhfkaaGreatDoorW.PrintLast Go.Proofs.YtdmjhgogljhfkaaGreatDoorW.PrintMore
attribute [local go_sem] max2_int min2_int max_two min_two max_three min_three max_four min_four   -- for this text's walks alone
attribute [local go_sem] cell_in frozen_in
set_option synthInstance.maxSize 1000000
set_option synthInstance.maxHeartbeats 2000000
set_option linter.unusedVariables false
set_option linter.unusedSimpArgs false

/-! ### laws_toConf: function 8 -/
def laws_toConf.f (a0_0 : Int) (a0_1 : Int) : Option (Int × Int) := some (a0_0, a0_1)
set_option maxHeartbeats 8000000 in
set_option maxRecDepth 100000 in
theorem laws_toConf.calls (a0_0 : Int) (a0_1 : Int) (r1 : Int) (r2 : Int) (w : World) (h : laws_toConf.f a0_0 a0_1 = some (r1, r2)) :
  Calls Tryz.prog 8 #[.agg #[.int .i64 a0_0, .int .i64 a0_1]] w fun e w' => e = .returned (.agg #[.int .i64 r1, .int .i64 r2]) ∧ Below w.heap.size w w' := by
 have hu23 := Tryz.underlying23; have hu32 := Tryz.underlying32; have HB := Aside0.mk (Below.refl w.heap.size w); have H := h; unfold laws_toConf.f at H; clear h
 simp only [Option.some.injEq, Prod.mk.injEq] at H
 obtain ⟨rfl, rfl⟩ := H
 go_enter Tryz.func8, Tryz.ntmps8
 go_wp2_with (first | ((with_reducible refine gd 1 ?_); refine bL 1 #[.int .i64 a0_0, .int .i64 a0_1] 23 ?_; intro gb305 w2 _ _ _) | ((with_reducible refine gd 2 ?_); refine bL 2 #[.int .i64 0, .int .i64 0] 32 ?_; intro gb306 w3 _ _ _) | ((with_reducible refine gd 3 ?_); refine bL 3 #[.int .i64 0, .int .i64 0] 32 ?_; intro gb307 w4 _ _ _))
 refine bodyPost_ret (results_cell_row rfl _ _ gb306 32 #[.int .i64 a0_0, .int .i64 a0_1] (0, 0) _ rfl xB Tryz.underlying32 rfl (by kernel_rfl)) rfl ?_
 exact ⟨y0_17, UpW.out⟩

/-! ### laws_toByteS: function 9 -/
def laws_toByteS.l0 : Nat → List Int → List Int → Int → Option (List Int)
 | 0, _, _, _ => none
 | k + 1, x0, x3, x4 => if x4 < (x0.length : Int) then (if 0 ≤ x4 then (if x4 < (x3.length : Int) then (laws_toByteS.l0 k x0 (x3.set (x4 : Int).toNat (rd x0 x4)) (wrap64 (x4 + 1))) else (none)) else (none)) else (some x3)
def laws_toByteS.f (k : Nat) (l0 : List Int) : Option (List Int) := if 0 ≤ (l0.length : Int) then (if ((l0.length : Int) : Int).toNat ≤ 281474976710656 then (laws_toByteS.l0 k l0 (List.replicate ((l0.length : Int) : Int).toNat 0) 0) else (none)) else (none)
theorem laws_toByteS.mono_l : ∀ k, (∀ y0 y1 y2, LeO (laws_toByteS.l0 k y0 y1 y2) (laws_toByteS.l0 (k + 1) y0 y1 y2))
 | 0 => fun _ _ _ r h => by simp [laws_toByteS.l0] at h
 | k + 1 => by
  have ih0 := laws_toByteS.mono_l k
  intro y0 y1 y2
  unfold laws_toByteS.l0
  repeat' first | (with_reducible exact ih0 _ _ _) | (with_reducible exact LeO.refl _) | (with_reducible exact LeO.none _) | (with_reducible refine LeO.ite ?_ ?_) | (with_reducible refine LeO.bind ?_ (fun _ => ?_))
theorem laws_toByteS.mono : ∀ a0 k, LeO (laws_toByteS.f k a0) (laws_toByteS.f (k + 1) a0) := by
 intro a0 k
 have ih0 := laws_toByteS.mono_l k
 unfold laws_toByteS.f
 repeat' first | (with_reducible exact ih0 _ _ _) | (with_reducible exact LeO.refl _) | (with_reducible exact LeO.none _) | (with_reducible refine LeO.ite ?_ ?_) | (with_reducible refine LeO.bind ?_ (fun _ => ?_))
set_option maxHeartbeats 8000000 in
set_option maxRecDepth 100000 in
theorem laws_toByteS.calls (k : Nat) (A0 : Option Addr) (c0 : Nat) (l0 : List Int) (r : List Int) (w : World) (hr0 : Kd.C (Kd.int .u8) w A0 l0.length l0) (hc0 : l0.length ≤ c0) (h : laws_toByteS.f k l0 = some r) :
  Calls Tryz.prog 9 #[.slice A0 l0.length c0] w fun e w' => ∃ v0_ : Value, e = .returned (v0_) ∧ Kd.R (Kd.int .u8) 5 w' w.heap.size (fun _ => True) v0_ r ∧ Below w.heap.size w w' := by
 have HR0 := Aside0.mk hr0; have HC0 := Aside0.mk hc0; clear hr0 hc0; have HB := Aside0.mk (Below.refl w.heap.size w); have H := h; unfold laws_toByteS.f at H; clear h
 by_cases c2 : 0 ≤ (l0.length : Int)
 ·
  rw [if_pos c2] at H
  have c2b0 := eq_true c2; have c2b1 : decide (0 ≤ (l0.length : Int)) = true := decide_eq_true c2; clear c2
  by_cases c3 : ((l0.length : Int) : Int).toNat ≤ 281474976710656
  rotate_left
  ·
   rw [if_neg c3] at H
   exact absurd H (by simp)
  rw [if_pos c3] at H
  have c3b0 := eq_true c3; have c3b1 : decide (((l0.length : Int) : Int).toNat ≤ 281474976710656) = true := decide_eq_true c3; clear c3; obtain ⟨y308, hy308⟩ : ∃ y_ : List Int, y_ = (List.replicate ((l0.length : Int) : Int).toNat 0) := ⟨_, rfl⟩
  replace H : (laws_toByteS.l0 k l0 y308 0) = some r := by first | (rw [hy308]; with_reducible exact H) | (have H2_ := (Option.bind_some _ _).symm.trans H; rw [hy308]; with_reducible exact H2_) | (have H2_ := (Option.bind_some _ _).symm.trans H; with_reducible exact H2_) | with_reducible exact H | (rw [hy308]; exact H) | exact H
  have Ny308 := Aside0.mk hy308; clear hy308; have H' := Aside0.mk H; clear H
  go_enter Tryz.func9, Tryz.ntmps9
  go_wp2_with (first | ((with_reducible refine gate_dst (N := 7) rfl ?_); refine Kd.R_make (Kd.int .u8) _ 5 rfl (N := 7) rfl 24 _ _ rfl (l0.length : Int) rfl rfl Tryz.underlying24 (.int .u8 0) 1 info5 rfl (by decide) (by omega) 0 (ok := fun _ => True) (okp := fun _ => True) rfl (fun _ hk => hk) trivial (of_decide_eq_true y0_16) (Nat.le_trans (Nat.mul_le_mul_right _ (of_decide_eq_true y0_16 : (l0.length : Int).toNat ≤ 281474976710656)) (by omega)) (Below.refl _ _) (Nat.le_refl _) ?_; intro v309 w4 ho5 hb hg_ hnew_; clear hg_ hnew_; (first | rw [← Ny308.out] at ho5 | (simp only [Int.reduceToNat] at ho5; rw [← Ny308.out] at ho5)); have HO310 := Aside0.mk (Kd.R_lower ho5 (below_size (bI HB.out))); replace HB := bs HB hb; clear hb ho5))
  go_loopg [4] k (fun kq v4 w' => ∃ (x3_1 : List Int) (x4_1 : Int), v4 = .int .i64 x4_1 ∧ Aside0 (laws_toByteS.l0 kq l0 x3_1 x4_1 = some r) ∧ Aside0 (kq ≤ k) ∧ Aside0 (Kd.R (Kd.int .u8) 5 w' w.heap.size (fun _ => True) v309 x3_1) ∧ Aside0 (Below w.heap.size w w'))
  case atStart => exact ⟨(y308), (0), y0_17, H', ⟨Nat.le_refl _⟩, ⟨by (with_reducible repeat (first | apply Kd.R_alloc | apply Kd.R_drewN | apply Kd.R_drew)); exact HO310.out⟩, ⟨bI HB.out⟩⟩
  case round =>
   clear H'
   try clear c2
   try clear c2b0
   try clear c2b1
   try clear p2
   try clear c3
   try clear c3b0
   try clear c3b1
   obtain ⟨x3_1, x4_1, rfl, HA, HK1, HO_3, HB⟩ := hrel; cases gk with
   | zero => exact absurd HA.out (by simp [laws_toByteS.l0])
   | succ k1 =>
    have H := HA.out; clear HA
    simp only [laws_toByteS.l0] at H
    by_cases c6 : x4_1 < (l0.length : Int)
    ·
     rw [if_pos c6] at H
     have c6b0 : decide (x4_1 < (l0.length : Int)) = true := decide_eq_true c6; clear c6
     by_cases c7 : 0 ≤ x4_1
     rotate_left
     ·
      rw [if_neg c7] at H
      exact absurd H (by simp)
     rw [if_pos c7] at H
     have c7b0 : decide (0 ≤ x4_1) = true := decide_eq_true c7; clear c7
     by_cases c8 : x4_1 < (x3_1.length : Int)
     rotate_left
     ·
      rw [if_neg c8] at H
      exact absurd H (by simp)
     rw [if_pos c8] at H
     have c8b0 : decide (x4_1 < (x3_1.length : Int)) = true := decide_eq_true c8; clear c8; obtain ⟨y312, hy312⟩ : ∃ y_ : List Int, y_ = (x3_1.set (x4_1 : Int).toNat (rd l0 x4_1)) := ⟨_, rfl⟩
     replace H : (laws_toByteS.l0 k1 l0 y312 (wrap64 (x4_1 + 1))) = some r := by first | (rw [hy312]; with_reducible exact H) | (have H2_ := (Option.bind_some _ _).symm.trans H; rw [hy312]; with_reducible exact H2_) | (have H2_ := (Option.bind_some _ _).symm.trans H; with_reducible exact H2_) | with_reducible exact H | (rw [hy312]; exact H) | exact H
     have Ny312 := Aside0.mk hy312; clear hy312; have H' := Aside0.mk H; clear H; have p311 : 0 ≤ (x4_1 : Int) := of_decide_eq_true y0_16; have q311 : x4_1 < (l0.length : Int) := of_decide_eq_true y0_16; obtain ⟨ad311, e311, hx311_0⟩ := Kd.at_int HR0.out x4_1 p311 q311; cases e311; replace hx311_0 := bx HB hx311_0; replace p311 := eq_true p311; replace q311 := eq_true q311; have p9 : 0 ≤ (x4_1 : Int) := of_decide_eq_true y0_16; have q9 : (x4_1 : Int) < ((x3_1.length : Int) : Int) := of_decide_eq_true y0_16
     obtain ⟨go9, co9, eo9, gb9, gl9, cl9, HG9⟩ := Kd.R_form HO_3.out (by omega)
     (first | cases eo9 | (injection eo9 with ea_ en_ ec_; (first | subst ea_ | (injection ea_ with ea_; subst ea_)); subst ec_; clear en_))
     have GB9 := Aside0.mk gb9; have GG9 := Aside0.mk HG9; clear gb9 gl9 HG9; obtain ⟨hx9_0, hf9_0⟩ := Kd.R_celln 0 HO_3.out (x4_1 : Int) p9 q9; replace p9 := eq_true p9; replace q9 := eq_true q9; have HP10 := Kd.R_putg HO_3.out (x4_1 : Int) (rd l0 x4_1)
     go_wp2_with (first | ((with_reducible refine gate_store (t := 5) (p := 20) rfl ?_); refine store_event (t := 5) (p := 20) (v := ?vo_w11) (w1 := (wr.setCell ⟨go9, (x4_1 : Int).toNat, none⟩ (.int .u8 (rd l0 x4_1)))) ?hg ?ho ?hn ?hr ?_; (case ho => rfl); (case hg => rfl); (case hn => rfl); (case hr => first | (go_simp; done) | (go_simp; rfl)); intro w11 hw; have hg : wr.grownBy w11 (some go9) := (by rw [hw]; exact HP10.2); have hp_ : Kd.R (Kd.int .u8) 5 w11 w.heap.size (fun _ => True) (.slice (some ⟨go9, 0, none⟩) x3_1.length co9) y312 := (by rw [hw, Ny312.out]; exact HP10.1); clear HP10; replace HO_3 := Aside0.mk (hp_); replace HB := Aside0.mk ((by rw [hw]; exact below_set (HB.out) GB9.out : Below w.heap.size w w11)); clear hg hw hp_))
     go_roundg k1
     case measure => have := HK1.out; omega
     case rel => exact ⟨(y312), (wrap64 (x4_1 + 1)), y0_17, H', ⟨y0_20⟩, ⟨by (with_reducible repeat (first | apply Kd.R_alloc | apply Kd.R_drewN | apply Kd.R_drew)); exact HO_3.out⟩, ⟨bI HB.out⟩⟩
    rw [if_neg c6] at H
    have c6b0 : decide (x4_1 < (l0.length : Int)) = false := decide_eq_false c6; clear c6; obtain rfl := Option.some.inj H
    go_wp2
    go_ret
    exact ⟨_, y0_11, by (with_reducible repeat (first | apply Kd.R_alloc | apply Kd.R_drewN | apply Kd.R_drew)); exact HO_3.out, bI HB.out⟩
 rw [if_neg c2] at H
 exact absurd H (by simp)

/-! ### slices_Equal_int_int: function 104 -/
def slices_Equal_int_int.l0 : Nat → List Int → List Int → Int → Int → Option (Bool)
 | 0, _, _, _, _ => none
 | k + 1, x0, x1, x12, x13 => if x13 < x12 then (if 0 ≤ x13 then (if x13 < (x0.length : Int) then (if x13 < (x1.length : Int) then (if (rd x0 x13) = (rd x1 x13) then (slices_Equal_int_int.l0 k x0 x1 x12 (wrap64 (x13 + 1))) else (some false)) else (none)) else (none)) else (none)) else (some true)
def slices_Equal_int_int.f (k : Nat) (l0 : List Int) (l1 : List Int) : Option (Bool) := if (l0.length : Int) = (l1.length : Int) then (slices_Equal_int_int.l0 k l0 l1 (l0.length : Int) 0) else (some false)
theorem slices_Equal_int_int.mono_l : ∀ k, (∀ y0 y1 y2 y3, LeO (slices_Equal_int_int.l0 k y0 y1 y2 y3) (slices_Equal_int_int.l0 (k + 1) y0 y1 y2 y3))
 | 0 => fun _ _ _ _ r h => by simp [slices_Equal_int_int.l0] at h
 | k + 1 => by
  have ih0 := slices_Equal_int_int.mono_l k
  intro y0 y1 y2 y3
  unfold slices_Equal_int_int.l0
  repeat' first | (with_reducible exact ih0 _ _ _ _) | (with_reducible exact LeO.refl _) | (with_reducible exact LeO.none _) | (with_reducible refine LeO.ite ?_ ?_) | (with_reducible refine LeO.bind ?_ (fun _ => ?_))
theorem slices_Equal_int_int.mono : ∀ a0 a1 k, LeO (slices_Equal_int_int.f k a0 a1) (slices_Equal_int_int.f (k + 1) a0 a1) := by
 intro a0 a1 k
 have ih0 := slices_Equal_int_int.mono_l k
 unfold slices_Equal_int_int.f
 repeat' first | (with_reducible exact ih0 _ _ _ _) | (with_reducible exact LeO.refl _) | (with_reducible exact LeO.none _) | (with_reducible refine LeO.ite ?_ ?_) | (with_reducible refine LeO.bind ?_ (fun _ => ?_))
set_option maxHeartbeats 8000000 in
set_option maxRecDepth 100000 in
theorem slices_Equal_int_int.calls (k : Nat) (A0 : Option Addr) (c0 : Nat) (l0 : List Int) (A1 : Option Addr) (c1 : Nat) (l1 : List Int) (r : Bool) (w : World) (hr0 : Kd.C (Kd.int .i64) w A0 l0.length l0) (hc0 : l0.length ≤ c0) (hr1 : Kd.C (Kd.int .i64) w A1 l1.length l1) (hc1 : l1.length ≤ c1) (h : slices_Equal_int_int.f k l0 l1 = some r) :
  Calls Tryz.prog 104 #[.slice A0 l0.length c0, .slice A1 l1.length c1] w fun e w' => e = .returned (.bool r) ∧ Drawn0 w w' := by
 have HR0 := Aside0.mk hr0; have HC0 := Aside0.mk hc0; clear hr0 hc0; have HR1 := Aside0.mk hr1; have HC1 := Aside0.mk hc1; clear hr1 hc1; have H := h; unfold slices_Equal_int_int.f at H; clear h
 by_cases c3 : (l0.length : Int) = (l1.length : Int)
 ·
  rw [if_pos c3] at H
  have c3b0 : ((l0.length : Int) == (l1.length : Int)) = true := beq_iff_eq.mpr c3; have c3b1 : ((l0.length : Int) != (l1.length : Int)) = false := bne_eq_false_iff_eq.mpr c3
  have c3b2 : (l0.length == l1.length) = true := by first | simpa using c3 | (simp at c3 ⊢; omega)
  clear c3; have H' := Aside0.mk H; clear H
  go_enter Tryz.func104, Tryz.ntmps104
  go_wp2
  repeat (go_quiet (fail); try go_wp2)
  go_loopg [13] k (fun kq v13 w' => ∃ (x13_1 : Int), v13 = .int .i64 x13_1 ∧ Aside0 (slices_Equal_int_int.l0 kq l0 l1 (l0.length : Int) x13_1 = some r) ∧ Aside0 (kq ≤ k) ∧ Drawn0 w w')
  case atStart => exact ⟨(0), y0_17, H', ⟨Nat.le_refl _⟩, y0_14⟩
  case round =>
   clear H'
   try clear c1
   try clear p2
   try clear c3
   try clear c3b0
   try clear c3b1
   try clear c3b2
   obtain ⟨x13_1, rfl, HA, HK1, ⟨m1, rfl⟩⟩ := hrel; cases gk with
   | zero => exact absurd HA.out (by simp [slices_Equal_int_int.l0])
   | succ k1 =>
    have H := HA.out; clear HA
    simp only [slices_Equal_int_int.l0] at H
    by_cases c4 : x13_1 < (l0.length : Int)
    ·
     rw [if_pos c4] at H
     have c4b0 : decide (x13_1 < (l0.length : Int)) = true := decide_eq_true c4; clear c4
     by_cases c5 : 0 ≤ x13_1
     rotate_left
     ·
      rw [if_neg c5] at H
      exact absurd H (by simp)
     rw [if_pos c5] at H
     have c5b0 : decide (0 ≤ x13_1) = true := decide_eq_true c5; clear c5
     by_cases c6 : x13_1 < (l0.length : Int)
     rotate_left
     ·
      rw [if_neg c6] at H
      exact absurd H (by simp)
     rw [if_pos c6] at H
     have c6b0 : decide (x13_1 < (l0.length : Int)) = true := decide_eq_true c6; clear c6
     by_cases c7 : x13_1 < (l1.length : Int)
     rotate_left
     ·
      rw [if_neg c7] at H
      exact absurd H (by simp)
     rw [if_pos c7] at H
     have c7b0 : decide (x13_1 < (l1.length : Int)) = true := decide_eq_true c7; clear c7
     by_cases c8 : (rd l0 x13_1) = (rd l1 x13_1)
     ·
      rw [if_pos c8] at H
      have c8b0 : ((rd l0 x13_1) == (rd l1 x13_1)) = true := beq_iff_eq.mpr c8; have c8b1 : ((rd l0 x13_1) != (rd l1 x13_1)) = false := bne_eq_false_iff_eq.mpr c8; clear c8; have H' := Aside0.mk H; clear H; have p313 : 0 ≤ (x13_1 : Int) := of_decide_eq_true y0_16; have q313 : x13_1 < (l0.length : Int) := of_decide_eq_true y0_16; obtain ⟨ad313, e313, hx313_0⟩ := Kd.at_int HR0.out x13_1 p313 q313; cases e313; replace p313 := eq_true p313; replace q313 := eq_true q313; have p314 : 0 ≤ (x13_1 : Int) := of_decide_eq_true y0_16; have q314 : x13_1 < (l1.length : Int) := of_decide_eq_true y0_16; obtain ⟨ad314, e314, hx314_0⟩ := Kd.at_int HR1.out x13_1 p314 q314; cases e314; replace p314 := eq_true p314; replace q314 := eq_true q314
      go_wp2
      repeat (go_quiet (fail); try go_wp2)
      go_roundg k1
      case measure => have := HK1.out; omega
      case rel => exact ⟨(wrap64 (x13_1 + 1)), y0_17, H', ⟨y0_20⟩, y0_14⟩
     rw [if_neg c8] at H
     have c8b0 : ((rd l0 x13_1) == (rd l1 x13_1)) = false := beq_eq_false_iff_ne.mpr c8; have c8b1 : ((rd l0 x13_1) != (rd l1 x13_1)) = true := bne_iff_ne.mpr c8; obtain rfl := Option.some.inj H; have p313 : 0 ≤ (x13_1 : Int) := of_decide_eq_true y0_16; have q313 : x13_1 < (l0.length : Int) := of_decide_eq_true y0_16; obtain ⟨ad313, e313, hx313_0⟩ := Kd.at_int HR0.out x13_1 p313 q313; cases e313; replace p313 := eq_true p313; replace q313 := eq_true q313; have p314 : 0 ≤ (x13_1 : Int) := of_decide_eq_true y0_16; have q314 : x13_1 < (l1.length : Int) := of_decide_eq_true y0_16; obtain ⟨ad314, e314, hx314_0⟩ := Kd.at_int HR1.out x13_1 p314 q314; cases e314; replace p314 := eq_true p314; replace q314 := eq_true q314
     go_wp2
     repeat (go_quiet (fail); try go_wp2)
     go_ret
     exact ⟨y0_17, y0_14⟩
    rw [if_neg c4] at H
    have c4b0 : decide (x13_1 < (l0.length : Int)) = false := decide_eq_false c4; clear c4; obtain rfl := Option.some.inj H
    go_wp2
    repeat (go_quiet (fail); try go_wp2)
    go_ret
    exact ⟨y0_17, y0_14⟩
 rw [if_neg c3] at H
 have c3b0 : ((l0.length : Int) == (l1.length : Int)) = false := beq_eq_false_iff_ne.mpr c3; have c3b1 : ((l0.length : Int) != (l1.length : Int)) = true := bne_iff_ne.mpr c3
 have c3b2 : (l0.length == l1.length) = false := by first | simpa using c3 | (simp at c3 ⊢; omega)
 obtain rfl := Option.some.inj H
 go_enter Tryz.func104, Tryz.ntmps104
 go_wp2
 repeat (go_quiet (fail); try go_wp2)
 go_ret
 exact ⟨y0_17, y0_14⟩

/-! ### impl_QcSame: function 41 -/
def impl_QcSame.f (k : Nat) (a0_0 : Int) (a0_1 : ByteArray) (l0_2 : List Int) (a1_0 : Int) (a1_1 : ByteArray) (l1_2 : List Int) : Option (Bool) := if a0_0 = a1_0 then (if a0_1.toList = a1_1.toList then ((slices_Equal_int_int.f k l0_2 l1_2).bind fun t317 => (some t317)) else (some false)) else (some false)
theorem impl_QcSame.mono : ∀ a0 a1 a2 a3 a4 a5 k, LeO (impl_QcSame.f k a0 a1 a2 a3 a4 a5) (impl_QcSame.f (k + 1) a0 a1 a2 a3 a4 a5) := by
 intro a0 a1 a2 a3 a4 a5 k
 unfold impl_QcSame.f
 repeat' first | (with_reducible exact slices_Equal_int_int.mono _ _ _) | (with_reducible exact LeO.refl _) | (with_reducible exact LeO.none _) | (with_reducible refine LeO.ite ?_ ?_) | (with_reducible refine LeO.bind ?_ (fun _ => ?_))
set_option maxHeartbeats 8000000 in
set_option maxRecDepth 100000 in
theorem impl_QcSame.calls (k : Nat) (a0_0 : Int) (a0_1 : ByteArray) (A0_2 : Option Addr) (c0_2 : Nat) (l0_2 : List Int) (a1_0 : Int) (a1_1 : ByteArray) (A1_2 : Option Addr) (c1_2 : Nat) (l1_2 : List Int) (r : Bool) (w : World) (hr0_2 : Kd.C (Kd.int .i64) w A0_2 l0_2.length l0_2) (hc0_2 : l0_2.length ≤ c0_2) (hr1_2 : Kd.C (Kd.int .i64) w A1_2 l1_2.length l1_2) (hc1_2 : l1_2.length ≤ c1_2) (h : impl_QcSame.f k a0_0 a0_1 l0_2 a1_0 a1_1 l1_2 = some r) :
  Calls Tryz.prog 41 #[.agg #[.int .i64 a0_0, .string a0_1, .slice A0_2 l0_2.length c0_2], .agg #[.int .i64 a1_0, .string a1_1, .slice A1_2 l1_2.length c1_2]] w fun e w' => e = .returned (.bool r) ∧ Below w.heap.size w w' := by
 have hu27 := Tryz.underlying27; have HR0_2 := Aside0.mk hr0_2; have HC0_2 := Aside0.mk hc0_2; clear hr0_2 hc0_2; have HR1_2 := Aside0.mk hr1_2; have HC1_2 := Aside0.mk hc1_2; clear hr1_2 hc1_2; have HB := Aside0.mk (Below.refl w.heap.size w)
 have H := h; unfold impl_QcSame.f at H
 clear h
 go_enter Tryz.func41, Tryz.ntmps41
 have H' := Aside0.mk H; clear H
 go_upto_region 1 with (first | ((with_reducible refine gd 2 ?_); refine bL 2 #[.int .i64 a0_0, .string a0_1, .slice A0_2 l0_2.length c0_2] 27 ?_; intro gb315 w3 _ _ _) | ((with_reducible refine gd 3 ?_); refine bL 3 #[.int .i64 a1_0, .string a1_1, .slice A1_2 l1_2.length c1_2] 27 ?_; intro gb316 w4 _ _ _))
 have H := H'.out; clear H'
 by_cases c5 : a0_0 = a1_0
 ·
  rw [if_pos c5] at H
  have c5b0 : (a0_0 == a1_0) = true := beq_iff_eq.mpr c5; have c5b1 : (a0_0 != a1_0) = false := bne_eq_false_iff_eq.mpr c5; clear c5
  (first | rw [c5b0] | (simp only [i64_w, i32_w]; rw [c5b0]) | skip)
  by_cases c6 : a0_1.toList = a1_1.toList
  ·
   rw [if_pos c6] at H
   have c6b0 : (a0_1.toList == a1_1.toList) = true := beq_iff_eq.mpr c6; have c6b1 : (a0_1.toList != a1_1.toList) = false := bne_eq_false_iff_eq.mpr c6; clear c6; obtain ⟨t317, A7, H⟩ := oB H; (try dsimp only at H); obtain rfl := Option.some.inj H
   go_wp2_with (first | (go_at_call 104; refine aD (slices_Equal_int_int.calls (hr0 := pC HR0_2) (hc0 := HC0_2.out) (hr1 := pC HR1_2) (hc1 := HC1_2.out) (w := _) (h := A7.out)) ?_; intro w8 _))
   go_ret
   exact ⟨y0_17, UpW.out⟩
  rw [if_neg c6] at H
  have c6b0 : (a0_1.toList == a1_1.toList) = false := beq_eq_false_iff_ne.mpr c6; have c6b1 : (a0_1.toList != a1_1.toList) = true := bne_iff_ne.mpr c6; obtain rfl := Option.some.inj H
  go_wp2
  go_ret
  exact ⟨y0_17, UpW.out⟩
 rw [if_neg c5] at H
 have c5b0 : (a0_0 == a1_0) = false := beq_eq_false_iff_ne.mpr c5; have c5b1 : (a0_0 != a1_0) = true := bne_iff_ne.mpr c5
 (first | rw [c5b0] | (simp only [i64_w, i32_w]; rw [c5b0]) | skip)
 obtain rfl := Option.some.inj H
 go_wp2
 go_ret
 exact ⟨y0_17, UpW.out⟩

/-! ### impl_SetOk: function 51 -/
def impl_SetOk.l0 : Nat → Int → List Int → List Int → Int → Int → Option (Bool)
 | 0, _, _, _, _, _ => none
 | k + 1, x0, x1, x7, x8, x9 => if x9 < x8 then (if 0 ≤ x9 then (if x9 < (x7.length : Int) then (if (rd x7 x9) < 0 then (some false) else (if (rd x7 x9) ≥ x0 then (some false) else (if x9 > 0 then (if 0 ≤ (wrap64 (x9 - 1)) then (if (wrap64 (x9 - 1)) < (x1.length : Int) then (if (rd x1 (wrap64 (x9 - 1))) ≥ (rd x7 x9) then (some false) else (impl_SetOk.l0 k x0 x1 x7 x8 (wrap64 (x9 + 1)))) else (none)) else (none)) else (impl_SetOk.l0 k x0 x1 x7 x8 (wrap64 (x9 + 1)))))) else (none)) else (none)) else (some true)
def impl_SetOk.f (k : Nat) (a0 : Int) (l1 : List Int) : Option (Bool) := impl_SetOk.l0 k a0 l1 l1 (l1.length : Int) 0
theorem impl_SetOk.mono_l : ∀ k, (∀ y0 y1 y2 y3 y4, LeO (impl_SetOk.l0 k y0 y1 y2 y3 y4) (impl_SetOk.l0 (k + 1) y0 y1 y2 y3 y4))
 | 0 => fun _ _ _ _ _ r h => by simp [impl_SetOk.l0] at h
 | k + 1 => by
  have ih0 := impl_SetOk.mono_l k
  intro y0 y1 y2 y3 y4
  unfold impl_SetOk.l0
  repeat' first | (with_reducible exact ih0 _ _ _ _ _) | (with_reducible exact LeO.refl _) | (with_reducible exact LeO.none _) | (with_reducible refine LeO.ite ?_ ?_) | (with_reducible refine LeO.bind ?_ (fun _ => ?_))
theorem impl_SetOk.mono : ∀ a0 a1 k, LeO (impl_SetOk.f k a0 a1) (impl_SetOk.f (k + 1) a0 a1) := by
 intro a0 a1 k
 have ih0 := impl_SetOk.mono_l k
 unfold impl_SetOk.f
 repeat' first | (with_reducible exact ih0 _ _ _ _ _) | (with_reducible exact LeO.refl _) | (with_reducible exact LeO.none _) | (with_reducible refine LeO.ite ?_ ?_) | (with_reducible refine LeO.bind ?_ (fun _ => ?_))
set_option maxHeartbeats 8000000 in
set_option maxRecDepth 100000 in
theorem impl_SetOk.calls (k : Nat) (a0 : Int) (A1 : Option Addr) (c1 : Nat) (l1 : List Int) (r : Bool) (w : World) (hr1 : Kd.C (Kd.int .i64) w A1 l1.length l1) (hc1 : l1.length ≤ c1) (h : impl_SetOk.f k a0 l1 = some r) :
  Calls Tryz.prog 51 #[.int .i64 a0, .slice A1 l1.length c1] w fun e w' => e = .returned (.bool r) ∧ Drawn0 w w' := by
 have HR1 := Aside0.mk hr1; have HC1 := Aside0.mk hc1; clear hr1 hc1; have H := h; unfold impl_SetOk.f at H; clear h; have H' := Aside0.mk H; clear H
 go_enter Tryz.func51, Tryz.ntmps51
 go_wp2
 go_loopg [9] k (fun kq v9 w' => ∃ (x9_1 : Int), v9 = .int .i64 x9_1 ∧ Aside0 (impl_SetOk.l0 kq a0 l1 l1 (l1.length : Int) x9_1 = some r) ∧ Aside0 (kq ≤ k) ∧ Drawn0 w w')
 case atStart => exact ⟨(0), y0_17, H', ⟨Nat.le_refl _⟩, y0_14⟩
 case round =>
  clear H'
  try clear c1
  try clear p2
  obtain ⟨x9_1, rfl, HA, HK1, ⟨m1, rfl⟩⟩ := hrel; cases gk with
  | zero => exact absurd HA.out (by simp [impl_SetOk.l0])
  | succ k1 =>
   have H := HA.out; clear HA
   simp only [impl_SetOk.l0] at H
   by_cases c3 : x9_1 < (l1.length : Int)
   ·
    rw [if_pos c3] at H
    have c3b0 : decide (x9_1 < (l1.length : Int)) = true := decide_eq_true c3; clear c3
    by_cases c4 : 0 ≤ x9_1
    rotate_left
    ·
     rw [if_neg c4] at H
     exact absurd H (by simp)
    rw [if_pos c4] at H
    have c4b0 : decide (0 ≤ x9_1) = true := decide_eq_true c4; clear c4
    by_cases c5 : x9_1 < (l1.length : Int)
    rotate_left
    ·
     rw [if_neg c5] at H
     exact absurd H (by simp)
    rw [if_pos c5] at H
    have c5b0 : decide (x9_1 < (l1.length : Int)) = true := decide_eq_true c5; clear c5
    by_cases c6 : (rd l1 x9_1) < 0
    ·
     rw [if_pos c6] at H
     have c6b0 : decide ((rd l1 x9_1) < 0) = true := decide_eq_true c6; clear c6; obtain rfl := Option.some.inj H; have p318 : 0 ≤ (x9_1 : Int) := of_decide_eq_true y0_16; have q318 : x9_1 < (l1.length : Int) := of_decide_eq_true y0_16; obtain ⟨ad318, e318, hx318_0⟩ := Kd.at_int HR1.out x9_1 p318 q318; cases e318; replace p318 := eq_true p318; replace q318 := eq_true q318
     go_wp2
     go_ret
     exact ⟨y0_17, y0_14⟩
    rw [if_neg c6] at H
    have c6b0 : decide ((rd l1 x9_1) < 0) = false := decide_eq_false c6; clear c6
    by_cases c7 : (rd l1 x9_1) ≥ a0
    ·
     rw [if_pos c7] at H
     have c7b0 : decide (a0 ≤ (rd l1 x9_1)) = true := decide_eq_true c7; clear c7; obtain rfl := Option.some.inj H; have p318 : 0 ≤ (x9_1 : Int) := of_decide_eq_true y0_16; have q318 : x9_1 < (l1.length : Int) := of_decide_eq_true y0_16; obtain ⟨ad318, e318, hx318_0⟩ := Kd.at_int HR1.out x9_1 p318 q318; cases e318; replace p318 := eq_true p318; replace q318 := eq_true q318
     go_wp2
     go_ret
     exact ⟨y0_17, y0_14⟩
    rw [if_neg c7] at H
    have c7b0 : decide (a0 ≤ (rd l1 x9_1)) = false := decide_eq_false c7; clear c7
    by_cases c8 : x9_1 > 0
    ·
     rw [if_pos c8] at H
     have c8b0 : decide (0 < x9_1) = true := decide_eq_true c8; clear c8; obtain ⟨ji9, hji9⟩ : ∃ j_ : Int, (wrap64 (x9_1 - 1)) = j_ := ⟨_, rfl⟩
     replace H : (if 0 ≤ (ji9) then (if (ji9) < (l1.length : Int) then (if (rd l1 (ji9)) ≥ (rd l1 x9_1) then (some false) else (impl_SetOk.l0 k1 a0 l1 l1 (l1.length : Int) (wrap64 (x9_1 + 1)))) else (none)) else (none)) = some r := by first | (rw [hji9] at H; exact H) | (simp only [hji9] at H ⊢; exact H)
     have hji9w : (IntKind.i64.wrap (x9_1 - 1)) = ji9 := (i64_w _).trans hji9
     by_cases c10 : 0 ≤ (ji9)
     rotate_left
     ·
      rw [if_neg c10] at H
      exact absurd H (by simp)
     rw [if_pos c10] at H
     have c10b0 : decide (0 ≤ (ji9)) = true := decide_eq_true c10; clear c10
     by_cases c11 : (ji9) < (l1.length : Int)
     rotate_left
     ·
      rw [if_neg c11] at H
      exact absurd H (by simp)
     rw [if_pos c11] at H
     have c11b0 : decide ((ji9) < (l1.length : Int)) = true := decide_eq_true c11; clear c11
     by_cases c12 : (rd l1 (ji9)) ≥ (rd l1 x9_1)
     ·
      rw [if_pos c12] at H
      have c12b0 : decide ((rd l1 x9_1) ≤ (rd l1 (ji9))) = true := decide_eq_true c12; clear c12; obtain rfl := Option.some.inj H; have p318 : 0 ≤ (x9_1 : Int) := of_decide_eq_true y0_16; have q318 : x9_1 < (l1.length : Int) := of_decide_eq_true y0_16; obtain ⟨ad318, e318, hx318_0⟩ := Kd.at_int HR1.out x9_1 p318 q318; cases e318; replace p318 := eq_true p318; replace q318 := eq_true q318; have p319 : 0 ≤ ((ji9) : Int) := of_decide_eq_true y0_16; have q319 : (ji9) < (l1.length : Int) := of_decide_eq_true y0_16; obtain ⟨ad319, e319, hx319_0⟩ := Kd.at_int HR1.out (ji9) p319 q319
      obtain rfl : ad318 = ad319 := (by injection e319)
      replace p319 := eq_true p319; replace q319 := eq_true q319
      go_wp2
      go_ret
      exact ⟨by first | rfl | (simp; done) | (simp only [← hji9] <;> (first | rfl | simp)) | (simp [*]; done), y0_14⟩
     rw [if_neg c12] at H
     have c12b0 : decide ((rd l1 x9_1) ≤ (rd l1 (ji9))) = false := decide_eq_false c12; clear c12; have H' := Aside0.mk H; clear H; have p318 : 0 ≤ (x9_1 : Int) := of_decide_eq_true y0_16; have q318 : x9_1 < (l1.length : Int) := of_decide_eq_true y0_16; obtain ⟨ad318, e318, hx318_0⟩ := Kd.at_int HR1.out x9_1 p318 q318; cases e318; replace p318 := eq_true p318; replace q318 := eq_true q318; have p319 : 0 ≤ ((ji9) : Int) := of_decide_eq_true y0_16; have q319 : (ji9) < (l1.length : Int) := of_decide_eq_true y0_16; obtain ⟨ad319, e319, hx319_0⟩ := Kd.at_int HR1.out (ji9) p319 q319
     obtain rfl : ad318 = ad319 := (by injection e319)
     replace p319 := eq_true p319; replace q319 := eq_true q319
     go_wp2
     go_roundg k1
     case measure => have := HK1.out; omega
     case rel => exact ⟨(wrap64 (x9_1 + 1)), y0_17, H', ⟨y0_20⟩, y0_14⟩
    rw [if_neg c8] at H
    have c8b0 : decide (0 < x9_1) = false := decide_eq_false c8; clear c8; have H' := Aside0.mk H; clear H; have p318 : 0 ≤ (x9_1 : Int) := of_decide_eq_true y0_16; have q318 : x9_1 < (l1.length : Int) := of_decide_eq_true y0_16; obtain ⟨ad318, e318, hx318_0⟩ := Kd.at_int HR1.out x9_1 p318 q318; cases e318; replace p318 := eq_true p318; replace q318 := eq_true q318
    go_wp2
    go_roundg k1
    case measure => have := HK1.out; omega
    case rel => exact ⟨(wrap64 (x9_1 + 1)), y0_17, H', ⟨y0_20⟩, y0_14⟩
   rw [if_neg c3] at H
   have c3b0 : decide (x9_1 < (l1.length : Int)) = false := decide_eq_false c3; clear c3; obtain rfl := Option.some.inj H
   go_wp2
   go_ret
   exact ⟨y0_17, y0_14⟩

/-! ### impl_within: function 106 -/
def impl_within.f (a0 : Int) (a1 : Int) (a2 : Int) : Option (Bool) := if a0 ≥ a1 then (some (decide (a0 ≤ a2))) else (some false)
set_option maxHeartbeats 8000000 in
set_option maxRecDepth 100000 in
theorem impl_within.calls (a0 : Int) (a1 : Int) (a2 : Int) (r : Bool) (w : World) (h : impl_within.f a0 a1 a2 = some r) :
  Calls Tryz.prog 106 #[.int .i64 a0, .int .i64 a1, .int .i64 a2] w fun e w' => e = .returned (.bool r) ∧ Drawn0 w w' := by
 have H := h; unfold impl_within.f at H; clear h
 by_cases c4 : a0 ≥ a1
 ·
  rw [if_pos c4] at H
  have c4b0 : decide (a1 ≤ a0) = true := decide_eq_true c4; clear c4; obtain rfl := Option.some.inj H
  go_enter Tryz.func106, Tryz.ntmps106
  go_wp2
  go_ret
  exact ⟨y0_17, y0_14⟩
 rw [if_neg c4] at H
 have c4b0 : decide (a1 ≤ a0) = false := decide_eq_false c4; clear c4; obtain rfl := Option.some.inj H
 go_enter Tryz.func106, Tryz.ntmps106
 go_wp2
 go_ret
 exact ⟨y0_17, y0_14⟩

/-! ### impl_ConfOk: function 105 -/
def impl_ConfOk.f (a0_0 : Int) (a0_1 : Int) : Option (Bool) := (impl_within.f a0_0 4 7).bind fun t321 => (if t321 = true then ((impl_within.f a0_1 1 6).bind fun t322 => (some t322)) else (some false))
set_option maxHeartbeats 8000000 in
set_option maxRecDepth 100000 in
theorem impl_ConfOk.calls (a0_0 : Int) (a0_1 : Int) (r : Bool) (w : World) (h : impl_ConfOk.f a0_0 a0_1 = some r) :
  Calls Tryz.prog 105 #[.agg #[.int .i64 a0_0, .int .i64 a0_1]] w fun e w' => e = .returned (.bool r) ∧ Below w.heap.size w w' := by
 have hu32 := Tryz.underlying32; have HB := Aside0.mk (Below.refl w.heap.size w)
 have H := h; unfold impl_ConfOk.f at H
 clear h
 go_enter Tryz.func105, Tryz.ntmps105
 have H' := Aside0.mk H; clear H
 go_upto_region 1 with (first | ((with_reducible refine gd 1 ?_); refine bL 1 #[.int .i64 a0_0, .int .i64 a0_1] 32 ?_; intro gb320 w2 _ _ _))
 have H := H'.out; clear H'; obtain ⟨t321, A3, H⟩ := oB H; (try dsimp only at H)
 by_cases c4 : t321 = true
 ·
  subst c4
  rw [if_pos rfl] at H
  obtain ⟨t322, A5, H⟩ := oB H; (try dsimp only at H); obtain rfl := Option.some.inj H
  go_wp2_with (first | ((with_reducible refine gate_callee (f := 106) rfl ?_); refine gD (some 5) Tryz.func106 (impl_within.calls (w := _) (h := A3.out)) ?_; intro w6 _) | (go_at_call 106; refine aD (impl_within.calls (w := _) (h := A5.out)) ?_; intro w7 _))
  go_ret
  exact ⟨y0_17, UpW.out⟩
 replace c4 := Bool.eq_false_iff.mpr c4; subst c4
 rw [if_neg (show ¬ (false = true) by decide)] at H
 obtain rfl := Option.some.inj H
 go_wp2_with (first | ((with_reducible refine gate_callee (f := 106) rfl ?_); refine gD (some 5) Tryz.func106 (impl_within.calls (w := _) (h := A3.out)) ?_; intro w8 _))
 go_ret
 exact ⟨y0_17, UpW.out⟩

/-! ### strings_Split: function 195 -/

/-! ### impl_Split: function 174 -/
def impl_Split.f (a0 : ByteArray) (a1 : Int) : Option (List ByteArray) := (strings_Split.f a0 (strOfNums (([a1] : List Int)))).bind fun t326 => (some t326)
set_option maxHeartbeats 8000000 in
set_option maxRecDepth 100000 in
theorem impl_Split.calls (a0 : ByteArray) (a1 : Int) (r : List ByteArray) (w : World) (h : impl_Split.f a0 a1 = some r) (hG : Glob w := by exact gG HG HB) :
  Calls Tryz.prog 174 #[.string a0, .int .u8 a1] w fun e w' => ∃ v0_ : Value, e = .returned (v0_) ∧ Kd.R Kd.string 9 w' w.heap.size (fun _ => True) v0_ r ∧ Below w.heap.size w w' := by
 have HG := Aside0.mk hG; clear hG; have HB := Aside0.mk (Below.refl w.heap.size w)
 have H := h; unfold impl_Split.f at H
 clear h; obtain ⟨y323, hy323⟩ : ∃ y_ : List Int, y_ = (([a1] : List Int)) := ⟨_, rfl⟩
 replace H : ((strings_Split.f a0 (strOfNums y323)).bind fun t326 => (some t326)) = some r := by first | (rw [hy323]; with_reducible exact H) | (have H2_ := (Option.bind_some _ _).symm.trans H; rw [hy323]; with_reducible exact H2_) | (have H2_ := (Option.bind_some _ _).symm.trans H; with_reducible exact H2_) | with_reducible exact H | (rw [hy323]; exact H) | exact H
 have Ny323 := Aside0.mk hy323; clear hy323; obtain ⟨t326, A3, H⟩ := oB H; (try dsimp only at H); obtain rfl := Option.some.inj H
 go_enter Tryz.func174, Tryz.ntmps174
 go_wp2_with (first | ((with_reducible refine gate_dst (N := 7) rfl ?_); refine Kd.R_lit (Kd.int .u8) _ 5 ?hg (N := 7) ?hd (xs := ([a1] : List Int)) (inner := [.int .u8 a1]) (ok := fun _ => True) (okp := fun _ => True) ?hr ?hp (fun _ hk => hk) trivial (Below.refl _ _) (Nat.le_refl _) (by simp) ?_; (case hd => rfl); (case hg => rfl); (case hr => first | (go_simp; done) | (go_simp; rfl)); (case hp => exact (Reps.one (show Kd.M (Kd.int .u8) _ _ _ a1 [.int .u8 a1] from rfl) (Reps.none _ _))); intro v324 w4 ho5 hb hg_ hnew_; clear hg_ hnew_; (first | rw [← Ny323.out] at ho5 | (simp only [Int.reduceToNat] at ho5; rw [← Ny323.out] at ho5)); have HO325 := Aside0.mk (Kd.R_lower ho5 (below_size (bI HB.out))); replace HB := bs HB hb; clear hb ho5; have hcv6 := own_string (P := Tryz.prog) Tryz.underlying24 Tryz.underlying5 Tryz.underlying9 (Kd.own_of_R HO325.out)) | ((with_reducible refine gate_callee (f := 195) rfl ?_); refine gB (some 9) Tryz.func195 #[.string a0, .string (strOfNums y323)] ?_; (with_reducible refine (strings_Split.calls a0 (strOfNums y323) t326 _ A3.out).mono ?_); rintro e w7 ⟨v327, rfl, ho0, hb⟩; refine ⟨_, rfl, ?_⟩; replace HO325 := rb HO325 hb; have HO328 := Aside0.mk (Kd.R_lower ho0 (below_size (bI HB.out))); replace HB := bs HB hb; (try clear hb); (try clear ho0)))
 go_ret
 exact ⟨_, y0_11, by (with_reducible repeat (first | apply Kd.R_alloc | apply Kd.R_drewN | apply Kd.R_drew)); exact HO328.out, bI HB.out⟩

/-! ### strings_Cut: function 175 -/

/-! ### strconv_Itoa_205: function 205 -/

/-! ### impl_Digits: function 197 -/
def impl_Digits.f (a0 : Int) : Option (ByteArray) := (strconv_Itoa_205.f a0).bind fun t329 => (some t329)
set_option maxHeartbeats 8000000 in
set_option maxRecDepth 100000 in
theorem impl_Digits.calls (a0 : Int) (r : ByteArray) (w : World) (h : impl_Digits.f a0 = some r) (hG : Glob w := by exact gG HG HB) :
  Calls Tryz.prog 197 #[.int .i64 a0] w fun e w' => e = .returned (.string r) ∧ Below w.heap.size w w' := by
 have HG := Aside0.mk hG; clear hG; have HB := Aside0.mk (Below.refl w.heap.size w)
 have H := h; unfold impl_Digits.f at H
 clear h; obtain ⟨t329, A2, H⟩ := oB H; (try dsimp only at H); obtain rfl := Option.some.inj H
 go_enter Tryz.func197, Tryz.ntmps197
 go_wp2_with (first | ((with_reducible refine gate_callee (f := 205) rfl ?_); refine gC (some 4) Tryz.func205 (strconv_Itoa_205.calls (w := _) (h := A2.out)) ?_; intro w3 _))
 go_ret
 exact ⟨y0_17, UpW.out⟩

end Go.Proofs.YtdmjhgogljhfkaaGreatDoor.PFnExactLastNote
