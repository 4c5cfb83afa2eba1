-- By a program of this session, out of the translation (the print of the kit, with turns of its own). Lean checks it.
import Derived.Test.YtdmjhgogljhfkaaGreatDoorPFnExactLastNotex0
import Derived.Test.YtdmjhgogljhfkaaGreatDoorPFnExactLastNotex6
import Derived.Test.YtdmjhgogljhfkaaGreatDoorPFnExactLastNotex7
import Derived.Test.YtdmjhgogljhfkaaGreatDoorPFnExactLastNotex12
namespace Go.Proofs.YtdmjhgogljhfkaaGreatDoor.PFnExactLastNote
open Go.RowKit Go.Proofs.YtdmjhgogljhfkaaGreatDoorW.PrintWords Go.Proofs.YtdmjhgogljhfkaaGreatDoorW.PrintLast Go.Proofs.YtdmjhgogljhfkaaGreatDoorW.PrintMore
attribute [local go_sem] max2_int min2_int max_two min_two max_three min_three max_four min_four   -- for this text's walks alone
attribute [local go_sem] cell_in frozen_in
set_option synthInstance.maxSize 1000000
set_option synthInstance.maxHeartbeats 2000000
set_option linter.unusedVariables false
set_option linter.unusedSimpArgs false

/-! ### laws_markByteS: function 13 -/
def laws_markByteS.l0 : Nat → List Int → Int → Int → Option (Int × List Int)
 | 0, _, _, _ => none
 | k + 1, x0, x1, x5 => if x5 < (x0.length : Int) then (if 0 ≤ x5 then (laws_markByteS.l0 k (x0.set (x5 : Int).toNat ((x1) % 256)) (wrap64 (x1 + 1)) (wrap64 (x5 + 1))) else (none)) else (some (x1, x0))
def laws_markByteS.f (k : Nat) (l0 : List Int) (a1 : Int) : Option (Int × List Int) := laws_markByteS.l0 k l0 a1 0
theorem laws_markByteS.mono_l : ∀ k, (∀ y0 y1 y2, LeO (laws_markByteS.l0 k y0 y1 y2) (laws_markByteS.l0 (k + 1) y0 y1 y2))
 | 0 => fun _ _ _ r h => by simp [laws_markByteS.l0] at h
 | k + 1 => by
  have ih0 := laws_markByteS.mono_l k
  intro y0 y1 y2
  unfold laws_markByteS.l0
  repeat' first | (with_reducible exact ih0 _ _ _) | (with_reducible exact LeO.refl _) | (with_reducible exact LeO.none _) | (with_reducible refine LeO.ite ?_ ?_) | (with_reducible refine LeO.bind ?_ (fun _ => ?_))
theorem laws_markByteS.mono : ∀ a0 a1 k, LeO (laws_markByteS.f k a0 a1) (laws_markByteS.f (k + 1) a0 a1) := by
 intro a0 a1 k
 have ih0 := laws_markByteS.mono_l k
 unfold laws_markByteS.f
 repeat' first | (with_reducible exact ih0 _ _ _) | (with_reducible exact LeO.refl _) | (with_reducible exact LeO.none _) | (with_reducible refine LeO.ite ?_ ?_) | (with_reducible refine LeO.bind ?_ (fun _ => ?_))
set_option maxHeartbeats 8000000 in
set_option maxRecDepth 100000 in
theorem laws_markByteS.calls (k : Nat) (P0_ : Nat → Prop) (u9000_ : Value) (l0 : List Int) (a1 : Int) (r1 : Int) (r2 : List Int) (w0 w : World) (hB : Below w0.heap.size w0 w) (ho0 : Kd.R (Kd.int .u8) 5 w w0.heap.size P0_ u9000_ l0) (h : laws_markByteS.f k l0 a1 = some (r1, r2)) :
  Calls Tryz.prog 13 #[u9000_, .int .i64 a1] w fun e w' => e = .returned (.int .i64 r1) ∧ Kd.R (Kd.int .u8) 5 w' w0.heap.size (fun k_ => (P0_ k_ ∨ w.heap.size ≤ k_)) u9000_ r2 ∧ Below w0.heap.size w0 w' ∧ Kept w w' (fun k_ => P0_ k_) := by
 have HO0 := Aside0.mk (show Kd.R (Kd.int .u8) 5 w w0.heap.size (fun k_ => (P0_ k_ ∨ w.heap.size ≤ k_)) u9000_ l0 from Kd.R_mono ho0 (fun k_ hk => (.inl hk)))
 have HK := Aside0.mk (Kept.refl w (fun k_ => P0_ k_))
 have HW0 := Aside0.mk hB.size; have HB := Aside0.mk hB; clear hB; have H := h; unfold laws_markByteS.f at H; clear h; have H' := Aside0.mk H; clear H
 go_enter Tryz.func13, Tryz.ntmps13
 go_wp2
 go_loopg [1, 5] k (fun kq v1 v5 w' => ∃ (x0_1 : List Int) (x1_1 : Int) (x5_1 : Int), v1 = .int .i64 x1_1 ∧ v5 = .int .i64 x5_1 ∧ Aside0 (laws_markByteS.l0 kq x0_1 x1_1 x5_1 = some (r1, r2)) ∧ Aside0 (kq ≤ k) ∧ Aside0 (Kd.R (Kd.int .u8) 5 w' w0.heap.size (fun k_ => (P0_ k_ ∨ w.heap.size ≤ k_)) u9000_ x0_1) ∧ Aside0 (Kept w w' (fun k_ => P0_ k_)) ∧ Aside0 (Below w0.heap.size w0 w'))
 case atStart => exact ⟨(l0), (a1), (0), y0_17, y0_17, H', ⟨Nat.le_refl _⟩, ⟨by (with_reducible repeat (first | apply Kd.R_alloc | apply Kd.R_drewN | apply Kd.R_drew)); exact HO0.out⟩, ⟨y0_5⟩, ⟨bI HB.out⟩⟩
 case round =>
  clear H'
  try clear c1
  try clear p2
  obtain ⟨x0_1, x1_1, x5_1, rfl, rfl, HA, HK1, HO_0, HK, HB⟩ := hrel; cases gk with
  | zero => exact absurd HA.out (by simp [laws_markByteS.l0])
  | succ k1 =>
   have H := HA.out; clear HA
   simp only [laws_markByteS.l0] at H
   by_cases c3 : x5_1 < (x0_1.length : Int)
   ·
    rw [if_pos c3] at H
    have c3b0 : decide (x5_1 < (x0_1.length : Int)) = true := decide_eq_true c3; clear c3
    by_cases c4 : 0 ≤ x5_1
    rotate_left
    ·
     rw [if_neg c4] at H
     exact absurd H (by simp)
    rw [if_pos c4] at H
    have c4b0 : decide (0 ≤ x5_1) = true := decide_eq_true c4; clear c4; obtain ⟨y487, hy487⟩ : ∃ y_ : List Int, y_ = (x0_1.set (x5_1 : Int).toNat ((x1_1) % 256)) := ⟨_, rfl⟩
    replace H : (laws_markByteS.l0 k1 y487 (wrap64 (x1_1 + 1)) (wrap64 (x5_1 + 1))) = some (r1, r2) := by first | (rw [hy487]; with_reducible exact H) | (have H2_ := (Option.bind_some _ _).symm.trans H; rw [hy487]; with_reducible exact H2_) | (have H2_ := (Option.bind_some _ _).symm.trans H; with_reducible exact H2_) | with_reducible exact H | (rw [hy487]; exact H) | exact H
    have Ny487 := Aside0.mk hy487; clear hy487; have H' := Aside0.mk H; clear H; obtain ⟨Ao6, co6, eo6⟩ := Kd.R_slice HO_0.out; subst eo6; have p5 : 0 ≤ (x5_1 : Int) := of_decide_eq_true y0_16; have q5 : (x5_1 : Int) < ((x0_1.length : Int) : Int) := of_decide_eq_true y0_16
    obtain ⟨go5, co5, eo5, gb5, gl5, cl5, HG5⟩ := Kd.R_form HO_0.out (by omega)
    (first | cases eo5 | (injection eo5 with ea_ en_ ec_; (first | subst ea_ | (injection ea_ with ea_; subst ea_)); subst ec_; clear en_))
    have GB5 := Aside0.mk gb5; have GG5 := Aside0.mk HG5; clear gb5 gl5 HG5
    have HMgo5 := Aside0.mk (show (P0_ go5 ∨ w.heap.size ≤ go5) from (HO_0.out.1 _ rfl))
    obtain ⟨hx5_0, hf5_0⟩ := Kd.R_celln 0 HO_0.out (x5_1 : Int) p5 q5; replace p5 := eq_true p5; replace q5 := eq_true q5; have HP7 := Kd.R_putg HO_0.out (x5_1 : Int) ((x1_1) % 256)
    go_wp2_with (first | ((with_reducible refine gate_store (t := 5) (p := 16) rfl ?_); refine store_event (t := 5) (p := 16) (v := ?vo_w8) (w1 := (wr.setCell ⟨go5, (x5_1 : Int).toNat, none⟩ (.int .u8 ((x1_1) % 256)))) ?hg ?ho ?hn ?hr ?_; (case ho => rfl); (case hg => rfl); (case hn => rfl); (case hr => first | (go_simp; done) | (go_simp; rfl)); intro w8 hw; have hg : wr.grownBy w8 (some go5) := (by rw [hw]; exact HP7.2); have hp_ : Kd.R (Kd.int .u8) 5 w8 w0.heap.size (fun k_ => (P0_ k_ ∨ w.heap.size ≤ k_)) (.slice (some ⟨go5, 0, none⟩) x0_1.length co6) y487 := (by rw [hw, Ny487.out]; exact HP7.1); clear HP7; replace HB := Aside0.mk ((by rw [hw]; exact below_set (HB.out) GB5.out : Below w0.heap.size w0 w8)); replace HK := Aside0.mk (Kept.of_grown (S := (fun k_ => P0_ k_)) hg y0_5 (fun k_ e_ => (HO_0.out.1 k_ e_))); replace HO_0 := Aside0.mk (hp_); clear hg hw hp_))
    go_roundg k1
    case measure => have := HK1.out; omega
    case rel => exact ⟨(y487), (wrap64 (x1_1 + 1)), (wrap64 (x5_1 + 1)), y0_17, y0_17, H', ⟨y0_20⟩, ⟨y0_8⟩, ⟨y0_5⟩, ⟨bI HB.out⟩⟩
   rw [if_neg c3] at H
   have c3b0 : decide (x5_1 < (x0_1.length : Int)) = false := decide_eq_false c3; clear c3
   simp only [Option.some.injEq, Prod.mk.injEq] at H
   obtain ⟨rfl, rfl⟩ := H; obtain ⟨Ao9, co9, eo9⟩ := Kd.R_slice HO_0.out; subst eo9
   go_wp2
   go_ret
   exact ⟨y0_11, y0_8, bI HB.out, y0_5⟩

/-! ### laws_markIntS: function 88 -/
def laws_markIntS.l0 : Nat → List Int → Int → Int → Option (Int × List Int)
 | 0, _, _, _ => none
 | k + 1, x0, x1, x5 => if x5 < (x0.length : Int) then (if 0 ≤ x5 then (laws_markIntS.l0 k (x0.set (x5 : Int).toNat x1) (wrap64 (x1 + 1)) (wrap64 (x5 + 1))) else (none)) else (some (x1, x0))
def laws_markIntS.f (k : Nat) (l0 : List Int) (a1 : Int) : Option (Int × List Int) := laws_markIntS.l0 k l0 a1 0
theorem laws_markIntS.mono_l : ∀ k, (∀ y0 y1 y2, LeO (laws_markIntS.l0 k y0 y1 y2) (laws_markIntS.l0 (k + 1) y0 y1 y2))
 | 0 => fun _ _ _ r h => by simp [laws_markIntS.l0] at h
 | k + 1 => by
  have ih0 := laws_markIntS.mono_l k
  intro y0 y1 y2
  unfold laws_markIntS.l0
  repeat' first | (with_reducible exact ih0 _ _ _) | (with_reducible exact LeO.refl _) | (with_reducible exact LeO.none _) | (with_reducible refine LeO.ite ?_ ?_) | (with_reducible refine LeO.bind ?_ (fun _ => ?_))
theorem laws_markIntS.mono : ∀ a0 a1 k, LeO (laws_markIntS.f k a0 a1) (laws_markIntS.f (k + 1) a0 a1) := by
 intro a0 a1 k
 have ih0 := laws_markIntS.mono_l k
 unfold laws_markIntS.f
 repeat' first | (with_reducible exact ih0 _ _ _) | (with_reducible exact LeO.refl _) | (with_reducible exact LeO.none _) | (with_reducible refine LeO.ite ?_ ?_) | (with_reducible refine LeO.bind ?_ (fun _ => ?_))
set_option maxHeartbeats 8000000 in
set_option maxRecDepth 100000 in
theorem laws_markIntS.calls (k : Nat) (P0_ : Nat → Prop) (u9000_ : Value) (l0 : List Int) (a1 : Int) (r1 : Int) (r2 : List Int) (w0 w : World) (hB : Below w0.heap.size w0 w) (ho0 : Kd.R (Kd.int .i64) 3 w w0.heap.size P0_ u9000_ l0) (h : laws_markIntS.f k l0 a1 = some (r1, r2)) :
  Calls Tryz.prog 88 #[u9000_, .int .i64 a1] w fun e w' => e = .returned (.int .i64 r1) ∧ Kd.R (Kd.int .i64) 3 w' w0.heap.size (fun k_ => (P0_ k_ ∨ w.heap.size ≤ k_)) u9000_ r2 ∧ Below w0.heap.size w0 w' ∧ Kept w w' (fun k_ => P0_ k_) := by
 have HO0 := Aside0.mk (show Kd.R (Kd.int .i64) 3 w w0.heap.size (fun k_ => (P0_ k_ ∨ w.heap.size ≤ k_)) u9000_ l0 from Kd.R_mono ho0 (fun k_ hk => (.inl hk)))
 have HK := Aside0.mk (Kept.refl w (fun k_ => P0_ k_))
 have HW0 := Aside0.mk hB.size; have HB := Aside0.mk hB; clear hB; have H := h; unfold laws_markIntS.f at H; clear h; have H' := Aside0.mk H; clear H
 go_enter Tryz.func88, Tryz.ntmps88
 go_wp2
 go_loopg [1, 5] k (fun kq v1 v5 w' => ∃ (x0_1 : List Int) (x1_1 : Int) (x5_1 : Int), v1 = .int .i64 x1_1 ∧ v5 = .int .i64 x5_1 ∧ Aside0 (laws_markIntS.l0 kq x0_1 x1_1 x5_1 = some (r1, r2)) ∧ Aside0 (kq ≤ k) ∧ Aside0 (Kd.R (Kd.int .i64) 3 w' w0.heap.size (fun k_ => (P0_ k_ ∨ w.heap.size ≤ k_)) u9000_ x0_1) ∧ Aside0 (Kept w w' (fun k_ => P0_ k_)) ∧ Aside0 (Below w0.heap.size w0 w'))
 case atStart => exact ⟨(l0), (a1), (0), y0_17, y0_17, H', ⟨Nat.le_refl _⟩, ⟨by (with_reducible repeat (first | apply Kd.R_alloc | apply Kd.R_drewN | apply Kd.R_drew)); exact HO0.out⟩, ⟨y0_5⟩, ⟨bI HB.out⟩⟩
 case round =>
  clear H'
  try clear p2
  obtain ⟨x0_1, x1_1, x5_1, rfl, rfl, HA, HK1, HO_0, HK, HB⟩ := hrel; cases gk with
  | zero => exact absurd HA.out (by simp [laws_markIntS.l0])
  | succ k1 =>
   have H := HA.out; clear HA
   simp only [laws_markIntS.l0] at H
   by_cases c3 : x5_1 < (x0_1.length : Int)
   ·
    rw [if_pos c3] at H
    have c3b0 : decide (x5_1 < (x0_1.length : Int)) = true := decide_eq_true c3; clear c3
    by_cases c4 : 0 ≤ x5_1
    rotate_left
    ·
     rw [if_neg c4] at H
     exact absurd H (by simp)
    rw [if_pos c4] at H
    have c4b0 : decide (0 ≤ x5_1) = true := decide_eq_true c4; clear c4; obtain ⟨y488, hy488⟩ : ∃ y_ : List Int, y_ = (x0_1.set (x5_1 : Int).toNat x1_1) := ⟨_, rfl⟩
    replace H : (laws_markIntS.l0 k1 y488 (wrap64 (x1_1 + 1)) (wrap64 (x5_1 + 1))) = some (r1, r2) := by first | (rw [hy488]; with_reducible exact H) | (have H2_ := (Option.bind_some _ _).symm.trans H; rw [hy488]; with_reducible exact H2_) | (have H2_ := (Option.bind_some _ _).symm.trans H; with_reducible exact H2_) | with_reducible exact H | (rw [hy488]; exact H) | exact H
    have Ny488 := Aside0.mk hy488; clear hy488; have H' := Aside0.mk H; clear H; obtain ⟨Ao6, co6, eo6⟩ := Kd.R_slice HO_0.out; subst eo6; have p5 : 0 ≤ (x5_1 : Int) := of_decide_eq_true y0_16; have q5 : (x5_1 : Int) < ((x0_1.length : Int) : Int) := of_decide_eq_true y0_16
    obtain ⟨go5, co5, eo5, gb5, gl5, cl5, HG5⟩ := Kd.R_form HO_0.out (by omega)
    (first | cases eo5 | (injection eo5 with ea_ en_ ec_; (first | subst ea_ | (injection ea_ with ea_; subst ea_)); subst ec_; clear en_))
    have GB5 := Aside0.mk gb5; have GG5 := Aside0.mk HG5; clear gb5 gl5 HG5
    have HMgo5 := Aside0.mk (show (P0_ go5 ∨ w.heap.size ≤ go5) from (HO_0.out.1 _ rfl))
    obtain ⟨hx5_0, hf5_0⟩ := Kd.R_celln 0 HO_0.out (x5_1 : Int) p5 q5; replace p5 := eq_true p5; replace q5 := eq_true q5; have HP7 := Kd.R_putg HO_0.out (x5_1 : Int) x1_1
    go_wp2_with (first | ((with_reducible refine gate_store (t := 3) (p := 15) rfl ?_); refine store_event (t := 3) (p := 15) (v := ?vo_w8) (w1 := (wr.setCell ⟨go5, (x5_1 : Int).toNat, none⟩ (.int .i64 x1_1))) ?hg ?ho ?hn ?hr ?_; (case ho => rfl); (case hg => rfl); (case hn => rfl); (case hr => first | (go_simp; done) | (go_simp; rfl)); intro w8 hw; have hg : wr.grownBy w8 (some go5) := (by rw [hw]; exact HP7.2); have hp_ : Kd.R (Kd.int .i64) 3 w8 w0.heap.size (fun k_ => (P0_ k_ ∨ w.heap.size ≤ k_)) (.slice (some ⟨go5, 0, none⟩) x0_1.length co6) y488 := (by rw [hw, Ny488.out]; exact HP7.1); clear HP7; replace HB := Aside0.mk ((by rw [hw]; exact below_set (HB.out) GB5.out : Below w0.heap.size w0 w8)); replace HK := Aside0.mk (Kept.of_grown (S := (fun k_ => P0_ k_)) hg y0_5 (fun k_ e_ => (HO_0.out.1 k_ e_))); replace HO_0 := Aside0.mk (hp_); clear hg hw hp_))
    go_roundg k1
    case measure => have := HK1.out; omega
    case rel => exact ⟨(y488), (wrap64 (x1_1 + 1)), (wrap64 (x5_1 + 1)), y0_17, y0_17, H', ⟨y0_20⟩, ⟨y0_8⟩, ⟨y0_5⟩, ⟨bI HB.out⟩⟩
   rw [if_neg c3] at H
   have c3b0 : decide (x5_1 < (x0_1.length : Int)) = false := decide_eq_false c3; clear c3
   simp only [Option.some.injEq, Prod.mk.injEq] at H
   obtain ⟨rfl, rfl⟩ := H; obtain ⟨Ao9, co9, eo9⟩ := Kd.R_slice HO_0.out; subst eo9
   go_wp2
   go_ret
   exact ⟨y0_11, y0_8, bI HB.out, y0_5⟩

/-! ### laws_markQc: function 75 -/
def laws_markQc.f (k : Nat) (a0_0 : Int) (a0_1 : ByteArray) (l0_2 : List Int) (a1 : Int) : Option (Int × List Int) := (laws_markIntS.f k l0_2 a1).bind fun bt490 => (some (bt490.1, bt490.2))
theorem laws_markQc.mono : ∀ a0 a1 a2 a3 k, LeO (laws_markQc.f k a0 a1 a2 a3) (laws_markQc.f (k + 1) a0 a1 a2 a3) := by
 intro a0 a1 a2 a3 k
 unfold laws_markQc.f
 repeat' first | (with_reducible exact laws_markIntS.mono _ _ _) | (with_reducible exact LeO.refl _) | (with_reducible exact LeO.none _) | (with_reducible refine LeO.ite ?_ ?_) | (with_reducible refine LeO.bind ?_ (fun _ => ?_))
set_option maxHeartbeats 8000000 in
set_option maxRecDepth 100000 in
theorem laws_markQc.calls (k : Nat) (a0_0 : Int) (a0_1 : ByteArray) (P0_2_ : Nat → Prop) (u9000_ : Value) (l0_2 : List Int) (a1 : Int) (r1 : Int) (r2 : List Int) (w0 w : World) (hB : Below w0.heap.size w0 w) (ho0_2 : Kd.R (Kd.int .i64) 3 w w0.heap.size P0_2_ u9000_ l0_2) (h : laws_markQc.f k a0_0 a0_1 l0_2 a1 = some (r1, r2)) :
  Calls Tryz.prog 75 #[.agg #[.int .i64 a0_0, .string a0_1, u9000_], .int .i64 a1] w fun e w' => e = .returned (.int .i64 r1) ∧ Kd.R (Kd.int .i64) 3 w' w0.heap.size (fun k_ => (P0_2_ k_ ∨ w.heap.size ≤ k_)) u9000_ r2 ∧ Below w0.heap.size w0 w' ∧ Kept w w' (fun k_ => P0_2_ k_) := by
 have hu27 := Tryz.underlying27
 have HO0_2 := Aside0.mk (show Kd.R (Kd.int .i64) 3 w w0.heap.size (fun k_ => (P0_2_ k_ ∨ w.heap.size ≤ k_)) u9000_ l0_2 from Kd.R_mono ho0_2 (fun k_ hk => (.inl hk)))
 have HK := Aside0.mk (Kept.refl w (fun k_ => P0_2_ k_))
 have HW0 := Aside0.mk hB.size; have HB := Aside0.mk hB; clear hB
 have H := h; unfold laws_markQc.f at H
 clear h; obtain ⟨⟨t490, t491⟩, A3, H⟩ := oB H; (try dsimp only at H)
 simp only [Option.some.injEq, Prod.mk.injEq] at H
 obtain ⟨rfl, rfl⟩ := H; obtain ⟨Ao4, co4, eo4⟩ := Kd.R_slice HO0_2.out; subst eo4
 go_enter Tryz.func75, Tryz.ntmps75
 go_wp2_with (first | ((with_reducible refine gd 2 ?_); refine bA 2 #[.int .i64 a0_0, .string a0_1, .slice Ao4 l0_2.length co4] 27 ?_; intro gb489 hg w5 hbox hb; replace HO0_2 := rb HO0_2 hb; have BK489 := Aside0.mk (hbox); have GW489 := Aside0.mk ((by rw [hg]; exact (by first | exact HK.out.1 | exact (show Kept w _ (fun k_ => P0_2_ k_) from y0_5).1) : w.heap.size ≤ gb489)); have GJ489 := gi GW489; replace HK := Aside0.mk (Kept.below (S := (fun k_ => P0_2_ k_)) y0_5 hb); have GE489 := bg hg HB; have GI489 := gi GE489; replace HB := bs HB hb; clear hb hbox hg; obtain ⟨hcz6_0, hcz6_1, hcz6_2, hfz6_0, hfz6_1, hfz6_2⟩ := cs3 BK489) | ((with_reducible refine gate_callee (f := 88) rfl ?_); refine gB (some 8) Tryz.func88 #[.slice Ao4 l0_2.length co4, .int .i64 a1] ?_; (with_reducible refine (laws_markIntS.calls k (fun k_ => some k_ = (.slice Ao4 l0_2.length co4 : Value).ownBlock) (.slice Ao4 l0_2.length co4) l0_2 a1 t490 t491 w0 _ ?side1 ?side2 A3.out).mono ?_); (case side1 => exact bI HB.out); (case side2 => exact Kd.R_tight rfl HO0_2.out); rintro e w7 ⟨rfl, hy0, hb, hkp⟩; refine ⟨_, rfl, ?_⟩; replace BK489 := Aside0.mk (blk_kept (kI BK489.out) hkp (fun hs_ => (fun e_ => (Kd.R_ne HO0_2.out BK489.out (by decide)) e_) hs_)); replace HK := Aside0.mk (Kept.then_ (S := (fun k_ => P0_2_ k_)) (by repeat (first | (with_reducible first | exact HK.out | apply Kept.alloc | apply Kept.drewN | apply Kept.drew | refine Kept.setCell ?_ (.inr GW489.out) _) | exact HK.out)) hkp (fun k_ hs_ => (fun e_ => (HO0_2.out.1 k_ e_.symm)) hs_)); replace HO0_2 := Aside0.mk (Kd.R_reok rfl hy0 (fun k_ e_ => HO0_2.out.1 k_ e_)); replace HB := Aside0.mk (hb); (try clear hb); (try clear hkp); (try clear hy0)))
 go_ret
 exact ⟨y0_11, by (with_reducible repeat (first | apply Kd.R_alloc | apply Kd.R_drewN | apply Kd.R_drew)); exact HO0_2.out, bI HB.out, by repeat (first | (with_reducible first | exact HK.out | apply Kept.alloc | apply Kept.drewN | apply Kept.drew | refine Kept.setCell ?_ (.inr GW489.out) _) | exact HK.out)⟩

/-! ### laws_markSafe: function 14 -/
def laws_markSafe.f (k : Nat) (a0_0 : Int) (a0_1 : Int) (a0_2 : Int) (a0_3 : ByteArray) (l0_4 : List Int) (a0_5 : ByteArray) (a1 : Int) : Option (Int × List Int) := (laws_markQc.f k a0_2 a0_3 l0_4 a1).bind fun bt493 => (some (bt493.1, bt493.2))
theorem laws_markSafe.mono : ∀ a0 a1 a2 a3 a4 a5 a6 k, LeO (laws_markSafe.f k a0 a1 a2 a3 a4 a5 a6) (laws_markSafe.f (k + 1) a0 a1 a2 a3 a4 a5 a6) := by
 intro a0 a1 a2 a3 a4 a5 a6 k
 unfold laws_markSafe.f
 repeat' first | (with_reducible exact laws_markQc.mono _ _ _ _ _) | (with_reducible exact LeO.refl _) | (with_reducible exact LeO.none _) | (with_reducible refine LeO.ite ?_ ?_) | (with_reducible refine LeO.bind ?_ (fun _ => ?_))
set_option maxHeartbeats 8000000 in
set_option maxRecDepth 100000 in
theorem laws_markSafe.calls (k : Nat) (a0_0 : Int) (a0_1 : Int) (a0_2 : Int) (a0_3 : ByteArray) (P0_4_ : Nat → Prop) (u9000_ : Value) (l0_4 : List Int) (a0_5 : ByteArray) (a1 : Int) (r1 : Int) (r2 : List Int) (w0 w : World) (hB : Below w0.heap.size w0 w) (ho0_4 : Kd.R (Kd.int .i64) 3 w w0.heap.size P0_4_ u9000_ l0_4) (h : laws_markSafe.f k a0_0 a0_1 a0_2 a0_3 l0_4 a0_5 a1 = some (r1, r2)) :
  Calls Tryz.prog 14 #[.agg #[.int .i64 a0_0, .int .i64 a0_1, .int .i64 a0_2, .string a0_3, u9000_, .string a0_5], .int .i64 a1] w fun e w' => e = .returned (.int .i64 r1) ∧ Kd.R (Kd.int .i64) 3 w' w0.heap.size (fun k_ => (P0_4_ k_ ∨ w.heap.size ≤ k_)) u9000_ r2 ∧ Below w0.heap.size w0 w' ∧ Kept w w' (fun k_ => P0_4_ k_) := by
 have hu29 := Tryz.underlying29; have hu27 := Tryz.underlying27
 have HO0_4 := Aside0.mk (show Kd.R (Kd.int .i64) 3 w w0.heap.size (fun k_ => (P0_4_ k_ ∨ w.heap.size ≤ k_)) u9000_ l0_4 from Kd.R_mono ho0_4 (fun k_ hk => (.inl hk)))
 have HK := Aside0.mk (Kept.refl w (fun k_ => P0_4_ k_))
 have HW0 := Aside0.mk hB.size; have HB := Aside0.mk hB; clear hB
 have H := h; unfold laws_markSafe.f at H
 clear h; obtain ⟨⟨t493, t494⟩, A3, H⟩ := oB H; (try dsimp only at H)
 simp only [Option.some.injEq, Prod.mk.injEq] at H
 obtain ⟨rfl, rfl⟩ := H; obtain ⟨Ao4, co4, eo4⟩ := Kd.R_slice HO0_4.out; subst eo4
 go_enter Tryz.func14, Tryz.ntmps14
 go_wp2_with (first | ((with_reducible refine gd 2 ?_); refine bA 2 #[.int .i64 a0_0, .int .i64 a0_1, .int .i64 a0_2, .string a0_3, .slice Ao4 l0_4.length co4, .string a0_5] 29 ?_; intro gb492 hg w5 hbox hb; replace HO0_4 := rb HO0_4 hb; have BK492 := Aside0.mk (hbox); have GW492 := Aside0.mk ((by rw [hg]; exact (by first | exact HK.out.1 | exact (show Kept w _ (fun k_ => P0_4_ k_) from y0_5).1) : w.heap.size ≤ gb492)); have GJ492 := gi GW492; replace HK := Aside0.mk (Kept.below (S := (fun k_ => P0_4_ k_)) y0_5 hb); have GE492 := bg hg HB; have GI492 := gi GE492; replace HB := bs HB hb; clear hb hbox hg; have hcz6_0 := bc0 BK492.out; have hcz6_1 := bc1 BK492.out; have hcz6_2 := bc2 BK492.out; have hcz6_3 := bc3 BK492.out; have hcz6_4 := bc4 BK492.out; have hcz6_5 := bc5 BK492.out; have hfz6_0 := blk_frozen BK492.out 0; have hfz6_1 := blk_frozen BK492.out 1; have hfz6_2 := blk_frozen BK492.out 2; have hfz6_3 := blk_frozen BK492.out 3; have hfz6_4 := blk_frozen BK492.out 4; have hfz6_5 := blk_frozen BK492.out 5) | ((with_reducible refine gate_callee (f := 75) rfl ?_); refine gB (some 8) Tryz.func75 #[.agg #[.int .i64 a0_2, .string a0_3, .slice Ao4 l0_4.length co4], .int .i64 a1] ?_; (with_reducible refine (laws_markQc.calls k a0_2 a0_3 (fun k_ => some k_ = (.slice Ao4 l0_4.length co4 : Value).ownBlock) (.slice Ao4 l0_4.length co4) l0_4 a1 t493 t494 w0 _ ?side1 ?side2 A3.out).mono ?_); (case side1 => exact bI HB.out); (case side2 => exact Kd.R_tight rfl HO0_4.out); rintro e w7 ⟨rfl, hy0, hb, hkp⟩; refine ⟨_, rfl, ?_⟩; replace BK492 := Aside0.mk (blk_kept (kI BK492.out) hkp (fun hs_ => (fun e_ => (Kd.R_ne HO0_4.out BK492.out (by decide)) e_) hs_)); replace HK := Aside0.mk (Kept.then_ (S := (fun k_ => P0_4_ k_)) (by repeat (first | (with_reducible first | exact HK.out | apply Kept.alloc | apply Kept.drewN | apply Kept.drew | refine Kept.setCell ?_ (.inr GW492.out) _) | exact HK.out)) hkp (fun k_ hs_ => (fun e_ => (HO0_4.out.1 k_ e_.symm)) hs_)); replace HO0_4 := Aside0.mk (Kd.R_reok rfl hy0 (fun k_ e_ => HO0_4.out.1 k_ e_)); replace HB := Aside0.mk (hb); (try clear hb); (try clear hkp); (try clear hy0)))
 go_ret
 exact ⟨y0_11, by (with_reducible repeat (first | apply Kd.R_alloc | apply Kd.R_drewN | apply Kd.R_drew)); exact HO0_4.out, bI HB.out, by repeat (first | (with_reducible first | exact HK.out | apply Kept.alloc | apply Kept.drewN | apply Kept.drew | refine Kept.setCell ?_ (.inr GW492.out) _) | exact HK.out)⟩

/-! ### laws_heldIntS: function 89 -/
def laws_heldIntS.l0 : Nat → List Int → Int → Int → Option (Int)
 | 0, _, _, _ => none
 | k + 1, x0, x1, x5 => if x5 < (x0.length : Int) then (if 0 ≤ x5 then (if (rd x0 x5) = x1 then (laws_heldIntS.l0 k x0 (wrap64 (x1 + 1)) (wrap64 (x5 + 1))) else (some (-1))) else (none)) else (some x1)
def laws_heldIntS.f (k : Nat) (l0 : List Int) (a1 : Int) : Option (Int) := laws_heldIntS.l0 k l0 a1 0
theorem laws_heldIntS.mono_l : ∀ k, (∀ y0 y1 y2, LeO (laws_heldIntS.l0 k y0 y1 y2) (laws_heldIntS.l0 (k + 1) y0 y1 y2))
 | 0 => fun _ _ _ r h => by simp [laws_heldIntS.l0] at h
 | k + 1 => by
  have ih0 := laws_heldIntS.mono_l k
  intro y0 y1 y2
  unfold laws_heldIntS.l0
  repeat' first | (with_reducible exact ih0 _ _ _) | (with_reducible exact LeO.refl _) | (with_reducible exact LeO.none _) | (with_reducible refine LeO.ite ?_ ?_) | (with_reducible refine LeO.bind ?_ (fun _ => ?_))
theorem laws_heldIntS.mono : ∀ a0 a1 k, LeO (laws_heldIntS.f k a0 a1) (laws_heldIntS.f (k + 1) a0 a1) := by
 intro a0 a1 k
 have ih0 := laws_heldIntS.mono_l k
 unfold laws_heldIntS.f
 repeat' first | (with_reducible exact ih0 _ _ _) | (with_reducible exact LeO.refl _) | (with_reducible exact LeO.none _) | (with_reducible refine LeO.ite ?_ ?_) | (with_reducible refine LeO.bind ?_ (fun _ => ?_))
set_option maxHeartbeats 8000000 in
set_option maxRecDepth 100000 in
theorem laws_heldIntS.calls (k : Nat) (A0 : Option Addr) (c0 : Nat) (l0 : List Int) (a1 : Int) (r : Int) (w : World) (hr0 : Kd.C (Kd.int .i64) w A0 l0.length l0) (hc0 : l0.length ≤ c0) (h : laws_heldIntS.f k l0 a1 = some r) :
  Calls Tryz.prog 89 #[.slice A0 l0.length c0, .int .i64 a1] w fun e w' => e = .returned (.int .i64 r) ∧ Drawn0 w w' := by
 have HR0 := Aside0.mk hr0; have HC0 := Aside0.mk hc0; clear hr0 hc0; have H := h; unfold laws_heldIntS.f at H; clear h; have H' := Aside0.mk H; clear H
 go_enter Tryz.func89, Tryz.ntmps89
 go_wp2
 go_loopg [1, 5] k (fun kq v1 v5 w' => ∃ (x1_1 : Int) (x5_1 : Int), v1 = .int .i64 x1_1 ∧ v5 = .int .i64 x5_1 ∧ Aside0 (laws_heldIntS.l0 kq l0 x1_1 x5_1 = some r) ∧ Aside0 (kq ≤ k) ∧ Drawn0 w w')
 case atStart => exact ⟨(a1), (0), y0_17, y0_17, H', ⟨Nat.le_refl _⟩, y0_14⟩
 case round =>
  clear H'
  try clear p2
  obtain ⟨x1_1, x5_1, rfl, rfl, HA, HK1, ⟨m1, rfl⟩⟩ := hrel; cases gk with
  | zero => exact absurd HA.out (by simp [laws_heldIntS.l0])
  | succ k1 =>
   have H := HA.out; clear HA
   simp only [laws_heldIntS.l0] at H
   by_cases c3 : x5_1 < (l0.length : Int)
   ·
    rw [if_pos c3] at H
    have c3b0 : decide (x5_1 < (l0.length : Int)) = true := decide_eq_true c3; clear c3
    by_cases c4 : 0 ≤ x5_1
    rotate_left
    ·
     rw [if_neg c4] at H
     exact absurd H (by simp)
    rw [if_pos c4] at H
    have c4b0 : decide (0 ≤ x5_1) = true := decide_eq_true c4; clear c4
    by_cases c5 : (rd l0 x5_1) = x1_1
    ·
     rw [if_pos c5] at H
     have c5b0 : ((rd l0 x5_1) == x1_1) = true := beq_iff_eq.mpr c5; have c5b1 : ((rd l0 x5_1) != x1_1) = false := bne_eq_false_iff_eq.mpr c5; clear c5; have H' := Aside0.mk H; clear H; have p495 : 0 ≤ (x5_1 : Int) := of_decide_eq_true y0_16; have q495 : x5_1 < (l0.length : Int) := of_decide_eq_true y0_16; obtain ⟨ad495, e495, hx495_0⟩ := Kd.at_int HR0.out x5_1 p495 q495; cases e495; replace p495 := eq_true p495; replace q495 := eq_true q495
     go_wp2
     go_roundg k1
     case measure => have := HK1.out; omega
     case rel => exact ⟨(wrap64 (x1_1 + 1)), (wrap64 (x5_1 + 1)), y0_17, y0_17, H', ⟨y0_20⟩, y0_14⟩
    rw [if_neg c5] at H
    have c5b0 : ((rd l0 x5_1) == x1_1) = false := beq_eq_false_iff_ne.mpr c5; have c5b1 : ((rd l0 x5_1) != x1_1) = true := bne_iff_ne.mpr c5; obtain rfl := Option.some.inj H; have p495 : 0 ≤ (x5_1 : Int) := of_decide_eq_true y0_16; have q495 : x5_1 < (l0.length : Int) := of_decide_eq_true y0_16; obtain ⟨ad495, e495, hx495_0⟩ := Kd.at_int HR0.out x5_1 p495 q495; cases e495; replace p495 := eq_true p495; replace q495 := eq_true q495
    go_wp2
    go_ret
    exact ⟨y0_17, y0_14⟩
   rw [if_neg c3] at H
   have c3b0 : decide (x5_1 < (l0.length : Int)) = false := decide_eq_false c3; clear c3; obtain rfl := Option.some.inj H
   go_wp2
   go_ret
   exact ⟨y0_17, y0_14⟩

/-! ### laws_heldQc: function 76 -/
def laws_heldQc.f (k : Nat) (a0_0 : Int) (a0_1 : ByteArray) (l0_2 : List Int) (a1 : Int) : Option (Int) := (laws_heldIntS.f k l0_2 a1).bind fun t497 => (if t497 < 0 then (some (-1)) else (some t497))
theorem laws_heldQc.mono : ∀ a0 a1 a2 a3 k, LeO (laws_heldQc.f k a0 a1 a2 a3) (laws_heldQc.f (k + 1) a0 a1 a2 a3) := by
 intro a0 a1 a2 a3 k
 unfold laws_heldQc.f
 repeat' first | (with_reducible exact laws_heldIntS.mono _ _ _) | (with_reducible exact LeO.refl _) | (with_reducible exact LeO.none _) | (with_reducible refine LeO.ite ?_ ?_) | (with_reducible refine LeO.bind ?_ (fun _ => ?_))
set_option maxHeartbeats 8000000 in
set_option maxRecDepth 100000 in
theorem laws_heldQc.calls (k : Nat) (a0_0 : Int) (a0_1 : ByteArray) (A0_2 : Option Addr) (c0_2 : Nat) (l0_2 : List Int) (a1 : Int) (r : Int) (w : World) (hr0_2 : Kd.C (Kd.int .i64) w A0_2 l0_2.length l0_2) (hc0_2 : l0_2.length ≤ c0_2) (h : laws_heldQc.f k a0_0 a0_1 l0_2 a1 = some r) :
  Calls Tryz.prog 76 #[.agg #[.int .i64 a0_0, .string a0_1, .slice A0_2 l0_2.length c0_2], .int .i64 a1] w fun e w' => e = .returned (.int .i64 r) ∧ Below w.heap.size w w' := by
 have hu27 := Tryz.underlying27; have HR0_2 := Aside0.mk hr0_2; have HC0_2 := Aside0.mk hc0_2; clear hr0_2 hc0_2; have HB := Aside0.mk (Below.refl w.heap.size w)
 have H := h; unfold laws_heldQc.f at H
 clear h; obtain ⟨t497, A3, H⟩ := oB H; (try dsimp only at H)
 go_enter Tryz.func76, Tryz.ntmps76
 have H' := Aside0.mk H; clear H
 go_upto_if 10 with (first | ((with_reducible refine gd 2 ?_); refine bL 2 #[.int .i64 a0_0, .string a0_1, .slice A0_2 l0_2.length c0_2] 27 ?_; intro gb496 w4 _ _ _) | ((with_reducible refine gate_callee (f := 89) rfl ?_); refine gD (some 8) Tryz.func89 (laws_heldIntS.calls (hr0 := pC HR0_2) (hc0 := HC0_2.out) (w := _) (h := A3.out)) ?_; intro w5 _))
 have H := H'.out; clear H'
 by_cases c6 : t497 < 0
 ·
  rw [if_pos c6] at H
  have c6b0 : decide (t497 < 0) = true := decide_eq_true c6; clear c6
  (first | rw [c6b0] | (simp only [i64_w, i32_w]; rw [c6b0]) | skip)
  obtain rfl := Option.some.inj H
  go_wp2
  go_ret
  exact ⟨y0_17, UpW.out⟩
 rw [if_neg c6] at H
 have c6b0 : decide (t497 < 0) = false := decide_eq_false c6; clear c6
 (first | rw [c6b0] | (simp only [i64_w, i32_w]; rw [c6b0]) | skip)
 obtain rfl := Option.some.inj H
 go_wp2
 go_ret
 exact ⟨y0_17, UpW.out⟩

/-! ### laws_heldSafe: function 15 -/
def laws_heldSafe.f (k : Nat) (a0_0 : Int) (a0_1 : Int) (a0_2 : Int) (a0_3 : ByteArray) (l0_4 : List Int) (a0_5 : ByteArray) (a1 : Int) : Option (Int) := (laws_heldQc.f k a0_2 a0_3 l0_4 a1).bind fun t499 => (if t499 < 0 then (some (-1)) else (some t499))
theorem laws_heldSafe.mono : ∀ a0 a1 a2 a3 a4 a5 a6 k, LeO (laws_heldSafe.f k a0 a1 a2 a3 a4 a5 a6) (laws_heldSafe.f (k + 1) a0 a1 a2 a3 a4 a5 a6) := by
 intro a0 a1 a2 a3 a4 a5 a6 k
 unfold laws_heldSafe.f
 repeat' first | (with_reducible exact laws_heldQc.mono _ _ _ _ _) | (with_reducible exact LeO.refl _) | (with_reducible exact LeO.none _) | (with_reducible refine LeO.ite ?_ ?_) | (with_reducible refine LeO.bind ?_ (fun _ => ?_))
set_option maxHeartbeats 8000000 in
set_option maxRecDepth 100000 in
theorem laws_heldSafe.calls (k : Nat) (a0_0 : Int) (a0_1 : Int) (a0_2 : Int) (a0_3 : ByteArray) (A0_4 : Option Addr) (c0_4 : Nat) (l0_4 : List Int) (a0_5 : ByteArray) (a1 : Int) (r : Int) (w : World) (hr0_4 : Kd.C (Kd.int .i64) w A0_4 l0_4.length l0_4) (hc0_4 : l0_4.length ≤ c0_4) (h : laws_heldSafe.f k a0_0 a0_1 a0_2 a0_3 l0_4 a0_5 a1 = some r) :
  Calls Tryz.prog 15 #[.agg #[.int .i64 a0_0, .int .i64 a0_1, .int .i64 a0_2, .string a0_3, .slice A0_4 l0_4.length c0_4, .string a0_5], .int .i64 a1] w fun e w' => e = .returned (.int .i64 r) ∧ Below w.heap.size w w' := by
 have hu29 := Tryz.underlying29; have hu27 := Tryz.underlying27; have HR0_4 := Aside0.mk hr0_4; have HC0_4 := Aside0.mk hc0_4; clear hr0_4 hc0_4; have HB := Aside0.mk (Below.refl w.heap.size w)
 have H := h; unfold laws_heldSafe.f at H
 clear h; obtain ⟨t499, A3, H⟩ := oB H; (try dsimp only at H)
 go_enter Tryz.func15, Tryz.ntmps15
 have H' := Aside0.mk H; clear H
 go_upto_if 10 with (first | ((with_reducible refine gd 2 ?_); refine bL 2 #[.int .i64 a0_0, .int .i64 a0_1, .int .i64 a0_2, .string a0_3, .slice A0_4 l0_4.length c0_4, .string a0_5] 29 ?_; intro gb498 w4 _ _ _) | ((with_reducible refine gate_callee (f := 76) rfl ?_); refine gC (some 8) Tryz.func76 (laws_heldQc.calls (hr0_2 := pC HR0_4) (hc0_2 := HC0_4.out) (w := _) (h := A3.out)) ?_; intro w5 _))
 have H := H'.out; clear H'
 by_cases c6 : t499 < 0
 ·
  rw [if_pos c6] at H
  have c6b0 : decide (t499 < 0) = true := decide_eq_true c6; clear c6
  (first | rw [c6b0] | (simp only [i64_w, i32_w]; rw [c6b0]) | skip)
  obtain rfl := Option.some.inj H
  go_wp2
  go_ret
  exact ⟨y0_17, UpW.out⟩
 rw [if_neg c6] at H
 have c6b0 : decide (t499 < 0) = false := decide_eq_false c6; clear c6
 (first | rw [c6b0] | (simp only [i64_w, i32_w]; rw [c6b0]) | skip)
 obtain rfl := Option.some.inj H
 go_wp2
 go_ret
 exact ⟨y0_17, UpW.out⟩

/-! ### laws_FnExactLastNote: function 3 -/
def laws_FnExactLastNote.f (k : Nat) (a0_0 : Int) (a0_1 : Int) (l1 : List Int) : Option (Bool) := if (l1.length : Int) > 1048576 then (some true) else ((laws_toConf.f a0_0 a0_1).bind fun bt501 => ((laws_toByteS.f k l1).bind fun t503 => ((spec_LastNote.f k bt501.1 bt501.2 t503).bind fun bt506 => ((laws_toByteS.f k l1).bind fun t516 => ((laws_toConf.f a0_0 a0_1).bind fun bt519 => ((impl_LastNote.f k bt519.1 bt519.2 t516).bind fun bt521 => ((laws_eqSafe.f k bt521.1 bt521.2.1 bt521.2.2.1 bt521.2.2.2.1 bt521.2.2.2.2.1 bt521.2.2.2.2.2.1 bt506.1 bt506.2.1 bt506.2.2.1 bt506.2.2.2.1 bt506.2.2.2.2.1 bt506.2.2.2.2.2.1).bind fun t531 => (if t531 = true then (if bt521.2.2.2.2.2.2 = bt506.2.2.2.2.2.2 then ((laws_toByteS.f k l1).bind fun t532 => ((laws_eqByteS.f k t516 t532).bind fun t535 => (if t535 = true then ((laws_markByteS.f k t516 1).bind fun bt536 => (if bt536.1 < 0 then (some false) else ((laws_eqSafe.f k bt521.1 bt521.2.1 bt521.2.2.1 bt521.2.2.2.1 bt521.2.2.2.2.1 bt521.2.2.2.2.2.1 bt506.1 bt506.2.1 bt506.2.2.1 bt506.2.2.2.1 bt506.2.2.2.2.1 bt506.2.2.2.2.2.1).bind fun t538 => (if t538 = true then ((laws_markSafe.f k bt521.1 bt521.2.1 bt521.2.2.1 bt521.2.2.2.1 bt521.2.2.2.2.1 bt521.2.2.2.2.2.1 1).bind fun bt539 => ((laws_heldSafe.f k bt521.1 bt521.2.1 bt521.2.2.1 bt521.2.2.2.1 bt539.2 bt521.2.2.2.2.2.1 1).bind fun t541 => (if t541 < 0 then (some false) else (if t541 = bt539.1 then ((laws_toConf.f a0_0 a0_1).bind fun bt542 => ((laws_toByteS.f k l1).bind fun t544 => ((impl_LastNote.f k bt542.1 bt542.2 t544).bind fun bt547 => ((laws_eqSafe.f k bt547.1 bt547.2.1 bt547.2.2.1 bt547.2.2.2.1 bt547.2.2.2.2.1 bt547.2.2.2.2.2.1 bt506.1 bt506.2.1 bt506.2.2.1 bt506.2.2.2.1 bt506.2.2.2.2.1 bt506.2.2.2.2.2.1).bind fun t557 => (if t557 = true then (if bt547.2.2.2.2.2.2 = bt506.2.2.2.2.2.2 then ((laws_heldSafe.f k bt521.1 bt521.2.1 bt521.2.2.1 bt521.2.2.2.1 bt539.2 bt521.2.2.2.2.2.1 1).bind fun t558 => (if t558 < 0 then (some false) else (if t558 = bt539.1 then (some true) else (some false)))) else (some false)) else (some false)))))) else (some false))))) else (some false))))) else (some false)))) else (some false)) else (some false)))))))))
theorem laws_FnExactLastNote.mono : ∀ a0 a1 a2 k, LeO (laws_FnExactLastNote.f k a0 a1 a2) (laws_FnExactLastNote.f (k + 1) a0 a1 a2) := by
 intro a0 a1 a2 k
 unfold laws_FnExactLastNote.f
 repeat' first | (with_reducible exact impl_LastNote.mono _ _ _ _) | (with_reducible exact laws_eqByteS.mono _ _ _) | (with_reducible exact laws_eqSafe.mono _ _ _ _ _ _ _ _ _ _ _ _ _) | (with_reducible exact laws_heldSafe.mono _ _ _ _ _ _ _ _) | (with_reducible exact laws_markByteS.mono _ _ _) | (with_reducible exact laws_markSafe.mono _ _ _ _ _ _ _ _) | (with_reducible exact laws_toByteS.mono _ _) | (with_reducible exact spec_LastNote.mono _ _ _ _) | (with_reducible exact LeO.refl _) | (with_reducible exact LeO.none _) | (with_reducible refine LeO.ite ?_ ?_) | (with_reducible refine LeO.bind ?_ (fun _ => ?_))
set_option maxHeartbeats 8000000 in
set_option maxRecDepth 100000 in
theorem laws_FnExactLastNote.calls (k : Nat) (a0_0 : Int) (a0_1 : Int) (A1 : Option Addr) (c1 : Nat) (l1 : List Int) (r : Bool) (hrt : Aside0 (r = true)) (w : World) (hr1 : Kd.C (Kd.int .u8) w A1 l1.length l1) (hc1 : l1.length ≤ c1) (h : laws_FnExactLastNote.f k a0_0 a0_1 l1 = some r) (hG : Glob w := by exact gG HG HB) :
  Calls Tryz.prog 3 #[.agg #[.int .i64 a0_0, .int .i64 a0_1], .slice A1 l1.length c1] w fun e w' => e = .returned (.bool r) ∧ Below w.heap.size w w' := by
 have HG := Aside0.mk hG; clear hG; have hu23 := Tryz.underlying23; have hu29 := Tryz.underlying29; have HR1 := Aside0.mk hr1; have HC1 := Aside0.mk hc1; clear hr1 hc1; have HB := Aside0.mk (Below.refl w.heap.size w)
 have H := h; unfold laws_FnExactLastNote.f at H
 clear h
 go_enter Tryz.func3, Tryz.ntmps3
 have H' := Aside0.mk H; clear H
 go_upto_if 17 with (first | ((with_reducible refine gd 2 ?_); refine bL 2 #[.int .i64 a0_0, .int .i64 a0_1] 23 ?_; intro gb500 w3 _ _ _))
 have H := H'.out; clear H'
 by_cases c4 : (l1.length : Int) > 1048576
 ·
  rw [if_pos c4] at H
  have c4b0 : decide (1048576 < (l1.length : Int)) = true := decide_eq_true c4
  have c4b1 : decide (1048576 < l1.length) = true := decide_eq_true (by omega)
  clear c4
  (first | rw [c4b0] | (simp only [i64_w, i32_w]; rw [c4b0]) | skip)
  obtain rfl := Option.some.inj H
  go_wp2
  go_ret
  exact ⟨y0_17, UpW.out⟩
 rw [if_neg c4] at H
 have c4b0 : decide (1048576 < (l1.length : Int)) = false := decide_eq_false c4
 have c4b1 : decide (1048576 < l1.length) = false := decide_eq_false (by omega)
 clear c4
 (first | rw [c4b0] | (simp only [i64_w, i32_w]; rw [c4b0]) | skip)
 obtain ⟨⟨t501, t502⟩, A5, H⟩ := oB H; (try dsimp only at H); obtain ⟨t503, A6, H⟩ := oB H; (try dsimp only at H); obtain ⟨⟨t506, t507, t508, t509, t510, t513, t514⟩, A7, H⟩ := oB H; (try dsimp only at H); obtain ⟨t516, A8, H⟩ := oB H; (try dsimp only at H); obtain ⟨⟨t519, t520⟩, A9, H⟩ := oB H; (try dsimp only at H); obtain ⟨⟨t521, t522, t523, t524, t525, t528, t529⟩, A10, H⟩ := oB H; (try dsimp only at H); have H' := Aside0.mk H; clear H
 go_upto_region 6 with (first | ((with_reducible refine gate_callee (f := 8) rfl ?_); refine gC (some 20) Tryz.func8 (laws_toConf.calls (w := _) (h := A5.out)) ?_; intro w11 _) | ((with_reducible refine gate_callee (f := 9) rfl ?_); refine gC1 (some 22) Tryz.func9 (laws_toByteS.calls (hr0 := pC HR1) (hc0 := HC1.out) (w := _) (h := A6.out)) ?_; intro Ao504 co504 w12 _ HO505) | ((with_reducible refine gate_callee (f := 7) rfl ?_); refine gC1 (some 23) Tryz.func7 (spec_LastNote.calls (hr1 := rC HO505) (hc1 := rL HO505) (w := _) (h := A7.out)) ?_; intro Ao511 co511 w13 _ HO512) | ((with_reducible refine gd 5 ?_); refine bL 5 #[.int .i64 0, .int .i64 0, .int .i64 0, .string (⟨#[]⟩ : ByteArray), .slice none 0 0, .string (⟨#[]⟩ : ByteArray)] 29 ?_; intro gb515 w14 _ _ _) | ((with_reducible refine gate_callee (f := 9) rfl ?_); refine gC1 (some 27) Tryz.func9 (laws_toByteS.calls (hr0 := pC HR1) (hc0 := HC1.out) (w := _) (h := A8.out)) ?_; intro Ao517 co517 w15 _ HO518) | ((with_reducible refine gate_callee (f := 8) rfl ?_); refine gC (some 30) Tryz.func8 (laws_toConf.calls (w := _) (h := A9.out)) ?_; intro w16 _) | ((with_reducible refine gate_callee (f := 10) rfl ?_); refine gC1 (some 32) Tryz.func10 (impl_LastNote.calls (hr1 := rC HO518) (hc1 := rL HO518) (w := _) (h := A10.out)) ?_; intro Ao526 co526 w17 _ HO527) | ((with_reducible refine gd 8 ?_); refine bL 8 #[.int .i64 0, .int .i64 0, .int .i64 0, .string (⟨#[]⟩ : ByteArray), .slice none 0 0, .string (⟨#[]⟩ : ByteArray)] 29 ?_; intro gb530 w18 _ _ _))
 have H := H'.out; clear H'; obtain ⟨t531, A19, H⟩ := oB H; (try dsimp only at H)
 by_cases c20 : t531 = true
 ·
  subst c20
  rw [if_pos rfl] at H
  have H' := Aside0.mk H; clear H
  go_upto_if 43 with (first | ((with_reducible refine gate_callee (f := 11) rfl ?_); refine gC (some 37) Tryz.func11 (laws_eqSafe.calls (hr0_4 := rC HO527) (hc0_4 := rL HO527) (hr1_4 := rC HO512) (hc1_4 := rL HO512) (w := _) (h := A19.out)) ?_; intro w21 _))
  have H := H'.out; clear H'
  by_cases c22 : t529 = t514
  rotate_left
  ·
   rw [if_neg c22] at H
   have c22b0 : (t529 == t514) = false := beq_eq_false_iff_ne.mpr c22; have c22b1 : (t529 != t514) = true := bne_iff_ne.mpr c22
   (first | rw [c22b0] | (simp only [i64_w, i32_w]; rw [c22b0]) | skip)
   exact absurd (hrt.out.symm.trans (Option.some.inj H).symm) (by decide)
  rw [if_pos c22] at H
  have c22b0 : (t529 == t514) = true := beq_iff_eq.mpr c22; have c22b1 : (t529 != t514) = false := bne_eq_false_iff_eq.mpr c22; clear c22
  (first | rw [c22b0] | (simp only [i64_w, i32_w]; rw [c22b0]) | skip)
  obtain ⟨t532, A23, H⟩ := oB H; (try dsimp only at H); obtain ⟨t535, A24, H⟩ := oB H; (try dsimp only at H); have H' := Aside0.mk H; clear H
  go_upto_if 48 with (first | ((with_reducible refine gate_callee (f := 9) rfl ?_); refine gC1 (some 46) Tryz.func9 (laws_toByteS.calls (hr0 := pC HR1) (hc0 := HC1.out) (w := _) (h := A23.out)) ?_; intro Ao533 co533 w25 _ HO534) | ((with_reducible refine gate_callee (f := 12) rfl ?_); refine gD (some 47) Tryz.func12 (laws_eqByteS.calls (hr0 := rC HO518) (hc0 := rL HO518) (hr1 := rC HO534) (hc1 := rL HO534) (w := _) (h := A24.out)) ?_; intro w26 _))
  have H := H'.out; clear H'
  by_cases c27 : t535 = true
  rotate_left
  ·
   replace c27 := Bool.eq_false_iff.mpr c27; subst c27
   rw [if_neg (show ¬ (false = true) by decide)] at H
   exact absurd (hrt.out.symm.trans (Option.some.inj H).symm) (by decide)
  subst c27
  rw [if_pos rfl] at H
  obtain ⟨⟨t536, t537⟩, A28, H⟩ := oB H; (try dsimp only at H); have H' := Aside0.mk H; clear H
  go_upto_region 12 with (first | ((with_reducible refine gate_callee (f := 13) rfl ?_); refine gM (some 51) Tryz.func13 HO518 (laws_markByteS.calls (w0 := w) (hB := UpW.out) (ho0 := oR HO518) (w := _) (h := A28.out)) ?_; intro w29 _ _ HO518 LEN30; replace HO505 := mR w29 HO505; replace HO512 := mR w29 HO512; replace HO527 := mR w29 HO527; replace HO534 := mR w29 HO534))
  have H := H'.out; clear H'
  by_cases c31 : t536 < 0
  ·
   rw [if_pos c31] at H
   have c31b0 : decide (t536 < 0) = true := decide_eq_true c31; clear c31
   (first | rw [c31b0] | (simp only [i64_w, i32_w]; rw [c31b0]) | skip)
   exact absurd (hrt.out.symm.trans (Option.some.inj H).symm) (by decide)
  rw [if_neg c31] at H
  have c31b0 : decide (t536 < 0) = false := decide_eq_false c31; clear c31
  (first | rw [c31b0] | (simp only [i64_w, i32_w]; rw [c31b0]) | skip)
  obtain ⟨t538, A32, H⟩ := oB H; (try dsimp only at H)
  by_cases c33 : t538 = true
  rotate_left
  ·
   replace c33 := Bool.eq_false_iff.mpr c33; subst c33
   rw [if_neg (show ¬ (false = true) by decide)] at H
   exact absurd (hrt.out.symm.trans (Option.some.inj H).symm) (by decide)
  subst c33
  rw [if_pos rfl] at H
  have H' := Aside0.mk H; clear H
  go_upto_if 64 with (first | (go_at_call 11; refine aC (laws_eqSafe.calls (hr0_4 := rC HO527) (hc0_4 := rL HO527) (hr1_4 := rC HO512) (hc1_4 := rL HO512) (w := _) (h := A32.out)) ?_; intro w34 _))
  have H := H'.out; clear H'; obtain ⟨⟨t539, t540⟩, A35, H⟩ := oB H; (try dsimp only at H); obtain ⟨t541, A36, H⟩ := oB H; (try dsimp only at H); have H' := Aside0.mk H; clear H
  go_upto_if 72 with (first | ((with_reducible refine gate_callee (f := 14) rfl ?_); refine gM (some 67) Tryz.func14 HO527 (laws_markSafe.calls (w0 := w) (hB := UpW.out) (ho0_4 := oR HO527) (w := _) (h := A35.out)) ?_; intro w37 _ _ HO527 LEN38; replace HO505 := mR w37 HO505; replace HO512 := mR w37 HO512; replace HO518 := mR w37 HO518; replace HO534 := mR w37 HO534) | ((with_reducible refine gate_callee (f := 15) rfl ?_); refine gC (hargs := by (simp only [List.map_toArray, List.map_cons, List.map_nil, LEN38]); rfl) (some 70) Tryz.func15 (laws_heldSafe.calls (hr0_4 := rC HO527) (hc0_4 := rL HO527) (w := _) (h := A36.out)) ?_; intro w39 _))
  have H := H'.out; clear H'
  by_cases c40 : t541 < 0
  ·
   rw [if_pos c40] at H
   have c40b0 : decide (t541 < 0) = true := decide_eq_true c40; clear c40
   (first | rw [c40b0] | (simp only [i64_w, i32_w]; rw [c40b0]) | skip)
   exact absurd (hrt.out.symm.trans (Option.some.inj H).symm) (by decide)
  rw [if_neg c40] at H
  have c40b0 : decide (t541 < 0) = false := decide_eq_false c40; clear c40
  (first | rw [c40b0] | (simp only [i64_w, i32_w]; rw [c40b0]) | skip)
  by_cases c41 : t541 = t539
  rotate_left
  ·
   rw [if_neg c41] at H
   have c41b0 : (t541 == t539) = false := beq_eq_false_iff_ne.mpr c41; have c41b1 : (t541 != t539) = true := bne_iff_ne.mpr c41
   exact absurd (hrt.out.symm.trans (Option.some.inj H).symm) (by decide)
  rw [if_pos c41] at H
  have c41b0 : (t541 == t539) = true := beq_iff_eq.mpr c41; have c41b1 : (t541 != t539) = false := bne_eq_false_iff_eq.mpr c41; clear c41; obtain ⟨⟨t542, t543⟩, A42, H⟩ := oB H; (try dsimp only at H); obtain ⟨t544, A43, H⟩ := oB H; (try dsimp only at H); obtain ⟨⟨t547, t548, t549, t550, t551, t554, t555⟩, A44, H⟩ := oB H; (try dsimp only at H); have H' := Aside0.mk H; clear H
  go_upto_region 23 with (first | ((with_reducible refine gate_callee (f := 8) rfl ?_); refine gC (some 78) Tryz.func8 (laws_toConf.calls (w := _) (h := A42.out)) ?_; intro w45 _) | ((with_reducible refine gate_callee (f := 9) rfl ?_); refine gC1 (some 80) Tryz.func9 (laws_toByteS.calls (hr0 := pC HR1) (hc0 := HC1.out) (w := _) (h := A43.out)) ?_; intro Ao545 co545 w46 _ HO546) | ((with_reducible refine gate_callee (f := 10) rfl ?_); refine gC1 (some 81) Tryz.func10 (impl_LastNote.calls (hr1 := rC HO546) (hc1 := rL HO546) (w := _) (h := A44.out)) ?_; intro Ao552 co552 w47 _ HO553) | ((with_reducible refine gd 13 ?_); refine bL 13 #[.int .i64 0, .int .i64 0, .int .i64 0, .string (⟨#[]⟩ : ByteArray), .slice none 0 0, .string (⟨#[]⟩ : ByteArray)] 29 ?_; intro gb556 w48 _ _ _))
  have H := H'.out; clear H'; obtain ⟨t557, A49, H⟩ := oB H; (try dsimp only at H)
  by_cases c50 : t557 = true
  rotate_left
  ·
   replace c50 := Bool.eq_false_iff.mpr c50; subst c50
   rw [if_neg (show ¬ (false = true) by decide)] at H
   exact absurd (hrt.out.symm.trans (Option.some.inj H).symm) (by decide)
  subst c50
  rw [if_pos rfl] at H
  have H' := Aside0.mk H; clear H
  go_upto_if 92 with (first | ((with_reducible refine gate_callee (f := 11) rfl ?_); refine gC (some 86) Tryz.func11 (laws_eqSafe.calls (hr0_4 := rC HO553) (hc0_4 := rL HO553) (hr1_4 := rC HO512) (hc1_4 := rL HO512) (w := _) (h := A49.out)) ?_; intro w51 _))
  have H := H'.out; clear H'
  by_cases c52 : t555 = t514
  rotate_left
  ·
   rw [if_neg c52] at H
   have c52b0 : (t555 == t514) = false := beq_eq_false_iff_ne.mpr c52; have c52b1 : (t555 != t514) = true := bne_iff_ne.mpr c52
   (first | rw [c52b0] | (simp only [i64_w, i32_w]; rw [c52b0]) | skip)
   exact absurd (hrt.out.symm.trans (Option.some.inj H).symm) (by decide)
  rw [if_pos c52] at H
  have c52b0 : (t555 == t514) = true := beq_iff_eq.mpr c52; have c52b1 : (t555 != t514) = false := bne_eq_false_iff_eq.mpr c52; clear c52
  (first | rw [c52b0] | (simp only [i64_w, i32_w]; rw [c52b0]) | skip)
  obtain ⟨t558, A53, H⟩ := oB H; (try dsimp only at H); have H' := Aside0.mk H; clear H
  go_upto_if 97 with (first | ((with_reducible refine gate_callee (f := 15) rfl ?_); refine gC (hargs := by (simp only [List.map_toArray, List.map_cons, List.map_nil, LEN38]); rfl) (some 95) Tryz.func15 (laws_heldSafe.calls (hr0_4 := rC HO527) (hc0_4 := rL HO527) (w := _) (h := A53.out)) ?_; intro w54 _))
  have H := H'.out; clear H'
  by_cases c55 : t558 < 0
  ·
   rw [if_pos c55] at H
   have c55b0 : decide (t558 < 0) = true := decide_eq_true c55; clear c55
   (first | rw [c55b0] | (simp only [i64_w, i32_w]; rw [c55b0]) | skip)
   exact absurd (hrt.out.symm.trans (Option.some.inj H).symm) (by decide)
  rw [if_neg c55] at H
  have c55b0 : decide (t558 < 0) = false := decide_eq_false c55; clear c55
  (first | rw [c55b0] | (simp only [i64_w, i32_w]; rw [c55b0]) | skip)
  by_cases c56 : t558 = t539
  rotate_left
  ·
   rw [if_neg c56] at H
   have c56b0 : (t558 == t539) = false := beq_eq_false_iff_ne.mpr c56; have c56b1 : (t558 != t539) = true := bne_iff_ne.mpr c56
   exact absurd (hrt.out.symm.trans (Option.some.inj H).symm) (by decide)
  rw [if_pos c56] at H
  have c56b0 : (t558 == t539) = true := beq_iff_eq.mpr c56; have c56b1 : (t558 != t539) = false := bne_eq_false_iff_eq.mpr c56; clear c56; obtain rfl := Option.some.inj H
  go_wp2
  go_ret
  exact ⟨y0_17, UpW.out⟩
 replace c20 := Bool.eq_false_iff.mpr c20; subst c20
 rw [if_neg (show ¬ (false = true) by decide)] at H
 exact absurd (hrt.out.symm.trans (Option.some.inj H).symm) (by decide)

end Go.Proofs.YtdmjhgogljhfkaaGreatDoor.PFnExactLastNote
