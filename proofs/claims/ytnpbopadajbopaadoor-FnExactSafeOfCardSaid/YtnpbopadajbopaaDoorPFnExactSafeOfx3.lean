-- By a program of this session, out of the translation (the print of the kit, with turns of its own). Lean checks it.
import Derived.Test.YtnpbopadajbopaaDoorPFnExactSafeOfx0
import Derived.Test.YtnpbopadajbopaaDoorPFnExactSafeOfx2
namespace Go.Proofs.YtnpbopadajbopaaDoor.PFnExactSafeOf
open Go.RowKit Go.Proofs.YtnpbopadajbopaaDoorW.PrintWords Go.Proofs.YtnpbopadajbopaaDoorW.PrintLast Go.Proofs.YtnpbopadajbopaaDoorW.PrintMore
attribute [local go_sem] max2_int min2_int max_two min_two max_three min_three max_four min_four   -- for this text's walks alone
attribute [local go_sem] cell_in frozen_in
set_option synthInstance.maxSize 1000000
set_option synthInstance.maxHeartbeats 2000000
set_option linter.unusedVariables false
set_option linter.unusedSimpArgs false

/-! ### spec_Digits: function 75 -/
def spec_Digits.l0 : Nat → Int → Bool → ByteArray → Option (ByteArray)
 | 0, _, _, _ => none
 | k + 1, x0, x3, x4 => if x0 = 0 then (if x3 = true then (if 1 + x4.size ≤ 9223372036854775807 then (some ((⟨#[45]⟩ : ByteArray) ++ x4)) else (none)) else (some x4)) else (if (Int.tmod x0 10) < 0 then ((some (([(wrap64 (48 + (wrap64 (-(Int.tmod x0 10))))) % 256] : List Int) : List Int)).bind fun y162 => (if (strOfNums y162).size + x4.size ≤ 9223372036854775807 then (spec_Digits.l0 k (wrap64 (Int.tdiv x0 10)) x3 ((strOfNums y162) ++ x4)) else (none))) else ((some (([(wrap64 (48 + (Int.tmod x0 10))) % 256] : List Int) : List Int)).bind fun y165 => (if (strOfNums y165).size + x4.size ≤ 9223372036854775807 then (spec_Digits.l0 k (wrap64 (Int.tdiv x0 10)) x3 ((strOfNums y165) ++ x4)) else (none))))
def spec_Digits.f (k : Nat) (a0 : Int) : Option (ByteArray) := if a0 = 0 then (some (⟨#[48]⟩ : ByteArray)) else (spec_Digits.l0 k a0 (decide (a0 < 0)) (⟨#[]⟩ : ByteArray))
theorem spec_Digits.mono_l : ∀ k, (∀ y0 y1 y2, LeO (spec_Digits.l0 k y0 y1 y2) (spec_Digits.l0 (k + 1) y0 y1 y2))
 | 0 => fun _ _ _ r h => by simp [spec_Digits.l0] at h
 | k + 1 => by
  have ih0 := spec_Digits.mono_l k
  intro y0 y1 y2
  unfold spec_Digits.l0
  repeat' first | (with_reducible exact ih0 _ _ _) | (with_reducible exact LeO.refl _) | (with_reducible exact LeO.none _) | (with_reducible refine LeO.ite ?_ ?_) | (with_reducible refine LeO.bind ?_ (fun _ => ?_))
theorem spec_Digits.mono : ∀ a0 k, LeO (spec_Digits.f k a0) (spec_Digits.f (k + 1) a0) := by
 intro a0 k
 have ih0 := spec_Digits.mono_l k
 unfold spec_Digits.f
 repeat' first | (with_reducible exact ih0 _ _ _) | (with_reducible exact LeO.refl _) | (with_reducible exact LeO.none _) | (with_reducible refine LeO.ite ?_ ?_) | (with_reducible refine LeO.bind ?_ (fun _ => ?_))
set_option maxHeartbeats 8000000 in
set_option maxRecDepth 100000 in
theorem spec_Digits.calls (k : Nat) (a0 : Int) (r : ByteArray) (w : World) (h : spec_Digits.f k a0 = some r) :
  Calls Tryd.prog 75 #[.int .i64 a0] w fun e w' => e = .returned (.string r) ∧ Below w.heap.size w w' := by
 have HB := Aside0.mk (Below.refl w.heap.size w); have H := h; unfold spec_Digits.f at H; clear h
 by_cases c2 : a0 = 0
 ·
  rw [if_pos c2] at H
  have c2b0 : (a0 == 0) = true := beq_iff_eq.mpr c2; have c2b1 : (a0 != 0) = false := bne_eq_false_iff_eq.mpr c2; clear c2; obtain rfl := Option.some.inj H
  go_enter Tryd.func75, Tryd.ntmps75
  go_wp2
  go_ret
  exact ⟨y0_7, bI HB.out⟩
 rw [if_neg c2] at H
 have c2b0 : (a0 == 0) = false := beq_eq_false_iff_ne.mpr c2; have c2b1 : (a0 != 0) = true := bne_iff_ne.mpr c2; have H' := Aside0.mk H; clear H
 go_enter Tryd.func75, Tryd.ntmps75
 go_wp2
 go_loopg [0, 4] k (fun kq v0 v4 w' => ∃ (x0_1 : Int) (x4_1 : ByteArray), v0 = .int .i64 x0_1 ∧ v4 = .string x4_1 ∧ Aside0 (spec_Digits.l0 kq x0_1 (decide (a0 < 0)) x4_1 = some r) ∧ Aside0 (kq ≤ k) ∧ Aside0 (Below w.heap.size w w'))
 case atStart => exact ⟨(a0), ((⟨#[]⟩ : ByteArray)), y0_11, y0_11, H', ⟨Nat.le_refl _⟩, ⟨bI HB.out⟩⟩
 case round =>
  clear H'
  try clear c2
  try clear c2b0
  try clear c2b1
  try clear p2
  obtain ⟨x0_1, x4_1, rfl, rfl, HA, HK1, HB⟩ := hrel; cases gk with
  | zero => exact absurd HA.out (by simp [spec_Digits.l0])
  | succ k1 =>
   have H := HA.out; clear HA
   simp only [spec_Digits.l0] at H
   by_cases c3 : x0_1 = 0
   ·
    rw [if_pos c3] at H
    have c3b0 : (x0_1 == 0) = true := beq_iff_eq.mpr c3; have c3b1 : (x0_1 != 0) = false := bne_eq_false_iff_eq.mpr c3; clear c3
    by_cases c4 : (decide (a0 < 0)) = true
    ·
     rw [if_pos c4] at H
     have c4b0 : (decide (a0 < 0)) = true := c4
     (try simp only [c4b0])
     clear c4
     by_cases c5 : 1 + x4_1.size ≤ 9223372036854775807
     rotate_left
     ·
      rw [if_neg c5] at H
      exact absurd H (by simp)
     rw [if_pos c5] at H
     have c5b0 := eq_true c5; have c5b1 : decide (1 + x4_1.size ≤ 9223372036854775807) = true := decide_eq_true c5
     try have c5b2 : (9223372036854775807 < 1 + x4_1.size) = False := eq_false (Nat.not_lt.2 c5)
     obtain rfl := Option.some.inj H
     go_wp2
     go_ret
     exact ⟨y0_7, bI HB.out⟩
    rw [if_neg c4] at H
    have c4b0 : (decide (a0 < 0)) = false := by simpa using c4
    (try simp only [c4b0])
    clear c4; obtain rfl := Option.some.inj H
    go_wp2
    go_ret
    exact ⟨y0_7, bI HB.out⟩
   rw [if_neg c3] at H
   have c3b0 : (x0_1 == 0) = false := beq_eq_false_iff_ne.mpr c3; have c3b1 : (x0_1 != 0) = true := bne_iff_ne.mpr c3
   by_cases c6 : (Int.tmod x0_1 10) < 0
   ·
    rw [if_pos c6] at H
    have c6b0 : decide ((Int.tmod x0_1 10) < 0) = true := decide_eq_true c6; clear c6; obtain ⟨y162, hy162⟩ : ∃ y_ : List Int, y_ = (([(wrap64 (48 + (wrap64 (-(Int.tmod x0_1 10))))) % 256] : List Int)) := ⟨_, rfl⟩
    replace H : (if (strOfNums y162).size + x4_1.size ≤ 9223372036854775807 then (spec_Digits.l0 k1 (wrap64 (Int.tdiv x0_1 10)) (decide (a0 < 0)) ((strOfNums y162) ++ x4_1)) else (none)) = some r := by first | (rw [hy162]; with_reducible exact H) | (have H2_ := (Option.bind_some _ _).symm.trans H; rw [hy162]; with_reducible exact H2_) | (have H2_ := (Option.bind_some _ _).symm.trans H; with_reducible exact H2_) | with_reducible exact H | (rw [hy162]; exact H) | exact H
    have Ny162 := Aside0.mk hy162; clear hy162
    by_cases c7 : (strOfNums y162).size + x4_1.size ≤ 9223372036854775807
    rotate_left
    ·
     rw [if_neg c7] at H
     exact absurd H (by simp)
    rw [if_pos c7] at H
    have c7b0 := eq_true c7; have c7b1 : decide ((strOfNums y162).size + x4_1.size ≤ 9223372036854775807) = true := decide_eq_true c7
    try have c7b2 : (9223372036854775807 < (strOfNums y162).size + x4_1.size) = False := eq_false (Nat.not_lt.2 c7)
    have H' := Aside0.mk H; clear H
    go_wp2_with (first | ((with_reducible refine gate_dst (N := 21) rfl ?_); refine Kd.R_lit (Kd.int .u8) _ 5 ?hg (N := 21) ?hd (xs := ([(wrap64 (48 + (wrap64 (-(Int.tmod x0_1 10))))) % 256] : List Int)) (inner := [.int .u8 ((wrap64 (48 + (wrap64 (-(Int.tmod x0_1 10))))) % 256)]) (ok := fun _ => True) (okp := fun _ => True) ?hr ?hp (fun _ hk => hk) trivial (Below.refl _ _) (Nat.le_refl _) (by simp) ?_; (case hd => rfl); (case hg => rfl); (case hr => first | (go_simp; done) | (go_simp; rfl)); (case hp => exact (Reps.one (show Kd.M (Kd.int .u8) _ _ _ ((wrap64 (48 + (wrap64 (-(Int.tmod x0_1 10))))) % 256) [.int .u8 ((wrap64 (48 + (wrap64 (-(Int.tmod x0_1 10))))) % 256)] from rfl) (Reps.none _ _))); intro v163 w8 ho9 hb hg_ hnew_; clear hg_ hnew_; (first | rw [← Ny162.out] at ho9 | (simp only [Int.reduceToNat] at ho9; rw [← Ny162.out] at ho9)); have HO164 := Aside0.mk (Kd.R_lower ho9 (below_size (bI HB.out))); replace HB := bs HB hb; clear hb ho9; have hcv10 := own_string (P := Tryd.prog) Tryd.underlying22 Tryd.underlying5 Tryd.underlying9 (Kd.own_of_R HO164.out)))
    go_roundg k1
    case measure => have := HK1.out; omega
    case rel => exact ⟨(wrap64 (Int.tdiv x0_1 10)), ((strOfNums y162) ++ x4_1), y0_11, y0_11, H', ⟨y0_13⟩, ⟨bI HB.out⟩⟩
   rw [if_neg c6] at H
   have c6b0 : decide ((Int.tmod x0_1 10) < 0) = false := decide_eq_false c6; clear c6; obtain ⟨y165, hy165⟩ : ∃ y_ : List Int, y_ = (([(wrap64 (48 + (Int.tmod x0_1 10))) % 256] : List Int)) := ⟨_, rfl⟩
   replace H : (if (strOfNums y165).size + x4_1.size ≤ 9223372036854775807 then (spec_Digits.l0 k1 (wrap64 (Int.tdiv x0_1 10)) (decide (a0 < 0)) ((strOfNums y165) ++ x4_1)) else (none)) = some r := by first | (rw [hy165]; with_reducible exact H) | (have H2_ := (Option.bind_some _ _).symm.trans H; rw [hy165]; with_reducible exact H2_) | (have H2_ := (Option.bind_some _ _).symm.trans H; with_reducible exact H2_) | with_reducible exact H | (rw [hy165]; exact H) | exact H
   have Ny165 := Aside0.mk hy165; clear hy165
   by_cases c11 : (strOfNums y165).size + x4_1.size ≤ 9223372036854775807
   ·
    rw [if_pos c11] at H
    have c11b0 := eq_true c11; have c11b1 : decide ((strOfNums y165).size + x4_1.size ≤ 9223372036854775807) = true := decide_eq_true c11
    try have c11b2 : (9223372036854775807 < (strOfNums y165).size + x4_1.size) = False := eq_false (Nat.not_lt.2 c11)
    have H' := Aside0.mk H; clear H
    go_wp2_with (first | ((with_reducible refine gate_dst (N := 21) rfl ?_); refine Kd.R_lit (Kd.int .u8) _ 5 ?hg (N := 21) ?hd (xs := ([(wrap64 (48 + (Int.tmod x0_1 10))) % 256] : List Int)) (inner := [.int .u8 ((wrap64 (48 + (Int.tmod x0_1 10))) % 256)]) (ok := fun _ => True) (okp := fun _ => True) ?hr ?hp (fun _ hk => hk) trivial (Below.refl _ _) (Nat.le_refl _) (by simp) ?_; (case hd => rfl); (case hg => rfl); (case hr => first | (go_simp; done) | (go_simp; rfl)); (case hp => exact (Reps.one (show Kd.M (Kd.int .u8) _ _ _ ((wrap64 (48 + (Int.tmod x0_1 10))) % 256) [.int .u8 ((wrap64 (48 + (Int.tmod x0_1 10))) % 256)] from rfl) (Reps.none _ _))); intro v166 w12 ho13 hb hg_ hnew_; clear hg_ hnew_; (first | rw [← Ny165.out] at ho13 | (simp only [Int.reduceToNat] at ho13; rw [← Ny165.out] at ho13)); have HO167 := Aside0.mk (Kd.R_lower ho13 (below_size (bI HB.out))); replace HB := bs HB hb; clear hb ho13; have hcv14 := own_string (P := Tryd.prog) Tryd.underlying22 Tryd.underlying5 Tryd.underlying9 (Kd.own_of_R HO167.out)))
    go_roundg k1
    case measure => have := HK1.out; omega
    case rel => exact ⟨(wrap64 (Int.tdiv x0_1 10)), ((strOfNums y165) ++ x4_1), y0_11, y0_11, H', ⟨y0_13⟩, ⟨bI HB.out⟩⟩
   rw [if_neg c11] at H
   exact absurd H (by simp)

/-! ### spec_Number: function 92 -/
mutual
def spec_Number.j0 : Nat → ByteArray → Bool → Option (Int × Bool)
 | 0, _, _ => none
 | k + 1, x0, x13 => if x13 = true then (some (0, false)) else (spec_Number.l0 k x0 0 0)
def spec_Number.l0 : Nat → ByteArray → Int → Int → Option (Int × Bool)
 | 0, _, _, _ => none
 | k + 1, x0, x4, x5 => if x5 < (x0.size : Int) then (if 0 ≤ x5 then (if (bt x0 x5) < 48 then (some (0, false)) else (if (bt x0 x5) > 57 then (some (0, false)) else (spec_Number.l0 k x0 (wrap64 ((wrap64 ((wrap64 (10 * x4)) + (wrap64 (bt x0 x5)))) - 48)) (wrap64 (x5 + 1))))) else (none)) else ((spec_Digits.f k x4).bind fun t168 => (if t168.toList = x0.toList then (some (x4, true)) else (some (0, false))))
end
def spec_Number.f (k : Nat) (a0 : ByteArray) : Option (Int × Bool) := if (a0.size : Int) < 1 then (spec_Number.j0 k a0 true) else (spec_Number.j0 k a0 (decide ((a0.size : Int) > 6)))
theorem spec_Number.mono_l : ∀ k, (∀ y0 y1, LeO (spec_Number.j0 k y0 y1) (spec_Number.j0 (k + 1) y0 y1)) ∧ (∀ y0 y1 y2, LeO (spec_Number.l0 k y0 y1 y2) (spec_Number.l0 (k + 1) y0 y1 y2))
 | 0 => ⟨fun _ _ r h => by simp [spec_Number.j0] at h, fun _ _ _ r h => by simp [spec_Number.l0] at h⟩
 | k + 1 => by
  obtain ⟨ih0, ih1⟩ := spec_Number.mono_l k
  refine ⟨?_, ?_⟩
  ·
   intro y0 y1
   unfold spec_Number.j0
   repeat' first | (with_reducible exact ih0 _ _) | (with_reducible exact ih1 _ _ _) | (with_reducible exact spec_Digits.mono _ _) | (with_reducible exact LeO.refl _) | (with_reducible exact LeO.none _) | (with_reducible refine LeO.ite ?_ ?_) | (with_reducible refine LeO.bind ?_ (fun _ => ?_))
  intro y0 y1 y2
  unfold spec_Number.l0
  repeat' first | (with_reducible exact ih0 _ _) | (with_reducible exact ih1 _ _ _) | (with_reducible exact spec_Digits.mono _ _) | (with_reducible exact LeO.refl _) | (with_reducible exact LeO.none _) | (with_reducible refine LeO.ite ?_ ?_) | (with_reducible refine LeO.bind ?_ (fun _ => ?_))
theorem spec_Number.mono : ∀ a0 k, LeO (spec_Number.f k a0) (spec_Number.f (k + 1) a0) := by
 intro a0 k
 obtain ⟨ih0, ih1⟩ := spec_Number.mono_l k
 unfold spec_Number.f
 repeat' first | (with_reducible exact ih0 _ _) | (with_reducible exact ih1 _ _ _) | (with_reducible exact spec_Digits.mono _ _) | (with_reducible exact LeO.refl _) | (with_reducible exact LeO.none _) | (with_reducible refine LeO.ite ?_ ?_) | (with_reducible refine LeO.bind ?_ (fun _ => ?_))
set_option maxHeartbeats 8000000 in
set_option maxRecDepth 100000 in
theorem spec_Number.calls (k : Nat) (a0 : ByteArray) (r1 : Int) (r2 : Bool) (w : World) (h : spec_Number.f k a0 = some (r1, r2)) :
  Calls Tryd.prog 92 #[.string a0] w fun e w' => e = .returned (.tuple #[.int .i64 r1, .bool r2]) ∧ Below w.heap.size w w' := by
 have HB := Aside0.mk (Below.refl w.heap.size w); have H := h; unfold spec_Number.f at H; clear h; have HC2 := Aside0.mk H; clear H
 go_enter Tryd.func92, Tryd.ntmps92
 go_upto_region 1 with (fail)
 go_cut [13] (fun v13 wc => ∃ (kq : Nat) (x13_1 : Bool), v13 = .bool x13_1 ∧ Aside0 (spec_Number.j0 kq a0 x13_1 = some (r1, r2)) ∧ Aside0 (kq ≤ k) ∧ Aside0 (Below w.heap.size w wc))
 case first =>
  have H := HC2.out; clear HC2
  by_cases c3 : (a0.size : Int) < 1
  ·
   rw [if_pos c3] at H
   have c3b0 : decide ((a0.size : Int) < 1) = true := decide_eq_true c3
   have c3b1 : decide (a0.size < 1) = true := decide_eq_true (by omega)
   clear c3
   (first | rw [c3b0] | (simp only [i64_w, i32_w]; rw [c3b0]) | skip)
   have H' := Aside0.mk H; clear H
   go_wp2
   go_meet
   case rel => exact ⟨_, (true), y0_11, H', ⟨y0_12⟩, ⟨bI HB.out⟩⟩
  rw [if_neg c3] at H
  have c3b0 : decide ((a0.size : Int) < 1) = false := decide_eq_false c3
  have c3b1 : decide (a0.size < 1) = false := decide_eq_false (by omega)
  clear c3
  (first | rw [c3b0] | (simp only [i64_w, i32_w]; rw [c3b0]) | skip)
  have H' := Aside0.mk H; clear H
  go_wp2
  go_meet
  case rel => exact ⟨_, (decide ((a0.size : Int) > 6)), y0_11, H', ⟨y0_12⟩, ⟨bI HB.out⟩⟩
 case rest =>
  clear HC2
  try clear p2
  try clear c3
  try clear c3b0
  try clear c3b1
  obtain ⟨kq, x13_1, rfl, HA, HJ1, HB⟩ := hcut; cases kq with
  | zero => exact absurd HA.out (by simp [spec_Number.j0])
  | succ kj1 =>
   have H := HA.out; clear HA
   simp only [spec_Number.j0] at H
   by_cases c4 : x13_1 = true
   ·
    subst c4
    rw [if_pos rfl] at H
    simp only [Option.some.injEq, Prod.mk.injEq] at H
    obtain ⟨rfl, rfl⟩ := H
    go_wp2
    go_ret2
    exact ⟨y0_7, bI HB.out⟩
   replace c4 := Bool.eq_false_iff.mpr c4; subst c4
   rw [if_neg (show ¬ (false = true) by decide)] at H
   have H' := Aside0.mk H; clear H
   go_wp2
   go_loopg [4, 5] kj1 (fun kq v4 v5 w' => ∃ (x4_2 : Int) (x5_2 : Int), v4 = .int .i64 x4_2 ∧ v5 = .int .i64 x5_2 ∧ Aside0 (spec_Number.l0 kq a0 x4_2 x5_2 = some (r1, r2)) ∧ Aside0 (kq ≤ kj1) ∧ Aside0 (Below w.heap.size w w'))
   case atStart => exact ⟨(0), (0), y0_11, y0_11, H', ⟨Nat.le_refl _⟩, ⟨bI HB.out⟩⟩
   case round =>
    clear H'
    try clear p2
    try clear c3
    try clear c3b0
    try clear c3b1
    try clear c4
    try clear p2
    obtain ⟨x4_2, x5_2, rfl, rfl, HA, HK2, HB⟩ := hrel; cases gk with
    | zero => exact absurd HA.out (by simp [spec_Number.l0])
    | succ k2 =>
     have H := HA.out; clear HA
     simp only [spec_Number.l0] at H
     by_cases c5 : x5_2 < (a0.size : Int)
     ·
      rw [if_pos c5] at H
      have c5b0 : decide (x5_2 < (a0.size : Int)) = true := decide_eq_true c5; clear c5
      by_cases c6 : 0 ≤ x5_2
      rotate_left
      ·
       rw [if_neg c6] at H
       exact absurd H (by simp)
      rw [if_pos c6] at H
      have c6b0 : decide (0 ≤ x5_2) = true := decide_eq_true c6; clear c6
      by_cases c8 : (bt a0 x5_2) < 48
      ·
       rw [if_pos c8] at H
       have c8b0 : decide ((bt a0 x5_2) < 48) = true := decide_eq_true c8; clear c8
       simp only [Option.some.injEq, Prod.mk.injEq] at H
       obtain ⟨rfl, rfl⟩ := H; have p7 : 0 ≤ (x5_2 : Int) := of_decide_eq_true y0_10; have q7 : x5_2 < (a0.size : Int) := of_decide_eq_true y0_10; have hx7 := bt_at a0 x5_2; replace p7 := eq_true p7; replace q7 := eq_true q7
       go_wp2
       go_ret2
       exact ⟨y0_7, bI HB.out⟩
      rw [if_neg c8] at H
      have c8b0 : decide ((bt a0 x5_2) < 48) = false := decide_eq_false c8; clear c8
      by_cases c10 : (bt a0 x5_2) > 57
      ·
       rw [if_pos c10] at H
       have c10b0 : decide (57 < (bt a0 x5_2)) = true := decide_eq_true c10; clear c10
       simp only [Option.some.injEq, Prod.mk.injEq] at H
       obtain ⟨rfl, rfl⟩ := H; have p7 : 0 ≤ (x5_2 : Int) := of_decide_eq_true y0_10; have q7 : x5_2 < (a0.size : Int) := of_decide_eq_true y0_10; have hx7 := bt_at a0 x5_2; replace p7 := eq_true p7; replace q7 := eq_true q7; have p9 : 0 ≤ (x5_2 : Int) := of_decide_eq_true y0_10; have q9 : x5_2 < (a0.size : Int) := of_decide_eq_true y0_10; have hx9 := bt_at a0 x5_2; replace p9 := eq_true p9; replace q9 := eq_true q9
       go_wp2
       go_ret2
       exact ⟨y0_7, bI HB.out⟩
      rw [if_neg c10] at H
      have c10b0 : decide (57 < (bt a0 x5_2)) = false := decide_eq_false c10; clear c10; have H' := Aside0.mk H; clear H; have p7 : 0 ≤ (x5_2 : Int) := of_decide_eq_true y0_10; have q7 : x5_2 < (a0.size : Int) := of_decide_eq_true y0_10; have hx7 := bt_at a0 x5_2; replace p7 := eq_true p7; replace q7 := eq_true q7; have p9 : 0 ≤ (x5_2 : Int) := of_decide_eq_true y0_10; have q9 : x5_2 < (a0.size : Int) := of_decide_eq_true y0_10; have hx9 := bt_at a0 x5_2; replace p9 := eq_true p9; replace q9 := eq_true q9; have p11 : 0 ≤ (x5_2 : Int) := of_decide_eq_true y0_10; have q11 : x5_2 < (a0.size : Int) := of_decide_eq_true y0_10; have hx11 := bt_at a0 x5_2; replace p11 := eq_true p11; replace q11 := eq_true q11
      go_wp2
      go_roundg k2
      case measure => have := HJ1.out; have := HK2.out; omega
      case rel => exact ⟨(wrap64 ((wrap64 ((wrap64 (10 * x4_2)) + (wrap64 (bt a0 x5_2)))) - 48)), (wrap64 (x5_2 + 1)), y0_11, y0_11, H', ⟨by have := HJ1.out; have := HK2.out; omega⟩, ⟨bI HB.out⟩⟩
     rw [if_neg c5] at H
     have c5b0 : decide (x5_2 < (a0.size : Int)) = false := decide_eq_false c5; clear c5; obtain ⟨t168, A12, H⟩ := oB H; (try dsimp only at H)
     by_cases c13 : t168.toList = a0.toList
     ·
      rw [if_pos c13] at H
      have c13b0 : (t168.toList == a0.toList) = true := beq_iff_eq.mpr c13; have c13b1 : (t168.toList != a0.toList) = false := bne_eq_false_iff_eq.mpr c13; clear c13
      simp only [Option.some.injEq, Prod.mk.injEq] at H
      obtain ⟨rfl, rfl⟩ := H
      go_wp2_with (first | ((with_reducible refine gate_callee (f := 75) rfl ?_); refine gB (some 39) Tryd.func75 #[.int .i64 x4_2] ?_; (with_reducible refine (spec_Digits.calls k2 x4_2 t168 _ A12.out).mono ?_); rintro e w14 ⟨rfl, hb⟩; refine ⟨_, rfl, ?_⟩; replace HB := bs HB hb; (try clear hb); (try clear hb2); (try clear hk); (try clear hi)))
      go_ret2
      exact ⟨y0_7, bI HB.out⟩
     rw [if_neg c13] at H
     have c13b0 : (t168.toList == a0.toList) = false := beq_eq_false_iff_ne.mpr c13; have c13b1 : (t168.toList != a0.toList) = true := bne_iff_ne.mpr c13
     simp only [Option.some.injEq, Prod.mk.injEq] at H
     obtain ⟨rfl, rfl⟩ := H
     go_wp2_with (first | ((with_reducible refine gate_callee (f := 75) rfl ?_); refine gB (some 39) Tryd.func75 #[.int .i64 x4_2] ?_; (with_reducible refine (spec_Digits.calls k2 x4_2 t168 _ A12.out).mono ?_); rintro e w15 ⟨rfl, hb⟩; refine ⟨_, rfl, ?_⟩; replace HB := bs HB hb; (try clear hb); (try clear hb2); (try clear hk); (try clear hi)))
     go_ret2
     exact ⟨y0_7, bI HB.out⟩

/-! ### spec_TxOk: function 82 -/
def spec_TxOk.f (a0_0 : Int) (a0_1 : Int) (a0_2 : Int) (a0_3 : Int) : Option (Bool) := (spec_l1In.f a0_0 0 3).bind fun t170 => (if t170 = true then ((spec_l1In.f a0_1 0 3).bind fun t171 => (if t171 = true then ((spec_l1In.f a0_2 0 1000).bind fun t172 => (if t172 = true then ((spec_l1In.f a0_3 0 99).bind fun t173 => (some t173)) else (some false))) else (some false))) else (some false))
set_option maxHeartbeats 8000000 in
set_option maxRecDepth 100000 in
theorem spec_TxOk.calls (a0_0 : Int) (a0_1 : Int) (a0_2 : Int) (a0_3 : Int) (r : Bool) (w : World) (h : spec_TxOk.f a0_0 a0_1 a0_2 a0_3 = some r) :
  Calls Tryd.prog 82 #[.agg #[.int .i64 a0_0, .int .i64 a0_1, .int .i64 a0_2, .int .i64 a0_3]] w fun e w' => e = .returned (.bool r) ∧ Below w.heap.size w w' := by
 have hu97 := Tryd.underlying97; have HB := Aside0.mk (Below.refl w.heap.size w)
 have H := h; unfold spec_TxOk.f at H
 clear h
 go_enter Tryd.func82, Tryd.ntmps82
 have H' := Aside0.mk H; clear H
 go_upto_region 1 with (first | ((with_reducible refine gd 1 ?_); refine bL 1 #[.int .i64 a0_0, .int .i64 a0_1, .int .i64 a0_2, .int .i64 a0_3] 97 ?_; intro gb169 w2 _ _ _))
 have H := H'.out; clear H'; obtain ⟨t170, A3, H⟩ := oB H; (try dsimp only at H)
 by_cases c4 : t170 = true
 ·
  subst c4
  rw [if_pos rfl] at H
  obtain ⟨t171, A5, H⟩ := oB H; (try dsimp only at H)
  by_cases c6 : t171 = true
  ·
   subst c6
   rw [if_pos rfl] at H
   obtain ⟨t172, A7, H⟩ := oB H; (try dsimp only at H)
   by_cases c8 : t172 = true
   ·
    subst c8
    rw [if_pos rfl] at H
    obtain ⟨t173, A9, H⟩ := oB H; (try dsimp only at H); obtain rfl := Option.some.inj H
    go_wp2_with (first | ((with_reducible refine gate_callee (f := 55) rfl ?_); refine gD (some 5) Tryd.func55 (spec_l1In.calls (w := _) (h := A3.out)) ?_; intro w10 _) | (go_at_call 55; refine aD (spec_l1In.calls (w := _) (h := A5.out)) ?_; intro w11 _) | (go_at_call 55; refine aD (spec_l1In.calls (w := _) (h := A7.out)) ?_; intro w12 _) | (go_at_call 55; refine aD (spec_l1In.calls (w := _) (h := A9.out)) ?_; intro w13 _))
    go_ret
    exact ⟨y0_11, UpW.out⟩
   replace c8 := Bool.eq_false_iff.mpr c8; subst c8
   rw [if_neg (show ¬ (false = true) by decide)] at H
   obtain rfl := Option.some.inj H
   go_wp2_with (first | ((with_reducible refine gate_callee (f := 55) rfl ?_); refine gD (some 5) Tryd.func55 (spec_l1In.calls (w := _) (h := A3.out)) ?_; intro w14 _) | (go_at_call 55; refine aD (spec_l1In.calls (w := _) (h := A5.out)) ?_; intro w15 _) | (go_at_call 55; refine aD (spec_l1In.calls (w := _) (h := A7.out)) ?_; intro w16 _))
   go_ret
   exact ⟨y0_11, UpW.out⟩
  replace c6 := Bool.eq_false_iff.mpr c6; subst c6
  rw [if_neg (show ¬ (false = true) by decide)] at H
  obtain rfl := Option.some.inj H
  go_wp2_with (first | ((with_reducible refine gate_callee (f := 55) rfl ?_); refine gD (some 5) Tryd.func55 (spec_l1In.calls (w := _) (h := A3.out)) ?_; intro w17 _) | (go_at_call 55; refine aD (spec_l1In.calls (w := _) (h := A5.out)) ?_; intro w18 _))
  go_ret
  exact ⟨y0_11, UpW.out⟩
 replace c4 := Bool.eq_false_iff.mpr c4; subst c4
 rw [if_neg (show ¬ (false = true) by decide)] at H
 obtain rfl := Option.some.inj H
 go_wp2_with (first | ((with_reducible refine gate_callee (f := 55) rfl ?_); refine gD (some 5) Tryd.func55 (spec_l1In.calls (w := _) (h := A3.out)) ?_; intro w19 _))
 go_ret
 exact ⟨y0_11, UpW.out⟩

/-! ### spec_TxText: function 94 -/
def spec_TxText.f (k : Nat) (a0_0 : Int) (a0_1 : Int) (a0_2 : Int) (a0_3 : Int) : Option (ByteArray) := (spec_TxOk.f a0_0 a0_1 a0_2 a0_3).bind fun t175 => (if t175 = true then ((spec_Digits.f k a0_0).bind fun t176 => (if t176.size + 1 ≤ 9223372036854775807 then ((spec_Digits.f k a0_1).bind fun t177 => (if (t176 ++ (⟨#[62]⟩ : ByteArray)).size + t177.size ≤ 9223372036854775807 then (if ((t176 ++ (⟨#[62]⟩ : ByteArray)) ++ t177).size + 1 ≤ 9223372036854775807 then ((spec_Digits.f k a0_2).bind fun t178 => (if (((t176 ++ (⟨#[62]⟩ : ByteArray)) ++ t177) ++ (⟨#[58]⟩ : ByteArray)).size + t178.size ≤ 9223372036854775807 then (if ((((t176 ++ (⟨#[62]⟩ : ByteArray)) ++ t177) ++ (⟨#[58]⟩ : ByteArray)) ++ t178).size + 1 ≤ 9223372036854775807 then ((spec_Digits.f k a0_3).bind fun t179 => (if (((((t176 ++ (⟨#[62]⟩ : ByteArray)) ++ t177) ++ (⟨#[58]⟩ : ByteArray)) ++ t178) ++ (⟨#[35]⟩ : ByteArray)).size + t179.size ≤ 9223372036854775807 then (some ((((((t176 ++ (⟨#[62]⟩ : ByteArray)) ++ t177) ++ (⟨#[58]⟩ : ByteArray)) ++ t178) ++ (⟨#[35]⟩ : ByteArray)) ++ t179)) else (none))) else (none)) else (none))) else (none)) else (none))) else (none))) else (some (⟨#[]⟩ : ByteArray)))
theorem spec_TxText.mono : ∀ a0 a1 a2 a3 k, LeO (spec_TxText.f k a0 a1 a2 a3) (spec_TxText.f (k + 1) a0 a1 a2 a3) := by
 intro a0 a1 a2 a3 k
 unfold spec_TxText.f
 repeat' first | (with_reducible exact spec_Digits.mono _ _) | (with_reducible exact LeO.refl _) | (with_reducible exact LeO.none _) | (with_reducible refine LeO.ite ?_ ?_) | (with_reducible refine LeO.bind ?_ (fun _ => ?_))
def spec_TxText.T3 : Bool × List (List Nat × List Nat) := (true, [([], []), ([0], [0]), ([1], [1]), ([2], [2]), ([], []), ([4], [4]), ([5, 2], [5]), ([3, 6], [3, 6]), ([7], [7]), ([], []), ([9], [9]), ([10, 6], [10]), ([8, 11], [8, 11]), ([12], [12]), ([], []), ([14], [14]), ([15, 11], [15]), ([13, 16], [13, 16]), ([17, 16, 0, 1, 2, 3, 4, 5, 6, 7, 8, 9, 10, 11, 12, 13, 14, 15, 16, 17], [17])])
def spec_TxText.B3 : List Nat := [0, 1, 3, 7, 0, 16, 55, 127, 255, 0, 512, 1655, 4095, 8191, 0, 16384, 52855, 131071, 262143]
theorem spec_TxText.tab3 : rtab .any (opsOf Tryd.f94 3) = spec_TxText.T3 := by kernel_rfl
theorem spec_TxText.bits3 : waitsOk spec_TxText.T3.2 spec_TxText.B3 = true := by kernel_rfl
set_option maxHeartbeats 8000000 in
set_option maxRecDepth 100000 in
theorem spec_TxText.calls (k : Nat) (a0_0 : Int) (a0_1 : Int) (a0_2 : Int) (a0_3 : Int) (r : ByteArray) (w : World) (h : spec_TxText.f k a0_0 a0_1 a0_2 a0_3 = some r) :
  Calls Tryd.prog 94 #[.agg #[.int .i64 a0_0, .int .i64 a0_1, .int .i64 a0_2, .int .i64 a0_3]] w fun e w' => e = .returned (.string r) ∧ Below w.heap.size w w' := by
 have hu97 := Tryd.underlying97; have HB := Aside0.mk (Below.refl w.heap.size w)
 have H := h; unfold spec_TxText.f at H
 clear h; obtain ⟨t175, A2, H⟩ := oB H; (try dsimp only at H)
 go_enter Tryd.func94, Tryd.ntmps94
 have H' := Aside0.mk H; clear H
 go_upto_if 5 with (first | ((with_reducible refine gd 1 ?_); refine bL 1 #[.int .i64 a0_0, .int .i64 a0_1, .int .i64 a0_2, .int .i64 a0_3] 97 ?_; intro gb174 w3 _ _ _) | ((with_reducible refine gate_callee (f := 82) rfl ?_); refine gC (some 4) Tryd.func82 (spec_TxOk.calls (w := _) (h := A2.out)) ?_; intro w4 _))
 have H := H'.out; clear H'
 by_cases c5 : t175 = true
 ·
  subst c5
  rw [if_pos rfl] at H
  obtain ⟨t176, A6, H⟩ := oB H; (try dsimp only at H)
  by_cases c7 : t176.size + 1 ≤ 9223372036854775807
  rotate_left
  ·
   rw [if_neg c7] at H
   exact absurd H (by simp)
  rw [if_pos c7] at H
  have c7b0 := eq_true c7; have c7b1 : decide (t176.size + 1 ≤ 9223372036854775807) = true := decide_eq_true c7
  try have c7b2 : (9223372036854775807 < t176.size + 1) = False := eq_false (Nat.not_lt.2 c7)
  obtain ⟨t177, A8, H⟩ := oB H; (try dsimp only at H)
  by_cases c9 : (t176 ++ (⟨#[62]⟩ : ByteArray)).size + t177.size ≤ 9223372036854775807
  rotate_left
  ·
   rw [if_neg c9] at H
   exact absurd H (by simp)
  rw [if_pos c9] at H
  have c9b0 := eq_true c9; have c9b1 : decide ((t176 ++ (⟨#[62]⟩ : ByteArray)).size + t177.size ≤ 9223372036854775807) = true := decide_eq_true c9
  try have c9b2 : (9223372036854775807 < (t176 ++ (⟨#[62]⟩ : ByteArray)).size + t177.size) = False := eq_false (Nat.not_lt.2 c9)
  (try have c9b3 : (9223372036854775807 < t176.size + 1 + t177.size) = False := eq_false (by have h_ := c9; simp only [ByteArray.size_append, ByteArray.size_extract, show (⟨#[62]⟩ : ByteArray).size = 1 from rfl] at h_; omega))
  by_cases c10 : ((t176 ++ (⟨#[62]⟩ : ByteArray)) ++ t177).size + 1 ≤ 9223372036854775807
  rotate_left
  ·
   rw [if_neg c10] at H
   exact absurd H (by simp)
  rw [if_pos c10] at H
  have c10b0 := eq_true c10; have c10b1 : decide (((t176 ++ (⟨#[62]⟩ : ByteArray)) ++ t177).size + 1 ≤ 9223372036854775807) = true := decide_eq_true c10
  try have c10b2 : (9223372036854775807 < ((t176 ++ (⟨#[62]⟩ : ByteArray)) ++ t177).size + 1) = False := eq_false (Nat.not_lt.2 c10)
  (try have c10b3 : (9223372036854775807 < t176.size + 1 + t177.size + 1) = False := eq_false (by have h_ := c10; simp only [ByteArray.size_append, ByteArray.size_extract, show (⟨#[62]⟩ : ByteArray).size = 1 from rfl] at h_; omega))
  obtain ⟨t178, A11, H⟩ := oB H; (try dsimp only at H)
  by_cases c12 : (((t176 ++ (⟨#[62]⟩ : ByteArray)) ++ t177) ++ (⟨#[58]⟩ : ByteArray)).size + t178.size ≤ 9223372036854775807
  rotate_left
  ·
   rw [if_neg c12] at H
   exact absurd H (by simp)
  rw [if_pos c12] at H
  have c12b0 := eq_true c12; have c12b1 : decide ((((t176 ++ (⟨#[62]⟩ : ByteArray)) ++ t177) ++ (⟨#[58]⟩ : ByteArray)).size + t178.size ≤ 9223372036854775807) = true := decide_eq_true c12
  try have c12b2 : (9223372036854775807 < (((t176 ++ (⟨#[62]⟩ : ByteArray)) ++ t177) ++ (⟨#[58]⟩ : ByteArray)).size + t178.size) = False := eq_false (Nat.not_lt.2 c12)
  (try have c12b3 : (9223372036854775807 < t176.size + 1 + t177.size + 1 + t178.size) = False := eq_false (by have h_ := c12; simp only [ByteArray.size_append, ByteArray.size_extract, show (⟨#[58]⟩ : ByteArray).size = 1 from rfl, show (⟨#[62]⟩ : ByteArray).size = 1 from rfl] at h_; omega))
  by_cases c13 : ((((t176 ++ (⟨#[62]⟩ : ByteArray)) ++ t177) ++ (⟨#[58]⟩ : ByteArray)) ++ t178).size + 1 ≤ 9223372036854775807
  rotate_left
  ·
   rw [if_neg c13] at H
   exact absurd H (by simp)
  rw [if_pos c13] at H
  have c13b0 := eq_true c13; have c13b1 : decide (((((t176 ++ (⟨#[62]⟩ : ByteArray)) ++ t177) ++ (⟨#[58]⟩ : ByteArray)) ++ t178).size + 1 ≤ 9223372036854775807) = true := decide_eq_true c13
  try have c13b2 : (9223372036854775807 < ((((t176 ++ (⟨#[62]⟩ : ByteArray)) ++ t177) ++ (⟨#[58]⟩ : ByteArray)) ++ t178).size + 1) = False := eq_false (Nat.not_lt.2 c13)
  (try have c13b3 : (9223372036854775807 < t176.size + 1 + t177.size + 1 + t178.size + 1) = False := eq_false (by have h_ := c13; simp only [ByteArray.size_append, ByteArray.size_extract, show (⟨#[58]⟩ : ByteArray).size = 1 from rfl, show (⟨#[62]⟩ : ByteArray).size = 1 from rfl] at h_; omega))
  obtain ⟨t179, A14, H⟩ := oB H; (try dsimp only at H)
  by_cases c15 : (((((t176 ++ (⟨#[62]⟩ : ByteArray)) ++ t177) ++ (⟨#[58]⟩ : ByteArray)) ++ t178) ++ (⟨#[35]⟩ : ByteArray)).size + t179.size ≤ 9223372036854775807
  rotate_left
  ·
   rw [if_neg c15] at H
   exact absurd H (by simp)
  rw [if_pos c15] at H
  have c15b0 := eq_true c15; have c15b1 : decide ((((((t176 ++ (⟨#[62]⟩ : ByteArray)) ++ t177) ++ (⟨#[58]⟩ : ByteArray)) ++ t178) ++ (⟨#[35]⟩ : ByteArray)).size + t179.size ≤ 9223372036854775807) = true := decide_eq_true c15
  try have c15b2 : (9223372036854775807 < (((((t176 ++ (⟨#[62]⟩ : ByteArray)) ++ t177) ++ (⟨#[58]⟩ : ByteArray)) ++ t178) ++ (⟨#[35]⟩ : ByteArray)).size + t179.size) = False := eq_false (Nat.not_lt.2 c15)
  (try have c15b3 : (9223372036854775807 < t176.size + 1 + t177.size + 1 + t178.size + 1 + t179.size) = False := eq_false (by have h_ := c15; simp only [ByteArray.size_append, ByteArray.size_extract, show (⟨#[35]⟩ : ByteArray).size = 1 from rfl, show (⟨#[58]⟩ : ByteArray).size = 1 from rfl, show (⟨#[62]⟩ : ByteArray).size = 1 from rfl] at h_; omega))
  obtain rfl := Option.some.inj H
  try go_wp2
  refine sB [] spec_TxText.tab3 spec_TxText.bits3 ?_; intro w16 _ HT_ HW_
  refine pA 0 (some 6) (bz 19 1) HT_ ?_
  refine tB 1 (some 7) (bz 19 3) HT_ HW_ ?_
  refine pA 4 (some 10) (bz 19 19) HT_ ?_
  refine tB 5 (some 11) (bz 19 51) HT_ HW_ ?_
  refine pA 9 (some 15) (bz 19 563) HT_ ?_
  refine tB 10 (some 16) (bz 19 1587) HT_ HW_ ?_
  refine pA 14 (some 20) (bz 19 0x4633) HT_ ?_
  refine tB 15 (some 21) (bz 19 0xc633) HT_ HW_ ?_
  refine o1 2 (some 8) (bz 19 0xc637) HT_ rfl (kC Tryd.func75 (spec_Digits.calls (w := _) (h := A6.out)) ?_); intro w17 _
  refine nA (some 8) ?_
  refine pA 3 (some 9) (bz 19 0xc63f) HT_ ?_
  refine o1 6 (some 12) (bz 19 0xc67f) HT_ rfl (kC Tryd.func75 (spec_Digits.calls (w := _) (h := A8.out)) ?_); intro w18 _
  refine nA (some 12) ?_
  refine pA 7 (some 13) (bz 19 0xc6ff) HT_ ?_
  refine pA 8 (some 14) (bz 19 0xc7ff) HT_ ?_
  refine o1 11 (some 17) (bz 19 0xcfff) HT_ rfl (kC Tryd.func75 (spec_Digits.calls (w := _) (h := A11.out)) ?_); intro w19 _
  refine nA (some 17) ?_
  refine pA 12 (some 18) (bz 19 0xdfff) HT_ ?_
  refine pA 13 (some 19) (bz 19 0xffff) HT_ ?_
  refine o1 16 (some 22) (bz 19 0x1ffff) HT_ rfl (kC Tryd.func75 (spec_Digits.calls (w := _) (h := A14.out)) ?_); intro w20 _
  refine nA (some 22) ?_
  refine pA 17 (some 23) (bz 19 0x3ffff) HT_ ?_
  refine pA 18 (some 2) (bz 19 0x7ffff) HT_ ?_
  refine done_ (done_of HT_.out (by kernel_rfl)) ?_
  try go_wp2
  go_ret
  exact ⟨y0_11, UpW.out⟩
 replace c5 := Bool.eq_false_iff.mpr c5; subst c5
 rw [if_neg (show ¬ (false = true) by decide)] at H
 obtain rfl := Option.some.inj H
 go_wp2
 go_ret
 exact ⟨y0_11, UpW.out⟩

/-! ### spec_TxOf: function 99 -/
def spec_TxOf.f (k : Nat) (a0 : ByteArray) : Option (Int × Int × Int × Int × Bool) := (spec_l2Cut.f k a0 62).bind fun bt181 => ((spec_l2Cut.f k bt181.2.1 58).bind fun bt184 => ((spec_l2Cut.f k bt184.2.1 35).bind fun bt187 => ((spec_Number.f k bt181.1).bind fun bt191 => ((spec_Number.f k bt184.1).bind fun bt193 => ((spec_Number.f k bt187.1).bind fun bt195 => ((spec_Number.f k bt187.2.1).bind fun bt197 => (if a0.toList = ([] : List UInt8) then (some (0, 0, 0, 0, false)) else ((spec_TxText.f k bt191.1 bt193.1 bt195.1 bt197.1).bind fun t199 => (if t199.toList = a0.toList then (some (bt191.1, bt193.1, bt195.1, bt197.1, true)) else (some (0, 0, 0, 0, false)))))))))))
theorem spec_TxOf.mono : ∀ a0 k, LeO (spec_TxOf.f k a0) (spec_TxOf.f (k + 1) a0) := by
 intro a0 k
 unfold spec_TxOf.f
 repeat' first | (with_reducible exact spec_Number.mono _ _) | (with_reducible exact spec_TxText.mono _ _ _ _ _) | (with_reducible exact spec_l2Cut.mono _ _ _) | (with_reducible exact LeO.refl _) | (with_reducible exact LeO.none _) | (with_reducible refine LeO.ite ?_ ?_) | (with_reducible refine LeO.bind ?_ (fun _ => ?_))
set_option maxHeartbeats 8000000 in
set_option maxRecDepth 100000 in
theorem spec_TxOf.calls (k : Nat) (a0 : ByteArray) (r1 : Int) (r2 : Int) (r3 : Int) (r4 : Int) (r5 : Bool) (w : World) (h : spec_TxOf.f k a0 = some (r1, r2, r3, r4, r5)) :
  Calls Tryd.prog 99 #[.string a0] w fun e w' => e = .returned (.tuple #[.agg #[.int .i64 r1, .int .i64 r2, .int .i64 r3, .int .i64 r4], .bool r5]) ∧ Below w.heap.size w w' := by
 have hu97 := Tryd.underlying97; have HB := Aside0.mk (Below.refl w.heap.size w)
 have H := h; unfold spec_TxOf.f at H
 clear h; obtain ⟨⟨t181, t182, t183⟩, A2, H⟩ := oB H; (try dsimp only at H); obtain ⟨⟨t184, t185, t186⟩, A3, H⟩ := oB H; (try dsimp only at H); obtain ⟨⟨t187, t188, t189⟩, A4, H⟩ := oB H; (try dsimp only at H); obtain ⟨⟨t191, t192⟩, A5, H⟩ := oB H; (try dsimp only at H); obtain ⟨⟨t193, t194⟩, A6, H⟩ := oB H; (try dsimp only at H); obtain ⟨⟨t195, t196⟩, A7, H⟩ := oB H; (try dsimp only at H); obtain ⟨⟨t197, t198⟩, A8, H⟩ := oB H; (try dsimp only at H)
 go_enter Tryd.func99, Tryd.ntmps99
 have H' := Aside0.mk H; clear H
 go_upto_region 9 with (first | ((with_reducible refine gd 2 ?_); refine bL 2 #[.int .i64 0, .int .i64 0, .int .i64 0, .int .i64 0] 97 ?_; intro gb180 w9 _ _ _) | ((with_reducible refine gate_callee (f := 91) rfl ?_); refine gD (some 16) Tryd.func91 (spec_l2Cut.calls (w := _) (h := A2.out)) ?_; intro w10 _) | ((with_reducible refine gate_callee (f := 91) rfl ?_); refine gD (some 22) Tryd.func91 (spec_l2Cut.calls (w := _) (h := A3.out)) ?_; intro w11 _) | ((with_reducible refine gate_callee (f := 91) rfl ?_); refine gD (some 28) Tryd.func91 (spec_l2Cut.calls (w := _) (h := A4.out)) ?_; intro w12 _) | ((with_reducible refine gd 13 ?_); refine bL 13 #[.int .i64 0, .int .i64 0, .int .i64 0, .int .i64 0] 97 ?_; intro gb190 w13 _ _ _) | ((with_reducible refine gate_callee (f := 92) rfl ?_); refine gC (some 35) Tryd.func92 (spec_Number.calls (w := _) (h := A5.out)) ?_; intro w14 _) | ((with_reducible refine gate_callee (f := 92) rfl ?_); refine gC (some 41) Tryd.func92 (spec_Number.calls (w := _) (h := A6.out)) ?_; intro w15 _) | ((with_reducible refine gate_callee (f := 92) rfl ?_); refine gC (some 47) Tryd.func92 (spec_Number.calls (w := _) (h := A7.out)) ?_; intro w16 _) | ((with_reducible refine gate_callee (f := 92) rfl ?_); refine gC (some 53) Tryd.func92 (spec_Number.calls (w := _) (h := A8.out)) ?_; intro w17 _))
 have H := H'.out; clear H'
 by_cases c18 : a0.toList = ([] : List UInt8)
 ·
  rw [if_pos c18] at H
  have c18b0 : (a0.toList == ([] : List UInt8)) = true := beq_iff_eq.mpr c18; have c18b1 : (a0.toList != ([] : List UInt8)) = false := bne_eq_false_iff_eq.mpr c18; clear c18
  (first | rw [c18b0] | (simp only [i64_w, i32_w]; rw [c18b0]) | rw [show List.isEmpty (a0.toList) = true from by simpa using c18b0] | skip)
  simp only [Option.some.injEq, Prod.mk.injEq] at H
  obtain ⟨rfl, rfl, rfl, rfl, rfl⟩ := H
  go_wp2
  refine bodyPost_ret (results_ct rfl _ _ gb180 97 #[.int .i64 0, .int .i64 0, .int .i64 0, .int .i64 0] (0, 0) _ rfl xB Tryd.underlying97 rfl (by kernel_rfl)) rfl ?_
  exact ⟨y0_11, UpW.out⟩
 rw [if_neg c18] at H
 have c18b0 : (a0.toList == ([] : List UInt8)) = false := beq_eq_false_iff_ne.mpr c18; have c18b1 : (a0.toList != ([] : List UInt8)) = true := bne_iff_ne.mpr c18
 (first | rw [c18b0] | (simp only [i64_w, i32_w]; rw [c18b0]) | rw [show List.isEmpty (a0.toList) = false from by simpa using c18b0] | skip)
 obtain ⟨t199, A19, H⟩ := oB H; (try dsimp only at H); have H' := Aside0.mk H; clear H
 go_upto_if 64 with (first | (go_at_call 94; refine aC (spec_TxText.calls (w := _) (h := A19.out)) ?_; intro w20 _))
 have H := H'.out; clear H'
 by_cases c21 : t199.toList = a0.toList
 ·
  rw [if_pos c21] at H
  have c21b0 : (t199.toList == a0.toList) = true := beq_iff_eq.mpr c21; have c21b1 : (t199.toList != a0.toList) = false := bne_eq_false_iff_eq.mpr c21; clear c21
  (first | rw [c21b0] | (simp only [i64_w, i32_w]; rw [c21b0]) | skip)
  simp only [Option.some.injEq, Prod.mk.injEq] at H
  obtain ⟨rfl, rfl, rfl, rfl, rfl⟩ := H
  go_wp2
  refine bodyPost_ret (results_ct rfl _ _ gb180 97 #[.int .i64 t191, .int .i64 t193, .int .i64 t195, .int .i64 t197] (0, 0) _ rfl xB Tryd.underlying97 rfl (by kernel_rfl)) rfl ?_
  exact ⟨y0_11, UpW.out⟩
 rw [if_neg c21] at H
 have c21b0 : (t199.toList == a0.toList) = false := beq_eq_false_iff_ne.mpr c21; have c21b1 : (t199.toList != a0.toList) = true := bne_iff_ne.mpr c21
 (first | rw [c21b0] | (simp only [i64_w, i32_w]; rw [c21b0]) | skip)
 simp only [Option.some.injEq, Prod.mk.injEq] at H
 obtain ⟨rfl, rfl, rfl, rfl, rfl⟩ := H
 go_wp2
 refine bodyPost_ret (results_ct rfl _ _ gb180 97 #[.int .i64 0, .int .i64 0, .int .i64 0, .int .i64 0] (0, 0) _ rfl xB Tryd.underlying97 rfl (by kernel_rfl)) rfl ?_
 exact ⟨y0_11, UpW.out⟩

end Go.Proofs.YtnpbopadajbopaaDoor.PFnExactSafeOf
