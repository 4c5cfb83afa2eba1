-- By a program of this session, out of the translation (the print of the kit, with turns of its own). Lean checks it.
import Derived.Test.YtnpbopadajbopaaPFnExactTableGetx0
import Derived.Test.YtnpbopadajbopaaPFnExactTableGetx1
import Derived.Test.YtnpbopadajbopaaPFnExactTableGetx2
namespace Go.Proofs.Ytnpbopadajbopaa.PFnExactTableGet
open Go.RowKit Go.Proofs.YtnpbopadajbopaaW.PrintWords Go.Proofs.YtnpbopadajbopaaW.PrintLast Go.Proofs.YtnpbopadajbopaaW.PrintMore
attribute [local go_sem] max2_int min2_int max_two min_two max_three min_three max_four min_four   -- for this text's walks alone
attribute [local go_sem] cell_in frozen_in
set_option synthInstance.maxSize 1000000
set_option synthInstance.maxHeartbeats 2000000
set_option linter.unusedVariables false
set_option linter.unusedSimpArgs false

/-! ### laws_markText: function 22 -/
def laws_markText.l0 : Nat → Int → ByteArray → Option (ByteArray)
 | 0, _, _ => none
 | k + 1, x0, x3 => if x0 > 0 then ((some (([(wrap64 (48 + (Int.tmod x0 10))) % 256] : List Int) : List Int)).bind fun y167 => (if (strOfNums y167).size + x3.size ≤ 9223372036854775807 then (laws_markText.l0 k (wrap64 (Int.tdiv x0 10)) ((strOfNums y167) ++ x3)) else (none))) else (if 1 + x3.size ≤ 9223372036854775807 then (some ((⟨#[109]⟩ : ByteArray) ++ x3)) else (none))
def laws_markText.f (k : Nat) (a0 : Int) : Option (ByteArray) := if a0 ≤ 0 then (some (⟨#[109, 48]⟩ : ByteArray)) else (laws_markText.l0 k a0 (⟨#[]⟩ : ByteArray))
theorem laws_markText.mono_l : ∀ k, (∀ y0 y1, LeO (laws_markText.l0 k y0 y1) (laws_markText.l0 (k + 1) y0 y1))
 | 0 => fun _ _ r h => by simp [laws_markText.l0] at h
 | k + 1 => by
  have ih0 := laws_markText.mono_l k
  intro y0 y1
  unfold laws_markText.l0
  repeat' first | (with_reducible exact ih0 _ _) | (with_reducible exact LeO.refl _) | (with_reducible exact LeO.none _) | (with_reducible refine LeO.ite ?_ ?_) | (with_reducible refine LeO.bind ?_ (fun _ => ?_))
theorem laws_markText.mono : ∀ a0 k, LeO (laws_markText.f k a0) (laws_markText.f (k + 1) a0) := by
 intro a0 k
 have ih0 := laws_markText.mono_l k
 unfold laws_markText.f
 repeat' first | (with_reducible exact ih0 _ _) | (with_reducible exact LeO.refl _) | (with_reducible exact LeO.none _) | (with_reducible refine LeO.ite ?_ ?_) | (with_reducible refine LeO.bind ?_ (fun _ => ?_))
set_option maxHeartbeats 8000000 in
set_option maxRecDepth 100000 in
theorem laws_markText.calls (k : Nat) (a0 : Int) (r : ByteArray) (w : World) (h : laws_markText.f k a0 = some r) :
  Calls Try.prog 22 #[.int .i64 a0] w fun e w' => e = .returned (.string r) ∧ Below w.heap.size w w' := by
 have HB := Aside0.mk (Below.refl w.heap.size w); have H := h; unfold laws_markText.f at H; clear h
 by_cases c2 : a0 ≤ 0
 ·
  rw [if_pos c2] at H
  have c2b0 : decide (a0 ≤ 0) = true := decide_eq_true c2; clear c2; obtain rfl := Option.some.inj H
  go_enter Try.func22, Try.ntmps22
  go_wp2
  go_ret
  exact ⟨y0_1, bI HB.out⟩
 rw [if_neg c2] at H
 have c2b0 : decide (a0 ≤ 0) = false := decide_eq_false c2; clear c2; have H' := Aside0.mk H; clear H
 go_enter Try.func22, Try.ntmps22
 go_wp2
 go_loopg [0, 3] k (fun kq v0 v3 w' => ∃ (x0_1 : Int) (x3_1 : ByteArray), v0 = .int .i64 x0_1 ∧ v3 = .string x3_1 ∧ Aside0 (laws_markText.l0 kq x0_1 x3_1 = some r) ∧ Aside0 (kq ≤ k) ∧ Aside0 (Below w.heap.size w w'))
 case atStart => exact ⟨(a0), ((⟨#[]⟩ : ByteArray)), y0_4, y0_4, H', ⟨Nat.le_refl _⟩, ⟨bI HB.out⟩⟩
 case round =>
  clear H'
  try clear c2
  try clear c2b0
  try clear p2
  obtain ⟨x0_1, x3_1, rfl, rfl, HA, HK1, HB⟩ := hrel; cases gk with
  | zero => exact absurd HA.out (by simp [laws_markText.l0])
  | succ k1 =>
   have H := HA.out; clear HA
   simp only [laws_markText.l0] at H
   by_cases c3 : x0_1 > 0
   ·
    rw [if_pos c3] at H
    have c3b0 : decide (0 < x0_1) = true := decide_eq_true c3; clear c3; obtain ⟨y167, hy167⟩ : ∃ y_ : List Int, y_ = (([(wrap64 (48 + (Int.tmod x0_1 10))) % 256] : List Int)) := ⟨_, rfl⟩
    replace H : (if (strOfNums y167).size + x3_1.size ≤ 9223372036854775807 then (laws_markText.l0 k1 (wrap64 (Int.tdiv x0_1 10)) ((strOfNums y167) ++ x3_1)) else (none)) = some r := by first | (rw [hy167]; with_reducible exact H) | (have H2_ := (Option.bind_some _ _).symm.trans H; rw [hy167]; with_reducible exact H2_) | (have H2_ := (Option.bind_some _ _).symm.trans H; with_reducible exact H2_) | with_reducible exact H | (rw [hy167]; exact H) | exact H
    have Ny167 := Aside0.mk hy167; clear hy167
    by_cases c4 : (strOfNums y167).size + x3_1.size ≤ 9223372036854775807
    rotate_left
    ·
     rw [if_neg c4] at H
     exact absurd H (by simp)
    rw [if_pos c4] at H
    have c4b0 := eq_true c4; have c4b1 : decide ((strOfNums y167).size + x3_1.size ≤ 9223372036854775807) = true := decide_eq_true c4
    try have c4b2 : (9223372036854775807 < (strOfNums y167).size + x3_1.size) = False := eq_false (Nat.not_lt.2 c4)
    have H' := Aside0.mk H; clear H
    go_wp2_with (first | ((with_reducible refine gate_dst (N := 12) rfl ?_); refine Kd.R_lit (Kd.int .u8) _ 5 ?hg (N := 12) ?hd (xs := ([(wrap64 (48 + (Int.tmod x0_1 10))) % 256] : List Int)) (inner := [.int .u8 ((wrap64 (48 + (Int.tmod x0_1 10))) % 256)]) (ok := fun _ => True) (okp := fun _ => True) ?hr ?hp (fun _ hk => hk) trivial (Below.refl _ _) (Nat.le_refl _) (by simp) ?_; (case hd => rfl); (case hg => rfl); (case hr => first | (go_simp; done) | (go_simp; rfl)); (case hp => exact (Reps.one (show Kd.M (Kd.int .u8) _ _ _ ((wrap64 (48 + (Int.tmod x0_1 10))) % 256) [.int .u8 ((wrap64 (48 + (Int.tmod x0_1 10))) % 256)] from rfl) (Reps.none _ _))); intro v168 w5 ho6 hb hg_ hnew_; clear hg_ hnew_; (first | rw [← Ny167.out] at ho6 | (simp only [Int.reduceToNat] at ho6; rw [← Ny167.out] at ho6)); have HO169 := Aside0.mk (Kd.R_lower ho6 (below_size (bI HB.out))); replace HB := bs HB hb; clear hb ho6; have hcv7 := own_string (P := Try.prog) Try.underlying45 Try.underlying5 Try.underlying9 (Kd.own_of_R HO169.out)))
    go_roundg k1
    case measure => have := HK1.out; omega
    case rel => exact ⟨(wrap64 (Int.tdiv x0_1 10)), ((strOfNums y167) ++ x3_1), y0_4, y0_4, H', ⟨y0_5⟩, ⟨bI HB.out⟩⟩
   rw [if_neg c3] at H
   have c3b0 : decide (0 < x0_1) = false := decide_eq_false c3; clear c3
   by_cases c8 : 1 + x3_1.size ≤ 9223372036854775807
   ·
    rw [if_pos c8] at H
    have c8b0 := eq_true c8; have c8b1 : decide (1 + x3_1.size ≤ 9223372036854775807) = true := decide_eq_true c8
    try have c8b2 : (9223372036854775807 < 1 + x3_1.size) = False := eq_false (Nat.not_lt.2 c8)
    obtain rfl := Option.some.inj H
    go_wp2
    go_ret
    exact ⟨y0_1, bI HB.out⟩
   rw [if_neg c8] at H
   exact absurd H (by simp)

/-! ### laws_markIntS: function 23 -/
def laws_markIntS.l0 : Nat → List Int → Int → Int → Option (Int × List Int)
 | 0, _, _, _ => none
 | k + 1, x0, x1, x5 => if x5 < (x0.length : Int) then (if 0 ≤ x5 then (laws_markIntS.l0 k (x0.set (x5 : Int).toNat x1) (wrap64 (x1 + 1)) (wrap64 (x5 + 1))) else (none)) else (some (x1, x0))
def laws_markIntS.f (k : Nat) (l0 : List Int) (a1 : Int) : Option (Int × List Int) := laws_markIntS.l0 k l0 a1 0
theorem laws_markIntS.mono_l : ∀ k, (∀ y0 y1 y2, LeO (laws_markIntS.l0 k y0 y1 y2) (laws_markIntS.l0 (k + 1) y0 y1 y2))
 | 0 => fun _ _ _ r h => by simp [laws_markIntS.l0] at h
 | k + 1 => by
  have ih0 := laws_markIntS.mono_l k
  intro y0 y1 y2
  unfold laws_markIntS.l0
  repeat' first | (with_reducible exact ih0 _ _ _) | (with_reducible exact LeO.refl _) | (with_reducible exact LeO.none _) | (with_reducible refine LeO.ite ?_ ?_) | (with_reducible refine LeO.bind ?_ (fun _ => ?_))
theorem laws_markIntS.mono : ∀ a0 a1 k, LeO (laws_markIntS.f k a0 a1) (laws_markIntS.f (k + 1) a0 a1) := by
 intro a0 a1 k
 have ih0 := laws_markIntS.mono_l k
 unfold laws_markIntS.f
 repeat' first | (with_reducible exact ih0 _ _ _) | (with_reducible exact LeO.refl _) | (with_reducible exact LeO.none _) | (with_reducible refine LeO.ite ?_ ?_) | (with_reducible refine LeO.bind ?_ (fun _ => ?_))
set_option maxHeartbeats 8000000 in
set_option maxRecDepth 100000 in
theorem laws_markIntS.calls (k : Nat) (P0_ : Nat → Prop) (u9000_ : Value) (l0 : List Int) (a1 : Int) (r1 : Int) (r2 : List Int) (w0 w : World) (hB : Below w0.heap.size w0 w) (ho0 : Kd.R (Kd.int .i64) 3 w w0.heap.size P0_ u9000_ l0) (h : laws_markIntS.f k l0 a1 = some (r1, r2)) :
  Calls Try.prog 23 #[u9000_, .int .i64 a1] w fun e w' => e = .returned (.int .i64 r1) ∧ Kd.R (Kd.int .i64) 3 w' w0.heap.size (fun k_ => (P0_ k_ ∨ w.heap.size ≤ k_)) u9000_ r2 ∧ Below w0.heap.size w0 w' ∧ Kept w w' (fun k_ => P0_ k_) := by
 have HO0 := Aside0.mk (show Kd.R (Kd.int .i64) 3 w w0.heap.size (fun k_ => (P0_ k_ ∨ w.heap.size ≤ k_)) u9000_ l0 from Kd.R_mono ho0 (fun k_ hk => (.inl hk)))
 have HK := Aside0.mk (Kept.refl w (fun k_ => P0_ k_))
 have HW0 := Aside0.mk hB.size; have HB := Aside0.mk hB; clear hB; have H := h; unfold laws_markIntS.f at H; clear h; have H' := Aside0.mk H; clear H
 go_enter Try.func23, Try.ntmps23
 go_wp2
 go_loopg [1, 5] k (fun kq v1 v5 w' => ∃ (x0_1 : List Int) (x1_1 : Int) (x5_1 : Int), v1 = .int .i64 x1_1 ∧ v5 = .int .i64 x5_1 ∧ Aside0 (laws_markIntS.l0 kq x0_1 x1_1 x5_1 = some (r1, r2)) ∧ Aside0 (kq ≤ k) ∧ Aside0 (Kd.R (Kd.int .i64) 3 w' w0.heap.size (fun k_ => (P0_ k_ ∨ w.heap.size ≤ k_)) u9000_ x0_1) ∧ Aside0 (Kept w w' (fun k_ => P0_ k_)) ∧ Aside0 (Below w0.heap.size w0 w'))
 case atStart => exact ⟨(l0), (a1), (0), y0_4, y0_4, H', ⟨Nat.le_refl _⟩, ⟨by (with_reducible repeat (first | apply Kd.R_alloc | apply Kd.R_drewN | apply Kd.R_drew)); exact HO0.out⟩, ⟨y0_0⟩, ⟨bI HB.out⟩⟩
 case round =>
  clear H'
  try clear c2
  try clear p2
  obtain ⟨x0_1, x1_1, x5_1, rfl, rfl, HA, HK1, HO_0, HK, HB⟩ := hrel; cases gk with
  | zero => exact absurd HA.out (by simp [laws_markIntS.l0])
  | succ k1 =>
   have H := HA.out; clear HA
   simp only [laws_markIntS.l0] at H
   by_cases c3 : x5_1 < (x0_1.length : Int)
   ·
    rw [if_pos c3] at H
    have c3b0 : decide (x5_1 < (x0_1.length : Int)) = true := decide_eq_true c3; clear c3
    by_cases c4 : 0 ≤ x5_1
    rotate_left
    ·
     rw [if_neg c4] at H
     exact absurd H (by simp)
    rw [if_pos c4] at H
    have c4b0 : decide (0 ≤ x5_1) = true := decide_eq_true c4; clear c4; obtain ⟨y170, hy170⟩ : ∃ y_ : List Int, y_ = (x0_1.set (x5_1 : Int).toNat x1_1) := ⟨_, rfl⟩
    replace H : (laws_markIntS.l0 k1 y170 (wrap64 (x1_1 + 1)) (wrap64 (x5_1 + 1))) = some (r1, r2) := by first | (rw [hy170]; with_reducible exact H) | (have H2_ := (Option.bind_some _ _).symm.trans H; rw [hy170]; with_reducible exact H2_) | (have H2_ := (Option.bind_some _ _).symm.trans H; with_reducible exact H2_) | with_reducible exact H | (rw [hy170]; exact H) | exact H
    have Ny170 := Aside0.mk hy170; clear hy170; have H' := Aside0.mk H; clear H; obtain ⟨Ao6, co6, eo6⟩ := Kd.R_slice HO_0.out; subst eo6; have p5 : 0 ≤ (x5_1 : Int) := of_decide_eq_true y0_3; have q5 : (x5_1 : Int) < ((x0_1.length : Int) : Int) := of_decide_eq_true y0_3
    obtain ⟨go5, co5, eo5, gb5, gl5, cl5, HG5⟩ := Kd.R_form HO_0.out (by omega)
    (first | cases eo5 | (injection eo5 with ea_ en_ ec_; (first | subst ea_ | (injection ea_ with ea_; subst ea_)); subst ec_; clear en_))
    have GB5 := Aside0.mk gb5; have GG5 := Aside0.mk HG5; clear gb5 gl5 HG5
    have HMgo5 := Aside0.mk (show (P0_ go5 ∨ w.heap.size ≤ go5) from (HO_0.out.1 _ rfl))
    obtain ⟨hx5_0, hf5_0⟩ := Kd.R_celln 0 HO_0.out (x5_1 : Int) p5 q5; replace p5 := eq_true p5; replace q5 := eq_true q5; have HP7 := Kd.R_putg HO_0.out (x5_1 : Int) x1_1
    go_wp2_with (first | ((with_reducible refine gate_store (t := 3) (p := 15) rfl ?_); refine store_event (t := 3) (p := 15) (v := ?vo_w8) (w1 := (wr.setCell ⟨go5, (x5_1 : Int).toNat, none⟩ (.int .i64 x1_1))) ?hg ?ho ?hn ?hr ?_; (case ho => rfl); (case hg => rfl); (case hn => rfl); (case hr => first | (go_simp; done) | (go_simp; rfl)); intro w8 hw; have hg : wr.grownBy w8 (some go5) := (by rw [hw]; exact HP7.2); have hp_ : Kd.R (Kd.int .i64) 3 w8 w0.heap.size (fun k_ => (P0_ k_ ∨ w.heap.size ≤ k_)) (.slice (some ⟨go5, 0, none⟩) x0_1.length co6) y170 := (by rw [hw, Ny170.out]; exact HP7.1); clear HP7; replace HB := Aside0.mk ((by rw [hw]; exact below_set (HB.out) GB5.out : Below w0.heap.size w0 w8)); replace HK := Aside0.mk (Kept.of_grown (S := (fun k_ => P0_ k_)) hg y0_0 (fun k_ e_ => (HO_0.out.1 k_ e_))); replace HO_0 := Aside0.mk (hp_); clear hg hw hp_))
    go_roundg k1
    case measure => have := HK1.out; omega
    case rel => exact ⟨(y170), (wrap64 (x1_1 + 1)), (wrap64 (x5_1 + 1)), y0_4, y0_4, H', ⟨y0_5⟩, ⟨by (with_reducible repeat (first | apply Kd.R_alloc | apply Kd.R_drewN | apply Kd.R_drew)); exact HO_0.out⟩, ⟨y0_0⟩, ⟨bI HB.out⟩⟩
   rw [if_neg c3] at H
   have c3b0 : decide (x5_1 < (x0_1.length : Int)) = false := decide_eq_false c3; clear c3
   simp only [Option.some.injEq, Prod.mk.injEq] at H
   obtain ⟨rfl, rfl⟩ := H; obtain ⟨Ao9, co9, eo9⟩ := Kd.R_slice HO_0.out; subst eo9
   go_wp2
   go_ret
   exact ⟨y0_1, by (with_reducible repeat (first | apply Kd.R_alloc | apply Kd.R_drewN | apply Kd.R_drew)); exact HO_0.out, bI HB.out, y0_0⟩

/-! ### laws_markPartS: function 11 -/
def laws_markPartS.l0 : Nat → List (S26) → Int → Int → Option (Int × List (S26))
 | 0, _, _, _ => none
 | k + 1, x0, x1, x5 => if x5 < (x0.length : Int) then (if 0 ≤ x5 then ((laws_markText.f k (wrap64 (x1 + 1))).bind fun bt1 => ((laws_markIntS.f k ((rd_T26 x0 x5).f2) (wrap64 (wrap64 (x1 + 1) + 1))).bind fun bt2 => (laws_markPartS.l0 k (x0.set (x5 : Int).toNat (⟨x1, bt1, bt2.2⟩ : S26)) bt2.1 (wrap64 (x5 + 1))))) else (none)) else (some (x1, x0))
def laws_markPartS.f (k : Nat) (l0 : List (S26)) (a1 : Int) : Option (Int × List (S26)) := laws_markPartS.l0 k l0 a1 0
theorem laws_markPartS.mono_l : ∀ k, (∀ y0 y1 y2, LeO (laws_markPartS.l0 k y0 y1 y2) (laws_markPartS.l0 (k + 1) y0 y1 y2))
 | 0 => fun _ _ _ r h => by simp [laws_markPartS.l0] at h
 | k + 1 => by
  have ih0 := laws_markPartS.mono_l k
  intro y0 y1 y2
  unfold laws_markPartS.l0
  repeat' first | (with_reducible exact ih0 _ _ _) | (with_reducible exact laws_markText.mono _ _) | (with_reducible exact laws_markIntS.mono _ _ _) | (with_reducible exact LeO.refl _) | (with_reducible exact LeO.none _) | (with_reducible refine LeO.ite ?_ ?_) | (with_reducible refine LeO.bind ?_ (fun _ => ?_))
theorem laws_markPartS.mono : ∀ a0 a1 k, LeO (laws_markPartS.f k a0 a1) (laws_markPartS.f (k + 1) a0 a1) := by
 intro a0 a1 k
 unfold laws_markPartS.f
 exact laws_markPartS.mono_l k _ _ _
set_option maxHeartbeats 8000000 in
set_option maxRecDepth 100000 in
theorem laws_markPartS.calls (k : Nat) (P0_ : Nat → Prop) (u9000_ : Value) (l0 : List (S26)) (a1 : Int) (r1 : Int) (r2 : List (S26)) (base : Nat) (w0 w : World) (hB : Below w0.heap.size w0 w) (ho0 : Kd.S k26 26 w base P0_ u9000_ l0) (h : laws_markPartS.f k l0 a1 = some (r1, r2)) (hb0 : w0.heap.size ≤ base := by exact SzI.out) :
  Calls Try.prog 11 #[u9000_, .int .i64 a1] w fun e w' => e = .returned (.int .i64 r1) ∧ Kd.S k26 26 w' base (fun k_ => P0_ k_) u9000_ r2 ∧ Below w0.heap.size w0 w' ∧ Kept w w' (fun k_ => P0_ k_) := by
 have hu26 := Try.underlying26; have HO0 := Aside0.mk ho0
 have HK := Aside0.mk (Kept.refl w (fun k_ => P0_ k_))
 have HB := Aside0.mk hB; have HB0 := Aside0.mk hb0
 have H' := Aside0.mk (show laws_markPartS.l0 k l0 a1 0 = some (r1, r2) from h)
 clear h hB ho0 hb0
 go_enter Try.func11, Try.ntmps11
 go_wp2
 go_loopg [1, 5] k (fun kq v1 v5 w' => ∃ (x0_1 : List (S26)) (x1_1 : Int) (x5_1 : Int), v1 = .int .i64 x1_1 ∧ v5 = .int .i64 x5_1 ∧ Aside0 (laws_markPartS.l0 kq x0_1 x1_1 x5_1 = some (r1, r2)) ∧ Aside0 (kq ≤ k) ∧ Aside0 (Kd.S k26 26 w' base P0_ u9000_ x0_1) ∧ Aside0 (Kept w w' (fun k_ => P0_ k_)) ∧ Aside0 (Below w0.heap.size w0 w'))
 case atStart => exact ⟨l0, a1, 0, by first | rfl | (simp; done), by first | rfl | (simp; done), H', ⟨Nat.le_refl _⟩, HO0, HK, HB⟩
 case round =>
  clear H' HO0 HK HB; obtain ⟨x0_1, x1_1, x5_1, rfl, rfl, HA, HK1, HO_0, HK, HB⟩ := hrel; cases gk with
  | zero => exact absurd HA.out (by simp [laws_markPartS.l0])
  | succ k1 =>
   have H := HA.out; clear HA
   simp only [laws_markPartS.l0] at H
   by_cases c3 : x5_1 < (x0_1.length : Int)
   ·
    rw [if_pos c3] at H
    by_cases c4 : 0 ≤ x5_1
    rotate_left
    ·
     rw [if_neg c4] at H
     exact absurd H (by simp)
    rw [if_pos c4] at H
    obtain ⟨t1, A1, H⟩ := oB H; (try dsimp only at H); obtain ⟨⟨t2, t3⟩, A2, H⟩ := oB H; (try dsimp only at H); have H' := Aside0.mk H; clear H; obtain ⟨Ao, co, eo⟩ := Kd.S_slice HO_0.out; subst eo
    obtain ⟨go, co5, eo5, gb5, gl5, cl5, HG5⟩ := Kd.S_form HO_0.out (by omega)
    (first | cases eo5 | (injection eo5 with ea_ en_ ec_; (first | subst ea_ | (injection ea_ with ea_; subst ea_)); subst ec_; clear en_))
    obtain ⟨oki, ce, hcl, hM, hcc, hfr, hoki, hH⟩ := Kd.S_elem HO_0.out z26 (x5_1 : Int) c4 c3; obtain ⟨ve2, rfl, ge2⟩ := k26_openM hM; obtain ⟨Av, cv, ev⟩ := Kd.R_slice ge2; subst ev; have hx0 : wr.cell? ⟨go, (x5_1 : Int).toNat * 3, none⟩ = some (.int .i64 ((rd_T26 x0_1 x5_1).f0)) := hcc 0 _ rfl; have hf0 : wr.frozen? ⟨go, (x5_1 : Int).toNat * 3, none⟩ = false := hfr 0; have hin : go < wr.heap.size := gl5
    have HP1 := Kd.H_seg hH c4 c3 (seg := [.int .i64 x1_1]) (j := 0) (show 0 + 1 ≤ 3 by decide) (by intro q hq; rw [List.mem_singleton.1 hq]; rfl)
    have HOK := Aside0.mk (fun k_ (e_ : (Value.slice (some ⟨go, 0, none⟩) x0_1.length co).ownBlock = some k_) => (Kd.S_R HO_0.out).1 k_ e_)
    have HI := Aside0.mk hoki; have HG := Aside0.mk ge2; have HP := Aside0.mk HP1; have GB := Aside0.mk (Nat.le_trans HB0.out gb5); have HC := Aside0.mk HG5; have p5 : 0 ≤ x5_1 := c4; have q5 : x5_1 < (x0_1.length : Int) := c3; have c3b0 : decide (x5_1 < (x0_1.length : Int)) = true := decide_eq_true c3; have c4b0 : decide (0 ≤ x5_1) = true := decide_eq_true c4; clear hcl hM hcc hfr hoki hH ge2 HP1 hin gl5 gb5 HG5; replace p5 := eq_true p5; replace q5 := eq_true q5
    go_wp2_with (first | ((with_reducible refine gate_store (t := 3) (p := 16) rfl ?_); refine store_event (t := 3) (p := 16) (v := ?vo1) (w1 := (wr.setCell ⟨go, (x5_1 : Int).toNat * 3, none⟩ (.int .i64 x1_1))) ?hg ?ho ?hn ?hr ?_; (case ho => rfl); (case hg => rfl); (case hn => rfl); (case hr => first | (go_simp; done) | (go_simp; rfl)); intro w1 hw; have hg : wr.grownBy w1 (some go) := (by rw [hw]; exact HP.out.2); have hH1 : Kd.H k26 26 w1 base P0_ (.slice (some ⟨go, 0, none⟩) x0_1.length co) x0_1 x5_1 oki [.int .i64 x1_1, .string ((rd_T26 x0_1 x5_1).f1), .slice Av ((rd_T26 x0_1 x5_1).f2).length cv] := (by rw [hw]; exact HP.out.1); have hc1 := blk_set HC.out ((x5_1 : Int).toNat * 3) (.int .i64 x1_1); rw [← hw] at hc1; have hb1 : Below w0.heap.size w0 w1 := (by rw [hw]; exact below_set HB.out GB.out); have hk1 := Kept.of_grown (S := (fun k_ => P0_ k_)) hg HK.out (fun k_ e_ => .inl (HOK.out k_ (by rw [← e_]; rfl))); have hg1 := Kd.R_grown HG.out hg (fun k_ hk_ e_ => (HI.out k_ hk_).2 (by injection e_)); clear hw hx0 hf0 HP HC HB HK HG hg; have HH := Aside0.mk hH1; have HC := Aside0.mk hc1; have HB := Aside0.mk hb1; have HK := Aside0.mk hk1; have HG := Aside0.mk hg1; clear hH1 hc1 hb1 hk1 hg1) | ((with_reducible refine gate_callee (f := 22) rfl ?_); refine gB (some 22) Try.func22 #[.int .i64 (wrap64 (x1_1 + 1))] ?_; (with_reducible refine (laws_markText.calls k1 (wrap64 (x1_1 + 1)) t1 _ A1.out).mono ?_); rintro e w2 ⟨rfl, hb⟩; refine ⟨_, rfl, ?_⟩; have hH2 := Kd.H_below HH.out hb; have hc2 := blk_below HC.out hb; have hb2 := below_step HB.out hb; have hk2 := Kept.below HK.out hb; have hg2 := Kd.R_below HG.out hb; obtain ⟨_, _, _, _, _, hcc2, _⟩ := Kd.H_raw hH2 c4 c3; have hx1 : w2.cell? ⟨go, (x5_1 : Int).toNat * 3 + 1, none⟩ = some (.string ((rd_T26 x0_1 x5_1).f1)) := hcc2 1 _ rfl; have hf1 : w2.frozen? ⟨go, (x5_1 : Int).toNat * 3 + 1, none⟩ = false := blk_frozen hc2 _; have HP1 := Kd.H_seg hH2 c4 c3 (seg := [.string t1]) (j := 1) (show 1 + 1 ≤ 3 by decide) (by intro q hq; rw [List.mem_singleton.1 hq]; rfl); clear HH HC HB HK HG hb hcc2; have HP := Aside0.mk HP1; have HC := Aside0.mk hc2; have HB := Aside0.mk hb2; have HK := Aside0.mk hk2; have HG := Aside0.mk hg2; clear hH2 hc2 hb2 hk2 hg2 HP1) | ((with_reducible refine gate_store (t := 9) (p := 24) rfl ?_); refine store_event (t := 9) (p := 24) (v := ?vo2) (w1 := (w2.setCell ⟨go, (x5_1 : Int).toNat * 3 + 1, none⟩ (.string t1))) ?hg ?ho ?hn ?hr ?_; (case ho => rfl); (case hg => rfl); (case hn => rfl); (case hr => first | (go_simp; done) | (go_simp; rfl)); intro w3 hw; have hg : w2.grownBy w3 (some go) := (by rw [hw]; exact HP.out.2); have hH3 : Kd.H k26 26 w3 base P0_ (.slice (some ⟨go, 0, none⟩) x0_1.length co) x0_1 x5_1 oki [.int .i64 x1_1, .string t1, .slice Av ((rd_T26 x0_1 x5_1).f2).length cv] := (by rw [hw]; exact HP.out.1); have hb3 : Below w0.heap.size w0 w3 := (by rw [hw]; exact below_set HB.out GB.out); have hk3 := Kept.of_grown (S := (fun k_ => P0_ k_)) hg HK.out (fun k_ e_ => .inl (HOK.out k_ (by rw [← e_]; rfl))); have hg3 := Kd.R_grown HG.out hg (fun k_ hk_ e_ => (HI.out k_ hk_).2 (by injection e_)); obtain ⟨_, _, _, _, _, hcc3, _⟩ := Kd.H_raw hH3 c4 c3; have hx2 : w3.cell? ⟨go, (x5_1 : Int).toNat * 3 + 2, none⟩ = some (.slice Av ((rd_T26 x0_1 x5_1).f2).length cv) := hcc3 2 _ rfl; clear hw hx1 hf1 HP HC HB HK HG hg hcc3; have HH := Aside0.mk hH3; have HB := Aside0.mk hb3; have HK := Aside0.mk hk3; have HG := Aside0.mk hg3; clear hH3 hb3 hk3 hg3) | ((with_reducible refine gate_callee (f := 23) rfl ?_); refine gB (some 33) Try.func23 #[.slice Av ((rd_T26 x0_1 x5_1).f2).length cv, .int .i64 (wrap64 (wrap64 (x1_1 + 1) + 1))] ?_; (with_reducible refine (laws_markIntS.calls k1 oki (.slice Av ((rd_T26 x0_1 x5_1).f2).length cv) ((rd_T26 x0_1 x5_1).f2) (wrap64 (wrap64 (x1_1 + 1) + 1)) t2 t3 w0 _ HB.out (Kd.R_lower HG.out HB0.out) A2.out).mono ?_); rintro e w4 ⟨rfl, hy, hb, hkp⟩; refine ⟨_, rfl, ?_⟩; have hH4 := Kd.H_kept HH.out hkp (fun _ _ hn => hn); have hg4 := Kd.R_raise (d := Kd.int .i64) (b := w0.heap.size) (b' := base) (fun _ _ _ _ h_ => h_) (Kd.R_reok rfl hy (fun k_ e_ => HG.out.1 k_ e_)) (fun k_ e_ => Kd.R_base HG.out k_ e_); have hS := Kd.H_back hH4 (k26_mkM _ _ _ (⟨x1_1, t1, t3⟩ : S26) hg4) (fun _ h_ => h_); have hk4 := Kept.then_ HK.out hkp (fun k_ hk_ => .inl (HI.out k_ hk_).1); clear HH HG HB HK hx2 hkp hy hH4 hg4; have HO_1 := Aside0.mk hS; have HK := Aside0.mk hk4; have HB := Aside0.mk hb; clear hS hk4 hb))
    go_roundg k1
    case measure => have := HK1.out; omega
    case rel => exact ⟨_, t2, wrap64 (x5_1 + 1), by first | rfl | (simp; done), by first | rfl | (simp; done), H', ⟨y0_5⟩, HO_1, HK, HB⟩
   rw [if_neg c3] at H
   have c3b0 : decide (x5_1 < (x0_1.length : Int)) = false := decide_eq_false c3; clear c3
   simp only [Option.some.injEq, Prod.mk.injEq] at H
   obtain ⟨rfl, rfl⟩ := H; obtain ⟨Ao, co, eo⟩ := Kd.S_slice HO_0.out; subst eo
   go_wp2
   go_ret
   exact ⟨by first | rfl | (simp; done), HO_0.out, HB.out, HK.out⟩

/-! ### laws_markPart: function 12 -/
def laws_markPart.f (k : Nat) (a0_0 : Int) (a0_1 : ByteArray) (l0_2 : List Int) (a1 : Int) : Option (Int × List Int) := (laws_markIntS.f k l0_2 a1).bind fun bt172 => (some (bt172.1, bt172.2))
theorem laws_markPart.mono : ∀ a0 a1 a2 a3 k, LeO (laws_markPart.f k a0 a1 a2 a3) (laws_markPart.f (k + 1) a0 a1 a2 a3) := by
 intro a0 a1 a2 a3 k
 unfold laws_markPart.f
 repeat' first | (with_reducible exact laws_markIntS.mono _ _ _) | (with_reducible exact LeO.refl _) | (with_reducible exact LeO.none _) | (with_reducible refine LeO.ite ?_ ?_) | (with_reducible refine LeO.bind ?_ (fun _ => ?_))
set_option maxHeartbeats 8000000 in
set_option maxRecDepth 100000 in
theorem laws_markPart.calls (k : Nat) (a0_0 : Int) (a0_1 : ByteArray) (P0_2_ : Nat → Prop) (u9000_ : Value) (l0_2 : List Int) (a1 : Int) (r1 : Int) (r2 : List Int) (w0 w : World) (hB : Below w0.heap.size w0 w) (ho0_2 : Kd.R (Kd.int .i64) 3 w w0.heap.size P0_2_ u9000_ l0_2) (h : laws_markPart.f k a0_0 a0_1 l0_2 a1 = some (r1, r2)) :
  Calls Try.prog 12 #[.agg #[.int .i64 a0_0, .string a0_1, u9000_], .int .i64 a1] w fun e w' => e = .returned (.int .i64 r1) ∧ Kd.R (Kd.int .i64) 3 w' w0.heap.size (fun k_ => (P0_2_ k_ ∨ w.heap.size ≤ k_)) u9000_ r2 ∧ Below w0.heap.size w0 w' ∧ Kept w w' (fun k_ => P0_2_ k_) := by
 have hu26 := Try.underlying26
 have HO0_2 := Aside0.mk (show Kd.R (Kd.int .i64) 3 w w0.heap.size (fun k_ => (P0_2_ k_ ∨ w.heap.size ≤ k_)) u9000_ l0_2 from Kd.R_mono ho0_2 (fun k_ hk => (.inl hk)))
 have HK := Aside0.mk (Kept.refl w (fun k_ => P0_2_ k_))
 have HW0 := Aside0.mk hB.size; have HB := Aside0.mk hB; clear hB
 have H := h; unfold laws_markPart.f at H
 clear h; obtain ⟨⟨t172, t173⟩, A3, H⟩ := oB H; (try dsimp only at H)
 simp only [Option.some.injEq, Prod.mk.injEq] at H
 obtain ⟨rfl, rfl⟩ := H; obtain ⟨Ao4, co4, eo4⟩ := Kd.R_slice HO0_2.out; subst eo4
 go_enter Try.func12, Try.ntmps12
 go_wp2_with (first | ((with_reducible refine gd 2 ?_); refine bA 2 #[.int .i64 a0_0, .string a0_1, .slice Ao4 l0_2.length co4] 26 ?_; intro gb171 hg w5 hbox hb; replace HO0_2 := rb HO0_2 hb; have BK171 := Aside0.mk (hbox); have GW171 := Aside0.mk ((by rw [hg]; exact (by first | exact HK.out.1 | exact (show Kept w _ (fun k_ => P0_2_ k_) from y0_0).1) : w.heap.size ≤ gb171)); have GJ171 := gi GW171; replace HK := Aside0.mk (Kept.below (S := (fun k_ => P0_2_ k_)) y0_0 hb); have GE171 := bg hg HB; have GI171 := gi GE171; replace HB := bs HB hb; clear hb hbox hg; obtain ⟨hcz6_0, hcz6_1, hcz6_2, hfz6_0, hfz6_1, hfz6_2⟩ := cs3 BK171) | ((with_reducible refine gate_callee (f := 23) rfl ?_); refine gB (some 8) Try.func23 #[.slice Ao4 l0_2.length co4, .int .i64 a1] ?_; (with_reducible refine (laws_markIntS.calls k (fun k_ => some k_ = (.slice Ao4 l0_2.length co4 : Value).ownBlock) (.slice Ao4 l0_2.length co4) l0_2 a1 t172 t173 w0 _ ?side1 ?side2 A3.out).mono ?_); (case side1 => exact bI HB.out); (case side2 => exact Kd.R_tight rfl HO0_2.out); rintro e w7 ⟨rfl, hy0, hb, hkp⟩; refine ⟨_, rfl, ?_⟩; replace BK171 := Aside0.mk (blk_kept (kI BK171.out) hkp (fun hs_ => (fun e_ => (Kd.R_ne HO0_2.out BK171.out (by decide)) e_) hs_)); replace HK := Aside0.mk (Kept.then_ (S := (fun k_ => P0_2_ k_)) (by repeat (first | (with_reducible first | exact HK.out | apply Kept.alloc | apply Kept.drewN | apply Kept.drew | refine Kept.setCell ?_ (.inr GW171.out) _) | exact HK.out)) hkp (fun k_ hs_ => (fun e_ => (HO0_2.out.1 k_ e_.symm)) hs_)); replace HO0_2 := Aside0.mk (Kd.R_reok rfl hy0 (fun k_ e_ => HO0_2.out.1 k_ e_)); replace HB := Aside0.mk (hb); (try clear hb); (try clear hkp); (try clear hy0)))
 go_ret
 exact ⟨y0_1, by (with_reducible repeat (first | apply Kd.R_alloc | apply Kd.R_drewN | apply Kd.R_drew)); exact HO0_2.out, bI HB.out, by repeat (first | (with_reducible first | exact HK.out | apply Kept.alloc | apply Kept.drewN | apply Kept.drew | refine Kept.setCell ?_ (.inr GW171.out) _) | exact HK.out)⟩

/-! ### laws_heldIntS: function 24 -/
def laws_heldIntS.l0 : Nat → List Int → Int → Int → Option (Int)
 | 0, _, _, _ => none
 | k + 1, x0, x1, x5 => if x5 < (x0.length : Int) then (if 0 ≤ x5 then (if (rd x0 x5) = x1 then (laws_heldIntS.l0 k x0 (wrap64 (x1 + 1)) (wrap64 (x5 + 1))) else (some (-1))) else (none)) else (some x1)
def laws_heldIntS.f (k : Nat) (l0 : List Int) (a1 : Int) : Option (Int) := laws_heldIntS.l0 k l0 a1 0
theorem laws_heldIntS.mono_l : ∀ k, (∀ y0 y1 y2, LeO (laws_heldIntS.l0 k y0 y1 y2) (laws_heldIntS.l0 (k + 1) y0 y1 y2))
 | 0 => fun _ _ _ r h => by simp [laws_heldIntS.l0] at h
 | k + 1 => by
  have ih0 := laws_heldIntS.mono_l k
  intro y0 y1 y2
  unfold laws_heldIntS.l0
  repeat' first | (with_reducible exact ih0 _ _ _) | (with_reducible exact LeO.refl _) | (with_reducible exact LeO.none _) | (with_reducible refine LeO.ite ?_ ?_) | (with_reducible refine LeO.bind ?_ (fun _ => ?_))
theorem laws_heldIntS.mono : ∀ a0 a1 k, LeO (laws_heldIntS.f k a0 a1) (laws_heldIntS.f (k + 1) a0 a1) := by
 intro a0 a1 k
 have ih0 := laws_heldIntS.mono_l k
 unfold laws_heldIntS.f
 repeat' first | (with_reducible exact ih0 _ _ _) | (with_reducible exact LeO.refl _) | (with_reducible exact LeO.none _) | (with_reducible refine LeO.ite ?_ ?_) | (with_reducible refine LeO.bind ?_ (fun _ => ?_))
set_option maxHeartbeats 8000000 in
set_option maxRecDepth 100000 in
theorem laws_heldIntS.calls (k : Nat) (A0 : Option Addr) (c0 : Nat) (l0 : List Int) (a1 : Int) (r : Int) (w : World) (hr0 : Kd.C (Kd.int .i64) w A0 l0.length l0) (hc0 : l0.length ≤ c0) (h : laws_heldIntS.f k l0 a1 = some r) :
  Calls Try.prog 24 #[.slice A0 l0.length c0, .int .i64 a1] w fun e w' => e = .returned (.int .i64 r) ∧ Drawn0 w w' := by
 have HR0 := Aside0.mk hr0; have HC0 := Aside0.mk hc0; clear hr0 hc0; have H := h; unfold laws_heldIntS.f at H; clear h; have H' := Aside0.mk H; clear H
 go_enter Try.func24, Try.ntmps24
 go_wp2
 go_loopg [1, 5] k (fun kq v1 v5 w' => ∃ (x1_1 : Int) (x5_1 : Int), v1 = .int .i64 x1_1 ∧ v5 = .int .i64 x5_1 ∧ Aside0 (laws_heldIntS.l0 kq l0 x1_1 x5_1 = some r) ∧ Aside0 (kq ≤ k) ∧ Drawn0 w w')
 case atStart => exact ⟨(a1), (0), y0_4, y0_4, H', ⟨Nat.le_refl _⟩, y0_2⟩
 case round =>
  clear H'
  try clear c2
  try clear p2
  obtain ⟨x1_1, x5_1, rfl, rfl, HA, HK1, ⟨m1, rfl⟩⟩ := hrel; cases gk with
  | zero => exact absurd HA.out (by simp [laws_heldIntS.l0])
  | succ k1 =>
   have H := HA.out; clear HA
   simp only [laws_heldIntS.l0] at H
   by_cases c3 : x5_1 < (l0.length : Int)
   ·
    rw [if_pos c3] at H
    have c3b0 : decide (x5_1 < (l0.length : Int)) = true := decide_eq_true c3; clear c3
    by_cases c4 : 0 ≤ x5_1
    rotate_left
    ·
     rw [if_neg c4] at H
     exact absurd H (by simp)
    rw [if_pos c4] at H
    have c4b0 : decide (0 ≤ x5_1) = true := decide_eq_true c4; clear c4
    by_cases c5 : (rd l0 x5_1) = x1_1
    ·
     rw [if_pos c5] at H
     have c5b0 : ((rd l0 x5_1) == x1_1) = true := beq_iff_eq.mpr c5; have c5b1 : ((rd l0 x5_1) != x1_1) = false := bne_eq_false_iff_eq.mpr c5; clear c5; have H' := Aside0.mk H; clear H; have p174 : 0 ≤ (x5_1 : Int) := of_decide_eq_true y0_3; have q174 : x5_1 < (l0.length : Int) := of_decide_eq_true y0_3; obtain ⟨ad174, e174, hx174_0⟩ := Kd.at_int HR0.out x5_1 p174 q174; cases e174; replace p174 := eq_true p174; replace q174 := eq_true q174
     go_wp2
     go_roundg k1
     case measure => have := HK1.out; omega
     case rel => exact ⟨(wrap64 (x1_1 + 1)), (wrap64 (x5_1 + 1)), y0_4, y0_4, H', ⟨y0_5⟩, y0_2⟩
    rw [if_neg c5] at H
    have c5b0 : ((rd l0 x5_1) == x1_1) = false := beq_eq_false_iff_ne.mpr c5; have c5b1 : ((rd l0 x5_1) != x1_1) = true := bne_iff_ne.mpr c5; obtain rfl := Option.some.inj H; have p174 : 0 ≤ (x5_1 : Int) := of_decide_eq_true y0_3; have q174 : x5_1 < (l0.length : Int) := of_decide_eq_true y0_3; obtain ⟨ad174, e174, hx174_0⟩ := Kd.at_int HR0.out x5_1 p174 q174; cases e174; replace p174 := eq_true p174; replace q174 := eq_true q174
    go_wp2
    go_ret
    exact ⟨y0_4, y0_2⟩
   rw [if_neg c3] at H
   have c3b0 : decide (x5_1 < (l0.length : Int)) = false := decide_eq_false c3; clear c3; obtain rfl := Option.some.inj H
   go_wp2
   go_ret
   exact ⟨y0_4, y0_2⟩

/-! ### laws_heldPart: function 13 -/
def laws_heldPart.f (k : Nat) (a0_0 : Int) (a0_1 : ByteArray) (l0_2 : List Int) (a1 : Int) : Option (Int) := (laws_heldIntS.f k l0_2 a1).bind fun t176 => (if t176 < 0 then (some (-1)) else (some t176))
theorem laws_heldPart.mono : ∀ a0 a1 a2 a3 k, LeO (laws_heldPart.f k a0 a1 a2 a3) (laws_heldPart.f (k + 1) a0 a1 a2 a3) := by
 intro a0 a1 a2 a3 k
 unfold laws_heldPart.f
 repeat' first | (with_reducible exact laws_heldIntS.mono _ _ _) | (with_reducible exact LeO.refl _) | (with_reducible exact LeO.none _) | (with_reducible refine LeO.ite ?_ ?_) | (with_reducible refine LeO.bind ?_ (fun _ => ?_))
set_option maxHeartbeats 8000000 in
set_option maxRecDepth 100000 in
theorem laws_heldPart.calls (k : Nat) (a0_0 : Int) (a0_1 : ByteArray) (A0_2 : Option Addr) (c0_2 : Nat) (l0_2 : List Int) (a1 : Int) (r : Int) (w : World) (hr0_2 : Kd.C (Kd.int .i64) w A0_2 l0_2.length l0_2) (hc0_2 : l0_2.length ≤ c0_2) (h : laws_heldPart.f k a0_0 a0_1 l0_2 a1 = some r) :
  Calls Try.prog 13 #[.agg #[.int .i64 a0_0, .string a0_1, .slice A0_2 l0_2.length c0_2], .int .i64 a1] w fun e w' => e = .returned (.int .i64 r) ∧ Below w.heap.size w w' := by
 have hu26 := Try.underlying26; have HR0_2 := Aside0.mk hr0_2; have HC0_2 := Aside0.mk hc0_2; clear hr0_2 hc0_2; have HB := Aside0.mk (Below.refl w.heap.size w)
 have H := h; unfold laws_heldPart.f at H
 clear h; obtain ⟨t176, A3, H⟩ := oB H; (try dsimp only at H)
 go_enter Try.func13, Try.ntmps13
 have H' := Aside0.mk H; clear H
 go_upto_if 10 with (first | ((with_reducible refine gd 2 ?_); refine bL 2 #[.int .i64 a0_0, .string a0_1, .slice A0_2 l0_2.length c0_2] 26 ?_; intro gb175 w4 _ _ _) | ((with_reducible refine gate_callee (f := 24) rfl ?_); refine gD (some 8) Try.func24 (laws_heldIntS.calls (hr0 := pC HR0_2) (hc0 := HC0_2.out) (w := _) (h := A3.out)) ?_; intro w5 _))
 have H := H'.out; clear H'
 by_cases c6 : t176 < 0
 ·
  rw [if_pos c6] at H
  have c6b0 : decide (t176 < 0) = true := decide_eq_true c6; clear c6
  (first | rw [c6b0] | (simp only [i64_w, i32_w]; rw [c6b0]) | skip)
  obtain rfl := Option.some.inj H
  go_wp2
  go_ret
  exact ⟨y0_4, UpW.out⟩
 rw [if_neg c6] at H
 have c6b0 : decide (t176 < 0) = false := decide_eq_false c6; clear c6
 (first | rw [c6b0] | (simp only [i64_w, i32_w]; rw [c6b0]) | skip)
 obtain rfl := Option.some.inj H
 go_wp2
 go_ret
 exact ⟨y0_4, UpW.out⟩

/-! ### laws_FnExactTableGet: function 3 -/
def laws_FnExactTableGet.f (k : Nat) (l0 : List (S38)) (a1 : Int) (a2 : ByteArray) : Option (Bool) := if (a2.size : Int) > 1048576 then (some true) else ((laws_szPartS.f k l0 1048576).bind fun t177 => (if t177 < 0 then (some true) else ((laws_toPartS.f k l0).bind fun t178 => ((spec_TableGet.f k t178 a1 a2).bind fun bt181 => ((laws_toPartS.f k l0).bind fun t187 => ((impl_TableGet.f k t187 a1 a2).bind fun bt190 => ((laws_eqPart.f k bt190.1 bt190.2.1 bt190.2.2 bt181.1 bt181.2.1 bt181.2.2).bind fun t196 => (if t196 = true then ((laws_toPartS.f k l0).bind fun t197 => ((laws_eqPartS.f k t187 t197).bind fun t200 => (if t200 = true then ((laws_markPartS.f k t187 1).bind fun bt201 => (if bt201.1 < 0 then (some false) else ((laws_eqPart.f k bt190.1 bt190.2.1 bt190.2.2 bt181.1 bt181.2.1 bt181.2.2).bind fun t203 => (if t203 = true then ((laws_markPart.f k bt190.1 bt190.2.1 bt190.2.2 1).bind fun bt204 => ((laws_heldPart.f k bt190.1 bt190.2.1 bt204.2 1).bind fun t206 => (if t206 < 0 then (some false) else (if t206 = bt204.1 then ((laws_toPartS.f k l0).bind fun t207 => ((impl_TableGet.f k t207 a1 a2).bind fun bt210 => ((laws_eqPart.f k bt210.1 bt210.2.1 bt210.2.2 bt181.1 bt181.2.1 bt181.2.2).bind fun t216 => (if t216 = true then ((laws_heldPart.f k bt190.1 bt190.2.1 bt204.2 1).bind fun t217 => (if t217 < 0 then (some false) else (if t217 = bt204.1 then (some true) else (some false)))) else (some false))))) else (some false))))) else (some false))))) else (some false)))) else (some false)))))))))
theorem laws_FnExactTableGet.mono : ∀ a0 a1 a2 k, LeO (laws_FnExactTableGet.f k a0 a1 a2) (laws_FnExactTableGet.f (k + 1) a0 a1 a2) := by
 intro a0 a1 a2 k
 unfold laws_FnExactTableGet.f
 repeat' first | (with_reducible exact impl_TableGet.mono _ _ _ _) | (with_reducible exact laws_eqPart.mono _ _ _ _ _ _ _) | (with_reducible exact laws_eqPartS.mono _ _ _) | (with_reducible exact laws_heldPart.mono _ _ _ _ _) | (with_reducible exact laws_markPart.mono _ _ _ _ _) | (with_reducible exact laws_markPartS.mono _ _ _) | (with_reducible exact laws_szPartS.mono _ _ _) | (with_reducible exact laws_toPartS.mono _ _) | (with_reducible exact spec_TableGet.mono _ _ _ _) | (with_reducible exact LeO.refl _) | (with_reducible exact LeO.none _) | (with_reducible refine LeO.ite ?_ ?_) | (with_reducible refine LeO.bind ?_ (fun _ => ?_))
set_option maxHeartbeats 8000000 in
set_option maxRecDepth 100000 in
theorem laws_FnExactTableGet.calls (k : Nat) (A0 : Option Addr) (c0 : Nat) (l0 : List (S38)) (a1 : Int) (a2 : ByteArray) (r : Bool) (hrt : Aside0 (r = true)) (w : World) (hr0 : Kd.C k38 w A0 l0.length l0) (hc0 : l0.length ≤ c0) (h : laws_FnExactTableGet.f k l0 a1 a2 = some r) :
  Calls Try.prog 3 #[.slice A0 l0.length c0, .int .i64 a1, .string a2] w fun e w' => e = .returned (.bool r) ∧ Below w.heap.size w w' := by
 have hu26 := Try.underlying26; have HR0 := Aside0.mk hr0; have HC0 := Aside0.mk hc0; clear hr0 hc0; have HB := Aside0.mk (Below.refl w.heap.size w)
 have H := h; unfold laws_FnExactTableGet.f at H
 clear h
 go_enter Try.func3, Try.ntmps3
 have H' := Aside0.mk H; clear H
 go_upto_if 17 with fail
 have H := H'.out; clear H'
 by_cases c4 : (a2.size : Int) > 1048576
 ·
  rw [if_pos c4] at H
  have c4b0 : decide (1048576 < (a2.size : Int)) = true := decide_eq_true c4
  have c4b1 : decide (1048576 < a2.size) = true := decide_eq_true (by omega)
  clear c4
  (first | rw [c4b0] | (simp only [i64_w, i32_w]; rw [c4b0]) | skip)
  obtain rfl := Option.some.inj H
  go_wp2
  go_ret
  exact ⟨y0_4, UpW.out⟩
 rw [if_neg c4] at H
 have c4b0 : decide (1048576 < (a2.size : Int)) = false := decide_eq_false c4
 have c4b1 : decide (1048576 < a2.size) = false := decide_eq_false (by omega)
 clear c4
 (first | rw [c4b0] | (simp only [i64_w, i32_w]; rw [c4b0]) | skip)
 obtain ⟨t177, A5, H⟩ := oB H; (try dsimp only at H); have H' := Aside0.mk H; clear H
 go_upto_if 22 with (first | ((with_reducible refine gate_callee (f := 5) rfl ?_); refine gC (some 20) Try.func5 (laws_szPartS.calls (hr0 := pC HR0) (hc0 := HC0.out) (w := _) (h := A5.out)) ?_; intro w6 _))
 have H := H'.out; clear H'
 by_cases c7 : t177 < 0
 ·
  rw [if_pos c7] at H
  have c7b0 : decide (t177 < 0) = true := decide_eq_true c7; clear c7
  (first | rw [c7b0] | (simp only [i64_w, i32_w]; rw [c7b0]) | skip)
  obtain rfl := Option.some.inj H
  go_wp2
  go_ret
  exact ⟨y0_4, UpW.out⟩
 rw [if_neg c7] at H
 have c7b0 : decide (t177 < 0) = false := decide_eq_false c7; clear c7
 (first | rw [c7b0] | (simp only [i64_w, i32_w]; rw [c7b0]) | skip)
 obtain ⟨t178, A8, H⟩ := oB H; (try dsimp only at H); obtain ⟨⟨t181, t182, t183⟩, A9, H⟩ := oB H; (try dsimp only at H); obtain ⟨t187, A10, H⟩ := oB H; (try dsimp only at H); obtain ⟨⟨t190, t191, t192⟩, A11, H⟩ := oB H; (try dsimp only at H); obtain ⟨t196, A12, H⟩ := oB H; (try dsimp only at H); have H' := Aside0.mk H; clear H
 go_upto_if 37 with (first | ((with_reducible refine gate_callee (f := 7) rfl ?_); refine gS1 (some 24) Try.func7 (laws_toPartS.calls (hr0 := pC HR0) (hc0 := HC0.out) (w := _) (h := A8.out)) ?_; intro Ao179 co179 w13 _ HO180) | ((with_reducible refine gate_callee (f := 6) rfl ?_); refine gC1 (some 27) Try.func6 (spec_TableGet.calls (hr0 := sC HO180) (hc0 := sL HO180) (w := _) (h := A9.out)) ?_; intro Ao184 co184 w14 _ HO185) | ((with_reducible refine gd 8 ?_); refine bL 8 #[.int .i64 0, .string (⟨#[]⟩ : ByteArray), .slice none 0 0] 26 ?_; intro gb186 w15 _ _ _) | ((with_reducible refine gate_callee (f := 7) rfl ?_); refine gS1 (some 29) Try.func7 (laws_toPartS.calls (hr0 := pC HR0) (hc0 := HC0.out) (w := _) (h := A10.out)) ?_; intro Ao188 co188 w16 _ HO189) | ((with_reducible refine gate_callee (f := 8) rfl ?_); refine gC1 (some 33) Try.func8 (impl_TableGet.calls (hr0 := sC HO189) (hc0 := sL HO189) (w := _) (h := A11.out)) ?_; intro Ao193 co193 w17 _ HO194) | ((with_reducible refine gd 10 ?_); refine bL 10 #[.int .i64 0, .string (⟨#[]⟩ : ByteArray), .slice none 0 0] 26 ?_; intro gb195 w18 _ _ _) | ((with_reducible refine gate_callee (f := 9) rfl ?_); refine gC (some 36) Try.func9 (laws_eqPart.calls (hr0_2 := rC HO194) (hc0_2 := rL HO194) (hr1_2 := rC HO185) (hc1_2 := rL HO185) (w := _) (h := A12.out)) ?_; intro w19 _))
 have H := H'.out; clear H'
 by_cases c20 : t196 = true
 ·
  subst c20
  rw [if_pos rfl] at H
  obtain ⟨t197, A21, H⟩ := oB H; (try dsimp only at H); obtain ⟨t200, A22, H⟩ := oB H; (try dsimp only at H); have H' := Aside0.mk H; clear H
  go_upto_if 42 with (first | ((with_reducible refine gate_callee (f := 7) rfl ?_); refine gS1 (some 40) Try.func7 (laws_toPartS.calls (hr0 := pC HR0) (hc0 := HC0.out) (w := _) (h := A21.out)) ?_; intro Ao198 co198 w23 _ HO199) | ((with_reducible refine gate_callee (f := 10) rfl ?_); refine gC (some 41) Try.func10 (laws_eqPartS.calls (hr0 := sC HO189) (hc0 := sL HO189) (hr1 := sC HO199) (hc1 := sL HO199) (w := _) (h := A22.out)) ?_; intro w24 _))
  have H := H'.out; clear H'
  by_cases c25 : t200 = true
  rotate_left
  ·
   replace c25 := Bool.eq_false_iff.mpr c25; subst c25
   rw [if_neg (show ¬ (false = true) by decide)] at H
   exact absurd (hrt.out.symm.trans (Option.some.inj H).symm) (by decide)
  subst c25
  rw [if_pos rfl] at H
  obtain ⟨⟨t201, t202⟩, A26, H⟩ := oB H; (try dsimp only at H); have H' := Aside0.mk H; clear H
  go_upto_region 16 with (first | ((with_reducible refine gate_callee (f := 11) rfl ?_); refine gMS (some 45) Try.func11 HO189 (laws_markPartS.calls (w0 := w) (hB := UpW.out) (ho0 := oS HO189) (w := _) (h := A26.out)) ?_; intro w27 _ _ HO189 LEN28; replace HO180 := mS w27 HO180; replace HO185 := mR w27 HO185; replace HO194 := mR w27 HO194; replace HO199 := mS w27 HO199))
  have H := H'.out; clear H'
  by_cases c29 : t201 < 0
  ·
   rw [if_pos c29] at H
   have c29b0 : decide (t201 < 0) = true := decide_eq_true c29; clear c29
   (first | rw [c29b0] | (simp only [i64_w, i32_w]; rw [c29b0]) | skip)
   exact absurd (hrt.out.symm.trans (Option.some.inj H).symm) (by decide)
  rw [if_neg c29] at H
  have c29b0 : decide (t201 < 0) = false := decide_eq_false c29; clear c29
  (first | rw [c29b0] | (simp only [i64_w, i32_w]; rw [c29b0]) | skip)
  obtain ⟨t203, A30, H⟩ := oB H; (try dsimp only at H); have H' := Aside0.mk H; clear H
  go_upto_if 53 with (first | (go_at_call 9; refine aC (laws_eqPart.calls (hr0_2 := rC HO194) (hc0_2 := rL HO194) (hr1_2 := rC HO185) (hc1_2 := rL HO185) (w := _) (h := A30.out)) ?_; intro w31 _))
  have H := H'.out; clear H'
  by_cases c32 : t203 = true
  rotate_left
  ·
   replace c32 := Bool.eq_false_iff.mpr c32; subst c32
   rw [if_neg (show ¬ (false = true) by decide)] at H
   exact absurd (hrt.out.symm.trans (Option.some.inj H).symm) (by decide)
  subst c32
  rw [if_pos rfl] at H
  obtain ⟨⟨t204, t205⟩, A33, H⟩ := oB H; (try dsimp only at H); obtain ⟨t206, A34, H⟩ := oB H; (try dsimp only at H); have H' := Aside0.mk H; clear H
  go_upto_if 61 with (first | ((with_reducible refine gate_callee (f := 12) rfl ?_); refine gM (some 56) Try.func12 HO194 (laws_markPart.calls (w0 := w) (hB := UpW.out) (ho0_2 := oR HO194) (w := _) (h := A33.out)) ?_; intro w35 _ _ HO194 LEN36; replace HO180 := mS w35 HO180; replace HO185 := mR w35 HO185; replace HO189 := mS w35 HO189; replace HO199 := mS w35 HO199) | ((with_reducible refine gate_callee (f := 13) rfl ?_); refine gC (hargs := by (simp only [List.map_toArray, List.map_cons, List.map_nil, LEN36]); rfl) (some 59) Try.func13 (laws_heldPart.calls (hr0_2 := rC HO194) (hc0_2 := rL HO194) (w := _) (h := A34.out)) ?_; intro w37 _))
  have H := H'.out; clear H'
  by_cases c38 : t206 < 0
  ·
   rw [if_pos c38] at H
   have c38b0 : decide (t206 < 0) = true := decide_eq_true c38; clear c38
   (first | rw [c38b0] | (simp only [i64_w, i32_w]; rw [c38b0]) | skip)
   exact absurd (hrt.out.symm.trans (Option.some.inj H).symm) (by decide)
  rw [if_neg c38] at H
  have c38b0 : decide (t206 < 0) = false := decide_eq_false c38; clear c38
  (first | rw [c38b0] | (simp only [i64_w, i32_w]; rw [c38b0]) | skip)
  by_cases c39 : t206 = t204
  rotate_left
  ·
   rw [if_neg c39] at H
   have c39b0 : (t206 == t204) = false := beq_eq_false_iff_ne.mpr c39; have c39b1 : (t206 != t204) = true := bne_iff_ne.mpr c39
   exact absurd (hrt.out.symm.trans (Option.some.inj H).symm) (by decide)
  rw [if_pos c39] at H
  have c39b0 : (t206 == t204) = true := beq_iff_eq.mpr c39; have c39b1 : (t206 != t204) = false := bne_eq_false_iff_eq.mpr c39; clear c39; obtain ⟨t207, A40, H⟩ := oB H; (try dsimp only at H); obtain ⟨⟨t210, t211, t212⟩, A41, H⟩ := oB H; (try dsimp only at H); obtain ⟨t216, A42, H⟩ := oB H; (try dsimp only at H); have H' := Aside0.mk H; clear H
  go_upto_if 73 with (first | ((with_reducible refine gate_callee (f := 7) rfl ?_); refine gS1 (some 66) Try.func7 (laws_toPartS.calls (hr0 := pC HR0) (hc0 := HC0.out) (w := _) (h := A40.out)) ?_; intro Ao208 co208 w43 _ HO209) | ((with_reducible refine gate_callee (f := 8) rfl ?_); refine gC1 (some 69) Try.func8 (impl_TableGet.calls (hr0 := sC HO209) (hc0 := sL HO209) (w := _) (h := A41.out)) ?_; intro Ao213 co213 w44 _ HO214) | ((with_reducible refine gd 14 ?_); refine bL 14 #[.int .i64 0, .string (⟨#[]⟩ : ByteArray), .slice none 0 0] 26 ?_; intro gb215 w45 _ _ _) | ((with_reducible refine gate_callee (f := 9) rfl ?_); refine gC (some 72) Try.func9 (laws_eqPart.calls (hr0_2 := rC HO214) (hc0_2 := rL HO214) (hr1_2 := rC HO185) (hc1_2 := rL HO185) (w := _) (h := A42.out)) ?_; intro w46 _))
  have H := H'.out; clear H'
  by_cases c47 : t216 = true
  rotate_left
  ·
   replace c47 := Bool.eq_false_iff.mpr c47; subst c47
   rw [if_neg (show ¬ (false = true) by decide)] at H
   exact absurd (hrt.out.symm.trans (Option.some.inj H).symm) (by decide)
  subst c47
  rw [if_pos rfl] at H
  obtain ⟨t217, A48, H⟩ := oB H; (try dsimp only at H); have H' := Aside0.mk H; clear H
  go_upto_if 78 with (first | ((with_reducible refine gate_callee (f := 13) rfl ?_); refine gC (hargs := by (simp only [List.map_toArray, List.map_cons, List.map_nil, LEN36]); rfl) (some 76) Try.func13 (laws_heldPart.calls (hr0_2 := rC HO194) (hc0_2 := rL HO194) (w := _) (h := A48.out)) ?_; intro w49 _))
  have H := H'.out; clear H'
  by_cases c50 : t217 < 0
  ·
   rw [if_pos c50] at H
   have c50b0 : decide (t217 < 0) = true := decide_eq_true c50; clear c50
   (first | rw [c50b0] | (simp only [i64_w, i32_w]; rw [c50b0]) | skip)
   exact absurd (hrt.out.symm.trans (Option.some.inj H).symm) (by decide)
  rw [if_neg c50] at H
  have c50b0 : decide (t217 < 0) = false := decide_eq_false c50; clear c50
  (first | rw [c50b0] | (simp only [i64_w, i32_w]; rw [c50b0]) | skip)
  by_cases c51 : t217 = t204
  rotate_left
  ·
   rw [if_neg c51] at H
   have c51b0 : (t217 == t204) = false := beq_eq_false_iff_ne.mpr c51; have c51b1 : (t217 != t204) = true := bne_iff_ne.mpr c51
   exact absurd (hrt.out.symm.trans (Option.some.inj H).symm) (by decide)
  rw [if_pos c51] at H
  have c51b0 : (t217 == t204) = true := beq_iff_eq.mpr c51; have c51b1 : (t217 != t204) = false := bne_eq_false_iff_eq.mpr c51; clear c51; obtain rfl := Option.some.inj H
  go_wp2
  go_ret
  exact ⟨y0_4, UpW.out⟩
 replace c20 := Bool.eq_false_iff.mpr c20; subst c20
 rw [if_neg (show ¬ (false = true) by decide)] at H
 exact absurd (hrt.out.symm.trans (Option.some.inj H).symm) (by decide)

end Go.Proofs.Ytnpbopadajbopaa.PFnExactTableGet
