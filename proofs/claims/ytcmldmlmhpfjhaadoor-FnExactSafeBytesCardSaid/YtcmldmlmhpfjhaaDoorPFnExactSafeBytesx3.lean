-- By a program of this session, out of the translation (the print of the kit, with turns of its own). Lean checks it.
import Derived.Test.YtcmldmlmhpfjhaaDoorPFnExactSafeBytesx0
import Derived.Test.YtcmldmlmhpfjhaaDoorPFnExactSafeBytesx2
namespace Go.Proofs.YtcmldmlmhpfjhaaDoor.PFnExactSafeBytes
open Go.RowKit Go.Proofs.YtcmldmlmhpfjhaaDoorW.PrintWords Go.Proofs.YtcmldmlmhpfjhaaDoorW.PrintLast Go.Proofs.YtcmldmlmhpfjhaaDoorW.PrintMore
attribute [local go_sem] max2_int min2_int max_two min_two max_three min_three max_four min_four   -- for this text's walks alone
set_option linter.unusedVariables false
set_option linter.unusedSimpArgs false

/-! ### spec_Digits: function 129 -/
def spec_Digits.l0 : Nat → Int → Bool → ByteArray → Option (ByteArray)
  | 0, _, _, _ => none
  | k + 1, x0, x3, x4 => if x0 = 0 then (if x3 = true then (if 1 + x4.size ≤ 9223372036854775807 then (some ((⟨#[45]⟩ : ByteArray) ++ x4)) else (none)) else (some x4)) else (if (Int.tmod x0 10) < 0 then ((some (([(wrap64 (48 + (wrap64 (-(Int.tmod x0 10))))) % 256] : List Int) : List Int)).bind fun y157 => (if (strOfNums y157).size + x4.size ≤ 9223372036854775807 then (spec_Digits.l0 k (wrap64 (Int.tdiv x0 10)) x3 ((strOfNums y157) ++ x4)) else (none))) else ((some (([(wrap64 (48 + (Int.tmod x0 10))) % 256] : List Int) : List Int)).bind fun y160 => (if (strOfNums y160).size + x4.size ≤ 9223372036854775807 then (spec_Digits.l0 k (wrap64 (Int.tdiv x0 10)) x3 ((strOfNums y160) ++ x4)) else (none))))
def spec_Digits.f (k : Nat) (a0 : Int) : Option (ByteArray) := if a0 = 0 then (some (⟨#[48]⟩ : ByteArray)) else (spec_Digits.l0 k a0 (decide (a0 < 0)) (⟨#[]⟩ : ByteArray))
theorem spec_Digits.mono_l : ∀ k, (∀ y0 y1 y2, LeO (spec_Digits.l0 k y0 y1 y2) (spec_Digits.l0 (k + 1) y0 y1 y2))
  | 0 => fun _ _ _ r h => by simp [spec_Digits.l0] at h
  | k + 1 => by
    have ih0 := spec_Digits.mono_l k
    · intro y0 y1 y2
      unfold spec_Digits.l0
      repeat' first
      | (with_reducible exact ih0 _ _ _)
      | (with_reducible exact LeO.refl _)
      | (with_reducible exact LeO.none _)
      | (with_reducible refine LeO.ite ?_ ?_)
      | (with_reducible refine LeO.bind ?_ (fun _ => ?_))
      | exact ih0 _ _ _
      | exact LeO.none _
      | refine LeO.ite ?_ ?_
      | refine LeO.bind ?_ (fun _ => ?_)
theorem spec_Digits.mono : ∀ a0 k, LeO (spec_Digits.f k a0) (spec_Digits.f (k + 1) a0) := by
  intro a0 k
  have ih0 := spec_Digits.mono_l k
  unfold spec_Digits.f
  repeat' first
      | (with_reducible exact ih0 _ _ _)
      | (with_reducible exact LeO.refl _)
      | (with_reducible exact LeO.none _)
      | (with_reducible refine LeO.ite ?_ ?_)
      | (with_reducible refine LeO.bind ?_ (fun _ => ?_))
      | exact ih0 _ _ _
      | exact LeO.none _
      | refine LeO.ite ?_ ?_
      | refine LeO.bind ?_ (fun _ => ?_)
set_option maxHeartbeats 8000000 in
set_option maxRecDepth 100000 in
theorem spec_Digits.calls (k : Nat) (a0 : Int) (r : ByteArray) (w : World) (h : spec_Digits.f k a0 = some r) :
    Calls Tryd.prog 129 #[.int .i64 a0] w fun e w' => e = .returned (.string r) ∧ Below w.heap.size w w' := by
  have HB := Aside0.mk (Below.refl w.heap.size w)
  have H : (if a0 = 0 then (some (⟨#[48]⟩ : ByteArray)) else (spec_Digits.l0 k a0 (decide (a0 < 0)) (⟨#[]⟩ : ByteArray))) = some r := h
  clear h
  by_cases c2 : a0 = 0
  · rw [if_pos c2] at H
    have c2b0 : (a0 == 0) = true := beq_iff_eq.mpr c2
    have c2b1 : (a0 != 0) = false := bne_eq_false_iff_eq.mpr c2
    clear c2
    obtain rfl := Option.some.inj H
    go_enter Tryd.func129, Tryd.ntmps129
    go_wp2
    go_ret
    exact ⟨y0_7, bI HB.out⟩
  · rw [if_neg c2] at H
    have c2b0 : (a0 == 0) = false := beq_eq_false_iff_ne.mpr c2
    have c2b1 : (a0 != 0) = true := bne_iff_ne.mpr c2
    have H' := Aside0.mk H
    clear H
    go_enter Tryd.func129, Tryd.ntmps129
    go_wp2
    go_loopg [0, 4] k (fun kq v0 v4 w' => ∃ (x0_1 : Int) (x4_1 : ByteArray), v0 = .int .i64 x0_1 ∧ v4 = .string x4_1 ∧ Aside0 (spec_Digits.l0 kq x0_1 (decide (a0 < 0)) x4_1 = some r) ∧ Aside0 (kq ≤ k) ∧ Aside0 (Below w.heap.size w w'))
    case atStart => exact ⟨(a0), ((⟨#[]⟩ : ByteArray)), y0_10, y0_10, H', ⟨Nat.le_refl _⟩, ⟨bI HB.out⟩⟩
    case round =>
      clear H'
      try clear c1
      try clear c2
      try clear c2b0
      try clear c2b1
      try clear p2
      obtain ⟨x0_1, x4_1, rfl, rfl, HA, HK1, HB⟩ := hrel
      cases gk with
      | zero => exact absurd HA.out (by simp [spec_Digits.l0])
      | succ k1 =>
        have H := HA.out
        clear HA
        simp only [spec_Digits.l0] at H
        by_cases c3 : x0_1 = 0
        · rw [if_pos c3] at H
          have c3b0 : (x0_1 == 0) = true := beq_iff_eq.mpr c3
          have c3b1 : (x0_1 != 0) = false := bne_eq_false_iff_eq.mpr c3
          clear c3
          by_cases c4 : (decide (a0 < 0)) = true
          · rw [if_pos c4] at H
            have c4b0 : (decide (a0 < 0)) = true := c4
            (try simp only [c4b0])
            clear c4
            by_cases c5 : 1 + x4_1.size ≤ 9223372036854775807
            rotate_left
            · rw [if_neg c5] at H
              exact absurd H (by simp)
            rw [if_pos c5] at H
            have c5b0 := eq_true c5
            have c5b1 : decide (1 + x4_1.size ≤ 9223372036854775807) = true := decide_eq_true c5
            try have c5b2 : (9223372036854775807 < 1 + x4_1.size) = False := eq_false (Nat.not_lt.2 c5)
            obtain rfl := Option.some.inj H
            go_wp2
            go_ret
            exact ⟨y0_7, bI HB.out⟩
          · rw [if_neg c4] at H
            have c4b0 : (decide (a0 < 0)) = false := by simpa using c4
            (try simp only [c4b0])
            clear c4
            obtain rfl := Option.some.inj H
            go_wp2
            go_ret
            exact ⟨y0_7, bI HB.out⟩
        · rw [if_neg c3] at H
          have c3b0 : (x0_1 == 0) = false := beq_eq_false_iff_ne.mpr c3
          have c3b1 : (x0_1 != 0) = true := bne_iff_ne.mpr c3
          by_cases c6 : (Int.tmod x0_1 10) < 0
          · rw [if_pos c6] at H
            have c6b0 : decide ((Int.tmod x0_1 10) < 0) = true := decide_eq_true c6
            clear c6
            obtain ⟨y157, hy157⟩ : ∃ y_ : List Int, y_ = (([(wrap64 (48 + (wrap64 (-(Int.tmod x0_1 10))))) % 256] : List Int)) := ⟨_, rfl⟩
            replace H : (if (strOfNums y157).size + x4_1.size ≤ 9223372036854775807 then (spec_Digits.l0 k1 (wrap64 (Int.tdiv x0_1 10)) (decide (a0 < 0)) ((strOfNums y157) ++ x4_1)) else (none)) = some r := by first | (rw [hy157]; with_reducible exact H) | (have H2_ := (Option.bind_some _ _).symm.trans H; rw [hy157]; with_reducible exact H2_) | (have H2_ := (Option.bind_some _ _).symm.trans H; with_reducible exact H2_) | with_reducible exact H | (rw [hy157]; exact H) | exact H
            have Ny157 := Aside0.mk hy157
            clear hy157
            by_cases c7 : (strOfNums y157).size + x4_1.size ≤ 9223372036854775807
            rotate_left
            · rw [if_neg c7] at H
              exact absurd H (by simp)
            rw [if_pos c7] at H
            have c7b0 := eq_true c7
            have c7b1 : decide ((strOfNums y157).size + x4_1.size ≤ 9223372036854775807) = true := decide_eq_true c7
            try have c7b2 : (9223372036854775807 < (strOfNums y157).size + x4_1.size) = False := eq_false (Nat.not_lt.2 c7)
            have H' := Aside0.mk H
            clear H
            go_wp2_with (first | ((with_reducible refine gate_dst (N := 21) rfl ?_); refine Kd.R_lit (Kd.int .u8) _ 5 ?hg (N := 21) ?hd (xs := ([(wrap64 (48 + (wrap64 (-(Int.tmod x0_1 10))))) % 256] : List Int)) (inner := [.int .u8 ((wrap64 (48 + (wrap64 (-(Int.tmod x0_1 10))))) % 256)]) (ok := fun _ => True) (okp := fun _ => True) ?hr ?hp (fun _ hk => hk) trivial (Below.refl _ _) (Nat.le_refl _) (by simp) ?_; (case hd => rfl); (case hg => rfl); (case hr => first | (go_simp; done) | (go_simp; rfl)); (case hp => exact (Reps.one (show Kd.M (Kd.int .u8) _ _ _ ((wrap64 (48 + (wrap64 (-(Int.tmod x0_1 10))))) % 256) [.int .u8 ((wrap64 (48 + (wrap64 (-(Int.tmod x0_1 10))))) % 256)] from rfl) (Reps.none _ _))); intro v158 w8 ho9 hb hg_ hnew_; clear hg_ hnew_; (first | rw [← Ny157.out] at ho9 | (simp only [Int.reduceToNat] at ho9; rw [← Ny157.out] at ho9)); have HO159 := Aside0.mk (Kd.R_lower ho9 (below_size (bI HB.out))); replace HB := bs HB hb; clear hb ho9; have hcv10 := own_string (P := Tryd.prog) Tryd.underlying74 Tryd.underlying5 Tryd.underlying9 (Kd.own_of_R HO159.out)))
            go_roundg k1
            case measure => have := HK1.out; omega
            case rel => exact ⟨(wrap64 (Int.tdiv x0_1 10)), ((strOfNums y157) ++ x4_1), y0_10, y0_10, H', ⟨y0_14⟩, ⟨bI HB.out⟩⟩
          · rw [if_neg c6] at H
            have c6b0 : decide ((Int.tmod x0_1 10) < 0) = false := decide_eq_false c6
            clear c6
            obtain ⟨y160, hy160⟩ : ∃ y_ : List Int, y_ = (([(wrap64 (48 + (Int.tmod x0_1 10))) % 256] : List Int)) := ⟨_, rfl⟩
            replace H : (if (strOfNums y160).size + x4_1.size ≤ 9223372036854775807 then (spec_Digits.l0 k1 (wrap64 (Int.tdiv x0_1 10)) (decide (a0 < 0)) ((strOfNums y160) ++ x4_1)) else (none)) = some r := by first | (rw [hy160]; with_reducible exact H) | (have H2_ := (Option.bind_some _ _).symm.trans H; rw [hy160]; with_reducible exact H2_) | (have H2_ := (Option.bind_some _ _).symm.trans H; with_reducible exact H2_) | with_reducible exact H | (rw [hy160]; exact H) | exact H
            have Ny160 := Aside0.mk hy160
            clear hy160
            by_cases c11 : (strOfNums y160).size + x4_1.size ≤ 9223372036854775807
            · rw [if_pos c11] at H
              have c11b0 := eq_true c11
              have c11b1 : decide ((strOfNums y160).size + x4_1.size ≤ 9223372036854775807) = true := decide_eq_true c11
              try have c11b2 : (9223372036854775807 < (strOfNums y160).size + x4_1.size) = False := eq_false (Nat.not_lt.2 c11)
              have H' := Aside0.mk H
              clear H
              go_wp2_with (first | ((with_reducible refine gate_dst (N := 21) rfl ?_); refine Kd.R_lit (Kd.int .u8) _ 5 ?hg (N := 21) ?hd (xs := ([(wrap64 (48 + (Int.tmod x0_1 10))) % 256] : List Int)) (inner := [.int .u8 ((wrap64 (48 + (Int.tmod x0_1 10))) % 256)]) (ok := fun _ => True) (okp := fun _ => True) ?hr ?hp (fun _ hk => hk) trivial (Below.refl _ _) (Nat.le_refl _) (by simp) ?_; (case hd => rfl); (case hg => rfl); (case hr => first | (go_simp; done) | (go_simp; rfl)); (case hp => exact (Reps.one (show Kd.M (Kd.int .u8) _ _ _ ((wrap64 (48 + (Int.tmod x0_1 10))) % 256) [.int .u8 ((wrap64 (48 + (Int.tmod x0_1 10))) % 256)] from rfl) (Reps.none _ _))); intro v161 w12 ho13 hb hg_ hnew_; clear hg_ hnew_; (first | rw [← Ny160.out] at ho13 | (simp only [Int.reduceToNat] at ho13; rw [← Ny160.out] at ho13)); have HO162 := Aside0.mk (Kd.R_lower ho13 (below_size (bI HB.out))); replace HB := bs HB hb; clear hb ho13; have hcv14 := own_string (P := Tryd.prog) Tryd.underlying74 Tryd.underlying5 Tryd.underlying9 (Kd.own_of_R HO162.out)))
              go_roundg k1
              case measure => have := HK1.out; omega
              case rel => exact ⟨(wrap64 (Int.tdiv x0_1 10)), ((strOfNums y160) ++ x4_1), y0_10, y0_10, H', ⟨y0_14⟩, ⟨bI HB.out⟩⟩
            · rw [if_neg c11] at H
              exact absurd H (by simp)

/-! ### spec_Number: function 104 -/
mutual
def spec_Number.j0 : Nat → ByteArray → Bool → Option (Int × Bool)
  | 0, _, _ => none
  | k + 1, x0, x13 => if x13 = true then (some (0, false)) else (spec_Number.l0 k x0 0 0)
def spec_Number.l0 : Nat → ByteArray → Int → Int → Option (Int × Bool)
  | 0, _, _, _ => none
  | k + 1, x0, x4, x5 => if x5 < (x0.size : Int) then (if 0 ≤ x5 then (if (bt x0 x5) < 48 then (some (0, false)) else (if (bt x0 x5) > 57 then (some (0, false)) else (spec_Number.l0 k x0 (wrap64 ((wrap64 ((wrap64 (10 * x4)) + (wrap64 (bt x0 x5)))) - 48)) (wrap64 (x5 + 1))))) else (none)) else ((spec_Digits.f k x4).bind fun t163 => (if t163.toList = x0.toList then (some (x4, true)) else (some (0, false))))
end
def spec_Number.f (k : Nat) (a0 : ByteArray) : Option (Int × Bool) := if (a0.size : Int) < 1 then (spec_Number.j0 k a0 true) else (spec_Number.j0 k a0 (decide ((a0.size : Int) > 6)))
theorem spec_Number.mono_l : ∀ k, (∀ y0 y1, LeO (spec_Number.j0 k y0 y1) (spec_Number.j0 (k + 1) y0 y1)) ∧ (∀ y0 y1 y2, LeO (spec_Number.l0 k y0 y1 y2) (spec_Number.l0 (k + 1) y0 y1 y2))
  | 0 => ⟨fun _ _ r h => by simp [spec_Number.j0] at h, fun _ _ _ r h => by simp [spec_Number.l0] at h⟩
  | k + 1 => by
    obtain ⟨ih0, ih1⟩ := spec_Number.mono_l k
    refine ⟨?_, ?_⟩
    · intro y0 y1
      unfold spec_Number.j0
      repeat' first
      | (with_reducible exact ih0 _ _)
      | (with_reducible exact ih1 _ _ _)
      | (with_reducible exact spec_Digits.mono _ _)
      | (with_reducible exact LeO.refl _)
      | (with_reducible exact LeO.none _)
      | (with_reducible refine LeO.ite ?_ ?_)
      | (with_reducible refine LeO.bind ?_ (fun _ => ?_))
      | exact ih0 _ _
      | exact ih1 _ _ _
      | exact spec_Digits.mono _ _
      | exact LeO.none _
      | refine LeO.ite ?_ ?_
      | refine LeO.bind ?_ (fun _ => ?_)
    · intro y0 y1 y2
      unfold spec_Number.l0
      repeat' first
      | (with_reducible exact ih0 _ _)
      | (with_reducible exact ih1 _ _ _)
      | (with_reducible exact spec_Digits.mono _ _)
      | (with_reducible exact LeO.refl _)
      | (with_reducible exact LeO.none _)
      | (with_reducible refine LeO.ite ?_ ?_)
      | (with_reducible refine LeO.bind ?_ (fun _ => ?_))
      | exact ih0 _ _
      | exact ih1 _ _ _
      | exact spec_Digits.mono _ _
      | exact LeO.none _
      | refine LeO.ite ?_ ?_
      | refine LeO.bind ?_ (fun _ => ?_)
theorem spec_Number.mono : ∀ a0 k, LeO (spec_Number.f k a0) (spec_Number.f (k + 1) a0) := by
  intro a0 k
  obtain ⟨ih0, ih1⟩ := spec_Number.mono_l k
  unfold spec_Number.f
  repeat' first
      | (with_reducible exact ih0 _ _)
      | (with_reducible exact ih1 _ _ _)
      | (with_reducible exact spec_Digits.mono _ _)
      | (with_reducible exact LeO.refl _)
      | (with_reducible exact LeO.none _)
      | (with_reducible refine LeO.ite ?_ ?_)
      | (with_reducible refine LeO.bind ?_ (fun _ => ?_))
      | exact ih0 _ _
      | exact ih1 _ _ _
      | exact spec_Digits.mono _ _
      | exact LeO.none _
      | refine LeO.ite ?_ ?_
      | refine LeO.bind ?_ (fun _ => ?_)
set_option maxHeartbeats 8000000 in
set_option maxRecDepth 100000 in
theorem spec_Number.calls (k : Nat) (a0 : ByteArray) (r1 : Int) (r2 : Bool) (w : World) (h : spec_Number.f k a0 = some (r1, r2)) :
    Calls Tryd.prog 104 #[.string a0] w fun e w' => e = .returned (.tuple #[.int .i64 r1, .bool r2]) ∧ Below w.heap.size w w' := by
  have HB := Aside0.mk (Below.refl w.heap.size w)
  have H : (if (a0.size : Int) < 1 then (spec_Number.j0 k a0 true) else (spec_Number.j0 k a0 (decide ((a0.size : Int) > 6)))) = some (r1, r2) := h
  clear h
  have HC2 := Aside0.mk H
  clear H
  go_enter Tryd.func104, Tryd.ntmps104
  go_upto_region 1 with (fail)
  go_cut [13] (fun v13 wc => ∃ (kq : Nat) (x13_1 : Bool), v13 = .bool x13_1 ∧ Aside0 (spec_Number.j0 kq a0 x13_1 = some (r1, r2)) ∧ Aside0 (kq ≤ k) ∧ Aside0 (Below w.heap.size w wc))
  case first =>
    have H := HC2.out
    clear HC2
    by_cases c3 : (a0.size : Int) < 1
    · rw [if_pos c3] at H
      have c3b0 : decide ((a0.size : Int) < 1) = true := decide_eq_true c3
      have c3b1 : decide (a0.size < 1) = true := decide_eq_true (by omega)
      clear c3
      (first | rw [c3b0] | (simp only [i64_w, i32_w]; rw [c3b0]) | skip)
      have H' := Aside0.mk H
      clear H
      go_wp2
      go_meet
      case rel => exact ⟨_, (true), y0_10, H', ⟨y0_11⟩, ⟨bI HB.out⟩⟩
    · rw [if_neg c3] at H
      have c3b0 : decide ((a0.size : Int) < 1) = false := decide_eq_false c3
      have c3b1 : decide (a0.size < 1) = false := decide_eq_false (by omega)
      clear c3
      (first | rw [c3b0] | (simp only [i64_w, i32_w]; rw [c3b0]) | skip)
      have H' := Aside0.mk H
      clear H
      go_wp2
      go_meet
      case rel => exact ⟨_, (decide ((a0.size : Int) > 6)), y0_10, H', ⟨y0_11⟩, ⟨bI HB.out⟩⟩
  case rest =>
    clear HC2
    try clear c1
    try clear p2
    try clear c3
    try clear c3b0
    try clear c3b1
    obtain ⟨kq, x13_1, rfl, HA, HJ1, HB⟩ := hcut
    cases kq with
    | zero => exact absurd HA.out (by simp [spec_Number.j0])
    | succ kj1 =>
      have H := HA.out
      clear HA
      simp only [spec_Number.j0] at H
      by_cases c4 : x13_1 = true
      · subst c4
        rw [if_pos rfl] at H
        simp only [Option.some.injEq, Prod.mk.injEq] at H
        obtain ⟨rfl, rfl⟩ := H
        go_wp2
        go_ret2
        exact ⟨y0_7, bI HB.out⟩
      · replace c4 := Bool.eq_false_iff.mpr c4
        subst c4
        rw [if_neg (show ¬ (false = true) by decide)] at H
        have H' := Aside0.mk H
        clear H
        go_wp2
        go_loopg [4, 5] kj1 (fun kq v4 v5 w' => ∃ (x4_2 : Int) (x5_2 : Int), v4 = .int .i64 x4_2 ∧ v5 = .int .i64 x5_2 ∧ Aside0 (spec_Number.l0 kq a0 x4_2 x5_2 = some (r1, r2)) ∧ Aside0 (kq ≤ kj1) ∧ Aside0 (Below w.heap.size w w'))
        case atStart => exact ⟨(0), (0), y0_10, y0_10, H', ⟨Nat.le_refl _⟩, ⟨bI HB.out⟩⟩
        case round =>
          clear H'
          try clear c1
          try clear p2
          try clear c3
          try clear c3b0
          try clear c3b1
          try clear c4
          try clear p2
          obtain ⟨x4_2, x5_2, rfl, rfl, HA, HK2, HB⟩ := hrel
          cases gk with
          | zero => exact absurd HA.out (by simp [spec_Number.l0])
          | succ k2 =>
            have H := HA.out
            clear HA
            simp only [spec_Number.l0] at H
            by_cases c5 : x5_2 < (a0.size : Int)
            · rw [if_pos c5] at H
              have c5b0 : decide (x5_2 < (a0.size : Int)) = true := decide_eq_true c5
              clear c5
              by_cases c6 : 0 ≤ x5_2
              rotate_left
              · rw [if_neg c6] at H
                exact absurd H (by simp)
              rw [if_pos c6] at H
              have c6b0 : decide (0 ≤ x5_2) = true := decide_eq_true c6
              clear c6
              by_cases c8 : (bt a0 x5_2) < 48
              · rw [if_pos c8] at H
                have c8b0 : decide ((bt a0 x5_2) < 48) = true := decide_eq_true c8
                clear c8
                simp only [Option.some.injEq, Prod.mk.injEq] at H
                obtain ⟨rfl, rfl⟩ := H
                have p7 : 0 ≤ (x5_2 : Int) := of_decide_eq_true y0_9
                have q7 : x5_2 < (a0.size : Int) := of_decide_eq_true y0_9
                have hx7 := bt_at a0 x5_2
                replace p7 := eq_true p7
                replace q7 := eq_true q7
                go_wp2
                go_ret2
                exact ⟨y0_7, bI HB.out⟩
              · rw [if_neg c8] at H
                have c8b0 : decide ((bt a0 x5_2) < 48) = false := decide_eq_false c8
                clear c8
                by_cases c10 : (bt a0 x5_2) > 57
                · rw [if_pos c10] at H
                  have c10b0 : decide (57 < (bt a0 x5_2)) = true := decide_eq_true c10
                  clear c10
                  simp only [Option.some.injEq, Prod.mk.injEq] at H
                  obtain ⟨rfl, rfl⟩ := H
                  have p7 : 0 ≤ (x5_2 : Int) := of_decide_eq_true y0_9
                  have q7 : x5_2 < (a0.size : Int) := of_decide_eq_true y0_9
                  have hx7 := bt_at a0 x5_2
                  replace p7 := eq_true p7
                  replace q7 := eq_true q7
                  have p9 : 0 ≤ (x5_2 : Int) := of_decide_eq_true y0_9
                  have q9 : x5_2 < (a0.size : Int) := of_decide_eq_true y0_9
                  have hx9 := bt_at a0 x5_2
                  replace p9 := eq_true p9
                  replace q9 := eq_true q9
                  go_wp2
                  go_ret2
                  exact ⟨y0_7, bI HB.out⟩
                · rw [if_neg c10] at H
                  have c10b0 : decide (57 < (bt a0 x5_2)) = false := decide_eq_false c10
                  clear c10
                  have H' := Aside0.mk H
                  clear H
                  have p7 : 0 ≤ (x5_2 : Int) := of_decide_eq_true y0_9
                  have q7 : x5_2 < (a0.size : Int) := of_decide_eq_true y0_9
                  have hx7 := bt_at a0 x5_2
                  replace p7 := eq_true p7
                  replace q7 := eq_true q7
                  have p9 : 0 ≤ (x5_2 : Int) := of_decide_eq_true y0_9
                  have q9 : x5_2 < (a0.size : Int) := of_decide_eq_true y0_9
                  have hx9 := bt_at a0 x5_2
                  replace p9 := eq_true p9
                  replace q9 := eq_true q9
                  have p11 : 0 ≤ (x5_2 : Int) := of_decide_eq_true y0_9
                  have q11 : x5_2 < (a0.size : Int) := of_decide_eq_true y0_9
                  have hx11 := bt_at a0 x5_2
                  replace p11 := eq_true p11
                  replace q11 := eq_true q11
                  go_wp2
                  go_roundg k2
                  case measure => have := HJ1.out; have := HK2.out; omega
                  case rel => exact ⟨(wrap64 ((wrap64 ((wrap64 (10 * x4_2)) + (wrap64 (bt a0 x5_2)))) - 48)), (wrap64 (x5_2 + 1)), y0_10, y0_10, H', ⟨by have := HJ1.out; have := HK2.out; omega⟩, ⟨bI HB.out⟩⟩
            · rw [if_neg c5] at H
              have c5b0 : decide (x5_2 < (a0.size : Int)) = false := decide_eq_false c5
              clear c5
              obtain ⟨t163, A120, H⟩ := Option.bind_eq_some_iff.mp H
              try dsimp only at H
              have A12 := Aside0.mk A120
              clear A120
              by_cases c13 : t163.toList = a0.toList
              · rw [if_pos c13] at H
                have c13b0 : (t163.toList == a0.toList) = true := beq_iff_eq.mpr c13
                have c13b1 : (t163.toList != a0.toList) = false := bne_eq_false_iff_eq.mpr c13
                clear c13
                simp only [Option.some.injEq, Prod.mk.injEq] at H
                obtain ⟨rfl, rfl⟩ := H
                go_wp2_with (first | ((with_reducible refine gate_callee (f := 129) rfl ?_); refine gB (some 39) Tryd.func129 #[.int .i64 x4_2] ?_; (with_reducible refine (spec_Digits.calls k2 x4_2 t163 _ A12.out).mono ?_); rintro e w14 ⟨rfl, hb⟩; refine ⟨_, rfl, ?_⟩; replace HB := bs HB hb; (try clear hb); (try clear hb2); (try clear hk); (try clear hi)))
                go_ret2
                exact ⟨y0_7, bI HB.out⟩
              · rw [if_neg c13] at H
                have c13b0 : (t163.toList == a0.toList) = false := beq_eq_false_iff_ne.mpr c13
                have c13b1 : (t163.toList != a0.toList) = true := bne_iff_ne.mpr c13
                simp only [Option.some.injEq, Prod.mk.injEq] at H
                obtain ⟨rfl, rfl⟩ := H
                go_wp2_with (first | ((with_reducible refine gate_callee (f := 129) rfl ?_); refine gB (some 39) Tryd.func129 #[.int .i64 x4_2] ?_; (with_reducible refine (spec_Digits.calls k2 x4_2 t163 _ A12.out).mono ?_); rintro e w15 ⟨rfl, hb⟩; refine ⟨_, rfl, ?_⟩; replace HB := bs HB hb; (try clear hb); (try clear hb2); (try clear hk); (try clear hi)))
                go_ret2
                exact ⟨y0_7, bI HB.out⟩

/-! ### spec_TxOk: function 153 -/
def spec_TxOk.f (a0_0 : Int) (a0_1 : Int) (a0_2 : Int) (a0_3 : Int) : Option (Bool) := (spec_l1In.f a0_0 0 3).bind fun t165 => (if t165 = true then ((spec_l1In.f a0_1 0 3).bind fun t166 => (if t166 = true then ((spec_l1In.f a0_2 0 1000).bind fun t167 => (if t167 = true then ((spec_l1In.f a0_3 0 99).bind fun t168 => (some t168)) else (some false))) else (some false))) else (some false))
set_option maxHeartbeats 8000000 in
set_option maxRecDepth 100000 in
theorem spec_TxOk.calls (a0_0 : Int) (a0_1 : Int) (a0_2 : Int) (a0_3 : Int) (r : Bool) (w : World) (h : spec_TxOk.f a0_0 a0_1 a0_2 a0_3 = some r) :
    Calls Tryd.prog 153 #[.agg #[.int .i64 a0_0, .int .i64 a0_1, .int .i64 a0_2, .int .i64 a0_3]] w fun e w' => e = .returned (.bool r) ∧ Below w.heap.size w w' := by
  have hu150 := Tryd.underlying150
  have HB := Aside0.mk (Below.refl w.heap.size w)
  have H : ((spec_l1In.f a0_0 0 3).bind fun t165 => (if t165 = true then ((spec_l1In.f a0_1 0 3).bind fun t166 => (if t166 = true then ((spec_l1In.f a0_2 0 1000).bind fun t167 => (if t167 = true then ((spec_l1In.f a0_3 0 99).bind fun t168 => (some t168)) else (some false))) else (some false))) else (some false))) = some r := h
  clear h
  obtain ⟨t165, A20, H⟩ := Option.bind_eq_some_iff.mp H
  try dsimp only at H
  have A2 := Aside0.mk A20
  clear A20
  by_cases c3 : t165 = true
  · subst c3
    rw [if_pos rfl] at H
    obtain ⟨t166, A40, H⟩ := Option.bind_eq_some_iff.mp H
    try dsimp only at H
    have A4 := Aside0.mk A40
    clear A40
    by_cases c5 : t166 = true
    · subst c5
      rw [if_pos rfl] at H
      obtain ⟨t167, A60, H⟩ := Option.bind_eq_some_iff.mp H
      try dsimp only at H
      have A6 := Aside0.mk A60
      clear A60
      by_cases c7 : t167 = true
      · subst c7
        rw [if_pos rfl] at H
        obtain ⟨t168, A80, H⟩ := Option.bind_eq_some_iff.mp H
        try dsimp only at H
        have A8 := Aside0.mk A80
        clear A80
        obtain rfl := Option.some.inj H
        go_enter Tryd.func153, Tryd.ntmps153
        go_wp2_with (first | ((with_reducible refine gd 1 ?_); refine bA 1 #[.int .i64 a0_0, .int .i64 a0_1, .int .i64 a0_2, .int .i64 a0_3] 150 ?_; intro gb164 hg w9 hbox hb; have BK164 := Aside0.mk (hbox); have GW164 := bg hg HB; have GJ164 := gi GW164; have GE164 := GW164; replace HB := bs HB hb; clear hb hbox hg; obtain ⟨hcz10_0, hcz10_1, hcz10_2, hcz10_3, hfz10_0, hfz10_1, hfz10_2, hfz10_3⟩ := cs4 BK164) | ((with_reducible refine gate_callee (f := 71) rfl ?_); refine gB (some 5) Tryd.func71 #[.int .i64 a0_0, .int .i64 0, .int .i64 3] ?_; (with_reducible refine (spec_l1In.calls a0_0 0 3 true _ A2.out).mono ?_); rintro e w' ⟨rfl, ⟨nd, rfl⟩⟩; refine ⟨_, rfl, ?_⟩) | (go_at_call 71; (with_reducible refine (spec_l1In.calls a0_1 0 3 true _ A4.out).mono ?_); rintro e w' ⟨rfl, ⟨nd, rfl⟩⟩) | (go_at_call 71; (with_reducible refine (spec_l1In.calls a0_2 0 1000 true _ A6.out).mono ?_); rintro e w' ⟨rfl, ⟨nd, rfl⟩⟩) | (go_at_call 71; (with_reducible refine (spec_l1In.calls a0_3 0 99 t168 _ A8.out).mono ?_); rintro e w' ⟨rfl, ⟨nd, rfl⟩⟩))
        go_ret
        exact ⟨y0_7, bI HB.out⟩
      · replace c7 := Bool.eq_false_iff.mpr c7
        subst c7
        rw [if_neg (show ¬ (false = true) by decide)] at H
        obtain rfl := Option.some.inj H
        go_enter Tryd.func153, Tryd.ntmps153
        go_wp2_with (first | ((with_reducible refine gd 1 ?_); refine bA 1 #[.int .i64 a0_0, .int .i64 a0_1, .int .i64 a0_2, .int .i64 a0_3] 150 ?_; intro gb164 hg w11 hbox hb; have BK164 := Aside0.mk (hbox); have GW164 := bg hg HB; have GJ164 := gi GW164; have GE164 := GW164; replace HB := bs HB hb; clear hb hbox hg; obtain ⟨hcz12_0, hcz12_1, hcz12_2, hcz12_3, hfz12_0, hfz12_1, hfz12_2, hfz12_3⟩ := cs4 BK164) | ((with_reducible refine gate_callee (f := 71) rfl ?_); refine gB (some 5) Tryd.func71 #[.int .i64 a0_0, .int .i64 0, .int .i64 3] ?_; (with_reducible refine (spec_l1In.calls a0_0 0 3 true _ A2.out).mono ?_); rintro e w' ⟨rfl, ⟨nd, rfl⟩⟩; refine ⟨_, rfl, ?_⟩) | (go_at_call 71; (with_reducible refine (spec_l1In.calls a0_1 0 3 true _ A4.out).mono ?_); rintro e w' ⟨rfl, ⟨nd, rfl⟩⟩) | (go_at_call 71; (with_reducible refine (spec_l1In.calls a0_2 0 1000 false _ A6.out).mono ?_); rintro e w' ⟨rfl, ⟨nd, rfl⟩⟩))
        go_ret
        exact ⟨y0_7, bI HB.out⟩
    · replace c5 := Bool.eq_false_iff.mpr c5
      subst c5
      rw [if_neg (show ¬ (false = true) by decide)] at H
      obtain rfl := Option.some.inj H
      go_enter Tryd.func153, Tryd.ntmps153
      go_wp2_with (first | ((with_reducible refine gd 1 ?_); refine bA 1 #[.int .i64 a0_0, .int .i64 a0_1, .int .i64 a0_2, .int .i64 a0_3] 150 ?_; intro gb164 hg w13 hbox hb; have BK164 := Aside0.mk (hbox); have GW164 := bg hg HB; have GJ164 := gi GW164; have GE164 := GW164; replace HB := bs HB hb; clear hb hbox hg; obtain ⟨hcz14_0, hcz14_1, hcz14_2, hcz14_3, hfz14_0, hfz14_1, hfz14_2, hfz14_3⟩ := cs4 BK164) | ((with_reducible refine gate_callee (f := 71) rfl ?_); refine gB (some 5) Tryd.func71 #[.int .i64 a0_0, .int .i64 0, .int .i64 3] ?_; (with_reducible refine (spec_l1In.calls a0_0 0 3 true _ A2.out).mono ?_); rintro e w' ⟨rfl, ⟨nd, rfl⟩⟩; refine ⟨_, rfl, ?_⟩) | (go_at_call 71; (with_reducible refine (spec_l1In.calls a0_1 0 3 false _ A4.out).mono ?_); rintro e w' ⟨rfl, ⟨nd, rfl⟩⟩))
      go_ret
      exact ⟨y0_7, bI HB.out⟩
  · replace c3 := Bool.eq_false_iff.mpr c3
    subst c3
    rw [if_neg (show ¬ (false = true) by decide)] at H
    obtain rfl := Option.some.inj H
    go_enter Tryd.func153, Tryd.ntmps153
    go_wp2_with (first | ((with_reducible refine gd 1 ?_); refine bA 1 #[.int .i64 a0_0, .int .i64 a0_1, .int .i64 a0_2, .int .i64 a0_3] 150 ?_; intro gb164 hg w15 hbox hb; have BK164 := Aside0.mk (hbox); have GW164 := bg hg HB; have GJ164 := gi GW164; have GE164 := GW164; replace HB := bs HB hb; clear hb hbox hg; obtain ⟨hcz16_0, hcz16_1, hcz16_2, hcz16_3, hfz16_0, hfz16_1, hfz16_2, hfz16_3⟩ := cs4 BK164) | ((with_reducible refine gate_callee (f := 71) rfl ?_); refine gB (some 5) Tryd.func71 #[.int .i64 a0_0, .int .i64 0, .int .i64 3] ?_; (with_reducible refine (spec_l1In.calls a0_0 0 3 false _ A2.out).mono ?_); rintro e w' ⟨rfl, ⟨nd, rfl⟩⟩; refine ⟨_, rfl, ?_⟩))
    go_ret
    exact ⟨y0_7, bI HB.out⟩

/-! ### spec_TxText: function 147 -/
def spec_TxText.f (k : Nat) (a0_0 : Int) (a0_1 : Int) (a0_2 : Int) (a0_3 : Int) : Option (ByteArray) := (spec_TxOk.f a0_0 a0_1 a0_2 a0_3).bind fun t170 => (if t170 = true then ((spec_Digits.f k a0_0).bind fun t171 => (if t171.size + 1 ≤ 9223372036854775807 then ((spec_Digits.f k a0_1).bind fun t172 => (if (t171 ++ (⟨#[62]⟩ : ByteArray)).size + t172.size ≤ 9223372036854775807 then (if ((t171 ++ (⟨#[62]⟩ : ByteArray)) ++ t172).size + 1 ≤ 9223372036854775807 then ((spec_Digits.f k a0_2).bind fun t173 => (if (((t171 ++ (⟨#[62]⟩ : ByteArray)) ++ t172) ++ (⟨#[58]⟩ : ByteArray)).size + t173.size ≤ 9223372036854775807 then (if ((((t171 ++ (⟨#[62]⟩ : ByteArray)) ++ t172) ++ (⟨#[58]⟩ : ByteArray)) ++ t173).size + 1 ≤ 9223372036854775807 then ((spec_Digits.f k a0_3).bind fun t174 => (if (((((t171 ++ (⟨#[62]⟩ : ByteArray)) ++ t172) ++ (⟨#[58]⟩ : ByteArray)) ++ t173) ++ (⟨#[35]⟩ : ByteArray)).size + t174.size ≤ 9223372036854775807 then (some ((((((t171 ++ (⟨#[62]⟩ : ByteArray)) ++ t172) ++ (⟨#[58]⟩ : ByteArray)) ++ t173) ++ (⟨#[35]⟩ : ByteArray)) ++ t174)) else (none))) else (none)) else (none))) else (none)) else (none))) else (none))) else (some (⟨#[]⟩ : ByteArray)))
theorem spec_TxText.mono : ∀ a0 a1 a2 a3 k, LeO (spec_TxText.f k a0 a1 a2 a3) (spec_TxText.f (k + 1) a0 a1 a2 a3) := by
  intro a0 a1 a2 a3 k
  unfold spec_TxText.f
  repeat' first
      | (with_reducible exact spec_Digits.mono _ _)
      | (with_reducible exact LeO.refl _)
      | (with_reducible exact LeO.none _)
      | (with_reducible refine LeO.ite ?_ ?_)
      | (with_reducible refine LeO.bind ?_ (fun _ => ?_))
      | exact spec_Digits.mono _ _
      | exact LeO.none _
      | refine LeO.ite ?_ ?_
      | refine LeO.bind ?_ (fun _ => ?_)
def spec_TxText.T3 : Bool × List (List Nat × List Nat) := (true, [([], []), ([0], [0]), ([1], [1]), ([2], [2]), ([], []), ([4], [4]), ([5, 2], [5]), ([3, 6], [3, 6]), ([7], [7]), ([], []), ([9], [9]), ([10, 6], [10]), ([8, 11], [8, 11]), ([12], [12]), ([], []), ([14], [14]), ([15, 11], [15]), ([13, 16], [13, 16]), ([17, 16, 0, 1, 2, 3, 4, 5, 6, 7, 8, 9, 10, 11, 12, 13, 14, 15, 16, 17], [17])])
def spec_TxText.B3 : List Nat := [0, 1, 3, 7, 0, 16, 55, 127, 255, 0, 512, 1655, 4095, 8191, 0, 16384, 52855, 131071, 262143]
theorem spec_TxText.tab3 : rtab .any (opsOf Tryd.f147 3) = spec_TxText.T3 := by kernel_rfl
theorem spec_TxText.bits3 : waitsOk spec_TxText.T3.2 spec_TxText.B3 = true := by kernel_rfl
set_option maxHeartbeats 8000000 in
set_option maxRecDepth 100000 in
theorem spec_TxText.calls (k : Nat) (a0_0 : Int) (a0_1 : Int) (a0_2 : Int) (a0_3 : Int) (r : ByteArray) (w : World) (h : spec_TxText.f k a0_0 a0_1 a0_2 a0_3 = some r) :
    Calls Tryd.prog 147 #[.agg #[.int .i64 a0_0, .int .i64 a0_1, .int .i64 a0_2, .int .i64 a0_3]] w fun e w' => e = .returned (.string r) ∧ Below w.heap.size w w' := by
  have hu150 := Tryd.underlying150
  have HB := Aside0.mk (Below.refl w.heap.size w)
  have H : ((spec_TxOk.f a0_0 a0_1 a0_2 a0_3).bind fun t170 => (if t170 = true then ((spec_Digits.f k a0_0).bind fun t171 => (if t171.size + 1 ≤ 9223372036854775807 then ((spec_Digits.f k a0_1).bind fun t172 => (if (t171 ++ (⟨#[62]⟩ : ByteArray)).size + t172.size ≤ 9223372036854775807 then (if ((t171 ++ (⟨#[62]⟩ : ByteArray)) ++ t172).size + 1 ≤ 9223372036854775807 then ((spec_Digits.f k a0_2).bind fun t173 => (if (((t171 ++ (⟨#[62]⟩ : ByteArray)) ++ t172) ++ (⟨#[58]⟩ : ByteArray)).size + t173.size ≤ 9223372036854775807 then (if ((((t171 ++ (⟨#[62]⟩ : ByteArray)) ++ t172) ++ (⟨#[58]⟩ : ByteArray)) ++ t173).size + 1 ≤ 9223372036854775807 then ((spec_Digits.f k a0_3).bind fun t174 => (if (((((t171 ++ (⟨#[62]⟩ : ByteArray)) ++ t172) ++ (⟨#[58]⟩ : ByteArray)) ++ t173) ++ (⟨#[35]⟩ : ByteArray)).size + t174.size ≤ 9223372036854775807 then (some ((((((t171 ++ (⟨#[62]⟩ : ByteArray)) ++ t172) ++ (⟨#[58]⟩ : ByteArray)) ++ t173) ++ (⟨#[35]⟩ : ByteArray)) ++ t174)) else (none))) else (none)) else (none))) else (none)) else (none))) else (none))) else (some (⟨#[]⟩ : ByteArray)))) = some r := h
  clear h
  obtain ⟨t170, A20, H⟩ := Option.bind_eq_some_iff.mp H
  try dsimp only at H
  have A2 := Aside0.mk A20
  clear A20
  by_cases c3 : t170 = true
  · subst c3
    rw [if_pos rfl] at H
    obtain ⟨t171, A40, H⟩ := Option.bind_eq_some_iff.mp H
    try dsimp only at H
    have A4 := Aside0.mk A40
    clear A40
    by_cases c5 : t171.size + 1 ≤ 9223372036854775807
    rotate_left
    · rw [if_neg c5] at H
      exact absurd H (by simp)
    rw [if_pos c5] at H
    have c5b0 := eq_true c5
    have c5b1 : decide (t171.size + 1 ≤ 9223372036854775807) = true := decide_eq_true c5
    try have c5b2 : (9223372036854775807 < t171.size + 1) = False := eq_false (Nat.not_lt.2 c5)
    obtain ⟨t172, A60, H⟩ := Option.bind_eq_some_iff.mp H
    try dsimp only at H
    have A6 := Aside0.mk A60
    clear A60
    by_cases c7 : (t171 ++ (⟨#[62]⟩ : ByteArray)).size + t172.size ≤ 9223372036854775807
    rotate_left
    · rw [if_neg c7] at H
      exact absurd H (by simp)
    rw [if_pos c7] at H
    have c7b0 := eq_true c7
    have c7b1 : decide ((t171 ++ (⟨#[62]⟩ : ByteArray)).size + t172.size ≤ 9223372036854775807) = true := decide_eq_true c7
    try have c7b2 : (9223372036854775807 < (t171 ++ (⟨#[62]⟩ : ByteArray)).size + t172.size) = False := eq_false (Nat.not_lt.2 c7)
    (try have c7b3 : (9223372036854775807 < t171.size + 1 + t172.size) = False := eq_false (by have h_ := c7; simp only [ByteArray.size_append, ByteArray.size_extract, show (⟨#[62]⟩ : ByteArray).size = 1 from rfl] at h_; omega))
    by_cases c8 : ((t171 ++ (⟨#[62]⟩ : ByteArray)) ++ t172).size + 1 ≤ 9223372036854775807
    rotate_left
    · rw [if_neg c8] at H
      exact absurd H (by simp)
    rw [if_pos c8] at H
    have c8b0 := eq_true c8
    have c8b1 : decide (((t171 ++ (⟨#[62]⟩ : ByteArray)) ++ t172).size + 1 ≤ 9223372036854775807) = true := decide_eq_true c8
    try have c8b2 : (9223372036854775807 < ((t171 ++ (⟨#[62]⟩ : ByteArray)) ++ t172).size + 1) = False := eq_false (Nat.not_lt.2 c8)
    (try have c8b3 : (9223372036854775807 < t171.size + 1 + t172.size + 1) = False := eq_false (by have h_ := c8; simp only [ByteArray.size_append, ByteArray.size_extract, show (⟨#[62]⟩ : ByteArray).size = 1 from rfl] at h_; omega))
    obtain ⟨t173, A90, H⟩ := Option.bind_eq_some_iff.mp H
    try dsimp only at H
    have A9 := Aside0.mk A90
    clear A90
    by_cases c10 : (((t171 ++ (⟨#[62]⟩ : ByteArray)) ++ t172) ++ (⟨#[58]⟩ : ByteArray)).size + t173.size ≤ 9223372036854775807
    rotate_left
    · rw [if_neg c10] at H
      exact absurd H (by simp)
    rw [if_pos c10] at H
    have c10b0 := eq_true c10
    have c10b1 : decide ((((t171 ++ (⟨#[62]⟩ : ByteArray)) ++ t172) ++ (⟨#[58]⟩ : ByteArray)).size + t173.size ≤ 9223372036854775807) = true := decide_eq_true c10
    try have c10b2 : (9223372036854775807 < (((t171 ++ (⟨#[62]⟩ : ByteArray)) ++ t172) ++ (⟨#[58]⟩ : ByteArray)).size + t173.size) = False := eq_false (Nat.not_lt.2 c10)
    (try have c10b3 : (9223372036854775807 < t171.size + 1 + t172.size + 1 + t173.size) = False := eq_false (by have h_ := c10; simp only [ByteArray.size_append, ByteArray.size_extract, show (⟨#[58]⟩ : ByteArray).size = 1 from rfl, show (⟨#[62]⟩ : ByteArray).size = 1 from rfl] at h_; omega))
    by_cases c11 : ((((t171 ++ (⟨#[62]⟩ : ByteArray)) ++ t172) ++ (⟨#[58]⟩ : ByteArray)) ++ t173).size + 1 ≤ 9223372036854775807
    rotate_left
    · rw [if_neg c11] at H
      exact absurd H (by simp)
    rw [if_pos c11] at H
    have c11b0 := eq_true c11
    have c11b1 : decide (((((t171 ++ (⟨#[62]⟩ : ByteArray)) ++ t172) ++ (⟨#[58]⟩ : ByteArray)) ++ t173).size + 1 ≤ 9223372036854775807) = true := decide_eq_true c11
    try have c11b2 : (9223372036854775807 < ((((t171 ++ (⟨#[62]⟩ : ByteArray)) ++ t172) ++ (⟨#[58]⟩ : ByteArray)) ++ t173).size + 1) = False := eq_false (Nat.not_lt.2 c11)
    (try have c11b3 : (9223372036854775807 < t171.size + 1 + t172.size + 1 + t173.size + 1) = False := eq_false (by have h_ := c11; simp only [ByteArray.size_append, ByteArray.size_extract, show (⟨#[58]⟩ : ByteArray).size = 1 from rfl, show (⟨#[62]⟩ : ByteArray).size = 1 from rfl] at h_; omega))
    obtain ⟨t174, A120, H⟩ := Option.bind_eq_some_iff.mp H
    try dsimp only at H
    have A12 := Aside0.mk A120
    clear A120
    by_cases c13 : (((((t171 ++ (⟨#[62]⟩ : ByteArray)) ++ t172) ++ (⟨#[58]⟩ : ByteArray)) ++ t173) ++ (⟨#[35]⟩ : ByteArray)).size + t174.size ≤ 9223372036854775807
    rotate_left
    · rw [if_neg c13] at H
      exact absurd H (by simp)
    rw [if_pos c13] at H
    have c13b0 := eq_true c13
    have c13b1 : decide ((((((t171 ++ (⟨#[62]⟩ : ByteArray)) ++ t172) ++ (⟨#[58]⟩ : ByteArray)) ++ t173) ++ (⟨#[35]⟩ : ByteArray)).size + t174.size ≤ 9223372036854775807) = true := decide_eq_true c13
    try have c13b2 : (9223372036854775807 < (((((t171 ++ (⟨#[62]⟩ : ByteArray)) ++ t172) ++ (⟨#[58]⟩ : ByteArray)) ++ t173) ++ (⟨#[35]⟩ : ByteArray)).size + t174.size) = False := eq_false (Nat.not_lt.2 c13)
    (try have c13b3 : (9223372036854775807 < t171.size + 1 + t172.size + 1 + t173.size + 1 + t174.size) = False := eq_false (by have h_ := c13; simp only [ByteArray.size_append, ByteArray.size_extract, show (⟨#[35]⟩ : ByteArray).size = 1 from rfl, show (⟨#[58]⟩ : ByteArray).size = 1 from rfl, show (⟨#[62]⟩ : ByteArray).size = 1 from rfl] at h_; omega))
    obtain rfl := Option.some.inj H
    go_enter Tryd.func147, Tryd.ntmps147
    try go_wp2_with (first | ((with_reducible refine gd 1 ?_); refine bA 1 #[.int .i64 a0_0, .int .i64 a0_1, .int .i64 a0_2, .int .i64 a0_3] 150 ?_; intro gb169 hg w14 hbox hb; have BK169 := Aside0.mk (hbox); have GW169 := bg hg HB; have GJ169 := gi GW169; have GE169 := GW169; replace HB := bs HB hb; clear hb hbox hg; obtain ⟨hcz15_0, hcz15_1, hcz15_2, hcz15_3, hfz15_0, hfz15_1, hfz15_2, hfz15_3⟩ := cs4 BK169) | ((with_reducible refine gate_callee (f := 153) rfl ?_); refine gB (some 4) Tryd.func153 #[.agg #[.int .i64 a0_0, .int .i64 a0_1, .int .i64 a0_2, .int .i64 a0_3]] ?_; (with_reducible refine (spec_TxOk.calls a0_0 a0_1 a0_2 a0_3 true _ A2.out).mono ?_); rintro e w16 ⟨rfl, hb⟩; refine ⟨_, rfl, ?_⟩; replace BK169 := bk BK169 hb; replace HB := bs HB hb; (try clear hb); (try clear hb2); (try clear hk); (try clear hi)))
    replace BK169 := Aside0.mk (blk_drew BK169.out)
    replace HB := Aside0.mk (below_drew1 HB.out)
    refine start_ (n := 19) (S := fun w' => w'.cell? ⟨gb169, 0, none⟩ = some (.int .i64 a0_0) ∧ w'.cell? ⟨gb169, 1, none⟩ = some (.int .i64 a0_1) ∧ w'.cell? ⟨gb169, 2, none⟩ = some (.int .i64 a0_2) ∧ w'.cell? ⟨gb169, 3, none⟩ = some (.int .i64 a0_3)) (ds := []) #[false, false, false, false, false, false, false, false, false, false, false, false, false, false, false, false, false, false, false] (by kernel_rfl) rfl rfl ⟨bc0 BK169.out, bc1 BK169.out, bc2 BK169.out, bc3 BK169.out⟩ (fun hHeld => ?_); refine with_tabW spec_TxText.tab3 spec_TxText.bits3 (fun HT_ HW_ => ?_)
    generalize w16.drew = w17 at BK169 HB hHeld ⊢
    refine pA 0 (some 6) (bz 19 1) HT_ ?_
    refine pA 4 (some 10) (bz 19 17) HT_ ?_
    refine pA 9 (some 15) (bz 19 529) HT_ ?_
    refine pA 14 (some 20) (bz 19 0x4211) HT_ ?_
    refine tA 1 (some 7) (bz 19 0x4213) HT_ HW_ hHeld ?_
    refine tA 5 (some 11) (bz 19 0x4233) HT_ HW_ hHeld ?_
    refine tA 10 (some 16) (bz 19 0x4633) HT_ HW_ hHeld ?_
    refine tA 15 (some 21) (bz 19 0xc633) HT_ HW_ hHeld ?_
    refine oA 2 (some 8) (bz 19 0xc637) HT_ (fun K hK => ?_)
    refine gA Tryd.func129 #[.int .i64 a0_0] ?_
    with_reducible refine (spec_Digits.calls k a0_0 t171 _ A4.out).mono ?_
    rintro e w18 ⟨rfl, hb⟩
    refine ⟨_, rfl, ?_⟩
    replace BK169 := bk BK169 hb
    replace HB := bs HB hb
    (try clear hb)
    (try clear hb2)
    (try clear hk)
    (try clear hi)
    refine hK.out _ _ ⟨bc0 BK169.out, bc1 BK169.out, bc2 BK169.out, bc3 BK169.out⟩ (fun hHeld => ?_)
    clear hK K
    refine nA (some 8) ?_
    refine pA 3 (some 9) (bz 19 0xc63f) HT_ ?_
    refine oA 6 (some 12) (bz 19 0xc67f) HT_ (fun K hK => ?_)
    refine gA Tryd.func129 #[.int .i64 a0_1] ?_
    with_reducible refine (spec_Digits.calls k a0_1 t172 _ A6.out).mono ?_
    rintro e w19 ⟨rfl, hb⟩
    refine ⟨_, rfl, ?_⟩
    replace BK169 := bk BK169 hb
    replace HB := bs HB hb
    (try clear hb)
    (try clear hb2)
    (try clear hk)
    (try clear hi)
    refine hK.out _ _ ⟨bc0 BK169.out, bc1 BK169.out, bc2 BK169.out, bc3 BK169.out⟩ (fun hHeld => ?_)
    clear hK K
    refine nA (some 12) ?_
    refine pA 7 (some 13) (bz 19 0xc6ff) HT_ ?_
    refine pA 8 (some 14) (bz 19 0xc7ff) HT_ ?_
    refine oA 11 (some 17) (bz 19 0xcfff) HT_ (fun K hK => ?_)
    refine gA Tryd.func129 #[.int .i64 a0_2] ?_
    with_reducible refine (spec_Digits.calls k a0_2 t173 _ A9.out).mono ?_
    rintro e w20 ⟨rfl, hb⟩
    refine ⟨_, rfl, ?_⟩
    replace BK169 := bk BK169 hb
    replace HB := bs HB hb
    (try clear hb)
    (try clear hb2)
    (try clear hk)
    (try clear hi)
    refine hK.out _ _ ⟨bc0 BK169.out, bc1 BK169.out, bc2 BK169.out, bc3 BK169.out⟩ (fun hHeld => ?_)
    clear hK K
    refine nA (some 17) ?_
    refine pA 12 (some 18) (bz 19 0xdfff) HT_ ?_
    refine pA 13 (some 19) (bz 19 0xffff) HT_ ?_
    refine oA 16 (some 22) (bz 19 0x1ffff) HT_ (fun K hK => ?_)
    refine gA Tryd.func129 #[.int .i64 a0_3] ?_
    with_reducible refine (spec_Digits.calls k a0_3 t174 _ A12.out).mono ?_
    rintro e w21 ⟨rfl, hb⟩
    refine ⟨_, rfl, ?_⟩
    replace BK169 := bk BK169 hb
    replace HB := bs HB hb
    (try clear hb)
    (try clear hb2)
    (try clear hk)
    (try clear hi)
    refine hK.out _ _ ⟨bc0 BK169.out, bc1 BK169.out, bc2 BK169.out, bc3 BK169.out⟩ (fun hHeld => ?_)
    clear hK K
    refine nA (some 22) ?_
    refine pA 17 (some 23) (bz 19 0x3ffff) HT_ ?_
    refine pA 18 (some 2) (bz 19 0x7ffff) HT_ ?_
    refine done_ (done_of HT_.out (by kernel_rfl)) ?_
    try go_wp2
    go_ret
    exact ⟨y0_7, bI HB.out⟩
  · replace c3 := Bool.eq_false_iff.mpr c3
    subst c3
    rw [if_neg (show ¬ (false = true) by decide)] at H
    obtain rfl := Option.some.inj H
    go_enter Tryd.func147, Tryd.ntmps147
    go_wp2_with (first | ((with_reducible refine gd 1 ?_); refine bA 1 #[.int .i64 a0_0, .int .i64 a0_1, .int .i64 a0_2, .int .i64 a0_3] 150 ?_; intro gb169 hg w22 hbox hb; have BK169 := Aside0.mk (hbox); have GW169 := bg hg HB; have GJ169 := gi GW169; have GE169 := GW169; replace HB := bs HB hb; clear hb hbox hg; obtain ⟨hcz23_0, hcz23_1, hcz23_2, hcz23_3, hfz23_0, hfz23_1, hfz23_2, hfz23_3⟩ := cs4 BK169) | ((with_reducible refine gate_callee (f := 153) rfl ?_); refine gB (some 4) Tryd.func153 #[.agg #[.int .i64 a0_0, .int .i64 a0_1, .int .i64 a0_2, .int .i64 a0_3]] ?_; (with_reducible refine (spec_TxOk.calls a0_0 a0_1 a0_2 a0_3 false _ A2.out).mono ?_); rintro e w24 ⟨rfl, hb⟩; refine ⟨_, rfl, ?_⟩; replace BK169 := bk BK169 hb; replace HB := bs HB hb; (try clear hb); (try clear hb2); (try clear hk); (try clear hi)))
    go_ret
    exact ⟨y0_7, bI HB.out⟩

end Go.Proofs.YtcmldmlmhpfjhaaDoor.PFnExactSafeBytes
