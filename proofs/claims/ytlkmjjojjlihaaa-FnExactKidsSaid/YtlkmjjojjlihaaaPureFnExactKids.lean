/- The law FnExactKids over numbers and lists: both sides of Kids come to one list, and it is new. No condition. -/
import Derived.Test.YtlkmjjojjlihaaaStatFnExactKids
namespace Go.Proofs.Ytlkmjjojjlihaaa.PFnExactKids
open Go.RowKit Go.Proofs.YtlkmjjojjlihaaaW.PrintWords Go.Proofs.YtlkmjjojjlihaaaW.PrintLast
set_option linter.unusedVariables false
set_option linter.unusedSimpArgs false
theorem wn {m n : Nat} (h : m < n) (hn : n ≤ 9223372036854775807) : wrap64 ((m : Int) + 1) = ((m + 1 : Nat) : Int) := by unfold wrap64; omega
theorem wi {a : Int} {n : Nat} (h0 : 0 ≤ a) (h : a + (n : Int) ≤ 9223372036854775807) : ∀ {m : Nat}, m < n → wrap64 (a + (m : Int) + 1) = a + ((m + 1 : Nat) : Int) := by
  intro m hm
  unfold wrap64
  omega
theorem len_ok {n : Nat} (h : n ≤ maxLen) : n ≤ 9223372036854775807 := by unfold maxLen at h; omega
theorem set_take {α : Type} (l : List α) (n : Nat) (x : α) (h : n < l.length) : (l.set n x).take (n + 1) = l.take n ++ [x] := by
  rw [List.take_succ_eq_append_getElem (by simpa using h), List.take_set_of_le (Nat.le_refl _)]
  simp
theorem drop_at (l : List Int) (n : Nat) (h : n < l.length) : l.drop n = rd l (n : Int) :: l.drop (n + 1) := by
  rw [List.drop_eq_getElem_cons h]
  simp [rd, List.getD_eq_getElem?_getD, List.getElem?_eq_getElem h]
/-- n numbers that follow each other, from a on. -/
def marks (a : Int) : Nat → List Int
  | 0 => []
  | n + 1 => a :: marks (a + 1) n
theorem marks_length : ∀ (n : Nat) (a : Int), (marks a n).length = n
  | 0, _ => rfl
  | n + 1, a => by simp [marks, marks_length n]
theorem wf64 {n : Int} (h : (Lit.int .i64 n).wf = true) : -9223372036854775808 ≤ n ∧ n ≤ 9223372036854775807 := by
  simp [Lit.wf, IntKind.min, IntKind.max, IntKind.bits, IntKind.signed] at h
  omega
def confB (a b : Int) : Bool := decide (4 ≤ a ∧ a ≤ 7 ∧ 1 ≤ b ∧ b ≤ 6)
theorem implConf_at (a b : Int) : impl_ConfOk.f a b = some (confB a b) := by
  unfold impl_ConfOk.f impl_within.f confB
  by_cases h : a ≥ 4 <;> by_cases h2 : a ≤ 7 <;> by_cases h3 : b ≥ 1 <;> simp [h, h2, h3] <;> omega
theorem specConf_at (a b : Int) : spec_ConfOk.f a b = some (confB a b) := implConf_at a b
/-- At which place of the order of a view a replica is; -1 where there is none. -/
def seatZ (a b v i : Int) : Int := if confB a b = true ∧ 0 ≤ v ∧ 0 ≤ i ∧ i < a then (i + a - v % a) % a else -1
/-- Who sits at a place. -/
def sitsZ (a b v s : Int) : Int := if confB a b = true ∧ 0 ≤ v ∧ 0 ≤ s ∧ s < a then (v % a + s) % a else -1
theorem confB_iff {a b : Int} (h : confB a b = true) : (a = 4 ∨ a = 5 ∨ a = 6 ∨ a = 7) ∧ 1 ≤ b ∧ b ≤ 6 := by
  unfold confB at h
  have := of_decide_eq_true h
  omega
theorem specSeat_at (a b v i : Int) (hi : -9223372036854775808 ≤ i ∧ i ≤ 9223372036854775807) : spec_Seat.f a b v i = some (seatZ a b v i) := by
  unfold spec_Seat.f spec_l1In.f seatZ
  rw [specConf_at, Option.bind_some]
  by_cases hc : confB a b = true
  · obtain ⟨ha, hb⟩ := confB_iff hc
    rw [if_pos hc]
    by_cases hv : v < 0
    · rw [if_pos hv, if_neg (by omega)]
    · rw [if_neg hv]
      have hw : wrap64 (a - 1) = a - 1 := by unfold wrap64; omega
      rw [hw]
      by_cases h0 : i ≥ 0
      · rw [if_pos h0, Option.bind_some]
        by_cases h1 : i ≤ a - 1
        · rw [if_pos (decide_eq_true h1), if_neg (by omega), if_pos ⟨hc, by omega, by omega, by omega⟩]
          rw [Int.tmod_eq_emod_of_nonneg (by omega : 0 ≤ v)]
          have hm0 := Int.emod_nonneg v (show a ≠ 0 by omega)
          have hm1 := Int.emod_lt_of_pos v (show 0 < a by omega)
          have e1 : wrap64 (i + a) = i + a := by unfold wrap64; omega
          have e2 : wrap64 (i + a - v % a) = i + a - v % a := by unfold wrap64; omega
          rw [e1, e2, Int.tmod_eq_emod_of_nonneg (by omega)]
        · rw [if_neg (by simp [h1]), if_neg (by omega)]
      · rw [if_neg h0, Option.bind_some, if_neg (by simp), if_neg (by omega)]
  · rw [if_neg hc, if_neg (fun h => hc h.1)]
theorem implSeat_at (a b v i : Int) (hi : -9223372036854775808 ≤ i ∧ i ≤ 9223372036854775807) : impl_Seat.f a b v i = some (seatZ a b v i) := by
  unfold impl_Seat.f impl_within.f seatZ
  rw [implConf_at, Option.bind_some]
  by_cases hc : confB a b = true
  · obtain ⟨ha, hb⟩ := confB_iff hc
    rw [if_pos hc]
    by_cases hv : v < 0
    · rw [if_pos hv, if_neg (by omega)]
    · rw [if_neg hv]
      have hw : wrap64 (a - 1) = a - 1 := by unfold wrap64; omega
      rw [hw]
      by_cases h0 : i ≥ 0
      · rw [if_pos h0, Option.bind_some]
        by_cases h1 : i ≤ a - 1
        · rw [if_pos (decide_eq_true h1), if_neg (by omega), if_pos ⟨hc, by omega, by omega, by omega⟩]
          rw [Int.tmod_eq_emod_of_nonneg (by omega : 0 ≤ v)]
          have hm0 := Int.emod_nonneg v (show a ≠ 0 by omega)
          have hm1 := Int.emod_lt_of_pos v (show 0 < a by omega)
          have e1 : wrap64 (i - v % a) = i - v % a := by unfold wrap64; omega
          have e2 : wrap64 (i - v % a + a) = i + a - v % a := by unfold wrap64; omega
          rw [e1, e2, Int.tmod_eq_emod_of_nonneg (by omega)]
        · rw [if_neg (by simp [h1]), if_neg (by omega)]
      · rw [if_neg h0, Option.bind_some, if_neg (by simp), if_neg (by omega)]
  · rw [if_neg hc, if_neg (fun h => hc h.1)]
theorem specSits_at (a b v i : Int) : spec_Sits.f a b v i = some (sitsZ a b v i) := by
  unfold spec_Sits.f spec_l1In.f sitsZ
  rw [specConf_at, Option.bind_some]
  by_cases hc : confB a b = true
  · obtain ⟨ha, hb⟩ := confB_iff hc
    rw [if_pos hc]
    by_cases hv : v < 0
    · rw [if_pos hv, if_neg (by omega)]
    · rw [if_neg hv]
      have hw : wrap64 (a - 1) = a - 1 := by unfold wrap64; omega
      rw [hw]
      by_cases h0 : i ≥ 0
      · rw [if_pos h0, Option.bind_some]
        by_cases h1 : i ≤ a - 1
        · rw [if_pos (decide_eq_true h1), if_neg (by omega), if_pos ⟨hc, by omega, by omega, by omega⟩]
          rw [Int.tmod_eq_emod_of_nonneg (by omega : 0 ≤ v)]
          have hm0 := Int.emod_nonneg v (show a ≠ 0 by omega)
          have hm1 := Int.emod_lt_of_pos v (show 0 < a by omega)
          have e1 : wrap64 (v % a + i) = v % a + i := by unfold wrap64; omega
          rw [e1, Int.tmod_eq_emod_of_nonneg (by omega)]
        · rw [if_neg (by simp [h1]), if_neg (by omega)]
      · rw [if_neg h0, Option.bind_some, if_neg (by simp), if_neg (by omega)]
  · rw [if_neg hc, if_neg (fun h => hc h.1)]
theorem implSits_at (a b v i : Int) : impl_Sits.f a b v i = some (sitsZ a b v i) := specSits_at a b v i
theorem seatZ_bd {a b v i : Int} : -1 ≤ seatZ a b v i ∧ (0 ≤ seatZ a b v i → confB a b = true ∧ 0 ≤ v ∧ 0 ≤ i ∧ i < a ∧ seatZ a b v i < a) := by
  unfold seatZ
  split
  · rename_i h
    obtain ⟨ha, _⟩ := confB_iff h.1
    have h1 := Int.emod_nonneg (i + a - v % a) (show a ≠ 0 by omega)
    have h2 := Int.emod_lt_of_pos (i + a - v % a) (show 0 < a by omega)
    exact ⟨by omega, fun _ => ⟨h.1, h.2.1, h.2.2.1, h.2.2.2, h2⟩⟩
  · exact ⟨by omega, fun h => by omega⟩
theorem sitsZ_bd {a b v i : Int} : -1 ≤ sitsZ a b v i ∧ sitsZ a b v i < 7 ∧ (0 ≤ sitsZ a b v i → sitsZ a b v i < a) := by
  unfold sitsZ
  split
  · rename_i h
    obtain ⟨ha, _⟩ := confB_iff h.1
    have h1 := Int.emod_nonneg (v % a + i) (show a ≠ 0 by omega)
    have h2 := Int.emod_lt_of_pos (v % a + i) (show 0 < a by omega)
    exact ⟨by omega, by omega, fun _ => h2⟩
  · exact ⟨by omega, by omega, fun h => by omega⟩
/-- To whom a replica hands; -1 of the root, and where there is none. -/
def upZ (a b v i : Int) : Int := if seatZ a b v i ≤ 0 then -1 else sitsZ a b v ((seatZ a b v i - 1) / b)
theorem up_div {b s : Int} (hb : 1 ≤ b ∧ b ≤ 6) (hs : 0 < s ∧ s < 7) : wrap64 (Int.tdiv (wrap64 (s - 1)) b) = (s - 1) / b := by
  have e1 : wrap64 (s - 1) = s - 1 := by unfold wrap64; omega
  have h0 : 0 ≤ (s - 1) / b := Int.ediv_nonneg (by omega) (by omega)
  have h1 : (s - 1) / b ≤ s - 1 := Int.ediv_le_self _ (by omega)
  rw [e1, Int.tdiv_eq_ediv_of_nonneg (by omega)]
  unfold wrap64
  omega
theorem specUp_at (a b v i : Int) (hi : -9223372036854775808 ≤ i ∧ i ≤ 9223372036854775807) : spec_Up.f a b v i = some (upZ a b v i) := by
  unfold spec_Up.f upZ
  rw [specSeat_at a b v i hi, Option.bind_some]
  by_cases h : seatZ a b v i ≤ 0
  · rw [if_pos h, if_pos h]
  · obtain ⟨_, h2⟩ := seatZ_bd (a := a) (b := b) (v := v) (i := i)
    obtain ⟨hc, _, _, _, h3⟩ := h2 (by omega)
    obtain ⟨ha, hb⟩ := confB_iff hc
    rw [if_neg h, if_neg h, if_neg (by omega), up_div hb ⟨by omega, by omega⟩, specSits_at, Option.bind_some]
theorem implUp_at (a b v i : Int) (hi : -9223372036854775808 ≤ i ∧ i ≤ 9223372036854775807) : impl_Up.f a b v i = some (upZ a b v i) := by
  unfold impl_Up.f upZ
  rw [implSeat_at a b v i hi, Option.bind_some]
  by_cases h : seatZ a b v i ≤ 0
  · rw [if_pos (by omega), if_pos h]
  · obtain ⟨_, h2⟩ := seatZ_bd (a := a) (b := b) (v := v) (i := i)
    obtain ⟨hc, _, _, _, h3⟩ := h2 (by omega)
    obtain ⟨ha, hb⟩ := confB_iff hc
    rw [if_neg (by omega), if_neg h, if_neg (by omega), up_div hb ⟨by omega, by omega⟩, implSits_at, Option.bind_some]
/-- Those from m on, n of them, whose Up is i. -/
def kidsZ (a b v i : Int) (m : Nat) : Nat → List Int
  | 0 => []
  | n + 1 => if upZ a b v (m : Int) = i then (m : Int) :: kidsZ a b v i (m + 1) n else kidsZ a b v i (m + 1) n
theorem kidsZ_length (a b v i : Int) : ∀ (n m : Nat), (kidsZ a b v i m n).length ≤ n
  | 0, _ => by simp [kidsZ]
  | n + 1, m => by
    have := kidsZ_length a b v i n (m + 1)
    unfold kidsZ
    split <;> simp <;> omega
theorem specKids_l (a b v i : Int) (hi : 0 ≤ i) (na : Nat) (ha : a = (na : Int)) (h7 : na ≤ 7) : ∀ (d k m : Nat) (out : List Int), m + d = na → out.length + d < 17592186044416 → 2 * d + 1 < k →
    spec_Kids.l0 k v i out (m : Int) a b = some (out ++ kidsZ a b v i m d) := by
  intro d
  induction d with
  | zero =>
    intro k m out hd ho hk
    obtain ⟨k, rfl⟩ : ∃ q, k = q + 2 := ⟨k - 2, by omega⟩
    simp only [spec_Kids.l0, spec_Kids.j1]
    rw [if_neg (by omega), if_neg (by simp)]
    simp [kidsZ]
  | succ d ih =>
    intro k m out hd ho hk
    obtain ⟨k, rfl⟩ : ∃ q, k = q + 2 := ⟨k - 2, by omega⟩
    simp only [spec_Kids.l0, spec_Kids.j1]
    rw [if_pos (by omega), if_pos (decide_eq_true hi), specUp_at a b v m ⟨by omega, by omega⟩, Option.bind_some, wn (n := na) (by omega) (by omega), kidsZ]
    by_cases h : upZ a b v (m : Int) = i
    · rw [if_pos h, if_pos h, if_pos (by omega), ih k (m + 1) _ (by omega) (by simp; omega) (by omega)]
      simp
    · rw [if_neg h, if_neg h, ih k (m + 1) _ (by omega) (by omega) (by omega)]
theorem implKids_l (a b v i : Int) (hi : -9223372036854775808 ≤ i ∧ i ≤ 9223372036854775807) (hs : 0 ≤ seatZ a b v i) (na : Nat) (ha : a = (na : Int)) (h7 : na ≤ 7) : ∀ (d k m : Nat) (out : List Int), m + d = na → out.length + d < 17592186044416 → 2 * d + 1 < k →
    impl_Kids.l0 k v i out (m : Int) a b = some (out ++ kidsZ a b v i m d) := by
  intro d
  induction d with
  | zero =>
    intro k m out hd ho hk
    obtain ⟨k, rfl⟩ : ∃ q, k = q + 2 := ⟨k - 2, by omega⟩
    simp only [impl_Kids.l0, impl_Kids.j1]
    rw [implSeat_at a b v i hi, Option.bind_some, if_pos hs, if_neg (by simp; omega)]
    simp [kidsZ]
  | succ d ih =>
    intro k m out hd ho hk
    obtain ⟨k, rfl⟩ : ∃ q, k = q + 2 := ⟨k - 2, by omega⟩
    simp only [impl_Kids.l0, impl_Kids.j1]
    have hlt : (m : Int) < a := by omega
    rw [implSeat_at a b v i hi, Option.bind_some, if_pos hs, if_pos (decide_eq_true hlt), implUp_at a b v m ⟨by omega, by omega⟩, Option.bind_some, wn (n := na) (by omega) (by omega), kidsZ]
    by_cases h : upZ a b v (m : Int) = i
    · rw [if_pos h, if_pos h, if_pos (by omega), ih k (m + 1) _ (by omega) (by simp; omega) (by omega)]
      simp
    · rw [if_neg h, if_neg h, ih k (m + 1) _ (by omega) (by omega) (by omega)]
/-- One who has no place has no kids. -/
theorem kids_none (a b v i : Int) (hi : 0 ≤ i) (hs : seatZ a b v i < 0) : ∀ (n m : Nat), kidsZ a b v i m n = [] := by
  intro n
  induction n with
  | zero => intro m; rfl
  | succ n ih =>
    intro m
    unfold kidsZ
    rw [ih (m + 1)]
    have h : upZ a b v (m : Int) ≠ i := by
      intro e
      unfold upZ at e
      by_cases h0 : seatZ a b v m ≤ 0
      · rw [if_pos h0] at e; omega
      · rw [if_neg h0] at e
        obtain ⟨_, h2⟩ := seatZ_bd (a := a) (b := b) (v := v) (i := (m : Int))
        obtain ⟨hc, hv, _, _, _⟩ := h2 (by omega)
        obtain ⟨_, _, h5⟩ := sitsZ_bd (a := a) (b := b) (v := v) (i := (seatZ a b v m - 1) / b)
        rw [e] at h5
        have h6 := h5 hi
        obtain ⟨ha, _⟩ := confB_iff hc
        unfold seatZ at hs
        rw [if_pos ⟨hc, hv, hi, h6⟩] at hs
        have := Int.emod_nonneg (i + a - v % a) (show a ≠ 0 by omega)
        omega
    rw [if_neg h]
def kidsOf (a b v i : Int) : List Int := if 0 ≤ seatZ a b v i then kidsZ a b v i 0 a.toNat else []
theorem kidsOf_length (a b v i : Int) : (kidsOf a b v i).length ≤ 7 := by
  unfold kidsOf
  split
  · rename_i h
    obtain ⟨_, h2⟩ := seatZ_bd (a := a) (b := b) (v := v) (i := i)
    obtain ⟨hc, _⟩ := h2 h
    obtain ⟨ha, _⟩ := confB_iff hc
    have := kidsZ_length a b v i a.toNat 0
    omega
  · simp
theorem specKids_at (a b v i : Int) (hi : -9223372036854775808 ≤ i ∧ i ≤ 9223372036854775807) (k : Nat) (hk : 16 < k) : spec_Kids.f k a b v i = some (kidsOf a b v i) := by
  unfold spec_Kids.f kidsOf
  rw [Option.bind_some, specConf_at, Option.bind_some]
  by_cases hc : confB a b = true
  · obtain ⟨ha, _⟩ := confB_iff hc
    rw [if_pos hc]
    by_cases h0 : 0 ≤ i
    · have := specKids_l a b v i h0 a.toNat (by omega) (by omega) a.toNat k 0 [] (by omega) (by simp; omega) (by omega)
      rw [show ((0 : Nat) : Int) = 0 from rfl] at this
      rw [this]
      by_cases hs : 0 ≤ seatZ a b v i
      · rw [if_pos hs]; rfl
      · rw [if_neg hs, kids_none a b v i h0 (by omega)]; rfl
    · have hs : ¬ 0 ≤ seatZ a b v i := by
        intro h
        obtain ⟨_, h2⟩ := seatZ_bd (a := a) (b := b) (v := v) (i := i)
        have := (h2 h).2.2.1
        omega
      rw [if_neg hs]
      obtain ⟨k, rfl⟩ : ∃ q, k = q + 2 := ⟨k - 2, by omega⟩
      simp only [spec_Kids.l0, spec_Kids.j1]
      rw [if_pos (by omega), if_neg (by simp; omega)]
  · have hs : ¬ 0 ≤ seatZ a b v i := by
      intro h
      obtain ⟨_, h2⟩ := seatZ_bd (a := a) (b := b) (v := v) (i := i)
      exact hc (h2 h).1
    rw [if_neg hc, if_neg hs]
theorem implKids_at (a b v i : Int) (hi : -9223372036854775808 ≤ i ∧ i ≤ 9223372036854775807) (k : Nat) (hk : 16 < k) : impl_Kids.f k a b v i = some (kidsOf a b v i) := by
  unfold impl_Kids.f kidsOf
  by_cases hs : 0 ≤ seatZ a b v i
  · obtain ⟨_, h2⟩ := seatZ_bd (a := a) (b := b) (v := v) (i := i)
    obtain ⟨hc, _⟩ := h2 hs
    obtain ⟨ha, _⟩ := confB_iff hc
    have := implKids_l a b v i hi hs a.toNat (by omega) (by omega) a.toNat k 0 [] (by omega) (by simp; omega) (by omega)
    rw [show ((0 : Nat) : Int) = 0 from rfl] at this
    rw [this, if_pos hs]; rfl
  · obtain ⟨k, rfl⟩ : ∃ q, k = q + 2 := ⟨k - 2, by omega⟩
    simp only [impl_Kids.l0, impl_Kids.j1]
    rw [implSeat_at a b v i hi, Option.bind_some, if_neg (by omega), if_neg (by simp), if_neg hs]
theorem eqIntS_l (xs ys : List Int) (hl : ys.length = xs.length) (hn : xs.length ≤ 9223372036854775807) : ∀ (d k m : Nat), m + d = xs.length → d < k →
    laws_eqIntS.l0 k xs ys (m : Int) = some (decide (xs.drop m = ys.drop m)) := by
  intro d
  induction d with
  | zero =>
    intro k m hd hk
    obtain ⟨k, rfl⟩ : ∃ q, k = q + 1 := ⟨k - 1, by omega⟩
    simp only [laws_eqIntS.l0]
    rw [if_neg (by omega), List.drop_of_length_le (by omega), List.drop_of_length_le (by omega)]
    simp
  | succ d ih =>
    intro k m hd hk
    obtain ⟨k, rfl⟩ : ∃ q, k = q + 1 := ⟨k - 1, by omega⟩
    simp only [laws_eqIntS.l0]
    rw [if_pos (by omega), if_pos (by omega), if_pos (by omega), wn (n := xs.length) (by omega) hn, ih k (m + 1) (by omega) (by omega), drop_at xs m (by omega), drop_at ys m (by omega)]
    by_cases h : rd xs m = rd ys m <;> simp [h]
theorem eqIntS_at (xs ys : List Int) (hn : xs.length ≤ 9223372036854775807) (k : Nat) (hk : xs.length < k) : laws_eqIntS.f k xs ys = some (decide (xs = ys)) := by
  unfold laws_eqIntS.f
  by_cases h : (xs.length : Int) = (ys.length : Int)
  · rw [if_pos h]
    have := eqIntS_l xs ys (by omega) hn xs.length k 0 (by omega) hk
    simpa using this
  · rw [if_neg h]
    have : xs ≠ ys := fun e => h (by rw [e])
    simp [this]
theorem markIntS_l (n : Nat) (a : Int) (h0 : 0 ≤ a) (ha : a + (n : Int) ≤ 9223372036854775807) : ∀ (d k m : Nat) (xs : List Int), xs.length = n → m + d = n → d < k →
    laws_markIntS.l0 k xs (a + (m : Int)) (m : Int) = some (a + (n : Int), xs.take m ++ marks (a + (m : Int)) d) := by
  intro d
  induction d with
  | zero =>
    intro k m xs hx hd hk
    obtain ⟨k, rfl⟩ : ∃ q, k = q + 1 := ⟨k - 1, by omega⟩
    simp only [laws_markIntS.l0]
    rw [if_neg (by omega), List.take_of_length_le (by omega)]
    obtain rfl : m = n := by omega
    simp [marks]
  | succ d ih =>
    intro k m xs hx hd hk
    obtain ⟨k, rfl⟩ : ∃ q, k = q + 1 := ⟨k - 1, by omega⟩
    simp only [laws_markIntS.l0]
    rw [if_pos (by omega), if_pos (by omega), wn (n := n) (by omega) (by omega), wi h0 ha (by omega), ih k (m + 1) _ (by simpa using hx) (by omega) (by omega), Int.toNat_natCast, set_take _ _ _ (by omega), marks]
    rw [show a + ((m + 1 : Nat) : Int) = a + (m : Int) + 1 by omega]
    simp
theorem markIntS_at (xs : List Int) (a : Int) (h0 : 0 ≤ a) (ha : a + (xs.length : Int) ≤ 9223372036854775807) (k : Nat) (hk : xs.length < k) :
    laws_markIntS.f k xs a = some (a + (xs.length : Int), marks a xs.length) := by
  unfold laws_markIntS.f
  have := markIntS_l xs.length a h0 ha xs.length k 0 xs rfl (by omega) hk
  simpa using this
theorem heldIntS_l (xs : List Int) (a : Int) (h0 : 0 ≤ a) (ha : a + (xs.length : Int) ≤ 9223372036854775807) : ∀ (d k m : Nat), m + d = xs.length → xs.drop m = marks (a + (m : Int)) d → d < k →
    laws_heldIntS.l0 k xs (a + (m : Int)) (m : Int) = some (a + (xs.length : Int)) := by
  intro d
  induction d with
  | zero =>
    intro k m hd hx hk
    obtain ⟨k, rfl⟩ : ∃ q, k = q + 1 := ⟨k - 1, by omega⟩
    simp only [laws_heldIntS.l0]
    rw [if_neg (by omega)]
    obtain rfl : m = xs.length := by omega
    rfl
  | succ d ih =>
    intro k m hd hx hk
    obtain ⟨k, rfl⟩ : ∃ q, k = q + 1 := ⟨k - 1, by omega⟩
    rw [drop_at xs m (by omega), marks] at hx
    obtain ⟨h1, h2⟩ := List.cons.inj hx
    simp only [laws_heldIntS.l0]
    rw [if_pos (by omega), if_pos (by omega), if_pos h1, wn (n := xs.length) (by omega) (by omega), wi h0 ha (by omega), ih k (m + 1) (by omega) (by rw [h2]; congr 1; omega) (by omega)]
theorem heldIntS_at (n : Nat) (a : Int) (h0 : 0 ≤ a) (ha : a + (n : Int) ≤ 9223372036854775807) (k : Nat) (hk : n < k) : laws_heldIntS.f k (marks a n) a = some (a + (n : Int)) := by
  unfold laws_heldIntS.f
  have hl := marks_length n a
  have := heldIntS_l (marks a n) a h0 (by omega) n k 0 (by omega) (by simp) hk
  rw [hl] at this
  simpa using this
theorem Pure.FnExactKids : StatFnExactKids := by
  intro a b v i _ _ _ hi
  unfold laws_FnExactKids.f
  refine ⟨20, ?_⟩
  have e1 := specKids_at a b v i (wf64 hi) 20 (by omega)
  have e2 := implKids_at a b v i (wf64 hi) 20 (by omega)
  have hl := kidsOf_length a b v i
  generalize kidsOf a b v i = l at *
  have e3 := eqIntS_at l l (by omega) 20 (by omega)
  have e4 := markIntS_at l 1 (by omega) (by omega) 20 (by omega)
  have e5 := heldIntS_at l.length 1 (by omega) (by omega) 20 (by omega)
  have b1 : ¬ 1 + (l.length : Int) < 0 := by omega
  simp [laws_toConf.f, e1, e2, e3, e4, e5, b1]
end Go.Proofs.Ytlkmjjojjlihaaa.PFnExactKids
