/- The law FnExactUnder over numbers and lists: both sides of Under come to one list, and it is new. No condition. -/
import Derived.Test.YtjbkdffimfbdnaaStatFnExactUnder
namespace Go.Proofs.Ytjbkdffimfbdnaa.PFnExactUnder
open Go.RowKit Go.Proofs.YtjbkdffimfbdnaaW.PrintWords Go.Proofs.YtjbkdffimfbdnaaW.PrintLast
set_option linter.unusedVariables false
set_option linter.unusedSimpArgs false
theorem wn {m n : Nat} (h : m < n) (hn : n ≤ 9223372036854775807) : wrap64 ((m : Int) + 1) = ((m + 1 : Nat) : Int) := by unfold wrap64; omega
theorem wi {a : Int} {n : Nat} (h0 : 0 ≤ a) (h : a + (n : Int) ≤ 9223372036854775807) : ∀ {m : Nat}, m < n → wrap64 (a + (m : Int) + 1) = a + ((m + 1 : Nat) : Int) := by
  intro m hm
  unfold wrap64
  omega
theorem len_ok {n : Nat} (h : n ≤ maxLen) : n ≤ 9223372036854775807 := by unfold maxLen at h; omega
theorem set_take {α : Type} (l : List α) (n : Nat) (x : α) (h : n < l.length) : (l.set n x).take (n + 1) = l.take n ++ [x] := by
  rw [List.take_succ_eq_append_getElem (by simpa using h), List.take_set_of_le (Nat.le_refl _)]
  simp
theorem drop_at (l : List Int) (n : Nat) (h : n < l.length) : l.drop n = rd l (n : Int) :: l.drop (n + 1) := by
  rw [List.drop_eq_getElem_cons h]
  simp [rd, List.getD_eq_getElem?_getD, List.getElem?_eq_getElem h]
/-- n numbers that follow each other, from a on. -/
def marks (a : Int) : Nat → List Int
  | 0 => []
  | n + 1 => a :: marks (a + 1) n
theorem marks_length : ∀ (n : Nat) (a : Int), (marks a n).length = n
  | 0, _ => rfl
  | n + 1, a => by simp [marks, marks_length n]
theorem wf64 {n : Int} (h : (Lit.int .i64 n).wf = true) : -9223372036854775808 ≤ n ∧ n ≤ 9223372036854775807 := by
  simp [Lit.wf, IntKind.min, IntKind.max, IntKind.bits, IntKind.signed] at h
  omega
def confB (a b : Int) : Bool := decide (4 ≤ a ∧ a ≤ 7 ∧ 1 ≤ b ∧ b ≤ 6)
theorem implConf_at (a b : Int) : impl_ConfOk.f a b = some (confB a b) := by
  unfold impl_ConfOk.f impl_within.f confB
  by_cases h : a ≥ 4 <;> by_cases h2 : a ≤ 7 <;> by_cases h3 : b ≥ 1 <;> simp [h, h2, h3] <;> omega
theorem specConf_at (a b : Int) : spec_ConfOk.f a b = some (confB a b) := implConf_at a b
/-- At which place of the order of a view a replica is; -1 where there is none. -/
def seatZ (a b v i : Int) : Int := if confB a b = true ∧ 0 ≤ v ∧ 0 ≤ i ∧ i < a then (i + a - v % a) % a else -1
/-- Who sits at a place. -/
def sitsZ (a b v s : Int) : Int := if confB a b = true ∧ 0 ≤ v ∧ 0 ≤ s ∧ s < a then (v % a + s) % a else -1
theorem confB_iff {a b : Int} (h : confB a b = true) : (a = 4 ∨ a = 5 ∨ a = 6 ∨ a = 7) ∧ 1 ≤ b ∧ b ≤ 6 := by
  unfold confB at h
  have := of_decide_eq_true h
  omega
theorem specSeat_at (a b v i : Int) (hi : -9223372036854775808 ≤ i ∧ i ≤ 9223372036854775807) : spec_Seat.f a b v i = some (seatZ a b v i) := by
  unfold spec_Seat.f spec_l1In.f seatZ
  rw [specConf_at, Option.bind_some]
  by_cases hc : confB a b = true
  · obtain ⟨ha, hb⟩ := confB_iff hc
    rw [if_pos hc]
    by_cases hv : v < 0
    · rw [if_pos hv, if_neg (by omega)]
    · rw [if_neg hv]
      have hw : wrap64 (a - 1) = a - 1 := by unfold wrap64; omega
      rw [hw]
      by_cases h0 : i ≥ 0
      · rw [if_pos h0, Option.bind_some]
        by_cases h1 : i ≤ a - 1
        · rw [if_pos (decide_eq_true h1), if_neg (by omega), if_pos ⟨hc, by omega, by omega, by omega⟩]
          rw [Int.tmod_eq_emod_of_nonneg (by omega : 0 ≤ v)]
          have hm0 := Int.emod_nonneg v (show a ≠ 0 by omega)
          have hm1 := Int.emod_lt_of_pos v (show 0 < a by omega)
          have e1 : wrap64 (i + a) = i + a := by unfold wrap64; omega
          have e2 : wrap64 (i + a - v % a) = i + a - v % a := by unfold wrap64; omega
          rw [e1, e2, Int.tmod_eq_emod_of_nonneg (by omega)]
        · rw [if_neg (by simp [h1]), if_neg (by omega)]
      · rw [if_neg h0, Option.bind_some, if_neg (by simp), if_neg (by omega)]
  · rw [if_neg hc, if_neg (fun h => hc h.1)]
theorem implSeat_at (a b v i : Int) (hi : -9223372036854775808 ≤ i ∧ i ≤ 9223372036854775807) : impl_Seat.f a b v i = some (seatZ a b v i) := by
  unfold impl_Seat.f impl_within.f seatZ
  rw [implConf_at, Option.bind_some]
  by_cases hc : confB a b = true
  · obtain ⟨ha, hb⟩ := confB_iff hc
    rw [if_pos hc]
    by_cases hv : v < 0
    · rw [if_pos hv, if_neg (by omega)]
    · rw [if_neg hv]
      have hw : wrap64 (a - 1) = a - 1 := by unfold wrap64; omega
      rw [hw]
      by_cases h0 : i ≥ 0
      · rw [if_pos h0, Option.bind_some]
        by_cases h1 : i ≤ a - 1
        · rw [if_pos (decide_eq_true h1), if_neg (by omega), if_pos ⟨hc, by omega, by omega, by omega⟩]
          rw [Int.tmod_eq_emod_of_nonneg (by omega : 0 ≤ v)]
          have hm0 := Int.emod_nonneg v (show a ≠ 0 by omega)
          have hm1 := Int.emod_lt_of_pos v (show 0 < a by omega)
          have e1 : wrap64 (i - v % a) = i - v % a := by unfold wrap64; omega
          have e2 : wrap64 (i - v % a + a) = i + a - v % a := by unfold wrap64; omega
          rw [e1, e2, Int.tmod_eq_emod_of_nonneg (by omega)]
        · rw [if_neg (by simp [h1]), if_neg (by omega)]
      · rw [if_neg h0, Option.bind_some, if_neg (by simp), if_neg (by omega)]
  · rw [if_neg hc, if_neg (fun h => hc h.1)]
theorem specSits_at (a b v i : Int) : spec_Sits.f a b v i = some (sitsZ a b v i) := by
  unfold spec_Sits.f spec_l1In.f sitsZ
  rw [specConf_at, Option.bind_some]
  by_cases hc : confB a b = true
  · obtain ⟨ha, hb⟩ := confB_iff hc
    rw [if_pos hc]
    by_cases hv : v < 0
    · rw [if_pos hv, if_neg (by omega)]
    · rw [if_neg hv]
      have hw : wrap64 (a - 1) = a - 1 := by unfold wrap64; omega
      rw [hw]
      by_cases h0 : i ≥ 0
      · rw [if_pos h0, Option.bind_some]
        by_cases h1 : i ≤ a - 1
        · rw [if_pos (decide_eq_true h1), if_neg (by omega), if_pos ⟨hc, by omega, by omega, by omega⟩]
          rw [Int.tmod_eq_emod_of_nonneg (by omega : 0 ≤ v)]
          have hm0 := Int.emod_nonneg v (show a ≠ 0 by omega)
          have hm1 := Int.emod_lt_of_pos v (show 0 < a by omega)
          have e1 : wrap64 (v % a + i) = v % a + i := by unfold wrap64; omega
          rw [e1, Int.tmod_eq_emod_of_nonneg (by omega)]
        · rw [if_neg (by simp [h1]), if_neg (by omega)]
      · rw [if_neg h0, Option.bind_some, if_neg (by simp), if_neg (by omega)]
  · rw [if_neg hc, if_neg (fun h => hc h.1)]
theorem implSits_at (a b v i : Int) : impl_Sits.f a b v i = some (sitsZ a b v i) := specSits_at a b v i
theorem seatZ_bd {a b v i : Int} : -1 ≤ seatZ a b v i ∧ (0 ≤ seatZ a b v i → confB a b = true ∧ 0 ≤ v ∧ 0 ≤ i ∧ i < a ∧ seatZ a b v i < a) := by
  unfold seatZ
  split
  · rename_i h
    obtain ⟨ha, _⟩ := confB_iff h.1
    have h1 := Int.emod_nonneg (i + a - v % a) (show a ≠ 0 by omega)
    have h2 := Int.emod_lt_of_pos (i + a - v % a) (show 0 < a by omega)
    exact ⟨by omega, fun _ => ⟨h.1, h.2.1, h.2.2.1, h.2.2.2, h2⟩⟩
  · exact ⟨by omega, fun h => by omega⟩
theorem sitsZ_bd {a b v i : Int} : -1 ≤ sitsZ a b v i ∧ sitsZ a b v i < 7 ∧ (0 ≤ sitsZ a b v i → sitsZ a b v i < a) := by
  unfold sitsZ
  split
  · rename_i h
    obtain ⟨ha, _⟩ := confB_iff h.1
    have h1 := Int.emod_nonneg (v % a + i) (show a ≠ 0 by omega)
    have h2 := Int.emod_lt_of_pos (v % a + i) (show 0 < a by omega)
    exact ⟨by omega, by omega, fun _ => h2⟩
  · exact ⟨by omega, by omega, fun h => by omega⟩
/-- To whom a replica hands; -1 of the root, and where there is none. -/
def upZ (a b v i : Int) : Int := if seatZ a b v i ≤ 0 then -1 else sitsZ a b v ((seatZ a b v i - 1) / b)
theorem up_div {b s : Int} (hb : 1 ≤ b ∧ b ≤ 6) (hs : 0 < s ∧ s < 7) : wrap64 (Int.tdiv (wrap64 (s - 1)) b) = (s - 1) / b := by
  have e1 : wrap64 (s - 1) = s - 1 := by unfold wrap64; omega
  have h0 : 0 ≤ (s - 1) / b := Int.ediv_nonneg (by omega) (by omega)
  have h1 : (s - 1) / b ≤ s - 1 := Int.ediv_le_self _ (by omega)
  rw [e1, Int.tdiv_eq_ediv_of_nonneg (by omega)]
  unfold wrap64
  omega
theorem specUp_at (a b v i : Int) (hi : -9223372036854775808 ≤ i ∧ i ≤ 9223372036854775807) : spec_Up.f a b v i = some (upZ a b v i) := by
  unfold spec_Up.f upZ
  rw [specSeat_at a b v i hi, Option.bind_some]
  by_cases h : seatZ a b v i ≤ 0
  · rw [if_pos h, if_pos h]
  · obtain ⟨_, h2⟩ := seatZ_bd (a := a) (b := b) (v := v) (i := i)
    obtain ⟨hc, _, _, _, h3⟩ := h2 (by omega)
    obtain ⟨ha, hb⟩ := confB_iff hc
    rw [if_neg h, if_neg h, if_neg (by omega), up_div hb ⟨by omega, by omega⟩, specSits_at, Option.bind_some]
theorem implUp_at (a b v i : Int) (hi : -9223372036854775808 ≤ i ∧ i ≤ 9223372036854775807) : impl_Up.f a b v i = some (upZ a b v i) := by
  unfold impl_Up.f upZ
  rw [implSeat_at a b v i hi, Option.bind_some]
  by_cases h : seatZ a b v i ≤ 0
  · rw [if_pos (by omega), if_pos h]
  · obtain ⟨_, h2⟩ := seatZ_bd (a := a) (b := b) (v := v) (i := i)
    obtain ⟨hc, _, _, _, h3⟩ := h2 (by omega)
    obtain ⟨ha, hb⟩ := confB_iff hc
    rw [if_neg (by omega), if_neg h, if_neg (by omega), up_div hb ⟨by omega, by omega⟩, implSits_at, Option.bind_some]
/-- The way up from i, no longer than the fuel. -/
def wayZ (a b v : Int) : Nat → Int → List Int
  | 0, _ => []
  | n + 1, i => if seatZ a b v i ≥ 0 then i :: wayZ a b v n (upZ a b v i) else []
theorem upZ_bd {a b v i : Int} : -1 ≤ upZ a b v i ∧ upZ a b v i < 7 := by
  unfold upZ
  split
  · omega
  · have := sitsZ_bd (a := a) (b := b) (v := v) (i := (seatZ a b v i - 1) / b)
    omega
/-- One's Up sits nearer to the root. -/
theorem seat_up {a b v i : Int} (h : 0 < seatZ a b v i) : seatZ a b v (upZ a b v i) = (seatZ a b v i - 1) / b := by
  obtain ⟨_, h2⟩ := seatZ_bd (a := a) (b := b) (v := v) (i := i)
  obtain ⟨hc, hv, _, _, h3⟩ := h2 (by omega)
  obtain ⟨ha, hb⟩ := confB_iff hc
  have q0 : 0 ≤ (seatZ a b v i - 1) / b := Int.ediv_nonneg (by omega) (by omega)
  have q1 : (seatZ a b v i - 1) / b ≤ seatZ a b v i - 1 := Int.ediv_le_self _ (by omega)
  unfold upZ
  rw [if_neg (by omega)]
  generalize (seatZ a b v i - 1) / b = q at q0 q1
  have hq : q < a := by omega
  unfold sitsZ
  rw [if_pos ⟨hc, hv, q0, hq⟩]
  unfold seatZ
  have m0 := Int.emod_nonneg (v % a + q) (show a ≠ 0 by omega)
  have m1 := Int.emod_lt_of_pos (v % a + q) (show 0 < a by omega)
  rw [if_pos ⟨hc, hv, m0, m1⟩]
  have w0 := Int.emod_nonneg v (show a ≠ 0 by omega)
  have w1 := Int.emod_lt_of_pos v (show 0 < a by omega)
  generalize v % a = r at *
  rcases ha with rfl | rfl | rfl | rfl <;> omega
theorem up_seat_lt {a b v i : Int} (h : 0 ≤ seatZ a b v i) : seatZ a b v (upZ a b v i) < seatZ a b v i := by
  by_cases h0 : 0 < seatZ a b v i
  · rw [seat_up h0]
    obtain ⟨_, h2⟩ := seatZ_bd (a := a) (b := b) (v := v) (i := i)
    obtain ⟨hc, hv, _, _, h3⟩ := h2 h
    obtain ⟨ha, hb⟩ := confB_iff hc
    have q1 : (seatZ a b v i - 1) / b ≤ seatZ a b v i - 1 := Int.ediv_le_self _ (by omega)
    omega
  · have e : upZ a b v i = -1 := by unfold upZ; rw [if_pos (by omega)]
    rw [e]
    have : seatZ a b v (-1) = -1 := by unfold seatZ; rw [if_neg (by omega)]
    omega
theorem specWay_l (a b v : Int) : ∀ (n k : Nat) (i : Int) (out : List Int), -9223372036854775808 ≤ i ∧ i ≤ 9223372036854775807 → seatZ a b v i < n → out.length + n < 17592186044416 → n < k →
    spec_Way.l0 k v i out a b = some (out ++ wayZ a b v n i) := by
  intro n
  induction n with
  | zero =>
    intro k i out hi hs ho hk
    obtain ⟨k, rfl⟩ : ∃ q, k = q + 1 := ⟨k - 1, by omega⟩
    simp only [spec_Way.l0]
    rw [specSeat_at a b v i hi, Option.bind_some, if_neg (by omega)]
    simp [wayZ]
  | succ n ih =>
    intro k i out hi hs ho hk
    obtain ⟨k, rfl⟩ : ∃ q, k = q + 1 := ⟨k - 1, by omega⟩
    simp only [spec_Way.l0]
    rw [specSeat_at a b v i hi, Option.bind_some, wayZ]
    by_cases h : seatZ a b v i ≥ 0
    · have hb := upZ_bd (a := a) (b := b) (v := v) (i := i)
      have hl := up_seat_lt h
      rw [if_pos h, if_pos (by omega), specUp_at a b v i hi, Option.bind_some, ih k _ _ ⟨by omega, by omega⟩ (by omega) (by simp; omega) (by omega), if_pos h]
      simp
    · rw [if_neg h, if_neg h]; simp
theorem implWay_l (a b v : Int) : ∀ (n k : Nat) (i : Int) (out : List Int), -9223372036854775808 ≤ i ∧ i ≤ 9223372036854775807 → seatZ a b v i < n → out.length + n < 17592186044416 → n < k →
    impl_Way.l0 k v i out a b = some (out ++ wayZ a b v n i) := by
  intro n
  induction n with
  | zero =>
    intro k i out hi hs ho hk
    obtain ⟨k, rfl⟩ : ∃ q, k = q + 1 := ⟨k - 1, by omega⟩
    simp only [impl_Way.l0]
    rw [implSeat_at a b v i hi, Option.bind_some, if_neg (by omega)]
    simp [wayZ]
  | succ n ih =>
    intro k i out hi hs ho hk
    obtain ⟨k, rfl⟩ : ∃ q, k = q + 1 := ⟨k - 1, by omega⟩
    simp only [impl_Way.l0]
    rw [implSeat_at a b v i hi, Option.bind_some, wayZ]
    by_cases h : seatZ a b v i ≥ 0
    · have hb := upZ_bd (a := a) (b := b) (v := v) (i := i)
      have hl := up_seat_lt h
      rw [if_pos h, if_pos (by omega), implUp_at a b v i hi, Option.bind_some, ih k _ _ ⟨by omega, by omega⟩ (by omega) (by simp; omega) (by omega), if_pos h]
      simp
    · rw [if_neg h, if_neg h]; simp
theorem seatZ_lt8 (a b v i : Int) : seatZ a b v i < (8 : Nat) := by
  obtain ⟨_, h2⟩ := seatZ_bd (a := a) (b := b) (v := v) (i := i)
  by_cases h : 0 ≤ seatZ a b v i
  · obtain ⟨hc, _, _, _, h3⟩ := h2 h
    obtain ⟨ha, _⟩ := confB_iff hc
    omega
  · omega
theorem specWay_at (a b v i : Int) (hi : -9223372036854775808 ≤ i ∧ i ≤ 9223372036854775807) (k : Nat) (hk : 8 < k) : spec_Way.f k a b v i = some (wayZ a b v 8 i) := by
  unfold spec_Way.f
  rw [specWay_l a b v 8 k i [] hi (seatZ_lt8 a b v i) (by simp) hk]; rfl
theorem implWay_at (a b v i : Int) (hi : -9223372036854775808 ≤ i ∧ i ≤ 9223372036854775807) (k : Nat) (hk : 8 < k) : impl_Way.f k a b v i = some (wayZ a b v 8 i) := by
  unfold impl_Way.f
  rw [implWay_l a b v 8 k i [] hi (seatZ_lt8 a b v i) (by simp) hk]; rfl
theorem wayZ_length (a b v : Int) : ∀ (n : Nat) (i : Int), (wayZ a b v n i).length ≤ n
  | 0, _ => by simp [wayZ]
  | n + 1, i => by
    unfold wayZ
    split
    · have := wayZ_length a b v n (upZ a b v i)
      simp; omega
    · simp
theorem specSetHas_l (xs : List Int) (x : Int) (hn : xs.length ≤ 9223372036854775807) : ∀ (d k m : Nat), m + d = xs.length → d < k →
    spec_SetHas.l0 k xs x (m : Int) = some (decide (x ∈ xs.drop m)) := by
  intro d
  induction d with
  | zero =>
    intro k m hd hk
    obtain ⟨k, rfl⟩ : ∃ q, k = q + 1 := ⟨k - 1, by omega⟩
    simp only [spec_SetHas.l0]
    rw [if_neg (by omega), List.drop_of_length_le (by omega)]
    simp
  | succ d ih =>
    intro k m hd hk
    obtain ⟨k, rfl⟩ : ∃ q, k = q + 1 := ⟨k - 1, by omega⟩
    simp only [spec_SetHas.l0]
    rw [if_pos (by omega), if_pos (by omega), wn (n := xs.length) (by omega) hn, ih k (m + 1) (by omega) (by omega), drop_at xs m (by omega)]
    by_cases h : rd xs m = x
    · simp [h]
    · have h' : ¬ x = rd xs m := fun e => h e.symm
      simp [h, h']
theorem specSetHas_at (xs : List Int) (x : Int) (hn : xs.length ≤ 9223372036854775807) (k : Nat) (hk : xs.length < k) : spec_SetHas.f k xs x = some (decide (x ∈ xs)) := by
  have := specSetHas_l xs x hn xs.length k 0 (by omega) hk
  unfold spec_SetHas.f
  simpa using this
theorem slIndex_l (xs : List Int) (x : Int) (hn : xs.length ≤ 9223372036854775807) : ∀ (d k m : Nat), m + d = xs.length → d < k →
    ∃ r, slices_Index_int_int.l0 k xs x (xs.length : Int) (m : Int) = some r ∧ decide (r ≥ 0) = decide (x ∈ xs.drop m) := by
  intro d
  induction d with
  | zero =>
    intro k m hd hk
    obtain ⟨k, rfl⟩ : ∃ q, k = q + 1 := ⟨k - 1, by omega⟩
    refine ⟨-1, ?_, ?_⟩
    · simp only [slices_Index_int_int.l0]
      rw [if_neg (by omega)]
    · rw [List.drop_of_length_le (by omega)]; simp
  | succ d ih =>
    intro k m hd hk
    obtain ⟨k, rfl⟩ : ∃ q, k = q + 1 := ⟨k - 1, by omega⟩
    obtain ⟨r, hr, h2⟩ := ih k (m + 1) (by omega) (by omega)
    simp only [slices_Index_int_int.l0]
    rw [if_pos (by omega), if_pos (by omega), if_pos (by omega), wn (n := xs.length) (by omega) hn, hr, drop_at xs m (by omega)]
    by_cases h : x = rd xs m
    · exact ⟨m, by rw [if_pos h], by simp [h]⟩
    · exact ⟨r, by rw [if_neg h], by rw [h2]; simp [h]⟩
theorem implSetHas_at (xs : List Int) (x : Int) (hn : xs.length ≤ 9223372036854775807) (k : Nat) (hk : xs.length < k) : impl_SetHas.f k xs x = some (decide (x ∈ xs)) := by
  obtain ⟨r, hr, h2⟩ := slIndex_l xs x hn xs.length k 0 (by omega) hk
  unfold impl_SetHas.f slices_Contains_int_int.f slices_Index_int_int.f
  rw [show ((0 : Nat) : Int) = 0 from rfl] at hr
  rw [hr]
  simp only [Option.bind_some, h2, List.drop_zero]
/-- Those from m on, n of them, on whose way up i is. -/
def underZ (a b v i : Int) (m : Nat) : Nat → List Int
  | 0 => []
  | n + 1 => if i ∈ wayZ a b v 8 (m : Int) then (m : Int) :: underZ a b v i (m + 1) n else underZ a b v i (m + 1) n
theorem underZ_length (a b v i : Int) : ∀ (n m : Nat), (underZ a b v i m n).length ≤ n
  | 0, _ => by simp [underZ]
  | n + 1, m => by
    have := underZ_length a b v i n (m + 1)
    unfold underZ
    split <;> simp <;> omega
theorem specUnder_l (a b v i : Int) (hi : -9223372036854775808 ≤ i ∧ i ≤ 9223372036854775807) (hs : 0 ≤ seatZ a b v i) (na : Nat) (ha : a = (na : Int)) (h7 : na ≤ 7) : ∀ (d k m : Nat) (out : List Int), m + d = na → out.length + d < 17592186044416 → 2 * d + 12 < k →
    spec_Under.l0 k v i out (m : Int) a b = some (out ++ underZ a b v i m d) := by
  intro d
  induction d with
  | zero =>
    intro k m out hd ho hk
    obtain ⟨k, rfl⟩ : ∃ q, k = q + 2 := ⟨k - 2, by omega⟩
    simp only [spec_Under.l0, spec_Under.j1]
    rw [if_neg (by omega), if_neg (by simp)]
    simp [underZ]
  | succ d ih =>
    intro k m out hd ho hk
    obtain ⟨k, rfl⟩ : ∃ q, k = q + 2 := ⟨k - 2, by omega⟩
    simp only [spec_Under.l0, spec_Under.j1]
    have hw := wayZ_length a b v 8 (m : Int)
    rw [if_pos (by omega), specSeat_at a b v i hi, Option.bind_some, if_pos (decide_eq_true hs), specWay_at a b v m ⟨by omega, by omega⟩ k (by omega), Option.bind_some, specSetHas_at _ i (by omega) k (by omega), Option.bind_some, wn (n := na) (by omega) (by omega), underZ]
    by_cases h : i ∈ wayZ a b v 8 (m : Int)
    · rw [if_pos (decide_eq_true h), if_pos h, if_pos (by omega), ih k (m + 1) _ (by omega) (by simp; omega) (by omega)]
      simp
    · rw [if_neg (by simpa using h), if_neg h, ih k (m + 1) _ (by omega) (by omega) (by omega)]
theorem implUnder_l (a b v i : Int) (hi : -9223372036854775808 ≤ i ∧ i ≤ 9223372036854775807) (hs : 0 ≤ seatZ a b v i) (na : Nat) (ha : a = (na : Int)) (h7 : na ≤ 7) : ∀ (d k m : Nat) (out : List Int), m + d = na → out.length + d < 17592186044416 → 2 * d + 12 < k →
    impl_Under.l0 k v i out (m : Int) a b = some (out ++ underZ a b v i m d) := by
  intro d
  induction d with
  | zero =>
    intro k m out hd ho hk
    obtain ⟨k, rfl⟩ : ∃ q, k = q + 2 := ⟨k - 2, by omega⟩
    simp only [impl_Under.l0, impl_Under.j1]
    rw [implSeat_at a b v i hi, Option.bind_some, if_pos hs, if_neg (by simp; omega)]
    simp [underZ]
  | succ d ih =>
    intro k m out hd ho hk
    obtain ⟨k, rfl⟩ : ∃ q, k = q + 2 := ⟨k - 2, by omega⟩
    simp only [impl_Under.l0, impl_Under.j1]
    have hw := wayZ_length a b v 8 (m : Int)
    have hlt : (m : Int) < a := by omega
    rw [implSeat_at a b v i hi, Option.bind_some, if_pos hs, if_pos (decide_eq_true hlt), implWay_at a b v m ⟨by omega, by omega⟩ k (by omega), Option.bind_some, implSetHas_at _ i (by omega) k (by omega), Option.bind_some, wn (n := na) (by omega) (by omega), underZ]
    by_cases h : i ∈ wayZ a b v 8 (m : Int)
    · rw [if_pos (decide_eq_true h), if_pos h, if_pos (by omega), ih k (m + 1) _ (by omega) (by simp; omega) (by omega)]
      simp
    · rw [if_neg (by simpa using h), if_neg h, ih k (m + 1) _ (by omega) (by omega) (by omega)]
def underOf (a b v i : Int) : List Int := if 0 ≤ seatZ a b v i then underZ a b v i 0 a.toNat else []
theorem underOf_length (a b v i : Int) : (underOf a b v i).length ≤ 7 := by
  unfold underOf
  split
  · rename_i h
    obtain ⟨_, h2⟩ := seatZ_bd (a := a) (b := b) (v := v) (i := i)
    obtain ⟨hc, _⟩ := h2 h
    obtain ⟨ha, _⟩ := confB_iff hc
    have := underZ_length a b v i a.toNat 0
    omega
  · simp
theorem implUnder_at (a b v i : Int) (hi : -9223372036854775808 ≤ i ∧ i ≤ 9223372036854775807) (k : Nat) (hk : 30 < k) : impl_Under.f k a b v i = some (underOf a b v i) := by
  unfold impl_Under.f underOf
  by_cases hs : 0 ≤ seatZ a b v i
  · obtain ⟨_, h2⟩ := seatZ_bd (a := a) (b := b) (v := v) (i := i)
    obtain ⟨hc, _⟩ := h2 hs
    obtain ⟨ha, _⟩ := confB_iff hc
    have := implUnder_l a b v i hi hs a.toNat (by omega) (by omega) a.toNat k 0 [] (by omega) (by simp; omega) (by omega)
    rw [show ((0 : Nat) : Int) = 0 from rfl] at this
    rw [this, if_pos hs]; rfl
  · obtain ⟨k, rfl⟩ : ∃ q, k = q + 2 := ⟨k - 2, by omega⟩
    simp only [impl_Under.l0, impl_Under.j1]
    rw [implSeat_at a b v i hi, Option.bind_some, if_neg (by omega), if_neg (by simp), if_neg hs]
theorem specUnder_at (a b v i : Int) (hi : -9223372036854775808 ≤ i ∧ i ≤ 9223372036854775807) (k : Nat) (hk : 30 < k) : spec_Under.f k a b v i = some (underOf a b v i) := by
  unfold spec_Under.f underOf
  rw [Option.bind_some, specConf_at, Option.bind_some]
  by_cases hs : 0 ≤ seatZ a b v i
  · obtain ⟨_, h2⟩ := seatZ_bd (a := a) (b := b) (v := v) (i := i)
    obtain ⟨hc, _⟩ := h2 hs
    obtain ⟨ha, _⟩ := confB_iff hc
    have := specUnder_l a b v i hi hs a.toNat (by omega) (by omega) a.toNat k 0 [] (by omega) (by simp; omega) (by omega)
    rw [show ((0 : Nat) : Int) = 0 from rfl] at this
    rw [if_pos hc, this, if_pos hs]; rfl
  · rw [if_neg hs]
    by_cases hc : confB a b = true
    · obtain ⟨ha, _⟩ := confB_iff hc
      obtain ⟨k, rfl⟩ : ∃ q, k = q + 2 := ⟨k - 2, by omega⟩
      rw [if_pos hc]
      simp only [spec_Under.l0, spec_Under.j1]
      rw [if_pos (by omega), specSeat_at a b v i hi, Option.bind_some, if_neg (by simp; omega)]
    · rw [if_neg hc]
theorem eqIntS_l (xs ys : List Int) (hl : ys.length = xs.length) (hn : xs.length ≤ 9223372036854775807) : ∀ (d k m : Nat), m + d = xs.length → d < k →
    laws_eqIntS.l0 k xs ys (m : Int) = some (decide (xs.drop m = ys.drop m)) := by
  intro d
  induction d with
  | zero =>
    intro k m hd hk
    obtain ⟨k, rfl⟩ : ∃ q, k = q + 1 := ⟨k - 1, by omega⟩
    simp only [laws_eqIntS.l0]
    rw [if_neg (by omega), List.drop_of_length_le (by omega), List.drop_of_length_le (by omega)]
    simp
  | succ d ih =>
    intro k m hd hk
    obtain ⟨k, rfl⟩ : ∃ q, k = q + 1 := ⟨k - 1, by omega⟩
    simp only [laws_eqIntS.l0]
    rw [if_pos (by omega), if_pos (by omega), if_pos (by omega), wn (n := xs.length) (by omega) hn, ih k (m + 1) (by omega) (by omega), drop_at xs m (by omega), drop_at ys m (by omega)]
    by_cases h : rd xs m = rd ys m <;> simp [h]
theorem eqIntS_at (xs ys : List Int) (hn : xs.length ≤ 9223372036854775807) (k : Nat) (hk : xs.length < k) : laws_eqIntS.f k xs ys = some (decide (xs = ys)) := by
  unfold laws_eqIntS.f
  by_cases h : (xs.length : Int) = (ys.length : Int)
  · rw [if_pos h]
    have := eqIntS_l xs ys (by omega) hn xs.length k 0 (by omega) hk
    simpa using this
  · rw [if_neg h]
    have : xs ≠ ys := fun e => h (by rw [e])
    simp [this]
theorem markIntS_l (n : Nat) (a : Int) (h0 : 0 ≤ a) (ha : a + (n : Int) ≤ 9223372036854775807) : ∀ (d k m : Nat) (xs : List Int), xs.length = n → m + d = n → d < k →
    laws_markIntS.l0 k xs (a + (m : Int)) (m : Int) = some (a + (n : Int), xs.take m ++ marks (a + (m : Int)) d) := by
  intro d
  induction d with
  | zero =>
    intro k m xs hx hd hk
    obtain ⟨k, rfl⟩ : ∃ q, k = q + 1 := ⟨k - 1, by omega⟩
    simp only [laws_markIntS.l0]
    rw [if_neg (by omega), List.take_of_length_le (by omega)]
    obtain rfl : m = n := by omega
    simp [marks]
  | succ d ih =>
    intro k m xs hx hd hk
    obtain ⟨k, rfl⟩ : ∃ q, k = q + 1 := ⟨k - 1, by omega⟩
    simp only [laws_markIntS.l0]
    rw [if_pos (by omega), if_pos (by omega), wn (n := n) (by omega) (by omega), wi h0 ha (by omega), ih k (m + 1) _ (by simpa using hx) (by omega) (by omega), Int.toNat_natCast, set_take _ _ _ (by omega), marks]
    rw [show a + ((m + 1 : Nat) : Int) = a + (m : Int) + 1 by omega]
    simp
theorem markIntS_at (xs : List Int) (a : Int) (h0 : 0 ≤ a) (ha : a + (xs.length : Int) ≤ 9223372036854775807) (k : Nat) (hk : xs.length < k) :
    laws_markIntS.f k xs a = some (a + (xs.length : Int), marks a xs.length) := by
  unfold laws_markIntS.f
  have := markIntS_l xs.length a h0 ha xs.length k 0 xs rfl (by omega) hk
  simpa using this
theorem heldIntS_l (xs : List Int) (a : Int) (h0 : 0 ≤ a) (ha : a + (xs.length : Int) ≤ 9223372036854775807) : ∀ (d k m : Nat), m + d = xs.length → xs.drop m = marks (a + (m : Int)) d → d < k →
    laws_heldIntS.l0 k xs (a + (m : Int)) (m : Int) = some (a + (xs.length : Int)) := by
  intro d
  induction d with
  | zero =>
    intro k m hd hx hk
    obtain ⟨k, rfl⟩ : ∃ q, k = q + 1 := ⟨k - 1, by omega⟩
    simp only [laws_heldIntS.l0]
    rw [if_neg (by omega)]
    obtain rfl : m = xs.length := by omega
    rfl
  | succ d ih =>
    intro k m hd hx hk
    obtain ⟨k, rfl⟩ : ∃ q, k = q + 1 := ⟨k - 1, by omega⟩
    rw [drop_at xs m (by omega), marks] at hx
    obtain ⟨h1, h2⟩ := List.cons.inj hx
    simp only [laws_heldIntS.l0]
    rw [if_pos (by omega), if_pos (by omega), if_pos h1, wn (n := xs.length) (by omega) (by omega), wi h0 ha (by omega), ih k (m + 1) (by omega) (by rw [h2]; congr 1; omega) (by omega)]
theorem heldIntS_at (n : Nat) (a : Int) (h0 : 0 ≤ a) (ha : a + (n : Int) ≤ 9223372036854775807) (k : Nat) (hk : n < k) : laws_heldIntS.f k (marks a n) a = some (a + (n : Int)) := by
  unfold laws_heldIntS.f
  have hl := marks_length n a
  have := heldIntS_l (marks a n) a h0 (by omega) n k 0 (by omega) (by simp) hk
  rw [hl] at this
  simpa using this
theorem Pure.FnExactUnder : StatFnExactUnder := by
  intro a b v i _ _ _ hi
  unfold laws_FnExactUnder.f
  refine ⟨40, ?_⟩
  have e1 := specUnder_at a b v i (wf64 hi) 40 (by omega)
  have e2 := implUnder_at a b v i (wf64 hi) 40 (by omega)
  have hl := underOf_length a b v i
  generalize underOf a b v i = l at *
  have e3 := eqIntS_at l l (by omega) 40 (by omega)
  have e4 := markIntS_at l 1 (by omega) (by omega) 40 (by omega)
  have e5 := heldIntS_at l.length 1 (by omega) (by omega) 40 (by omega)
  have b1 : ¬ 1 + (l.length : Int) < 0 := by omega
  simp [laws_toConf.f, e1, e2, e3, e4, e5, b1]
end Go.Proofs.Ytjbkdffimfbdnaa.PFnExactUnder
