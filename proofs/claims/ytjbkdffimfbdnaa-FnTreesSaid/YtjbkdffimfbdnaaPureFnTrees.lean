/- The law FnTrees over numbers and lists: whatever the code, what is drawn answers true. No condition but the code's kind. -/
import Derived.Test.YtjbkdffimfbdnaaStatFnTrees
namespace Go.Proofs.Ytjbkdffimfbdnaa.PFnTrees
open Go.RowKit Go.Proofs.YtjbkdffimfbdnaaW.PrintWords Go.Proofs.YtjbkdffimfbdnaaW.PrintLast
set_option linter.unusedVariables false
set_option linter.unusedSimpArgs false
theorem wn {m n : Nat} (h : m < n) (hn : n ≤ 9223372036854775807) : wrap64 ((m : Int) + 1) = ((m + 1 : Nat) : Int) := by unfold wrap64; omega
theorem wi {a : Int} {n : Nat} (h0 : 0 ≤ a) (h : a + (n : Int) ≤ 9223372036854775807) : ∀ {m : Nat}, m < n → wrap64 (a + (m : Int) + 1) = a + ((m + 1 : Nat) : Int) := by
  intro m hm
  unfold wrap64
  omega
theorem len_ok {n : Nat} (h : n ≤ maxLen) : n ≤ 9223372036854775807 := by unfold maxLen at h; omega
theorem set_take {α : Type} (l : List α) (n : Nat) (x : α) (h : n < l.length) : (l.set n x).take (n + 1) = l.take n ++ [x] := by
  rw [List.take_succ_eq_append_getElem (by simpa using h), List.take_set_of_le (Nat.le_refl _)]
  simp
theorem drop_at (l : List Int) (n : Nat) (h : n < l.length) : l.drop n = rd l (n : Int) :: l.drop (n + 1) := by
  rw [List.drop_eq_getElem_cons h]
  simp [rd, List.getD_eq_getElem?_getD, List.getElem?_eq_getElem h]
/-- n numbers that follow each other, from a on. -/
def marks (a : Int) : Nat → List Int
  | 0 => []
  | n + 1 => a :: marks (a + 1) n
theorem marks_length : ∀ (n : Nat) (a : Int), (marks a n).length = n
  | 0, _ => rfl
  | n + 1, a => by simp [marks, marks_length n]
theorem wf64 {n : Int} (h : (Lit.int .i64 n).wf = true) : -9223372036854775808 ≤ n ∧ n ≤ 9223372036854775807 := by
  simp [Lit.wf, IntKind.min, IntKind.max, IntKind.bits, IntKind.signed] at h
  omega
def confB (a b : Int) : Bool := decide (4 ≤ a ∧ a ≤ 7 ∧ 1 ≤ b ∧ b ≤ 6)
theorem implConf_at (a b : Int) : impl_ConfOk.f a b = some (confB a b) := by
  unfold impl_ConfOk.f impl_within.f confB
  by_cases h : a ≥ 4 <;> by_cases h2 : a ≤ 7 <;> by_cases h3 : b ≥ 1 <;> simp [h, h2, h3] <;> omega
theorem specConf_at (a b : Int) : spec_ConfOk.f a b = some (confB a b) := implConf_at a b
/-- At which place of the order of a view a replica is; -1 where there is none. -/
def seatZ (a b v i : Int) : Int := if confB a b = true ∧ 0 ≤ v ∧ 0 ≤ i ∧ i < a then (i + a - v % a) % a else -1
/-- Who sits at a place. -/
def sitsZ (a b v s : Int) : Int := if confB a b = true ∧ 0 ≤ v ∧ 0 ≤ s ∧ s < a then (v % a + s) % a else -1
theorem confB_iff {a b : Int} (h : confB a b = true) : (a = 4 ∨ a = 5 ∨ a = 6 ∨ a = 7) ∧ 1 ≤ b ∧ b ≤ 6 := by
  unfold confB at h
  have := of_decide_eq_true h
  omega
theorem specSeat_at (a b v i : Int) (hi : -9223372036854775808 ≤ i ∧ i ≤ 9223372036854775807) : spec_Seat.f a b v i = some (seatZ a b v i) := by
  unfold spec_Seat.f spec_l1In.f seatZ
  rw [specConf_at, Option.bind_some]
  by_cases hc : confB a b = true
  · obtain ⟨ha, hb⟩ := confB_iff hc
    rw [if_pos hc]
    by_cases hv : v < 0
    · rw [if_pos hv, if_neg (by omega)]
    · rw [if_neg hv]
      have hw : wrap64 (a - 1) = a - 1 := by unfold wrap64; omega
      rw [hw]
      by_cases h0 : i ≥ 0
      · rw [if_pos h0, Option.bind_some]
        by_cases h1 : i ≤ a - 1
        · rw [if_pos (decide_eq_true h1), if_neg (by omega), if_pos ⟨hc, by omega, by omega, by omega⟩]
          rw [Int.tmod_eq_emod_of_nonneg (by omega : 0 ≤ v)]
          have hm0 := Int.emod_nonneg v (show a ≠ 0 by omega)
          have hm1 := Int.emod_lt_of_pos v (show 0 < a by omega)
          have e1 : wrap64 (i + a) = i + a := by unfold wrap64; omega
          have e2 : wrap64 (i + a - v % a) = i + a - v % a := by unfold wrap64; omega
          rw [e1, e2, Int.tmod_eq_emod_of_nonneg (by omega)]
        · rw [if_neg (by simp [h1]), if_neg (by omega)]
      · rw [if_neg h0, Option.bind_some, if_neg (by simp), if_neg (by omega)]
  · rw [if_neg hc, if_neg (fun h => hc h.1)]
theorem implSeat_at (a b v i : Int) (hi : -9223372036854775808 ≤ i ∧ i ≤ 9223372036854775807) : impl_Seat.f a b v i = some (seatZ a b v i) := by
  unfold impl_Seat.f impl_within.f seatZ
  rw [implConf_at, Option.bind_some]
  by_cases hc : confB a b = true
  · obtain ⟨ha, hb⟩ := confB_iff hc
    rw [if_pos hc]
    by_cases hv : v < 0
    · rw [if_pos hv, if_neg (by omega)]
    · rw [if_neg hv]
      have hw : wrap64 (a - 1) = a - 1 := by unfold wrap64; omega
      rw [hw]
      by_cases h0 : i ≥ 0
      · rw [if_pos h0, Option.bind_some]
        by_cases h1 : i ≤ a - 1
        · rw [if_pos (decide_eq_true h1), if_neg (by omega), if_pos ⟨hc, by omega, by omega, by omega⟩]
          rw [Int.tmod_eq_emod_of_nonneg (by omega : 0 ≤ v)]
          have hm0 := Int.emod_nonneg v (show a ≠ 0 by omega)
          have hm1 := Int.emod_lt_of_pos v (show 0 < a by omega)
          have e1 : wrap64 (i - v % a) = i - v % a := by unfold wrap64; omega
          have e2 : wrap64 (i - v % a + a) = i + a - v % a := by unfold wrap64; omega
          rw [e1, e2, Int.tmod_eq_emod_of_nonneg (by omega)]
        · rw [if_neg (by simp [h1]), if_neg (by omega)]
      · rw [if_neg h0, Option.bind_some, if_neg (by simp), if_neg (by omega)]
  · rw [if_neg hc, if_neg (fun h => hc h.1)]
theorem specSits_at (a b v i : Int) : spec_Sits.f a b v i = some (sitsZ a b v i) := by
  unfold spec_Sits.f spec_l1In.f sitsZ
  rw [specConf_at, Option.bind_some]
  by_cases hc : confB a b = true
  · obtain ⟨ha, hb⟩ := confB_iff hc
    rw [if_pos hc]
    by_cases hv : v < 0
    · rw [if_pos hv, if_neg (by omega)]
    · rw [if_neg hv]
      have hw : wrap64 (a - 1) = a - 1 := by unfold wrap64; omega
      rw [hw]
      by_cases h0 : i ≥ 0
      · rw [if_pos h0, Option.bind_some]
        by_cases h1 : i ≤ a - 1
        · rw [if_pos (decide_eq_true h1), if_neg (by omega), if_pos ⟨hc, by omega, by omega, by omega⟩]
          rw [Int.tmod_eq_emod_of_nonneg (by omega : 0 ≤ v)]
          have hm0 := Int.emod_nonneg v (show a ≠ 0 by omega)
          have hm1 := Int.emod_lt_of_pos v (show 0 < a by omega)
          have e1 : wrap64 (v % a + i) = v % a + i := by unfold wrap64; omega
          rw [e1, Int.tmod_eq_emod_of_nonneg (by omega)]
        · rw [if_neg (by simp [h1]), if_neg (by omega)]
      · rw [if_neg h0, Option.bind_some, if_neg (by simp), if_neg (by omega)]
  · rw [if_neg hc, if_neg (fun h => hc h.1)]
theorem implSits_at (a b v i : Int) : impl_Sits.f a b v i = some (sitsZ a b v i) := specSits_at a b v i
theorem seatZ_bd {a b v i : Int} : -1 ≤ seatZ a b v i ∧ (0 ≤ seatZ a b v i → confB a b = true ∧ 0 ≤ v ∧ 0 ≤ i ∧ i < a ∧ seatZ a b v i < a) := by
  unfold seatZ
  split
  · rename_i h
    obtain ⟨ha, _⟩ := confB_iff h.1
    have h1 := Int.emod_nonneg (i + a - v % a) (show a ≠ 0 by omega)
    have h2 := Int.emod_lt_of_pos (i + a - v % a) (show 0 < a by omega)
    exact ⟨by omega, fun _ => ⟨h.1, h.2.1, h.2.2.1, h.2.2.2, h2⟩⟩
  · exact ⟨by omega, fun h => by omega⟩
theorem sitsZ_bd {a b v i : Int} : -1 ≤ sitsZ a b v i ∧ sitsZ a b v i < 7 ∧ (0 ≤ sitsZ a b v i → sitsZ a b v i < a) := by
  unfold sitsZ
  split
  · rename_i h
    obtain ⟨ha, _⟩ := confB_iff h.1
    have h1 := Int.emod_nonneg (v % a + i) (show a ≠ 0 by omega)
    have h2 := Int.emod_lt_of_pos (v % a + i) (show 0 < a by omega)
    exact ⟨by omega, by omega, fun _ => h2⟩
  · exact ⟨by omega, by omega, fun h => by omega⟩
/-- To whom a replica hands; -1 of the root, and where there is none. -/
def upZ (a b v i : Int) : Int := if seatZ a b v i ≤ 0 then -1 else sitsZ a b v ((seatZ a b v i - 1) / b)
theorem up_div {b s : Int} (hb : 1 ≤ b ∧ b ≤ 6) (hs : 0 < s ∧ s < 7) : wrap64 (Int.tdiv (wrap64 (s - 1)) b) = (s - 1) / b := by
  have e1 : wrap64 (s - 1) = s - 1 := by unfold wrap64; omega
  have h0 : 0 ≤ (s - 1) / b := Int.ediv_nonneg (by omega) (by omega)
  have h1 : (s - 1) / b ≤ s - 1 := Int.ediv_le_self _ (by omega)
  rw [e1, Int.tdiv_eq_ediv_of_nonneg (by omega)]
  unfold wrap64
  omega
theorem specUp_at (a b v i : Int) (hi : -9223372036854775808 ≤ i ∧ i ≤ 9223372036854775807) : spec_Up.f a b v i = some (upZ a b v i) := by
  unfold spec_Up.f upZ
  rw [specSeat_at a b v i hi, Option.bind_some]
  by_cases h : seatZ a b v i ≤ 0
  · rw [if_pos h, if_pos h]
  · obtain ⟨_, h2⟩ := seatZ_bd (a := a) (b := b) (v := v) (i := i)
    obtain ⟨hc, _, _, _, h3⟩ := h2 (by omega)
    obtain ⟨ha, hb⟩ := confB_iff hc
    rw [if_neg h, if_neg h, if_neg (by omega), up_div hb ⟨by omega, by omega⟩, specSits_at, Option.bind_some]
theorem implUp_at (a b v i : Int) (hi : -9223372036854775808 ≤ i ∧ i ≤ 9223372036854775807) : impl_Up.f a b v i = some (upZ a b v i) := by
  unfold impl_Up.f upZ
  rw [implSeat_at a b v i hi, Option.bind_some]
  by_cases h : seatZ a b v i ≤ 0
  · rw [if_pos (by omega), if_pos h]
  · obtain ⟨_, h2⟩ := seatZ_bd (a := a) (b := b) (v := v) (i := i)
    obtain ⟨hc, _, _, _, h3⟩ := h2 (by omega)
    obtain ⟨ha, hb⟩ := confB_iff hc
    rw [if_neg (by omega), if_neg h, if_neg (by omega), up_div hb ⟨by omega, by omega⟩, implSits_at, Option.bind_some]
/-- The way up from i, no longer than the fuel. -/
def wayZ (a b v : Int) : Nat → Int → List Int
  | 0, _ => []
  | n + 1, i => if seatZ a b v i ≥ 0 then i :: wayZ a b v n (upZ a b v i) else []
theorem upZ_bd {a b v i : Int} : -1 ≤ upZ a b v i ∧ upZ a b v i < 7 := by
  unfold upZ
  split
  · omega
  · have := sitsZ_bd (a := a) (b := b) (v := v) (i := (seatZ a b v i - 1) / b)
    omega
/-- One's Up sits nearer to the root. -/
theorem seat_up {a b v i : Int} (h : 0 < seatZ a b v i) : seatZ a b v (upZ a b v i) = (seatZ a b v i - 1) / b := by
  obtain ⟨_, h2⟩ := seatZ_bd (a := a) (b := b) (v := v) (i := i)
  obtain ⟨hc, hv, _, _, h3⟩ := h2 (by omega)
  obtain ⟨ha, hb⟩ := confB_iff hc
  have q0 : 0 ≤ (seatZ a b v i - 1) / b := Int.ediv_nonneg (by omega) (by omega)
  have q1 : (seatZ a b v i - 1) / b ≤ seatZ a b v i - 1 := Int.ediv_le_self _ (by omega)
  unfold upZ
  rw [if_neg (by omega)]
  generalize (seatZ a b v i - 1) / b = q at q0 q1
  have hq : q < a := by omega
  unfold sitsZ
  rw [if_pos ⟨hc, hv, q0, hq⟩]
  unfold seatZ
  have m0 := Int.emod_nonneg (v % a + q) (show a ≠ 0 by omega)
  have m1 := Int.emod_lt_of_pos (v % a + q) (show 0 < a by omega)
  rw [if_pos ⟨hc, hv, m0, m1⟩]
  have w0 := Int.emod_nonneg v (show a ≠ 0 by omega)
  have w1 := Int.emod_lt_of_pos v (show 0 < a by omega)
  generalize v % a = r at *
  rcases ha with rfl | rfl | rfl | rfl <;> omega
theorem up_seat_lt {a b v i : Int} (h : 0 ≤ seatZ a b v i) : seatZ a b v (upZ a b v i) < seatZ a b v i := by
  by_cases h0 : 0 < seatZ a b v i
  · rw [seat_up h0]
    obtain ⟨_, h2⟩ := seatZ_bd (a := a) (b := b) (v := v) (i := i)
    obtain ⟨hc, hv, _, _, h3⟩ := h2 h
    obtain ⟨ha, hb⟩ := confB_iff hc
    have q1 : (seatZ a b v i - 1) / b ≤ seatZ a b v i - 1 := Int.ediv_le_self _ (by omega)
    omega
  · have e : upZ a b v i = -1 := by unfold upZ; rw [if_pos (by omega)]
    rw [e]
    have : seatZ a b v (-1) = -1 := by unfold seatZ; rw [if_neg (by omega)]
    omega
theorem specWay_l (a b v : Int) : ∀ (n k : Nat) (i : Int) (out : List Int), -9223372036854775808 ≤ i ∧ i ≤ 9223372036854775807 → seatZ a b v i < n → out.length + n < 17592186044416 → n < k →
    spec_Way.l0 k v i out a b = some (out ++ wayZ a b v n i) := by
  intro n
  induction n with
  | zero =>
    intro k i out hi hs ho hk
    obtain ⟨k, rfl⟩ : ∃ q, k = q + 1 := ⟨k - 1, by omega⟩
    simp only [spec_Way.l0]
    rw [specSeat_at a b v i hi, Option.bind_some, if_neg (by omega)]
    simp [wayZ]
  | succ n ih =>
    intro k i out hi hs ho hk
    obtain ⟨k, rfl⟩ : ∃ q, k = q + 1 := ⟨k - 1, by omega⟩
    simp only [spec_Way.l0]
    rw [specSeat_at a b v i hi, Option.bind_some, wayZ]
    by_cases h : seatZ a b v i ≥ 0
    · have hb := upZ_bd (a := a) (b := b) (v := v) (i := i)
      have hl := up_seat_lt h
      rw [if_pos h, if_pos (by omega), specUp_at a b v i hi, Option.bind_some, ih k _ _ ⟨by omega, by omega⟩ (by omega) (by simp; omega) (by omega), if_pos h]
      simp
    · rw [if_neg h, if_neg h]; simp
theorem implWay_l (a b v : Int) : ∀ (n k : Nat) (i : Int) (out : List Int), -9223372036854775808 ≤ i ∧ i ≤ 9223372036854775807 → seatZ a b v i < n → out.length + n < 17592186044416 → n < k →
    impl_Way.l0 k v i out a b = some (out ++ wayZ a b v n i) := by
  intro n
  induction n with
  | zero =>
    intro k i out hi hs ho hk
    obtain ⟨k, rfl⟩ : ∃ q, k = q + 1 := ⟨k - 1, by omega⟩
    simp only [impl_Way.l0]
    rw [implSeat_at a b v i hi, Option.bind_some, if_neg (by omega)]
    simp [wayZ]
  | succ n ih =>
    intro k i out hi hs ho hk
    obtain ⟨k, rfl⟩ : ∃ q, k = q + 1 := ⟨k - 1, by omega⟩
    simp only [impl_Way.l0]
    rw [implSeat_at a b v i hi, Option.bind_some, wayZ]
    by_cases h : seatZ a b v i ≥ 0
    · have hb := upZ_bd (a := a) (b := b) (v := v) (i := i)
      have hl := up_seat_lt h
      rw [if_pos h, if_pos (by omega), implUp_at a b v i hi, Option.bind_some, ih k _ _ ⟨by omega, by omega⟩ (by omega) (by simp; omega) (by omega), if_pos h]
      simp
    · rw [if_neg h, if_neg h]; simp
theorem seatZ_lt8 (a b v i : Int) : seatZ a b v i < (8 : Nat) := by
  obtain ⟨_, h2⟩ := seatZ_bd (a := a) (b := b) (v := v) (i := i)
  by_cases h : 0 ≤ seatZ a b v i
  · obtain ⟨hc, _, _, _, h3⟩ := h2 h
    obtain ⟨ha, _⟩ := confB_iff hc
    omega
  · omega
theorem specWay_at (a b v i : Int) (hi : -9223372036854775808 ≤ i ∧ i ≤ 9223372036854775807) (k : Nat) (hk : 8 < k) : spec_Way.f k a b v i = some (wayZ a b v 8 i) := by
  unfold spec_Way.f
  rw [specWay_l a b v 8 k i [] hi (seatZ_lt8 a b v i) (by simp) hk]; rfl
theorem implWay_at (a b v i : Int) (hi : -9223372036854775808 ≤ i ∧ i ≤ 9223372036854775807) (k : Nat) (hk : 8 < k) : impl_Way.f k a b v i = some (wayZ a b v 8 i) := by
  unfold impl_Way.f
  rw [implWay_l a b v 8 k i [] hi (seatZ_lt8 a b v i) (by simp) hk]; rfl
theorem wayZ_length (a b v : Int) : ∀ (n : Nat) (i : Int), (wayZ a b v n i).length ≤ n
  | 0, _ => by simp [wayZ]
  | n + 1, i => by
    unfold wayZ
    split
    · have := wayZ_length a b v n (upZ a b v i)
      simp; omega
    · simp
theorem specSetHas_l (xs : List Int) (x : Int) (hn : xs.length ≤ 9223372036854775807) : ∀ (d k m : Nat), m + d = xs.length → d < k →
    spec_SetHas.l0 k xs x (m : Int) = some (decide (x ∈ xs.drop m)) := by
  intro d
  induction d with
  | zero =>
    intro k m hd hk
    obtain ⟨k, rfl⟩ : ∃ q, k = q + 1 := ⟨k - 1, by omega⟩
    simp only [spec_SetHas.l0]
    rw [if_neg (by omega), List.drop_of_length_le (by omega)]
    simp
  | succ d ih =>
    intro k m hd hk
    obtain ⟨k, rfl⟩ : ∃ q, k = q + 1 := ⟨k - 1, by omega⟩
    simp only [spec_SetHas.l0]
    rw [if_pos (by omega), if_pos (by omega), wn (n := xs.length) (by omega) hn, ih k (m + 1) (by omega) (by omega), drop_at xs m (by omega)]
    by_cases h : rd xs m = x
    · simp [h]
    · have h' : ¬ x = rd xs m := fun e => h e.symm
      simp [h, h']
theorem specSetHas_at (xs : List Int) (x : Int) (hn : xs.length ≤ 9223372036854775807) (k : Nat) (hk : xs.length < k) : spec_SetHas.f k xs x = some (decide (x ∈ xs)) := by
  have := specSetHas_l xs x hn xs.length k 0 (by omega) hk
  unfold spec_SetHas.f
  simpa using this
theorem slIndex_l (xs : List Int) (x : Int) (hn : xs.length ≤ 9223372036854775807) : ∀ (d k m : Nat), m + d = xs.length → d < k →
    ∃ r, slices_Index_int_int.l0 k xs x (xs.length : Int) (m : Int) = some r ∧ decide (r ≥ 0) = decide (x ∈ xs.drop m) := by
  intro d
  induction d with
  | zero =>
    intro k m hd hk
    obtain ⟨k, rfl⟩ : ∃ q, k = q + 1 := ⟨k - 1, by omega⟩
    refine ⟨-1, ?_, ?_⟩
    · simp only [slices_Index_int_int.l0]
      rw [if_neg (by omega)]
    · rw [List.drop_of_length_le (by omega)]; simp
  | succ d ih =>
    intro k m hd hk
    obtain ⟨k, rfl⟩ : ∃ q, k = q + 1 := ⟨k - 1, by omega⟩
    obtain ⟨r, hr, h2⟩ := ih k (m + 1) (by omega) (by omega)
    simp only [slices_Index_int_int.l0]
    rw [if_pos (by omega), if_pos (by omega), if_pos (by omega), wn (n := xs.length) (by omega) hn, hr, drop_at xs m (by omega)]
    by_cases h : x = rd xs m
    · exact ⟨m, by rw [if_pos h], by simp [h]⟩
    · exact ⟨r, by rw [if_neg h], by rw [h2]; simp [h]⟩
theorem implSetHas_at (xs : List Int) (x : Int) (hn : xs.length ≤ 9223372036854775807) (k : Nat) (hk : xs.length < k) : impl_SetHas.f k xs x = some (decide (x ∈ xs)) := by
  obtain ⟨r, hr, h2⟩ := slIndex_l xs x hn xs.length k 0 (by omega) hk
  unfold impl_SetHas.f slices_Contains_int_int.f slices_Index_int_int.f
  rw [show ((0 : Nat) : Int) = 0 from rfl] at hr
  rw [hr]
  simp only [Option.bind_some, h2, List.drop_zero]
/-- Those from m on, n of them, on whose way up i is. -/
def underZ (a b v i : Int) (m : Nat) : Nat → List Int
  | 0 => []
  | n + 1 => if i ∈ wayZ a b v 8 (m : Int) then (m : Int) :: underZ a b v i (m + 1) n else underZ a b v i (m + 1) n
theorem underZ_length (a b v i : Int) : ∀ (n m : Nat), (underZ a b v i m n).length ≤ n
  | 0, _ => by simp [underZ]
  | n + 1, m => by
    have := underZ_length a b v i n (m + 1)
    unfold underZ
    split <;> simp <;> omega
theorem specUnder_l (a b v i : Int) (hi : -9223372036854775808 ≤ i ∧ i ≤ 9223372036854775807) (hs : 0 ≤ seatZ a b v i) (na : Nat) (ha : a = (na : Int)) (h7 : na ≤ 7) : ∀ (d k m : Nat) (out : List Int), m + d = na → out.length + d < 17592186044416 → 2 * d + 12 < k →
    spec_Under.l0 k v i out (m : Int) a b = some (out ++ underZ a b v i m d) := by
  intro d
  induction d with
  | zero =>
    intro k m out hd ho hk
    obtain ⟨k, rfl⟩ : ∃ q, k = q + 2 := ⟨k - 2, by omega⟩
    simp only [spec_Under.l0, spec_Under.j1]
    rw [if_neg (by omega), if_neg (by simp)]
    simp [underZ]
  | succ d ih =>
    intro k m out hd ho hk
    obtain ⟨k, rfl⟩ : ∃ q, k = q + 2 := ⟨k - 2, by omega⟩
    simp only [spec_Under.l0, spec_Under.j1]
    have hw := wayZ_length a b v 8 (m : Int)
    rw [if_pos (by omega), specSeat_at a b v i hi, Option.bind_some, if_pos (decide_eq_true hs), specWay_at a b v m ⟨by omega, by omega⟩ k (by omega), Option.bind_some, specSetHas_at _ i (by omega) k (by omega), Option.bind_some, wn (n := na) (by omega) (by omega), underZ]
    by_cases h : i ∈ wayZ a b v 8 (m : Int)
    · rw [if_pos (decide_eq_true h), if_pos h, if_pos (by omega), ih k (m + 1) _ (by omega) (by simp; omega) (by omega)]
      simp
    · rw [if_neg (by simpa using h), if_neg h, ih k (m + 1) _ (by omega) (by omega) (by omega)]
theorem implUnder_l (a b v i : Int) (hi : -9223372036854775808 ≤ i ∧ i ≤ 9223372036854775807) (hs : 0 ≤ seatZ a b v i) (na : Nat) (ha : a = (na : Int)) (h7 : na ≤ 7) : ∀ (d k m : Nat) (out : List Int), m + d = na → out.length + d < 17592186044416 → 2 * d + 12 < k →
    impl_Under.l0 k v i out (m : Int) a b = some (out ++ underZ a b v i m d) := by
  intro d
  induction d with
  | zero =>
    intro k m out hd ho hk
    obtain ⟨k, rfl⟩ : ∃ q, k = q + 2 := ⟨k - 2, by omega⟩
    simp only [impl_Under.l0, impl_Under.j1]
    rw [implSeat_at a b v i hi, Option.bind_some, if_pos hs, if_neg (by simp; omega)]
    simp [underZ]
  | succ d ih =>
    intro k m out hd ho hk
    obtain ⟨k, rfl⟩ : ∃ q, k = q + 2 := ⟨k - 2, by omega⟩
    simp only [impl_Under.l0, impl_Under.j1]
    have hw := wayZ_length a b v 8 (m : Int)
    have hlt : (m : Int) < a := by omega
    rw [implSeat_at a b v i hi, Option.bind_some, if_pos hs, if_pos (decide_eq_true hlt), implWay_at a b v m ⟨by omega, by omega⟩ k (by omega), Option.bind_some, implSetHas_at _ i (by omega) k (by omega), Option.bind_some, wn (n := na) (by omega) (by omega), underZ]
    by_cases h : i ∈ wayZ a b v 8 (m : Int)
    · rw [if_pos (decide_eq_true h), if_pos h, if_pos (by omega), ih k (m + 1) _ (by omega) (by simp; omega) (by omega)]
      simp
    · rw [if_neg (by simpa using h), if_neg h, ih k (m + 1) _ (by omega) (by omega) (by omega)]
def underOf (a b v i : Int) : List Int := if 0 ≤ seatZ a b v i then underZ a b v i 0 a.toNat else []
theorem underOf_length (a b v i : Int) : (underOf a b v i).length ≤ 7 := by
  unfold underOf
  split
  · rename_i h
    obtain ⟨_, h2⟩ := seatZ_bd (a := a) (b := b) (v := v) (i := i)
    obtain ⟨hc, _⟩ := h2 h
    obtain ⟨ha, _⟩ := confB_iff hc
    have := underZ_length a b v i a.toNat 0
    omega
  · simp
theorem implUnder_at (a b v i : Int) (hi : -9223372036854775808 ≤ i ∧ i ≤ 9223372036854775807) (k : Nat) (hk : 30 < k) : impl_Under.f k a b v i = some (underOf a b v i) := by
  unfold impl_Under.f underOf
  by_cases hs : 0 ≤ seatZ a b v i
  · obtain ⟨_, h2⟩ := seatZ_bd (a := a) (b := b) (v := v) (i := i)
    obtain ⟨hc, _⟩ := h2 hs
    obtain ⟨ha, _⟩ := confB_iff hc
    have := implUnder_l a b v i hi hs a.toNat (by omega) (by omega) a.toNat k 0 [] (by omega) (by simp; omega) (by omega)
    rw [show ((0 : Nat) : Int) = 0 from rfl] at this
    rw [this, if_pos hs]; rfl
  · obtain ⟨k, rfl⟩ : ∃ q, k = q + 2 := ⟨k - 2, by omega⟩
    simp only [impl_Under.l0, impl_Under.j1]
    rw [implSeat_at a b v i hi, Option.bind_some, if_neg (by omega), if_neg (by simp), if_neg hs]
theorem specUnder_at (a b v i : Int) (hi : -9223372036854775808 ≤ i ∧ i ≤ 9223372036854775807) (k : Nat) (hk : 30 < k) : spec_Under.f k a b v i = some (underOf a b v i) := by
  unfold spec_Under.f underOf
  rw [Option.bind_some, specConf_at, Option.bind_some]
  by_cases hs : 0 ≤ seatZ a b v i
  · obtain ⟨_, h2⟩ := seatZ_bd (a := a) (b := b) (v := v) (i := i)
    obtain ⟨hc, _⟩ := h2 hs
    obtain ⟨ha, _⟩ := confB_iff hc
    have := specUnder_l a b v i hi hs a.toNat (by omega) (by omega) a.toNat k 0 [] (by omega) (by simp; omega) (by omega)
    rw [show ((0 : Nat) : Int) = 0 from rfl] at this
    rw [if_pos hc, this, if_pos hs]; rfl
  · rw [if_neg hs]
    by_cases hc : confB a b = true
    · obtain ⟨ha, _⟩ := confB_iff hc
      obtain ⟨k, rfl⟩ : ∃ q, k = q + 2 := ⟨k - 2, by omega⟩
      rw [if_pos hc]
      simp only [spec_Under.l0, spec_Under.j1]
      rw [if_pos (by omega), specSeat_at a b v i hi, Option.bind_some, if_neg (by simp; omega)]
    · rw [if_neg hc]
def rootZ (a b v : Int) : Int := if confB a b = true ∧ 0 ≤ v then v % a else -1
theorem implRoot_at (a b v : Int) : impl_Root.f a b v = some (rootZ a b v) := by
  unfold impl_Root.f rootZ
  rw [implConf_at, Option.bind_some]
  by_cases hc : confB a b = true
  · obtain ⟨ha, hb⟩ := confB_iff hc
    rw [if_pos hc]
    by_cases hv : v < 0
    · rw [if_pos hv, if_neg (by omega)]
    · rw [if_neg hv, if_neg (by omega), if_pos ⟨hc, by omega⟩, Int.tmod_eq_emod_of_nonneg (by omega)]
  · rw [if_neg hc, if_neg (fun h => hc h.1)]
theorem up_pos {a b v i : Int} (h : 0 ≤ upZ a b v i) : 0 < seatZ a b v i := by
  unfold upZ at h
  split at h <;> omega
/-- Who is on a way has his Up on it. -/
theorem mem_up {a b v i : Int} (h : 0 ≤ upZ a b v i) : ∀ (n : Nat) (x : Int), seatZ a b v x < n → i ∈ wayZ a b v n x → upZ a b v i ∈ wayZ a b v n x := by
  intro n
  induction n with
  | zero => intro x _ hm; simp [wayZ] at hm
  | succ n ih =>
    intro x hs hm
    unfold wayZ at hm ⊢
    by_cases h0 : seatZ a b v x ≥ 0
    · rw [if_pos h0] at hm ⊢
      have hl := up_seat_lt h0
      rcases List.mem_cons.1 hm with rfl | hm
      · apply List.mem_cons_of_mem
        have hp := up_pos h
        obtain ⟨_, h2⟩ := seatZ_bd (a := a) (b := b) (v := v) (i := i)
        obtain ⟨hc, _, _, _, h3⟩ := h2 (by omega)
        obtain ⟨ha, hb⟩ := confB_iff hc
        have e := seat_up hp
        have q0 : 0 ≤ (seatZ a b v i - 1) / b := Int.ediv_nonneg (by omega) (by omega)
        cases n with
        | zero => omega
        | succ n => unfold wayZ; rw [if_pos (by omega)]; exact List.mem_cons_self
      · exact List.mem_cons_of_mem _ (ih _ (by omega) hm)
    · rw [if_neg h0] at hm; simp at hm
theorem seat_root {a b v x : Int} (h : seatZ a b v x = 0) : x = rootZ a b v := by
  unfold seatZ at h
  split at h
  · rename_i g
    obtain ⟨hc, hv, h0, h1⟩ := g
    obtain ⟨ha, _⟩ := confB_iff hc
    unfold rootZ
    rw [if_pos ⟨hc, hv⟩]
    have w0 := Int.emod_nonneg v (show a ≠ 0 by omega)
    have w1 := Int.emod_lt_of_pos v (show 0 < a by omega)
    generalize v % a = r at *
    rcases ha with rfl | rfl | rfl | rfl <;> omega
  · omega
/-- Each way holds the root. -/
theorem mem_root {a b v : Int} : ∀ (n : Nat) (x : Int), 0 ≤ seatZ a b v x → seatZ a b v x < n → rootZ a b v ∈ wayZ a b v n x := by
  intro n
  induction n with
  | zero => intro x h0 h1; omega
  | succ n ih =>
    intro x h0 h1
    unfold wayZ
    rw [if_pos h0]
    by_cases h : seatZ a b v x = 0
    · rw [← seat_root h]; exact List.mem_cons_self
    · apply List.mem_cons_of_mem
      obtain ⟨_, h2⟩ := seatZ_bd (a := a) (b := b) (v := v) (i := x)
      obtain ⟨hc, _, _, _, h3⟩ := h2 (by omega)
      obtain ⟨ha, hb⟩ := confB_iff hc
      have e := seat_up (a := a) (b := b) (v := v) (i := x) (by omega)
      have q0 : 0 ≤ (seatZ a b v x - 1) / b := Int.ediv_nonneg (by omega) (by omega)
      have hl := up_seat_lt h0
      exact ih _ (by omega) (by omega)
theorem seat_ok {a b v i : Int} (hc : confB a b = true) (hv : 0 ≤ v) (h0 : 0 ≤ i) (h1 : i < a) : 0 ≤ seatZ a b v i := by
  unfold seatZ
  rw [if_pos ⟨hc, hv, h0, h1⟩]
  exact Int.emod_nonneg _ (by omega)
/-- Those from m on, n of them, whose Up is i. -/
def kidsZ (a b v i : Int) (m : Nat) : Nat → List Int
  | 0 => []
  | n + 1 => if upZ a b v (m : Int) = i then (m : Int) :: kidsZ a b v i (m + 1) n else kidsZ a b v i (m + 1) n
theorem kidsZ_length (a b v i : Int) : ∀ (n m : Nat), (kidsZ a b v i m n).length ≤ n
  | 0, _ => by simp [kidsZ]
  | n + 1, m => by
    have := kidsZ_length a b v i n (m + 1)
    unfold kidsZ
    split <;> simp <;> omega
theorem specKids_l (a b v i : Int) (hi : 0 ≤ i) (na : Nat) (ha : a = (na : Int)) (h7 : na ≤ 7) : ∀ (d k m : Nat) (out : List Int), m + d = na → out.length + d < 17592186044416 → 2 * d + 1 < k →
    spec_Kids.l0 k v i out (m : Int) a b = some (out ++ kidsZ a b v i m d) := by
  intro d
  induction d with
  | zero =>
    intro k m out hd ho hk
    obtain ⟨k, rfl⟩ : ∃ q, k = q + 2 := ⟨k - 2, by omega⟩
    simp only [spec_Kids.l0, spec_Kids.j1]
    rw [if_neg (by omega), if_neg (by simp)]
    simp [kidsZ]
  | succ d ih =>
    intro k m out hd ho hk
    obtain ⟨k, rfl⟩ : ∃ q, k = q + 2 := ⟨k - 2, by omega⟩
    simp only [spec_Kids.l0, spec_Kids.j1]
    rw [if_pos (by omega), if_pos (decide_eq_true hi), specUp_at a b v m ⟨by omega, by omega⟩, Option.bind_some, wn (n := na) (by omega) (by omega), kidsZ]
    by_cases h : upZ a b v (m : Int) = i
    · rw [if_pos h, if_pos h, if_pos (by omega), ih k (m + 1) _ (by omega) (by simp; omega) (by omega)]
      simp
    · rw [if_neg h, if_neg h, ih k (m + 1) _ (by omega) (by omega) (by omega)]
theorem implKids_l (a b v i : Int) (hi : -9223372036854775808 ≤ i ∧ i ≤ 9223372036854775807) (hs : 0 ≤ seatZ a b v i) (na : Nat) (ha : a = (na : Int)) (h7 : na ≤ 7) : ∀ (d k m : Nat) (out : List Int), m + d = na → out.length + d < 17592186044416 → 2 * d + 1 < k →
    impl_Kids.l0 k v i out (m : Int) a b = some (out ++ kidsZ a b v i m d) := by
  intro d
  induction d with
  | zero =>
    intro k m out hd ho hk
    obtain ⟨k, rfl⟩ : ∃ q, k = q + 2 := ⟨k - 2, by omega⟩
    simp only [impl_Kids.l0, impl_Kids.j1]
    rw [implSeat_at a b v i hi, Option.bind_some, if_pos hs, if_neg (by simp; omega)]
    simp [kidsZ]
  | succ d ih =>
    intro k m out hd ho hk
    obtain ⟨k, rfl⟩ : ∃ q, k = q + 2 := ⟨k - 2, by omega⟩
    simp only [impl_Kids.l0, impl_Kids.j1]
    have hlt : (m : Int) < a := by omega
    rw [implSeat_at a b v i hi, Option.bind_some, if_pos hs, if_pos (decide_eq_true hlt), implUp_at a b v m ⟨by omega, by omega⟩, Option.bind_some, wn (n := na) (by omega) (by omega), kidsZ]
    by_cases h : upZ a b v (m : Int) = i
    · rw [if_pos h, if_pos h, if_pos (by omega), ih k (m + 1) _ (by omega) (by simp; omega) (by omega)]
      simp
    · rw [if_neg h, if_neg h, ih k (m + 1) _ (by omega) (by omega) (by omega)]
/-- One who has no place has no kids. -/
theorem kids_none (a b v i : Int) (hi : 0 ≤ i) (hs : seatZ a b v i < 0) : ∀ (n m : Nat), kidsZ a b v i m n = [] := by
  intro n
  induction n with
  | zero => intro m; rfl
  | succ n ih =>
    intro m
    unfold kidsZ
    rw [ih (m + 1)]
    have h : upZ a b v (m : Int) ≠ i := by
      intro e
      unfold upZ at e
      by_cases h0 : seatZ a b v m ≤ 0
      · rw [if_pos h0] at e; omega
      · rw [if_neg h0] at e
        obtain ⟨_, h2⟩ := seatZ_bd (a := a) (b := b) (v := v) (i := (m : Int))
        obtain ⟨hc, hv, _, _, _⟩ := h2 (by omega)
        obtain ⟨_, _, h5⟩ := sitsZ_bd (a := a) (b := b) (v := v) (i := (seatZ a b v m - 1) / b)
        rw [e] at h5
        have h6 := h5 hi
        obtain ⟨ha, _⟩ := confB_iff hc
        unfold seatZ at hs
        rw [if_pos ⟨hc, hv, hi, h6⟩] at hs
        have := Int.emod_nonneg (i + a - v % a) (show a ≠ 0 by omega)
        omega
    rw [if_neg h]
def kidsOf (a b v i : Int) : List Int := if 0 ≤ seatZ a b v i then kidsZ a b v i 0 a.toNat else []
theorem kidsOf_length (a b v i : Int) : (kidsOf a b v i).length ≤ 7 := by
  unfold kidsOf
  split
  · rename_i h
    obtain ⟨_, h2⟩ := seatZ_bd (a := a) (b := b) (v := v) (i := i)
    obtain ⟨hc, _⟩ := h2 h
    obtain ⟨ha, _⟩ := confB_iff hc
    have := kidsZ_length a b v i a.toNat 0
    omega
  · simp
theorem specKids_at (a b v i : Int) (hi : -9223372036854775808 ≤ i ∧ i ≤ 9223372036854775807) (k : Nat) (hk : 16 < k) : spec_Kids.f k a b v i = some (kidsOf a b v i) := by
  unfold spec_Kids.f kidsOf
  rw [Option.bind_some, specConf_at, Option.bind_some]
  by_cases hc : confB a b = true
  · obtain ⟨ha, _⟩ := confB_iff hc
    rw [if_pos hc]
    by_cases h0 : 0 ≤ i
    · have := specKids_l a b v i h0 a.toNat (by omega) (by omega) a.toNat k 0 [] (by omega) (by simp; omega) (by omega)
      rw [show ((0 : Nat) : Int) = 0 from rfl] at this
      rw [this]
      by_cases hs : 0 ≤ seatZ a b v i
      · rw [if_pos hs]; rfl
      · rw [if_neg hs, kids_none a b v i h0 (by omega)]; rfl
    · have hs : ¬ 0 ≤ seatZ a b v i := by
        intro h
        obtain ⟨_, h2⟩ := seatZ_bd (a := a) (b := b) (v := v) (i := i)
        have := (h2 h).2.2.1
        omega
      rw [if_neg hs]
      obtain ⟨k, rfl⟩ : ∃ q, k = q + 2 := ⟨k - 2, by omega⟩
      simp only [spec_Kids.l0, spec_Kids.j1]
      rw [if_pos (by omega), if_neg (by simp; omega)]
  · have hs : ¬ 0 ≤ seatZ a b v i := by
      intro h
      obtain ⟨_, h2⟩ := seatZ_bd (a := a) (b := b) (v := v) (i := i)
      exact hc (h2 h).1
    rw [if_neg hc, if_neg hs]
theorem implKids_at (a b v i : Int) (hi : -9223372036854775808 ≤ i ∧ i ≤ 9223372036854775807) (k : Nat) (hk : 16 < k) : impl_Kids.f k a b v i = some (kidsOf a b v i) := by
  unfold impl_Kids.f kidsOf
  by_cases hs : 0 ≤ seatZ a b v i
  · obtain ⟨_, h2⟩ := seatZ_bd (a := a) (b := b) (v := v) (i := i)
    obtain ⟨hc, _⟩ := h2 hs
    obtain ⟨ha, _⟩ := confB_iff hc
    have := implKids_l a b v i hi hs a.toNat (by omega) (by omega) a.toNat k 0 [] (by omega) (by simp; omega) (by omega)
    rw [show ((0 : Nat) : Int) = 0 from rfl] at this
    rw [this, if_pos hs]; rfl
  · obtain ⟨k, rfl⟩ : ∃ q, k = q + 2 := ⟨k - 2, by omega⟩
    simp only [impl_Kids.l0, impl_Kids.j1]
    rw [implSeat_at a b v i hi, Option.bind_some, if_neg (by omega), if_neg (by simp), if_neg hs]
theorem and255 (n : Int) : Go.bits .and .i64 n 255 = n % 256 := by
  have h255 : (BitVec.ofInt 64 255).toNat = 2 ^ 8 - 1 := by decide
  have key : (BitVec.ofInt 64 n &&& BitVec.ofInt 64 255).toNat = (n % ((2 ^ 64 : Nat) : Int)).toNat % 2 ^ 8 := by
    rw [BitVec.toNat_and, BitVec.toNat_ofInt, h255, Nat.and_two_pow_sub_one_eq_mod]
  show IntKind.i64.wrap ((BitVec.ofInt 64 n &&& BitVec.ofInt 64 255).toNat : Nat) = n % 256
  rw [key, IntKind.wrap_i64]
  omega
/-- A drawn number is below its bound, and the cursor stays in its list. -/
theorem l1Byte_at (s : List Int) (hn : s.length ≤ 9223372036854775807) (i h : Int) (hi : 0 ≤ i ∧ i ≤ s.length) :
    ∃ x i' h', spec_l1Byte.f s i h = some (x, i', h') ∧ 0 ≤ x ∧ x ≤ 255 ∧ 0 ≤ i' ∧ i' ≤ s.length := by
  unfold spec_l1Byte.f
  by_cases h1 : i < (s.length : Int)
  · rw [if_pos h1, if_pos hi.1]
    refine ⟨_, _, _, rfl, ?_, ?_, ?_, ?_⟩
    · rw [and255]; omega
    · rw [and255]; omega
    · unfold wrap64; omega
    · unfold wrap64; omega
  · rw [if_neg h1]
    refine ⟨_, _, _, rfl, ?_, ?_, hi.1, hi.2⟩
    · rw [and255]; omega
    · rw [and255]; omega
theorem l1Below_at (s : List Int) (hn : s.length ≤ 9223372036854775807) (i h n : Int) (hi : 0 ≤ i ∧ i ≤ s.length) (h0 : 0 < n) (h1 : n ≤ 256) :
    ∃ x i' h', spec_l1Below.f s i h n = some (x, i', h') ∧ 0 ≤ x ∧ x < n ∧ 0 ≤ i' ∧ i' ≤ s.length := by
  obtain ⟨x, i', h', e, x0, x1, i0, i1⟩ := l1Byte_at s hn i h hi
  unfold spec_l1Below.f
  rw [if_neg (by omega), if_pos h1, e, Option.bind_some, if_neg (by omega)]
  refine ⟨_, _, _, rfl, ?_, ?_, i0, i1⟩
  · exact Int.tmod_nonneg _ x0
  · exact Int.tmod_lt_of_pos _ h0
theorem l1PickInt_at (s : List Int) (hn : s.length ≤ 9223372036854775807) (i h : Int) (hi : 0 ≤ i ∧ i ≤ s.length) (l : List Int) (h0 : 0 < l.length) (h1 : l.length ≤ 256) :
    ∃ x i' h', spec_l1PickInt.f s i h l = some (x, i', h') ∧ x ∈ l ∧ 0 ≤ i' ∧ i' ≤ s.length := by
  obtain ⟨x, i', h', e, x0, x1, i0, i1⟩ := l1Below_at s hn i h l.length hi (by omega) (by omega)
  unfold spec_l1PickInt.f
  rw [e, Option.bind_some, if_pos x0, if_pos x1]
  refine ⟨_, _, _, rfl, ?_, i0, i1⟩
  obtain ⟨n, rfl⟩ := Int.eq_ofNat_of_zero_le x0
  have : n < l.length := by omega
  simp [rd, List.getD_eq_getElem?_getD, List.getElem?_eq_getElem this]
theorem l1New_at (l : List Int) (hn : l.length ≤ 9223372036854775807) (k : Nat) (hk : 4001 < k) : ∃ h, spec_l1New.f k l = some (l, 0, h) := by
  have key : ∀ (d k m : Nat) (h : Int), m + d = 4000 → d < k → ∃ h', spec_l1New.l0 k l h (m : Int) = some (l, 0, h') := by
    intro d
    induction d with
    | zero =>
      intro k m h hd hk
      obtain ⟨k, rfl⟩ : ∃ q, k = q + 1 := ⟨k - 1, by omega⟩
      simp only [spec_l1New.l0]
      rw [if_neg (show ¬ ((m : Int) < 4000) by omega)]
      exact ⟨h, by simp⟩
    | succ d ih =>
      intro k m h hd hk
      obtain ⟨k, rfl⟩ : ∃ q, k = q + 1 := ⟨k - 1, by omega⟩
      simp only [spec_l1New.l0]
      by_cases h1 : (m : Int) < (l.length : Int)
      · rw [if_pos h1, if_pos (by omega), if_pos (by omega), wn (n := l.length) (by omega) hn]
        exact ih k (m + 1) _ (by omega) (by omega)
      · rw [if_neg h1]; exact ⟨h, rfl⟩
  obtain ⟨h, e⟩ := key 4000 k 0 _ (by omega) (by omega)
  exact ⟨h, e⟩
theorem l7DrawConf_at (s : List Int) (hn : s.length ≤ 9223372036854775807) (i h : Int) (hi : 0 ≤ i ∧ i ≤ s.length) :
    ∃ a b i' h', spec_l7DrawConf.f s i h = some (a, b, i', h') ∧ 4 ≤ a ∧ a ≤ 7 ∧ 1 ≤ b ∧ b ≤ 3 ∧ 0 ≤ i' ∧ i' ≤ s.length := by
  obtain ⟨x, i1, h1, e1, x0, x1, p1⟩ := l1Below_at s hn i h 4 hi (by omega) (by omega)
  obtain ⟨y, i2, h2, e2, y0, y1, p2⟩ := l1Below_at s hn i1 h1 3 p1 (by omega) (by omega)
  unfold spec_l7DrawConf.f
  rw [e1, Option.bind_some]; dsimp only
  rw [e2, Option.bind_some]; dsimp only
  refine ⟨_, _, _, _, rfl, ?_, ?_, ?_, ?_, p2.1, p2.2⟩ <;> (unfold wrap64; omega)
theorem l7DrawBent_at (s : List Int) (hn : s.length ≤ 9223372036854775807) (i h : Int) (hi : 0 ≤ i ∧ i ≤ s.length) :
    ∃ a b i' h', spec_l7DrawBent.f s i h = some (a, b, i', h') ∧ 0 ≤ i' ∧ i' ≤ s.length := by
  obtain ⟨a, b, i1, h1, e1, _, _, _, _, p1⟩ := l7DrawConf_at s hn i h hi
  obtain ⟨x, i2, h2, e2, x0, x1, p2⟩ := l1Below_at s hn i1 h1 12 p1 (by omega) (by omega)
  obtain ⟨y, i3, h3, e3, _, p3⟩ := l1PickInt_at s hn i2 h2 p2 [0, 3, 8, -1] (by simp) (by simp)
  obtain ⟨z, i4, h4, e4, _, p4⟩ := l1PickInt_at s hn i2 h2 p2 [0, 6, 7] (by simp) (by simp)
  unfold spec_l7DrawBent.f
  rw [e1, Option.bind_some]; dsimp only
  rw [e2, Option.bind_some]; dsimp only
  rw [e3, e4]
  by_cases c0 : x = 0
  · rw [if_pos c0]; exact ⟨_, _, _, _, rfl, p3⟩
  · rw [if_neg c0]
    by_cases c1 : x = 1
    · rw [if_pos c1]; exact ⟨_, _, _, _, rfl, p4⟩
    · rw [if_neg c1]; exact ⟨_, _, _, _, rfl, p2⟩
/-- What is drawn of a tree: any counts, any view, and one from -1 to 7. -/
theorem l9Draw_at (l : List Int) (hn : l.length ≤ 9223372036854775807) (k : Nat) (hk : 4001 < k) :
    ∃ a b v i, spec_l9Draw.f k l = some (a, b, v, i) ∧ -1 ≤ i ∧ i ≤ 7 ∧ -1 ≤ v ∧ v ≤ 9223372036854775807 := by
  obtain ⟨h, e⟩ := l1New_at l hn k hk
  obtain ⟨a, b, i1, h1, e1, p1⟩ := l7DrawBent_at l hn 0 h ⟨by omega, by omega⟩
  obtain ⟨v, i2, h2, e2, v0, p2⟩ := l1PickInt_at l hn i1 h1 p1 [0, 1, 2, 5, 13, 60, -1, 9223372036854775807] (by simp) (by simp)
  obtain ⟨x, i3, h3, e3, x0, x1, p3⟩ := l1Below_at l hn i2 h2 9 p2 (by omega) (by omega)
  unfold spec_l9Draw.f
  rw [e, Option.bind_some]; dsimp only
  rw [e1, Option.bind_some]; dsimp only
  rw [e2, Option.bind_some]; dsimp only
  rw [e3, Option.bind_some]; dsimp only
  have hv : -1 ≤ v ∧ v ≤ 9223372036854775807 := by simp at v0; omega
  refine ⟨a, b, v, wrap64 (x - 1), rfl, ?_, ?_, hv.1, hv.2⟩ <;> (unfold wrap64; omega)
theorem sameInts_refl (xs : List Int) (hn : xs.length ≤ 9223372036854775807) (k : Nat) (hk : xs.length < k) : laws_sameInts.f k xs xs = some true := by
  have key : ∀ (d k m : Nat), m + d = xs.length → d < k → laws_sameInts.l0 k xs xs (m : Int) = some true := by
    intro d
    induction d with
    | zero =>
      intro k m hd hk
      obtain ⟨k, rfl⟩ : ∃ q, k = q + 1 := ⟨k - 1, by omega⟩
      simp only [laws_sameInts.l0]
      rw [if_neg (by omega)]
    | succ d ih =>
      intro k m hd hk
      obtain ⟨k, rfl⟩ : ∃ q, k = q + 1 := ⟨k - 1, by omega⟩
      simp only [laws_sameInts.l0]
      rw [if_pos (by omega), if_pos (by omega), if_pos (by omega), if_pos trivial, wn (n := xs.length) (by omega) hn]
      exact ih k (m + 1) (by omega) (by omega)
  unfold laws_sameInts.f
  rw [if_pos rfl]
  exact key xs.length k 0 (by omega) hk
theorem within_at (xs : List Int) (x : Int) (hn : xs.length ≤ 9223372036854775807) (k : Nat) (hk : xs.length < k) : laws_within.f k xs x = some (decide (x ∈ xs)) := by
  have key : ∀ (d k m : Nat), m + d = xs.length → d < k → laws_within.l0 k xs x (m : Int) = some (decide (x ∈ xs.drop m)) := by
    intro d
    induction d with
    | zero =>
      intro k m hd hk
      obtain ⟨k, rfl⟩ : ∃ q, k = q + 1 := ⟨k - 1, by omega⟩
      simp only [laws_within.l0]
      rw [if_neg (by omega), List.drop_of_length_le (by omega)]; simp
    | succ d ih =>
      intro k m hd hk
      obtain ⟨k, rfl⟩ : ∃ q, k = q + 1 := ⟨k - 1, by omega⟩
      simp only [laws_within.l0]
      rw [if_pos (by omega), if_pos (by omega), drop_at xs m (by omega)]
      by_cases h : rd xs m = x
      · rw [if_pos h]; simp [h]
      · rw [if_neg h, wn (n := xs.length) (by omega) hn, ih k (m + 1) (by omega) (by omega)]
        have h' : ¬ x = rd xs m := fun e => h e.symm
        simp [h']
  unfold laws_within.f
  have := key xs.length k 0 (by omega) hk
  rw [show ((0 : Nat) : Int) = 0 from rfl] at this
  rw [this]; simp
theorem underZ_iff {a b v i : Int} : ∀ (n m : Nat) (x : Int), x ∈ underZ a b v i m n ↔ i ∈ wayZ a b v 8 x ∧ (m : Int) ≤ x ∧ x < ((m + n : Nat) : Int) := by
  intro n
  induction n with
  | zero => intro m x; simp [underZ]
  | succ n ih =>
    intro m x
    unfold underZ
    by_cases hi : i ∈ wayZ a b v 8 (m : Int)
    · rw [if_pos hi, List.mem_cons, ih]
      constructor
      · rintro (rfl | ⟨h, h1, h2⟩)
        · exact ⟨hi, by omega, by omega⟩
        · exact ⟨h, by omega, by omega⟩
      · rintro ⟨h, h1, h2⟩
        by_cases hx : x = m
        · exact Or.inl hx
        · exact Or.inr ⟨h, by omega, by omega⟩
    · rw [if_neg hi, ih]
      constructor
      · rintro ⟨h, h1, h2⟩; exact ⟨h, by omega, by omega⟩
      · rintro ⟨h, h1, h2⟩
        refine ⟨h, ?_, by omega⟩
        by_cases hx : x = m
        · exact absurd (hx ▸ h) hi
        · omega
theorem kidsZ_mem {a b v i : Int} : ∀ (n m : Nat) (x : Int), x ∈ kidsZ a b v i m n → upZ a b v x = i ∧ (m : Int) ≤ x ∧ x < ((m + n : Nat) : Int) := by
  intro n
  induction n with
  | zero => intro m x h; simp [kidsZ] at h
  | succ n ih =>
    intro m x h
    unfold kidsZ at h
    by_cases hi : upZ a b v (m : Int) = i
    · rw [if_pos hi] at h
      rcases List.mem_cons.1 h with rfl | h
      · exact ⟨hi, by omega, by omega⟩
      · have := ih _ _ h; omega
    · rw [if_neg hi] at h
      have := ih _ _ h; omega
theorem way_last {a b v : Int} : ∀ (n : Nat) (x : Int), 0 ≤ seatZ a b v x → seatZ a b v x < n → ∃ l, wayZ a b v n x = l ++ [rootZ a b v] := by
  intro n
  induction n with
  | zero => intro x h0 h1; omega
  | succ n ih =>
    intro x h0 h1
    unfold wayZ
    rw [if_pos h0]
    by_cases h : seatZ a b v x = 0
    · have e : upZ a b v x = -1 := by unfold upZ; rw [if_pos (by omega)]
      have e2 : seatZ a b v (-1) = -1 := by unfold seatZ; rw [if_neg (by omega)]
      refine ⟨[], ?_⟩
      rw [e, ← seat_root h]
      cases n with
      | zero => rfl
      | succ n => unfold wayZ; rw [if_neg (by omega)]; rfl
    · obtain ⟨_, h2⟩ := seatZ_bd (a := a) (b := b) (v := v) (i := x)
      obtain ⟨hc, _, _, _, h3⟩ := h2 (by omega)
      obtain ⟨ha, hb⟩ := confB_iff hc
      have e := seat_up (a := a) (b := b) (v := v) (i := x) (by omega)
      have q0 : 0 ≤ (seatZ a b v x - 1) / b := Int.ediv_nonneg (by omega) (by omega)
      have hl := up_seat_lt h0
      obtain ⟨l, hl⟩ := ih (upZ a b v x) (by omega) (by omega)
      exact ⟨x :: l, by rw [hl]; rfl⟩
theorem way_len {a b v : Int} : ∀ (n : Nat) (x : Int), ((wayZ a b v n x).length : Int) ≤ seatZ a b v x + 1 := by
  intro n
  induction n with
  | zero =>
    intro x
    have := (seatZ_bd (a := a) (b := b) (v := v) (i := x)).1
    simp [wayZ]; omega
  | succ n ih =>
    intro x
    unfold wayZ
    by_cases h0 : seatZ a b v x ≥ 0
    · rw [if_pos h0]
      have := ih (upZ a b v x)
      have hl := up_seat_lt h0
      simp only [List.length_cons]; omega
    · rw [if_neg h0]
      have := (seatZ_bd (a := a) (b := b) (v := v) (i := x)).1
      simp; omega
theorem sits_seat {a b v i : Int} (h : 0 ≤ seatZ a b v i) : sitsZ a b v (seatZ a b v i) = i := by
  obtain ⟨_, h2⟩ := seatZ_bd (a := a) (b := b) (v := v) (i := i)
  obtain ⟨hc, hv, i0, i1, h3⟩ := h2 h
  obtain ⟨ha, _⟩ := confB_iff hc
  unfold sitsZ
  rw [if_pos ⟨hc, hv, h, h3⟩]
  unfold seatZ
  rw [if_pos ⟨hc, hv, i0, i1⟩]
  have w0 := Int.emod_nonneg v (show a ≠ 0 by omega)
  have w1 := Int.emod_lt_of_pos v (show 0 < a by omega)
  generalize v % a = r at *
  rcases ha with rfl | rfl | rfl | rfl <;> omega
theorem seatZ_mod {a b v i : Int} (hc : confB a b = true) (hv : 0 ≤ v) : seatZ a b v i = seatZ a b (v % a) i := by
  obtain ⟨ha, _⟩ := confB_iff hc
  have w0 := Int.emod_nonneg v (show a ≠ 0 by omega)
  unfold seatZ
  rw [Int.emod_emod_of_dvd v (Int.dvd_refl a)]
  simp [hv, w0]
theorem sitsZ_mod {a b v i : Int} (hc : confB a b = true) (hv : 0 ≤ v) : sitsZ a b v i = sitsZ a b (v % a) i := by
  obtain ⟨ha, _⟩ := confB_iff hc
  have w0 := Int.emod_nonneg v (show a ≠ 0 by omega)
  unfold sitsZ
  rw [Int.emod_emod_of_dvd v (Int.dvd_refl a)]
  simp [hv, w0]
theorem upZ_mod {a b v i : Int} (hc : confB a b = true) (hv : 0 ≤ v) : upZ a b v i = upZ a b (v % a) i := by
  unfold upZ
  rw [← seatZ_mod hc hv, ← sitsZ_mod hc hv]
theorem kidsZ_mod {a b v i : Int} (hc : confB a b = true) (hv : 0 ≤ v) : ∀ (n m : Nat), kidsZ a b v i m n = kidsZ a b (v % a) i m n := by
  intro n
  induction n with
  | zero => intro m; rfl
  | succ n ih => intro m; unfold kidsZ; rw [upZ_mod hc hv, ih]
theorem kids_few : ∀ a ∈ ([4, 5, 6, 7] : List Int), ∀ b ∈ ([1, 2, 3, 4, 5, 6] : List Int), ∀ r ∈ ([0, 1, 2, 3, 4, 5, 6] : List Int), ∀ i ∈ ([0, 1, 2, 3, 4, 5, 6] : List Int), ((kidsZ a b r i 0 a.toNat).length : Int) ≤ b := by
  decide +kernel
theorem kids_le {a b v i : Int} (h : 0 ≤ seatZ a b v i) : ((kidsOf a b v i).length : Int) ≤ b := by
  obtain ⟨_, h2⟩ := seatZ_bd (a := a) (b := b) (v := v) (i := i)
  obtain ⟨hc, hv, i0, i1, h3⟩ := h2 h
  obtain ⟨ha, hb⟩ := confB_iff hc
  have w0 := Int.emod_nonneg v (show a ≠ 0 by omega)
  have w1 := Int.emod_lt_of_pos v (show 0 < a by omega)
  unfold kidsOf
  rw [if_pos h, kidsZ_mod hc hv]
  apply kids_few
  · simp; omega
  · simp; omega
  · simp; omega
  · simp; omega
theorem Pure.FnTrees : StatFnTrees := by
  intro l hl
  unfold laws_FnTrees.f laws_big.f
  refine ⟨4100, ?_⟩
  rw [Option.bind_some]
  by_cases hb : (l.length : Int) > 1048576
  · rw [if_pos (decide_eq_true hb)]
  · rw [if_neg (by simpa using hb)]
    obtain ⟨a, b, v, i, e, i0, i1, v0, v1⟩ := l9Draw_at l (by omega) 4100 (by omega)
    have hi : -9223372036854775808 ≤ i ∧ i ≤ 9223372036854775807 := ⟨by omega, by omega⟩
    have hn := underOf_length a b v i
    have hw := wayZ_length a b v 8 i
    have hk := kidsOf_length a b v i
    have hsr : spec_Root.f a b v = some (rootZ a b v) := implRoot_at a b v
    unfold spec_DrawWay.f spec_DrawSits.f
    rw [e, Option.bind_some, Option.bind_some]; dsimp only
    rw [implWay_at a b v i hi 4100 (by omega), Option.bind_some, implUnder_at a b v i hi 4100 (by omega), Option.bind_some, implKids_at a b v i hi 4100 (by omega), Option.bind_some, Option.bind_some]; dsimp only
    rw [specWay_at a b v i hi 4100 (by omega), Option.bind_some, sameInts_refl _ (by omega) 4100 (by omega), Option.bind_some, if_pos rfl,
      specUnder_at a b v i hi 4100 (by omega), Option.bind_some, sameInts_refl _ (by omega) 4100 (by omega), Option.bind_some, if_pos rfl,
      specKids_at a b v i hi 4100 (by omega), Option.bind_some, sameInts_refl _ (by omega) 4100 (by omega), Option.bind_some, if_pos rfl,
      implSits_at, Option.bind_some, specSits_at, Option.bind_some, if_pos rfl, implSeat_at a b v i hi, Option.bind_some, specSeat_at a b v i hi, Option.bind_some, if_pos rfl,
      implUp_at a b v i hi, Option.bind_some, specUp_at a b v i hi, Option.bind_some, if_pos rfl, implRoot_at, Option.bind_some, hsr, Option.bind_some, if_pos rfl]
    by_cases hs : 0 ≤ seatZ a b v i
    · obtain ⟨_, h2⟩ := seatZ_bd (a := a) (b := b) (v := v) (i := i)
      obtain ⟨hc, hv, j0, j1, h3⟩ := h2 hs
      obtain ⟨ha, hb⟩ := confB_iff hc
      have hcons : wayZ a b v 8 i = i :: wayZ a b v 7 (upZ a b v i) := by
        rw [wayZ, if_pos hs]
      obtain ⟨wl, hwl⟩ := way_last 8 i hs (seatZ_lt8 a b v i)
      have hlen := way_len (a := a) (b := b) (v := v) 8 i
      have hkl := kids_le hs
      have hum : ∀ x, x ∈ underOf a b v i ↔ i ∈ wayZ a b v 8 x ∧ 0 ≤ x ∧ x < a := by
        intro x
        unfold underOf
        rw [if_pos hs, underZ_iff]
        constructor <;> (rintro ⟨g1, g2, g3⟩; exact ⟨g1, by omega, by omega⟩)
      have hkm : ∀ x ∈ kidsOf a b v i, upZ a b v x = i ∧ x ∈ underOf a b v i := by
        intro x hx
        unfold kidsOf at hx
        rw [if_pos hs] at hx
        obtain ⟨g1, g2, g3⟩ := kidsZ_mem _ _ _ hx
        refine ⟨g1, (hum x).2 ⟨?_, by omega, by omega⟩⟩
        have hp : 0 < seatZ a b v x := up_pos (by omega)
        rw [wayZ, if_pos (by omega), g1, wayZ, if_pos hs]
        simp
      rw [if_neg (by rw [hcons]; simp; omega)]
      have fin : ∀ k, 50 ≤ k → laws_FnTrees.l1 k v i (wayZ a b v 8 i) (underOf a b v i) (kidsOf a b v i) 0 a b = some true := by
        intro k hk50
        have key : ∀ (d k m : Nat), m + d = (kidsOf a b v i).length → d + 20 < k → laws_FnTrees.l1 k v i (wayZ a b v 8 i) (underOf a b v i) (kidsOf a b v i) (m : Int) a b = some true := by
          intro d
          induction d with
          | zero =>
            intro k m hd hk
            obtain ⟨k, rfl⟩ : ∃ q, k = q + 1 := ⟨k - 1, by omega⟩
            have r0 : rd (wayZ a b v 8 i) 0 = i := by rw [hcons]; rfl
            have rl : rd (wayZ a b v 8 i) (wrap64 (((wayZ a b v 8 i).length : Int) - 1)) = rootZ a b v := by
              rw [hwl]
              have : wrap64 (((wl ++ [rootZ a b v]).length : Int) - 1) = ((wl.length : Nat) : Int) := by
                rw [hwl] at hw
                simp at hw ⊢
                unfold wrap64; omega
              rw [this]
              simp [rd]
            have h1 : 1 ≤ (wayZ a b v 8 i).length := by rw [hcons]; simp
            have w1 : wrap64 (((wayZ a b v 8 i).length : Int) - 1) = ((wayZ a b v 8 i).length : Int) - 1 := by unfold wrap64; omega
            simp only [laws_FnTrees.l1]
            rw [if_neg (by omega), if_pos (by omega), if_pos r0, rl, w1, if_pos (by omega), if_pos (by omega), implRoot_at, Option.bind_some, if_pos rfl, if_pos (by omega), if_pos hkl, implSeat_at a b v i hi, Option.bind_some, implSits_at, Option.bind_some, sits_seat hs]
            simp
          | succ d ih =>
            intro k m hd hk
            obtain ⟨k, rfl⟩ : ∃ q, k = q + 1 := ⟨k - 1, by omega⟩
            have hm : rd (kidsOf a b v i) (m : Int) ∈ kidsOf a b v i := by
              have hm : m < (kidsOf a b v i).length := by omega
              simp [rd, List.getD_eq_getElem?_getD, List.getElem?_eq_getElem hm]
            obtain ⟨g1, g2⟩ := hkm _ hm
            have g3 := (hum _).1 g2
            simp only [laws_FnTrees.l1]
            rw [if_pos (by omega), if_pos (by omega), implUp_at a b v _ ⟨by omega, by omega⟩, Option.bind_some, if_pos g1, within_at _ _ (by omega) k (by omega), Option.bind_some, if_pos (decide_eq_true g2), wn (n := (kidsOf a b v i).length) (by omega) (by omega)]
            exact ih k (m + 1) (by omega) (by omega)
        exact key _ k 0 (Nat.zero_add _) (by omega)
      have key : ∀ (d k m : Nat), m + d = (underOf a b v i).length → d + 60 < k → laws_FnTrees.l0 k v i (wayZ a b v 8 i) (underOf a b v i) (kidsOf a b v i) (m : Int) a b = some true := by
        intro d
        induction d with
        | zero =>
          intro k m hd hk
          obtain ⟨k, rfl⟩ : ∃ q, k = q + 1 := ⟨k - 1, by omega⟩
          simp only [laws_FnTrees.l0]
          rw [if_neg (by omega)]
          exact fin k (by omega)
        | succ d ih =>
          intro k m hd hk
          obtain ⟨k, rfl⟩ : ∃ q, k = q + 1 := ⟨k - 1, by omega⟩
          have hm : rd (underOf a b v i) (m : Int) ∈ underOf a b v i := by
            have hm : m < (underOf a b v i).length := by omega
            simp [rd, List.getD_eq_getElem?_getD, List.getElem?_eq_getElem hm]
          obtain ⟨g1, g2, g3⟩ := (hum _).1 hm
          have gl := wayZ_length a b v 8 (rd (underOf a b v i) (m : Int))
          simp only [laws_FnTrees.l0]
          rw [if_pos (by omega), if_pos (by omega), implWay_at a b v _ ⟨by omega, by omega⟩ k (by omega), Option.bind_some, within_at _ _ (by omega) k (by omega), Option.bind_some, if_pos (decide_eq_true g1), wn (n := (underOf a b v i).length) (by omega) (by omega)]
          exact ih k (m + 1) (by omega) (by omega)
      exact key _ 4100 0 (Nat.zero_add _) (by omega)
    · have ew : wayZ a b v 8 i = [] := by rw [wayZ, if_neg (by omega)]
      have eu : underOf a b v i = [] := by unfold underOf; rw [if_neg hs]
      rw [ew, eu]; rfl
end Go.Proofs.Ytjbkdffimfbdnaa.PFnTrees
