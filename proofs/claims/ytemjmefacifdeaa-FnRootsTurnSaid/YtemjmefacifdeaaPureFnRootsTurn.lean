/- The law FnRootsTurn over numbers and lists: whatever the code, what is drawn answers true. No condition but the code's kind. -/
import Derived.Test.YtemjmefacifdeaaStatFnRootsTurn
namespace Go.Proofs.Ytemjmefacifdeaa.PFnRootsTurn
open Go.RowKit Go.Proofs.YtemjmefacifdeaaW.PrintWords Go.Proofs.YtemjmefacifdeaaW.PrintLast
set_option linter.unusedVariables false
set_option linter.unusedSimpArgs false
theorem wn {m n : Nat} (h : m < n) (hn : n ≤ 9223372036854775807) : wrap64 ((m : Int) + 1) = ((m + 1 : Nat) : Int) := by unfold wrap64; omega
theorem wi {a : Int} {n : Nat} (h0 : 0 ≤ a) (h : a + (n : Int) ≤ 9223372036854775807) : ∀ {m : Nat}, m < n → wrap64 (a + (m : Int) + 1) = a + ((m + 1 : Nat) : Int) := by
  intro m hm
  unfold wrap64
  omega
theorem len_ok {n : Nat} (h : n ≤ maxLen) : n ≤ 9223372036854775807 := by unfold maxLen at h; omega
theorem set_take {α : Type} (l : List α) (n : Nat) (x : α) (h : n < l.length) : (l.set n x).take (n + 1) = l.take n ++ [x] := by
  rw [List.take_succ_eq_append_getElem (by simpa using h), List.take_set_of_le (Nat.le_refl _)]
  simp
theorem drop_at (l : List Int) (n : Nat) (h : n < l.length) : l.drop n = rd l (n : Int) :: l.drop (n + 1) := by
  rw [List.drop_eq_getElem_cons h]
  simp [rd, List.getD_eq_getElem?_getD, List.getElem?_eq_getElem h]
/-- n numbers that follow each other, from a on. -/
def marks (a : Int) : Nat → List Int
  | 0 => []
  | n + 1 => a :: marks (a + 1) n
theorem marks_length : ∀ (n : Nat) (a : Int), (marks a n).length = n
  | 0, _ => rfl
  | n + 1, a => by simp [marks, marks_length n]
theorem slIndex_l (xs : List Int) (x : Int) (hn : xs.length ≤ 9223372036854775807) : ∀ (d k m : Nat), m + d = xs.length → d < k →
    ∃ r, slices_Index_int_int.l0 k xs x (xs.length : Int) (m : Int) = some r ∧ decide (r ≥ 0) = decide (x ∈ xs.drop m) := by
  intro d
  induction d with
  | zero =>
    intro k m hd hk
    obtain ⟨k, rfl⟩ : ∃ q, k = q + 1 := ⟨k - 1, by omega⟩
    refine ⟨-1, ?_, ?_⟩
    · simp only [slices_Index_int_int.l0]
      rw [if_neg (by omega)]
    · rw [List.drop_of_length_le (by omega)]; simp
  | succ d ih =>
    intro k m hd hk
    obtain ⟨k, rfl⟩ : ∃ q, k = q + 1 := ⟨k - 1, by omega⟩
    obtain ⟨r, hr, h2⟩ := ih k (m + 1) (by omega) (by omega)
    simp only [slices_Index_int_int.l0]
    rw [if_pos (by omega), if_pos (by omega), if_pos (by omega), wn (n := xs.length) (by omega) hn, hr, drop_at xs m (by omega)]
    by_cases h : x = rd xs m
    · exact ⟨m, by rw [if_pos h], by simp [h]⟩
    · exact ⟨r, by rw [if_neg h], by rw [h2]; simp [h]⟩
theorem implSetHas_at (xs : List Int) (x : Int) (hn : xs.length ≤ 9223372036854775807) (k : Nat) (hk : xs.length < k) : impl_SetHas.f k xs x = some (decide (x ∈ xs)) := by
  obtain ⟨r, hr, h2⟩ := slIndex_l xs x hn xs.length k 0 (by omega) hk
  unfold impl_SetHas.f slices_Contains_int_int.f slices_Index_int_int.f
  rw [show ((0 : Nat) : Int) = 0 from rfl] at hr
  rw [hr]
  simp only [Option.bind_some, h2, List.drop_zero]
def addOf (l : List Int) (x : Int) : List Int := if x ∈ l then l else l.take (impl_SetAdd.at_ l x) ++ x :: l.drop (impl_SetAdd.at_ l x)
theorem addOf_len (l : List Int) (x : Int) : (addOf l x).length ≤ l.length + 1 := by
  unfold addOf
  split
  · omega
  · rw [List.length_append, List.length_cons, List.length_take, List.length_drop]; omega
theorem implSetAdd_at (l : List Int) (x : Int) (hn : l.length ≤ 10000000) (k : Nat) (hk : l.length < k) : impl_SetAdd.f k l x = some (addOf l x) := by
  have c0 : ([] : List Int).length + l.length < 17592186044416 := by simp; omega
  unfold impl_SetAdd.f impl_copyInts.f addOf
  rw [implSetHas_at l x (by omega) k hk, Option.bind_some, if_pos c0, Option.bind_some, List.nil_append]
  by_cases h : x ∈ l
  · rw [if_pos (by simpa using h), if_pos h]
  · rw [if_neg (by simpa using h), if_neg h]
theorem wf64 {n : Int} (h : (Lit.int .i64 n).wf = true) : -9223372036854775808 ≤ n ∧ n ≤ 9223372036854775807 := by
  simp [Lit.wf, IntKind.min, IntKind.max, IntKind.bits, IntKind.signed] at h
  omega
theorem and255 (n : Int) : Go.bits .and .i64 n 255 = n % 256 := by
  have h255 : (BitVec.ofInt 64 255).toNat = 2 ^ 8 - 1 := by decide
  have key : (BitVec.ofInt 64 n &&& BitVec.ofInt 64 255).toNat = (n % ((2 ^ 64 : Nat) : Int)).toNat % 2 ^ 8 := by
    rw [BitVec.toNat_and, BitVec.toNat_ofInt, h255, Nat.and_two_pow_sub_one_eq_mod]
  show IntKind.i64.wrap ((BitVec.ofInt 64 n &&& BitVec.ofInt 64 255).toNat : Nat) = n % 256
  rw [key, IntKind.wrap_i64]
  omega
/-- A drawn number is below its bound, and the cursor stays in its list. -/
theorem l1Byte_at (s : List Int) (hn : s.length ≤ 9223372036854775807) (i h : Int) (hi : 0 ≤ i ∧ i ≤ s.length) :
    ∃ x i' h', spec_l1Byte.f s i h = some (x, i', h') ∧ 0 ≤ x ∧ x ≤ 255 ∧ 0 ≤ i' ∧ i' ≤ s.length := by
  unfold spec_l1Byte.f
  by_cases h1 : i < (s.length : Int)
  · rw [if_pos h1, if_pos hi.1]
    refine ⟨_, _, _, rfl, ?_, ?_, ?_, ?_⟩
    · rw [and255]; omega
    · rw [and255]; omega
    · unfold wrap64; omega
    · unfold wrap64; omega
  · rw [if_neg h1]
    refine ⟨_, _, _, rfl, ?_, ?_, hi.1, hi.2⟩
    · rw [and255]; omega
    · rw [and255]; omega
theorem l1Below_at (s : List Int) (hn : s.length ≤ 9223372036854775807) (i h n : Int) (hi : 0 ≤ i ∧ i ≤ s.length) (h0 : 0 < n) (h1 : n ≤ 256) :
    ∃ x i' h', spec_l1Below.f s i h n = some (x, i', h') ∧ 0 ≤ x ∧ x < n ∧ 0 ≤ i' ∧ i' ≤ s.length := by
  obtain ⟨x, i', h', e, x0, x1, i0, i1⟩ := l1Byte_at s hn i h hi
  unfold spec_l1Below.f
  rw [if_neg (by omega), if_pos h1, e, Option.bind_some, if_neg (by omega)]
  refine ⟨_, _, _, rfl, ?_, ?_, i0, i1⟩
  · exact Int.tmod_nonneg _ x0
  · exact Int.tmod_lt_of_pos _ h0
theorem l1PickInt_at (s : List Int) (hn : s.length ≤ 9223372036854775807) (i h : Int) (hi : 0 ≤ i ∧ i ≤ s.length) (l : List Int) (h0 : 0 < l.length) (h1 : l.length ≤ 256) :
    ∃ x i' h', spec_l1PickInt.f s i h l = some (x, i', h') ∧ x ∈ l ∧ 0 ≤ i' ∧ i' ≤ s.length := by
  obtain ⟨x, i', h', e, x0, x1, i0, i1⟩ := l1Below_at s hn i h l.length hi (by omega) (by omega)
  unfold spec_l1PickInt.f
  rw [e, Option.bind_some, if_pos x0, if_pos x1]
  refine ⟨_, _, _, rfl, ?_, i0, i1⟩
  obtain ⟨n, rfl⟩ := Int.eq_ofNat_of_zero_le x0
  have : n < l.length := by omega
  simp [rd, List.getD_eq_getElem?_getD, List.getElem?_eq_getElem this]
theorem l1New_at (l : List Int) (hn : l.length ≤ 9223372036854775807) (k : Nat) (hk : 4001 < k) : ∃ h, spec_l1New.f k l = some (l, 0, h) := by
  have key : ∀ (d k m : Nat) (h : Int), m + d = 4000 → d < k → ∃ h', spec_l1New.l0 k l h (m : Int) = some (l, 0, h') := by
    intro d
    induction d with
    | zero =>
      intro k m h hd hk
      obtain ⟨k, rfl⟩ : ∃ q, k = q + 1 := ⟨k - 1, by omega⟩
      simp only [spec_l1New.l0]
      rw [if_neg (show ¬ ((m : Int) < 4000) by omega)]
      exact ⟨h, by simp⟩
    | succ d ih =>
      intro k m h hd hk
      obtain ⟨k, rfl⟩ : ∃ q, k = q + 1 := ⟨k - 1, by omega⟩
      simp only [spec_l1New.l0]
      by_cases h1 : (m : Int) < (l.length : Int)
      · rw [if_pos h1, if_pos (by omega), if_pos (by omega), wn (n := l.length) (by omega) hn]
        exact ih k (m + 1) _ (by omega) (by omega)
      · rw [if_neg h1]; exact ⟨h, rfl⟩
  obtain ⟨h, e⟩ := key 4000 k 0 _ (by omega) (by omega)
  exact ⟨h, e⟩
theorem l7DrawConf_at (s : List Int) (hn : s.length ≤ 9223372036854775807) (i h : Int) (hi : 0 ≤ i ∧ i ≤ s.length) :
    ∃ a b i' h', spec_l7DrawConf.f s i h = some (a, b, i', h') ∧ 4 ≤ a ∧ a ≤ 7 ∧ 1 ≤ b ∧ b ≤ 3 ∧ 0 ≤ i' ∧ i' ≤ s.length := by
  obtain ⟨x, i1, h1, e1, x0, x1, p1⟩ := l1Below_at s hn i h 4 hi (by omega) (by omega)
  obtain ⟨y, i2, h2, e2, y0, y1, p2⟩ := l1Below_at s hn i1 h1 3 p1 (by omega) (by omega)
  unfold spec_l7DrawConf.f
  rw [e1, Option.bind_some]; dsimp only
  rw [e2, Option.bind_some]; dsimp only
  refine ⟨_, _, _, _, rfl, ?_, ?_, ?_, ?_, p2.1, p2.2⟩ <;> (unfold wrap64; omega)
theorem l7DrawBent_at (s : List Int) (hn : s.length ≤ 9223372036854775807) (i h : Int) (hi : 0 ≤ i ∧ i ≤ s.length) :
    ∃ a b i' h', spec_l7DrawBent.f s i h = some (a, b, i', h') ∧ 0 ≤ i' ∧ i' ≤ s.length := by
  obtain ⟨a, b, i1, h1, e1, _, _, _, _, p1⟩ := l7DrawConf_at s hn i h hi
  obtain ⟨x, i2, h2, e2, x0, x1, p2⟩ := l1Below_at s hn i1 h1 12 p1 (by omega) (by omega)
  obtain ⟨y, i3, h3, e3, _, p3⟩ := l1PickInt_at s hn i2 h2 p2 [0, 3, 8, -1] (by simp) (by simp)
  obtain ⟨z, i4, h4, e4, _, p4⟩ := l1PickInt_at s hn i2 h2 p2 [0, 6, 7] (by simp) (by simp)
  unfold spec_l7DrawBent.f
  rw [e1, Option.bind_some]; dsimp only
  rw [e2, Option.bind_some]; dsimp only
  rw [e3, e4]
  by_cases c0 : x = 0
  · rw [if_pos c0]; exact ⟨_, _, _, _, rfl, p3⟩
  · rw [if_neg c0]
    by_cases c1 : x = 1
    · rw [if_pos c1]; exact ⟨_, _, _, _, rfl, p4⟩
    · rw [if_neg c1]; exact ⟨_, _, _, _, rfl, p2⟩
/-- What is drawn of a tree: any counts, any view, and one from -1 to 7. -/
theorem l9Draw_at (l : List Int) (hn : l.length ≤ 9223372036854775807) (k : Nat) (hk : 4001 < k) :
    ∃ a b v i, spec_l9Draw.f k l = some (a, b, v, i) ∧ -1 ≤ i ∧ i ≤ 7 ∧ -1 ≤ v ∧ v ≤ 9223372036854775807 := by
  obtain ⟨h, e⟩ := l1New_at l hn k hk
  obtain ⟨a, b, i1, h1, e1, p1⟩ := l7DrawBent_at l hn 0 h ⟨by omega, by omega⟩
  obtain ⟨v, i2, h2, e2, v0, p2⟩ := l1PickInt_at l hn i1 h1 p1 [0, 1, 2, 5, 13, 60, -1, 9223372036854775807] (by simp) (by simp)
  obtain ⟨x, i3, h3, e3, x0, x1, p3⟩ := l1Below_at l hn i2 h2 9 p2 (by omega) (by omega)
  unfold spec_l9Draw.f
  rw [e, Option.bind_some]; dsimp only
  rw [e1, Option.bind_some]; dsimp only
  rw [e2, Option.bind_some]; dsimp only
  rw [e3, Option.bind_some]; dsimp only
  have hv : -1 ≤ v ∧ v ≤ 9223372036854775807 := by simp at v0; omega
  refine ⟨a, b, v, wrap64 (x - 1), rfl, ?_, ?_, hv.1, hv.2⟩ <;> (unfold wrap64; omega)
def confB (a b : Int) : Bool := decide (4 ≤ a ∧ a ≤ 7 ∧ 1 ≤ b ∧ b ≤ 6)
theorem implConf_at (a b : Int) : impl_ConfOk.f a b = some (confB a b) := by
  unfold impl_ConfOk.f impl_within.f confB
  by_cases h : a ≥ 4 <;> by_cases h2 : a ≤ 7 <;> by_cases h3 : b ≥ 1 <;> simp [h, h2, h3] <;> omega
theorem specConf_at (a b : Int) : spec_ConfOk.f a b = some (confB a b) := implConf_at a b
/-- At which place of the order of a view a replica is; -1 where there is none. -/
def seatZ (a b v i : Int) : Int := if confB a b = true ∧ 0 ≤ v ∧ 0 ≤ i ∧ i < a then (i + a - v % a) % a else -1
/-- Who sits at a place. -/
def sitsZ (a b v s : Int) : Int := if confB a b = true ∧ 0 ≤ v ∧ 0 ≤ s ∧ s < a then (v % a + s) % a else -1
theorem confB_iff {a b : Int} (h : confB a b = true) : (a = 4 ∨ a = 5 ∨ a = 6 ∨ a = 7) ∧ 1 ≤ b ∧ b ≤ 6 := by
  unfold confB at h
  have := of_decide_eq_true h
  omega
def turnT (a r : Int) : Nat → Nat → List Int → List Int
  | _, 0, o => o
  | m, d + 1, o => turnT a r (m + 1) d (addOf o ((r + (m : Int)) % a))
theorem root_at2 {a b : Int} (hc : confB a b = true) (x : Int) (hx : 0 ≤ x) : impl_Root.f a b x = some (x % a) := by
  have ha := (confB_iff hc).1
  unfold impl_Root.f
  rw [implConf_at, Option.bind_some, if_pos hc, if_neg (by omega), if_neg (by omega), Int.tmod_eq_emod_of_nonneg hx]
theorem sits_at2 {a b : Int} (hc : confB a b = true) (v m : Int) (hv : 0 ≤ v) (h0 : 0 ≤ m) (h1 : m < a) : impl_Sits.f a b v m = some ((v + m) % a) := by
  have ha := (confB_iff hc).1
  have hw : wrap64 (a - 1) = a - 1 := by unfold wrap64; omega
  have r0 := Int.emod_nonneg v (show a ≠ 0 by omega)
  have r1 := Int.emod_lt_of_pos v (show 0 < a by omega)
  have hw2 : wrap64 (v % a + m) = v % a + m := by unfold wrap64; omega
  unfold impl_Sits.f impl_within.f
  rw [implConf_at, Option.bind_some, if_pos hc, if_neg (by omega), hw, if_pos (by omega), Option.bind_some, if_pos (decide_eq_true (by omega)), if_neg (by omega), Int.tmod_eq_emod_of_nonneg hv, hw2, Int.tmod_eq_emod_of_nonneg (by omega), Int.emod_add_emod]
theorem seat_at2 {a b : Int} (hc : confB a b = true) (v : Int) (hv : 0 ≤ v) : impl_Seat.f a b v (v % a) = some 0 := by
  have ha := (confB_iff hc).1
  have hw : wrap64 (a - 1) = a - 1 := by unfold wrap64; omega
  have r0 := Int.emod_nonneg v (show a ≠ 0 by omega)
  have r1 := Int.emod_lt_of_pos v (show 0 < a by omega)
  have hw2 : wrap64 (v % a - v % a) = 0 := by rw [Int.sub_self]; unfold wrap64; omega
  have hw3 : wrap64 (0 + a) = a := by unfold wrap64; omega
  unfold impl_Seat.f impl_within.f
  rw [implConf_at, Option.bind_some, if_pos hc, if_neg (by omega), hw, if_pos (by omega), Option.bind_some, if_pos (decide_eq_true (by omega)), if_neg (by omega), Int.tmod_eq_emod_of_nonneg hv, hw2, hw3, Int.tmod_self]
theorem turn_l {a b v : Int} (hc : confB a b = true) (hv0 : 0 ≤ v) (hv1 : v ≤ 100) : ∀ (d k m : Nat) (o : List Int), (m : Int) + d = a → o.length ≤ m → d + 20 < k → ((turnT a (v % a) m d o).length : Int) = a →
    laws_FnRootsTurn.l0 k v o o (m : Int) a b = some true := by
  have ha := (confB_iff hc).1
  intro d
  induction d with
  | zero =>
    intro k m o hd ho hk hl
    obtain ⟨k, rfl⟩ : ∃ q, k = q + 1 := ⟨k - 1, by omega⟩
    have hl' : (o.length : Int) = a := hl
    simp only [laws_FnRootsTurn.l0]
    rw [if_neg (by omega), if_pos hl', if_pos hl', root_at2 hc v hv0, Option.bind_some, seat_at2 hc v hv0, Option.bind_some]
    rfl
  | succ d ih =>
    intro k m o hd ho hk hl
    obtain ⟨k, rfl⟩ : ∃ q, k = q + 1 := ⟨k - 1, by omega⟩
    have h1 : wrap64 (v + (m : Int)) = v + (m : Int) := by unfold wrap64; omega
    have h2 : wrap64 ((m : Int) + 1) = ((m + 1 : Nat) : Int) := by unfold wrap64; omega
    have h3 : (v % a + (m : Int)) % a = (v + (m : Int)) % a := Int.emod_add_emod ..
    have hl2 := addOf_len o ((v + (m : Int)) % a)
    unfold turnT at hl
    rw [h3] at hl
    simp only [laws_FnRootsTurn.l0]
    rw [if_pos (by omega), h1, root_at2 hc _ (by omega), Option.bind_some, implSetAdd_at o _ (by omega) k (by omega), Option.bind_some, sits_at2 hc v m hv0 (by omega) (by omega), Option.bind_some, implSetAdd_at o _ (by omega) k (by omega), Option.bind_some, h2]
    exact ih k (m + 1) _ (by omega) (by omega) (by omega) hl
theorem turn_len : ∀ a r : Int, (a = 4 ∨ a = 5 ∨ a = 6 ∨ a = 7) → 0 ≤ r → r < a → ((turnT a r 0 a.toNat []).length : Int) = a := by
  intro a r ha h0 h1
  rcases ha with rfl | rfl | rfl | rfl
  · have : r = 0 ∨ r = 1 ∨ r = 2 ∨ r = 3 := by omega
    rcases this with rfl | rfl | rfl | rfl <;> decide
  · have : r = 0 ∨ r = 1 ∨ r = 2 ∨ r = 3 ∨ r = 4 := by omega
    rcases this with rfl | rfl | rfl | rfl | rfl <;> decide
  · have : r = 0 ∨ r = 1 ∨ r = 2 ∨ r = 3 ∨ r = 4 ∨ r = 5 := by omega
    rcases this with rfl | rfl | rfl | rfl | rfl | rfl <;> decide
  · have : r = 0 ∨ r = 1 ∨ r = 2 ∨ r = 3 ∨ r = 4 ∨ r = 5 ∨ r = 6 := by omega
    rcases this with rfl | rfl | rfl | rfl | rfl | rfl | rfl <;> decide
theorem roots_same (a b v : Int) : ∃ x, impl_Root.f a b v = some x ∧ spec_Root.f a b v = some x := by
  have h : impl_Root.f a b v = spec_Root.f a b v := rfl
  rw [← h]
  unfold impl_Root.f
  rw [implConf_at, Option.bind_some]
  by_cases hc : confB a b = true
  · have ha := (confB_iff hc).1
    rw [if_pos hc]
    by_cases hv : v < 0
    · rw [if_pos hv]; exact ⟨_, rfl, rfl⟩
    · rw [if_neg hv, if_neg (by omega)]; exact ⟨_, rfl, rfl⟩
  · rw [if_neg hc]; exact ⟨_, rfl, rfl⟩
theorem Pure.FnRootsTurn : StatFnRootsTurn := by
  intro l hl
  unfold laws_FnRootsTurn.f laws_big.f
  refine ⟨4100, ?_⟩
  rw [Option.bind_some]
  by_cases hb : (l.length : Int) > 1048576
  · rw [if_pos (decide_eq_true hb)]
  · rw [if_neg (by simpa using hb)]
    obtain ⟨a, b, v, i, e, i0, i1, v0, v1⟩ := l9Draw_at l (by omega) 4100 (by omega)
    obtain ⟨x, x1, x2⟩ := roots_same a b v
    unfold spec_DrawRoot.f
    rw [e, Option.bind_some, Option.bind_some]; dsimp only
    rw [x1, Option.bind_some, x2, Option.bind_some, if_pos rfl, implConf_at, Option.bind_some]
    by_cases hc : confB a b = true
    · rw [if_pos hc]
      by_cases hv : v < 0
      · rw [if_pos hv]
      · rw [if_neg hv]
        by_cases hv2 : v > 100
        · rw [if_pos hv2]
        · rw [if_neg hv2]
          have ha := (confB_iff hc).1
          have r0 := Int.emod_nonneg v (show a ≠ 0 by omega)
          have r1 := Int.emod_lt_of_pos v (show 0 < a by omega)
          exact turn_l hc (by omega) (by omega) a.toNat 4100 0 [] (by omega) (by simp) (by omega) (turn_len a _ ha r0 r1)
    · rw [if_neg hc]
end Go.Proofs.Ytemjmefacifdeaa.PFnRootsTurn
