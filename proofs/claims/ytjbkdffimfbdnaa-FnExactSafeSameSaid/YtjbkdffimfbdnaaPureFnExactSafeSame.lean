/- The law FnExactSafeSame over numbers, texts and lists: both sides of SafeSame come to one answer. No condition. -/
import Derived.Test.YtjbkdffimfbdnaaStatFnExactSafeSame
namespace Go.Proofs.Ytjbkdffimfbdnaa.PFnExactSafeSame
open Go.RowKit Go.Proofs.YtjbkdffimfbdnaaW.PrintWords Go.Proofs.YtjbkdffimfbdnaaW.PrintLast
set_option linter.unusedVariables false
set_option linter.unusedSimpArgs false
theorem wn {m n : Nat} (h : m < n) (hn : n ≤ 9223372036854775807) : wrap64 ((m : Int) + 1) = ((m + 1 : Nat) : Int) := by unfold wrap64; omega
theorem wi {a : Int} {n : Nat} (h0 : 0 ≤ a) (h : a + (n : Int) ≤ 9223372036854775807) : ∀ {m : Nat}, m < n → wrap64 (a + (m : Int) + 1) = a + ((m + 1 : Nat) : Int) := by
  intro m hm
  unfold wrap64
  omega
theorem len_ok {n : Nat} (h : n ≤ maxLen) : n ≤ 9223372036854775807 := by unfold maxLen at h; omega
theorem set_take {α : Type} (l : List α) (n : Nat) (x : α) (h : n < l.length) : (l.set n x).take (n + 1) = l.take n ++ [x] := by
  rw [List.take_succ_eq_append_getElem (by simpa using h), List.take_set_of_le (Nat.le_refl _)]
  simp
theorem drop_at (l : List Int) (n : Nat) (h : n < l.length) : l.drop n = rd l (n : Int) :: l.drop (n + 1) := by
  rw [List.drop_eq_getElem_cons h]
  simp [rd, List.getD_eq_getElem?_getD, List.getElem?_eq_getElem h]
/-- n numbers that follow each other, from a on. -/
def marks (a : Int) : Nat → List Int
  | 0 => []
  | n + 1 => a :: marks (a + 1) n
theorem marks_length : ∀ (n : Nat) (a : Int), (marks a n).length = n
  | 0, _ => rfl
  | n + 1, a => by simp [marks, marks_length n]
theorem l7Ints_l (xs ys : List Int) (hn : xs.length ≤ 9223372036854775807) : ∀ (d k m : Nat), m + d = xs.length → m ≤ ys.length → 2 * d + 1 < k →
    spec_l7Ints.l0 k xs ys (m : Int) = some (decide (xs.drop m = ys.drop m)) := by
  intro d
  induction d with
  | zero =>
    intro k m hd hm hk
    obtain ⟨k, rfl⟩ : ∃ q, k = q + 2 := ⟨k - 2, by omega⟩
    simp only [spec_l7Ints.l0, spec_l7Ints.j1]
    rw [if_neg (by omega), if_neg (by simp), List.drop_of_length_le (by omega)]
    congr 1
    by_cases h : xs.length = ys.length
    · have h2 : (xs.length : Int) = (ys.length : Int) := by omega
      rw [List.drop_of_length_le (by omega)]; simp [h2]
    · have h2 : ¬ (xs.length : Int) = (ys.length : Int) := by omega
      have h3 : ys.drop m ≠ [] := fun e => h (by have := congrArg List.length e; simp at this; omega)
      simp [h2, Ne.symm h3]
  | succ d ih =>
    intro k m hd hm hk
    obtain ⟨k, rfl⟩ : ∃ q, k = q + 2 := ⟨k - 2, by omega⟩
    simp only [spec_l7Ints.l0, spec_l7Ints.j1]
    rw [if_pos (by omega)]
    by_cases h : m < ys.length
    · have h1 : ((m : Int) < (ys.length : Int)) := by omega
      rw [if_pos (decide_eq_true h1), if_pos (by omega), if_pos (by omega), if_pos h1, wn (n := xs.length) (by omega) hn, ih k (m + 1) (by omega) (by omega) (by omega), drop_at xs m (by omega), drop_at ys m h]
      by_cases h : rd xs m = rd ys m <;> simp [h]
    · have h1 : ¬ ((m : Int) < (ys.length : Int)) := by omega
      rw [if_neg (by simpa using h), drop_at xs m (by omega), List.drop_of_length_le (show ys.length ≤ m by omega)]
      have h2 : ¬ (xs.length : Int) = (ys.length : Int) := by omega
      simp [h2]
theorem l7Ints_at (xs ys : List Int) (hn : xs.length ≤ 9223372036854775807) (k : Nat) (hk : 2 * xs.length + 1 < k) : spec_l7Ints.f k xs ys = some (decide (xs = ys)) := by
  have := l7Ints_l xs ys hn xs.length k 0 (by omega) (by omega) hk
  unfold spec_l7Ints.f
  simpa using this
theorem slEqual_l (xs ys : List Int) (hl : ys.length = xs.length) (hn : xs.length ≤ 9223372036854775807) : ∀ (d k m : Nat), m + d = xs.length → d < k →
    slices_Equal_int_int.l0 k xs ys (xs.length : Int) (m : Int) = some (decide (xs.drop m = ys.drop m)) := by
  intro d
  induction d with
  | zero =>
    intro k m hd hk
    obtain ⟨k, rfl⟩ : ∃ q, k = q + 1 := ⟨k - 1, by omega⟩
    simp only [slices_Equal_int_int.l0]
    rw [if_neg (by omega), List.drop_of_length_le (by omega), List.drop_of_length_le (by omega)]
    simp
  | succ d ih =>
    intro k m hd hk
    obtain ⟨k, rfl⟩ : ∃ q, k = q + 1 := ⟨k - 1, by omega⟩
    simp only [slices_Equal_int_int.l0]
    rw [if_pos (by omega), if_pos (by omega), if_pos (by omega), if_pos (by omega), wn (n := xs.length) (by omega) hn, ih k (m + 1) (by omega) (by omega), drop_at xs m (by omega), drop_at ys m (by omega)]
    by_cases h : rd xs m = rd ys m <;> simp [h]
theorem slEqual_at (xs ys : List Int) (hn : xs.length ≤ 9223372036854775807) (k : Nat) (hk : xs.length < k) : slices_Equal_int_int.f k xs ys = some (decide (xs = ys)) := by
  unfold slices_Equal_int_int.f
  by_cases h : (xs.length : Int) = (ys.length : Int)
  · rw [if_pos h]
    have := slEqual_l xs ys (by omega) hn xs.length k 0 (by omega) hk
    simpa using this
  · rw [if_neg h]
    have : xs ≠ ys := fun e => h (by rw [e])
    simp [this]
/-- Two certificates are alike. -/
def qcB (v : Int) (s : ByteArray) (l : List Int) (v' : Int) (s' : ByteArray) (l' : List Int) : Bool := decide (v = v' ∧ s.toList = s'.toList ∧ l = l')
theorem specQcSame_at (v : Int) (s : ByteArray) (l : List Int) (v' : Int) (s' : ByteArray) (l' : List Int) (hn : l.length ≤ 9223372036854775807) (k : Nat) (hk : 2 * l.length + 1 < k) :
    spec_QcSame.f k v s l v' s' l' = some (qcB v s l v' s' l') := by
  unfold spec_QcSame.f qcB
  rw [l7Ints_at l l' hn k hk]
  by_cases h1 : v = v' <;> by_cases h2 : s.toList = s'.toList <;> simp [h1, h2]
theorem implQcSame_at (v : Int) (s : ByteArray) (l : List Int) (v' : Int) (s' : ByteArray) (l' : List Int) (hn : l.length ≤ 9223372036854775807) (k : Nat) (hk : 2 * l.length + 1 < k) :
    impl_QcSame.f k v s l v' s' l' = some (qcB v s l v' s' l') := by
  unfold impl_QcSame.f qcB
  rw [slEqual_at l l' hn k (by omega)]
  by_cases h1 : v = v' <;> by_cases h2 : s.toList = s'.toList <;> simp [h1, h2]
theorem wsub {a n : Int} (h0 : 0 ≤ n) (h1 : n ≤ 9223372036854775807) (ha : 0 ≤ a ∧ a ≤ 1048576) : wrap64 (a - n) = a - n := by unfold wrap64; omega
theorem szIntS_at (xs : List Int) (a : Int) (hn : xs.length ≤ 9223372036854775807) (ha : 0 ≤ a ∧ a ≤ 1048576) :
    laws_szIntS.f xs a = some (if a - (xs.length : Int) < 0 then -1 else a - (xs.length : Int)) := by
  unfold laws_szIntS.f
  rw [wsub (by omega) (by omega) ha]
  split <;> rfl
theorem szQc_at (v : Int) (s : ByteArray) (l : List Int) (a : Int) (hs : s.size ≤ maxLen) (hn : l.length ≤ maxLen) (ha : 0 ≤ a ∧ a ≤ 1048576) :
    ∃ t, laws_szQc.f v s l a = some t ∧ (t < 0 ∨ (0 ≤ t ∧ t = a - (s.size : Int) - (l.length : Int))) := by
  unfold laws_szQc.f
  have h1 := len_ok hs
  have h2 := len_ok hn
  rw [wsub (by omega) (by omega) ha]
  by_cases h : a - (s.size : Int) < 0
  · exact ⟨_, by rw [if_pos h], .inl (by omega)⟩
  · rw [if_neg h, szIntS_at l _ h2 ⟨by omega, by omega⟩]
    by_cases h3 : a - (s.size : Int) - (l.length : Int) < 0
    · exact ⟨-1, by simp [h3], .inl (by omega)⟩
    · exact ⟨_, by simp only [if_neg h3, Option.bind_some], .inr ⟨by omega, rfl⟩⟩
theorem szSafe_at (x y v : Int) (s : ByteArray) (l : List Int) (d : ByteArray) (a : Int) (hs : s.size ≤ maxLen) (hn : l.length ≤ maxLen) (hd : d.size ≤ maxLen) (ha : 0 ≤ a ∧ a ≤ 1048576) :
    ∃ t, laws_szSafe.f x y v s l d a = some t ∧ (t < 0 ∨ (0 ≤ t ∧ t = a - (s.size : Int) - (l.length : Int) - (d.size : Int))) := by
  unfold laws_szSafe.f
  obtain ⟨t, ht, h⟩ := szQc_at v s l a hs hn ha
  have h1 := len_ok hd
  rw [ht, Option.bind_some]
  by_cases h0 : t < 0
  · exact ⟨_, by rw [if_pos h0], .inl (by omega)⟩
  · rw [if_neg h0, wsub (by omega) (by omega) ⟨by omega, by omega⟩]
    by_cases h3 : t - (d.size : Int) < 0
    · exact ⟨_, by rw [if_pos h3], .inl (by omega)⟩
    · exact ⟨_, by rw [if_neg h3], .inr ⟨by omega, by omega⟩⟩
theorem toIntS_l (xs : List Int) (hn : xs.length ≤ 9223372036854775807) : ∀ (d k : Nat) (out : List Int) (m : Nat), m + d = xs.length → out.length = xs.length → d < k →
    laws_toIntS.l0 k xs out (m : Int) = some (out.take m ++ xs.drop m) := by
  intro d
  induction d with
  | zero =>
    intro k out m hd hl hk
    obtain ⟨k, rfl⟩ : ∃ q, k = q + 1 := ⟨k - 1, by omega⟩
    simp only [laws_toIntS.l0]
    rw [if_neg (by omega), List.take_of_length_le (by omega), List.drop_of_length_le (by omega), List.append_nil]
  | succ d ih =>
    intro k out m hd hl hk
    obtain ⟨k, rfl⟩ : ∃ q, k = q + 1 := ⟨k - 1, by omega⟩
    simp only [laws_toIntS.l0]
    rw [if_pos (by omega), if_pos (by omega), if_pos (by omega), wn (n := xs.length) (by omega) hn, ih k _ (m + 1) (by omega) (by simpa using hl) (by omega), Int.toNat_natCast, set_take _ _ _ (by omega), drop_at xs m (by omega)]
    simp
theorem toIntS_at (xs : List Int) (hn : xs.length ≤ 35184372088832) (k : Nat) (hk : xs.length < k) : laws_toIntS.f k xs = some xs := by
  unfold laws_toIntS.f
  rw [if_pos (by omega), if_pos (by omega)]
  have h := toIntS_l xs (by omega) xs.length k (List.replicate ((xs.length : Int)).toNat 0) 0 (by omega) (by simp) hk
  simpa using h
theorem eqIntS_l (xs ys : List Int) (hl : ys.length = xs.length) (hn : xs.length ≤ 9223372036854775807) : ∀ (d k m : Nat), m + d = xs.length → d < k →
    laws_eqIntS.l0 k xs ys (m : Int) = some (decide (xs.drop m = ys.drop m)) := by
  intro d
  induction d with
  | zero =>
    intro k m hd hk
    obtain ⟨k, rfl⟩ : ∃ q, k = q + 1 := ⟨k - 1, by omega⟩
    simp only [laws_eqIntS.l0]
    rw [if_neg (by omega), List.drop_of_length_le (by omega), List.drop_of_length_le (by omega)]
    simp
  | succ d ih =>
    intro k m hd hk
    obtain ⟨k, rfl⟩ : ∃ q, k = q + 1 := ⟨k - 1, by omega⟩
    simp only [laws_eqIntS.l0]
    rw [if_pos (by omega), if_pos (by omega), if_pos (by omega), wn (n := xs.length) (by omega) hn, ih k (m + 1) (by omega) (by omega), drop_at xs m (by omega), drop_at ys m (by omega)]
    by_cases h : rd xs m = rd ys m <;> simp [h]
theorem eqIntS_at (xs ys : List Int) (hn : xs.length ≤ 9223372036854775807) (k : Nat) (hk : xs.length < k) : laws_eqIntS.f k xs ys = some (decide (xs = ys)) := by
  unfold laws_eqIntS.f
  by_cases h : (xs.length : Int) = (ys.length : Int)
  · rw [if_pos h]
    have := eqIntS_l xs ys (by omega) hn xs.length k 0 (by omega) hk
    simpa using this
  · rw [if_neg h]
    have : xs ≠ ys := fun e => h (by rw [e])
    simp [this]
theorem toQc_at (v : Int) (s : ByteArray) (l : List Int) (hn : l.length ≤ 35184372088832) (k : Nat) (hk : l.length < k) : laws_toQc.f k v s l = some (v, s, l) := by
  unfold laws_toQc.f
  rw [toIntS_at l hn k hk]; rfl
theorem eqQc_refl (v : Int) (s : ByteArray) (l : List Int) (hn : l.length ≤ 9223372036854775807) (k : Nat) (hk : l.length < k) : laws_eqQc.f k v s l v s l = some true := by
  unfold laws_eqQc.f
  rw [eqIntS_at l l hn k hk]; simp
theorem Pure.FnExactSafeSame : StatFnExactSafeSame := by
  intro x y v s l d x' y' v' s' l' d' _ _ _ hs hl hd _ _ _ hs' hl' hd'
  unfold laws_FnExactSafeSame.f
  obtain ⟨t, ht, h⟩ := szSafe_at x y v s l d 1048576 hs hl.1 hd (by omega)
  by_cases h0 : t < 0
  · exact ⟨0, by simp [ht, h0]⟩
  obtain ⟨t', ht', h'⟩ := szSafe_at x' y' v' s' l' d' t hs' hl'.1 hd' (by omega)
  by_cases h0' : t' < 0
  · exact ⟨0, by simp [ht, h0, ht', h0']⟩
  have n1 : l.length ≤ 1048576 := by omega
  have n2 : l'.length ≤ 1048576 := by omega
  refine ⟨2 * l.length + l'.length + 2, ?_⟩
  generalize hk : 2 * l.length + l'.length + 2 = k
  have e1 := toQc_at v s l (by omega) k (by omega)
  have e2 := toQc_at v' s' l' (by omega) k (by omega)
  have e3 := eqQc_refl v s l (by omega) k (by omega)
  have e4 := eqQc_refl v' s' l' (by omega) k (by omega)
  have e5 := specQcSame_at v s l v' s' l' (by omega) k (by omega)
  have e6 := implQcSame_at v s l v' s' l' (by omega) k (by omega)
  have e7 : spec_SafeSame.f k x y v s l d x' y' v' s' l' d' = impl_SafeSame.f k x y v s l d x' y' v' s' l' d' := by
    unfold spec_SafeSame.f impl_SafeSame.f
    rw [e5, e6]
  have e8 : ∃ r, impl_SafeSame.f k x y v s l d x' y' v' s' l' d' = some r := by
    unfold impl_SafeSame.f
    rw [e6]
    by_cases h1 : x = x' <;> by_cases h2 : y = y' <;> cases qcB v s l v' s' l' <;> simp [h1, h2]
  obtain ⟨r, hr⟩ := e8
  simp [ht, h0, ht', h0', laws_toSafe.f, laws_eqSafe.f, e1, e2, e3, e4, e7, hr]
end Go.Proofs.Ytjbkdffimfbdnaa.PFnExactSafeSame
