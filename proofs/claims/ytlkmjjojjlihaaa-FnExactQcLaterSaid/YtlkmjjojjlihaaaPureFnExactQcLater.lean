/- The law FnExactQcLater over numbers, texts and lists: both sides of QcLater come to one certificate, whose list is its own. No condition. -/
import Derived.Test.YtlkmjjojjlihaaaStatFnExactQcLater
namespace Go.Proofs.Ytlkmjjojjlihaaa.PFnExactQcLater
open Go.RowKit Go.Proofs.YtlkmjjojjlihaaaW.PrintWords Go.Proofs.YtlkmjjojjlihaaaW.PrintLast
set_option linter.unusedVariables false
set_option linter.unusedSimpArgs false
theorem wn {m n : Nat} (h : m < n) (hn : n ≤ 9223372036854775807) : wrap64 ((m : Int) + 1) = ((m + 1 : Nat) : Int) := by unfold wrap64; omega
theorem wi {a : Int} {n : Nat} (h0 : 0 ≤ a) (h : a + (n : Int) ≤ 9223372036854775807) : ∀ {m : Nat}, m < n → wrap64 (a + (m : Int) + 1) = a + ((m + 1 : Nat) : Int) := by
  intro m hm
  unfold wrap64
  omega
theorem len_ok {n : Nat} (h : n ≤ maxLen) : n ≤ 9223372036854775807 := by unfold maxLen at h; omega
theorem set_take {α : Type} (l : List α) (n : Nat) (x : α) (h : n < l.length) : (l.set n x).take (n + 1) = l.take n ++ [x] := by
  rw [List.take_succ_eq_append_getElem (by simpa using h), List.take_set_of_le (Nat.le_refl _)]
  simp
theorem drop_at (l : List Int) (n : Nat) (h : n < l.length) : l.drop n = rd l (n : Int) :: l.drop (n + 1) := by
  rw [List.drop_eq_getElem_cons h]
  simp [rd, List.getD_eq_getElem?_getD, List.getElem?_eq_getElem h]
/-- n numbers that follow each other, from a on. -/
def marks (a : Int) : Nat → List Int
  | 0 => []
  | n + 1 => a :: marks (a + 1) n
theorem marks_length : ∀ (n : Nat) (a : Int), (marks a n).length = n
  | 0, _ => rfl
  | n + 1, a => by simp [marks, marks_length n]
theorem wsub {a n : Int} (h0 : 0 ≤ n) (h1 : n ≤ 9223372036854775807) (ha : 0 ≤ a ∧ a ≤ 1048576) : wrap64 (a - n) = a - n := by unfold wrap64; omega
theorem szIntS_at (xs : List Int) (a : Int) (hn : xs.length ≤ 9223372036854775807) (ha : 0 ≤ a ∧ a ≤ 1048576) :
    laws_szIntS.f xs a = some (if a - (xs.length : Int) < 0 then -1 else a - (xs.length : Int)) := by
  unfold laws_szIntS.f
  rw [wsub (by omega) (by omega) ha]
  split <;> rfl
theorem szQc_at (v : Int) (s : ByteArray) (l : List Int) (a : Int) (hs : s.size ≤ maxLen) (hn : l.length ≤ maxLen) (ha : 0 ≤ a ∧ a ≤ 1048576) :
    ∃ t, laws_szQc.f v s l a = some t ∧ (t < 0 ∨ (0 ≤ t ∧ t = a - (s.size : Int) - (l.length : Int))) := by
  unfold laws_szQc.f
  have h1 := len_ok hs
  have h2 := len_ok hn
  rw [wsub (by omega) (by omega) ha]
  by_cases h : a - (s.size : Int) < 0
  · exact ⟨_, by rw [if_pos h], .inl (by omega)⟩
  · rw [if_neg h, szIntS_at l _ h2 ⟨by omega, by omega⟩]
    by_cases h3 : a - (s.size : Int) - (l.length : Int) < 0
    · exact ⟨-1, by simp [h3], .inl (by omega)⟩
    · exact ⟨_, by simp only [if_neg h3, Option.bind_some], .inr ⟨by omega, rfl⟩⟩
theorem toIntS_l (xs : List Int) (hn : xs.length ≤ 9223372036854775807) : ∀ (d k : Nat) (out : List Int) (m : Nat), m + d = xs.length → out.length = xs.length → d < k →
    laws_toIntS.l0 k xs out (m : Int) = some (out.take m ++ xs.drop m) := by
  intro d
  induction d with
  | zero =>
    intro k out m hd hl hk
    obtain ⟨k, rfl⟩ : ∃ q, k = q + 1 := ⟨k - 1, by omega⟩
    simp only [laws_toIntS.l0]
    rw [if_neg (by omega), List.take_of_length_le (by omega), List.drop_of_length_le (by omega), List.append_nil]
  | succ d ih =>
    intro k out m hd hl hk
    obtain ⟨k, rfl⟩ : ∃ q, k = q + 1 := ⟨k - 1, by omega⟩
    simp only [laws_toIntS.l0]
    rw [if_pos (by omega), if_pos (by omega), if_pos (by omega), wn (n := xs.length) (by omega) hn, ih k _ (m + 1) (by omega) (by simpa using hl) (by omega), Int.toNat_natCast, set_take _ _ _ (by omega), drop_at xs m (by omega)]
    simp
theorem toIntS_at (xs : List Int) (hn : xs.length ≤ 35184372088832) (k : Nat) (hk : xs.length < k) : laws_toIntS.f k xs = some xs := by
  unfold laws_toIntS.f
  rw [if_pos (by omega), if_pos (by omega)]
  have h := toIntS_l xs (by omega) xs.length k (List.replicate ((xs.length : Int)).toNat 0) 0 (by omega) (by simp) hk
  simpa using h
theorem eqIntS_l (xs ys : List Int) (hl : ys.length = xs.length) (hn : xs.length ≤ 9223372036854775807) : ∀ (d k m : Nat), m + d = xs.length → d < k →
    laws_eqIntS.l0 k xs ys (m : Int) = some (decide (xs.drop m = ys.drop m)) := by
  intro d
  induction d with
  | zero =>
    intro k m hd hk
    obtain ⟨k, rfl⟩ : ∃ q, k = q + 1 := ⟨k - 1, by omega⟩
    simp only [laws_eqIntS.l0]
    rw [if_neg (by omega), List.drop_of_length_le (by omega), List.drop_of_length_le (by omega)]
    simp
  | succ d ih =>
    intro k m hd hk
    obtain ⟨k, rfl⟩ : ∃ q, k = q + 1 := ⟨k - 1, by omega⟩
    simp only [laws_eqIntS.l0]
    rw [if_pos (by omega), if_pos (by omega), if_pos (by omega), wn (n := xs.length) (by omega) hn, ih k (m + 1) (by omega) (by omega), drop_at xs m (by omega), drop_at ys m (by omega)]
    by_cases h : rd xs m = rd ys m <;> simp [h]
theorem eqIntS_at (xs ys : List Int) (hn : xs.length ≤ 9223372036854775807) (k : Nat) (hk : xs.length < k) : laws_eqIntS.f k xs ys = some (decide (xs = ys)) := by
  unfold laws_eqIntS.f
  by_cases h : (xs.length : Int) = (ys.length : Int)
  · rw [if_pos h]
    have := eqIntS_l xs ys (by omega) hn xs.length k 0 (by omega) hk
    simpa using this
  · rw [if_neg h]
    have : xs ≠ ys := fun e => h (by rw [e])
    simp [this]
theorem toQc_at (v : Int) (s : ByteArray) (l : List Int) (hn : l.length ≤ 35184372088832) (k : Nat) (hk : l.length < k) : laws_toQc.f k v s l = some (v, s, l) := by
  unfold laws_toQc.f
  rw [toIntS_at l hn k hk]; rfl
theorem eqQc_refl (v : Int) (s : ByteArray) (l : List Int) (hn : l.length ≤ 9223372036854775807) (k : Nat) (hk : l.length < k) : laws_eqQc.f k v s l v s l = some true := by
  unfold laws_eqQc.f
  rw [eqIntS_at l l hn k hk]; simp
theorem markIntS_l (n : Nat) (a : Int) (h0 : 0 ≤ a) (ha : a + (n : Int) ≤ 9223372036854775807) : ∀ (d k m : Nat) (xs : List Int), xs.length = n → m + d = n → d < k →
    laws_markIntS.l0 k xs (a + (m : Int)) (m : Int) = some (a + (n : Int), xs.take m ++ marks (a + (m : Int)) d) := by
  intro d
  induction d with
  | zero =>
    intro k m xs hx hd hk
    obtain ⟨k, rfl⟩ : ∃ q, k = q + 1 := ⟨k - 1, by omega⟩
    simp only [laws_markIntS.l0]
    rw [if_neg (by omega), List.take_of_length_le (by omega)]
    obtain rfl : m = n := by omega
    simp [marks]
  | succ d ih =>
    intro k m xs hx hd hk
    obtain ⟨k, rfl⟩ : ∃ q, k = q + 1 := ⟨k - 1, by omega⟩
    simp only [laws_markIntS.l0]
    rw [if_pos (by omega), if_pos (by omega), wn (n := n) (by omega) (by omega), wi h0 ha (by omega), ih k (m + 1) _ (by simpa using hx) (by omega) (by omega), Int.toNat_natCast, set_take _ _ _ (by omega), marks]
    rw [show a + ((m + 1 : Nat) : Int) = a + (m : Int) + 1 by omega]
    simp
theorem markIntS_at (xs : List Int) (a : Int) (h0 : 0 ≤ a) (ha : a + (xs.length : Int) ≤ 9223372036854775807) (k : Nat) (hk : xs.length < k) :
    laws_markIntS.f k xs a = some (a + (xs.length : Int), marks a xs.length) := by
  unfold laws_markIntS.f
  have := markIntS_l xs.length a h0 ha xs.length k 0 xs rfl (by omega) hk
  simpa using this
theorem heldIntS_l (xs : List Int) (a : Int) (h0 : 0 ≤ a) (ha : a + (xs.length : Int) ≤ 9223372036854775807) : ∀ (d k m : Nat), m + d = xs.length → xs.drop m = marks (a + (m : Int)) d → d < k →
    laws_heldIntS.l0 k xs (a + (m : Int)) (m : Int) = some (a + (xs.length : Int)) := by
  intro d
  induction d with
  | zero =>
    intro k m hd hx hk
    obtain ⟨k, rfl⟩ : ∃ q, k = q + 1 := ⟨k - 1, by omega⟩
    simp only [laws_heldIntS.l0]
    rw [if_neg (by omega)]
    obtain rfl : m = xs.length := by omega
    rfl
  | succ d ih =>
    intro k m hd hx hk
    obtain ⟨k, rfl⟩ : ∃ q, k = q + 1 := ⟨k - 1, by omega⟩
    rw [drop_at xs m (by omega), marks] at hx
    obtain ⟨h1, h2⟩ := List.cons.inj hx
    simp only [laws_heldIntS.l0]
    rw [if_pos (by omega), if_pos (by omega), if_pos h1, wn (n := xs.length) (by omega) (by omega), wi h0 ha (by omega), ih k (m + 1) (by omega) (by rw [h2]; congr 1; omega) (by omega)]
theorem heldIntS_at (n : Nat) (a : Int) (h0 : 0 ≤ a) (ha : a + (n : Int) ≤ 9223372036854775807) (k : Nat) (hk : n < k) : laws_heldIntS.f k (marks a n) a = some (a + (n : Int)) := by
  unfold laws_heldIntS.f
  have hl := marks_length n a
  have := heldIntS_l (marks a n) a h0 (by omega) n k 0 (by omega) (by simp) hk
  rw [hl] at this
  simpa using this
theorem markQc_at (v : Int) (s : ByteArray) (l : List Int) (a : Int) (h0 : 0 ≤ a) (ha : a + (l.length : Int) ≤ 9223372036854775807) (k : Nat) (hk : l.length < k) :
    laws_markQc.f k v s l a = some (a + (l.length : Int), marks a l.length) := by
  unfold laws_markQc.f
  rw [markIntS_at l a h0 ha k hk]; rfl
theorem heldQc_at (v : Int) (s : ByteArray) (n : Nat) (a : Int) (h0 : 0 ≤ a) (ha : a + (n : Int) ≤ 9223372036854775807) (k : Nat) (hk : n < k) :
    laws_heldQc.f k v s (marks a n) a = some (a + (n : Int)) := by
  unfold laws_heldQc.f
  rw [heldIntS_at n a h0 ha k hk, Option.bind_some, if_neg (by omega)]
theorem specCopyQc_at (v : Int) (s : ByteArray) (l : List Int) (hn : l.length < 17592186044416) : spec_l7Copy.f v s l = some (v, s, l) := by
  unfold spec_l7Copy.f
  rw [Option.bind_some, if_pos (by simpa using hn)]; rfl
theorem implCopyQc_at (v : Int) (s : ByteArray) (l : List Int) (hn : l.length < 17592186044416) : impl_copyQc.f v s l = some (v, s, l) := by
  unfold impl_copyQc.f impl_copyInts.f
  rw [if_pos (by simpa using hn)]; rfl
theorem specQcLater_at (v : Int) (s : ByteArray) (l : List Int) (v' : Int) (s' : ByteArray) (l' : List Int) (hn : l.length < 17592186044416) (hn' : l'.length < 17592186044416) :
    spec_QcLater.f v s l v' s' l' = some (if v > v' then (v, s, l) else (v', s', l')) := by
  unfold spec_QcLater.f
  rw [specCopyQc_at v s l hn, specCopyQc_at v' s' l' hn']
  split <;> rfl
theorem implQcLater_at (v : Int) (s : ByteArray) (l : List Int) (v' : Int) (s' : ByteArray) (l' : List Int) (hn : l.length < 17592186044416) (hn' : l'.length < 17592186044416) :
    impl_QcLater.f v s l v' s' l' = some (if v > v' then (v, s, l) else (v', s', l')) := by
  unfold impl_QcLater.f
  rw [implCopyQc_at v s l hn, implCopyQc_at v' s' l' hn']
  split <;> rfl
theorem Pure.FnExactQcLater : StatFnExactQcLater := by
  intro v s l v' s' l' _ hs hl _ hs' hl'
  unfold laws_FnExactQcLater.f
  obtain ⟨t, ht, h⟩ := szQc_at v s l 1048576 hs hl.1 (by omega)
  by_cases h0 : t < 0
  · exact ⟨0, by simp [ht, h0]⟩
  obtain ⟨t', ht', h'⟩ := szQc_at v' s' l' t hs' hl'.1 (by omega)
  by_cases h0' : t' < 0
  · exact ⟨0, by simp [ht, h0, ht', h0']⟩
  have n1 : l.length ≤ 1048576 := by omega
  have n2 : l'.length ≤ 1048576 := by omega
  refine ⟨l.length + l'.length + 2, ?_⟩
  generalize hk : l.length + l'.length + 2 = k
  have e1 := toQc_at v s l (by omega) k (by omega)
  have e2 := toQc_at v' s' l' (by omega) k (by omega)
  have e3 := eqQc_refl v s l (by omega) k (by omega)
  have e4 := eqQc_refl v' s' l' (by omega) k (by omega)
  have e5 := specQcLater_at v s l v' s' l' (by omega) (by omega)
  have e6 := implQcLater_at v s l v' s' l' (by omega) (by omega)
  have e7 := markQc_at v s l 1 (by omega) (by omega) k (by omega)
  have e8 := markQc_at v' s' l' (1 + (l.length : Int)) (by omega) (by omega) k (by omega)
  have e9 := markQc_at v' s' l' 1 (by omega) (by omega) k (by omega)
  have e10 := heldQc_at v s l.length 1 (by omega) (by omega) k (by omega)
  have e11 := heldQc_at v' s' l'.length 1 (by omega) (by omega) k (by omega)
  have b1 : ¬ 1 + (l.length : Int) + (l'.length : Int) < 0 := by omega
  have b2 : ¬ 1 + (l.length : Int) < 0 := by omega
  have b3 : ¬ 1 + (l'.length : Int) < 0 := by omega
  by_cases hv : v > v'
  · rw [if_pos hv] at e5 e6
    simp [ht, h0, ht', h0', e1, e2, e3, e4, e5, e6, e7, e8, e10, b1, b2]
  · rw [if_neg hv] at e5 e6
    simp [ht, h0, ht', h0', e1, e2, e3, e4, e5, e6, e7, e8, e9, e11, b1, b3]
end Go.Proofs.Ytlkmjjojjlihaaa.PFnExactQcLater
