/- The law FnExactPartJoin over numbers, texts and lists: both PartJoins come to one part, whose list is its own. No condition. -/
import Derived.Test.YtemjmefacifdeaaStatFnExactPartJoin
namespace Go.Proofs.Ytemjmefacifdeaa.PFnExactPartJoin
open Go.RowKit Go.Proofs.YtemjmefacifdeaaW.PrintWords Go.Proofs.YtemjmefacifdeaaW.PrintLast
set_option linter.unusedVariables false
set_option linter.unusedSimpArgs false
theorem wn {m n : Nat} (h : m < n) (hn : n ≤ 9223372036854775807) : wrap64 ((m : Int) + 1) = ((m + 1 : Nat) : Int) := by unfold wrap64; omega
theorem wi {a : Int} {n : Nat} (h0 : 0 ≤ a) (h : a + (n : Int) ≤ 9223372036854775807) : ∀ {m : Nat}, m < n → wrap64 (a + (m : Int) + 1) = a + ((m + 1 : Nat) : Int) := by
  intro m hm
  unfold wrap64
  omega
theorem len_ok {n : Nat} (h : n ≤ maxLen) : n ≤ 9223372036854775807 := by unfold maxLen at h; omega
theorem set_take {α : Type} (l : List α) (n : Nat) (x : α) (h : n < l.length) : (l.set n x).take (n + 1) = l.take n ++ [x] := by
  rw [List.take_succ_eq_append_getElem (by simpa using h), List.take_set_of_le (Nat.le_refl _)]
  simp
theorem drop_at (l : List Int) (n : Nat) (h : n < l.length) : l.drop n = rd l (n : Int) :: l.drop (n + 1) := by
  rw [List.drop_eq_getElem_cons h]
  simp [rd, List.getD_eq_getElem?_getD, List.getElem?_eq_getElem h]
/-- n numbers that follow each other, from a on. -/
def marks (a : Int) : Nat → List Int
  | 0 => []
  | n + 1 => a :: marks (a + 1) n
theorem marks_length : ∀ (n : Nat) (a : Int), (marks a n).length = n
  | 0, _ => rfl
  | n + 1, a => by simp [marks, marks_length n]
theorem specSetHas_l (xs : List Int) (x : Int) (hn : xs.length ≤ 9223372036854775807) : ∀ (d k m : Nat), m + d = xs.length → d < k →
    spec_SetHas.l0 k xs x (m : Int) = some (decide (x ∈ xs.drop m)) := by
  intro d
  induction d with
  | zero =>
    intro k m hd hk
    obtain ⟨k, rfl⟩ : ∃ q, k = q + 1 := ⟨k - 1, by omega⟩
    simp only [spec_SetHas.l0]
    rw [if_neg (by omega), List.drop_of_length_le (by omega)]
    simp
  | succ d ih =>
    intro k m hd hk
    obtain ⟨k, rfl⟩ : ∃ q, k = q + 1 := ⟨k - 1, by omega⟩
    simp only [spec_SetHas.l0]
    rw [if_pos (by omega), if_pos (by omega), wn (n := xs.length) (by omega) hn, ih k (m + 1) (by omega) (by omega), drop_at xs m (by omega)]
    by_cases h : rd xs m = x
    · simp [h]
    · have h' : ¬ x = rd xs m := fun e => h e.symm
      simp [h, h']
theorem specSetHas_at (xs : List Int) (x : Int) (hn : xs.length ≤ 9223372036854775807) (k : Nat) (hk : xs.length < k) : spec_SetHas.f k xs x = some (decide (x ∈ xs)) := by
  have := specSetHas_l xs x hn xs.length k 0 (by omega) hk
  unfold spec_SetHas.f
  simpa using this
theorem slIndex_l (xs : List Int) (x : Int) (hn : xs.length ≤ 9223372036854775807) : ∀ (d k m : Nat), m + d = xs.length → d < k →
    ∃ r, slices_Index_int_int.l0 k xs x (xs.length : Int) (m : Int) = some r ∧ decide (r ≥ 0) = decide (x ∈ xs.drop m) := by
  intro d
  induction d with
  | zero =>
    intro k m hd hk
    obtain ⟨k, rfl⟩ : ∃ q, k = q + 1 := ⟨k - 1, by omega⟩
    refine ⟨-1, ?_, ?_⟩
    · simp only [slices_Index_int_int.l0]
      rw [if_neg (by omega)]
    · rw [List.drop_of_length_le (by omega)]; simp
  | succ d ih =>
    intro k m hd hk
    obtain ⟨k, rfl⟩ : ∃ q, k = q + 1 := ⟨k - 1, by omega⟩
    obtain ⟨r, hr, h2⟩ := ih k (m + 1) (by omega) (by omega)
    simp only [slices_Index_int_int.l0]
    rw [if_pos (by omega), if_pos (by omega), if_pos (by omega), wn (n := xs.length) (by omega) hn, hr, drop_at xs m (by omega)]
    by_cases h : x = rd xs m
    · exact ⟨m, by rw [if_pos h], by simp [h]⟩
    · exact ⟨r, by rw [if_neg h], by rw [h2]; simp [h]⟩
theorem implSetHas_at (xs : List Int) (x : Int) (hn : xs.length ≤ 9223372036854775807) (k : Nat) (hk : xs.length < k) : impl_SetHas.f k xs x = some (decide (x ∈ xs)) := by
  obtain ⟨r, hr, h2⟩ := slIndex_l xs x hn xs.length k 0 (by omega) hk
  unfold impl_SetHas.f slices_Contains_int_int.f slices_Index_int_int.f
  rw [show ((0 : Nat) : Int) = 0 from rfl] at hr
  rw [hr]
  simp only [Option.bind_some, h2, List.drop_zero]
def addOf (l : List Int) (x : Int) : List Int := if x ∈ l then l else l.take (impl_SetAdd.at_ l x) ++ x :: l.drop (impl_SetAdd.at_ l x)
theorem addOf_len (l : List Int) (x : Int) : (addOf l x).length ≤ l.length + 1 := by
  unfold addOf
  split
  · omega
  · rw [List.length_append, List.length_cons, List.length_take, List.length_drop]; omega
theorem implSetAdd_at (l : List Int) (x : Int) (hn : l.length ≤ 10000000) (k : Nat) (hk : l.length < k) : impl_SetAdd.f k l x = some (addOf l x) := by
  have c0 : ([] : List Int).length + l.length < 17592186044416 := by simp; omega
  unfold impl_SetAdd.f impl_copyInts.f addOf
  rw [implSetHas_at l x (by omega) k hk, Option.bind_some, if_pos c0, Option.bind_some, List.nil_append]
  by_cases h : x ∈ l
  · rw [if_pos (by simpa using h), if_pos h]
  · rw [if_neg (by simpa using h), if_neg h]
theorem specSetAdd_l (l : List Int) (x : Int) (hn : l.length ≤ 10000000) : ∀ (d k m : Nat), m + d = l.length → d < k →
    spec_SetAdd.l0 k l x (m : Int) = some (l.take (m + impl_SetAdd.at_ (l.drop m) x) ++ x :: l.drop (m + impl_SetAdd.at_ (l.drop m) x)) := by
  have fin : ∀ m : Nat, m ≤ l.length → ([] ++ l.take m).length < 17592186044416 ∧ (([] ++ l.take m) ++ [x]).length + (l.drop m).length < 17592186044416 := by
    intro m hm
    simp only [List.nil_append, List.length_append, List.length_take, List.length_drop, List.length_singleton]
    omega
  intro d
  induction d with
  | zero =>
    intro k m hd hk
    obtain ⟨k, rfl⟩ : ∃ q, k = q + 1 := ⟨k - 1, by omega⟩
    obtain ⟨f1, f2⟩ := fin m (by omega)
    have c1 : ¬ (m : Int) < (l.length : Int) := by omega
    have c2 : (0 : Int) ≤ (m : Int) := by omega
    have c3 : (m : Int) ≤ (l.length : Int) := by omega
    have c4 : ([] : List Int).length + (l.take m).length < 17592186044416 := by simpa using f1
    have c5 : impl_SetAdd.at_ (l.drop m) x = 0 := by
      rw [List.drop_of_length_le (by omega)]; rfl
    simp only [spec_SetAdd.l0, if_neg c1, Option.bind_some, if_pos c2, if_pos c3, Int.toNat_natCast, if_pos c4, if_pos f1, if_pos f2, c5, Nat.add_zero]
    simp
  | succ d ih =>
    intro k m hd hk
    obtain ⟨k, rfl⟩ : ∃ q, k = q + 1 := ⟨k - 1, by omega⟩
    obtain ⟨f1, f2⟩ := fin m (by omega)
    have hm : m < l.length := by omega
    have c1 : (m : Int) < (l.length : Int) := by omega
    have c2 : (0 : Int) ≤ (m : Int) := by omega
    have c3 : (m : Int) ≤ (l.length : Int) := by omega
    have c4 : ([] : List Int).length + (l.take m).length < 17592186044416 := by simpa using f1
    have r1 := ih k (m + 1) (by omega) (by omega)
    have hw : wrap64 ((m : Int) + 1) = ((m + 1 : Nat) : Int) := wn (n := l.length) (by omega) (by omega)
    have hr : rd l (m : Int) = l[m] := by simp [rd, List.getD_eq_getElem?_getD, List.getElem?_eq_getElem hm]
    simp only [spec_SetAdd.l0, if_pos c1, Option.bind_some, if_pos c2, if_pos c3, Int.toNat_natCast, if_pos c4, if_pos f1, if_pos f2, hw, r1, hr]
    have hdr : l.drop m = l[m] :: l.drop (m + 1) := List.drop_eq_getElem_cons hm
    by_cases hx : l[m] < x
    · have c5 : impl_SetAdd.at_ (l.drop m) x = impl_SetAdd.at_ (l.drop (m + 1)) x + 1 := by
        rw [hdr]
        unfold impl_SetAdd.at_
        rw [List.takeWhile_cons_of_pos (by simpa using hx)]; rfl
      have c6 : m + impl_SetAdd.at_ (l.drop m) x = m + 1 + impl_SetAdd.at_ (l.drop (m + 1)) x := by omega
      rw [if_pos hx, c6]
    · have c5 : impl_SetAdd.at_ (l.drop m) x = 0 := by
        rw [hdr]
        unfold impl_SetAdd.at_
        rw [List.takeWhile_cons_of_neg (by simpa using hx)]; rfl
      rw [if_neg hx, c5, Nat.add_zero]
      simp
theorem specSetAdd_at (l : List Int) (x : Int) (hn : l.length ≤ 10000000) (k : Nat) (hk : l.length < k) : spec_SetAdd.f k l x = some (addOf l x) := by
  have c0 : ([] : List Int).length + l.length < 17592186044416 := by simp; omega
  have h0 := specSetAdd_l l x hn l.length k 0 (by omega) hk
  have h0' : spec_SetAdd.l0 k l x 0 = some (l.take (impl_SetAdd.at_ l x) ++ x :: l.drop (impl_SetAdd.at_ l x)) := by simpa using h0
  unfold spec_SetAdd.f addOf
  rw [specSetHas_at l x (by omega) k hk, Option.bind_some]
  by_cases h : x ∈ l
  · rw [if_pos (by simpa using h), if_pos h, Option.bind_some, if_pos c0, List.nil_append]
  · rw [if_neg (by simpa using h), if_neg h, h0']
theorem specSetJoin_l1 (b : List Int) (hb : b.length ≤ 10000000) : ∀ (d k m : Nat) (o : List Int), m + d = b.length → o.length + d ≤ 10000000 → o.length + 2 * d + 1 < k →
    spec_SetJoin.l1 k b o (m : Int) = some ((b.drop m).foldl addOf o) := by
  intro d
  induction d with
  | zero =>
    intro k m o hd ho hk
    obtain ⟨k, rfl⟩ : ∃ q, k = q + 1 := ⟨k - 1, by omega⟩
    simp only [spec_SetJoin.l1]
    rw [if_neg (by omega), List.drop_of_length_le (by omega), List.foldl_nil]
  | succ d ih =>
    intro k m o hd ho hk
    obtain ⟨k, rfl⟩ : ∃ q, k = q + 1 := ⟨k - 1, by omega⟩
    have hl := addOf_len o (rd b (m : Int))
    have hw : wrap64 ((m : Int) + 1) = ((m + 1 : Nat) : Int) := wn (n := b.length) (by omega) (by omega)
    simp only [spec_SetJoin.l1]
    rw [if_pos (by omega), if_pos (by omega), specSetAdd_at o _ (by omega) k (by omega), Option.bind_some, hw, ih k (m + 1) _ (by omega) (by omega) (by omega), drop_at b m (by omega), List.foldl_cons]
theorem specSetJoin_l0 (a b : List Int) (ha : a.length ≤ 10000000) (hb : b.length ≤ 10000000) : ∀ (d k m : Nat) (o : List Int), m + d = a.length → o.length + d + b.length ≤ 10000000 → o.length + 2 * d + 2 * b.length + 5 < k →
    spec_SetJoin.l0 k a b o (m : Int) = some (b.foldl addOf ((a.drop m).foldl addOf o)) := by
  intro d
  induction d with
  | zero =>
    intro k m o hd ho hk
    obtain ⟨k, rfl⟩ : ∃ q, k = q + 1 := ⟨k - 1, by omega⟩
    have h1 := specSetJoin_l1 b hb b.length k 0 o (by omega) (by omega) (by omega)
    simp only [spec_SetJoin.l0]
    rw [if_neg (by omega), List.drop_of_length_le (by omega), List.foldl_nil]
    exact h1
  | succ d ih =>
    intro k m o hd ho hk
    obtain ⟨k, rfl⟩ : ∃ q, k = q + 1 := ⟨k - 1, by omega⟩
    have hl := addOf_len o (rd a (m : Int))
    have hw : wrap64 ((m : Int) + 1) = ((m + 1 : Nat) : Int) := wn (n := a.length) (by omega) (by omega)
    simp only [spec_SetJoin.l0]
    rw [if_pos (by omega), if_pos (by omega), specSetAdd_at o _ (by omega) k (by omega), Option.bind_some, hw, ih k (m + 1) _ (by omega) (by omega) (by omega), drop_at a m (by omega), List.foldl_cons]
theorem implSetJoin_l1 (b : List Int) (hb : b.length ≤ 10000000) : ∀ (d k m : Nat) (o : List Int), m + d = b.length → o.length + d ≤ 10000000 → o.length + 2 * d + 1 < k →
    impl_SetJoin.l1 k o b (b.length : Int) (m : Int) = some ((b.drop m).foldl addOf o) := by
  intro d
  induction d with
  | zero =>
    intro k m o hd ho hk
    obtain ⟨k, rfl⟩ : ∃ q, k = q + 1 := ⟨k - 1, by omega⟩
    simp only [impl_SetJoin.l1]
    rw [if_neg (by omega), List.drop_of_length_le (by omega), List.foldl_nil]
  | succ d ih =>
    intro k m o hd ho hk
    obtain ⟨k, rfl⟩ : ∃ q, k = q + 1 := ⟨k - 1, by omega⟩
    have hl := addOf_len o (rd b (m : Int))
    have hw : wrap64 ((m : Int) + 1) = ((m + 1 : Nat) : Int) := wn (n := b.length) (by omega) (by omega)
    simp only [impl_SetJoin.l1]
    rw [if_pos (by omega), if_pos (by omega), if_pos (by omega), implSetAdd_at o _ (by omega) k (by omega), Option.bind_some, hw, ih k (m + 1) _ (by omega) (by omega) (by omega), drop_at b m (by omega), List.foldl_cons]
theorem implSetJoin_l0 (a b : List Int) (ha : a.length ≤ 10000000) (hb : b.length ≤ 10000000) : ∀ (d k m : Nat) (o : List Int), m + d = a.length → o.length + d + b.length ≤ 10000000 → o.length + 2 * d + 2 * b.length + 5 < k →
    impl_SetJoin.l0 k b o a (a.length : Int) (m : Int) = some (b.foldl addOf ((a.drop m).foldl addOf o)) := by
  intro d
  induction d with
  | zero =>
    intro k m o hd ho hk
    obtain ⟨k, rfl⟩ : ∃ q, k = q + 1 := ⟨k - 1, by omega⟩
    have h1 := implSetJoin_l1 b hb b.length k 0 o (by omega) (by omega) (by omega)
    simp only [impl_SetJoin.l0]
    rw [if_neg (by omega), List.drop_of_length_le (by omega), List.foldl_nil]
    exact h1
  | succ d ih =>
    intro k m o hd ho hk
    obtain ⟨k, rfl⟩ : ∃ q, k = q + 1 := ⟨k - 1, by omega⟩
    have hl := addOf_len o (rd a (m : Int))
    have hw : wrap64 ((m : Int) + 1) = ((m + 1 : Nat) : Int) := wn (n := a.length) (by omega) (by omega)
    simp only [impl_SetJoin.l0]
    rw [if_pos (by omega), if_pos (by omega), if_pos (by omega), implSetAdd_at o _ (by omega) k (by omega), Option.bind_some, hw, ih k (m + 1) _ (by omega) (by omega) (by omega), drop_at a m (by omega), List.foldl_cons]
def joinOf (a b : List Int) : List Int := b.foldl addOf (a.foldl addOf [])
theorem foldAdd_len : ∀ (a o : List Int), (a.foldl addOf o).length ≤ o.length + a.length
  | [], o => by simp
  | x :: r, o => by
    have h1 := foldAdd_len r (addOf o x)
    have h2 := addOf_len o x
    simp only [List.foldl_cons, List.length_cons]
    omega
theorem joinOf_len (a b : List Int) : (joinOf a b).length ≤ a.length + b.length := by
  have h1 := foldAdd_len b (a.foldl addOf [])
  have h2 := foldAdd_len a []
  simp only [List.length_nil] at h2
  unfold joinOf
  omega
theorem specSetJoin_at (a b : List Int) (hn : a.length + b.length ≤ 10000000) (k : Nat) (hk : 2 * a.length + 2 * b.length + 5 < k) : spec_SetJoin.f k a b = some (joinOf a b) := by
  have h := specSetJoin_l0 a b (by omega) (by omega) a.length k 0 [] (by omega) (by simpa using hn) (by simpa using hk)
  exact h
theorem implSetJoin_at (a b : List Int) (hn : a.length + b.length ≤ 10000000) (k : Nat) (hk : 2 * a.length + 2 * b.length + 5 < k) : impl_SetJoin.f k a b = some (joinOf a b) := by
  have h := implSetJoin_l0 a b (by omega) (by omega) a.length k 0 [] (by omega) (by simpa using hn) (by simpa using hk)
  exact h
theorem wsub {a n : Int} (h0 : 0 ≤ n) (h1 : n ≤ 9223372036854775807) (ha : 0 ≤ a ∧ a ≤ 1048576) : wrap64 (a - n) = a - n := by unfold wrap64; omega
theorem szIntS_at (xs : List Int) (a : Int) (hn : xs.length ≤ 9223372036854775807) (ha : 0 ≤ a ∧ a ≤ 1048576) :
    laws_szIntS.f xs a = some (if a - (xs.length : Int) < 0 then -1 else a - (xs.length : Int)) := by
  unfold laws_szIntS.f
  rw [wsub (by omega) (by omega) ha]
  split <;> rfl
theorem toIntS_l (xs : List Int) (hn : xs.length ≤ 9223372036854775807) : ∀ (d k : Nat) (out : List Int) (m : Nat), m + d = xs.length → out.length = xs.length → d < k →
    laws_toIntS.l0 k xs out (m : Int) = some (out.take m ++ xs.drop m) := by
  intro d
  induction d with
  | zero =>
    intro k out m hd hl hk
    obtain ⟨k, rfl⟩ : ∃ q, k = q + 1 := ⟨k - 1, by omega⟩
    simp only [laws_toIntS.l0]
    rw [if_neg (by omega), List.take_of_length_le (by omega), List.drop_of_length_le (by omega), List.append_nil]
  | succ d ih =>
    intro k out m hd hl hk
    obtain ⟨k, rfl⟩ : ∃ q, k = q + 1 := ⟨k - 1, by omega⟩
    simp only [laws_toIntS.l0]
    rw [if_pos (by omega), if_pos (by omega), if_pos (by omega), wn (n := xs.length) (by omega) hn, ih k _ (m + 1) (by omega) (by simpa using hl) (by omega), Int.toNat_natCast, set_take _ _ _ (by omega), drop_at xs m (by omega)]
    simp
theorem toIntS_at (xs : List Int) (hn : xs.length ≤ 35184372088832) (k : Nat) (hk : xs.length < k) : laws_toIntS.f k xs = some xs := by
  unfold laws_toIntS.f
  rw [if_pos (by omega), if_pos (by omega)]
  have h := toIntS_l xs (by omega) xs.length k (List.replicate ((xs.length : Int)).toNat 0) 0 (by omega) (by simp) hk
  simpa using h
theorem eqIntS_l (xs ys : List Int) (hl : ys.length = xs.length) (hn : xs.length ≤ 9223372036854775807) : ∀ (d k m : Nat), m + d = xs.length → d < k →
    laws_eqIntS.l0 k xs ys (m : Int) = some (decide (xs.drop m = ys.drop m)) := by
  intro d
  induction d with
  | zero =>
    intro k m hd hk
    obtain ⟨k, rfl⟩ : ∃ q, k = q + 1 := ⟨k - 1, by omega⟩
    simp only [laws_eqIntS.l0]
    rw [if_neg (by omega), List.drop_of_length_le (by omega), List.drop_of_length_le (by omega)]
    simp
  | succ d ih =>
    intro k m hd hk
    obtain ⟨k, rfl⟩ : ∃ q, k = q + 1 := ⟨k - 1, by omega⟩
    simp only [laws_eqIntS.l0]
    rw [if_pos (by omega), if_pos (by omega), if_pos (by omega), wn (n := xs.length) (by omega) hn, ih k (m + 1) (by omega) (by omega), drop_at xs m (by omega), drop_at ys m (by omega)]
    by_cases h : rd xs m = rd ys m <;> simp [h]
theorem eqIntS_at (xs ys : List Int) (hn : xs.length ≤ 9223372036854775807) (k : Nat) (hk : xs.length < k) : laws_eqIntS.f k xs ys = some (decide (xs = ys)) := by
  unfold laws_eqIntS.f
  by_cases h : (xs.length : Int) = (ys.length : Int)
  · rw [if_pos h]
    have := eqIntS_l xs ys (by omega) hn xs.length k 0 (by omega) hk
    simpa using this
  · rw [if_neg h]
    have : xs ≠ ys := fun e => h (by rw [e])
    simp [this]
theorem szPart_at (v : Int) (s : ByteArray) (l : List Int) (a : Int) (hs : s.size ≤ maxLen) (hn : l.length ≤ maxLen) (ha : 0 ≤ a ∧ a ≤ 1048576) :
    ∃ t, laws_szPart.f v s l a = some t ∧ (t < 0 ∨ (0 ≤ t ∧ t = a - (s.size : Int) - (l.length : Int))) := by
  unfold laws_szPart.f
  have h1 := len_ok hs
  have h2 := len_ok hn
  rw [wsub (by omega) (by omega) ha]
  by_cases h : a - (s.size : Int) < 0
  · exact ⟨_, by rw [if_pos h], .inl (by omega)⟩
  · rw [if_neg h, szIntS_at l _ h2 ⟨by omega, by omega⟩]
    by_cases h3 : a - (s.size : Int) - (l.length : Int) < 0
    · exact ⟨-1, by simp [h3], .inl (by omega)⟩
    · exact ⟨_, by simp only [if_neg h3, Option.bind_some], .inr ⟨by omega, rfl⟩⟩
theorem toPart_at (v : Int) (s : ByteArray) (l : List Int) (hn : l.length ≤ 35184372088832) (k : Nat) (hk : l.length < k) : laws_toPart.f k v s l = some (v, s, l) := by
  unfold laws_toPart.f
  rw [toIntS_at l hn k hk]; rfl
theorem eqPart_refl (v : Int) (s : ByteArray) (l : List Int) (hn : l.length ≤ 9223372036854775807) (k : Nat) (hk : l.length < k) : laws_eqPart.f k v s l v s l = some true := by
  unfold laws_eqPart.f
  rw [eqIntS_at l l hn k hk]; simp
theorem markIntS_l (n : Nat) (a : Int) (h0 : 0 ≤ a) (ha : a + (n : Int) ≤ 9223372036854775807) : ∀ (d k m : Nat) (xs : List Int), xs.length = n → m + d = n → d < k →
    laws_markIntS.l0 k xs (a + (m : Int)) (m : Int) = some (a + (n : Int), xs.take m ++ marks (a + (m : Int)) d) := by
  intro d
  induction d with
  | zero =>
    intro k m xs hx hd hk
    obtain ⟨k, rfl⟩ : ∃ q, k = q + 1 := ⟨k - 1, by omega⟩
    simp only [laws_markIntS.l0]
    rw [if_neg (by omega), List.take_of_length_le (by omega)]
    obtain rfl : m = n := by omega
    simp [marks]
  | succ d ih =>
    intro k m xs hx hd hk
    obtain ⟨k, rfl⟩ : ∃ q, k = q + 1 := ⟨k - 1, by omega⟩
    simp only [laws_markIntS.l0]
    rw [if_pos (by omega), if_pos (by omega), wn (n := n) (by omega) (by omega), wi h0 ha (by omega), ih k (m + 1) _ (by simpa using hx) (by omega) (by omega), Int.toNat_natCast, set_take _ _ _ (by omega), marks]
    rw [show a + ((m + 1 : Nat) : Int) = a + (m : Int) + 1 by omega]
    simp
theorem markIntS_at (xs : List Int) (a : Int) (h0 : 0 ≤ a) (ha : a + (xs.length : Int) ≤ 9223372036854775807) (k : Nat) (hk : xs.length < k) :
    laws_markIntS.f k xs a = some (a + (xs.length : Int), marks a xs.length) := by
  unfold laws_markIntS.f
  have := markIntS_l xs.length a h0 ha xs.length k 0 xs rfl (by omega) hk
  simpa using this
theorem heldIntS_l (xs : List Int) (a : Int) (h0 : 0 ≤ a) (ha : a + (xs.length : Int) ≤ 9223372036854775807) : ∀ (d k m : Nat), m + d = xs.length → xs.drop m = marks (a + (m : Int)) d → d < k →
    laws_heldIntS.l0 k xs (a + (m : Int)) (m : Int) = some (a + (xs.length : Int)) := by
  intro d
  induction d with
  | zero =>
    intro k m hd hx hk
    obtain ⟨k, rfl⟩ : ∃ q, k = q + 1 := ⟨k - 1, by omega⟩
    simp only [laws_heldIntS.l0]
    rw [if_neg (by omega)]
    obtain rfl : m = xs.length := by omega
    rfl
  | succ d ih =>
    intro k m hd hx hk
    obtain ⟨k, rfl⟩ : ∃ q, k = q + 1 := ⟨k - 1, by omega⟩
    rw [drop_at xs m (by omega), marks] at hx
    obtain ⟨h1, h2⟩ := List.cons.inj hx
    simp only [laws_heldIntS.l0]
    rw [if_pos (by omega), if_pos (by omega), if_pos h1, wn (n := xs.length) (by omega) (by omega), wi h0 ha (by omega), ih k (m + 1) (by omega) (by rw [h2]; congr 1; omega) (by omega)]
theorem heldIntS_at (n : Nat) (a : Int) (h0 : 0 ≤ a) (ha : a + (n : Int) ≤ 9223372036854775807) (k : Nat) (hk : n < k) : laws_heldIntS.f k (marks a n) a = some (a + (n : Int)) := by
  unfold laws_heldIntS.f
  have hl := marks_length n a
  have := heldIntS_l (marks a n) a h0 (by omega) n k 0 (by omega) (by simp) hk
  rw [hl] at this
  simpa using this
theorem markPart_at (v : Int) (s : ByteArray) (l : List Int) (a : Int) (h0 : 0 ≤ a) (ha : a + (l.length : Int) ≤ 9223372036854775807) (k : Nat) (hk : l.length < k) :
    laws_markPart.f k v s l a = some (a + (l.length : Int), marks a l.length) := by
  unfold laws_markPart.f
  rw [markIntS_at l a h0 ha k hk]; rfl
theorem heldPart_at (v : Int) (s : ByteArray) (n : Nat) (a : Int) (h0 : 0 ≤ a) (ha : a + (n : Int) ≤ 9223372036854775807) (k : Nat) (hk : n < k) :
    laws_heldPart.f k v s (marks a n) a = some (a + (n : Int)) := by
  unfold laws_heldPart.f
  rw [heldIntS_at n a h0 ha k hk, Option.bind_some, if_neg (by omega)]
theorem Pure.FnExactPartJoin : StatFnExactPartJoin := by
  intro v s l v' s' l' _ hs hl _ hs' hl'
  unfold laws_FnExactPartJoin.f
  obtain ⟨t, ht, h⟩ := szPart_at v s l 1048576 hs hl.1 (by omega)
  by_cases h0 : t < 0
  · exact ⟨0, by simp [ht, h0]⟩
  obtain ⟨t', ht', h'⟩ := szPart_at v' s' l' t hs' hl'.1 (by omega)
  by_cases h0' : t' < 0
  · exact ⟨0, by simp [ht, h0, ht', h0']⟩
  have n1 : l.length ≤ 1048576 := by omega
  have n2 : l'.length ≤ 1048576 := by omega
  refine ⟨2 * l.length + 2 * l'.length + 10, ?_⟩
  generalize hk : 2 * l.length + 2 * l'.length + 10 = k
  have hj := joinOf_len l l'
  have e1 := toPart_at v s l (by omega) k (by omega)
  have e2 := toPart_at v' s' l' (by omega) k (by omega)
  have e3 := eqPart_refl v s l (by omega) k (by omega)
  have e4 := eqPart_refl v' s' l' (by omega) k (by omega)
  have e5 := specSetJoin_at l l' (by omega) k (by omega)
  have e6 := implSetJoin_at l l' (by omega) k (by omega)
  have e7 := markPart_at v s l 1 (by omega) (by omega) k (by omega)
  have e8 := markPart_at v' s' l' (1 + (l.length : Int)) (by omega) (by omega) k (by omega)
  have e9 := eqPart_refl v s (joinOf l l') (by omega) k (by omega)
  have e10 := markPart_at v s (joinOf l l') 1 (by omega) (by omega) k (by omega)
  have e11 := heldPart_at v s (joinOf l l').length 1 (by omega) (by omega) k (by omega)
  have z1 := eqPart_refl 0 (⟨#[]⟩ : ByteArray) ([] : List Int) (by decide) k (by simp; omega)
  have z2 := markPart_at 0 (⟨#[]⟩ : ByteArray) ([] : List Int) 1 (by decide) (by decide) k (by simp; omega)
  have z3 := heldPart_at 0 (⟨#[]⟩ : ByteArray) 0 1 (by decide) (by decide) k (by omega)
  have z4 : laws_heldPart.f k 0 (⟨#[]⟩ : ByteArray) [] 1 = some 1 := z3
  have b1 : ¬ 1 + (l.length : Int) + (l'.length : Int) < 0 := by omega
  have b2 : ¬ 1 + ((joinOf l l').length : Int) < 0 := by omega
  by_cases hv : v = v'
  · by_cases hs2 : s.toList = s'.toList
    · have p1 : spec_PartJoin.f k v s l v' s' l' = some (v, s, joinOf l l', true) := by
        unfold spec_PartJoin.f
        rw [if_pos hv, if_pos hs2, e5]; rfl
      have p2 : impl_PartJoin.f k v s l v' s' l' = some (v, s, joinOf l l', true) := by
        unfold impl_PartJoin.f
        rw [if_pos hv, if_pos hs2, e6]; rfl
      simp [ht, h0, ht', h0', e1, e2, e3, e4, p1, p2, e7, e8, e9, e10, e11, b1, b2]
    · simp [ht, h0, ht', h0', e1, e2, e3, e4, e5, e6, e7, e8, z1, z2, z4, b1, spec_PartJoin.f, impl_PartJoin.f, hs2, marks]
  · simp [ht, h0, ht', h0', e1, e2, e3, e4, e5, e6, e7, e8, z1, z2, z4, b1, spec_PartJoin.f, impl_PartJoin.f, hv, marks]
end Go.Proofs.Ytemjmefacifdeaa.PFnExactPartJoin
