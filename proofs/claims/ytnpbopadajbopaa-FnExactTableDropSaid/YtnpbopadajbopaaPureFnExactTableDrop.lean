/- The law FnExactTableDrop over rows of parts: both sides of TableDrop come to one row, which is its own, and what was handed over is as it was. No condition but the arguments' kinds. -/
import Derived.Test.YtnpbopadajbopaaStatFnExactTableDrop
namespace Go.Proofs.Ytnpbopadajbopaa.PFnExactTableDrop
open Go.RowKit Go.Proofs.YtnpbopadajbopaaW.PrintWords Go.Proofs.YtnpbopadajbopaaW.PrintLast
set_option linter.unusedVariables false
set_option linter.unusedSimpArgs false
theorem wn {m n : Nat} (h : m < n) (hn : n ≤ 9223372036854775807) : wrap64 ((m : Int) + 1) = ((m + 1 : Nat) : Int) := by unfold wrap64; omega
theorem wi {a : Int} {n : Nat} (h0 : 0 ≤ a) (h : a + (n : Int) ≤ 9223372036854775807) : ∀ {m : Nat}, m < n → wrap64 (a + (m : Int) + 1) = a + ((m + 1 : Nat) : Int) := by
  intro m hm
  unfold wrap64
  omega
theorem len_ok {n : Nat} (h : n ≤ maxLen) : n ≤ 9223372036854775807 := by unfold maxLen at h; omega
theorem set_take {α : Type} (l : List α) (n : Nat) (x : α) (h : n < l.length) : (l.set n x).take (n + 1) = l.take n ++ [x] := by
  rw [List.take_succ_eq_append_getElem (by simpa using h), List.take_set_of_le (Nat.le_refl _)]
  simp
theorem drop_at (l : List Int) (n : Nat) (h : n < l.length) : l.drop n = rd l (n : Int) :: l.drop (n + 1) := by
  rw [List.drop_eq_getElem_cons h]
  simp [rd, List.getD_eq_getElem?_getD, List.getElem?_eq_getElem h]
/-- n numbers that follow each other, from a on. -/
def marks (a : Int) : Nat → List Int
  | 0 => []
  | n + 1 => a :: marks (a + 1) n
theorem marks_length : ∀ (n : Nat) (a : Int), (marks a n).length = n
  | 0, _ => rfl
  | n + 1, a => by simp [marks, marks_length n]
theorem wsub {a n : Int} (h0 : 0 ≤ n) (h1 : n ≤ 9223372036854775807) (ha : 0 ≤ a ∧ a ≤ 1048576) : wrap64 (a - n) = a - n := by unfold wrap64; omega
theorem szIntS_at (xs : List Int) (a : Int) (hn : xs.length ≤ 9223372036854775807) (ha : 0 ≤ a ∧ a ≤ 1048576) :
    laws_szIntS.f xs a = some (if a - (xs.length : Int) < 0 then -1 else a - (xs.length : Int)) := by
  unfold laws_szIntS.f
  rw [wsub (by omega) (by omega) ha]
  split <;> rfl
theorem toIntS_l (xs : List Int) (hn : xs.length ≤ 9223372036854775807) : ∀ (d k : Nat) (out : List Int) (m : Nat), m + d = xs.length → out.length = xs.length → d < k →
    laws_toIntS.l0 k xs out (m : Int) = some (out.take m ++ xs.drop m) := by
  intro d
  induction d with
  | zero =>
    intro k out m hd hl hk
    obtain ⟨k, rfl⟩ : ∃ q, k = q + 1 := ⟨k - 1, by omega⟩
    simp only [laws_toIntS.l0]
    rw [if_neg (by omega), List.take_of_length_le (by omega), List.drop_of_length_le (by omega), List.append_nil]
  | succ d ih =>
    intro k out m hd hl hk
    obtain ⟨k, rfl⟩ : ∃ q, k = q + 1 := ⟨k - 1, by omega⟩
    simp only [laws_toIntS.l0]
    rw [if_pos (by omega), if_pos (by omega), if_pos (by omega), wn (n := xs.length) (by omega) hn, ih k _ (m + 1) (by omega) (by simpa using hl) (by omega), Int.toNat_natCast, set_take _ _ _ (by omega), drop_at xs m (by omega)]
    simp
theorem toIntS_at (xs : List Int) (hn : xs.length ≤ 35184372088832) (k : Nat) (hk : xs.length < k) : laws_toIntS.f k xs = some xs := by
  unfold laws_toIntS.f
  rw [if_pos (by omega), if_pos (by omega)]
  have h := toIntS_l xs (by omega) xs.length k (List.replicate ((xs.length : Int)).toNat 0) 0 (by omega) (by simp) hk
  simpa using h
theorem eqIntS_l (xs ys : List Int) (hl : ys.length = xs.length) (hn : xs.length ≤ 9223372036854775807) : ∀ (d k m : Nat), m + d = xs.length → d < k →
    laws_eqIntS.l0 k xs ys (m : Int) = some (decide (xs.drop m = ys.drop m)) := by
  intro d
  induction d with
  | zero =>
    intro k m hd hk
    obtain ⟨k, rfl⟩ : ∃ q, k = q + 1 := ⟨k - 1, by omega⟩
    simp only [laws_eqIntS.l0]
    rw [if_neg (by omega), List.drop_of_length_le (by omega), List.drop_of_length_le (by omega)]
    simp
  | succ d ih =>
    intro k m hd hk
    obtain ⟨k, rfl⟩ : ∃ q, k = q + 1 := ⟨k - 1, by omega⟩
    simp only [laws_eqIntS.l0]
    rw [if_pos (by omega), if_pos (by omega), if_pos (by omega), wn (n := xs.length) (by omega) hn, ih k (m + 1) (by omega) (by omega), drop_at xs m (by omega), drop_at ys m (by omega)]
    by_cases h : rd xs m = rd ys m <;> simp [h]
theorem eqIntS_at (xs ys : List Int) (hn : xs.length ≤ 9223372036854775807) (k : Nat) (hk : xs.length < k) : laws_eqIntS.f k xs ys = some (decide (xs = ys)) := by
  unfold laws_eqIntS.f
  by_cases h : (xs.length : Int) = (ys.length : Int)
  · rw [if_pos h]
    have := eqIntS_l xs ys (by omega) hn xs.length k 0 (by omega) hk
    simpa using this
  · rw [if_neg h]
    have : xs ≠ ys := fun e => h (by rw [e])
    simp [this]
theorem szPart_at (v : Int) (s : ByteArray) (l : List Int) (a : Int) (hs : s.size ≤ maxLen) (hn : l.length ≤ maxLen) (ha : 0 ≤ a ∧ a ≤ 1048576) :
    ∃ t, laws_szPart.f v s l a = some t ∧ (t < 0 ∨ (0 ≤ t ∧ t = a - (s.size : Int) - (l.length : Int))) := by
  unfold laws_szPart.f
  have h1 := len_ok hs
  have h2 := len_ok hn
  rw [wsub (by omega) (by omega) ha]
  by_cases h : a - (s.size : Int) < 0
  · exact ⟨_, by rw [if_pos h], .inl (by omega)⟩
  · rw [if_neg h, szIntS_at l _ h2 ⟨by omega, by omega⟩]
    by_cases h3 : a - (s.size : Int) - (l.length : Int) < 0
    · exact ⟨-1, by simp [h3], .inl (by omega)⟩
    · exact ⟨_, by simp only [if_neg h3, Option.bind_some], .inr ⟨by omega, rfl⟩⟩
theorem toPart_at (v : Int) (s : ByteArray) (l : List Int) (hn : l.length ≤ 35184372088832) (k : Nat) (hk : l.length < k) : laws_toPart.f k v s l = some (v, s, l) := by
  unfold laws_toPart.f
  rw [toIntS_at l hn k hk]; rfl
theorem eqPart_refl (v : Int) (s : ByteArray) (l : List Int) (hn : l.length ≤ 9223372036854775807) (k : Nat) (hk : l.length < k) : laws_eqPart.f k v s l v s l = some true := by
  unfold laws_eqPart.f
  rw [eqIntS_at l l hn k hk]; simp
theorem part_ok {x : S38} (h : ok38 x) : x.f1.size ≤ maxLen ∧ x.f2.length ≤ maxLen := ⟨h.2.1, h.2.2.1⟩
theorem rdL_mem (xs : List S38) (m : Nat) (h : m < xs.length) : rd_T38 xs (m : Int) ∈ xs := by
  unfold rd_T38
  simp [List.getD_eq_getElem?_getD, List.getElem?_eq_getElem h]
theorem dropL_at (xs : List S38) (m : Nat) (h : m < xs.length) : xs.drop m = rd_T38 xs (m : Int) :: xs.drop (m + 1) := by
  rw [List.drop_eq_getElem_cons h]
  simp [rd_T38, List.getD_eq_getElem?_getD, List.getElem?_eq_getElem h]
theorem rdP_mem (xs : List S26) (m : Nat) (h : m < xs.length) : rd_T26 xs (m : Int) ∈ xs := by
  unfold rd_T26
  simp [List.getD_eq_getElem?_getD, List.getElem?_eq_getElem h]
/-- What a part that was handed over is made into. -/
def cvP (x : S38) : S26 := ⟨x.f0, x.f1, x.f2⟩
/-- A part's sizes are small. -/
def fitP (x : S26) : Prop := x.f1.size ≤ 1048576 ∧ x.f2.length ≤ 1048576
theorem szPartS_l (xs : List S38) (hn : xs.length ≤ 9223372036854775807) (hx : ∀ x ∈ xs, ok38 x) : ∀ (d k m : Nat) (a : Int), m + d = xs.length → d < k → 0 ≤ a ∧ a ≤ 1048576 →
    ∃ t, laws_szPartS.l0 k xs a (m : Int) = some t ∧ (t < 0 ∨ (∀ x ∈ xs.drop m, fitP (cvP x))) := by
  intro d
  induction d with
  | zero =>
    intro k m a hd hk ha
    obtain ⟨k, rfl⟩ : ∃ q, k = q + 1 := ⟨k - 1, by omega⟩
    have hA : ¬ (m : Int) < (xs.length : Int) := by omega
    refine ⟨a, by simp only [laws_szPartS.l0, if_neg hA], Or.inr ?_⟩
    rw [List.drop_of_length_le (by omega)]
    intro x h; cases h
  | succ d ih =>
    intro k m a hd hk ha
    obtain ⟨k, rfl⟩ : ∃ q, k = q + 1 := ⟨k - 1, by omega⟩
    have hA : (m : Int) < (xs.length : Int) := by omega
    have hB : (0 : Int) ≤ (m : Int) := by omega
    have hw : wrap64 ((m : Int) + 1) = ((m + 1 : Nat) : Int) := wn (n := xs.length) (by omega) hn
    have ho := part_ok (hx _ (rdL_mem xs m (by omega)))
    obtain ⟨t, ht, h⟩ := szPart_at (rd_T38 xs (m : Int)).f0 (rd_T38 xs (m : Int)).f1 (rd_T38 xs (m : Int)).f2 a ho.1 ho.2 ha
    by_cases h0 : t < 0
    · exact ⟨-1, by simp only [laws_szPartS.l0, if_pos hA, if_pos hB, ht, Option.bind_some, if_pos h0], Or.inl (by omega)⟩
    · obtain ⟨t', ht', h'⟩ := ih k (m + 1) t (by omega) (by omega) (by omega)
      refine ⟨t', by simp only [laws_szPartS.l0, if_pos hA, if_pos hB, ht, Option.bind_some, if_neg h0, hw]; exact ht', ?_⟩
      rcases h' with h' | h'
      · exact Or.inl h'
      · refine Or.inr ?_
        rw [dropL_at xs m (by omega)]
        intro x hx'
        rcases List.mem_cons.1 hx' with rfl | hx'
        · unfold fitP cvP
          constructor
          · show (rd_T38 xs (m : Int)).f1.size ≤ 1048576
            omega
          · show (rd_T38 xs (m : Int)).f2.length ≤ 1048576
            omega
        · exact h' x hx'
theorem szPartS_at (xs : List S38) (hn : xs.length ≤ maxLen) (hx : ∀ x ∈ xs, ok38 x) (k : Nat) (hk : xs.length < k) :
    ∃ t, laws_szPartS.f k xs 1048576 = some t ∧ (t < 0 ∨ (xs.length ≤ 1048576 ∧ ∀ x ∈ xs, fitP (cvP x))) := by
  unfold laws_szPartS.f
  have h1 := len_ok hn
  rw [wsub (by omega) (by omega) (by omega)]
  by_cases h : (1048576 : Int) - (xs.length : Int) < 0
  · exact ⟨_, by rw [if_pos h], .inl (by omega)⟩
  · rw [if_neg h]
    obtain ⟨t, ht, h'⟩ := szPartS_l xs h1 hx xs.length k 0 (1048576 - (xs.length : Int)) (by omega) hk ⟨by omega, by omega⟩
    refine ⟨t, ht, ?_⟩
    rcases h' with h' | h'
    · exact .inl h'
    · rw [List.drop_zero] at h'
      exact .inr ⟨by omega, h'⟩
theorem toPartS_l (xs : List S38) (hn : xs.length ≤ 9223372036854775807) (hx : ∀ x ∈ xs, fitP (cvP x)) : ∀ (d k : Nat) (out : List S26) (m : Nat), m + d = xs.length → out.length = xs.length → d + 1048577 < k →
    laws_toPartS.l0 k xs out (m : Int) = some (out.take m ++ (xs.drop m).map cvP) := by
  intro d
  induction d with
  | zero =>
    intro k out m hd hl hk
    obtain ⟨k, rfl⟩ : ∃ q, k = q + 1 := ⟨k - 1, by omega⟩
    simp only [laws_toPartS.l0]
    rw [if_neg (by omega), List.take_of_length_le (by omega), List.drop_of_length_le (by omega), List.map_nil, List.append_nil]
  | succ d ih =>
    intro k out m hd hl hk
    obtain ⟨k, rfl⟩ : ∃ q, k = q + 1 := ⟨k - 1, by omega⟩
    have hf : (rd_T38 xs (m : Int)).f2.length ≤ 1048576 := (hx _ (rdL_mem xs m (by omega))).2
    simp only [laws_toPartS.l0]
    rw [if_pos (by omega), if_pos (by omega), toPart_at _ _ _ (by omega) k (by omega), Option.bind_some, if_pos (by omega), wn (n := xs.length) (by omega) hn, ih k _ (m + 1) (by omega) (by simpa using hl) (by omega), Int.toNat_natCast, set_take _ _ _ (by omega), dropL_at xs m (by omega)]
    simp [cvP]
theorem toPartS_at (xs : List S38) (hn : xs.length ≤ 1048576) (hx : ∀ x ∈ xs, fitP (cvP x)) (k : Nat) (hk : xs.length + 1048577 < k) : laws_toPartS.f k xs = some (xs.map cvP) := by
  unfold laws_toPartS.f
  rw [if_pos (by omega), if_pos (by omega)]
  have h := toPartS_l xs (by omega) hx xs.length k (List.replicate ((xs.length : Int)).toNat z26) 0 (by omega) (by simp) hk
  simpa using h
theorem eqPartS_l (xs : List S26) (hn : xs.length ≤ 9223372036854775807) (hx : ∀ x ∈ xs, fitP x) : ∀ (d k m : Nat), m + d = xs.length → d + 1048577 < k →
    laws_eqPartS.l0 k xs xs (m : Int) = some true := by
  intro d
  induction d with
  | zero =>
    intro k m hd hk
    obtain ⟨k, rfl⟩ : ∃ q, k = q + 1 := ⟨k - 1, by omega⟩
    simp only [laws_eqPartS.l0]
    rw [if_neg (by omega)]
  | succ d ih =>
    intro k m hd hk
    obtain ⟨k, rfl⟩ : ∃ q, k = q + 1 := ⟨k - 1, by omega⟩
    have hf : (rd_T26 xs (m : Int)).f2.length ≤ 1048576 := (hx _ (rdP_mem xs m (by omega))).2
    simp only [laws_eqPartS.l0]
    rw [if_pos (by omega), if_pos (by omega), if_pos (by omega), eqPart_refl _ _ _ (by omega) k (by omega), Option.bind_some, if_pos rfl, wn (n := xs.length) (by omega) hn, ih k (m + 1) (by omega) (by omega)]
theorem eqPartS_refl (xs : List S26) (hn : xs.length ≤ 1048576) (hx : ∀ x ∈ xs, fitP x) (k : Nat) (hk : xs.length + 1048577 < k) : laws_eqPartS.f k xs xs = some true := by
  unfold laws_eqPartS.f
  rw [if_pos rfl]
  exact eqPartS_l xs (by omega) hx xs.length k 0 (by omega) hk
theorem markIntS_l (n : Nat) (a : Int) (h0 : 0 ≤ a) (ha : a + (n : Int) ≤ 9223372036854775807) : ∀ (d k m : Nat) (xs : List Int), xs.length = n → m + d = n → d < k →
    laws_markIntS.l0 k xs (a + (m : Int)) (m : Int) = some (a + (n : Int), xs.take m ++ marks (a + (m : Int)) d) := by
  intro d
  induction d with
  | zero =>
    intro k m xs hx hd hk
    obtain ⟨k, rfl⟩ : ∃ q, k = q + 1 := ⟨k - 1, by omega⟩
    simp only [laws_markIntS.l0]
    rw [if_neg (by omega), List.take_of_length_le (by omega)]
    obtain rfl : m = n := by omega
    simp [marks]
  | succ d ih =>
    intro k m xs hx hd hk
    obtain ⟨k, rfl⟩ : ∃ q, k = q + 1 := ⟨k - 1, by omega⟩
    simp only [laws_markIntS.l0]
    rw [if_pos (by omega), if_pos (by omega), wn (n := n) (by omega) (by omega), wi h0 ha (by omega), ih k (m + 1) _ (by simpa using hx) (by omega) (by omega), Int.toNat_natCast, set_take _ _ _ (by omega), marks]
    rw [show a + ((m + 1 : Nat) : Int) = a + (m : Int) + 1 by omega]
    simp
theorem markIntS_at (xs : List Int) (a : Int) (h0 : 0 ≤ a) (ha : a + (xs.length : Int) ≤ 9223372036854775807) (k : Nat) (hk : xs.length < k) :
    laws_markIntS.f k xs a = some (a + (xs.length : Int), marks a xs.length) := by
  unfold laws_markIntS.f
  have := markIntS_l xs.length a h0 ha xs.length k 0 xs rfl (by omega) hk
  simpa using this
theorem dropP_at (xs : List S26) (m : Nat) (h : m < xs.length) : xs.drop m = rd_T26 xs (m : Int) :: xs.drop (m + 1) := by
  rw [List.drop_eq_getElem_cons h]
  simp [rd_T26, List.getD_eq_getElem?_getD, List.getElem?_eq_getElem h]
theorem markText_l : ∀ (d : Nat) (x : Int) (s : ByteArray), 0 ≤ x → x ≤ 4611686018427387904 → x < 10 ^ d → s.size + d ≤ 1000 → ∃ t, ∀ k, d < k → laws_markText.l0 k x s = some t := by
  intro d
  induction d with
  | zero =>
    intro x s h0 hm hx hs
    refine ⟨(⟨#[109]⟩ : ByteArray) ++ s, fun k hk => ?_⟩
    obtain ⟨k, rfl⟩ : ∃ q, k = q + 1 := ⟨k - 1, by omega⟩
    have hA : ¬ x > 0 := by
      have : x < 1 := by simpa using hx
      omega
    simp only [laws_markText.l0]
    rw [if_neg hA, if_pos (by omega)]
  | succ d ih =>
    intro x s h0 hm hx hs
    by_cases hp : x > 0
    · have hq : Int.tdiv x 10 = x / 10 := Int.tdiv_eq_ediv_of_nonneg h0
      have hlt : x / 10 < 10 ^ d := by
        rw [Int.pow_succ] at hx
        exact Int.ediv_lt_of_lt_mul (by decide) hx
      have h1 : (strOfNums [(wrap64 (48 + Int.tmod x 10)) % 256]).size = 1 := by rw [strOfNums_size]; rfl
      obtain ⟨t, ht⟩ := ih (wrap64 (Int.tdiv x 10)) (strOfNums [(wrap64 (48 + Int.tmod x 10)) % 256] ++ s) (by
        rw [hq]; unfold wrap64; omega) (by
        rw [hq]; unfold wrap64; omega) (by
        rw [hq]
        have : wrap64 (x / 10) = x / 10 := by unfold wrap64; omega
        rw [this]; exact hlt) (by rw [ByteArray.size_append, h1]; omega)
      refine ⟨t, fun k hk => ?_⟩
      obtain ⟨k, rfl⟩ : ∃ q, k = q + 1 := ⟨k - 1, by omega⟩
      simp only [laws_markText.l0]
      rw [if_pos hp, Option.bind_some, h1, if_pos (by omega)]
      exact ht k (by omega)
    · refine ⟨(⟨#[109]⟩ : ByteArray) ++ s, fun k hk => ?_⟩
      obtain ⟨k, rfl⟩ : ∃ q, k = q + 1 := ⟨k - 1, by omega⟩
      simp only [laws_markText.l0]
      rw [if_neg hp, if_pos (by omega)]
theorem markText_ex (a : Int) (h1 : 1 ≤ a) (ha : a ≤ 4611686018427387904) : ∃ t, ∀ k, 30 < k → laws_markText.f k a = some t := by
  obtain ⟨t, ht⟩ := markText_l 30 a (⟨#[]⟩ : ByteArray) (by omega) ha (by
    have : (4611686018427387904 : Int) < 10 ^ 30 := by decide
    omega) (by decide)
  refine ⟨t, fun k hk => ?_⟩
  unfold laws_markText.f
  rw [if_neg (by omega)]
  exact ht k hk
/-- What a number is written as. -/
def mtP (a : Int) : ByteArray := (laws_markText.f 31 a).getD ⟨#[]⟩
theorem markText_at (a : Int) (h1 : 1 ≤ a) (ha : a ≤ 4611686018427387904) (k : Nat) (hk : 30 < k) : laws_markText.f k a = some (mtP a) := by
  obtain ⟨t, ht⟩ := markText_ex a h1 ha
  have h2 := ht 31 (by decide)
  rw [ht k hk]
  unfold mtP
  rw [h2]; rfl
def endP : Int → List S26 → Int
  | a, [] => a
  | a, x :: xs => endP (a + 2 + (x.f2.length : Int)) xs
def markedP : Int → List S26 → List S26
  | _, [] => []
  | a, x :: xs => (⟨a, mtP (a + 1), marks (a + 2) x.f2.length⟩ : S26) :: markedP (a + 2 + (x.f2.length : Int)) xs
theorem markedP_len : ∀ (xs : List S26) (a : Int), (markedP a xs).length = xs.length
  | [], _ => rfl
  | x :: xs, a => by simp [markedP, markedP_len xs]
theorem endP_ge : ∀ (xs : List S26) (a : Int), a ≤ endP a xs
  | [], a => Int.le_refl a
  | x :: xs, a => by
    have := endP_ge xs (a + 2 + (x.f2.length : Int))
    unfold endP
    omega
theorem markPartS_l (n : Nat) (hn : n ≤ 1048576) : ∀ (d k m : Nat) (a : Int) (xs : List S26), xs.length = n → m + d = n → d + 1048700 < k → (∀ x ∈ xs.drop m, fitP x) → 1 ≤ a → a + 2000000 * (d : Int) ≤ 4611686018427387904 →
    laws_markPartS.l0 k xs a (m : Int) = some (endP a (xs.drop m), xs.take m ++ markedP a (xs.drop m)) := by
  intro d
  induction d with
  | zero =>
    intro k m a xs hx hd hk hf h1 ha
    obtain ⟨k, rfl⟩ : ∃ q, k = q + 1 := ⟨k - 1, by omega⟩
    simp only [laws_markPartS.l0]
    rw [if_neg (by omega), List.drop_of_length_le (by omega), List.take_of_length_le (by omega)]
    simp [endP, markedP]
  | succ d ih =>
    intro k m a xs hx hd hk hf h1 ha
    obtain ⟨k, rfl⟩ : ∃ q, k = q + 1 := ⟨k - 1, by omega⟩
    have hdr := dropP_at xs m (by omega)
    have hfm : fitP (rd_T26 xs (m : Int)) := hf _ (by rw [hdr]; exact List.mem_cons_self)
    have hl := hfm.2
    have w1 : wrap64 (a + 1) = a + 1 := by unfold wrap64; omega
    have w2 : wrap64 (a + 1 + 1) = a + 2 := by unfold wrap64; omega
    simp only [laws_markPartS.l0]
    rw [if_pos (by omega), if_pos (by omega), w1, markText_at (a + 1) (by omega) (by omega) k (by omega), Option.bind_some, w2, markIntS_at _ (a + 2) (by omega) (by omega) k (by omega), Option.bind_some, wn (n := n) (by omega) (by omega), Int.toNat_natCast]
    have hds : ∀ z : S26, (xs.set m z).drop (m + 1) = xs.drop (m + 1) := fun z => List.drop_set_of_lt (by omega)
    rw [ih k (m + 1) (a + 2 + ((rd_T26 xs (m : Int)).f2.length : Int)) _ (by simpa using hx) (by omega) (by omega) (by
      rw [hds]
      intro x h
      exact hf x (by rw [hdr]; exact List.mem_cons_of_mem _ h)) (by omega) (by omega), hds, set_take _ _ _ (by omega), hdr]
    simp only [endP, markedP, List.append_assoc, List.singleton_append]
theorem markPartS_at (xs : List S26) (hn : xs.length ≤ 1048576) (hf : ∀ x ∈ xs, fitP x) (k : Nat) (hk : xs.length + 1048700 < k) :
    laws_markPartS.f k xs 1 = some (endP 1 xs, markedP 1 xs) := by
  unfold laws_markPartS.f
  have := markPartS_l xs.length hn xs.length k 0 1 xs rfl (by omega) hk (by simpa using hf) (by omega) (by omega)
  simpa using this
theorem copyPart_at (x : S26) (h : fitP x) : spec_l10Copy.f x.f0 x.f1 x.f2 = some (x.f0, x.f1, x.f2) ∧ impl_copyPart.f x.f0 x.f1 x.f2 = some (x.f0, x.f1, x.f2) := by
  have h2 := h.2
  constructor
  · unfold spec_l10Copy.f
    rw [Option.bind_some, if_pos (by show (0 : Nat) + _ < _; omega)]; rfl
  · unfold impl_copyPart.f impl_copyInts.f
    rw [if_pos (by show (0 : Nat) + _ < _; omega), Option.bind_some]; rfl
theorem heldIntS_l (xs : List Int) (a : Int) (h0 : 0 ≤ a) (ha : a + (xs.length : Int) ≤ 9223372036854775807) : ∀ (d k m : Nat), m + d = xs.length → xs.drop m = marks (a + (m : Int)) d → d < k →
    laws_heldIntS.l0 k xs (a + (m : Int)) (m : Int) = some (a + (xs.length : Int)) := by
  intro d
  induction d with
  | zero =>
    intro k m hd hx hk
    obtain ⟨k, rfl⟩ : ∃ q, k = q + 1 := ⟨k - 1, by omega⟩
    simp only [laws_heldIntS.l0]
    rw [if_neg (by omega)]
    obtain rfl : m = xs.length := by omega
    rfl
  | succ d ih =>
    intro k m hd hx hk
    obtain ⟨k, rfl⟩ : ∃ q, k = q + 1 := ⟨k - 1, by omega⟩
    rw [drop_at xs m (by omega), marks] at hx
    obtain ⟨h1, h2⟩ := List.cons.inj hx
    simp only [laws_heldIntS.l0]
    rw [if_pos (by omega), if_pos (by omega), if_pos h1, wn (n := xs.length) (by omega) (by omega), wi h0 ha (by omega), ih k (m + 1) (by omega) (by rw [h2]; congr 1; omega) (by omega)]
theorem heldIntS_at (n : Nat) (a : Int) (h0 : 0 ≤ a) (ha : a + (n : Int) ≤ 9223372036854775807) (k : Nat) (hk : n < k) : laws_heldIntS.f k (marks a n) a = some (a + (n : Int)) := by
  unfold laws_heldIntS.f
  have hl := marks_length n a
  have := heldIntS_l (marks a n) a h0 (by omega) n k 0 (by omega) (by simp) hk
  rw [hl] at this
  simpa using this
theorem heldPartS_l (zs : List S26) (hn : zs.length ≤ 1048576) : ∀ (d k m : Nat) (a : Int) (ys : List S26), ys.length = d → zs.drop m = markedP a ys → m + d = zs.length → d + 1048700 < k → (∀ x ∈ ys, fitP x) → 1 ≤ a → a + 2000000 * (d : Int) ≤ 4611686018427387904 →
    laws_heldPartS.l0 k zs a (m : Int) = some (endP a ys) := by
  intro d
  induction d with
  | zero =>
    intro k m a ys hy hz hd hk hf h1 ha
    obtain ⟨k, rfl⟩ : ∃ q, k = q + 1 := ⟨k - 1, by omega⟩
    obtain rfl : ys = [] := List.length_eq_zero_iff.1 hy
    simp only [laws_heldPartS.l0]
    rw [if_neg (by omega)]
    rfl
  | succ d ih =>
    intro k m a ys hy hz hd hk hf h1 ha
    obtain ⟨k, rfl⟩ : ∃ q, k = q + 1 := ⟨k - 1, by omega⟩
    cases ys with
    | nil => simp at hy
    | cons y ys =>
      have hfy := (hf y List.mem_cons_self).2
      rw [dropP_at zs m (by omega), markedP] at hz
      obtain ⟨z1, z2⟩ := List.cons.inj hz
      have w1 : wrap64 (a + 1) = a + 1 := by unfold wrap64; omega
      have w2 : wrap64 (a + 1 + 1) = a + 2 := by unfold wrap64; omega
      have hend : ¬ a + 2 + (y.f2.length : Int) < 0 := by omega
      simp only [laws_heldPartS.l0]
      rw [if_pos (by omega), if_pos (by omega), z1]
      simp only [if_true]
      rw [w1, markText_at (a + 1) (by omega) (by omega) k (by omega), Option.bind_some, if_pos rfl, w2, heldIntS_at _ (a + 2) (by omega) (by omega) k (by omega), Option.bind_some, if_neg hend, wn (n := zs.length) (by omega) (by omega)]
      rw [ih k (m + 1) _ ys (by simpa using hy) z2 (by omega) (by omega) (fun x h => hf x (List.mem_cons_of_mem _ h)) (by omega) (by omega)]
      rfl
theorem heldPartS_at (ys : List S26) (hn : ys.length ≤ 1048576) (hf : ∀ x ∈ ys, fitP x) (k : Nat) (hk : ys.length + 1048700 < k) :
    laws_heldPartS.f k (markedP 1 ys) 1 = some (endP 1 ys) := by
  unfold laws_heldPartS.f
  have hl := markedP_len ys 1
  exact heldPartS_l (markedP 1 ys) (by omega) ys.length k 0 1 ys rfl (by simp) (by omega) hk hf (by omega) (by omega)
theorem tableDrop_l (xs : List S26) (hn : xs.length ≤ 1048576) (hx : ∀ x ∈ xs, fitP x) (v : Int) : ∀ (d k m : Nat) (out : List S26), m + d = xs.length → d < k → out.length ≤ m →
    spec_TableDrop.l0 k xs v out (m : Int) = some (out ++ (xs.drop m).filter (fun x => decide (x.f0 ≥ v))) ∧ impl_TableDrop.l0 k v out xs (xs.length : Int) (m : Int) = some (out ++ (xs.drop m).filter (fun x => decide (x.f0 ≥ v))) := by
  intro d
  induction d with
  | zero =>
    intro k m out hd hk ho
    obtain ⟨k, rfl⟩ : ∃ q, k = q + 1 := ⟨k - 1, by omega⟩
    have hA : ¬ (m : Int) < (xs.length : Int) := by omega
    rw [List.drop_of_length_le (by omega)]
    exact ⟨by simp [spec_TableDrop.l0, hA], by simp [impl_TableDrop.l0, hA]⟩
  | succ d ih =>
    intro k m out hd hk ho
    obtain ⟨k, rfl⟩ : ∃ q, k = q + 1 := ⟨k - 1, by omega⟩
    have hA : (m : Int) < (xs.length : Int) := by omega
    have hB : (0 : Int) ≤ (m : Int) := by omega
    have hw : wrap64 ((m : Int) + 1) = ((m + 1 : Nat) : Int) := wn (n := xs.length) (by omega) (by omega)
    have hf := hx _ (rdP_mem xs m (by omega))
    obtain ⟨c1, c2⟩ := copyPart_at _ hf
    have hL : out.length < 2932031007402 := by omega
    simp only [spec_TableDrop.l0, impl_TableDrop.l0, if_pos hA, if_pos hB, hw, c1, c2, Option.bind_some, if_pos hL]
    rw [dropP_at xs m (by omega)]
    by_cases e1 : (rd_T26 xs (m : Int)).f0 ≥ v
    · obtain ⟨h1, h2⟩ := ih k (m + 1) (out ++ [rd_T26 xs (m : Int)]) (by omega) (by omega) (by simp; omega)
      simp only [if_pos e1]
      rw [List.filter_cons_of_pos (by simpa using e1)]
      constructor
      · refine Eq.trans h1 ?_
        simp
      · refine Eq.trans h2 ?_
        simp
    · obtain ⟨h1, h2⟩ := ih k (m + 1) out (by omega) (by omega) (by omega)
      simp only [if_neg e1]
      rw [List.filter_cons_of_neg (by simpa using e1)]
      exact ⟨h1, h2⟩
theorem Pure.FnExactTableDrop : StatFnExactTableDrop := by
  intro xs v hx _
  obtain ⟨k, hk⟩ : ∃ k, xs.length + 5000100 < k := ⟨_, Nat.lt_succ_self _⟩
  refine ⟨k, ?_⟩
  unfold laws_FnExactTableDrop.f
  obtain ⟨t, ht, h⟩ := szPartS_at xs hx.1 hx.2 k (by omega)
  by_cases h0 : t < 0
  · simp [ht, h0]
  have hf : xs.length ≤ 1048576 ∧ ∀ x ∈ xs, fitP (cvP x) := by
    rcases h with h | h
    · exact absurd h h0
    · exact h
  have hg : ∀ x ∈ xs.map cvP, fitP x := by
    intro x hm
    obtain ⟨y, hy, rfl⟩ := List.mem_map.1 hm
    exact hf.2 y hy
  have hl : (xs.map cvP).length = xs.length := List.length_map _
  have e1 := toPartS_at xs hf.1 hf.2 k (by omega)
  have e2 := eqPartS_refl (xs.map cvP) (by omega) hg k (by omega)
  obtain ⟨s1, s2⟩ := tableDrop_l (xs.map cvP) (by omega) hg v (xs.map cvP).length k 0 [] (by omega) (by omega) (by simp)
  obtain ⟨zs, hz⟩ : ∃ zs, zs = (xs.map cvP).filter (fun x => decide (x.f0 ≥ v)) := ⟨_, rfl⟩
  have hzl : zs.length ≤ 1048576 := by rw [hz]; exact Nat.le_trans (List.length_filter_le _ _) (by omega)
  have hzf : ∀ x ∈ zs, fitP x := by
    intro x hm
    rw [hz] at hm
    exact hg x (List.mem_filter.1 hm).1
  have g1 : spec_TableDrop.f k (xs.map cvP) v = some zs := by
    rw [hz]; unfold spec_TableDrop.f; simpa using s1
  have g2 : impl_TableDrop.f k (xs.map cvP) v = some zs := by
    rw [hz]; unfold impl_TableDrop.f; simpa using s2
  have e3 := markPartS_at (xs.map cvP) (by omega) hg k (by omega)
  have e4 := eqPartS_refl zs hzl hzf k (by omega)
  have e5 := markPartS_at zs hzl hzf k (by omega)
  have e6 := heldPartS_at zs hzl hzf k (by omega)
  have b1 : ¬ endP 1 (xs.map cvP) < 0 := by have := endP_ge (xs.map cvP) 1; omega
  have b2 : ¬ endP 1 zs < 0 := by have := endP_ge zs 1; omega
  simp only [ht, Option.bind_some, if_neg h0, e1, g1, g2, e4, e2, e3, if_neg b1, e5, e6, if_neg b2, if_true]
end Go.Proofs.Ytnpbopadajbopaa.PFnExactTableDrop
