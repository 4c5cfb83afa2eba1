/- The law FnExactLastNote over numbers, texts and lists: both sides of LastNote come to one state and one place, the state's list is its own, and what was handed over is as it was. No condition but the arguments' kinds. -/
import Derived.Test.YtdmjhgogljhfkaaGreatDoorStatFnExactLastNote
namespace Go.Proofs.YtdmjhgogljhfkaaGreatDoor.PFnExactLastNote
open Go.RowKit Go.Proofs.YtdmjhgogljhfkaaGreatDoorW.PrintWords Go.Proofs.YtdmjhgogljhfkaaGreatDoorW.PrintLast
set_option linter.unusedVariables false
set_option linter.unusedSimpArgs false
theorem wn {m n : Nat} (h : m < n) (hn : n ≤ 9223372036854775807) : wrap64 ((m : Int) + 1) = ((m + 1 : Nat) : Int) := by unfold wrap64; omega
theorem wi {a : Int} {n : Nat} (h0 : 0 ≤ a) (h : a + (n : Int) ≤ 9223372036854775807) : ∀ {m : Nat}, m < n → wrap64 (a + (m : Int) + 1) = a + ((m + 1 : Nat) : Int) := by
  intro m hm
  unfold wrap64
  omega
theorem len_ok {n : Nat} (h : n ≤ maxLen) : n ≤ 9223372036854775807 := by unfold maxLen at h; omega
theorem set_take {α : Type} (l : List α) (n : Nat) (x : α) (h : n < l.length) : (l.set n x).take (n + 1) = l.take n ++ [x] := by
  rw [List.take_succ_eq_append_getElem (by simpa using h), List.take_set_of_le (Nat.le_refl _)]
  simp
theorem drop_at (l : List Int) (n : Nat) (h : n < l.length) : l.drop n = rd l (n : Int) :: l.drop (n + 1) := by
  rw [List.drop_eq_getElem_cons h]
  simp [rd, List.getD_eq_getElem?_getD, List.getElem?_eq_getElem h]
/-- n numbers that follow each other, from a on. -/
def marks (a : Int) : Nat → List Int
  | 0 => []
  | n + 1 => a :: marks (a + 1) n
theorem marks_length : ∀ (n : Nat) (a : Int), (marks a n).length = n
  | 0, _ => rfl
  | n + 1, a => by simp [marks, marks_length n]
/-- 128 to the n. -/
def P7 : Nat → Int
  | 0 => 1
  | n + 1 => 128 * P7 n
theorem P7_pos : ∀ n, 1 ≤ P7 n
  | 0 => by decide
  | n + 1 => by have := P7_pos n; unfold P7; omega
theorem P7_step (n : Nat) : P7 (n + 1) = 128 * P7 n := rfl
theorem P7_le {g j : Nat} (h : g ≤ j) : P7 g ≤ P7 j := by
  induction h with
  | refl => exact Int.le_refl _
  | step _ ih => rw [P7_step]; have := P7_pos g; omega
theorem shl_P7 (v : Int) (h0 : 0 ≤ v) (h1 : v < 128) (j : Nat) (hj : j ≤ 4) : shl .i64 v (wrap64 (7 * (j : Int))) = v * P7 j ∧ 0 ≤ wrap64 (7 * (j : Int)) := by
  have hb : IntKind.i64.bits = 64 := rfl
  unfold shl
  rw [IntKind.wrap_i64, hb]
  have h : j = 0 ∨ j = 1 ∨ j = 2 ∨ j = 3 ∨ j = 4 := by omega
  rcases h with rfl | rfl | rfl | rfl | rfl
  · rw [show min (wrap64 (7 * ((0 : Nat) : Int))).toNat 64 = 0 from by unfold wrap64; omega, show P7 0 = 1 from rfl]
    exact ⟨by omega, by unfold wrap64; omega⟩
  · rw [show min (wrap64 (7 * ((1 : Nat) : Int))).toNat 64 = 7 from by unfold wrap64; omega, show P7 1 = 128 from rfl]
    exact ⟨by omega, by unfold wrap64; omega⟩
  · rw [show min (wrap64 (7 * ((2 : Nat) : Int))).toNat 64 = 14 from by unfold wrap64; omega, show P7 2 = 16384 from rfl]
    exact ⟨by omega, by unfold wrap64; omega⟩
  · rw [show min (wrap64 (7 * ((3 : Nat) : Int))).toNat 64 = 21 from by unfold wrap64; omega, show P7 3 = 2097152 from rfl]
    exact ⟨by omega, by unfold wrap64; omega⟩
  · rw [show min (wrap64 (7 * ((4 : Nat) : Int))).toNat 64 = 28 from by unfold wrap64; omega, show P7 4 = 268435456 from rfl]
    exact ⟨by omega, by unfold wrap64; omega⟩
theorem or_P7 (x v : Int) (j : Nat) (hj : j ≤ 4) (hx : 0 ≤ x) (hx1 : x < P7 j) (h0 : 0 ≤ v) (h1 : v < 128) : Go.bits .or .i64 x (v * P7 j) = x + v * P7 j := by
  have hk : ∀ n : Int, 0 ≤ n → n < 2 ^ 62 → IntKind.i64.wrap n = n := by
    intro n a b
    rw [IntKind.wrap_i64]; omega
  have hp : P7 j ≤ P7 4 := P7_le hj
  have h4 : P7 4 = 268435456 := rfl
  have hv : v * P7 j ≤ 128 * 268435456 := by
    have := P7_pos j
    exact Int.mul_le_mul (by omega) (by omega) (by omega) (by omega)
  have hv0 : 0 ≤ v * P7 j := Int.mul_nonneg h0 (by have := P7_pos j; omega)
  have comm : Go.bits .or .i64 x (v * P7 j) = Go.bits .or .i64 (v * P7 j) x := by
    obtain ⟨a, rfl⟩ := Int.eq_ofNat_of_zero_le hx
    obtain ⟨b, hb⟩ := Int.eq_ofNat_of_zero_le hv0
    rw [hb]
    have ha2 : a < 2 ^ 62 := by omega
    have hb2 : b < 2 ^ 62 := by omega
    rw [(bits_nat .i64 62 (by decide) hk a b ha2 hb2).2, (bits_nat .i64 62 (by decide) hk b a hb2 ha2).2, Nat.or_comm]
  rw [comm]
  have hP : P7 j = 2 ^ (7 * j) := by
    have h : j = 0 ∨ j = 1 ∨ j = 2 ∨ j = 3 ∨ j = 4 := by omega
    rcases h with rfl | rfl | rfl | rfl | rfl <;> rfl
  rw [bits_join .i64 62 (by decide) hk (7 * j) (v * P7 j) x hv0 (by rw [hP]; exact Int.mul_emod_left _ _) (by omega) hx (by rw [← hP]; exact hx1) (by omega)]
  omega
/-- How many bytes a number takes. -/
theorem putLen : ∀ (j : Nat) (n : Int) (out : List Int), 0 ≤ n → n ≤ 2147483647 → n < P7 (j + 1) → out.length + j < 1000 →
    ∃ g, g ≤ j ∧ n < P7 (g + 1) ∧ (g = 0 ∨ P7 g ≤ n) ∧ ∀ k, j < k → ∃ r, impl_PutNum.l0 k n out = some r ∧ r.length = out.length + g + 1 := by
  intro j
  induction j with
  | zero =>
    intro n out h0 _ h1 ho
    have h2 : n < 128 := h1
    refine ⟨0, Nat.le_refl _, h1, .inl rfl, fun k hk => ?_⟩
    obtain ⟨k, rfl⟩ : ∃ q, k = q + 1 := ⟨k - 1, by omega⟩
    refine ⟨out ++ [n % 256], ?_, by simp⟩
    simp only [impl_PutNum.l0]
    rw [if_neg (show ¬ n ≥ 128 by omega), if_pos (show out.length < 140737488355328 by omega)]
  | succ j ih =>
    intro n out h0 hm h1 ho
    by_cases h2 : n ≥ 128
    · have e : wrap64 (Int.tdiv n 128) = n / 128 := by
        rw [Int.tdiv_eq_ediv_of_nonneg h0]
        unfold wrap64
        omega
      rw [P7_step] at h1
      obtain ⟨g, g1, g2, g3, g4⟩ := ih (n / 128) (out ++ [(wrap64 ((Int.tmod n 128) + 128)) % 256]) (by omega) (by omega) (by omega) (by simp; omega)
      refine ⟨g + 1, by omega, by rw [P7_step]; omega, .inr ?_, fun k hk => ?_⟩
      · rcases g3 with rfl | g3
        · show (128 : Int) * 1 ≤ n
          omega
        · rw [P7_step]; omega
      · obtain ⟨k, rfl⟩ : ∃ q, k = q + 1 := ⟨k - 1, by omega⟩
        obtain ⟨r, hr, hl⟩ := g4 k (by omega)
        refine ⟨r, ?_, by rw [hl]; simp; omega⟩
        simp only [impl_PutNum.l0]
        rw [if_pos h2, if_pos (show out.length < 140737488355328 by omega), e]
        exact hr
    · refine ⟨0, by omega, ?_, .inl rfl, fun k hk => ?_⟩
      · show n < 128 * 1
        omega
      obtain ⟨k, rfl⟩ : ∃ q, k = q + 1 := ⟨k - 1, by omega⟩
      refine ⟨out ++ [n % 256], ?_, by simp⟩
      simp only [impl_PutNum.l0]
      rw [if_neg h2, if_pos (show out.length < 140737488355328 by omega)]
/-- What is read from place a on: the number so far, x, of j bytes. -/
def gnr (l : List Int) (a : Int) : Nat → Nat → Int → Int × Int × Bool
  | 0, _, _ => (0, 0, false)
  | d + 1, j, x =>
    if a + (j : Int) < (l.length : Int) then
      (if rd l (a + (j : Int)) < 128 then
        (if (0 < j ∧ rd l (a + (j : Int)) = 0) ∨ x + rd l (a + (j : Int)) * P7 j > 2147483647 then (0, 0, false) else (x + rd l (a + (j : Int)) * P7 j, a + (j : Int) + 1, true))
      else gnr l a d (j + 1) (x + (rd l (a + (j : Int)) % 128) * P7 j))
    else (0, 0, false)
def gn (l : List Int) (a : Int) : Int × Int × Bool := if 0 ≤ a then gnr l a 5 0 0 else (0, 0, false)
def bytesOk (l : List Int) : Prop := l.length ≤ 1048576 ∧ ∀ i, 0 ≤ rd l i ∧ rd l i < 256
theorem bytesOk_of {l : List Int} (hl : l.length ≤ 1048576) (h : ∀ x ∈ l, (Lit.int .u8 x).wf = true) : bytesOk l := by
  refine ⟨hl, fun i => ?_⟩
  unfold rd
  rw [List.getD_eq_getElem?_getD]
  by_cases hi : i.toNat < l.length
  · rw [List.getElem?_eq_getElem hi]
    have := h _ (List.getElem_mem hi)
    have h2 : 0 ≤ l[i.toNat] ∧ l[i.toNat] ≤ 255 := by
      simp [Lit.wf, IntKind.min, IntKind.max, IntKind.bits, IntKind.signed] at this
      omega
    exact ⟨h2.1, by show l[i.toNat] < 256; omega⟩
  · rw [List.getElem?_eq_none (by omega)]
    exact ⟨by decide, by decide⟩
theorem wid {x : Int} (h0 : -9223372036854775808 ≤ x) (h1 : x ≤ 9223372036854775807) : wrap64 x = x := by unfold wrap64; omega
theorem tm_eq {c : Int} (h : 0 ≤ c) : Int.tmod c 128 = c % 128 := Int.tmod_eq_emod_of_nonneg h
theorem P7_small {j : Nat} (hj : j ≤ 5) : P7 j ≤ 34359738368 := by
  have h : P7 5 = 34359738368 := rfl
  have := P7_le hj
  omega
theorem mul_P7 {c : Int} {j : Nat} (h0 : 0 ≤ c) (h1 : c ≤ 127) : 0 ≤ c * P7 j ∧ c * P7 j ≤ 127 * P7 j := by
  have := P7_pos j
  exact ⟨Int.mul_nonneg h0 (by omega), Int.mul_le_mul_of_nonneg_right h1 (by omega)⟩
theorem specGetNum_l (l : List Int) (hl : bytesOk l) (a : Int) (ha : 0 ≤ a ∧ a ≤ 9223372036854775807) : ∀ (d j : Nat) (x : Int) (k : Nat), d + j = 5 → 0 ≤ x → x < P7 j → 2 * d + 2 < k →
    spec_GetNum.l0 k l a x (j : Int) = some (gnr l a d j x) := by
  intro d
  induction d with
  | zero =>
    intro j x k hd h0 h1 hk
    obtain ⟨k, rfl⟩ : ∃ q, k = q + 1 := ⟨k - 1, by omega⟩
    simp only [spec_GetNum.l0, gnr]
    rw [if_neg (by omega)]
  | succ d ih =>
    intro j x k hd h0 h1 hk
    obtain ⟨k, rfl⟩ : ∃ q, k = q + 1 + 1 := ⟨k - 2, by omega⟩
    have hn := hl.1
    obtain ⟨b0, b1⟩ := hl.2 (a + (j : Int))
    have hj4 : j ≤ 4 := by omega
    simp only [spec_GetNum.l0]
    rw [if_pos (by omega), if_neg (by omega), wid (x := (l.length : Int) - (j : Int)) (by omega) (by omega)]
    simp only [spec_GetNum.j1, gnr]
    by_cases hc : a + (j : Int) < (l.length : Int)
    · rw [if_neg (show ¬ decide (a ≥ (l.length : Int) - (j : Int)) = true from fun e => by have := of_decide_eq_true e; omega), wid (x := a + (j : Int)) (by omega) (by omega), if_pos (by omega), if_pos hc, if_pos hc]
      generalize rd l (a + (j : Int)) = c at b0 b1 ⊢
      rw [wid (x := c) (by omega) (by omega), tm_eq b0]
      rw [if_pos (shl_P7 (c % 128) (by omega) (by omega) j hj4).2, (shl_P7 (c % 128) (by omega) (by omega) j hj4).1, or_P7 x (c % 128) j hj4 h0 h1 (by omega) (by omega)]
      by_cases hlt : c < 128
      · rw [if_pos hlt, if_pos hlt, show c % 128 = c from by omega, wid (x := a + (j : Int) + 1) (by omega) (by omega)]
        by_cases hj : (j : Int) > 0
        · rw [if_pos hj]
          by_cases hz : c = 0
          · rw [if_pos hz, if_pos (.inl ⟨by omega, hz⟩)]
          · rw [if_neg hz]
            by_cases hb : x + c * P7 j > 2147483647
            · rw [if_pos hb, if_pos (.inr hb)]
            · rw [if_neg hb, if_neg (fun e => e.elim (fun h => hz h.2) hb)]
        · rw [if_neg hj]
          by_cases hb : x + c * P7 j > 2147483647
          · rw [if_pos hb, if_pos (.inr hb)]
          · rw [if_neg hb, if_neg (fun e => e.elim (fun h => hj (by have := h.1; omega)) hb)]
      · rw [if_neg hlt, if_neg hlt, wid (x := (j : Int) + 1) (by omega) (by omega), show (j : Int) + 1 = ((j + 1 : Nat) : Int) from by omega]
        obtain ⟨m1, m2⟩ := mul_P7 (c := c % 128) (j := j) (by omega) (by omega)
        exact ih (j + 1) _ k (by omega) (by omega) (by rw [P7_step]; omega) (by omega)
    · rw [if_pos (show decide (a ≥ (l.length : Int) - (j : Int)) = true from decide_eq_true (by omega)), if_neg hc]
theorem specGetNum_at (l : List Int) (hl : bytesOk l) (a : Int) (ha : a ≤ 9223372036854775807) (k : Nat) (hk : 20 < k) : spec_GetNum.f k l a = some (gn l a) := by
  unfold spec_GetNum.f gn
  by_cases h : 0 ≤ a
  · rw [if_pos h]
    exact specGetNum_l l hl a ⟨h, ha⟩ 5 0 0 k rfl (by decide) (by decide) (by omega)
  · rw [if_neg h]
    obtain ⟨k, rfl⟩ : ∃ q, k = q + 1 + 1 := ⟨k - 2, by omega⟩
    simp only [spec_GetNum.l0]
    rw [if_pos (by decide), if_pos (by omega)]
    simp only [spec_GetNum.j1, if_true]
/-- The bytes that a number takes, told against the bytes that were read. -/
theorem len_eq (j : Nat) (hj : j ≤ 4) (x c : Int) (h0 : 0 ≤ x) (h1 : x < P7 j) (c0 : 0 ≤ c) (c1 : c < 128) (hb : x + c * P7 j ≤ 2147483647) (k : Nat) (hk : j < k) :
    ∃ r, impl_PutNum.l0 k (x + c * P7 j) [] = some r ∧ ((r.length : Int) = (j : Int) + 1 ↔ ¬ (0 < j ∧ c = 0)) := by
  obtain ⟨m1, m2⟩ := mul_P7 (c := c) (j := j) c0 (by omega)
  have hp0 := P7_pos j
  have hyP : x + c * P7 j < P7 (j + 1) := by rw [P7_step]; omega
  obtain ⟨g, g1, g2, g3, g4⟩ := putLen j (x + c * P7 j) [] (by omega) hb hyP (by simp; omega)
  obtain ⟨r, hr, hlen⟩ := g4 k hk
  refine ⟨r, hr, ?_⟩
  have hlen' : r.length = g + 1 := by simpa using hlen
  by_cases hz : 0 < j ∧ c = 0
  · have : g ≠ j := by
      intro e
      subst e
      rcases g3 with g3 | g3
      · omega
      · rw [hz.2, Int.zero_mul] at g3
        omega
    exact ⟨fun e => by omega, fun e => absurd hz e⟩
  · have : g = j := by
      by_cases hj0 : j = 0
      · omega
      · have hc0 : 1 ≤ c := by omega
        have hcy : P7 j ≤ x + c * P7 j := by
          have : 1 * P7 j ≤ c * P7 j := Int.mul_le_mul_of_nonneg_right hc0 (by omega)
          omega
        by_cases hg : g + 1 ≤ j
        · have := P7_le hg
          omega
        · omega
    exact ⟨fun _ => hz, fun _ => by omega⟩
theorem implGetNum_l (l : List Int) (hl : bytesOk l) (a : Int) (ha : 0 ≤ a ∧ a < (l.length : Int)) : ∀ (d j : Nat) (x : Int) (k : Nat), d + j = 5 → 0 ≤ x → x < P7 j → 2 * d + 10 < k →
    impl_GetNum.l0 k l a x (j : Int) = some (gnr l a d j x) := by
  intro d
  induction d with
  | zero =>
    intro j x k hd h0 h1 hk
    obtain ⟨k, rfl⟩ : ∃ q, k = q + 1 + 1 := ⟨k - 2, by omega⟩
    simp only [impl_GetNum.l0, gnr]
    rw [if_neg (by omega)]
    simp only [impl_GetNum.j1]
    rw [if_neg (by decide)]
  | succ d ih =>
    intro j x k hd h0 h1 hk
    obtain ⟨k, rfl⟩ : ∃ q, k = q + 1 + 1 := ⟨k - 2, by omega⟩
    have hn := hl.1
    obtain ⟨b0, b1⟩ := hl.2 (a + (j : Int))
    have hj4 : j ≤ 4 := by omega
    simp only [impl_GetNum.l0]
    rw [if_pos (by omega), wid (x := a + (j : Int)) (by omega) (by omega)]
    simp only [impl_GetNum.j1, gnr]
    by_cases hc : a + (j : Int) < (l.length : Int)
    · rw [if_pos (show decide (a + (j : Int) < (l.length : Int)) = true from decide_eq_true hc), wid (x := a + (j : Int)) (by omega) (by omega), if_pos (by omega), if_pos hc, if_pos hc]
      generalize rd l (a + (j : Int)) = c at b0 b1 ⊢
      obtain ⟨m1, m2⟩ := mul_P7 (c := c % 128) (j := j) (by omega) (by omega)
      have hP := P7_small (j := j) (by omega)
      have hp0 := P7_pos j
      rw [wid (x := c) (by omega) (by omega), tm_eq b0]
      rw [if_pos (shl_P7 (c % 128) (by omega) (by omega) j hj4).2, (shl_P7 (c % 128) (by omega) (by omega) j hj4).1, wid (x := x + c % 128 * P7 j) (by omega) (by omega), wid (x := (j : Int) + 1) (by omega) (by omega)]
      by_cases hlt : c < 128
      · have hm : c % 128 = c := by omega
        rw [if_pos hlt, if_pos hlt, hm, wid (x := a + (j : Int) + 1) (by omega) (by omega)]
        rw [hm] at m1 m2
        unfold impl_PutNum.f impl_within.f
        rw [if_pos (show x + c * P7 j ≥ 0 by omega), Option.bind_some]
        by_cases hb : x + c * P7 j > 2147483647
        · rw [if_neg (show ¬ decide (x + c * P7 j ≤ 2147483647) = true from fun e => by have := of_decide_eq_true e; omega), Option.bind_some, if_neg (show ¬ (([] : List Int).length : Int) = (j : Int) + 1 by simp only [List.length_nil]; omega), if_pos (.inr hb)]
        · obtain ⟨r, hr, hlen⟩ := len_eq j hj4 x c h0 h1 b0 hlt (by omega) k (by omega)
          rw [if_pos (show decide (x + c * P7 j ≤ 2147483647) = true from decide_eq_true (by omega)), hr, Option.bind_some]
          by_cases hz : 0 < j ∧ c = 0
          · rw [if_neg (fun e => hlen.1 e hz), if_pos (.inl hz)]
          · rw [if_pos (hlen.2 hz), if_neg (fun e => e.elim hz hb)]
      · rw [if_neg hlt, if_neg hlt, show (j : Int) + 1 = ((j + 1 : Nat) : Int) from by omega]
        exact ih (j + 1) _ k (by omega) (by omega) (by rw [P7_step]; omega) (by omega)
    · rw [if_neg (show ¬ decide (a + (j : Int) < (l.length : Int)) = true from fun e => hc (of_decide_eq_true e)), if_neg hc]
theorem implGetNum_at (l : List Int) (hl : bytesOk l) (a : Int) (ha : a ≤ 9223372036854775807) (k : Nat) (hk : 20 < k) : impl_GetNum.f k l a = some (gn l a) := by
  have hn := hl.1
  unfold impl_GetNum.f gn impl_within.f
  rw [wid (x := (l.length : Int) - 1) (by omega) (by omega)]
  by_cases h : 0 ≤ a
  · rw [if_pos (show a ≥ 0 from h), if_pos h, Option.bind_some]
    by_cases h2 : a ≤ (l.length : Int) - 1
    · rw [if_pos (show decide (a ≤ (l.length : Int) - 1) = true from decide_eq_true h2)]
      exact implGetNum_l l hl a ⟨h, by omega⟩ 5 0 0 k rfl (by decide) (by decide) (by omega)
    · rw [if_neg (show ¬ decide (a ≤ (l.length : Int) - 1) = true from fun e => h2 (of_decide_eq_true e))]
      simp only [gnr]
      rw [if_neg (show ¬ a + ((0 : Nat) : Int) < (l.length : Int) by omega)]
  · rw [if_neg (show ¬ a ≥ 0 from h), if_neg h, Option.bind_some, if_neg (by decide)]
theorem gnr_ok (l : List Int) (hl : bytesOk l) (a : Int) : ∀ (d j : Nat) (x : Int), 0 ≤ x → (gnr l a d j x).2.2 = true → 0 ≤ (gnr l a d j x).1 ∧ (gnr l a d j x).1 ≤ 2147483647 ∧ a < (gnr l a d j x).2.1 ∧ (gnr l a d j x).2.1 ≤ (l.length : Int) := by
  intro d
  induction d with
  | zero => intro j x _ h; simp [gnr] at h
  | succ d ih =>
    intro j x h0 h
    obtain ⟨b0, b1⟩ := hl.2 (a + (j : Int))
    have hp := P7_pos j
    rw [gnr] at h ⊢
    by_cases hc : a + (j : Int) < (l.length : Int)
    · rw [if_pos hc] at h ⊢
      by_cases hlt : rd l (a + (j : Int)) < 128
      · rw [if_pos hlt] at h ⊢
        by_cases hz : (0 < j ∧ rd l (a + (j : Int)) = 0) ∨ x + rd l (a + (j : Int)) * P7 j > 2147483647
        · rw [if_pos hz] at h; cases h
        · rw [if_neg hz]
          have hz2 : ¬ x + rd l (a + (j : Int)) * P7 j > 2147483647 := fun e => hz (.inr e)
          have := Int.mul_nonneg b0 (show 0 ≤ P7 j by omega)
          exact ⟨by show 0 ≤ x + _; omega, by show x + _ ≤ _; omega, by show a < a + _ + 1; omega, by show a + _ + 1 ≤ _; omega⟩
      · rw [if_neg hlt] at h ⊢
        have := Int.mul_nonneg (show 0 ≤ rd l (a + (j : Int)) % 128 by omega) (show 0 ≤ P7 j by omega)
        exact ih (j + 1) _ (by omega) h
    · rw [if_neg hc] at h; cases h
theorem gn_ok (l : List Int) (hl : bytesOk l) (a : Int) (h : (gn l a).2.2 = true) : 0 ≤ a ∧ 0 ≤ (gn l a).1 ∧ (gn l a).1 ≤ 2147483647 ∧ a < (gn l a).2.1 ∧ (gn l a).2.1 ≤ (l.length : Int) := by
  unfold gn at h ⊢
  by_cases h0 : 0 ≤ a
  · rw [if_pos h0] at h ⊢
    exact ⟨h0, gnr_ok l hl a 5 0 0 (by decide) h⟩
  · rw [if_neg h0] at h; cases h
/-- A number read from a cursor (its place, whether all was well so far). -/
def cn (l : List Int) (a : Int) (o : Bool) : Int × Int × Bool := if (gn l a).2.2 = true ∧ o = true then ((gn l a).1, (gn l a).2.1, true) else (0, a, false)
theorem specNum_at (l : List Int) (hl : bytesOk l) (a : Int) (o : Bool) (ha : a ≤ 9223372036854775807) (k : Nat) (hk : 20 < k) : spec_l12Num.f k l a o = some (cn l a o) := by
  unfold spec_l12Num.f cn
  rw [specGetNum_at l hl a ha k hk, Option.bind_some]
  by_cases h : (gn l a).2.2 = true
  · cases o <;> simp [h]
  · simp [h]
theorem implNum_at (l : List Int) (hl : bytesOk l) (a : Int) (o : Bool) (ha : a ≤ 9223372036854775807) (k : Nat) (hk : 20 < k) : impl_reader_num.f k l a (!o) = some ((cn l a o).1, (cn l a o).2.1, !(cn l a o).2.2) := by
  unfold impl_reader_num.f cn
  rw [implGetNum_at l hl a ha k hk, Option.bind_some]
  by_cases h : (gn l a).2.2 = true
  · cases o <;> simp [h]
  · cases o <;> simp [h]
/-- What holds of a cursor's place behind a reading that went well. -/
def fine (l : List Int) (a b : Int) (o : Bool) : Prop := b ≤ 9223372036854775807 ∧ (o = true → 0 ≤ a ∧ a < b ∧ b ≤ (l.length : Int))
theorem cn_fine (l : List Int) (hl : bytesOk l) (a : Int) (o : Bool) (ha : a ≤ 9223372036854775807) : fine l a (cn l a o).2.1 (cn l a o).2.2 := by
  have hn := hl.1
  unfold fine cn
  by_cases h : (gn l a).2.2 = true ∧ o = true
  · obtain ⟨h1, _, _, h2, h3⟩ := gn_ok l hl a h.1
    rw [if_pos h]
    exact ⟨by show (gn l a).2.1 ≤ _; omega, fun _ => ⟨h1, h2, h3⟩⟩
  · rw [if_neg h]
    exact ⟨ha, fun e => by cases e⟩
/-- A text read from a cursor. -/
def ct (l : List Int) (a : Int) (o : Bool) : ByteArray × Int × Bool :=
  if ((gn l a).2.2 = true ∧ (gn l a).1 ≤ (l.length : Int) - (gn l a).2.1) ∧ o = true then (strOfNums ((l.take ((gn l a).2.1 + (gn l a).1).toNat).drop (gn l a).2.1.toNat), (gn l a).2.1 + (gn l a).1, true) else ((⟨#[]⟩ : ByteArray), a, false)
/-- .. as it is read from the bytes. -/
def gt (l : List Int) (a : Int) : ByteArray × Int × Bool :=
  if (gn l a).2.2 = true ∧ (gn l a).1 ≤ (l.length : Int) - (gn l a).2.1 then (strOfNums ((l.take ((gn l a).2.1 + (gn l a).1).toNat).drop (gn l a).2.1.toNat), (gn l a).2.1 + (gn l a).1, true) else ((⟨#[]⟩ : ByteArray), 0, false)
theorem getText_gen (l : List Int) (hl : bytesOk l) (a : Int) (x : Option (Int × Int × Bool)) (hx : x = some (gn l a)) :
    (x.bind fun bt => (if bt.2.2 = true then (if bt.1 > (wrap64 ((l.length : Int) - bt.2.1)) then (some ((⟨#[]⟩ : ByteArray), (0 : Int), false)) else (if 0 ≤ bt.2.1 then (if bt.2.1 ≤ (wrap64 (bt.2.1 + bt.1)) then (if (wrap64 (bt.2.1 + bt.1)) ≤ (l.length : Int) then (some (strOfNums ((l.take ((wrap64 (bt.2.1 + bt.1)) : Int).toNat).drop (bt.2.1 : Int).toNat), wrap64 (bt.2.1 + bt.1), true)) else (none)) else (none)) else (none))) else (some ((⟨#[]⟩ : ByteArray), 0, false)))) = some (gt l a) := by
  have hn := hl.1
  rw [hx, Option.bind_some]
  unfold gt
  by_cases h : (gn l a).2.2 = true
  · obtain ⟨h1, g1, g2, h2, h3⟩ := gn_ok l hl a h
    rw [if_pos h, wid (x := (l.length : Int) - (gn l a).2.1) (by omega) (by omega), wid (x := (gn l a).2.1 + (gn l a).1) (by omega) (by omega)]
    by_cases hc : (gn l a).1 ≤ (l.length : Int) - (gn l a).2.1
    · rw [if_neg (by omega), if_pos (by omega), if_pos (by omega), if_pos (by omega), if_pos ⟨h, hc⟩]
    · rw [if_pos (by omega), if_neg (fun e => hc e.2)]
  · rw [if_neg h, if_neg (fun e => h e.1)]
theorem specGetText_at (l : List Int) (hl : bytesOk l) (a : Int) (ha : a ≤ 9223372036854775807) (k : Nat) (hk : 20 < k) : spec_GetText.f k l a = some (gt l a) := by
  unfold spec_GetText.f
  exact getText_gen l hl a _ (specGetNum_at l hl a ha k hk)
theorem implGetText_at (l : List Int) (hl : bytesOk l) (a : Int) (ha : a ≤ 9223372036854775807) (k : Nat) (hk : 20 < k) : impl_GetText.f k l a = some (gt l a) := by
  unfold impl_GetText.f
  exact getText_gen l hl a _ (implGetNum_at l hl a ha k hk)
theorem specText_at (l : List Int) (hl : bytesOk l) (a : Int) (o : Bool) (ha : a ≤ 9223372036854775807) (k : Nat) (hk : 20 < k) : spec_l12Text.f k l a o = some (ct l a o) := by
  unfold spec_l12Text.f
  rw [specGetText_at l hl a ha k hk, Option.bind_some]
  unfold ct gt
  by_cases h : (gn l a).2.2 = true ∧ (gn l a).1 ≤ (l.length : Int) - (gn l a).2.1
  · rw [if_pos h]
    cases o <;> simp [h.1, h.2]
  · have h' : ¬ (((gn l a).2.2 = true ∧ (gn l a).1 ≤ (l.length : Int) - (gn l a).2.1) ∧ o = true) := fun e => h e.1
    rw [if_neg h, if_neg h']
    simp
theorem implText_at (l : List Int) (hl : bytesOk l) (a : Int) (o : Bool) (ha : a ≤ 9223372036854775807) (k : Nat) (hk : 20 < k) : impl_reader_text.f k l a (!o) = some ((ct l a o).1, (ct l a o).2.1, !(ct l a o).2.2) := by
  unfold impl_reader_text.f
  rw [implGetText_at l hl a ha k hk, Option.bind_some]
  unfold ct gt
  by_cases h : (gn l a).2.2 = true ∧ (gn l a).1 ≤ (l.length : Int) - (gn l a).2.1
  · rw [if_pos h]
    cases o <;> simp [h.1, h.2]
  · have h' : ¬ (((gn l a).2.2 = true ∧ (gn l a).1 ≤ (l.length : Int) - (gn l a).2.1) ∧ o = true) := fun e => h e.1
    rw [if_neg h, if_neg h']
    cases o <;> simp
theorem ct_fine (l : List Int) (hl : bytesOk l) (a : Int) (o : Bool) (ha : a ≤ 9223372036854775807) : fine l a (ct l a o).2.1 (ct l a o).2.2 ∧ (ct l a o).1.size ≤ 1048576 := by
  have hn := hl.1
  unfold fine ct
  by_cases h : ((gn l a).2.2 = true ∧ (gn l a).1 ≤ (l.length : Int) - (gn l a).2.1) ∧ o = true
  · obtain ⟨h1, g1, g2, h2, h3⟩ := gn_ok l hl a h.1.1
    have h4 := h.1.2
    rw [if_pos h]
    refine ⟨⟨by show (gn l a).2.1 + (gn l a).1 ≤ _; omega, fun _ => ⟨h1, by show a < (gn l a).2.1 + (gn l a).1; omega, by show (gn l a).2.1 + (gn l a).1 ≤ _; omega⟩⟩, ?_⟩
    show (strOfNums _).size ≤ _
    rw [strOfNums_size, List.length_drop, List.length_take]
    omega
  · rw [if_neg h]
    exact ⟨⟨ha, fun e => by cases e⟩, Nat.zero_le _⟩
theorem who_l (l : List Int) (hl : bytesOk l) (n : Int) (hn : n ≤ 2147483647) : ∀ (d : Nat) (i : Nat) (out : List Int) (a : Int) (o : Bool), a ≤ 9223372036854775807 → (o = true → 0 ≤ a → (l.length : Int) - a ≤ (d : Int)) → i + d < 10000000 → out.length + d < 10000000 →
    ∃ (w : List Int) (b : Int) (p : Bool), (∀ k, d + 30 < k → spec_l12Who.l0 k out n (i : Int) l a o = some (w, b, p) ∧ impl_reader_nums.l0 k out n (i : Int) l a (!o) = some (w, b, !p)) ∧ w.length ≤ out.length + d + 1 ∧ b ≤ 9223372036854775807 := by
  intro d
  induction d with
  | zero =>
    intro i out a o ha ho hi hw
    by_cases hc : (i : Int) < n
    · cases o
      · refine ⟨out, a, false, fun k hk => ?_, by omega, ha⟩
        obtain ⟨k, rfl⟩ : ∃ q, k = q + 1 := ⟨k - 1, by omega⟩
        simp only [spec_l12Who.l0, impl_reader_nums.l0, if_pos hc]
        exact ⟨by simp, by simp⟩
      · have hf : cn l a true = (0, a, false) := by
          unfold cn
          rw [if_neg]
          intro e
          obtain ⟨h1, _, _, h2, h3⟩ := gn_ok l hl a e.1
          have := ho rfl h1
          omega
        refine ⟨out ++ [0], a, false, fun k hk => ?_, by simp, ha⟩
        obtain ⟨k, rfl⟩ : ∃ q, k = q + 1 + 1 := ⟨k - 2, by omega⟩
        have hL : out.length < 17592186044416 := by omega
        have e1 := specNum_at l hl a true ha (k + 1) (by omega)
        have e2 := implNum_at l hl a true ha (k + 1) (by omega)
        rw [hf] at e1 e2
        have w6 : wrap64 ((i : Int) + 1) = ((i + 1 : Nat) : Int) := wid (by omega) (by omega)
        rw [show spec_l12Who.l0 (k + 1 + 1) out n (i : Int) l a true = spec_l12Who.l0 (k + 1) (out ++ [0]) n ((i + 1 : Nat) : Int) l a false from by
          rw [spec_l12Who.l0, if_pos hc, if_pos rfl, e1, Option.bind_some, if_pos hL, w6]]
        rw [show impl_reader_nums.l0 (k + 1 + 1) out n (i : Int) l a (!true) = impl_reader_nums.l0 (k + 1) (out ++ [0]) n ((i + 1 : Nat) : Int) l a true from by
          rw [impl_reader_nums.l0, if_pos hc, if_neg (by decide), e2, Option.bind_some, if_pos hL, w6]; rfl]
        simp only [spec_l12Who.l0, impl_reader_nums.l0]
        by_cases hc2 : ((i + 1 : Nat) : Int) < n
        · rw [if_pos hc2, if_pos hc2]
          exact ⟨by simp, by simp⟩
        · rw [if_neg hc2, if_neg hc2]
          exact ⟨rfl, rfl⟩
    · refine ⟨out, a, o, fun k hk => ?_, by omega, ha⟩
      obtain ⟨k, rfl⟩ : ∃ q, k = q + 1 := ⟨k - 1, by omega⟩
      rw [spec_l12Who.l0, impl_reader_nums.l0, if_neg hc, if_neg hc]
      exact ⟨rfl, rfl⟩
  | succ d ih =>
    intro i out a o ha ho hi hw
    by_cases hc : (i : Int) < n
    · cases o
      · refine ⟨out, a, false, fun k hk => ?_, by omega, ha⟩
        obtain ⟨k, rfl⟩ : ∃ q, k = q + 1 := ⟨k - 1, by omega⟩
        simp only [spec_l12Who.l0, impl_reader_nums.l0, if_pos hc]
        exact ⟨by simp, by simp⟩
      · obtain ⟨f1, f2⟩ := cn_fine l hl a true ha
        obtain ⟨w, b, p, h1, h2, h3⟩ := ih (i + 1) (out ++ [(cn l a true).1]) (cn l a true).2.1 (cn l a true).2.2 f1 (by
          intro e _
          obtain ⟨g1, g2, g3⟩ := f2 e
          have := ho rfl g1
          omega) (by omega) (by simp; omega)
        refine ⟨w, b, p, fun k hk => ?_, by simp at h2; omega, h3⟩
        obtain ⟨k, rfl⟩ : ∃ q, k = q + 1 := ⟨k - 1, by omega⟩
        have hL : out.length < 17592186044416 := by omega
        obtain ⟨r1, r2⟩ := h1 k (by omega)
        have e1 := specNum_at l hl a true ha k (by omega)
        have e2 := implNum_at l hl a true ha k (by omega)
        have w6 : wrap64 ((i : Int) + 1) = ((i + 1 : Nat) : Int) := wid (by omega) (by omega)
        constructor
        · rw [spec_l12Who.l0, if_pos hc, if_pos rfl, e1, Option.bind_some, if_pos hL, w6]
          exact r1
        · rw [impl_reader_nums.l0, if_pos hc, if_neg (by decide), e2, Option.bind_some, if_pos hL, w6]
          exact r2
    · refine ⟨out, a, o, fun k hk => ?_, by omega, ha⟩
      obtain ⟨k, rfl⟩ : ∃ q, k = q + 1 := ⟨k - 1, by omega⟩
      rw [spec_l12Who.l0, impl_reader_nums.l0, if_neg hc, if_neg hc]
      exact ⟨rfl, rfl⟩
theorem cn_le (l : List Int) (hl : bytesOk l) (a : Int) (o : Bool) : (cn l a o).1 ≤ 2147483647 := by
  unfold cn
  by_cases h : (gn l a).2.2 = true ∧ o = true
  · rw [if_pos h]
    exact (gn_ok l hl a h.1).2.2.1
  · rw [if_neg h]
    show (0 : Int) ≤ _
    decide
theorem who_at (l : List Int) (hl : bytesOk l) (a : Int) (o : Bool) (ha : a ≤ 9223372036854775807) :
    ∃ (w : List Int) (b : Int) (p : Bool), (∀ k, l.length + 100 < k → spec_l12Who.f k l a o = some (w, b, p) ∧ impl_reader_nums.f k l a (!o) = some (w, b, !p)) ∧ w.length ≤ 1048600 ∧ b ≤ 9223372036854775807 := by
  have hn := hl.1
  obtain ⟨f1, f2⟩ := cn_fine l hl a o ha
  obtain ⟨w, b, p, h1, h2, h3⟩ := who_l l hl (cn l a o).1 (cn_le l hl a o) l.length 0 [] (cn l a o).2.1 (cn l a o).2.2 f1 (by
    intro e g
    omega) (by omega) (by simp; omega)
  refine ⟨w, b, p, fun k hk => ?_, by simp at h2; omega, h3⟩
  obtain ⟨r1, r2⟩ := h1 k (by omega)
  unfold spec_l12Who.f impl_reader_nums.f
  rw [specNum_at l hl a o ha k (by omega), implNum_at l hl a o ha k (by omega)]
  exact ⟨r1, r2⟩
theorem curQc_at (l : List Int) (hl : bytesOk l) (a : Int) (o : Bool) (ha : a ≤ 9223372036854775807) :
    ∃ (v : Int) (s : ByteArray) (w : List Int) (b : Int) (p : Bool), (∀ k, l.length + 100 < k → spec_l12Qc.f k l a o = some (v, s, w, b, p) ∧ impl_reader_qc.f k l a (!o) = some (v, s, w, b, !p)) ∧ s.size ≤ 1048576 ∧ w.length ≤ 1048600 ∧ b ≤ 9223372036854775807 := by
  obtain ⟨f1, _⟩ := cn_fine l hl a o ha
  obtain ⟨⟨g1, _⟩, g2⟩ := ct_fine l hl (cn l a o).2.1 (cn l a o).2.2 f1
  obtain ⟨w, b, p, h1, h2, h3⟩ := who_at l hl (ct l (cn l a o).2.1 (cn l a o).2.2).2.1 (ct l (cn l a o).2.1 (cn l a o).2.2).2.2 g1
  refine ⟨(cn l a o).1, (ct l (cn l a o).2.1 (cn l a o).2.2).1, w, b, p, fun k hk => ?_, g2, h2, h3⟩
  obtain ⟨r1, r2⟩ := h1 k hk
  unfold spec_l12Qc.f impl_reader_qc.f
  rw [specNum_at l hl a o ha k (by omega), implNum_at l hl a o ha k (by omega), Option.bind_some, Option.bind_some]
  have e1 := specText_at l hl (cn l a o).2.1 (cn l a o).2.2 f1 k (by omega)
  have e2 := implText_at l hl (cn l a o).2.1 (cn l a o).2.2 f1 k (by omega)
  constructor
  · simp only [e1, Option.bind_some, r1]
  · simp only [e2, Option.bind_some, r2]
/-- A text out of its bytes. -/
def mkS (l : List UInt8) : ByteArray := ⟨l.toArray⟩
theorem mkS_list (l : List UInt8) : (mkS l).data.toList = l := by simp [mkS]
theorem mkS_toList (l : List UInt8) : (mkS l).toList = l := by rw [Lib.toList_data, mkS_list]
theorem mkS_size (l : List UInt8) : (mkS l).size = l.length := by simp [mkS, ByteArray.size]
theorem mkS_of (s : ByteArray) : mkS s.data.toList = s := by
  obtain ⟨⟨l⟩⟩ := s
  rfl
theorem len_size (s : ByteArray) : s.data.toList.length = s.size := by
  obtain ⟨⟨l⟩⟩ := s
  rfl
theorem s_ext {s t : ByteArray} (h : s.data.toList = t.data.toList) : s = t := by rw [← mkS_of s, ← mkS_of t, h]
theorem bt_nat (s : ByteArray) (m : Nat) (h : m < s.size) : bt s (m : Int) = ((s.data.toList[m]'(by rw [len_size]; exact h)).toNat : Int) := by
  unfold bt
  rw [dif_pos (show ((m : Int)).toNat < s.size by simpa using h)]
  simp only [Int.toNat_natCast]
  rfl
theorem drop_byte (s : ByteArray) (m : Nat) (h : m < s.size) : ∃ b : UInt8, s.data.toList.drop m = b :: s.data.toList.drop (m + 1) ∧ bt s (m : Int) = (b.toNat : Int) :=
  ⟨s.data.toList[m]'(by rw [len_size]; exact h), List.drop_eq_getElem_cons (by rw [len_size]; exact h), bt_nat s m h⟩
theorem u8_inj {a b : UInt8} : (a.toNat : Int) = (b.toNat : Int) ↔ a = b := by
  constructor
  · intro h; exact UInt8.toNat_inj.1 (by omega)
  · rintro rfl; rfl
/-- A list cut at the first such byte. -/
def cutL (c : UInt8) : List UInt8 → Option (List UInt8 × List UInt8)
  | [] => none
  | b :: l => if b = c then some ([], l) else (cutL c l).map fun p => (b :: p.1, p.2)
theorem cutL_some {c : UInt8} : ∀ {l : List UInt8} {p : List UInt8 × List UInt8}, cutL c l = some p → l = p.1 ++ c :: p.2 ∧ c ∉ p.1
  | [], _, h => by simp [cutL] at h
  | b :: l, p, h => by
    unfold cutL at h
    by_cases hb : b = c
    · rw [if_pos hb] at h
      obtain rfl := Option.some.inj h
      exact ⟨by simp [hb], by simp⟩
    · rw [if_neg hb] at h
      obtain ⟨q, hq, rfl⟩ := Option.map_eq_some_iff.1 h
      obtain ⟨e, hn⟩ := cutL_some hq
      exact ⟨by simp [← e], by simp [hn, Ne.symm hb]⟩
theorem cutL_none {c : UInt8} : ∀ {l : List UInt8}, cutL c l = none → c ∉ l
  | [], _ => by simp
  | b :: l, h => by
    unfold cutL at h
    by_cases hb : b = c
    · rw [if_pos hb] at h; cases h
    · rw [if_neg hb, Option.map_eq_none_iff] at h
      simp [cutL_none h, Ne.symm hb]
theorem cutL_app {c : UInt8} {l r : List UInt8} (h : c ∉ l) : cutL c (l ++ c :: r) = some (l, r) := by
  induction l with
  | nil => simp [cutL]
  | cons b l ih =>
    have hb : ¬ b = c := fun e => h (by simp [e])
    simp only [List.cons_append]
    unfold cutL
    rw [if_neg hb, ih (fun hm => h (List.mem_cons_of_mem _ hm))]
    rfl
theorem indexByte_cut (c : UInt8) : ∀ l : List UInt8, match cutL c l with
    | some p => Lib.indexByte l c = (p.1.length : Int)
    | none => Lib.indexByte l c = -1
  | [] => rfl
  | b :: l => by
    have ih := indexByte_cut c l
    unfold cutL Lib.indexByte
    by_cases hb : b = c
    · simp [hb]
    · rw [if_neg hb, if_neg (by simpa using hb)]
      cases hc : cutL c l with
      | none => rw [hc] at ih; simp at ih; simp [ih]
      | some p =>
        rw [hc] at ih
        simp only [Option.map_some] at ih ⊢
        rw [ih, if_neg (by simp)]
        simp
theorem libcut (c : UInt8) (l : List UInt8) : Lib.cut l [c] = match cutL c l with
    | some p => (p.1, p.2, true)
    | none => (l, [], false) := by
  have h := indexByte_cut c l
  unfold Lib.cut
  rw [Lib.index_one]
  cases hc : cutL c l with
  | none => rw [hc] at h; simp only at h; simp [h]
  | some p =>
    rw [hc] at h
    simp only at h
    obtain ⟨e, _⟩ := cutL_some hc
    rw [h, if_pos (by omega)]
    simp only [Int.toNat_natCast, List.length_singleton, Prod.mk.injEq, and_true]
    constructor
    · rw [e]; simp
    · rw [e, show p.1 ++ c :: p.2 = (p.1 ++ [c]) ++ p.2 by simp, List.drop_left' (by simp)]
def cutI (s : ByteArray) (c : UInt8) : ByteArray × ByteArray × Bool := match cutL c s.data.toList with
  | some p => (mkS p.1, mkS p.2, true)
  | none => (s, mkS [], false)
def cutS (s : ByteArray) (c : UInt8) : ByteArray × ByteArray × Bool := match cutL c s.data.toList with
  | some p => (mkS p.1, mkS p.2, true)
  | none => (mkS [], mkS [], false)
theorem implCut_at (s : ByteArray) (c : UInt8) (hs : s.size < 4294967281) : strings_Cut.f s (⟨#[c]⟩ : ByteArray) = some (cutI s c) := by
  unfold strings_Cut.f cutI
  rw [if_pos hs, show (⟨#[c]⟩ : ByteArray).data.toList = [c] from rfl, libcut]
  cases cutL c s.data.toList with
  | some p => rfl
  | none => simp [mkS]
theorem specCut_at (s : ByteArray) (c : UInt8) (hs : s.size < 4294967281) (k : Nat) (hk : s.size < k) : spec_l2Cut.f k s (c.toNat : Int) = some (cutS s c) := by
  have key : ∀ (d k m : Nat), m + d = s.size → d < k → (∀ p, cutL c s.data.toList = some p → m ≤ p.1.length) → cutL c s.data.toList = (cutL c (s.data.toList.drop m)).map (fun p => (s.data.toList.take m ++ p.1, p.2)) →
      spec_l2Cut.l0 k s (c.toNat : Int) (m : Int) = some (cutS s c) := by
    intro d
    induction d with
    | zero =>
      intro k m hd hk hm he
      obtain ⟨k, rfl⟩ : ∃ q, k = q + 1 := ⟨k - 1, by omega⟩
      simp only [spec_l2Cut.l0]
      rw [if_neg (by omega)]
      rw [List.drop_of_length_le (by rw [len_size]; omega)] at he
      unfold cutS
      rw [he]
      rfl
    | succ d ih =>
      intro k m hd hk hm he
      obtain ⟨k, rfl⟩ : ∃ q, k = q + 1 := ⟨k - 1, by omega⟩
      obtain ⟨b, hb, hbt⟩ := drop_byte s m (by omega)
      have hw : wrap64 ((m : Int) + 1) = ((m + 1 : Nat) : Int) := wn (n := s.size) (by omega) (by omega)
      simp only [spec_l2Cut.l0]
      rw [if_pos (by omega), if_pos (by omega), hbt]
      rw [hb, show cutL c (b :: s.data.toList.drop (m + 1)) = if b = c then some ([], s.data.toList.drop (m + 1)) else (cutL c (s.data.toList.drop (m + 1))).map (fun p => (b :: p.1, p.2)) from rfl] at he
      by_cases hc : b = c
      · rw [if_pos (u8_inj.2 hc), if_pos (by omega), hw, if_pos (by omega), if_pos (by omega)]
        rw [if_pos hc] at he
        unfold cutS
        rw [he]
        simp only [Option.map_some, List.append_nil, Int.toNat_natCast]
        rw [Lib.extract_eq, Lib.extract_eq]
        simp only [mkS, List.drop_zero, Nat.sub_zero, Int.toNat_natCast]
        rw [List.take_of_length_le (l := s.data.toList.drop (m + 1)) (by rw [List.length_drop, len_size]; omega)]
      · rw [if_neg (fun e => hc (u8_inj.1 e)), hw]
        rw [if_neg hc] at he
        have hl : m < s.data.toList.length := by rw [len_size]; omega
        have hg : b = s.data.toList[m] := by
          have := List.drop_eq_getElem_cons hl
          rw [hb] at this
          exact (List.cons.inj this).1
        refine ih k (m + 1) (by omega) (by omega) ?_ ?_
        · intro p hp
          rw [he] at hp
          obtain ⟨q, hq, rfl⟩ := Option.map_eq_some_iff.1 hp
          obtain ⟨q', _, rfl⟩ := Option.map_eq_some_iff.1 hq
          simp [len_size]; omega
        · rw [he, Option.map_map]
          congr 1
          funext p
          simp only [Function.comp, Prod.mk.injEq, and_true]
          rw [List.take_succ_eq_append_getElem hl, hg]
          simp
  have h0 := key s.size k 0 (by omega) hk (fun p _ => Nat.zero_le _) (by simp)
  unfold spec_l2Cut.f
  exact h0
/-- A list parted at each such byte. -/
def splitL (c : UInt8) : List UInt8 → List (List UInt8)
  | [] => [[]]
  | b :: l => if b = c then [] :: splitL c l else match splitL c l with
    | [] => [[b]]
    | h :: t => (b :: h) :: t
/-- What stands ahead is put ahead of the first part. -/
def glue (p : List UInt8) : List (List UInt8) → List (List UInt8)
  | [] => [p]
  | h :: t => (p ++ h) :: t
theorem splitL_ne (c : UInt8) : ∀ l, ∃ h t, splitL c l = h :: t
  | [] => ⟨[], [], rfl⟩
  | b :: l => by
    obtain ⟨h, t, e⟩ := splitL_ne c l
    unfold splitL
    by_cases hb : b = c
    · rw [if_pos hb]; exact ⟨_, _, rfl⟩
    · rw [if_neg hb, e]; exact ⟨_, _, rfl⟩
theorem splitL_eq (c : UInt8) (l : List UInt8) : splitL c (c :: l) = [] :: splitL c l := by rw [splitL, if_pos rfl]
theorem splitL_cons {b c : UInt8} (h : ¬ b = c) (l : List UInt8) : splitL c (b :: l) = glue [b] (splitL c l) := by
  obtain ⟨x, t, e⟩ := splitL_ne c l
  rw [splitL, if_neg h, e]
  rfl
theorem glue_nil {c : UInt8} {l : List UInt8} : glue [] (splitL c l) = splitL c l := by
  obtain ⟨x, t, e⟩ := splitL_ne c l
  rw [e]; rfl
theorem glue_glue (p q : List UInt8) {c : UInt8} {l : List UInt8} : glue p (glue q (splitL c l)) = glue (p ++ q) (splitL c l) := by
  obtain ⟨x, t, e⟩ := splitL_ne c l
  rw [e]; simp [glue]
theorem splitL_length (c : UInt8) : ∀ l : List UInt8, (splitL c l).length ≤ l.length + 1
  | [] => by simp [splitL]
  | b :: l => by
    have ih := splitL_length c l
    by_cases h : b = c
    · subst h; rw [splitL_eq]; simp; omega
    · obtain ⟨x, t, e⟩ := splitL_ne c l
      rw [splitL_cons h, e]
      rw [e] at ih
      simp [glue] at ih ⊢; omega
theorem splitL_part (c : UInt8) : ∀ (l : List UInt8) (p : List UInt8), p ∈ splitL c l → p.length ≤ l.length
  | [], p, h => by simp [splitL] at h; simp [h]
  | b :: l, p, h => by
    have ih := splitL_part c l
    by_cases hb : b = c
    · subst hb
      rw [splitL_eq] at h
      rcases List.mem_cons.1 h with rfl | h
      · simp
      · have := ih p h; simp; omega
    · obtain ⟨x, t, e⟩ := splitL_ne c l
      rw [splitL_cons hb, e] at h
      rcases List.mem_cons.1 h with rfl | h
      · have := ih x (by rw [e]; simp); simp; omega
      · have := ih p (by rw [e]; simp [h]); simp; omega
theorem splitL_cut (c : UInt8) : ∀ l : List UInt8, splitL c l = match cutL c l with
    | some p => p.1 :: splitL c p.2
    | none => [l]
  | [] => rfl
  | b :: l => by
    have ih := splitL_cut c l
    by_cases h : b = c
    · subst h; rw [splitL_eq]; simp [cutL]
    · rw [splitL_cons h, ih, show cutL c (b :: l) = (cutL c l).map (fun p => (b :: p.1, p.2)) by rw [cutL, if_neg h]]
      cases cutL c l <;> simp [glue]
def splitA (c : UInt8) (s : ByteArray) : List ByteArray := (splitL c s.data.toList).map mkS
theorem indexB_cut (c : UInt8) (s : ByteArray) : match cutL c s.data.toList with
    | some p => Lib.indexB s (⟨#[c]⟩ : ByteArray) = ((p.1.length : Nat) : Int)
    | none => Lib.indexB s (⟨#[c]⟩ : ByteArray) = -1 := by
  have h := indexByte_cut c s.data.toList
  show match cutL c s.data.toList with
    | some p => Lib.index s.data.toList [c] = ((p.1.length : Nat) : Int)
    | none => Lib.index s.data.toList [c] = -1
  rw [Lib.index_one]
  exact h
theorem libsplit (c : UInt8) : ∀ (n : Nat) (s : ByteArray), s.size ≤ n → Lib.splitB (⟨#[c]⟩ : ByteArray) 0 (Lib.countB s (⟨#[c]⟩ : ByteArray)) s = splitA c s := by
  intro n
  induction n with
  | zero =>
    intro s hs
    have h := indexB_cut c s
    have h0 : s.data.toList = [] := by apply List.eq_nil_of_length_eq_zero; rw [len_size]; omega
    rw [h0] at h
    simp only [cutL] at h
    rw [Lib.countB_miss s _ h, Lib.splitB_zero]
    unfold splitA
    rw [h0]
    simp only [splitL, List.map_cons, List.map_nil]
    rw [← h0, mkS_of]
  | succ n ih =>
    intro s hs
    have h := indexB_cut c s
    cases hc : cutL c s.data.toList with
    | none =>
      rw [hc] at h
      simp only at h
      rw [Lib.countB_miss s _ h, Lib.splitB_zero]
      unfold splitA
      rw [splitL_cut, hc]
      simp only [List.map_cons, List.map_nil]
      rw [mkS_of]
    | some p =>
      rw [hc] at h
      simp only at h
      obtain ⟨e, _⟩ := cutL_some hc
      have hsz : (⟨#[c]⟩ : ByteArray).size = 1 := rfl
      rw [Lib.countB_hit s _ p.1.length (by rw [hsz]; omega) h, Nat.add_comm 1, Lib.splitB_hit _ 0 _ s p.1.length h, hsz]
      have hl : s.size = p.1.length + 1 + p.2.length := by rw [← len_size, e]; simp; omega
      have e1 : s.extract 0 (p.1.length + 0) = mkS p.1 := s_ext (by rw [Lib.extract_data, mkS_list, e]; simp)
      have e2 : s.extract (p.1.length + 1) s.size = mkS p.2 := s_ext (by
        rw [Lib.extract_data, mkS_list, e, show p.1 ++ c :: p.2 = (p.1 ++ [c]) ++ p.2 by simp, List.drop_left' (by simp), List.take_of_length_le (by omega)])
      rw [e1, e2, ih (mkS p.2) (by rw [mkS_size]; omega)]
      unfold splitA
      rw [splitL_cut c s.data.toList, hc, mkS_list]
      rfl
theorem implSplit_at (s : ByteArray) (c : UInt8) (hs : s.size < 4294967281) : impl_Split.f s (c.toNat : Int) = some (splitA c s) := by
  have hc : strOfNums ([(c.toNat : Int)] : List Int) = (⟨#[c]⟩ : ByteArray) := by
    apply s_ext
    rw [strOfNums_data]
    simp
  unfold impl_Split.f strings_Split.f
  rw [hc, if_pos hs, if_pos (show 1 ≤ (⟨#[c]⟩ : ByteArray).size from Nat.le_refl 1), libsplit c s.size s (Nat.le_refl _)]
  rfl
theorem specSplit_at (s : ByteArray) (c : UInt8) (hs : s.size < 4294967281) (k : Nat) (hk : s.size + 2 < k) : spec_Split.f k s (c.toNat : Int) = some (splitA c s) := by
  have key : ∀ (d k m f : Nat) (out : List ByteArray), m + d = s.size → d + 2 < k → f ≤ m → out.length + d + 1 < 8796093022208 →
      spec_Split.l0 k s (c.toNat : Int) out (f : Int) (m : Int) = some (out ++ (glue ((s.data.toList.drop f).take (m - f)) (splitL c (s.data.toList.drop m))).map mkS) := by
    intro d
    induction d with
    | zero =>
      intro k m f out hd hk hf ho
      obtain ⟨k, rfl⟩ : ∃ q, k = q + 2 := ⟨k - 2, by omega⟩
      have hw : wrap64 ((m : Int) + 1) = ((m + 1 : Nat) : Int) := wn (n := m + 1) (by omega) (by omega)
      simp only [spec_Split.l0]
      rw [if_pos (show (m : Int) ≤ (s.size : Int) by omega), if_pos (show (m : Int) = (s.size : Int) by omega), if_pos (by omega), if_pos (by omega), if_pos (by omega), hw, if_neg (by omega)]
      rw [List.drop_of_length_le (i := m) (by rw [len_size]; omega)]
      simp only [splitL, glue, List.append_nil, List.map_cons, List.map_nil, Int.toNat_natCast]
      rw [Lib.extract_eq]
      rfl
    | succ d ih =>
      intro k m f out hd hk hf ho
      obtain ⟨k, rfl⟩ : ∃ q, k = q + 1 := ⟨k - 1, by omega⟩
      obtain ⟨b, hb, hbt⟩ := drop_byte s m (by omega)
      have hw : wrap64 ((m : Int) + 1) = ((m + 1 : Nat) : Int) := wn (n := s.size) (by omega) (by omega)
      have hl : m < s.data.toList.length := by rw [len_size]; omega
      have hg : s.data.toList[m] = b := by
        have := List.drop_eq_getElem_cons hl
        rw [hb] at this
        exact (List.cons.inj this).1.symm
      simp only [spec_Split.l0]
      rw [if_pos (show (m : Int) ≤ (s.size : Int) by omega), if_neg (show ¬ (m : Int) = (s.size : Int) by omega), if_pos (by omega), if_pos (by omega), hbt, hb]
      by_cases hc : b = c
      · subst hc
        rw [if_pos rfl, if_pos (by omega), if_pos (by omega), if_pos (by omega), hw, ih k (m + 1) (m + 1) _ (by omega) (by omega) (Nat.le_refl _) (by simp; omega), splitL_eq, Nat.sub_self, List.take_zero, glue_nil]
        simp only [glue, List.append_nil, List.map_cons, Int.toNat_natCast]
        rw [Lib.extract_eq]
        simp [mkS]
      · rw [if_neg (fun e => hc (u8_inj.1 e)), hw, ih k (m + 1) f _ (by omega) (by omega) (by omega) (by omega), splitL_cons hc, glue_glue]
        congr 4
        rw [show m + 1 - f = (m - f) + 1 by omega, List.take_succ_eq_append_getElem (by rw [List.length_drop]; omega), List.getElem_drop]
        congr 2
        rw [← hg]
        congr 1
        omega
  have h0 := key s.size k 0 0 [] (by omega) (by omega) (Nat.le_refl _) (by simp; omega)
  unfold spec_Split.f splitA
  simp only [Nat.sub_self, List.take_zero, List.drop_zero, glue_nil, List.nil_append] at h0
  exact h0
/-- A number's numeral. -/
def digS (n : Nat) : ByteArray := mkS (Lib.decDigits n)
theorem dig_isDigit (n : Nat) : ∀ b ∈ Lib.decDigits n, 48 ≤ b.toNat ∧ b.toNat ≤ 57 := by
  induction n using Nat.strongRecOn with
  | _ n ih =>
    intro b hb
    rw [Lib.decDigits] at hb
    by_cases h : n < 10
    · rw [dif_pos h] at hb
      obtain rfl := List.mem_singleton.1 hb
      rw [UInt8.toNat_ofNat']
      omega
    · rw [dif_neg h] at hb
      rcases List.mem_append.1 hb with hb | hb
      · exact ih (n / 10) (by omega) b hb
      · obtain rfl := List.mem_singleton.1 hb
        rw [UInt8.toNat_ofNat']
        omega
theorem dig_ne (n : Nat) (c : UInt8) (h : c.toNat < 48 ∨ 57 < c.toNat) : c ∉ Lib.decDigits n := fun hm => by
  have := dig_isDigit n c hm
  omega
theorem dig_len (j : Nat) : ∀ n, n < 10 ^ (j + 1) → (Lib.decDigits n).length ≤ j + 1 := by
  induction j with
  | zero => intro n h; rw [Lib.decDigits_one (by omega)]; simp
  | succ j ih =>
    intro n h
    rw [Lib.decDigits]
    by_cases h1 : n < 10
    · rw [dif_pos h1]; simp
    · rw [dif_neg h1]
      have := ih (n / 10) (by rw [Nat.pow_succ] at h; omega)
      simp only [List.length_append, List.length_singleton]; omega
theorem dig_pos (n : Nat) : 0 < (Lib.decDigits n).length := by
  rw [Lib.decDigits]
  split <;> simp
theorem implDigits_at (n : Nat) (h : n ≤ 9223372036854775807) : impl_Digits.f (n : Int) = some (digS n) := by
  unfold impl_Digits.f strconv_Itoa_205.f digS
  rw [if_pos (by omega), if_pos (by omega), Option.bind_some]
  unfold Lib.itoa
  rw [if_neg (by omega)]
  rfl
theorem specDigits_l : ∀ (j n k : Nat) (acc : ByteArray), n < 10 ^ j → n ≤ 9223372036854775807 → j < k → acc.size + j ≤ 1000 →
    spec_Digits.l0 k (n : Int) false acc = some (mkS ((if n = 0 then [] else Lib.decDigits n) ++ acc.data.toList)) := by
  intro j
  induction j with
  | zero =>
    intro n k acc h hn hk ha
    obtain ⟨k, rfl⟩ : ∃ q, k = q + 1 := ⟨k - 1, by omega⟩
    obtain rfl : n = 0 := by simpa using h
    simp only [spec_Digits.l0]
    simp [mkS_of]
  | succ j ih =>
    intro n k acc h hn hk ha
    obtain ⟨k, rfl⟩ : ∃ q, k = q + 1 := ⟨k - 1, by omega⟩
    simp only [spec_Digits.l0]
    by_cases h0 : n = 0
    · subst h0; simp [mkS_of]
    · have hm : Int.tmod (n : Int) 10 = ((n % 10 : Nat) : Int) := by rw [Int.tmod_eq_emod_of_nonneg (by omega)]; omega
      have hd : wrap64 (Int.tdiv (n : Int) 10) = ((n / 10 : Nat) : Int) := by
        rw [Int.tdiv_eq_ediv_of_nonneg (by omega)]
        unfold wrap64; omega
      have hw : wrap64 (48 + ((n % 10 : Nat) : Int)) % 256 = ((48 + n % 10 : Nat) : Int) := by unfold wrap64; omega
      rw [if_neg (by omega), hm, if_neg (by omega), Option.bind_some, hw, hd]
      have hs : (strOfNums [((48 + n % 10 : Nat) : Int)]).size = 1 := by rw [strOfNums_size]; rfl
      rw [if_pos (by rw [hs]; omega), ih (n / 10) k _ (by rw [Nat.pow_succ] at h; omega) (by omega) (by omega) (by rw [ByteArray.size_append, hs]; omega)]
      congr 2
      rw [if_neg h0]
      simp only [ByteArray.data_append, Array.toList_append, strOfNums_data, List.map_cons, List.map_nil, Int.toNat_natCast]
      by_cases h1 : n < 10
      · rw [if_pos (by omega), Lib.decDigits_one h1, Nat.mod_eq_of_lt h1]
        rfl
      · have e : Lib.decDigits n = Lib.decDigits (n / 10) ++ [UInt8.ofNat (48 + n % 10)] := by rw [Lib.decDigits, dif_neg h1]
        rw [if_neg (by omega), e]
        simp
theorem specDigits_at (n : Nat) (h : n < 10 ^ 20) (h' : n ≤ 9223372036854775807) (k : Nat) (hk : 20 < k) : spec_Digits.f k (n : Int) = some (digS n) := by
  unfold spec_Digits.f digS
  by_cases h0 : n = 0
  · subst h0
    rw [if_pos (show ((0 : Nat) : Int) = 0 from rfl), Lib.decDigits_one (by omega)]
    rfl
  · rw [if_neg (by omega), show decide ((n : Int) < 0) = false by simp, specDigits_l 20 n k _ h h' hk (by decide), if_neg h0]
    congr 2
    show Lib.decDigits n ++ [] = _
    simp
theorem num_w1 (n b : Int) (h0 : 0 ≤ n) (h1 : n < 1000000) (hb : 48 ≤ b) (hb2 : b ≤ 255) : wrap64 (wrap64 (wrap64 (10 * n) + wrap64 b) - 48) = 10 * n + (b - 48) := by
  have w1 : wrap64 (10 * n) = 10 * n := by unfold wrap64; omega
  have w2 : wrap64 b = b := by unfold wrap64; omega
  rw [w1, w2]
  have w3 : wrap64 (10 * n + b) = 10 * n + b := by unfold wrap64; omega
  rw [w3]
  unfold wrap64; omega
theorem num_w2 (n b : Int) (h0 : 0 ≤ n) (h1 : n < 1000000) (hb : 48 ≤ b) (hb2 : b ≤ 255) : wrap64 (wrap64 (10 * n) + (b - 48) % 256) = 10 * n + (b - 48) := by
  have w1 : wrap64 (10 * n) = 10 * n := by unfold wrap64; omega
  have w2 : (b - 48) % 256 = b - 48 := by omega
  rw [w1, w2]
  unfold wrap64; omega
/-- What both sides of Number tell. -/
theorem number_l (s : ByteArray) (h6 : s.size ≤ 6) : ∀ (d k m n : Nat), m + d = s.size → d + 25 < k → n < 10 ^ m →
    ∃ r : Int × Bool, spec_Number.l0 k s (n : Int) (m : Int) = some r ∧ impl_Number.l0 k s (n : Int) (m : Int) = some r ∧ ∃ q : Nat, r.1 = (q : Int) ∧ q < 1000000 ∧ (r.2 = true → s = digS q) := by
  intro d
  induction d with
  | zero =>
    intro k m n hd hk hn
    obtain ⟨k, rfl⟩ : ∃ q, k = q + 1 := ⟨k - 1, by omega⟩
    have hp : 10 ^ m ≤ 10 ^ 6 := Nat.pow_le_pow_right (by omega) (by omega)
    have hn6 : n < 1000000 := by omega
    have hs : spec_Number.l0 (k + 1) s (n : Int) (m : Int) = if (digS n).toList = s.toList then some ((n : Int), true) else some (0, false) := by
      simp only [spec_Number.l0]
      rw [if_neg (by omega), specDigits_at n (by omega) (by omega) k (by omega), Option.bind_some]
    have hi : impl_Number.l0 (k + 1) s (n : Int) (m : Int) = if (digS n).toList = s.toList then some ((n : Int), true) else some (0, false) := by
      simp only [impl_Number.l0]
      rw [if_neg (by omega), implDigits_at n (by omega), Option.bind_some]
    rw [hs, hi]
    by_cases h : (digS n).toList = s.toList
    · rw [if_pos h]
      refine ⟨_, rfl, rfl, n, rfl, hn6, fun _ => ?_⟩
      rw [Lib.toList_data, Lib.toList_data] at h
      exact (s_ext h).symm
    · rw [if_neg h]
      exact ⟨_, rfl, rfl, 0, rfl, by omega, fun e => by cases e⟩
  | succ d ih =>
    intro k m n hd hk hn
    obtain ⟨k, rfl⟩ : ∃ q, k = q + 1 := ⟨k - 1, by omega⟩
    have hp : 10 ^ m ≤ 10 ^ 6 := Nat.pow_le_pow_right (by omega) (by omega)
    have hn6 : (n : Int) < 1000000 := by omega
    obtain ⟨b, hb, hbt⟩ := drop_byte s m (by omega)
    have hw : wrap64 ((m : Int) + 1) = ((m + 1 : Nat) : Int) := wn (n := s.size) (by omega) (by omega)
    have hs : spec_Number.l0 (k + 1) s (n : Int) (m : Int) = if (b.toNat : Int) < 48 then some (0, false) else if (b.toNat : Int) > 57 then some (0, false) else spec_Number.l0 k s ((10 * n + (b.toNat - 48) : Nat) : Int) ((m + 1 : Nat) : Int) := by
      simp only [spec_Number.l0]
      rw [if_pos (by omega), if_pos (by omega), hbt, hw]
      by_cases h1 : (b.toNat : Int) < 48
      · rw [if_pos h1, if_pos h1]
      · have e1 : wrap64 (wrap64 (wrap64 (10 * (n : Int)) + wrap64 (b.toNat : Int)) - 48) = ((10 * n + (b.toNat - 48) : Nat) : Int) := by
          have := b.toNat_lt
          rw [num_w1 n b.toNat (by omega) hn6 (by omega) (by omega)]; omega
        rw [if_neg h1, if_neg h1, e1]
    have hi : impl_Number.l0 (k + 1) s (n : Int) (m : Int) = if (b.toNat : Int) < 48 then some (0, false) else if (b.toNat : Int) > 57 then some (0, false) else impl_Number.l0 k s ((10 * n + (b.toNat - 48) : Nat) : Int) ((m + 1 : Nat) : Int) := by
      simp only [impl_Number.l0]
      rw [if_pos (by omega), if_pos (by omega), hbt, hw]
      by_cases h1 : (b.toNat : Int) < 48
      · rw [if_pos h1, if_pos h1]
      · have e2 : wrap64 (wrap64 (10 * (n : Int)) + ((b.toNat : Int) - 48) % 256) = ((10 * n + (b.toNat - 48) : Nat) : Int) := by
          have := b.toNat_lt
          rw [num_w2 n b.toNat (by omega) hn6 (by omega) (by omega)]; omega
        rw [if_neg h1, if_neg h1, e2]
    rw [hs, hi]
    by_cases h1 : (b.toNat : Int) < 48
    · exact ⟨(0, false), by rw [if_pos h1], by rw [if_pos h1], 0, rfl, by omega, fun e => by cases e⟩
    · by_cases h2 : (b.toNat : Int) > 57
      · exact ⟨(0, false), by rw [if_neg h1, if_pos h2], by rw [if_neg h1, if_pos h2], 0, rfl, by omega, fun e => by cases e⟩
      · simp only [h1, h2, if_false]
        exact ih k (m + 1) _ (by omega) (by omega) (by rw [Nat.pow_succ]; omega)
theorem number_at (s : ByteArray) (k : Nat) (hk : 40 < k) : ∃ r : Int × Bool, spec_Number.f k s = some r ∧ impl_Number.f k s = some r ∧ ∃ q : Nat, r.1 = (q : Int) ∧ q < 1000000 ∧ (r.2 = true → s = digS q) := by
  unfold spec_Number.f impl_Number.f
  obtain ⟨k, rfl⟩ : ∃ q, k = q + 1 := ⟨k - 1, by omega⟩
  by_cases h1 : (s.size : Int) < 1
  · refine ⟨(0, false), ?_, ?_, 0, rfl, by omega, fun e => by cases e⟩
    · rw [if_pos h1]; simp [spec_Number.j0]
    · rw [if_pos h1]; simp [impl_Number.j0]
  · by_cases h2 : (s.size : Int) > 6
    · refine ⟨(0, false), ?_, ?_, 0, rfl, by omega, fun e => by cases e⟩
      · rw [if_neg h1]; simp only [spec_Number.j0]; rw [if_pos (decide_eq_true h2)]
      · rw [if_neg h1]; simp only [impl_Number.j0]; rw [if_pos (decide_eq_true h2)]
    · obtain ⟨r, e1, e2, e3⟩ := number_l s (by omega) s.size k 0 0 (by omega) (by omega) (by omega)
      refine ⟨r, ?_, ?_, e3⟩
      · rw [if_neg h1]; simp only [spec_Number.j0]; rw [if_neg (by simpa using h2)]; exact e1
      · rw [if_neg h1]; simp only [impl_Number.j0]; rw [if_neg (by simpa using h2)]; exact e2
def txB (a b c d : Nat) : Bool := decide ((a : Int) ≤ 3 ∧ (b : Int) ≤ 3 ∧ (c : Int) ≤ 1000 ∧ (d : Int) ≤ 99)
def txL (a b c d : Nat) : List UInt8 := Lib.decDigits a ++ 62 :: (Lib.decDigits b ++ 58 :: (Lib.decDigits c ++ 35 :: Lib.decDigits d))
theorem implTxOk_at (a b c d : Nat) : impl_TxOk.f (a : Int) (b : Int) (c : Int) (d : Int) = some (txB a b c d) := by
  unfold impl_TxOk.f impl_within.f txB
  rw [if_pos (by omega), if_pos (by omega), if_pos (by omega), if_pos (by omega)]
  by_cases h1 : (a : Int) ≤ 3 <;> by_cases h2 : (b : Int) ≤ 3 <;> by_cases h3 : (c : Int) ≤ 1000 <;> by_cases h4 : (d : Int) ≤ 99 <;> simp [h1, h2, h3, h4]
theorem specTxOk_at (a b c d : Nat) : spec_TxOk.f (a : Int) (b : Int) (c : Int) (d : Int) = some (txB a b c d) := implTxOk_at a b c d
theorem digS_size (n : Nat) (h : n < 1000000) : (digS n).size ≤ 6 := by
  unfold digS
  rw [mkS_size]
  exact dig_len 5 n h
theorem tx_join (a b c d : Nat) : ((((((digS a ++ (⟨#[62]⟩ : ByteArray)) ++ digS b) ++ (⟨#[58]⟩ : ByteArray)) ++ digS c) ++ (⟨#[35]⟩ : ByteArray)) ++ digS d) = mkS (txL a b c d) := by
  apply s_ext
  simp only [ByteArray.data_append, Array.toList_append, mkS_list, digS, txL]
  simp
theorem implTxText_at (a b c d : Nat) (ha : a < 1000000) (hb : b < 1000000) (hc : c < 1000000) (hd : d < 1000000) :
    impl_TxText.f (a : Int) (b : Int) (c : Int) (d : Int) = some (if txB a b c d = true then mkS (txL a b c d) else mkS []) := by
  have s1 := digS_size a ha
  have s2 := digS_size b hb
  have s3 := digS_size c hc
  have s4 := digS_size d hd
  have o1 : (⟨#[62]⟩ : ByteArray).size = 1 := rfl
  have o2 : (⟨#[58]⟩ : ByteArray).size = 1 := rfl
  have o3 : (⟨#[35]⟩ : ByteArray).size = 1 := rfl
  unfold impl_TxText.f
  rw [implTxOk_at, Option.bind_some]
  by_cases h : txB a b c d = true
  · rw [if_pos h, if_pos h, implDigits_at a (by omega), Option.bind_some, if_pos (by omega), implDigits_at b (by omega), Option.bind_some, if_pos (by simp only [ByteArray.size_append]; omega), if_pos (by simp only [ByteArray.size_append]; omega),
      implDigits_at c (by omega), Option.bind_some, if_pos (by simp only [ByteArray.size_append]; omega), if_pos (by simp only [ByteArray.size_append]; omega), implDigits_at d (by omega), Option.bind_some, if_pos (by simp only [ByteArray.size_append]; omega), tx_join]
  · rw [if_neg h, if_neg h]; rfl
theorem specTxText_at (a b c d : Nat) (ha : a < 1000000) (hb : b < 1000000) (hc : c < 1000000) (hd : d < 1000000) (k : Nat) (hk : 20 < k) :
    spec_TxText.f k (a : Int) (b : Int) (c : Int) (d : Int) = some (if txB a b c d = true then mkS (txL a b c d) else mkS []) := by
  have s1 := digS_size a ha
  have s2 := digS_size b hb
  have s3 := digS_size c hc
  have s4 := digS_size d hd
  have o1 : (⟨#[62]⟩ : ByteArray).size = 1 := rfl
  have o2 : (⟨#[58]⟩ : ByteArray).size = 1 := rfl
  have o3 : (⟨#[35]⟩ : ByteArray).size = 1 := rfl
  have p : (1000000 : Nat) ≤ 10 ^ 20 := by decide
  unfold spec_TxText.f
  rw [specTxOk_at, Option.bind_some]
  by_cases h : txB a b c d = true
  · rw [if_pos h, if_pos h, specDigits_at a (by omega) (by omega) k hk, Option.bind_some, if_pos (by omega), specDigits_at b (by omega) (by omega) k hk, Option.bind_some, if_pos (by simp only [ByteArray.size_append]; omega), if_pos (by simp only [ByteArray.size_append]; omega),
      specDigits_at c (by omega) (by omega) k hk, Option.bind_some, if_pos (by simp only [ByteArray.size_append]; omega), if_pos (by simp only [ByteArray.size_append]; omega), specDigits_at d (by omega) (by omega) k hk, Option.bind_some, if_pos (by simp only [ByteArray.size_append]; omega), tx_join]
  · rw [if_neg h, if_neg h]; rfl
/-- What is told of a text and four numbers. -/
def tell (s : ByteArray) (a b c d : Nat) : Int × Int × Int × Int × Bool := if txB a b c d = true ∧ txL a b c d = s.data.toList then ((a : Int), (b : Int), (c : Int), (d : Int), true) else (0, 0, 0, 0, false)
theorem tell_eq (s : ByteArray) (a b c d : Nat) (h : mkS (txL a b c d) = s) : txL a b c d = s.data.toList := by rw [← h, mkS_list]
theorem txL_chain (a b c d : Nat) : cutL 62 (txL a b c d) = some (Lib.decDigits a, Lib.decDigits b ++ 58 :: (Lib.decDigits c ++ 35 :: Lib.decDigits d)) ∧
    cutL 58 (Lib.decDigits b ++ 58 :: (Lib.decDigits c ++ 35 :: Lib.decDigits d)) = some (Lib.decDigits b, Lib.decDigits c ++ 35 :: Lib.decDigits d) ∧ cutL 35 (Lib.decDigits c ++ 35 :: Lib.decDigits d) = some (Lib.decDigits c, Lib.decDigits d) :=
  ⟨cutL_app (dig_ne a 62 (by decide)), cutL_app (dig_ne b 58 (by decide)), cutL_app (dig_ne c 35 (by decide))⟩
theorem implTxOf_core (s x1 x2 x3 y1 y2 y3 : ByteArray) (b1 b2 b3 : Bool) (k : Nat) (hk : 40 < k) (h1 : strings_Cut.f s (⟨#[62]⟩ : ByteArray) = some (x1, y1, b1)) (h2 : strings_Cut.f y1 (⟨#[58]⟩ : ByteArray) = some (x2, y2, b2)) (h3 : strings_Cut.f y2 (⟨#[35]⟩ : ByteArray) = some (x3, y3, b3))
    (a b c d : Nat) (ha : a < 1000000) (hb : b < 1000000) (hc : c < 1000000) (hd : d < 1000000) (m1 m2 m3 m4 : Bool)
    (n1 : impl_Number.f k x1 = some ((a : Int), m1)) (n2 : impl_Number.f k x2 = some ((b : Int), m2)) (n3 : impl_Number.f k x3 = some ((c : Int), m3)) (n4 : impl_Number.f k y3 = some ((d : Int), m4)) : impl_TxOf.f k s = some (tell s a b c d) := by
  unfold impl_TxOf.f tell
  rw [h1, Option.bind_some]; dsimp only
  rw [h2, Option.bind_some]; dsimp only
  rw [h3, Option.bind_some]; dsimp only
  rw [n1, Option.bind_some, n2, Option.bind_some, n3, Option.bind_some, n4, Option.bind_some]; dsimp only
  rw [implTxOk_at, Option.bind_some, implTxText_at a b c d ha hb hc hd]
  by_cases h : txB a b c d = true
  · rw [if_pos h, Option.bind_some, if_pos h, mkS_toList, Lib.toList_data]
    by_cases e : txL a b c d = s.data.toList
    · rw [if_pos e, if_pos ⟨h, e⟩]
    · rw [if_neg e, if_neg (fun x => e x.2)]
  · rw [if_neg h, if_neg (fun x => h x.1)]
theorem specTxOf_core (s x1 x2 x3 y1 y2 y3 : ByteArray) (b1 b2 b3 : Bool) (k : Nat) (hk : 40 < k) (h1 : spec_l2Cut.f k s 62 = some (x1, y1, b1)) (h2 : spec_l2Cut.f k y1 58 = some (x2, y2, b2)) (h3 : spec_l2Cut.f k y2 35 = some (x3, y3, b3))
    (a b c d : Nat) (ha : a < 1000000) (hb : b < 1000000) (hc : c < 1000000) (hd : d < 1000000) (m1 m2 m3 m4 : Bool)
    (n1 : spec_Number.f k x1 = some ((a : Int), m1)) (n2 : spec_Number.f k x2 = some ((b : Int), m2)) (n3 : spec_Number.f k x3 = some ((c : Int), m3)) (n4 : spec_Number.f k y3 = some ((d : Int), m4)) : spec_TxOf.f k s = some (tell s a b c d) := by
  unfold spec_TxOf.f tell
  rw [h1, Option.bind_some]; dsimp only
  rw [h2, Option.bind_some]; dsimp only
  rw [h3, Option.bind_some]; dsimp only
  rw [n1, Option.bind_some, n2, Option.bind_some, n3, Option.bind_some, n4, Option.bind_some]; dsimp only
  rw [specTxText_at a b c d ha hb hc hd k (by omega), Lib.toList_data]
  by_cases e0 : s.data.toList = []
  · rw [if_pos e0, if_neg]
    rintro ⟨_, x⟩
    rw [e0] at x
    have := dig_pos a
    simp [txL] at x
  · rw [if_neg e0, Option.bind_some]
    by_cases h : txB a b c d = true
    · rw [if_pos h, mkS_toList]
      by_cases e : txL a b c d = s.data.toList
      · rw [if_pos e, if_pos ⟨h, e⟩]
      · rw [if_neg e, if_neg (fun x => e x.2)]
    · rw [if_neg h, mkS_toList, if_neg (fun x => e0 x.symm), if_neg (fun x => h x.1)]
theorem num_of (x : ByteArray) (k : Nat) (hk : 40 < k) : ∃ (a : Nat) (m : Bool), a < 1000000 ∧ spec_Number.f k x = some ((a : Int), m) ∧ impl_Number.f k x = some ((a : Int), m) := by
  obtain ⟨⟨r, m⟩, e1, e2, q, rfl, hq, _⟩ := number_at x k hk
  exact ⟨q, m, hq, e1, e2⟩
/-- A text that lacks one of the three signs, in their order, is no payment's. -/
theorem tell_none (s : ByteArray) (h : ∀ p1 p2 p3, cutL 62 s.data.toList = some p1 → cutL 58 p1.2 = some p2 → cutL 35 p2.2 = some p3 → False) (a b c d : Nat) : tell s a b c d = (0, 0, 0, 0, false) := by
  unfold tell
  rw [if_neg]
  rintro ⟨_, e⟩
  obtain ⟨c1, c2, c3⟩ := txL_chain a b c d
  rw [e] at c1
  exact h _ _ _ c1 c2 c3
theorem txOf_at (s : ByteArray) (hs : s.size < 4294967281) (k : Nat) (hk : s.size + 41 < k) : ∃ r, spec_TxOf.f k s = some r ∧ impl_TxOf.f k s = some r := by
  have both : ∀ (x1 x2 x3 y1 y2 y3 x1' x2' x3' y1' y2' y3' : ByteArray) (b1 b2 b3 b1' b2' b3' : Bool),
      spec_l2Cut.f k s 62 = some (x1, y1, b1) → spec_l2Cut.f k y1 58 = some (x2, y2, b2) → spec_l2Cut.f k y2 35 = some (x3, y3, b3) →
      strings_Cut.f s (⟨#[62]⟩ : ByteArray) = some (x1', y1', b1') → strings_Cut.f y1' (⟨#[58]⟩ : ByteArray) = some (x2', y2', b2') → strings_Cut.f y2' (⟨#[35]⟩ : ByteArray) = some (x3', y3', b3') →
      ((∀ a b c d : Nat, tell s a b c d = (0, 0, 0, 0, false)) ∨ (x1 = x1' ∧ x2 = x2' ∧ x3 = x3' ∧ y3 = y3')) → ∃ r, spec_TxOf.f k s = some r ∧ impl_TxOf.f k s = some r := by
    intro x1 x2 x3 y1 y2 y3 x1' x2' x3' y1' y2' y3' b1 b2 b3 b1' b2' b3' h1 h2 h3 g1 g2 g3 hor
    rcases hor with ht | ⟨rfl, rfl, rfl, rfl⟩
    · obtain ⟨a, m1, ha, n1, _⟩ := num_of x1 k (by omega)
      obtain ⟨b, m2, hb, n2, _⟩ := num_of x2 k (by omega)
      obtain ⟨c, m3, hc, n3, _⟩ := num_of x3 k (by omega)
      obtain ⟨d, m4, hd, n4, _⟩ := num_of y3 k (by omega)
      obtain ⟨a', m1', ha', _, n1'⟩ := num_of x1' k (by omega)
      obtain ⟨b', m2', hb', _, n2'⟩ := num_of x2' k (by omega)
      obtain ⟨c', m3', hc', _, n3'⟩ := num_of x3' k (by omega)
      obtain ⟨d', m4', hd', _, n4'⟩ := num_of y3' k (by omega)
      refine ⟨(0, 0, 0, 0, false), ?_, ?_⟩
      · rw [specTxOf_core s x1 x2 x3 y1 y2 y3 b1 b2 b3 k (by omega) h1 h2 h3 a b c d ha hb hc hd m1 m2 m3 m4 n1 n2 n3 n4, ht]
      · rw [implTxOf_core s x1' x2' x3' y1' y2' y3' b1' b2' b3' k (by omega) g1 g2 g3 a' b' c' d' ha' hb' hc' hd' m1' m2' m3' m4' n1' n2' n3' n4', ht]
    · obtain ⟨a, m1, ha, n1, n1'⟩ := num_of x1 k (by omega)
      obtain ⟨b, m2, hb, n2, n2'⟩ := num_of x2 k (by omega)
      obtain ⟨c, m3, hc, n3, n3'⟩ := num_of x3 k (by omega)
      obtain ⟨d, m4, hd, n4, n4'⟩ := num_of y3 k (by omega)
      exact ⟨_, specTxOf_core s x1 x2 x3 y1 y2 y3 b1 b2 b3 k (by omega) h1 h2 h3 a b c d ha hb hc hd m1 m2 m3 m4 n1 n2 n3 n4, implTxOf_core s x1 x2 x3 y1' y2' y3 b1' b2' b3' k (by omega) g1 g2 g3 a b c d ha hb hc hd m1 m2 m3 m4 n1' n2' n3' n4'⟩
  have sz0 : (mkS []).size = 0 := rfl
  have sp : ∀ {c : UInt8} {l : List UInt8} {p : List UInt8 × List UInt8}, cutL c l = some p → (mkS p.1).size ≤ l.length ∧ (mkS p.2).size ≤ l.length := by
    intro c l p h
    obtain ⟨e, _⟩ := cutL_some h
    rw [mkS_size, mkS_size, e]
    simp; omega
  have cS : ∀ (x : ByteArray) (c : UInt8), (cutS x c).2.1.size ≤ x.size := by
    intro x c
    unfold cutS
    cases h : cutL c x.data.toList with
    | none => simp only; rw [sz0]; omega
    | some p => simp only; have := (sp h).2; rw [len_size] at this; exact this
  have cI : ∀ (x : ByteArray) (c : UInt8), (cutI x c).2.1.size ≤ x.size := by
    intro x c
    unfold cutI
    cases h : cutL c x.data.toList with
    | none => simp only; rw [sz0]; omega
    | some p => simp only; have := (sp h).2; rw [len_size] at this; exact this
  have k1 := cS s 62
  have k2 := cS (cutS s 62).2.1 58
  have i1 := cI s 62
  have i2 := cI (cutI s 62).2.1 58
  refine both _ _ _ _ _ _ _ _ _ _ _ _ _ _ _ _ _ _ (specCut_at s 62 hs k (by omega)) (specCut_at (cutS s 62).2.1 58 (by omega) k (by omega)) (specCut_at (cutS (cutS s 62).2.1 58).2.1 35 (by omega) k (by omega))
    (implCut_at s 62 hs) (implCut_at (cutI s 62).2.1 58 (by omega)) (implCut_at (cutI (cutI s 62).2.1 58).2.1 35 (by omega)) ?_
  by_cases hn : ∃ p1 p2 p3, cutL 62 s.data.toList = some p1 ∧ cutL 58 p1.2 = some p2 ∧ cutL 35 p2.2 = some p3
  rotate_left
  · exact Or.inl (tell_none s (fun p1 p2 p3 x1 x2 x3 => hn ⟨p1, p2, p3, x1, x2, x3⟩))
  · right
    obtain ⟨p1, p2, p3, e1, e2, e3⟩ := hn
    have a1 : cutS s 62 = (mkS p1.1, mkS p1.2, true) := by unfold cutS; rw [e1]
    have a2 : cutI s 62 = (mkS p1.1, mkS p1.2, true) := by unfold cutI; rw [e1]
    have a3 : cutS (mkS p1.2) 58 = (mkS p2.1, mkS p2.2, true) := by unfold cutS; rw [mkS_list, e2]
    have a4 : cutI (mkS p1.2) 58 = (mkS p2.1, mkS p2.2, true) := by unfold cutI; rw [mkS_list, e2]
    have a5 : cutS (mkS p2.2) 35 = (mkS p3.1, mkS p3.2, true) := by unfold cutS; rw [mkS_list, e3]
    have a6 : cutI (mkS p2.2) 35 = (mkS p3.1, mkS p3.2, true) := by unfold cutI; rw [mkS_list, e3]
    simp only [a1, a2, a3, a4, a5, a6, mkS_list, e1, e2, e3, and_self]
theorem rdOf_mem {α : Type} (d : α) (xs : List α) (m : Nat) (h : m < xs.length) : rdOf d xs (m : Int) ∈ xs := by
  unfold rdOf
  simp [List.getD_eq_getElem?_getD, List.getElem?_eq_getElem h]
theorem splitA_size (c : UInt8) (s : ByteArray) : ∀ p ∈ splitA c s, p.size ≤ s.size := by
  intro p hp
  unfold splitA at hp
  obtain ⟨l, hl, rfl⟩ := List.mem_map.1 hp
  rw [mkS_size, ← len_size]
  exact splitL_part c _ l hl
theorem splitA_length (c : UInt8) (s : ByteArray) : (splitA c s).length ≤ s.size + 1 := by
  unfold splitA
  rw [List.length_map, ← len_size]
  exact splitL_length c _
theorem txsOf_l (ps : List ByteArray) (hL : ps.length < 1000000000000) (B : Nat) (hB : B < 4294967281) (hp : ∀ p ∈ ps, p.size ≤ B) : ∀ (d k m : Nat) (out : List (S156)), m + d = ps.length → d + B + 42 < k → out.length + d < 4398046511104 →
    ∃ r, spec_TxsOf.l0 k out ps (m : Int) = some r ∧ impl_TxsOf.l0 k out ps (ps.length : Int) (m : Int) = some r ∧ r.1.length ≤ out.length + d := by
  intro d
  induction d with
  | zero =>
    intro k m out hd hk ho
    obtain ⟨k, rfl⟩ : ∃ q, k = q + 1 := ⟨k - 1, by omega⟩
    refine ⟨(out, true), ?_, ?_, Nat.le_refl _⟩
    · simp only [spec_TxsOf.l0]; rw [if_neg (by omega)]
    · simp only [impl_TxsOf.l0]; rw [if_neg (by omega)]
  | succ d ih =>
    intro k m out hd hk ho
    obtain ⟨k, rfl⟩ : ∃ q, k = q + 1 := ⟨k - 1, by omega⟩
    have hs := hp _ (rdOf_mem ByteArray.empty ps m (by omega))
    obtain ⟨⟨a, b, c, e, ok⟩, h1, h2⟩ := txOf_at (rdOf ByteArray.empty ps (m : Int)) (by omega) k (by omega)
    have hw : wrap64 ((m : Int) + 1) = ((m + 1 : Nat) : Int) := wn (n := ps.length) (by omega) (by omega)
    have e1 : spec_TxsOf.l0 (k + 1) out ps (m : Int) = if ok = true then spec_TxsOf.l0 k (out ++ [⟨a, b, c, e⟩]) ps ((m + 1 : Nat) : Int) else some ([], false) := by
      simp only [spec_TxsOf.l0]
      rw [if_pos (by omega), if_pos (by omega), h1, Option.bind_some, hw, if_pos (show out.length < 4398046511104 by omega)]
    have e2 : impl_TxsOf.l0 (k + 1) out ps (ps.length : Int) (m : Int) = if ok = true then impl_TxsOf.l0 k (out ++ [⟨a, b, c, e⟩]) ps (ps.length : Int) ((m + 1 : Nat) : Int) else some ([], false) := by
      simp only [impl_TxsOf.l0]
      rw [if_pos (show (m : Int) < (ps.length : Int) by omega), if_pos (by omega), if_pos (by omega), h2, Option.bind_some, hw, if_pos (show out.length < 4398046511104 by omega)]
    rw [e1, e2]
    by_cases h : ok = true
    · rw [if_pos h, if_pos h]
      obtain ⟨r, r1, r2, r3⟩ := ih k (m + 1) (out ++ [⟨a, b, c, e⟩]) (by omega) (by omega) (by simp; omega)
      exact ⟨r, r1, r2, by simp at r3; omega⟩
    · rw [if_neg h, if_neg h]
      exact ⟨([], false), rfl, rfl, by simp⟩
theorem txsOf_at (s : ByteArray) (hs : s.size < 100000000) (k : Nat) (hk : 2 * s.size + 50 < k) : ∃ r, spec_TxsOf.f k s = some r ∧ impl_TxsOf.f k s = some r ∧ r.1.length ≤ s.size + 1 := by
  unfold spec_TxsOf.f impl_TxsOf.f
  rw [Option.bind_some]
  by_cases h : s.toList = []
  · rw [if_pos h, if_pos h]; exact ⟨_, rfl, rfl, by simp⟩
  · have g1 := specSplit_at s 44 (by omega) k (by omega)
    have g2 := implSplit_at s 44 (by omega)
    rw [show ((44 : UInt8).toNat : Int) = 44 from rfl] at g1 g2
    have hl := splitA_length 44 s
    rw [if_neg h, if_neg h, g1, g2, Option.bind_some, Option.bind_some]
    obtain ⟨r, r1, r2, r3⟩ := txsOf_l (splitA 44 s) (by omega) s.size (by omega) (splitA_size 44 s) (splitA 44 s).length k 0 [] (by omega) (by omega) (by simp; omega)
    exact ⟨r, r1, r2, by simp at r3; omega⟩
theorem rdOf_drop (ps : List ByteArray) (m : Nat) : rdOf ByteArray.empty (ps.drop 1) (m : Int) = rdOf ByteArray.empty ps ((m + 1 : Nat) : Int) := by
  unfold rdOf
  simp [List.getD_eq_getElem?_getD, Nat.add_comm]
theorem cut_both (s : ByteArray) (c : UInt8) : ((cutS s c).2.2 = (cutI s c).2.2) ∧ ((cutS s c).2.2 = true → cutS s c = cutI s c) ∧ (cutS s c).1.size ≤ s.size ∧ (cutS s c).2.1.size ≤ s.size ∧ (cutI s c).1.size ≤ s.size ∧ (cutI s c).2.1.size ≤ s.size := by
  unfold cutS cutI
  cases h : cutL c s.data.toList with
  | none => exact ⟨rfl, (fun x => by cases x), Nat.zero_le _, Nat.zero_le _, Nat.le_refl _, Nat.zero_le _⟩
  | some p =>
    obtain ⟨e, _⟩ := cutL_some h
    have hl : s.size = p.1.length + 1 + p.2.length := by rw [← len_size, e]; simp; omega
    exact ⟨rfl, fun _ => rfl, by simp only [mkS_size]; omega, by simp only [mkS_size]; omega, by simp only [mkS_size]; omega, by simp only [mkS_size]; omega⟩
theorem steps_l (ps : List ByteArray) (hL : ps.length < 1000000000000) (B : Nat) (hB : B < 100000000) (hp : ∀ p ∈ ps, p.size ≤ B) : ∀ (d k m : Nat) (out : List (S163)) (last : Nat), m + 1 + d = ps.length → d + 2 * B + 60 < k → out.length + d < 4398046511104 → last < 1000000 → (∀ e ∈ out, (1 : Int) ≤ e.f0) →
    ∃ r, spec_Steps.l0 k [] out ps (last : Int) ((m + 1 : Nat) : Int) = some r ∧ impl_Steps.l0 k out (last : Int) (ps.drop 1) ((ps.drop 1).length : Int) (m : Int) = some r ∧ (r.2 = false → r.1 = []) ∧ r.1.length ≤ out.length + d ∧ (r.2 = true → r.1.length = out.length + d) ∧ ∀ e ∈ r.1, (1 : Int) ≤ e.f0 := by
  intro d
  induction d with
  | zero =>
    intro k m out last hd hk ho hlast ho1
    obtain ⟨k, rfl⟩ : ∃ q, k = q + 1 := ⟨k - 1, by omega⟩
    refine ⟨(out, true), ?_, ?_, (fun x => by cases x), Nat.le_refl _, fun _ => rfl, ho1⟩
    · simp only [spec_Steps.l0]; rw [if_neg (by omega)]
    · simp only [impl_Steps.l0]; rw [if_neg (by rw [List.length_drop]; omega)]
  | succ d ih =>
    intro k m out last hd hk ho hlast ho1
    obtain ⟨k, rfl⟩ : ∃ q, k = q + 1 := ⟨k - 1, by omega⟩
    have hs := hp _ (rdOf_mem ByteArray.empty ps (m + 1) (by omega))
    generalize hx : rdOf ByteArray.empty ps ((m + 1 : Nat) : Int) = x at hs
    obtain ⟨hok, hsame, z1, z2, z3, z4⟩ := cut_both x 124
    have g1 := specCut_at x 124 (by omega) k (by omega)
    have g2 := implCut_at x 124 (by omega)
    rw [show ((124 : UInt8).toNat : Int) = 124 from rfl] at g1
    obtain ⟨q1, m1, hq1, n1, n1'⟩ := num_of (cutS x 124).1 k (by omega)
    obtain ⟨q2, m2, hq2, n2, n2'⟩ := num_of (cutI x 124).1 k (by omega)
    obtain ⟨t1, v1, v1', w1⟩ := txsOf_at (cutS x 124).2.1 (by omega) k (by omega)
    obtain ⟨t2, v2, v2', w2⟩ := txsOf_at (cutI x 124).2.1 (by omega) k (by omega)
    have hlen : out.length < 4398046511104 := by omega
    obtain ⟨HW, HX, HY⟩ : Aside0 (wrap64 (((m + 1 : Nat) : Int) + 1) = ((m + 1 + 1 : Nat) : Int)) ∧ Aside0 (wrap64 ((m : Int) + 1) = ((m + 1 : Nat) : Int)) ∧ Aside0 (wrap64 ((last : Int) + 1) = (last : Int) + 1) := ⟨⟨wn (n := ps.length) (by omega) (by omega)⟩, ⟨wn (n := ps.length) (by omega) (by omega)⟩, ⟨by unfold wrap64; omega⟩⟩
    have hdl : (ps.drop 1).length = ps.length - 1 := by rw [List.length_drop]
    have e1 : spec_Steps.l0 (k + 1) [] out ps (last : Int) ((m + 1 : Nat) : Int) = if (cutS x 124).2.2 = true then (if m1 = true then (if t1.2 = true then (if (q1 : Int) ≤ (last : Int) then some ([], false) else (if (q1 : Int) > 60 then some ([], false) else (if (t1.1.length : Int) > 2 then some ([], false) else spec_Steps.l0 k [] (out ++ [⟨(q1 : Int), t1.1⟩]) ps (q1 : Int) ((m + 1 + 1 : Nat) : Int)))) else some ([], false)) else some ([], false)) else some ([], false) := by
      simp only [spec_Steps.l0]
      rw [if_pos (by omega), if_pos (by omega), hx, g1, Option.bind_some, n1, Option.bind_some, v1, Option.bind_some, HW.out, if_pos hlen]
    have e2 : impl_Steps.l0 (k + 1) out (last : Int) (ps.drop 1) ((ps.drop 1).length : Int) (m : Int) = if (cutI x 124).2.2 = true then (if m2 = true then (if t2.2 = true then (if (q2 : Int) ≥ (last : Int) + 1 ∧ (q2 : Int) ≤ 60 then (if (t2.1.length : Int) > 2 then some ([], false) else impl_Steps.l0 k (out ++ [⟨(q2 : Int), t2.1⟩]) (q2 : Int) (ps.drop 1) ((ps.drop 1).length : Int) ((m + 1 : Nat) : Int)) else some ([], false)) else some ([], false)) else some ([], false)) else some ([], false) := by
      simp only [impl_Steps.l0]
      rw [if_pos (by rw [hdl]; omega), if_pos (by omega), if_pos (by rw [hdl]; omega), rdOf_drop, hx, g2, Option.bind_some, n2', Option.bind_some, v2', Option.bind_some, HX.out, if_pos hlen, HY.out]
      unfold impl_within.f
      by_cases a1 : (q2 : Int) ≥ (last : Int) + 1
      · by_cases a2 : (q2 : Int) ≤ 60
        · rw [if_pos a1, Option.bind_some, if_pos (decide_eq_true a2), if_pos (show (q2 : Int) ≥ (last : Int) + 1 ∧ (q2 : Int) ≤ 60 from ⟨a1, a2⟩)]
        · rw [if_pos a1, Option.bind_some, if_neg (show ¬ (decide ((q2 : Int) ≤ 60) = true) by simpa using a2), if_neg (show ¬ ((q2 : Int) ≥ (last : Int) + 1 ∧ (q2 : Int) ≤ 60) from fun h => a2 h.2)]
      · rw [if_neg a1, Option.bind_some, if_neg (show ¬ (false = true) by decide), if_neg (show ¬ ((q2 : Int) ≥ (last : Int) + 1 ∧ (q2 : Int) ≤ 60) from fun h => a1 h.1)]
    rw [e1, e2, ← hok]
    have bad : ∃ r : List (S163) × Bool, some (([] : List (S163)), false) = some r ∧ some (([] : List (S163)), false) = some r ∧ (r.2 = false → r.1 = []) ∧ r.1.length ≤ out.length + (d + 1) ∧ (r.2 = true → r.1.length = out.length + (d + 1)) ∧ ∀ e ∈ r.1, (1 : Int) ≤ e.f0 := ⟨_, rfl, rfl, fun _ => rfl, by simp, (fun x => by cases x), by simp⟩
    by_cases c0 : (cutS x 124).2.2 = true
    · have es := hsame c0
      rw [← es] at n2' v2'
      obtain ⟨rfl, rfl⟩ : q1 = q2 ∧ m1 = m2 := by
        rw [n1'] at n2'
        simp only [Option.some.injEq, Prod.mk.injEq] at n2'
        exact ⟨by omega, n2'.2⟩
      obtain rfl : t1 = t2 := by
        rw [v1'] at v2'
        exact Option.some.inj v2'
      simp only [c0, if_true]
      by_cases c1 : m1 = true
      · simp only [c1, if_true]
        by_cases c2 : t1.2 = true
        · simp only [c2, if_true]
          by_cases c3 : (q1 : Int) ≤ (last : Int)
          · rw [if_pos c3, if_neg (by omega)]; exact bad
          · rw [if_neg c3]
            by_cases c4 : (q1 : Int) > 60
            · rw [if_pos c4, if_neg (by omega)]; exact bad
            · have c6 : (q1 : Int) ≥ (last : Int) + 1 ∧ (q1 : Int) ≤ 60 := ⟨by omega, by omega⟩
              rw [if_neg c4, if_pos c6]
              by_cases c5 : (t1.1.length : Int) > 2
              · rw [if_pos c5, if_pos c5]; exact bad
              · rw [if_neg c5, if_neg c5]
                have ho2 : ∀ e ∈ out ++ [(⟨(q1 : Int), t1.1⟩ : S163)], (1 : Int) ≤ e.f0 := by
                  intro e he
                  rcases List.mem_append.1 he with h | h
                  · exact ho1 e h
                  · rw [List.mem_singleton.1 h]
                    show (1 : Int) ≤ (q1 : Int)
                    omega
                obtain ⟨r, r1, r2, r3, r4, r5, r6⟩ := ih k (m + 1) (out ++ [⟨(q1 : Int), t1.1⟩]) q1 (by omega) (by omega) (by simp; omega) hq1 ho2
                exact ⟨r, r1, r2, r3, by simp at r4; omega, (fun h => by have := r5 h; simp at this; omega), r6⟩
        · simp only [c2, if_false]; exact bad
      · simp only [c1, if_false]; exact bad
    · simp only [c0, if_false]; exact bad
theorem steps_at (s : ByteArray) (hs : s.size < 100000000) (k : Nat) (hk : 3 * s.size + 80 < k) :
    ∃ r, spec_Steps.f k s = some r ∧ impl_Steps.f k s = some r ∧ (r.2 = false → r.1 = []) ∧ r.1.length ≤ s.size + 1 ∧ (r.2 = true → s.data.toList = [] ∨ ∃ l, s.data.toList = 47 :: l) ∧ (s.data.toList = [] → r = ([], true)) ∧ (r.2 = true → s.data.toList ≠ [] → 0 < r.1.length) ∧ ∀ e ∈ r.1, (1 : Int) ≤ e.f0 := by
  unfold spec_Steps.f impl_Steps.f
  rw [Option.bind_some, Option.bind_some, Lib.toList_data]
  by_cases h : s.data.toList = []
  · rw [if_pos h, if_pos h]; exact ⟨_, rfl, rfl, (fun x => by cases x), by simp, fun _ => Or.inl h, fun _ => rfl, fun _ x => absurd h x, by simp⟩
  · have g1 := specSplit_at s 47 (by omega) k (by omega)
    have g2 := implSplit_at s 47 (by omega)
    rw [show ((47 : UInt8).toNat : Int) = 47 from rfl] at g1 g2
    have hl := splitA_length 47 s
    have hp : 0 < (splitA 47 s).length := by
      obtain ⟨x, t, e⟩ := splitL_ne 47 s.data.toList
      unfold splitA; rw [e]; simp
    have hpi : 0 < ((splitA 47 s).length : Int) := by omega
    rw [if_neg h, if_neg h, g1, g2, Option.bind_some, Option.bind_some, if_pos hpi, if_pos hpi]
    obtain ⟨k, rfl⟩ : ∃ q, k = q + 1 := ⟨k - 1, by omega⟩
    have bad1 : ∀ t, spec_Steps.j0 (k + 1) [] [] t true = some ([], false) := fun t => by simp [spec_Steps.j0]
    have bad2 : ∀ t, impl_Steps.j0 (k + 1) t true = some ([], false) := fun t => by simp [impl_Steps.j0]
    by_cases h0 : (rdOf ByteArray.empty (splitA 47 s) 0).toList = []
    · have h47 : ∃ l, s.data.toList = 47 :: l := by
        unfold splitA rdOf at h0
        rw [splitL_cut] at h0
        cases hc : cutL 47 s.data.toList with
        | none => rw [hc] at h0; simp [mkS_toList] at h0; exact absurd h0 (by simpa using h)
        | some p =>
          rw [hc] at h0
          obtain ⟨e, _⟩ := cutL_some hc
          simp [mkS_toList] at h0
          rw [h0] at e
          exact ⟨p.2, by simpa using e⟩
      have h2 : 2 ≤ (splitA 47 s).length := by
        unfold splitA rdOf at h0
        unfold splitA
        rw [splitL_cut] at h0 ⊢
        cases hc : cutL 47 s.data.toList with
        | none => rw [hc] at h0; simp [mkS_toList] at h0; exact absurd h0 (by simpa using h)
        | some p =>
          obtain ⟨x, t, e⟩ := splitL_ne 47 p.2
          simp [e]
      rw [if_pos h0, if_pos h0]
      have hw : wrap64 (((splitA 47 s).length : Int) - 1) = ((splitA 47 s).length : Int) - 1 := by unfold wrap64; omega
      by_cases h31 : ((splitA 47 s).length : Int) > 31
      · rw [decide_eq_true h31, hw, decide_eq_true (show ((splitA 47 s).length : Int) - 1 > 30 by omega), bad1, bad2]
        exact ⟨_, rfl, rfl, fun _ => rfl, by simp, (fun x => by cases x), (fun x => absurd x h), (fun x => by cases x), by simp⟩
      · rw [decide_eq_false h31, hw, decide_eq_false (show ¬ ((splitA 47 s).length : Int) - 1 > 30 by omega)]
        obtain ⟨r, r1, r2, r3, r4, r5, r6⟩ := steps_l (splitA 47 s) (by omega) s.size hs (splitA_size 47 s) ((splitA 47 s).length - 1) k 0 [] 0 (by omega) (by omega) (by simp; omega) (by omega) (by simp)
        refine ⟨r, ?_, ?_, r3, by simp at r4; omega, (fun _ => Or.inr h47), (fun x => absurd x h), (fun x _ => by have := r5 x; simp at this; omega), r6⟩
        · simp only [spec_Steps.j0]
          rw [if_neg (by simp)]
          exact r1
        · simp only [impl_Steps.j0]
          rw [if_neg (by simp), if_pos (by omega), Option.bind_some]
          exact r2
    · rw [if_neg h0, if_neg h0, bad1, bad2]
      exact ⟨_, rfl, rfl, fun _ => rfl, by simp, (fun x => by cases x), (fun x => absurd x h), (fun x => by cases x), by simp⟩
theorem rdStep_mem (xs : List S163) (i : Int) (h0 : 0 ≤ i) (h : i < (xs.length : Int)) : rd_T163 xs i ∈ xs := by
  have h1 : i.toNat < xs.length := by omega
  unfold rd_T163
  simp [List.getD_eq_getElem?_getD, List.getElem?_eq_getElem h1]
/-- The view of a name, and whether it is one: both sides alike. -/
theorem viewOf_at (s : ByteArray) (hs : s.size < 100000000) (k : Nat) (hk : 3 * s.size + 80 < k) :
    ∃ v b, spec_ViewOf.f k s = some v ∧ impl_ViewOf.f k s = some v ∧ spec_NameOk.f k s = some b ∧ impl_NameOk.f k s = some b ∧ (b = true → s.data.toList ≠ [] → 1 ≤ v) ∧ (s.data.toList = [] → v = 0 ∧ b = true) := by
  obtain ⟨r, r1, r2, r3, r4, _, r5, r6, r7⟩ := steps_at s hs k hk
  unfold spec_ViewOf.f impl_ViewOf.f spec_NameOk.f impl_NameOk.f
  simp only [r1, r2, Option.bind_some]
  by_cases h : r.1 = []
  · refine ⟨0, r.2, ?_, ?_, rfl, rfl, ?_, ?_⟩
    · rw [h]; simp
    · rw [h]; simp
    · intro hb hne
      have := r6 hb hne
      rw [h] at this; simp at this
    · intro he
      rw [r5 he]; exact ⟨rfl, rfl⟩
  · have hp : 0 < r.1.length := List.length_pos_iff.2 h
    have hb : r.2 = true := by
      cases hb : r.2
      · exact absurd (r3 hb) h
      · rfl
    have w1 : wrap64 ((r.1.length : Int) - 1) = (r.1.length : Int) - 1 := by unfold wrap64; omega
    have c0 : ¬ (r.1.length : Int) = 0 := by omega
    have c1 : (0 : Int) ≤ (r.1.length : Int) - 1 := by omega
    have c2 : (r.1.length : Int) - 1 < (r.1.length : Int) := by omega
    refine ⟨(rd_T163 r.1 ((r.1.length : Int) - 1)).f0, r.2, ?_, ?_, rfl, rfl, ?_, ?_⟩
    · simp only [w1, hb, if_true, if_neg c0, if_pos c1, if_pos c2]
    · simp only [w1, if_neg c0, if_pos c1, if_pos c2]
    · intro _ _
      exact r7 _ (rdStep_mem _ _ c1 c2)
    · intro he
      exact absurd (congrArg Prod.fst (r5 he)) h
theorem mono_le {α : Type} {f : Nat → Option α} (h : ∀ k, LeO (f k) (f (k + 1))) {a : Nat} {x : α} (hx : f a = some x) : ∀ {b : Nat}, a ≤ b → f b = some x := by
  intro b
  induction b with
  | zero => intro hab; obtain rfl : a = 0 := by omega
            exact hx
  | succ b ih =>
    intro hab
    by_cases e : a = b + 1
    · subst e; exact hx
    · exact h b x (ih (by omega))
theorem num_ex (s : ByteArray) : ∃ r : Int × Bool, ∀ k, 40 < k → spec_Number.f k s = some r := by
  obtain ⟨r, h, _⟩ := number_at s 41 (by omega)
  exact ⟨r, fun k hk => mono_le (fun k => spec_Number.mono s k) h (by omega)⟩
noncomputable def numV (s : ByteArray) : Int × Bool := Classical.choose (num_ex s)
theorem numV_at (s : ByteArray) (k : Nat) (hk : 40 < k) : spec_Number.f k s = some (numV s) := Classical.choose_spec (num_ex s) k hk
theorem txs_ex (s : ByteArray) (hs : s.size < 100000000) : ∃ r, ∀ k, 2 * s.size + 50 < k → spec_TxsOf.f k s = some r := by
  obtain ⟨r, h, _⟩ := txsOf_at s hs (2 * s.size + 51) (by omega)
  exact ⟨r, fun k hk => mono_le (fun k => spec_TxsOf.mono s k) h (by omega)⟩
noncomputable def txsV (s : ByteArray) : List S156 × Bool := if h : s.size < 100000000 then Classical.choose (txs_ex s h) else ([], false)
theorem txsV_at (s : ByteArray) (hs : s.size < 100000000) (k : Nat) (hk : 2 * s.size + 50 < k) : spec_TxsOf.f k s = some (txsV s) := by
  unfold txsV
  rw [dif_pos hs]
  exact Classical.choose_spec (txs_ex s hs) k hk
theorem steps_ex (s : ByteArray) (hs : s.size < 100000000) : ∃ r, ∀ k, 3 * s.size + 80 < k → spec_Steps.f k s = some r ∧ impl_Steps.f k s = some r := by
  obtain ⟨r, h, h', _⟩ := steps_at s hs (3 * s.size + 81) (by omega)
  exact ⟨r, fun k hk => ⟨mono_le (fun k => spec_Steps.mono s k) h (by omega), mono_le (fun k => impl_Steps.mono s k) h' (by omega)⟩⟩
/-- The steps of a name, and whether it is one. -/
noncomputable def stepsV (s : ByteArray) : List S163 × Bool := if h : s.size < 100000000 then Classical.choose (steps_ex s h) else ([], false)
theorem stepsV_at (s : ByteArray) (hs : s.size < 100000000) (k : Nat) (hk : 3 * s.size + 80 < k) : spec_Steps.f k s = some (stepsV s) ∧ impl_Steps.f k s = some (stepsV s) := by
  unfold stepsV
  rw [dif_pos hs]
  exact Classical.choose_spec (steps_ex s hs) k hk
/-- One part of a name behind a view. -/
noncomputable def stepQ (q : ByteArray) (last : Int) : Option S163 :=
  if (cutS q 124).2.2 = true ∧ (numV (cutS q 124).1).2 = true ∧ (txsV (cutS q 124).2.1).2 = true ∧ last < (numV (cutS q 124).1).1 ∧ (numV (cutS q 124).1).1 ≤ 60 ∧ ((txsV (cutS q 124).2.1).1.length : Int) ≤ 2 then some ⟨(numV (cutS q 124).1).1, (txsV (cutS q 124).2.1).1⟩ else none
noncomputable def walkP : List ByteArray → List S163 → Int → List S163 × Bool
  | [], out, _ => (out, true)
  | p :: ps, out, last => match stepQ p last with
    | some x => walkP ps (out ++ [x]) x.f0
    | none => ([], false)
theorem walk_l (ps : List ByteArray) (hL : ps.length < 1000000000000) (B : Nat) (hB : B < 100000000) (hp : ∀ p ∈ ps, p.size ≤ B) : ∀ (d k m : Nat) (out : List (S163)) (last : Int), m + 1 + d = ps.length → d + 2 * B + 60 < k → out.length + d < 4398046511104 →
    spec_Steps.l0 k [] out ps last ((m + 1 : Nat) : Int) = some (walkP (ps.drop (m + 1)) out last) := by
  intro d
  induction d with
  | zero =>
    intro k m out last hd hk ho
    obtain ⟨k, rfl⟩ : ∃ q, k = q + 1 := ⟨k - 1, by omega⟩
    simp only [spec_Steps.l0]
    rw [if_neg (by omega), List.drop_of_length_le (by omega)]
    rfl
  | succ d ih =>
    intro k m out last hd hk ho
    obtain ⟨k, rfl⟩ : ∃ q, k = q + 1 := ⟨k - 1, by omega⟩
    have hs := hp _ (rdOf_mem ByteArray.empty ps (m + 1) (by omega))
    have hdr : ps.drop (m + 1) = rdOf ByteArray.empty ps ((m + 1 : Nat) : Int) :: ps.drop (m + 1 + 1) := by
      rw [List.drop_eq_getElem_cons (show m + 1 < ps.length by omega)]
      simp [rdOf, List.getD_eq_getElem?_getD, List.getElem?_eq_getElem (show m + 1 < ps.length by omega)]
    generalize hx : rdOf ByteArray.empty ps ((m + 1 : Nat) : Int) = x at hs hdr
    obtain ⟨_, _, z1, z2, _, _⟩ := cut_both x 124
    have g1 := specCut_at x 124 (by omega) k (by omega)
    rw [show ((124 : UInt8).toNat : Int) = 124 from rfl] at g1
    have n1 := numV_at (cutS x 124).1 k (by omega)
    have v1 := txsV_at (cutS x 124).2.1 (by omega) k (by omega)
    have hlen : out.length < 4398046511104 := by omega
    obtain ⟨HW⟩ : Aside0 (wrap64 (((m + 1 : Nat) : Int) + 1) = ((m + 1 + 1 : Nat) : Int)) := ⟨wn (n := ps.length) (by omega) (by omega)⟩
    have HW' := Aside0.mk HW
    clear HW
    have e1 : spec_Steps.l0 (k + 1) [] out ps last ((m + 1 : Nat) : Int) = if (cutS x 124).2.2 = true then (if (numV (cutS x 124).1).2 = true then (if (txsV (cutS x 124).2.1).2 = true then (if (numV (cutS x 124).1).1 ≤ last then some ([], false) else (if (numV (cutS x 124).1).1 > 60 then some ([], false) else (if ((txsV (cutS x 124).2.1).1.length : Int) > 2 then some ([], false) else spec_Steps.l0 k [] (out ++ [⟨(numV (cutS x 124).1).1, (txsV (cutS x 124).2.1).1⟩]) ps (numV (cutS x 124).1).1 ((m + 1 + 1 : Nat) : Int)))) else some ([], false)) else some ([], false)) else some ([], false) := by
      simp only [spec_Steps.l0]
      rw [if_pos (by omega), if_pos (by omega), hx, g1, Option.bind_some, n1, Option.bind_some, v1, Option.bind_some, HW'.out, if_pos hlen]
    rw [e1, hdr]
    unfold walkP stepQ
    by_cases c0 : (cutS x 124).2.2 = true
    · by_cases c1 : (numV (cutS x 124).1).2 = true
      · by_cases c2 : (txsV (cutS x 124).2.1).2 = true
        · by_cases c3 : (numV (cutS x 124).1).1 ≤ last
          · rw [if_pos c0, if_pos c1, if_pos c2, if_pos c3, if_neg (fun h => by have := h.2.2.2.1; omega)]
          · by_cases c4 : (numV (cutS x 124).1).1 > 60
            · rw [if_pos c0, if_pos c1, if_pos c2, if_neg c3, if_pos c4, if_neg (fun h => by have := h.2.2.2.2.1; omega)]
            · by_cases c5 : ((txsV (cutS x 124).2.1).1.length : Int) > 2
              · rw [if_pos c0, if_pos c1, if_pos c2, if_neg c3, if_neg c4, if_pos c5, if_neg (fun h => by have := h.2.2.2.2.2; omega)]
              · rw [if_pos c0, if_pos c1, if_pos c2, if_neg c3, if_neg c4, if_neg c5, if_pos ⟨c0, c1, c2, by omega, by omega, by omega⟩]
                exact ih k (m + 1) _ _ (by omega) (by omega) (by simp; omega)
        · rw [if_pos c0, if_pos c1, if_neg c2, if_neg (fun h => c2 h.2.2.1)]
      · rw [if_pos c0, if_neg c1, if_neg (fun h => c1 h.2.1)]
    · rw [if_neg c0, if_neg (fun h => c0 h.1)]
/-- What the steps of a name are. -/
theorem stepsV_eq (s : ByteArray) (hs : s.size < 100000000) : stepsV s = if s.data.toList = [] then ([], true) else if (rdOf ByteArray.empty (splitA 47 s) 0).data.toList = [] ∧ (splitA 47 s).length ≤ 31 then walkP ((splitA 47 s).drop 1) [] 0 else ([], false) := by
  have h := (stepsV_at s hs (3 * s.size + 100) (by omega)).1
  generalize hk : 3 * s.size + 100 = k at h
  unfold spec_Steps.f at h
  rw [Option.bind_some, Option.bind_some, Lib.toList_data] at h
  by_cases h1 : s.data.toList = []
  · rw [if_pos h1] at h ⊢
    exact (Option.some.inj h).symm
  · have g1 := specSplit_at s 47 (by omega) k (by omega)
    rw [show ((47 : UInt8).toNat : Int) = 47 from rfl] at g1
    have hl := splitA_length 47 s
    have hp : 0 < (splitA 47 s).length := by
      obtain ⟨x, t, e⟩ := splitL_ne 47 s.data.toList
      unfold splitA; rw [e]; simp
    have hpi : 0 < ((splitA 47 s).length : Int) := by omega
    obtain ⟨k, rfl⟩ : ∃ q, k = q + 1 := ⟨k - 1, by omega⟩
    have bad1 : ∀ t, spec_Steps.j0 (k + 1) [] [] t true = some ([], false) := fun t => by simp [spec_Steps.j0]
    rw [if_neg h1, g1, Option.bind_some, if_pos hpi, Lib.toList_data] at h
    rw [if_neg h1]
    by_cases h0 : (rdOf ByteArray.empty (splitA 47 s) 0).data.toList = []
    · rw [if_pos h0] at h
      by_cases h31 : ((splitA 47 s).length : Int) > 31
      · rw [decide_eq_true h31, bad1] at h
        rw [if_neg (fun x => by have := x.2; omega)]
        exact (Option.some.inj h).symm
      · rw [decide_eq_false h31] at h
        simp only [spec_Steps.j0] at h
        rw [if_neg (by simp)] at h
        have hw := walk_l (splitA 47 s) (by omega) s.size hs (splitA_size 47 s) ((splitA 47 s).length - 1) k 0 [] 0 (by omega) (by omega) (by simp; omega)
        rw [if_pos ⟨h0, by omega⟩]
        have e : spec_Steps.l0 k [] [] (splitA 47 s) 0 1 = some (walkP ((splitA 47 s).drop 1) [] 0) := hw
        rw [e] at h
        exact (Option.some.inj h).symm
    · rw [if_neg h0, bad1] at h
      rw [if_neg (fun x => h0 x.1)]
      exact (Option.some.inj h).symm
theorem splitL_app (c : UInt8) : ∀ (a b : List UInt8), splitL c (a ++ c :: b) = splitL c a ++ splitL c b
  | [], b => by rw [List.nil_append, splitL_eq]; rfl
  | x :: a, b => by
    have ih := splitL_app c a b
    rw [List.cons_append]
    by_cases h : x = c
    · subst h
      rw [splitL_eq, splitL_eq, ih]; rfl
    · rw [splitL_cons h, splitL_cons h, ih]
      obtain ⟨y, t, e⟩ := splitL_ne c a
      rw [e]; rfl
theorem cutL_out {c : UInt8} : ∀ {q : List UInt8}, c ∉ q → cutL c q = none
  | [], _ => rfl
  | x :: q, h => by
    have hx : ¬ x = c := fun e => h (by simp [e])
    unfold cutL
    rw [if_neg hx, cutL_out (fun hm => h (List.mem_cons_of_mem _ hm))]
    rfl
theorem splitL_one {c : UInt8} {q : List UInt8} (h : c ∉ q) : splitL c q = [q] := by
  rw [splitL_cut, cutL_out h]
def lastV (l : List S163) : Int := match l.getLast? with
  | some x => x.f0
  | none => 0
theorem lastV_snoc (l : List S163) (x : S163) : lastV (l ++ [x]) = x.f0 := by
  unfold lastV
  simp
/-- A part more at the end. -/
theorem walkP_snoc (q : ByteArray) : ∀ (t : List ByteArray) (out : List S163) (last : Int), last = lastV out →
    walkP (t ++ [q]) out last = if (walkP t out last).2 = true then (match stepQ q (lastV (walkP t out last).1) with | some x => ((walkP t out last).1 ++ [x], true) | none => ([], false)) else ([], false)
  | [], out, last, hl => by
    simp only [List.nil_append, walkP, if_true]
    rw [hl]
  | p :: t, out, last, hl => by
    rw [List.cons_append]
    unfold walkP
    cases h : stepQ p last with
    | none => simp
    | some x =>
      simp only
      exact walkP_snoc q t (out ++ [x]) x.f0 (lastV_snoc out x).symm
theorem walkP_len : ∀ (t : List ByteArray) (out : List S163) (last : Int), (walkP t out last).2 = true → (walkP t out last).1.length = out.length + t.length
  | [], out, last, _ => rfl
  | p :: t, out, last, h => by
    unfold walkP at h ⊢
    cases hs : stepQ p last with
    | none => rw [hs] at h; simp at h
    | some x =>
      rw [hs] at h
      simp only at h ⊢
      rw [walkP_len t _ _ h, List.length_append, List.length_cons, List.length_cons, List.length_nil]
      omega
/-- A name with a part more. -/
theorem steps_join (s up q : ByteArray) (hs : s.size < 100000000) (hq : (47 : UInt8) ∉ q.data.toList) (e : s.data.toList = up.data.toList ++ 47 :: q.data.toList) :
    stepsV s = if (stepsV up).2 = true ∧ (stepsV up).1.length < 30 then (match stepQ q (lastV (stepsV up).1) with | some x => ((stepsV up).1 ++ [x], true) | none => ([], false)) else ([], false) := by
  have hz : s.size = up.size + 1 + q.size := by rw [← len_size, e, ← len_size, ← len_size]; simp; omega
  have hne : ¬ s.data.toList = [] := by rw [e]; simp
  have hp : splitA 47 s = splitA 47 up ++ [q] := by
    unfold splitA
    rw [e, splitL_app, splitL_one hq, List.map_append]
    simp [mkS_of]
  obtain ⟨y, t, ey⟩ := splitL_ne 47 up.data.toList
  have eu : splitA 47 up = mkS y :: t.map mkS := by unfold splitA; rw [ey]; rfl
  rw [stepsV_eq s hs, if_neg hne, hp, eu, stepsV_eq up (by omega), eu]
  have r1 : rdOf ByteArray.empty (mkS y :: t.map mkS ++ [q]) 0 = mkS y := by simp [rdOf]
  have r2 : rdOf ByteArray.empty (mkS y :: t.map mkS) 0 = mkS y := by simp [rdOf]
  have d1 : (mkS y :: t.map mkS ++ [q]).drop 1 = t.map mkS ++ [q] := rfl
  have d2 : (mkS y :: t.map mkS).drop 1 = t.map mkS := rfl
  have n1 : (mkS y :: t.map mkS ++ [q]).length = t.length + 2 := by simp
  have n2 : (mkS y :: t.map mkS).length = t.length + 1 := by simp
  rw [r1, r2, d1, d2, n1, n2, mkS_list, walkP_snoc q _ [] 0 rfl]
  by_cases hup : up.data.toList = []
  · have e1 : y = [] ∧ t = [] := by rw [hup] at ey; simpa [splitL, eq_comm] using ey
    obtain ⟨rfl, rfl⟩ := e1
    rw [if_pos hup]
    simp [walkP]
  · rw [if_neg hup]
    by_cases hy : y = []
    · subst hy
      by_cases h31 : t.length + 1 ≤ 31
      · rw [if_pos (show ([] : List UInt8) = [] ∧ t.length + 1 ≤ 31 from ⟨rfl, h31⟩)]
        have hlen := walkP_len (t.map mkS) [] 0
        rw [List.length_map, List.length_nil, Nat.zero_add] at hlen
        generalize walkP (t.map mkS) [] 0 = W at hlen
        by_cases hok : W.2 = true
        · have hl := hlen hok
          by_cases h30 : t.length + 2 ≤ 31
          · rw [if_pos (show ([] : List UInt8) = [] ∧ t.length + 2 ≤ 31 from ⟨rfl, h30⟩), if_pos hok, if_pos (show W.2 = true ∧ W.1.length < 30 from ⟨hok, by omega⟩)]
          · rw [if_neg (show ¬ (([] : List UInt8) = [] ∧ t.length + 2 ≤ 31) from fun x => h30 x.2), if_neg (show ¬ (W.2 = true ∧ W.1.length < 30) from fun x => by have := x.2; omega)]
        · rw [if_neg (show ¬ (W.2 = true ∧ W.1.length < 30) from fun x => hok x.1), if_neg hok]
          split <;> rfl
      · rw [if_neg (show ¬ (([] : List UInt8) = [] ∧ t.length + 2 ≤ 31) from fun x => by have := x.2; omega), if_neg (show ¬ (([] : List UInt8) = [] ∧ t.length + 1 ≤ 31) from fun x => h31 x.2)]
        simp
    · rw [if_neg (show ¬ (y = [] ∧ t.length + 2 ≤ 31) from fun x => hy x.1), if_neg (show ¬ (y = [] ∧ t.length + 1 ≤ 31) from fun x => hy x.1)]
      simp
theorem viewV_at (s : ByteArray) (hs : s.size < 100000000) (k : Nat) (hk : 3 * s.size + 80 < k) : spec_ViewOf.f k s = some (lastV (stepsV s).1) ∧ impl_ViewOf.f k s = some (lastV (stepsV s).1) ∧ spec_NameOk.f k s = some (stepsV s).2 ∧ impl_NameOk.f k s = some (stepsV s).2 := by
  obtain ⟨r, r1, r2, r3, r4, _⟩ := steps_at s hs k hk
  obtain ⟨h1, h2⟩ := stepsV_at s hs k hk
  obtain rfl : stepsV s = r := Option.some.inj (h1.symm.trans r1)
  unfold spec_ViewOf.f impl_ViewOf.f spec_NameOk.f impl_NameOk.f
  simp only [h1, h2, Option.bind_some]
  generalize stepsV s = r at r3 r4
  by_cases h : r.1 = []
  · rw [h]
    refine ⟨?_, ?_, trivial, trivial⟩
    · simp [lastV]
    · simp [lastV]
  · have hp : 0 < r.1.length := List.length_pos_iff.2 h
    have hb : r.2 = true := by
      cases hb : r.2
      · exact absurd (r3 hb) h
      · rfl
    have w1 : wrap64 ((r.1.length : Int) - 1) = (r.1.length : Int) - 1 := by unfold wrap64; omega
    have c0 : ¬ (r.1.length : Int) = 0 := by omega
    have c1 : (0 : Int) ≤ (r.1.length : Int) - 1 := by omega
    have c2 : (r.1.length : Int) - 1 < (r.1.length : Int) := by omega
    have e : (rd_T163 r.1 ((r.1.length : Int) - 1)).f0 = lastV r.1 := by
      unfold rd_T163 lastV
      rw [List.getLast?_eq_getElem?, show ((r.1.length : Int) - 1).toNat = r.1.length - 1 by omega, List.getD_eq_getElem?_getD, List.getElem?_eq_getElem (by omega)]
      rfl
    refine ⟨?_, ?_, trivial, trivial⟩
    · simp only [w1, hb, if_true, if_neg c0, if_pos c1, if_pos c2, e]
    · simp only [w1, if_neg c0, if_pos c1, if_pos c2, e]
theorem setOk_l (n : Int) (l : List Int) (hn : l.length ≤ 9223372036854775807) : ∀ (d m : Nat), m + d = l.length →
    ∃ b, ∀ k, d < k → spec_SetOk.l0 k n l (m : Int) = some b ∧ impl_SetOk.l0 k n l l (l.length : Int) (m : Int) = some b := by
  intro d
  induction d with
  | zero =>
    intro m hd
    have hA : ¬ (m : Int) < (l.length : Int) := by omega
    refine ⟨true, fun k hk => ?_⟩
    obtain ⟨k, rfl⟩ : ∃ q, k = q + 1 := ⟨k - 1, by omega⟩
    exact ⟨by simp only [spec_SetOk.l0, if_neg hA], by simp only [impl_SetOk.l0, if_neg hA]⟩
  | succ d ih =>
    intro m hd
    have hA : (m : Int) < (l.length : Int) := by omega
    have hB : (0 : Int) ≤ (m : Int) := by omega
    have hw1 : wrap64 ((m : Int) - 1) = (m : Int) - 1 := by unfold wrap64; omega
    have hw2 : wrap64 ((m : Int) + 1) = ((m + 1 : Nat) : Int) := wn (n := l.length) (by omega) hn
    obtain ⟨b, hb⟩ := ih (m + 1) (by omega)
    have go : ∀ c : Bool, (∀ k, d < k → (spec_SetOk.l0 (k + 1) n l (m : Int) = some c ∧ impl_SetOk.l0 (k + 1) n l l (l.length : Int) (m : Int) = some c)) → ∃ b, ∀ k, d + 1 < k → spec_SetOk.l0 k n l (m : Int) = some b ∧ impl_SetOk.l0 k n l l (l.length : Int) (m : Int) = some b := by
      intro c h
      refine ⟨c, fun k hk => ?_⟩
      obtain ⟨k, rfl⟩ : ∃ q, k = q + 1 := ⟨k - 1, by omega⟩
      exact h k (by omega)
    by_cases a1 : rd l (m : Int) < 0
    · exact go false fun k hk => ⟨by simp only [spec_SetOk.l0, if_pos hA, if_pos hB, if_pos a1], by simp only [impl_SetOk.l0, if_pos hA, if_pos hB, if_pos a1]⟩
    · by_cases a2 : rd l (m : Int) ≥ n
      · exact go false fun k hk => ⟨by simp only [spec_SetOk.l0, if_pos hA, if_pos hB, if_neg a1, if_pos a2], by simp only [impl_SetOk.l0, if_pos hA, if_pos hB, if_neg a1, if_pos a2]⟩
      · by_cases a3 : (m : Int) > 0
        · have hC : (0 : Int) ≤ (m : Int) - 1 := by omega
          have hD : (m : Int) - 1 < (l.length : Int) := by omega
          by_cases a4 : rd l ((m : Int) - 1) ≥ rd l (m : Int)
          · exact go false fun k hk => ⟨by simp only [spec_SetOk.l0, hw1, if_pos hA, if_pos hB, if_neg a1, if_neg a2, if_pos a3, if_pos hC, if_pos hD, if_pos a4], by simp only [impl_SetOk.l0, hw1, if_pos hA, if_pos hB, if_neg a1, if_neg a2, if_pos a3, if_pos hC, if_pos hD, if_pos a4]⟩
          · exact go b fun k hk => ⟨by simp only [spec_SetOk.l0, hw1, hw2, if_pos hA, if_pos hB, if_neg a1, if_neg a2, if_pos a3, if_pos hC, if_pos hD, if_neg a4]; exact (hb k hk).1, by simp only [impl_SetOk.l0, hw1, hw2, if_pos hA, if_pos hB, if_neg a1, if_neg a2, if_pos a3, if_pos hC, if_pos hD, if_neg a4]; exact (hb k hk).2⟩
        · exact go b fun k hk => ⟨by simp only [spec_SetOk.l0, hw2, if_pos hA, if_pos hB, if_neg a1, if_neg a2, if_neg a3]; exact (hb k hk).1, by simp only [impl_SetOk.l0, hw2, if_pos hA, if_pos hB, if_neg a1, if_neg a2, if_neg a3]; exact (hb k hk).2⟩
theorem setOk_at (n : Int) (l : List Int) (hn : l.length ≤ 9223372036854775807) : ∃ b, ∀ k, l.length < k → spec_SetOk.f k n l = some b ∧ impl_SetOk.f k n l = some b :=
  setOk_l n l hn l.length 0 (by omega)
theorem wf64 {n : Int} (h : (Lit.int .i64 n).wf = true) : -9223372036854775808 ≤ n ∧ n ≤ 9223372036854775807 := by
  simp [Lit.wf, IntKind.min, IntKind.max, IntKind.bits, IntKind.signed] at h
  omega
def confB (a b : Int) : Bool := decide (4 ≤ a ∧ a ≤ 7 ∧ 1 ≤ b ∧ b ≤ 6)
theorem implConf_at (a b : Int) : impl_ConfOk.f a b = some (confB a b) := by
  unfold impl_ConfOk.f impl_within.f confB
  by_cases h : a ≥ 4 <;> by_cases h2 : a ≤ 7 <;> by_cases h3 : b ≥ 1 <;> simp [h, h2, h3] <;> omega
theorem specConf_at (a b : Int) : spec_ConfOk.f a b = some (confB a b) := implConf_at a b
/-- At which place of the order of a view a replica is; -1 where there is none. -/
def seatZ (a b v i : Int) : Int := if confB a b = true ∧ 0 ≤ v ∧ 0 ≤ i ∧ i < a then (i + a - v % a) % a else -1
/-- Who sits at a place. -/
def sitsZ (a b v s : Int) : Int := if confB a b = true ∧ 0 ≤ v ∧ 0 ≤ s ∧ s < a then (v % a + s) % a else -1
theorem confB_iff {a b : Int} (h : confB a b = true) : (a = 4 ∨ a = 5 ∨ a = 6 ∨ a = 7) ∧ 1 ≤ b ∧ b ≤ 6 := by
  unfold confB at h
  have := of_decide_eq_true h
  omega
theorem slEqual_l (xs ys : List Int) (hl : ys.length = xs.length) (hn : xs.length ≤ 9223372036854775807) : ∀ (d k m : Nat), m + d = xs.length → d < k →
    slices_Equal_int_int.l0 k xs ys (xs.length : Int) (m : Int) = some (decide (xs.drop m = ys.drop m)) := by
  intro d
  induction d with
  | zero =>
    intro k m hd hk
    obtain ⟨k, rfl⟩ : ∃ q, k = q + 1 := ⟨k - 1, by omega⟩
    simp only [slices_Equal_int_int.l0]
    rw [if_neg (by omega), List.drop_of_length_le (by omega), List.drop_of_length_le (by omega)]
    simp
  | succ d ih =>
    intro k m hd hk
    obtain ⟨k, rfl⟩ : ∃ q, k = q + 1 := ⟨k - 1, by omega⟩
    simp only [slices_Equal_int_int.l0]
    rw [if_pos (by omega), if_pos (by omega), if_pos (by omega), if_pos (by omega), wn (n := xs.length) (by omega) hn, ih k (m + 1) (by omega) (by omega), drop_at xs m (by omega), drop_at ys m (by omega)]
    by_cases h : rd xs m = rd ys m <;> simp [h]
theorem slEqual_at (xs ys : List Int) (hn : xs.length ≤ 9223372036854775807) (k : Nat) (hk : xs.length < k) : slices_Equal_int_int.f k xs ys = some (decide (xs = ys)) := by
  unfold slices_Equal_int_int.f
  by_cases h : (xs.length : Int) = (ys.length : Int)
  · rw [if_pos h]
    have := slEqual_l xs ys (by omega) hn xs.length k 0 (by omega) hk
    simpa using this
  · rw [if_neg h]
    have : xs ≠ ys := fun e => h (by rw [e])
    simp [this]
/-- Two certificates are alike. -/
def qcB (v : Int) (s : ByteArray) (l : List Int) (v' : Int) (s' : ByteArray) (l' : List Int) : Bool := decide (v = v' ∧ s.toList = s'.toList ∧ l = l')
theorem implQcSame_at (v : Int) (s : ByteArray) (l : List Int) (v' : Int) (s' : ByteArray) (l' : List Int) (hn : l.length ≤ 9223372036854775807) (k : Nat) (hk : 2 * l.length + 1 < k) :
    impl_QcSame.f k v s l v' s' l' = some (qcB v s l v' s' l') := by
  unfold impl_QcSame.f qcB
  rw [slEqual_at l l' hn k (by omega)]
  by_cases h1 : v = v' <;> by_cases h2 : s.toList = s'.toList <;> simp [h1, h2]
/-- A text is a name; its view; what it stands on. -/
noncomputable def okN (s : ByteArray) : Bool := (stepsV s).2
noncomputable def vwN (s : ByteArray) : Int := lastV (stepsV s).1
noncomputable def setN (n : Int) (l : List Int) : Bool := if h : l.length ≤ 9223372036854775807 then Classical.choose (setOk_at n l h) else false
theorem setN_at (n : Int) (l : List Int) (hn : l.length ≤ 9223372036854775807) (k : Nat) (hk : l.length < k) : spec_SetOk.f k n l = some (setN n l) ∧ impl_SetOk.f k n l = some (setN n l) := by
  unfold setN
  rw [dif_pos hn]
  exact Classical.choose_spec (setOk_at n l hn) k hk
def quoZ (a b : Int) : Int := if confB a b = true then a - (a - 1) / 3 else 0
theorem quoZ_at (a b : Int) : spec_Quorum.f a b = some (quoZ a b) ∧ impl_Quorum.f a b = some (quoZ a b) := by
  unfold spec_Quorum.f impl_Quorum.f impl_Faults.f quoZ
  rw [specConf_at, implConf_at]
  cases hc : confB a b
  · simp
  · obtain ⟨ha, _⟩ := confB_iff hc
    simp only [Option.bind_some, if_true]
    rcases ha with rfl | rfl | rfl | rfl <;> refine ⟨?_, ?_⟩ <;> refine congrArg some ?_ <;> simp [wrap64]
/-- A certificate is one. -/
noncomputable def qcN (a b v : Int) (s : ByteArray) (l : List Int) : Bool := confB a b && (okN s && (decide (vwN s = v) && if s.data.toList = [] then ((l.length : Int) == 0) else (setN a l && decide ((l.length : Int) ≥ quoZ a b))))
theorem vwN_pos (s : ByteArray) (hs : s.size < 100000000) : (okN s = true → s.data.toList ≠ [] → 1 ≤ vwN s) ∧ (s.data.toList = [] → vwN s = 0 ∧ okN s = true) := by
  obtain ⟨v, b, v1, _, b1, _, h1, h2⟩ := viewOf_at s hs (3 * s.size + 81) (by omega)
  obtain ⟨e1, _, e2, _⟩ := viewV_at s hs (3 * s.size + 81) (by omega)
  obtain rfl : lastV (stepsV s).1 = v := Option.some.inj (e1.symm.trans v1)
  obtain rfl : (stepsV s).2 = b := Option.some.inj (e2.symm.trans b1)
  exact ⟨h1, h2⟩
theorem qcN_at (a b v : Int) (s : ByteArray) (l : List Int) (hs : s.size < 100000000) (hn : l.length < 100000000) (k : Nat) (hk : 3 * s.size + 2 * l.length + 90 < k) :
    spec_QcOk.f k a b v s l = some (qcN a b v s l) ∧ impl_QcOk.f k a b v s l = some (qcN a b v s l) := by
  obtain ⟨v1, v2, o1, o2⟩ := viewV_at s hs k (by omega)
  obtain ⟨t1, t2⟩ := setN_at a l (by omega) k (by omega)
  obtain ⟨q1, q2⟩ := quoZ_at a b
  obtain ⟨p1, p2⟩ := vwN_pos s hs
  unfold spec_QcOk.f impl_QcOk.f impl_QcFirst.f qcN
  rw [specConf_at, implConf_at]
  have hk2 : 2 * l.length + 1 < k := by omega
  have e0 := implQcSame_at v s l 0 (⟨#[]⟩ : ByteArray) [] (show l.length ≤ 9223372036854775807 by omega) k hk2
  change spec_ViewOf.f k s = some (vwN s) at v1
  change impl_ViewOf.f k s = some (vwN s) at v2
  change spec_NameOk.f k s = some (okN s) at o1
  change impl_NameOk.f k s = some (okN s) at o2
  simp only [Option.bind_some, v1, v2, o1, o2, t1, t2, q1, q2, e0, Lib.toList_data]
  cases hc : confB a b
  · simp
  · simp only [if_true, Bool.true_and]
    by_cases hz : s.data.toList = []
    · obtain ⟨w0, w1⟩ := p2 hz
      rw [w1, w0, if_pos hz]
      by_cases hv0 : v = 0
      · subst hv0
        have e2 : qcB 0 s l 0 (⟨#[]⟩ : ByteArray) [] = ((l.length : Int) == 0) := by
          unfold qcB
          rw [Lib.toList_data, Lib.toList_data, hz]
          cases l with
          | nil => rfl
          | cons x y => simp; omega
        rw [e2]
        cases l with
        | nil => simp [hz]
        | cons x y =>
          have hy : ¬ ((y.length : Int) + 1 = 0) := by omega
          simp [hz, hy]
      · have e2 : qcB v s l 0 (⟨#[]⟩ : ByteArray) [] = false := by unfold qcB; simp [hv0]
        have h3 : ¬ (0 : Int) = v := fun e => hv0 e.symm
        rw [e2]
        simp [hv0, h3]
    · have e2 : qcB v s l 0 (⟨#[]⟩ : ByteArray) [] = false := by
        unfold qcB
        rw [Lib.toList_data, Lib.toList_data]
        exact decide_eq_false (fun h => hz h.2.1)
      rw [e2]
      cases ho : okN s
      · simp
      · have hw := p1 ho hz
        by_cases hwv : vwN s = v
        · subst hwv
          have h1 : vwN s ≥ 1 := hw
          simp only [if_true, if_neg hz, if_pos h1, Bool.false_eq_true, if_false, decide_true, Bool.true_and]
          cases setN a l <;> simp
        · have h2 : ¬ v = vwN s := fun e => hwv e.symm
          simp [h2, hwv]
theorem stepQ_view (q : ByteArray) (last : Int) (x : S163) (h : stepQ q last = some x) : last < x.f0 ∧ x.f0 ≤ 60 := by
  unfold stepQ at h
  split at h
  · next c => cases h; exact ⟨c.2.2.2.1, c.2.2.2.2.1⟩
  · cases h
theorem walkP_view : ∀ (t : List ByteArray) (out : List S163) (last : Int), last = lastV out → 0 ≤ last → last ≤ 60 → 0 ≤ lastV (walkP t out last).1 ∧ lastV (walkP t out last).1 ≤ 60
  | [], out, last, e, h0, h1 => by unfold walkP; exact ⟨by rw [← e]; exact h0, by rw [← e]; exact h1⟩
  | p :: t, out, last, e, h0, h1 => by
    unfold walkP
    cases hs : stepQ p last with
    | none => exact ⟨by simp [lastV], by simp [lastV]⟩
    | some x =>
      obtain ⟨a, b⟩ := stepQ_view p last x hs
      exact walkP_view t (out ++ [x]) x.f0 (lastV_snoc out x).symm (by omega) b
theorem vwN_le (s : ByteArray) (hs : s.size < 100000000) : 0 ≤ vwN s ∧ vwN s ≤ 60 := by
  unfold vwN
  rw [stepsV_eq s hs]
  split
  · exact ⟨by simp [lastV], by simp [lastV]⟩
  · split
    · exact walkP_view _ [] 0 (by simp [lastV]) (by omega) (by omega)
    · exact ⟨by simp [lastV], by simp [lastV]⟩
theorem vwN_at (s : ByteArray) (hs : s.size < 100000000) (k : Nat) (hk : 3 * s.size + 80 < k) : spec_ViewOf.f k s = some (vwN s) ∧ impl_ViewOf.f k s = some (vwN s) ∧ spec_NameOk.f k s = some (okN s) ∧ impl_NameOk.f k s = some (okN s) := viewV_at s hs k hk
def inB (x lo hi : Int) : Bool := decide (lo ≤ x ∧ x ≤ hi)
theorem inN_at (x lo hi : Int) : spec_l1In.f x lo hi = some (inB x lo hi) ∧ impl_within.f x lo hi = some (inB x lo hi) := by
  unfold spec_l1In.f impl_within.f inB
  by_cases h : x ≥ lo <;> by_cases h2 : x ≤ hi <;> simp [h, h2]
noncomputable def safeN (a b x y v : Int) (s : ByteArray) (l : List Int) (d : ByteArray) : Bool := inB x 0 60 && (inB y 0 60 && (qcN a b v s l && okN d))
theorem safeN_at (a b x y v : Int) (s : ByteArray) (l : List Int) (d : ByteArray) (hs : s.size < 100000000) (hn : l.length < 100000000) (hd : d.size < 100000000) (k : Nat) (hk : 3 * s.size + 2 * l.length + 3 * d.size + 90 < k) :
    spec_SafeOk.f k a b x y v s l d = some (safeN a b x y v s l d) ∧ impl_SafeOk.f k a b x y v s l d = some (safeN a b x y v s l d) := by
  obtain ⟨c1, c2⟩ := inN_at x 0 60
  obtain ⟨e1, e2⟩ := inN_at y 0 60
  obtain ⟨q1, q2⟩ := qcN_at a b v s l hs hn k (by omega)
  obtain ⟨_, _, o1, o2⟩ := vwN_at d hd k (by omega)
  unfold spec_SafeOk.f impl_SafeOk.f safeN
  simp only [c1, c2, e1, e2, q1, q2, o1, o2, Option.bind_some]
  cases inB x 0 60 <;> cases inB y 0 60 <;> cases qcN a b v s l <;> simp
theorem safeOf_at (c d : Int) (l : List Int) (hl : bytesOk l) (k : Nat) (hk : 20000000 < k) :
    ∃ (x y v : Int) (s : ByteArray) (w : List Int) (t : ByteArray) (p : Bool), spec_SafeOf.f k c d l = some (x, y, v, s, w, t, p) ∧ impl_SafeOf.f k c d l = some (x, y, v, s, w, t, p) ∧ w.length ≤ 1048600 ∧ s.size ≤ 1048576 ∧ t.size ≤ 1048576 := by
  have hn := hl.1
  obtain ⟨f1, _⟩ := cn_fine l hl 0 true (by decide)
  obtain ⟨g1, _⟩ := cn_fine l hl (cn l 0 true).2.1 (cn l 0 true).2.2 f1
  have n1 := specNum_at l hl 0 true (by decide) k (by omega)
  have n2 := specNum_at l hl (cn l 0 true).2.1 (cn l 0 true).2.2 f1 k (by omega)
  have m1 := implNum_at l hl 0 true (by decide) k (by omega)
  have m2 := implNum_at l hl (cn l 0 true).2.1 (cn l 0 true).2.2 f1 k (by omega)
  generalize hx : cn l 0 true = x at f1 g1 n1 n2 m1 m2
  generalize hy : cn l x.2.1 x.2.2 = y at g1 n2 m2
  obtain ⟨v, s, w, b, p, h1, h2, h3, h4⟩ := curQc_at l hl y.2.1 y.2.2 g1
  obtain ⟨r1, r2⟩ := h1 k (by omega)
  obtain ⟨⟨t1, _⟩, t2⟩ := ct_fine l hl b p h4
  have e1 := specText_at l hl b p h4 k (by omega)
  have e2 := implText_at l hl b p h4 k (by omega)
  generalize hz : ct l b p = z at t1 t2 e1 e2
  have m1' : impl_reader_num.f k l 0 false = some (x.1, x.2.1, !x.2.2) := m1
  unfold spec_SafeOf.f impl_SafeOf.f
  rw [n1, m1', Option.bind_some, Option.bind_some, n2]
  simp only [m2, Option.bind_some, r1, r2, e1, e2]
  obtain ⟨q1, q2⟩ := safeN_at c d x.1 y.1 v s w z.1 (by omega) (by omega) (by omega) k (by omega)
  generalize safeN c d x.1 y.1 v s w z.1 = r at q1 q2
  cases hp : z.2.2
  · exact ⟨0, 0, 0, (⟨#[]⟩ : ByteArray), [], (⟨#[]⟩ : ByteArray), false, by simp, by simp, by simp, by decide, by decide⟩
  · by_cases hb : z.2.1 = (l.length : Int)
    · cases r
      · exact ⟨0, 0, 0, (⟨#[]⟩ : ByteArray), [], (⟨#[]⟩ : ByteArray), false, by simp [hb, q1], by simp [hb, q2], by simp, by decide, by decide⟩
      · exact ⟨x.1, y.1, v, s, w, z.1, true, by simp [hb, q1], by simp [hb, q2], h3, h2, t2⟩
    · exact ⟨0, 0, 0, (⟨#[]⟩ : ByteArray), [], (⟨#[]⟩ : ByteArray), false, by simp [hb], by simp [hb], by simp, by decide, by decide⟩
theorem bytes_back (xs : List Int) (h : ∀ i, 0 ≤ rd xs i ∧ rd xs i < 256) : bytesOf (strOfNums xs) = xs := by
  have hx : ∀ x ∈ xs, 0 ≤ x ∧ x < 256 := by
    intro x hm
    obtain ⟨i, hi, rfl⟩ := List.getElem_of_mem hm
    have := h (i : Int)
    unfold rd at this
    simpa [List.getD_eq_getElem?_getD, List.getElem?_eq_getElem hi] using this
  clear h
  unfold bytesOf strOfNums
  simp only [List.map_map]
  conv => rhs; rw [← List.map_id xs]
  apply List.map_congr_left
  intro x hm
  have := hx x hm
  simp only [Function.comp, id, UInt8.toNat_ofNat']
  omega
theorem bytesOk_cut (l : List Int) (hl : bytesOk l) (a b : Nat) : bytesOk ((l.take a).drop b) := by
  refine ⟨by have := hl.1; simp only [List.length_drop, List.length_take]; omega, fun i => ?_⟩
  by_cases hi : i.toNat < ((l.take a).drop b).length
  · have h2 : rd ((l.take a).drop b) i = rd l ((b + i.toNat : Nat) : Int) := by
      simp only [List.length_drop, List.length_take] at hi
      unfold rd
      rw [List.getD_eq_getElem?_getD, List.getD_eq_getElem?_getD, List.getElem?_drop, List.getElem?_take, if_pos (by omega), Int.toNat_natCast]
    rw [h2]
    exact hl.2 _
  · unfold rd
    rw [List.getD_eq_getElem?_getD, List.getElem?_eq_none (by omega)]
    simp
theorem lastNote_l (c d : Int) (l : List Int) (hl : bytesOk l) : ∀ (m : Nat) (n : Int), 0 ≤ n → (l.length : Int) - n ≤ m → n ≤ l.length → ∀ (k : Nat), 20000100 + 2 * m < k → ∀ (s0 s1 s2 : Int) (s3 : ByteArray) (s4 : List Int) (s5 : ByteArray), s4.length ≤ 1048600 → s3.size ≤ 1048576 → s5.size ≤ 1048576 →
    ∃ (x y v : Int) (s : ByteArray) (w : List Int) (t : ByteArray) (p : Int), spec_LastNote.l0 k l n c d s0 s1 s2 s3 s4 s5 = some (x, y, v, s, w, t, p) ∧ impl_LastNote.l0 k l n c d s0 s1 s2 s3 s4 s5 = some (x, y, v, s, w, t, p) ∧ w.length ≤ 1048600 ∧ s.size ≤ 1048576 ∧ t.size ≤ 1048576 := by
  have hn := hl.1
  intro m
  induction m with
  | zero =>
    intro n h0 h1 h2 k hk s0 s1 s2 s3 s4 s5 b4 b3 b5
    refine ⟨s0, s1, s2, s3, s4, s5, n, ?_, ?_, b4, b3, b5⟩
    · obtain ⟨k, rfl⟩ : ∃ j, k = j + 2 := ⟨k - 2, by omega⟩
      have g : (gn l n).2.2 = false := by
        cases hg : (gn l n).2.2
        · rfl
        · have := gn_ok l hl n hg; omega
      simp [spec_LastNote.l0, spec_LastNote.j1, specGetNum_at l hl n (by omega) (k + 1) (by omega), g]
    · obtain ⟨k, rfl⟩ : ∃ j, k = j + 2 := ⟨k - 2, by omega⟩
      have g : (gn l n).2.2 = false := by
        cases hg : (gn l n).2.2
        · rfl
        · have := gn_ok l hl n hg; omega
      have e : (gt l n).2.2 = false := by unfold gt; rw [if_neg (by rw [g]; simp)]
      simp [impl_LastNote.l0, impl_LastNote.j1, implGetText_at l hl n (by omega) (k + 1) (by omega), e]
  | succ m ih =>
    intro n h0 h1 h2 k hk s0 s1 s2 s3 s4 s5 b4 b3 b5
    obtain ⟨k, rfl⟩ : ∃ j, k = j + 2 := ⟨k - 2, by omega⟩
    have e1 := specGetNum_at l hl n (by omega) (k + 1) (by omega)
    have e2 := implGetText_at l hl n (by omega) (k + 1) (by omega)
    have ho := gn_ok l hl n
    unfold gt at e2
    generalize gn l n = g at e1 e2 ho
    obtain ⟨g1, g2, g3⟩ := g
    simp only at e1 e2 ho
    cases g3 with
    | false =>
      refine ⟨s0, s1, s2, s3, s4, s5, n, ?_, ?_, b4, b3, b5⟩
      · simp [spec_LastNote.l0, spec_LastNote.j1, e1]
      · simp [impl_LastNote.l0, impl_LastNote.j1, e2]
    | true =>
      obtain ⟨_, o1, o2, o3, o4⟩ := ho rfl
      have w1 : wrap64 ((l.length : Int) - g2) = (l.length : Int) - g2 := wid (by omega) (by omega)
      have w2 : wrap64 (g2 + g1) = g2 + g1 := wid (by omega) (by omega)
      by_cases q1 : g1 ≥ (l.length : Int) - g2
      · refine ⟨s0, s1, s2, s3, s4, s5, n, ?_, ?_, b4, b3, b5⟩
        · simp only [spec_LastNote.l0, e1, Option.bind_some, if_true, w1]
          rw [if_pos q1]
          simp [spec_LastNote.j1]
        · clear w1 w2
          by_cases q2 : g1 ≤ (l.length : Int) - g2
          · rw [if_pos (show true = true ∧ g1 ≤ (l.length : Int) - g2 from ⟨rfl, q2⟩)] at e2
            simp only [impl_LastNote.l0, e2, Option.bind_some, if_true]
            rw [if_pos (show g2 + g1 ≥ (l.length : Int) by omega)]
            simp [impl_LastNote.j1]
          · rw [if_neg (show ¬ (true = true ∧ g1 ≤ (l.length : Int) - g2) from fun h => q2 h.2)] at e2
            simp [impl_LastNote.l0, e2, impl_LastNote.j1]
      · have q2 : true = true ∧ g1 ≤ (l.length : Int) - g2 := ⟨rfl, by omega⟩
        rw [if_pos q2] at e2
        have p1 : 0 ≤ g2 + g1 := by omega
        have p2 : g2 + g1 < (l.length : Int) := by omega
        have p3 : 0 ≤ g2 := by omega
        have p4 : g2 ≤ g2 + g1 := by omega
        have p5 : g2 + g1 ≤ (l.length : Int) := by omega
        have p6 : ¬ (g2 + g1 ≥ (l.length : Int)) := by omega
        by_cases r : rd l (g2 + g1) = 10
        · have hB := bytesOk_cut l hl (g2 + g1).toNat g2.toNat
          have hbk := bytes_back _ hB.2
          have hsz : (strOfNums ((l.take (g2 + g1).toNat).drop g2.toNat)).size < 140737488355328 := by
            rw [strOfNums_size]; have := hB.1; omega
          have w3 : wrap64 (g2 + g1 + 1) = g2 + g1 + 1 := wid (by omega) (by omega)
          obtain ⟨x, y, v, s, w, t, p, r1, r2, hw, hs, ht⟩ := safeOf_at c d _ hB k (by omega)
          have r' : (rd l (g2 + g1) != 10) = false := by rw [r]; rfl
          cases p with
          | false =>
            refine ⟨s0, s1, s2, s3, s4, s5, n, ?_, ?_, b4, b3, b5⟩
            · simp only [spec_LastNote.l0, e1, Option.bind_some, if_true, w1, w2]
              rw [if_neg q1, if_pos p1, if_pos p2, r']
              simp only [spec_LastNote.j1, w2]
              rw [if_neg (by decide), if_pos p3, if_pos p4, if_pos p5, r1]
              simp
            · simp only [impl_LastNote.l0, e2, Option.bind_some, if_true]
              rw [if_neg p6, if_pos p1, if_pos p2, r']
              simp only [impl_LastNote.j1]
              rw [if_neg (by decide), if_pos hsz, hbk, r2]
              simp
          | true =>
            obtain ⟨x', y', v', s', w', t', p', i1, i2, i3⟩ := ih (g2 + g1 + 1) (by omega) (by omega) (by omega) k (by omega) x y v s w t hw hs ht
            refine ⟨x', y', v', s', w', t', p', ?_, ?_, i3⟩
            · simp only [spec_LastNote.l0, e1, Option.bind_some, if_true, w1, w2]
              rw [if_neg q1, if_pos p1, if_pos p2, r']
              simp only [spec_LastNote.j1, w2, w3]
              rw [if_neg (by decide), if_pos p3, if_pos p4, if_pos p5, r1]
              simp only [Option.bind_some, if_true]
              exact i1
            · simp only [impl_LastNote.l0, e2, Option.bind_some, if_true]
              rw [if_neg p6, if_pos p1, if_pos p2, r']
              simp only [impl_LastNote.j1, w3]
              rw [if_neg (by decide), if_pos hsz, hbk, r2]
              simp only [Option.bind_some, if_true]
              exact i2
        · have r' : (rd l (g2 + g1) != 10) = true := by simpa using r
          refine ⟨s0, s1, s2, s3, s4, s5, n, ?_, ?_, b4, b3, b5⟩
          · simp only [spec_LastNote.l0, e1, Option.bind_some, if_true, w1, w2]
            rw [if_neg q1, if_pos p1, if_pos p2, r']
            simp [spec_LastNote.j1]
          · simp only [impl_LastNote.l0, e2, Option.bind_some, if_true]
            rw [if_neg p6, if_pos p1, if_pos p2, r']
            simp [impl_LastNote.j1]
theorem lastNote_at (c d : Int) (l : List Int) (hl : bytesOk l) (k : Nat) (hk : 30000000 < k) :
    ∃ (x y v : Int) (s : ByteArray) (w : List Int) (t : ByteArray) (p : Int), spec_LastNote.f k c d l = some (x, y, v, s, w, t, p) ∧ impl_LastNote.f k c d l = some (x, y, v, s, w, t, p) ∧ w.length ≤ 1048600 ∧ s.size ≤ 1048576 ∧ t.size ≤ 1048576 := by
  have hn := hl.1
  obtain ⟨x, y, v, s, w, t, p, h1, h2, h3⟩ := lastNote_l c d l hl l.length 0 (by omega) (by omega) (by omega) k (by omega) 0 0 0 (⟨#[]⟩ : ByteArray) [] (⟨#[]⟩ : ByteArray) (by decide) (by decide) (by decide)
  exact ⟨x, y, v, s, w, t, p, by simp [spec_LastNote.f, spec_SafeNew.f, h1], by simp [impl_LastNote.f, impl_SafeNew.f, h2], h3⟩
theorem toByteS_l (xs : List Int) (hn : xs.length ≤ 9223372036854775807) : ∀ (d k : Nat) (out : List Int) (m : Nat), m + d = xs.length → out.length = xs.length → d < k →
    laws_toByteS.l0 k xs out (m : Int) = some (out.take m ++ xs.drop m) := by
  intro d
  induction d with
  | zero =>
    intro k out m hd hl hk
    obtain ⟨k, rfl⟩ : ∃ q, k = q + 1 := ⟨k - 1, by omega⟩
    simp only [laws_toByteS.l0]
    rw [if_neg (by omega), List.take_of_length_le (by omega), List.drop_of_length_le (by omega), List.append_nil]
  | succ d ih =>
    intro k out m hd hl hk
    obtain ⟨k, rfl⟩ : ∃ q, k = q + 1 := ⟨k - 1, by omega⟩
    simp only [laws_toByteS.l0]
    rw [if_pos (by omega), if_pos (by omega), if_pos (by omega), wn (n := xs.length) (by omega) hn, ih k _ (m + 1) (by omega) (by simpa using hl) (by omega), Int.toNat_natCast, set_take _ _ _ (by omega), drop_at xs m (by omega)]
    simp
theorem toByteS_at (xs : List Int) (hn : xs.length ≤ 281474976710656) (k : Nat) (hk : xs.length < k) : laws_toByteS.f k xs = some xs := by
  unfold laws_toByteS.f
  rw [if_pos (by omega), if_pos (by omega)]
  have h := toByteS_l xs (by omega) xs.length k (List.replicate ((xs.length : Int)).toNat 0) 0 (by omega) (by simp) hk
  simpa using h
theorem eqByteS_l (xs ys : List Int) (hl : ys.length = xs.length) (hn : xs.length ≤ 9223372036854775807) : ∀ (d k m : Nat), m + d = xs.length → d < k →
    laws_eqByteS.l0 k xs ys (m : Int) = some (decide (xs.drop m = ys.drop m)) := by
  intro d
  induction d with
  | zero =>
    intro k m hd hk
    obtain ⟨k, rfl⟩ : ∃ q, k = q + 1 := ⟨k - 1, by omega⟩
    simp only [laws_eqByteS.l0]
    rw [if_neg (by omega), List.drop_of_length_le (by omega), List.drop_of_length_le (by omega)]
    simp
  | succ d ih =>
    intro k m hd hk
    obtain ⟨k, rfl⟩ : ∃ q, k = q + 1 := ⟨k - 1, by omega⟩
    simp only [laws_eqByteS.l0]
    rw [if_pos (by omega), if_pos (by omega), if_pos (by omega), wn (n := xs.length) (by omega) hn, ih k (m + 1) (by omega) (by omega), drop_at xs m (by omega), drop_at ys m (by omega)]
    by_cases h : rd xs m = rd ys m <;> simp [h]
theorem eqByteS_at (xs ys : List Int) (hn : xs.length ≤ 9223372036854775807) (k : Nat) (hk : xs.length < k) : laws_eqByteS.f k xs ys = some (decide (xs = ys)) := by
  unfold laws_eqByteS.f
  by_cases h : (xs.length : Int) = (ys.length : Int)
  · rw [if_pos h]
    have := eqByteS_l xs ys (by omega) hn xs.length k 0 (by omega) hk
    simpa using this
  · rw [if_neg h]
    have : xs ≠ ys := fun e => h (by rw [e])
    simp [this]
def marksB (a : Int) : Nat → List Int
  | 0 => []
  | n + 1 => a % 256 :: marksB (a + 1) n
theorem marksB_length : ∀ (n : Nat) (a : Int), (marksB a n).length = n
  | 0, _ => rfl
  | n + 1, a => by simp [marksB, marksB_length n]
theorem markByteS_l (n : Nat) (a : Int) (h0 : 0 ≤ a) (ha : a + (n : Int) ≤ 9223372036854775807) : ∀ (d k m : Nat) (xs : List Int), xs.length = n → m + d = n → d < k →
    laws_markByteS.l0 k xs (a + (m : Int)) (m : Int) = some (a + (n : Int), xs.take m ++ marksB (a + (m : Int)) d) := by
  intro d
  induction d with
  | zero =>
    intro k m xs hx hd hk
    obtain ⟨k, rfl⟩ : ∃ q, k = q + 1 := ⟨k - 1, by omega⟩
    simp only [laws_markByteS.l0]
    rw [if_neg (by omega), List.take_of_length_le (by omega)]
    obtain rfl : m = n := by omega
    simp [marksB]
  | succ d ih =>
    intro k m xs hx hd hk
    obtain ⟨k, rfl⟩ : ∃ q, k = q + 1 := ⟨k - 1, by omega⟩
    simp only [laws_markByteS.l0]
    rw [if_pos (by omega), if_pos (by omega), wn (n := n) (by omega) (by omega), wi h0 ha (by omega), ih k (m + 1) _ (by simpa using hx) (by omega) (by omega), Int.toNat_natCast, set_take _ _ _ (by omega), marksB]
    rw [show a + ((m + 1 : Nat) : Int) = a + (m : Int) + 1 by omega]
    simp
theorem markByteS_at (xs : List Int) (a : Int) (h0 : 0 ≤ a) (ha : a + (xs.length : Int) ≤ 9223372036854775807) (k : Nat) (hk : xs.length < k) :
    laws_markByteS.f k xs a = some (a + (xs.length : Int), marksB a xs.length) := by
  unfold laws_markByteS.f
  have := markByteS_l xs.length a h0 ha xs.length k 0 xs rfl (by omega) hk
  simpa using this
theorem eqIntS_l (xs ys : List Int) (hl : ys.length = xs.length) (hn : xs.length ≤ 9223372036854775807) : ∀ (d k m : Nat), m + d = xs.length → d < k →
    laws_eqIntS.l0 k xs ys (m : Int) = some (decide (xs.drop m = ys.drop m)) := by
  intro d
  induction d with
  | zero =>
    intro k m hd hk
    obtain ⟨k, rfl⟩ : ∃ q, k = q + 1 := ⟨k - 1, by omega⟩
    simp only [laws_eqIntS.l0]
    rw [if_neg (by omega), List.drop_of_length_le (by omega), List.drop_of_length_le (by omega)]
    simp
  | succ d ih =>
    intro k m hd hk
    obtain ⟨k, rfl⟩ : ∃ q, k = q + 1 := ⟨k - 1, by omega⟩
    simp only [laws_eqIntS.l0]
    rw [if_pos (by omega), if_pos (by omega), if_pos (by omega), wn (n := xs.length) (by omega) hn, ih k (m + 1) (by omega) (by omega), drop_at xs m (by omega), drop_at ys m (by omega)]
    by_cases h : rd xs m = rd ys m <;> simp [h]
theorem eqIntS_at (xs ys : List Int) (hn : xs.length ≤ 9223372036854775807) (k : Nat) (hk : xs.length < k) : laws_eqIntS.f k xs ys = some (decide (xs = ys)) := by
  unfold laws_eqIntS.f
  by_cases h : (xs.length : Int) = (ys.length : Int)
  · rw [if_pos h]
    have := eqIntS_l xs ys (by omega) hn xs.length k 0 (by omega) hk
    simpa using this
  · rw [if_neg h]
    have : xs ≠ ys := fun e => h (by rw [e])
    simp [this]
theorem eqQc_refl (v : Int) (s : ByteArray) (l : List Int) (hn : l.length ≤ 9223372036854775807) (k : Nat) (hk : l.length < k) : laws_eqQc.f k v s l v s l = some true := by
  unfold laws_eqQc.f
  rw [eqIntS_at l l hn k hk]; simp
theorem markIntS_l (n : Nat) (a : Int) (h0 : 0 ≤ a) (ha : a + (n : Int) ≤ 9223372036854775807) : ∀ (d k m : Nat) (xs : List Int), xs.length = n → m + d = n → d < k →
    laws_markIntS.l0 k xs (a + (m : Int)) (m : Int) = some (a + (n : Int), xs.take m ++ marks (a + (m : Int)) d) := by
  intro d
  induction d with
  | zero =>
    intro k m xs hx hd hk
    obtain ⟨k, rfl⟩ : ∃ q, k = q + 1 := ⟨k - 1, by omega⟩
    simp only [laws_markIntS.l0]
    rw [if_neg (by omega), List.take_of_length_le (by omega)]
    obtain rfl : m = n := by omega
    simp [marks]
  | succ d ih =>
    intro k m xs hx hd hk
    obtain ⟨k, rfl⟩ : ∃ q, k = q + 1 := ⟨k - 1, by omega⟩
    simp only [laws_markIntS.l0]
    rw [if_pos (by omega), if_pos (by omega), wn (n := n) (by omega) (by omega), wi h0 ha (by omega), ih k (m + 1) _ (by simpa using hx) (by omega) (by omega), Int.toNat_natCast, set_take _ _ _ (by omega), marks]
    rw [show a + ((m + 1 : Nat) : Int) = a + (m : Int) + 1 by omega]
    simp
theorem markIntS_at (xs : List Int) (a : Int) (h0 : 0 ≤ a) (ha : a + (xs.length : Int) ≤ 9223372036854775807) (k : Nat) (hk : xs.length < k) :
    laws_markIntS.f k xs a = some (a + (xs.length : Int), marks a xs.length) := by
  unfold laws_markIntS.f
  have := markIntS_l xs.length a h0 ha xs.length k 0 xs rfl (by omega) hk
  simpa using this
theorem markQc_at (v : Int) (s : ByteArray) (l : List Int) (a : Int) (h0 : 0 ≤ a) (ha : a + (l.length : Int) ≤ 9223372036854775807) (k : Nat) (hk : l.length < k) :
    laws_markQc.f k v s l a = some (a + (l.length : Int), marks a l.length) := by
  unfold laws_markQc.f
  rw [markIntS_at l a h0 ha k hk]; rfl
theorem heldIntS_l (xs : List Int) (a : Int) (h0 : 0 ≤ a) (ha : a + (xs.length : Int) ≤ 9223372036854775807) : ∀ (d k m : Nat), m + d = xs.length → xs.drop m = marks (a + (m : Int)) d → d < k →
    laws_heldIntS.l0 k xs (a + (m : Int)) (m : Int) = some (a + (xs.length : Int)) := by
  intro d
  induction d with
  | zero =>
    intro k m hd hx hk
    obtain ⟨k, rfl⟩ : ∃ q, k = q + 1 := ⟨k - 1, by omega⟩
    simp only [laws_heldIntS.l0]
    rw [if_neg (by omega)]
    obtain rfl : m = xs.length := by omega
    rfl
  | succ d ih =>
    intro k m hd hx hk
    obtain ⟨k, rfl⟩ : ∃ q, k = q + 1 := ⟨k - 1, by omega⟩
    rw [drop_at xs m (by omega), marks] at hx
    obtain ⟨h1, h2⟩ := List.cons.inj hx
    simp only [laws_heldIntS.l0]
    rw [if_pos (by omega), if_pos (by omega), if_pos h1, wn (n := xs.length) (by omega) (by omega), wi h0 ha (by omega), ih k (m + 1) (by omega) (by rw [h2]; congr 1; omega) (by omega)]
theorem heldIntS_at (n : Nat) (a : Int) (h0 : 0 ≤ a) (ha : a + (n : Int) ≤ 9223372036854775807) (k : Nat) (hk : n < k) : laws_heldIntS.f k (marks a n) a = some (a + (n : Int)) := by
  unfold laws_heldIntS.f
  have hl := marks_length n a
  have := heldIntS_l (marks a n) a h0 (by omega) n k 0 (by omega) (by simp) hk
  rw [hl] at this
  simpa using this
theorem heldQc_at (v : Int) (s : ByteArray) (n : Nat) (a : Int) (h0 : 0 ≤ a) (ha : a + (n : Int) ≤ 9223372036854775807) (k : Nat) (hk : n < k) :
    laws_heldQc.f k v s (marks a n) a = some (a + (n : Int)) := by
  unfold laws_heldQc.f
  rw [heldIntS_at n a h0 ha k hk, Option.bind_some, if_neg (by omega)]
theorem Pure.FnExactLastNote : StatFnExactLastNote := by
  intro c d l _ _ hl
  obtain ⟨k, hk⟩ : ∃ k, 40000000 < k := ⟨_, Nat.lt_succ_self _⟩
  refine ⟨k, ?_⟩
  unfold laws_FnExactLastNote.f
  by_cases hb : (l.length : Int) > 1048576
  · rw [if_pos hb]
  rw [if_neg hb]
  have hn : l.length ≤ 1048576 := by omega
  have hB := bytesOk_of hn hl.2
  obtain ⟨x, y, v, s, w, t, p, r1, r2, hw, _⟩ := lastNote_at c d l hB k (by omega)
  have e1 := toByteS_at l (by omega) k (by omega)
  have e2 := eqByteS_at l l (by omega) k (by omega)
  have e3 := eqQc_refl v s w (by omega) k (by omega)
  have e4 := markByteS_at l 1 (by omega) (by omega) k (by omega)
  have e5 := markQc_at v s w 1 (by omega) (by omega) k (by omega)
  have e6 := heldQc_at v s w.length 1 (by omega) (by omega) k (by omega)
  have b1 : ¬ 1 + (l.length : Int) < 0 := by omega
  have b2 : ¬ 1 + (w.length : Int) < 0 := by omega
  simp [laws_toConf.f, laws_eqSafe.f, laws_markSafe.f, laws_heldSafe.f, e1, e2, e3, e4, e5, e6, r1, r2, b1, b2]
end Go.Proofs.YtdmjhgogljhfkaaGreatDoor.PFnExactLastNote
