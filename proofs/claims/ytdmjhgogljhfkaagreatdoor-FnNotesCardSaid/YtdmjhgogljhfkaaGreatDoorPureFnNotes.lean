/- The law FnNotes over numbers, texts and lists: what a drawn replica writes down is read as it was, both sides of each function come to one, what was read is written as it was, and what is torn is left away. No condition but the code's kind. -/
import Derived.Test.YtdmjhgogljhfkaaGreatDoorStatFnNotes
namespace Go.Proofs.YtdmjhgogljhfkaaGreatDoor.PFnNotes
open Go.RowKit Go.Proofs.YtdmjhgogljhfkaaGreatDoorW.PrintWords Go.Proofs.YtdmjhgogljhfkaaGreatDoorW.PrintLast
set_option linter.unusedVariables false
set_option linter.unusedSimpArgs false
theorem wn {m n : Nat} (h : m < n) (hn : n ≤ 9223372036854775807) : wrap64 ((m : Int) + 1) = ((m + 1 : Nat) : Int) := by unfold wrap64; omega
theorem drop_at (l : List Int) (n : Nat) (h : n < l.length) : l.drop n = rd l (n : Int) :: l.drop (n + 1) := by
 rw [List.drop_eq_getElem_cons h]
 simp [rd, List.getD_eq_getElem?_getD, List.getElem?_eq_getElem h]
def P7 : Nat → Int
 | 0 => 1
 | n + 1 => 128 * P7 n
theorem P7_pos : ∀ n, 1 ≤ P7 n
 | 0 => by decide
 | n + 1 => by have := P7_pos n; unfold P7; omega
theorem P7_step (n : Nat) : P7 (n + 1) = 128 * P7 n := rfl
theorem P7_le {g j : Nat} (h : g ≤ j) : P7 g ≤ P7 j := by
 induction h with
 | refl => exact Int.le_refl _
 | step _ ih => rw [P7_step]; have := P7_pos g; omega
theorem shl_P7 (v : Int) (h0 : 0 ≤ v) (h1 : v < 128) (j : Nat) (hj : j ≤ 4) : shl .i64 v (wrap64 (7 * (j : Int))) = v * P7 j ∧ 0 ≤ wrap64 (7 * (j : Int)) := by
 have hb : IntKind.i64.bits = 64 := rfl
 unfold shl
 rw [IntKind.wrap_i64, hb]
 have h : j = 0 ∨ j = 1 ∨ j = 2 ∨ j = 3 ∨ j = 4 := by omega
 rcases h with rfl | rfl | rfl | rfl | rfl
 ·
  rw [show min (wrap64 (7 * ((0 : Nat) : Int))).toNat 64 = 0 from by unfold wrap64; omega, show P7 0 = 1 from rfl]
  exact ⟨by omega, by unfold wrap64; omega⟩
 ·
  rw [show min (wrap64 (7 * ((1 : Nat) : Int))).toNat 64 = 7 from by unfold wrap64; omega, show P7 1 = 128 from rfl]
  exact ⟨by omega, by unfold wrap64; omega⟩
 ·
  rw [show min (wrap64 (7 * ((2 : Nat) : Int))).toNat 64 = 14 from by unfold wrap64; omega, show P7 2 = 16384 from rfl]
  exact ⟨by omega, by unfold wrap64; omega⟩
 ·
  rw [show min (wrap64 (7 * ((3 : Nat) : Int))).toNat 64 = 21 from by unfold wrap64; omega, show P7 3 = 2097152 from rfl]
  exact ⟨by omega, by unfold wrap64; omega⟩
 ·
  rw [show min (wrap64 (7 * ((4 : Nat) : Int))).toNat 64 = 28 from by unfold wrap64; omega, show P7 4 = 268435456 from rfl]
  exact ⟨by omega, by unfold wrap64; omega⟩
theorem or_P7 (x v : Int) (j : Nat) (hj : j ≤ 4) (hx : 0 ≤ x) (hx1 : x < P7 j) (h0 : 0 ≤ v) (h1 : v < 128) : Go.bits .or .i64 x (v * P7 j) = x + v * P7 j := by
 have hk : ∀ n : Int, 0 ≤ n → n < 2 ^ 62 → IntKind.i64.wrap n = n := by
  intro n a b
  rw [IntKind.wrap_i64]; omega
 have hp : P7 j ≤ P7 4 := P7_le hj
 have h4 : P7 4 = 268435456 := rfl
 have hv : v * P7 j ≤ 128 * 268435456 := by
  have := P7_pos j
  exact Int.mul_le_mul (by omega) (by omega) (by omega) (by omega)
 have hv0 : 0 ≤ v * P7 j := Int.mul_nonneg h0 (by have := P7_pos j; omega)
 have comm : Go.bits .or .i64 x (v * P7 j) = Go.bits .or .i64 (v * P7 j) x := by
  obtain ⟨a, rfl⟩ := Int.eq_ofNat_of_zero_le hx
  obtain ⟨b, hb⟩ := Int.eq_ofNat_of_zero_le hv0
  rw [hb]
  have ha2 : a < 2 ^ 62 := by omega
  have hb2 : b < 2 ^ 62 := by omega
  rw [(bits_nat .i64 62 (by decide) hk a b ha2 hb2).2, (bits_nat .i64 62 (by decide) hk b a hb2 ha2).2, Nat.or_comm]
 rw [comm]
 have hP : P7 j = 2 ^ (7 * j) := by
  have h : j = 0 ∨ j = 1 ∨ j = 2 ∨ j = 3 ∨ j = 4 := by omega
  rcases h with rfl | rfl | rfl | rfl | rfl <;> rfl
 rw [bits_join .i64 62 (by decide) hk (7 * j) (v * P7 j) x hv0 (by rw [hP]; exact Int.mul_emod_left _ _) (by omega) hx (by rw [← hP]; exact hx1) (by omega)]
 omega
theorem putLen : ∀ (j : Nat) (n : Int) (out : List Int), 0 ≤ n → n ≤ 2147483647 → n < P7 (j + 1) → out.length + j < 1000 →
  ∃ g, g ≤ j ∧ n < P7 (g + 1) ∧ (g = 0 ∨ P7 g ≤ n) ∧ ∀ k, j < k → ∃ r, impl_PutNum.l0 k n out = some r ∧ r.length = out.length + g + 1 := by
 intro j
 induction j with
 | zero =>
  intro n out h0 _ h1 ho
  have h2 : n < 128 := h1
  refine ⟨0, Nat.le_refl _, h1, .inl rfl, fun k hk => ?_⟩
  obtain ⟨k, rfl⟩ : ∃ q, k = q + 1 := ⟨k - 1, by omega⟩
  refine ⟨out ++ [n % 256], ?_, by simp⟩
  simp only [impl_PutNum.l0]
  rw [if_neg (show ¬ n ≥ 128 by omega), if_pos (show out.length < 140737488355328 by omega)]
 | succ j ih =>
  intro n out h0 hm h1 ho
  by_cases h2 : n ≥ 128
  ·
   have e : wrap64 (Int.tdiv n 128) = n / 128 := by
    rw [Int.tdiv_eq_ediv_of_nonneg h0]
    unfold wrap64
    omega
   rw [P7_step] at h1
   obtain ⟨g, g1, g2, g3, g4⟩ := ih (n / 128) (out ++ [(wrap64 ((Int.tmod n 128) + 128)) % 256]) (by omega) (by omega) (by omega) (by simp; omega)
   refine ⟨g + 1, by omega, by rw [P7_step]; omega, .inr ?_, fun k hk => ?_⟩
   ·
    rcases g3 with rfl | g3
    ·
     show (128 : Int) * 1 ≤ n
     omega
    ·
     rw [P7_step]; omega
   ·
    obtain ⟨k, rfl⟩ : ∃ q, k = q + 1 := ⟨k - 1, by omega⟩
    obtain ⟨r, hr, hl⟩ := g4 k (by omega)
    refine ⟨r, ?_, by rw [hl]; simp; omega⟩
    simp only [impl_PutNum.l0]
    rw [if_pos h2, if_pos (show out.length < 140737488355328 by omega), e]
    exact hr
  ·
   refine ⟨0, by omega, ?_, .inl rfl, fun k hk => ?_⟩
   ·
    show n < 128 * 1
    omega
   obtain ⟨k, rfl⟩ : ∃ q, k = q + 1 := ⟨k - 1, by omega⟩
   refine ⟨out ++ [n % 256], ?_, by simp⟩
   simp only [impl_PutNum.l0]
   rw [if_neg h2, if_pos (show out.length < 140737488355328 by omega)]
def gnr (l : List Int) (a : Int) : Nat → Nat → Int → Int × Int × Bool
 | 0, _, _ => (0, 0, false)
 | d + 1, j, x =>
  if a + (j : Int) < (l.length : Int) then
   (if rd l (a + (j : Int)) < 128 then
    (if (0 < j ∧ rd l (a + (j : Int)) = 0) ∨ x + rd l (a + (j : Int)) * P7 j > 2147483647 then (0, 0, false) else (x + rd l (a + (j : Int)) * P7 j, a + (j : Int) + 1, true))
   else gnr l a d (j + 1) (x + (rd l (a + (j : Int)) % 128) * P7 j))
  else (0, 0, false)
def gn (l : List Int) (a : Int) : Int × Int × Bool := if 0 ≤ a then gnr l a 5 0 0 else (0, 0, false)
def bytesOk (l : List Int) : Prop := l.length ≤ 1048576 ∧ ∀ i, 0 ≤ rd l i ∧ rd l i < 256
theorem wid {x : Int} (h0 : -9223372036854775808 ≤ x) (h1 : x ≤ 9223372036854775807) : wrap64 x = x := by unfold wrap64; omega
theorem tm_eq {c : Int} (h : 0 ≤ c) : Int.tmod c 128 = c % 128 := Int.tmod_eq_emod_of_nonneg h
theorem P7_small {j : Nat} (hj : j ≤ 5) : P7 j ≤ 34359738368 := by
 have h : P7 5 = 34359738368 := rfl
 have := P7_le hj
 omega
theorem mul_P7 {c : Int} {j : Nat} (h0 : 0 ≤ c) (h1 : c ≤ 127) : 0 ≤ c * P7 j ∧ c * P7 j ≤ 127 * P7 j := by
 have := P7_pos j
 exact ⟨Int.mul_nonneg h0 (by omega), Int.mul_le_mul_of_nonneg_right h1 (by omega)⟩
theorem specGetNum_l (l : List Int) (hl : bytesOk l) (a : Int) (ha : 0 ≤ a ∧ a ≤ 9223372036854775807) : ∀ (d j : Nat) (x : Int) (k : Nat), d + j = 5 → 0 ≤ x → x < P7 j → 2 * d + 2 < k →
  spec_GetNum.l0 k l a x (j : Int) = some (gnr l a d j x) := by
 intro d
 induction d with
 | zero =>
  intro j x k hd h0 h1 hk
  obtain ⟨k, rfl⟩ : ∃ q, k = q + 1 := ⟨k - 1, by omega⟩
  simp only [spec_GetNum.l0, gnr]
  rw [if_neg (by omega)]
 | succ d ih =>
  intro j x k hd h0 h1 hk
  obtain ⟨k, rfl⟩ : ∃ q, k = q + 1 + 1 := ⟨k - 2, by omega⟩
  have hn := hl.1
  obtain ⟨b0, b1⟩ := hl.2 (a + (j : Int))
  have hj4 : j ≤ 4 := by omega
  simp only [spec_GetNum.l0]
  rw [if_pos (by omega), if_neg (by omega), wid (x := (l.length : Int) - (j : Int)) (by omega) (by omega)]
  simp only [spec_GetNum.j1, gnr]
  by_cases hc : a + (j : Int) < (l.length : Int)
  ·
   rw [if_neg (show ¬ decide (a ≥ (l.length : Int) - (j : Int)) = true from fun e => by have := of_decide_eq_true e; omega), wid (x := a + (j : Int)) (by omega) (by omega), if_pos (by omega), if_pos hc, if_pos hc]
   generalize rd l (a + (j : Int)) = c at b0 b1 ⊢
   rw [wid (x := c) (by omega) (by omega), tm_eq b0]
   rw [if_pos (shl_P7 (c % 128) (by omega) (by omega) j hj4).2, (shl_P7 (c % 128) (by omega) (by omega) j hj4).1, or_P7 x (c % 128) j hj4 h0 h1 (by omega) (by omega)]
   by_cases hlt : c < 128
   ·
    rw [if_pos hlt, if_pos hlt, show c % 128 = c from by omega, wid (x := a + (j : Int) + 1) (by omega) (by omega)]
    by_cases hj : (j : Int) > 0
    ·
     rw [if_pos hj]
     by_cases hz : c = 0
     ·
      rw [if_pos hz, if_pos (.inl ⟨by omega, hz⟩)]
     ·
      rw [if_neg hz]
      by_cases hb : x + c * P7 j > 2147483647
      ·
       rw [if_pos hb, if_pos (.inr hb)]
      ·
       rw [if_neg hb, if_neg (fun e => e.elim (fun h => hz h.2) hb)]
    ·
     rw [if_neg hj]
     by_cases hb : x + c * P7 j > 2147483647
     ·
      rw [if_pos hb, if_pos (.inr hb)]
     ·
      rw [if_neg hb, if_neg (fun e => e.elim (fun h => hj (by have := h.1; omega)) hb)]
   ·
    rw [if_neg hlt, if_neg hlt, wid (x := (j : Int) + 1) (by omega) (by omega), show (j : Int) + 1 = ((j + 1 : Nat) : Int) from by omega]
    obtain ⟨m1, m2⟩ := mul_P7 (c := c % 128) (j := j) (by omega) (by omega)
    exact ih (j + 1) _ k (by omega) (by omega) (by rw [P7_step]; omega) (by omega)
  ·
   rw [if_pos (show decide (a ≥ (l.length : Int) - (j : Int)) = true from decide_eq_true (by omega)), if_neg hc]
theorem specGetNum_at (l : List Int) (hl : bytesOk l) (a : Int) (ha : a ≤ 9223372036854775807) (k : Nat) (hk : 20 < k) : spec_GetNum.f k l a = some (gn l a) := by
 unfold spec_GetNum.f gn
 by_cases h : 0 ≤ a
 ·
  rw [if_pos h]
  exact specGetNum_l l hl a ⟨h, ha⟩ 5 0 0 k rfl (by decide) (by decide) (by omega)
 ·
  rw [if_neg h]
  obtain ⟨k, rfl⟩ : ∃ q, k = q + 1 + 1 := ⟨k - 2, by omega⟩
  simp only [spec_GetNum.l0]
  rw [if_pos (by decide), if_pos (by omega)]
  simp only [spec_GetNum.j1, if_true]
theorem len_eq (j : Nat) (hj : j ≤ 4) (x c : Int) (h0 : 0 ≤ x) (h1 : x < P7 j) (c0 : 0 ≤ c) (c1 : c < 128) (hb : x + c * P7 j ≤ 2147483647) (k : Nat) (hk : j < k) :
  ∃ r, impl_PutNum.l0 k (x + c * P7 j) [] = some r ∧ ((r.length : Int) = (j : Int) + 1 ↔ ¬ (0 < j ∧ c = 0)) := by
 obtain ⟨m1, m2⟩ := mul_P7 (c := c) (j := j) c0 (by omega)
 have hp0 := P7_pos j
 have hyP : x + c * P7 j < P7 (j + 1) := by rw [P7_step]; omega
 obtain ⟨g, g1, g2, g3, g4⟩ := putLen j (x + c * P7 j) [] (by omega) hb hyP (by simp; omega)
 obtain ⟨r, hr, hlen⟩ := g4 k hk
 refine ⟨r, hr, ?_⟩
 have hlen' : r.length = g + 1 := by simpa using hlen
 by_cases hz : 0 < j ∧ c = 0
 ·
  have : g ≠ j := by
   intro e
   subst e
   rcases g3 with g3 | g3
   ·
    omega
   ·
    rw [hz.2, Int.zero_mul] at g3
    omega
  exact ⟨fun e => by omega, fun e => absurd hz e⟩
 ·
  have : g = j := by
   by_cases hj0 : j = 0
   ·
    omega
   ·
    have hc0 : 1 ≤ c := by omega
    have hcy : P7 j ≤ x + c * P7 j := by
     have : 1 * P7 j ≤ c * P7 j := Int.mul_le_mul_of_nonneg_right hc0 (by omega)
     omega
    by_cases hg : g + 1 ≤ j
    ·
     have := P7_le hg
     omega
    ·
     omega
  exact ⟨fun _ => hz, fun _ => by omega⟩
theorem implGetNum_l (l : List Int) (hl : bytesOk l) (a : Int) (ha : 0 ≤ a ∧ a < (l.length : Int)) : ∀ (d j : Nat) (x : Int) (k : Nat), d + j = 5 → 0 ≤ x → x < P7 j → 2 * d + 10 < k →
  impl_GetNum.l0 k l a x (j : Int) = some (gnr l a d j x) := by
 intro d
 induction d with
 | zero =>
  intro j x k hd h0 h1 hk
  obtain ⟨k, rfl⟩ : ∃ q, k = q + 1 := ⟨k - 1, by omega⟩
  simp only [impl_GetNum.l0, gnr]
  rw [if_neg (by omega)]
 | succ d ih =>
  intro j x k hd h0 h1 hk
  obtain ⟨k, rfl⟩ : ∃ q, k = q + 1 := ⟨k - 1, by omega⟩
  have hn := hl.1
  obtain ⟨b0, b1⟩ := hl.2 (a + (j : Int))
  have hj4 : j ≤ 4 := by omega
  simp only [impl_GetNum.l0]
  rw [if_pos (by omega), wid (x := a + (j : Int)) (by omega) (by omega)]
  simp only [gnr]
  by_cases hc : a + (j : Int) < (l.length : Int)
  ·
   rw [if_pos hc, if_pos (show 0 ≤ a + (j : Int) by omega), if_pos hc]
   generalize rd l (a + (j : Int)) = c at b0 b1 ⊢
   obtain ⟨m1, m2⟩ := mul_P7 (c := c % 128) (j := j) (by omega) (by omega)
   have hP := P7_small (j := j) (by omega)
   have hp0 := P7_pos j
   rw [wid (x := c) (by omega) (by omega), tm_eq b0]
   rw [if_pos (shl_P7 (c % 128) (by omega) (by omega) j hj4).2, (shl_P7 (c % 128) (by omega) (by omega) j hj4).1, wid (x := x + c % 128 * P7 j) (by omega) (by omega), wid (x := (j : Int) + 1) (by omega) (by omega)]
   by_cases hlt : c < 128
   ·
    have hm : c % 128 = c := by omega
    rw [if_pos hlt, if_pos hlt, hm, wid (x := a + (j : Int) + 1) (by omega) (by omega)]
    rw [hm] at m1 m2
    unfold impl_PutNum.f impl_within.f
    rw [if_pos (show x + c * P7 j ≥ 0 by omega), Option.bind_some]
    by_cases hb : x + c * P7 j > 2147483647
    ·
     rw [if_neg (show ¬ decide (x + c * P7 j ≤ 2147483647) = true from fun e => by have := of_decide_eq_true e; omega), Option.bind_some, if_neg (show ¬ (([] : List Int).length : Int) = (j : Int) + 1 by simp only [List.length_nil]; omega), if_pos (.inr hb)]
    ·
     obtain ⟨r, hr, hlen⟩ := len_eq j hj4 x c h0 h1 b0 hlt (by omega) k (by omega)
     rw [if_pos (show decide (x + c * P7 j ≤ 2147483647) = true from decide_eq_true (by omega)), hr, Option.bind_some]
     by_cases hz : 0 < j ∧ c = 0
     ·
      rw [if_neg (fun e => hlen.1 e hz), if_pos (.inl hz)]
     ·
      rw [if_pos (hlen.2 hz), if_neg (fun e => e.elim hz hb)]
   ·
    rw [if_neg hlt, if_neg hlt, show (j : Int) + 1 = ((j + 1 : Nat) : Int) from by omega]
    exact ih (j + 1) _ k (by omega) (by omega) (by rw [P7_step]; omega) (by omega)
  ·
   rw [if_neg hc, if_neg hc]
theorem implGetNum_at (l : List Int) (hl : bytesOk l) (a : Int) (ha : a ≤ 9223372036854775807) (k : Nat) (hk : 20 < k) : impl_GetNum.f k l a = some (gn l a) := by
 have hn := hl.1
 unfold impl_GetNum.f gn impl_within.f
 rw [wid (x := (l.length : Int) - 1) (by omega) (by omega)]
 by_cases h : 0 ≤ a
 ·
  rw [if_pos (show a ≥ 0 from h), if_pos h, Option.bind_some]
  by_cases h2 : a ≤ (l.length : Int) - 1
  ·
   rw [if_pos (show decide (a ≤ (l.length : Int) - 1) = true from decide_eq_true h2)]
   exact implGetNum_l l hl a ⟨h, by omega⟩ 5 0 0 k rfl (by decide) (by decide) (by omega)
  ·
   rw [if_neg (show ¬ decide (a ≤ (l.length : Int) - 1) = true from fun e => h2 (of_decide_eq_true e))]
   simp only [gnr]
   rw [if_neg (show ¬ a + ((0 : Nat) : Int) < (l.length : Int) by omega)]
 ·
  rw [if_neg (show ¬ a ≥ 0 from h), if_neg h, Option.bind_some, if_neg (by decide)]
theorem gnr_ok (l : List Int) (hl : bytesOk l) (a : Int) : ∀ (d j : Nat) (x : Int), 0 ≤ x → (gnr l a d j x).2.2 = true → 0 ≤ (gnr l a d j x).1 ∧ (gnr l a d j x).1 ≤ 2147483647 ∧ a < (gnr l a d j x).2.1 ∧ (gnr l a d j x).2.1 ≤ (l.length : Int) := by
 intro d
 induction d with
 | zero => intro j x _ h; simp [gnr] at h
 | succ d ih =>
  intro j x h0 h
  obtain ⟨b0, b1⟩ := hl.2 (a + (j : Int))
  have hp := P7_pos j
  rw [gnr] at h ⊢
  by_cases hc : a + (j : Int) < (l.length : Int)
  ·
   rw [if_pos hc] at h ⊢
   by_cases hlt : rd l (a + (j : Int)) < 128
   ·
    rw [if_pos hlt] at h ⊢
    by_cases hz : (0 < j ∧ rd l (a + (j : Int)) = 0) ∨ x + rd l (a + (j : Int)) * P7 j > 2147483647
    ·
     rw [if_pos hz] at h; cases h
    ·
     rw [if_neg hz]
     have hz2 : ¬ x + rd l (a + (j : Int)) * P7 j > 2147483647 := fun e => hz (.inr e)
     have := Int.mul_nonneg b0 (show 0 ≤ P7 j by omega)
     exact ⟨by show 0 ≤ x + _; omega, by show x + _ ≤ _; omega, by show a < a + _ + 1; omega, by show a + _ + 1 ≤ _; omega⟩
   ·
    rw [if_neg hlt] at h ⊢
    have := Int.mul_nonneg (show 0 ≤ rd l (a + (j : Int)) % 128 by omega) (show 0 ≤ P7 j by omega)
    exact ih (j + 1) _ (by omega) h
  ·
   rw [if_neg hc] at h; cases h
theorem gn_ok (l : List Int) (hl : bytesOk l) (a : Int) (h : (gn l a).2.2 = true) : 0 ≤ a ∧ 0 ≤ (gn l a).1 ∧ (gn l a).1 ≤ 2147483647 ∧ a < (gn l a).2.1 ∧ (gn l a).2.1 ≤ (l.length : Int) := by
 unfold gn at h ⊢
 by_cases h0 : 0 ≤ a
 ·
  rw [if_pos h0] at h ⊢
  exact ⟨h0, gnr_ok l hl a 5 0 0 (by decide) h⟩
 ·
  rw [if_neg h0] at h; cases h
def pnr : Nat → Int → List Int
 | 0, n => [n]
 | d + 1, n => if 128 ≤ n then (n % 128 + 128) :: pnr d (n / 128) else [n]
def pn (n : Int) : List Int := pnr 4 n
theorem drop_cons {l : List Int} {a : Nat} {c : Int} {r : List Int} (h : l.drop a = c :: r) : a < l.length ∧ rd l (a : Int) = c ∧ l.drop (a + 1) = r := by
 have h1 : a < l.length := by
  have : (l.drop a).length = r.length + 1 := by rw [h]; rfl
  rw [List.length_drop] at this; omega
 rw [List.drop_eq_getElem_cons h1] at h
 obtain ⟨h2, h3⟩ := List.cons.inj h
 refine ⟨h1, ?_, h3⟩
 unfold rd
 rw [Int.toNat_natCast, List.getD_eq_getElem?_getD, List.getElem?_eq_getElem h1]
 exact h2
theorem cons_drop {l : List Int} {a : Nat} (h : a < l.length) : l.drop a = rd l (a : Int) :: l.drop (a + 1) := by
 rw [List.drop_eq_getElem_cons h]
 unfold rd
 rw [Int.toNat_natCast, List.getD_eq_getElem?_getD, List.getElem?_eq_getElem h]
 rfl
theorem P7_mul (n : Int) (j : Nat) : n * P7 j = n % 128 * P7 j + n / 128 * P7 (j + 1) := by
 have e : n = n % 128 + n / 128 * 128 := by omega
 rw [P7_step, ← Int.mul_assoc, ← Int.add_mul, ← e]
theorem gnr_enc (l : List Int) (a : Nat) : ∀ (d j : Nat) (x n : Int) (r : List Int), 0 ≤ n → n < P7 (d + 1) → 0 ≤ x → (0 < j → 0 < n) → x + n * P7 j ≤ 2147483647 → l.drop (a + j) = pnr d n ++ r →
  gnr l (a : Int) (d + 1) j x = (x + n * P7 j, ((a + j + (pnr d n).length : Nat) : Int), true) := by
 intro d
 induction d with
 | zero =>
  intro j x n r h0 h1 hx hj hb hd
  have h1' : n < 128 := by have : P7 (0 + 1) = 128 := rfl; omega
  obtain ⟨g1, g2, _⟩ := drop_cons (by simpa [pnr] using hd)
  have e : ((a : Int) + (j : Int)) = ((a + j : Nat) : Int) := by omega
  simp only [gnr]
  rw [e, g2, if_pos (by omega), if_pos h1', if_neg (by intro q; rcases q with ⟨q1, q2⟩ | q; have := hj q1; omega; omega)]
  simp [pnr]
 | succ d ih =>
  intro j x n r h0 h1 hx hj hb hd
  by_cases hc : 128 ≤ n
  ·
   have ep : pnr (d + 1) n = (n % 128 + 128) :: pnr d (n / 128) := by simp only [pnr]; rw [if_pos hc]
   rw [ep] at hd ⊢
   obtain ⟨g1, g2, g3⟩ := drop_cons hd
   have e : ((a : Int) + (j : Int)) = ((a + j : Nat) : Int) := by omega
   have hm := P7_mul n j
   have hp := P7_pos j
   have hp0 : 0 ≤ n % 128 * P7 j := Int.mul_nonneg (by omega) (by omega)
   rw [P7_step] at h1
   rw [gnr, e, g2, if_pos (by omega), if_neg (by omega), show (n % 128 + 128) % 128 = n % 128 by omega]
   rw [ih (j + 1) (x + n % 128 * P7 j) (n / 128) r (by omega) (by omega) (by omega) (fun _ => by omega) (by omega) (by rw [← Nat.add_assoc]; exact g3)]
   rw [Int.add_assoc, ← hm]
   simp only [List.length_cons]
   congr 2
   omega
  ·
   have ep : pnr (d + 1) n = [n] := by simp only [pnr]; rw [if_neg hc]
   rw [ep] at hd ⊢
   obtain ⟨g1, g2, g3⟩ := drop_cons hd
   have e : ((a : Int) + (j : Int)) = ((a + j : Nat) : Int) := by omega
   rw [gnr, e, g2, if_pos (by omega), if_pos (by omega), if_neg (by intro q; rcases q with ⟨q1, q2⟩ | q; have := hj q1; omega; omega)]
   simp
theorem gnr_dec (l : List Int) (hl : ∀ i, 0 ≤ rd l i ∧ rd l i < 256) (a : Nat) : ∀ (d j : Nat) (x n b : Int), gnr l (a : Int) (d + 1) j x = (n, b, true) →
  ∃ m : Int, n = x + m * P7 j ∧ 0 ≤ m ∧ (0 < j → 0 < m) ∧ n ≤ 2147483647 ∧ l.drop (a + j) = pnr d m ++ l.drop b.toNat ∧ b = ((a + j + (pnr d m).length : Nat) : Int) := by
 have fin : ∀ (d j : Nat) (x n b : Int), a + j < l.length → rd l ((a : Int) + (j : Int)) < 128 → (if (0 < j ∧ rd l ((a : Int) + (j : Int)) = 0) ∨ x + rd l ((a : Int) + (j : Int)) * P7 j > 2147483647 then ((0 : Int), (0 : Int), false) else (x + rd l ((a : Int) + (j : Int)) * P7 j, (a : Int) + (j : Int) + 1, true)) = (n, b, true) →
   ∃ m : Int, n = x + m * P7 j ∧ 0 ≤ m ∧ (0 < j → 0 < m) ∧ n ≤ 2147483647 ∧ l.drop (a + j) = pnr d m ++ l.drop b.toNat ∧ b = ((a + j + (pnr d m).length : Nat) : Int) := by
  intro d j x n b h1 h2 h
  obtain ⟨b0, b1⟩ := hl ((a : Int) + (j : Int))
  by_cases hc : (0 < j ∧ rd l ((a : Int) + (j : Int)) = 0) ∨ x + rd l ((a : Int) + (j : Int)) * P7 j > 2147483647
  ·
   rw [if_pos hc] at h
   simp at h
  ·
   rw [if_neg hc] at h
   simp only [Prod.mk.injEq, and_true] at h
   obtain ⟨e1, e2⟩ := h
   have ep : pnr d (rd l ((a : Int) + (j : Int))) = [rd l ((a : Int) + (j : Int))] := by
    cases d with
    | zero => rfl
    | succ d => simp only [pnr]; rw [if_neg (by omega)]
   refine ⟨rd l ((a : Int) + (j : Int)), e1.symm, b0, fun q => ?_, by omega, ?_, by rw [ep, ← e2]; simp only [List.length_singleton]; omega⟩
   ·
    have : rd l ((a : Int) + (j : Int)) ≠ 0 := fun e => hc (.inl ⟨q, e⟩)
    omega
   ·
    rw [ep, ← e2, show ((a : Int) + (j : Int) + 1).toNat = a + j + 1 by omega, show ((a : Int) + (j : Int)) = ((a + j : Nat) : Int) by omega]
    exact cons_drop h1
 intro d
 induction d with
 | zero =>
  intro j x n b h
  simp only [gnr] at h
  by_cases h1 : (a : Int) + (j : Int) < (l.length : Int)
  ·
   rw [if_pos h1] at h
   by_cases h2 : rd l ((a : Int) + (j : Int)) < 128
   ·
    rw [if_pos h2] at h
    exact fin 0 j x n b (by omega) h2 h
   ·
    rw [if_neg h2] at h
    simp at h
  ·
   rw [if_neg h1] at h
   simp at h
 | succ d ih =>
  intro j x n b h
  rw [gnr] at h
  by_cases h1 : (a : Int) + (j : Int) < (l.length : Int)
  ·
   rw [if_pos h1] at h
   by_cases h2 : rd l ((a : Int) + (j : Int)) < 128
   ·
    rw [if_pos h2] at h
    exact fin (d + 1) j x n b (by omega) h2 h
   ·
    rw [if_neg h2] at h
    obtain ⟨m, e1, m0, m1, e2, e3, e4⟩ := ih (j + 1) _ n b h
    have m1' := m1 (by omega)
    obtain ⟨b0, b1⟩ := hl ((a : Int) + (j : Int))
    have q1 : (m * 128 + rd l ((a : Int) + (j : Int)) % 128) % 128 = rd l ((a : Int) + (j : Int)) % 128 := by omega
    have q2 : (m * 128 + rd l ((a : Int) + (j : Int)) % 128) / 128 = m := by omega
    have ep : pnr (d + 1) (m * 128 + rd l ((a : Int) + (j : Int)) % 128) = rd l ((a : Int) + (j : Int)) :: pnr d m := by
     simp only [pnr]
     rw [if_pos (by omega), q1, q2, show rd l ((a : Int) + (j : Int)) % 128 + 128 = rd l ((a : Int) + (j : Int)) by omega]
    refine ⟨m * 128 + rd l ((a : Int) + (j : Int)) % 128, ?_, by omega, fun _ => by omega, e2, ?_, ?_⟩
    ·
     rw [P7_mul, q1, q2, e1, Int.add_assoc]
    ·
     rw [ep, show ((a : Int) + (j : Int)) = ((a + j : Nat) : Int) by omega, cons_drop (show a + j < l.length by omega), List.cons_append, ← e3, Nat.add_assoc]
    ·
     rw [ep, e4]
     simp only [List.length_cons]
     omega
  ·
   rw [if_neg h1] at h
   simp at h
theorem gn_enc (l : List Int) (a : Nat) (n : Int) (r : List Int) (h0 : 0 ≤ n) (h1 : n ≤ 2147483647) (h : l.drop a = pn n ++ r) : gn l (a : Int) = (n, ((a + (pn n).length : Nat) : Int), true) := by
 unfold gn
 rw [if_pos (by omega)]
 have hP : P7 (4 + 1) = 34359738368 := rfl
 have := gnr_enc l a 4 0 0 n r h0 (by omega) (by decide) (fun q => absurd q (by decide)) (by show 0 + n * 1 ≤ _; omega) h
 rw [this]
 show (0 + n * 1, _, true) = _
 rw [Int.mul_one, Int.zero_add]
 rfl
theorem gn_dec (l : List Int) (hl : ∀ i, 0 ≤ rd l i ∧ rd l i < 256) (a n b : Int) (h : gn l a = (n, b, true)) : 0 ≤ a ∧ 0 ≤ n ∧ n ≤ 2147483647 ∧ l.drop a.toNat = pn n ++ l.drop b.toNat ∧ b = a + ((pn n).length : Int) := by
 unfold gn at h
 by_cases h0 : 0 ≤ a
 ·
  rw [if_pos h0] at h
  obtain ⟨a, rfl⟩ := Int.eq_ofNat_of_zero_le h0
  obtain ⟨m, e1, m0, _, e2, e3, e4⟩ := gnr_dec l hl a 4 0 0 n b h
  have e : n = m := by
   rw [e1]
   show 0 + m * 1 = m
   omega
  subst e
  refine ⟨h0, m0, e2, e3, ?_⟩
  rw [e4]
  show ((a + 0 + (pnr 4 n).length : Nat) : Int) = (a : Int) + (((pn n).length : Nat) : Int)
  unfold pn
  omega
 ·
  rw [if_neg h0] at h
  simp at h
def cn (l : List Int) (a : Int) (o : Bool) : Int × Int × Bool := if (gn l a).2.2 = true ∧ o = true then ((gn l a).1, (gn l a).2.1, true) else (0, a, false)
theorem specNum_at (l : List Int) (hl : bytesOk l) (a : Int) (o : Bool) (ha : a ≤ 9223372036854775807) (k : Nat) (hk : 20 < k) : spec_l12Num.f k l a o = some (cn l a o) := by
 unfold spec_l12Num.f cn
 rw [specGetNum_at l hl a ha k hk, Option.bind_some]
 by_cases h : (gn l a).2.2 = true
 ·
  cases o <;> simp [h]
 ·
  simp [h]
theorem implNum_at (l : List Int) (hl : bytesOk l) (a : Int) (o : Bool) (ha : a ≤ 9223372036854775807) (k : Nat) (hk : 20 < k) : impl_reader_num.f k l a (!o) = some ((cn l a o).1, (cn l a o).2.1, !(cn l a o).2.2) := by
 unfold impl_reader_num.f cn
 rw [implGetNum_at l hl a ha k hk, Option.bind_some]
 by_cases h : (gn l a).2.2 = true
 ·
  cases o <;> simp [h]
 ·
  cases o <;> simp [h]
def fine (l : List Int) (a b : Int) (o : Bool) : Prop := b ≤ 9223372036854775807 ∧ (o = true → 0 ≤ a ∧ a < b ∧ b ≤ (l.length : Int))
theorem cn_fine (l : List Int) (hl : bytesOk l) (a : Int) (o : Bool) (ha : a ≤ 9223372036854775807) : fine l a (cn l a o).2.1 (cn l a o).2.2 := by
 have hn := hl.1
 unfold fine cn
 by_cases h : (gn l a).2.2 = true ∧ o = true
 ·
  obtain ⟨h1, _, _, h2, h3⟩ := gn_ok l hl a h.1
  rw [if_pos h]
  exact ⟨by show (gn l a).2.1 ≤ _; omega, fun _ => ⟨h1, h2, h3⟩⟩
 ·
  rw [if_neg h]
  exact ⟨ha, fun e => by cases e⟩
def ct (l : List Int) (a : Int) (o : Bool) : ByteArray × Int × Bool :=
 if ((gn l a).2.2 = true ∧ (gn l a).1 ≤ (l.length : Int) - (gn l a).2.1) ∧ o = true then (strOfNums ((l.take ((gn l a).2.1 + (gn l a).1).toNat).drop (gn l a).2.1.toNat), (gn l a).2.1 + (gn l a).1, true) else ((⟨#[]⟩ : ByteArray), a, false)
def gt (l : List Int) (a : Int) : ByteArray × Int × Bool :=
 if (gn l a).2.2 = true ∧ (gn l a).1 ≤ (l.length : Int) - (gn l a).2.1 then (strOfNums ((l.take ((gn l a).2.1 + (gn l a).1).toNat).drop (gn l a).2.1.toNat), (gn l a).2.1 + (gn l a).1, true) else ((⟨#[]⟩ : ByteArray), 0, false)
theorem getText_gen (l : List Int) (hl : bytesOk l) (a : Int) (x : Option (Int × Int × Bool)) (hx : x = some (gn l a)) :
  (x.bind fun bt => (if bt.2.2 = true then (if bt.1 > (wrap64 ((l.length : Int) - bt.2.1)) then (some ((⟨#[]⟩ : ByteArray), (0 : Int), false)) else (if 0 ≤ bt.2.1 then (if bt.2.1 ≤ (wrap64 (bt.2.1 + bt.1)) then (if (wrap64 (bt.2.1 + bt.1)) ≤ (l.length : Int) then (some (strOfNums ((l.take ((wrap64 (bt.2.1 + bt.1)) : Int).toNat).drop (bt.2.1 : Int).toNat), wrap64 (bt.2.1 + bt.1), true)) else (none)) else (none)) else (none))) else (some ((⟨#[]⟩ : ByteArray), 0, false)))) = some (gt l a) := by
 have hn := hl.1
 rw [hx, Option.bind_some]
 unfold gt
 by_cases h : (gn l a).2.2 = true
 ·
  obtain ⟨h1, g1, g2, h2, h3⟩ := gn_ok l hl a h
  rw [if_pos h, wid (x := (l.length : Int) - (gn l a).2.1) (by omega) (by omega), wid (x := (gn l a).2.1 + (gn l a).1) (by omega) (by omega)]
  by_cases hc : (gn l a).1 ≤ (l.length : Int) - (gn l a).2.1
  ·
   rw [if_neg (by omega), if_pos (by omega), if_pos (by omega), if_pos (by omega), if_pos ⟨h, hc⟩]
  ·
   rw [if_pos (by omega), if_neg (fun e => hc e.2)]
 ·
  rw [if_neg h, if_neg (fun e => h e.1)]
theorem specGetText_at (l : List Int) (hl : bytesOk l) (a : Int) (ha : a ≤ 9223372036854775807) (k : Nat) (hk : 20 < k) : spec_GetText.f k l a = some (gt l a) := by
 unfold spec_GetText.f
 exact getText_gen l hl a _ (specGetNum_at l hl a ha k hk)
theorem implGetText_at (l : List Int) (hl : bytesOk l) (a : Int) (ha : a ≤ 9223372036854775807) (k : Nat) (hk : 20 < k) : impl_GetText.f k l a = some (gt l a) := by
 unfold impl_GetText.f
 exact getText_gen l hl a _ (implGetNum_at l hl a ha k hk)
theorem specText_at (l : List Int) (hl : bytesOk l) (a : Int) (o : Bool) (ha : a ≤ 9223372036854775807) (k : Nat) (hk : 20 < k) : spec_l12Text.f k l a o = some (ct l a o) := by
 unfold spec_l12Text.f
 rw [specGetText_at l hl a ha k hk, Option.bind_some]
 unfold ct gt
 by_cases h : (gn l a).2.2 = true ∧ (gn l a).1 ≤ (l.length : Int) - (gn l a).2.1
 ·
  rw [if_pos h]
  cases o <;> simp [h.1, h.2]
 ·
  have h' : ¬ (((gn l a).2.2 = true ∧ (gn l a).1 ≤ (l.length : Int) - (gn l a).2.1) ∧ o = true) := fun e => h e.1
  rw [if_neg h, if_neg h']
  simp
theorem implText_at (l : List Int) (hl : bytesOk l) (a : Int) (o : Bool) (ha : a ≤ 9223372036854775807) (k : Nat) (hk : 20 < k) : impl_reader_text.f k l a (!o) = some ((ct l a o).1, (ct l a o).2.1, !(ct l a o).2.2) := by
 unfold impl_reader_text.f
 rw [implGetText_at l hl a ha k hk, Option.bind_some]
 unfold ct gt
 by_cases h : (gn l a).2.2 = true ∧ (gn l a).1 ≤ (l.length : Int) - (gn l a).2.1
 ·
  rw [if_pos h]
  cases o <;> simp [h.1, h.2]
 ·
  have h' : ¬ (((gn l a).2.2 = true ∧ (gn l a).1 ≤ (l.length : Int) - (gn l a).2.1) ∧ o = true) := fun e => h e.1
  rw [if_neg h, if_neg h']
  cases o <;> simp
theorem ct_fine (l : List Int) (hl : bytesOk l) (a : Int) (o : Bool) (ha : a ≤ 9223372036854775807) : fine l a (ct l a o).2.1 (ct l a o).2.2 ∧ (ct l a o).1.size ≤ 1048576 := by
 have hn := hl.1
 unfold fine ct
 by_cases h : ((gn l a).2.2 = true ∧ (gn l a).1 ≤ (l.length : Int) - (gn l a).2.1) ∧ o = true
 ·
  obtain ⟨h1, g1, g2, h2, h3⟩ := gn_ok l hl a h.1.1
  have h4 := h.1.2
  rw [if_pos h]
  refine ⟨⟨by show (gn l a).2.1 + (gn l a).1 ≤ _; omega, fun _ => ⟨h1, by show a < (gn l a).2.1 + (gn l a).1; omega, by show (gn l a).2.1 + (gn l a).1 ≤ _; omega⟩⟩, ?_⟩
  show (strOfNums _).size ≤ _
  rw [strOfNums_size, List.length_drop, List.length_take]
  omega
 ·
  rw [if_neg h]
  exact ⟨⟨ha, fun e => by cases e⟩, Nat.zero_le _⟩
theorem who_l (l : List Int) (hl : bytesOk l) (n : Int) (hn : n ≤ 2147483647) : ∀ (d : Nat) (i : Nat) (out : List Int) (a : Int) (o : Bool), a ≤ 9223372036854775807 → (o = true → 0 ≤ a → (l.length : Int) - a ≤ (d : Int)) → i + d < 10000000 → out.length + d < 10000000 →
  ∃ (w : List Int) (b : Int) (p : Bool), (∀ k, d + 30 < k → spec_l12Who.l0 k out n (i : Int) l a o = some (w, b, p) ∧ impl_reader_nums.l0 k out n (i : Int) l a (!o) = some (w, b, !p)) ∧ w.length ≤ out.length + d + 1 ∧ b ≤ 9223372036854775807 := by
 intro d
 induction d with
 | zero =>
  intro i out a o ha ho hi hw
  by_cases hc : (i : Int) < n
  ·
   cases o
   ·
    refine ⟨out, a, false, fun k hk => ?_, by omega, ha⟩
    obtain ⟨k, rfl⟩ : ∃ q, k = q + 1 := ⟨k - 1, by omega⟩
    simp only [spec_l12Who.l0, impl_reader_nums.l0, if_pos hc]
    exact ⟨by simp, by simp⟩
   ·
    have hf : cn l a true = (0, a, false) := by
     unfold cn
     rw [if_neg]
     intro e
     obtain ⟨h1, _, _, h2, h3⟩ := gn_ok l hl a e.1
     have := ho rfl h1
     omega
    refine ⟨out ++ [0], a, false, fun k hk => ?_, by simp, ha⟩
    obtain ⟨k, rfl⟩ : ∃ q, k = q + 1 + 1 := ⟨k - 2, by omega⟩
    have hL : out.length < 17592186044416 := by omega
    have e1 := specNum_at l hl a true ha (k + 1) (by omega)
    have e2 := implNum_at l hl a true ha (k + 1) (by omega)
    rw [hf] at e1 e2
    have w6 : wrap64 ((i : Int) + 1) = ((i + 1 : Nat) : Int) := wid (by omega) (by omega)
    rw [show spec_l12Who.l0 (k + 1 + 1) out n (i : Int) l a true = spec_l12Who.l0 (k + 1) (out ++ [0]) n ((i + 1 : Nat) : Int) l a false from by
     rw [spec_l12Who.l0, if_pos hc, if_pos rfl, e1, Option.bind_some, if_pos hL, w6]]
    rw [show impl_reader_nums.l0 (k + 1 + 1) out n (i : Int) l a (!true) = impl_reader_nums.l0 (k + 1) (out ++ [0]) n ((i + 1 : Nat) : Int) l a true from by
     rw [impl_reader_nums.l0, if_pos hc, if_neg (by decide), e2, Option.bind_some, if_pos hL, w6]; rfl]
    simp only [spec_l12Who.l0, impl_reader_nums.l0]
    by_cases hc2 : ((i + 1 : Nat) : Int) < n
    ·
     rw [if_pos hc2, if_pos hc2]
     exact ⟨by simp, by simp⟩
    ·
     rw [if_neg hc2, if_neg hc2]
     exact ⟨rfl, rfl⟩
  ·
   refine ⟨out, a, o, fun k hk => ?_, by omega, ha⟩
   obtain ⟨k, rfl⟩ : ∃ q, k = q + 1 := ⟨k - 1, by omega⟩
   rw [spec_l12Who.l0, impl_reader_nums.l0, if_neg hc, if_neg hc]
   exact ⟨rfl, rfl⟩
 | succ d ih =>
  intro i out a o ha ho hi hw
  by_cases hc : (i : Int) < n
  ·
   cases o
   ·
    refine ⟨out, a, false, fun k hk => ?_, by omega, ha⟩
    obtain ⟨k, rfl⟩ : ∃ q, k = q + 1 := ⟨k - 1, by omega⟩
    simp only [spec_l12Who.l0, impl_reader_nums.l0, if_pos hc]
    exact ⟨by simp, by simp⟩
   ·
    obtain ⟨f1, f2⟩ := cn_fine l hl a true ha
    obtain ⟨w, b, p, h1, h2, h3⟩ := ih (i + 1) (out ++ [(cn l a true).1]) (cn l a true).2.1 (cn l a true).2.2 f1 (by
     intro e _
     obtain ⟨g1, g2, g3⟩ := f2 e
     have := ho rfl g1
     omega) (by omega) (by simp; omega)
    refine ⟨w, b, p, fun k hk => ?_, by simp at h2; omega, h3⟩
    obtain ⟨k, rfl⟩ : ∃ q, k = q + 1 := ⟨k - 1, by omega⟩
    have hL : out.length < 17592186044416 := by omega
    obtain ⟨r1, r2⟩ := h1 k (by omega)
    have e1 := specNum_at l hl a true ha k (by omega)
    have e2 := implNum_at l hl a true ha k (by omega)
    have w6 : wrap64 ((i : Int) + 1) = ((i + 1 : Nat) : Int) := wid (by omega) (by omega)
    constructor
    ·
     rw [spec_l12Who.l0, if_pos hc, if_pos rfl, e1, Option.bind_some, if_pos hL, w6]
     exact r1
    ·
     rw [impl_reader_nums.l0, if_pos hc, if_neg (by decide), e2, Option.bind_some, if_pos hL, w6]
     exact r2
  ·
   refine ⟨out, a, o, fun k hk => ?_, by omega, ha⟩
   obtain ⟨k, rfl⟩ : ∃ q, k = q + 1 := ⟨k - 1, by omega⟩
   rw [spec_l12Who.l0, impl_reader_nums.l0, if_neg hc, if_neg hc]
   exact ⟨rfl, rfl⟩
theorem cn_le (l : List Int) (hl : bytesOk l) (a : Int) (o : Bool) : (cn l a o).1 ≤ 2147483647 := by
 unfold cn
 by_cases h : (gn l a).2.2 = true ∧ o = true
 ·
  rw [if_pos h]
  exact (gn_ok l hl a h.1).2.2.1
 ·
  rw [if_neg h]
  show (0 : Int) ≤ _
  decide
theorem who_at (l : List Int) (hl : bytesOk l) (a : Int) (o : Bool) (ha : a ≤ 9223372036854775807) :
  ∃ (w : List Int) (b : Int) (p : Bool), (∀ k, l.length + 100 < k → spec_l12Who.f k l a o = some (w, b, p) ∧ impl_reader_nums.f k l a (!o) = some (w, b, !p)) ∧ w.length ≤ 1048600 ∧ b ≤ 9223372036854775807 := by
 have hn := hl.1
 obtain ⟨f1, f2⟩ := cn_fine l hl a o ha
 obtain ⟨w, b, p, h1, h2, h3⟩ := who_l l hl (cn l a o).1 (cn_le l hl a o) l.length 0 [] (cn l a o).2.1 (cn l a o).2.2 f1 (by
  intro e g
  omega) (by omega) (by simp; omega)
 refine ⟨w, b, p, fun k hk => ?_, by simp at h2; omega, h3⟩
 obtain ⟨r1, r2⟩ := h1 k (by omega)
 unfold spec_l12Who.f impl_reader_nums.f
 rw [specNum_at l hl a o ha k (by omega), implNum_at l hl a o ha k (by omega)]
 exact ⟨r1, r2⟩
theorem curQc_at (l : List Int) (hl : bytesOk l) (a : Int) (o : Bool) (ha : a ≤ 9223372036854775807) :
  ∃ (v : Int) (s : ByteArray) (w : List Int) (b : Int) (p : Bool), (∀ k, l.length + 100 < k → spec_l12Qc.f k l a o = some (v, s, w, b, p) ∧ impl_reader_qc.f k l a (!o) = some (v, s, w, b, !p)) ∧ s.size ≤ 1048576 ∧ w.length ≤ 1048600 ∧ b ≤ 9223372036854775807 := by
 obtain ⟨f1, _⟩ := cn_fine l hl a o ha
 obtain ⟨⟨g1, _⟩, g2⟩ := ct_fine l hl (cn l a o).2.1 (cn l a o).2.2 f1
 obtain ⟨w, b, p, h1, h2, h3⟩ := who_at l hl (ct l (cn l a o).2.1 (cn l a o).2.2).2.1 (ct l (cn l a o).2.1 (cn l a o).2.2).2.2 g1
 refine ⟨(cn l a o).1, (ct l (cn l a o).2.1 (cn l a o).2.2).1, w, b, p, fun k hk => ?_, g2, h2, h3⟩
 obtain ⟨r1, r2⟩ := h1 k hk
 unfold spec_l12Qc.f impl_reader_qc.f
 rw [specNum_at l hl a o ha k (by omega), implNum_at l hl a o ha k (by omega), Option.bind_some, Option.bind_some]
 have e1 := specText_at l hl (cn l a o).2.1 (cn l a o).2.2 f1 k (by omega)
 have e2 := implText_at l hl (cn l a o).2.1 (cn l a o).2.2 f1 k (by omega)
 constructor
 ·
  simp only [e1, Option.bind_some, r1]
 ·
  simp only [e2, Option.bind_some, r2]
def mkS (l : List UInt8) : ByteArray := ⟨l.toArray⟩
theorem mkS_list (l : List UInt8) : (mkS l).data.toList = l := by simp [mkS]
theorem mkS_toList (l : List UInt8) : (mkS l).toList = l := by rw [Lib.toList_data, mkS_list]
theorem mkS_size (l : List UInt8) : (mkS l).size = l.length := by simp [mkS, ByteArray.size]
theorem mkS_of (s : ByteArray) : mkS s.data.toList = s := by
 obtain ⟨⟨l⟩⟩ := s
 rfl
theorem len_size (s : ByteArray) : s.data.toList.length = s.size := by
 obtain ⟨⟨l⟩⟩ := s
 rfl
theorem s_ext {s t : ByteArray} (h : s.data.toList = t.data.toList) : s = t := by rw [← mkS_of s, ← mkS_of t, h]
theorem bt_nat (s : ByteArray) (m : Nat) (h : m < s.size) : bt s (m : Int) = ((s.data.toList[m]'(by rw [len_size]; exact h)).toNat : Int) := by
 unfold bt
 rw [dif_pos (show ((m : Int)).toNat < s.size by simpa using h)]
 simp only [Int.toNat_natCast]
 rfl
theorem drop_byte (s : ByteArray) (m : Nat) (h : m < s.size) : ∃ b : UInt8, s.data.toList.drop m = b :: s.data.toList.drop (m + 1) ∧ bt s (m : Int) = (b.toNat : Int) :=
 ⟨s.data.toList[m]'(by rw [len_size]; exact h), List.drop_eq_getElem_cons (by rw [len_size]; exact h), bt_nat s m h⟩
theorem u8_inj {a b : UInt8} : (a.toNat : Int) = (b.toNat : Int) ↔ a = b := by
 constructor
 ·
  intro h; exact UInt8.toNat_inj.1 (by omega)
 ·
  rintro rfl; rfl
def cutL (c : UInt8) : List UInt8 → Option (List UInt8 × List UInt8)
 | [] => none
 | b :: l => if b = c then some ([], l) else (cutL c l).map fun p => (b :: p.1, p.2)
theorem cutL_some {c : UInt8} : ∀ {l : List UInt8} {p : List UInt8 × List UInt8}, cutL c l = some p → l = p.1 ++ c :: p.2 ∧ c ∉ p.1
 | [], _, h => by simp [cutL] at h
 | b :: l, p, h => by
  unfold cutL at h
  by_cases hb : b = c
  ·
   rw [if_pos hb] at h
   obtain rfl := Option.some.inj h
   exact ⟨by simp [hb], by simp⟩
  ·
   rw [if_neg hb] at h
   obtain ⟨q, hq, rfl⟩ := Option.map_eq_some_iff.1 h
   obtain ⟨e, hn⟩ := cutL_some hq
   exact ⟨by simp [← e], by simp [hn, Ne.symm hb]⟩
theorem cutL_app {c : UInt8} {l r : List UInt8} (h : c ∉ l) : cutL c (l ++ c :: r) = some (l, r) := by
 induction l with
 | nil => simp [cutL]
 | cons b l ih =>
  have hb : ¬ b = c := fun e => h (by simp [e])
  simp only [List.cons_append]
  unfold cutL
  rw [if_neg hb, ih (fun hm => h (List.mem_cons_of_mem _ hm))]
  rfl
theorem indexByte_cut (c : UInt8) : ∀ l : List UInt8, match cutL c l with
  | some p => Lib.indexByte l c = (p.1.length : Int)
  | none => Lib.indexByte l c = -1
 | [] => rfl
 | b :: l => by
  have ih := indexByte_cut c l
  unfold cutL Lib.indexByte
  by_cases hb : b = c
  ·
   simp [hb]
  ·
   rw [if_neg hb, if_neg (by simpa using hb)]
   cases hc : cutL c l with
   | none => rw [hc] at ih; simp at ih; simp [ih]
   | some p =>
    rw [hc] at ih
    simp only [Option.map_some] at ih ⊢
    rw [ih, if_neg (by simp)]
    simp
theorem libcut (c : UInt8) (l : List UInt8) : Lib.cut l [c] = match cutL c l with
  | some p => (p.1, p.2, true)
  | none => (l, [], false) := by
 have h := indexByte_cut c l
 unfold Lib.cut
 rw [Lib.index_one]
 cases hc : cutL c l with
 | none => rw [hc] at h; simp only at h; simp [h]
 | some p =>
  rw [hc] at h
  simp only at h
  obtain ⟨e, _⟩ := cutL_some hc
  rw [h, if_pos (by omega)]
  simp only [Int.toNat_natCast, List.length_singleton, Prod.mk.injEq, and_true]
  constructor
  ·
   rw [e]; simp
  ·
   rw [e, show p.1 ++ c :: p.2 = (p.1 ++ [c]) ++ p.2 by simp, List.drop_left' (by simp)]
def cutI (s : ByteArray) (c : UInt8) : ByteArray × ByteArray × Bool := match cutL c s.data.toList with
 | some p => (mkS p.1, mkS p.2, true)
 | none => (s, mkS [], false)
def cutS (s : ByteArray) (c : UInt8) : ByteArray × ByteArray × Bool := match cutL c s.data.toList with
 | some p => (mkS p.1, mkS p.2, true)
 | none => (mkS [], mkS [], false)
theorem implCut_at (s : ByteArray) (c : UInt8) (hs : s.size < 4294967281) : strings_Cut.f s (⟨#[c]⟩ : ByteArray) = some (cutI s c) := by
 unfold strings_Cut.f cutI
 rw [if_pos hs, show (⟨#[c]⟩ : ByteArray).data.toList = [c] from rfl, libcut]
 cases cutL c s.data.toList with
 | some p => rfl
 | none => simp [mkS]
theorem specCut_at (s : ByteArray) (c : UInt8) (hs : s.size < 4294967281) (k : Nat) (hk : s.size < k) : spec_l2Cut.f k s (c.toNat : Int) = some (cutS s c) := by
 have key : ∀ (d k m : Nat), m + d = s.size → d < k → (∀ p, cutL c s.data.toList = some p → m ≤ p.1.length) → cutL c s.data.toList = (cutL c (s.data.toList.drop m)).map (fun p => (s.data.toList.take m ++ p.1, p.2)) →
   spec_l2Cut.l0 k s (c.toNat : Int) (m : Int) = some (cutS s c) := by
  intro d
  induction d with
  | zero =>
   intro k m hd hk hm he
   obtain ⟨k, rfl⟩ : ∃ q, k = q + 1 := ⟨k - 1, by omega⟩
   simp only [spec_l2Cut.l0]
   rw [if_neg (by omega)]
   rw [List.drop_of_length_le (by rw [len_size]; omega)] at he
   unfold cutS
   rw [he]
   rfl
  | succ d ih =>
   intro k m hd hk hm he
   obtain ⟨k, rfl⟩ : ∃ q, k = q + 1 := ⟨k - 1, by omega⟩
   obtain ⟨b, hb, hbt⟩ := drop_byte s m (by omega)
   have hw : wrap64 ((m : Int) + 1) = ((m + 1 : Nat) : Int) := wn (n := s.size) (by omega) (by omega)
   simp only [spec_l2Cut.l0]
   rw [if_pos (by omega), if_pos (by omega), hbt]
   rw [hb, show cutL c (b :: s.data.toList.drop (m + 1)) = if b = c then some ([], s.data.toList.drop (m + 1)) else (cutL c (s.data.toList.drop (m + 1))).map (fun p => (b :: p.1, p.2)) from rfl] at he
   by_cases hc : b = c
   ·
    rw [if_pos (u8_inj.2 hc), if_pos (by omega), hw, if_pos (by omega), if_pos (by omega)]
    rw [if_pos hc] at he
    unfold cutS
    rw [he]
    simp only [Option.map_some, List.append_nil, Int.toNat_natCast]
    rw [Lib.extract_eq, Lib.extract_eq]
    simp only [mkS, List.drop_zero, Nat.sub_zero, Int.toNat_natCast]
    rw [List.take_of_length_le (l := s.data.toList.drop (m + 1)) (by rw [List.length_drop, len_size]; omega)]
   ·
    rw [if_neg (fun e => hc (u8_inj.1 e)), hw]
    rw [if_neg hc] at he
    have hl : m < s.data.toList.length := by rw [len_size]; omega
    have hg : b = s.data.toList[m] := by
     have := List.drop_eq_getElem_cons hl
     rw [hb] at this
     exact (List.cons.inj this).1
    refine ih k (m + 1) (by omega) (by omega) ?_ ?_
    ·
     intro p hp
     rw [he] at hp
     obtain ⟨q, hq, rfl⟩ := Option.map_eq_some_iff.1 hp
     obtain ⟨q', _, rfl⟩ := Option.map_eq_some_iff.1 hq
     simp [len_size]; omega
    ·
     rw [he, Option.map_map]
     congr 1
     funext p
     simp only [Function.comp, Prod.mk.injEq, and_true]
     rw [List.take_succ_eq_append_getElem hl, hg]
     simp
 have h0 := key s.size k 0 (by omega) hk (fun p _ => Nat.zero_le _) (by simp)
 unfold spec_l2Cut.f
 exact h0
def splitL (c : UInt8) : List UInt8 → List (List UInt8)
 | [] => [[]]
 | b :: l => if b = c then [] :: splitL c l else match splitL c l with
  | [] => [[b]]
  | h :: t => (b :: h) :: t
def glue (p : List UInt8) : List (List UInt8) → List (List UInt8)
 | [] => [p]
 | h :: t => (p ++ h) :: t
theorem splitL_ne (c : UInt8) : ∀ l, ∃ h t, splitL c l = h :: t
 | [] => ⟨[], [], rfl⟩
 | b :: l => by
  obtain ⟨h, t, e⟩ := splitL_ne c l
  unfold splitL
  by_cases hb : b = c
  ·
   rw [if_pos hb]; exact ⟨_, _, rfl⟩
  ·
   rw [if_neg hb, e]; exact ⟨_, _, rfl⟩
theorem splitL_eq (c : UInt8) (l : List UInt8) : splitL c (c :: l) = [] :: splitL c l := by rw [splitL, if_pos rfl]
theorem splitL_cons {b c : UInt8} (h : ¬ b = c) (l : List UInt8) : splitL c (b :: l) = glue [b] (splitL c l) := by
 obtain ⟨x, t, e⟩ := splitL_ne c l
 rw [splitL, if_neg h, e]
 rfl
theorem glue_nil {c : UInt8} {l : List UInt8} : glue [] (splitL c l) = splitL c l := by
 obtain ⟨x, t, e⟩ := splitL_ne c l
 rw [e]; rfl
theorem glue_glue (p q : List UInt8) {c : UInt8} {l : List UInt8} : glue p (glue q (splitL c l)) = glue (p ++ q) (splitL c l) := by
 obtain ⟨x, t, e⟩ := splitL_ne c l
 rw [e]; simp [glue]
theorem splitL_length (c : UInt8) : ∀ l : List UInt8, (splitL c l).length ≤ l.length + 1
 | [] => by simp [splitL]
 | b :: l => by
  have ih := splitL_length c l
  by_cases h : b = c
  ·
   subst h; rw [splitL_eq]; simp; omega
  ·
   obtain ⟨x, t, e⟩ := splitL_ne c l
   rw [splitL_cons h, e]
   rw [e] at ih
   simp [glue] at ih ⊢; omega
theorem splitL_part (c : UInt8) : ∀ (l : List UInt8) (p : List UInt8), p ∈ splitL c l → p.length ≤ l.length
 | [], p, h => by simp [splitL] at h; simp [h]
 | b :: l, p, h => by
  have ih := splitL_part c l
  by_cases hb : b = c
  ·
   subst hb
   rw [splitL_eq] at h
   rcases List.mem_cons.1 h with rfl | h
   ·
    simp
   ·
    have := ih p h; simp; omega
  ·
   obtain ⟨x, t, e⟩ := splitL_ne c l
   rw [splitL_cons hb, e] at h
   rcases List.mem_cons.1 h with rfl | h
   ·
    have := ih x (by rw [e]; simp); simp; omega
   ·
    have := ih p (by rw [e]; simp [h]); simp; omega
theorem splitL_cut (c : UInt8) : ∀ l : List UInt8, splitL c l = match cutL c l with
  | some p => p.1 :: splitL c p.2
  | none => [l]
 | [] => rfl
 | b :: l => by
  have ih := splitL_cut c l
  by_cases h : b = c
  ·
   subst h; rw [splitL_eq]; simp [cutL]
  ·
   rw [splitL_cons h, ih, show cutL c (b :: l) = (cutL c l).map (fun p => (b :: p.1, p.2)) by rw [cutL, if_neg h]]
   cases cutL c l <;> simp [glue]
def splitA (c : UInt8) (s : ByteArray) : List ByteArray := (splitL c s.data.toList).map mkS
theorem indexB_cut (c : UInt8) (s : ByteArray) : match cutL c s.data.toList with
  | some p => Lib.indexB s (⟨#[c]⟩ : ByteArray) = ((p.1.length : Nat) : Int)
  | none => Lib.indexB s (⟨#[c]⟩ : ByteArray) = -1 := by
 have h := indexByte_cut c s.data.toList
 show match cutL c s.data.toList with
  | some p => Lib.index s.data.toList [c] = ((p.1.length : Nat) : Int)
  | none => Lib.index s.data.toList [c] = -1
 rw [Lib.index_one]
 exact h
theorem libsplit (c : UInt8) : ∀ (n : Nat) (s : ByteArray), s.size ≤ n → Lib.splitB (⟨#[c]⟩ : ByteArray) 0 (Lib.countB s (⟨#[c]⟩ : ByteArray)) s = splitA c s := by
 intro n
 induction n with
 | zero =>
  intro s hs
  have h := indexB_cut c s
  have h0 : s.data.toList = [] := by apply List.eq_nil_of_length_eq_zero; rw [len_size]; omega
  rw [h0] at h
  simp only [cutL] at h
  rw [Lib.countB_miss s _ h, Lib.splitB_zero]
  unfold splitA
  rw [h0]
  simp only [splitL, List.map_cons, List.map_nil]
  rw [← h0, mkS_of]
 | succ n ih =>
  intro s hs
  have h := indexB_cut c s
  cases hc : cutL c s.data.toList with
  | none =>
   rw [hc] at h
   simp only at h
   rw [Lib.countB_miss s _ h, Lib.splitB_zero]
   unfold splitA
   rw [splitL_cut, hc]
   simp only [List.map_cons, List.map_nil]
   rw [mkS_of]
  | some p =>
   rw [hc] at h
   simp only at h
   obtain ⟨e, _⟩ := cutL_some hc
   have hsz : (⟨#[c]⟩ : ByteArray).size = 1 := rfl
   rw [Lib.countB_hit s _ p.1.length (by rw [hsz]; omega) h, Nat.add_comm 1, Lib.splitB_hit _ 0 _ s p.1.length h, hsz]
   have hl : s.size = p.1.length + 1 + p.2.length := by rw [← len_size, e]; simp; omega
   have e1 : s.extract 0 (p.1.length + 0) = mkS p.1 := s_ext (by rw [Lib.extract_data, mkS_list, e]; simp)
   have e2 : s.extract (p.1.length + 1) s.size = mkS p.2 := s_ext (by
    rw [Lib.extract_data, mkS_list, e, show p.1 ++ c :: p.2 = (p.1 ++ [c]) ++ p.2 by simp, List.drop_left' (by simp), List.take_of_length_le (by omega)])
   rw [e1, e2, ih (mkS p.2) (by rw [mkS_size]; omega)]
   unfold splitA
   rw [splitL_cut c s.data.toList, hc, mkS_list]
   rfl
theorem implSplit_at (s : ByteArray) (c : UInt8) (hs : s.size < 4294967281) : impl_Split.f s (c.toNat : Int) = some (splitA c s) := by
 have hc : strOfNums ([(c.toNat : Int)] : List Int) = (⟨#[c]⟩ : ByteArray) := by
  apply s_ext
  rw [strOfNums_data]
  simp
 unfold impl_Split.f strings_Split.f
 rw [hc, if_pos hs, if_pos (show 1 ≤ (⟨#[c]⟩ : ByteArray).size from Nat.le_refl 1), libsplit c s.size s (Nat.le_refl _)]
 rfl
theorem specSplit_at (s : ByteArray) (c : UInt8) (hs : s.size < 4294967281) (k : Nat) (hk : s.size + 2 < k) : spec_Split.f k s (c.toNat : Int) = some (splitA c s) := by
 have key : ∀ (d k m f : Nat) (out : List ByteArray), m + d = s.size → d + 2 < k → f ≤ m → out.length + d + 1 < 8796093022208 →
   spec_Split.l0 k s (c.toNat : Int) out (f : Int) (m : Int) = some (out ++ (glue ((s.data.toList.drop f).take (m - f)) (splitL c (s.data.toList.drop m))).map mkS) := by
  intro d
  induction d with
  | zero =>
   intro k m f out hd hk hf ho
   obtain ⟨k, rfl⟩ : ∃ q, k = q + 2 := ⟨k - 2, by omega⟩
   have hw : wrap64 ((m : Int) + 1) = ((m + 1 : Nat) : Int) := wn (n := m + 1) (by omega) (by omega)
   simp only [spec_Split.l0]
   rw [if_pos (show (m : Int) ≤ (s.size : Int) by omega), if_pos (show (m : Int) = (s.size : Int) by omega), if_pos (by omega), if_pos (by omega), if_pos (by omega), hw, if_neg (by omega)]
   rw [List.drop_of_length_le (i := m) (by rw [len_size]; omega)]
   simp only [splitL, glue, List.append_nil, List.map_cons, List.map_nil, Int.toNat_natCast]
   rw [Lib.extract_eq]
   rfl
  | succ d ih =>
   intro k m f out hd hk hf ho
   obtain ⟨k, rfl⟩ : ∃ q, k = q + 1 := ⟨k - 1, by omega⟩
   obtain ⟨b, hb, hbt⟩ := drop_byte s m (by omega)
   have hw : wrap64 ((m : Int) + 1) = ((m + 1 : Nat) : Int) := wn (n := s.size) (by omega) (by omega)
   have hl : m < s.data.toList.length := by rw [len_size]; omega
   have hg : s.data.toList[m] = b := by
    have := List.drop_eq_getElem_cons hl
    rw [hb] at this
    exact (List.cons.inj this).1.symm
   simp only [spec_Split.l0]
   rw [if_pos (show (m : Int) ≤ (s.size : Int) by omega), if_neg (show ¬ (m : Int) = (s.size : Int) by omega), if_pos (by omega), if_pos (by omega), hbt, hb]
   by_cases hc : b = c
   ·
    subst hc
    rw [if_pos rfl, if_pos (by omega), if_pos (by omega), if_pos (by omega), hw, ih k (m + 1) (m + 1) _ (by omega) (by omega) (Nat.le_refl _) (by simp; omega), splitL_eq, Nat.sub_self, List.take_zero, glue_nil]
    simp only [glue, List.append_nil, List.map_cons, Int.toNat_natCast]
    rw [Lib.extract_eq]
    simp [mkS]
   ·
    rw [if_neg (fun e => hc (u8_inj.1 e)), hw, ih k (m + 1) f _ (by omega) (by omega) (by omega) (by omega), splitL_cons hc, glue_glue]
    congr 4
    rw [show m + 1 - f = (m - f) + 1 by omega, List.take_succ_eq_append_getElem (by rw [List.length_drop]; omega), List.getElem_drop]
    congr 2
    rw [← hg]
    congr 1
    omega
 have h0 := key s.size k 0 0 [] (by omega) (by omega) (Nat.le_refl _) (by simp; omega)
 unfold spec_Split.f splitA
 simp only [Nat.sub_self, List.take_zero, List.drop_zero, glue_nil, List.nil_append] at h0
 exact h0
def digS (n : Nat) : ByteArray := mkS (Lib.decDigits n)
theorem dig_isDigit (n : Nat) : ∀ b ∈ Lib.decDigits n, 48 ≤ b.toNat ∧ b.toNat ≤ 57 := by
 induction n using Nat.strongRecOn with
 | _ n ih =>
  intro b hb
  rw [Lib.decDigits] at hb
  by_cases h : n < 10
  ·
   rw [dif_pos h] at hb
   obtain rfl := List.mem_singleton.1 hb
   rw [UInt8.toNat_ofNat']
   omega
  ·
   rw [dif_neg h] at hb
   rcases List.mem_append.1 hb with hb | hb
   ·
    exact ih (n / 10) (by omega) b hb
   ·
    obtain rfl := List.mem_singleton.1 hb
    rw [UInt8.toNat_ofNat']
    omega
theorem dig_ne (n : Nat) (c : UInt8) (h : c.toNat < 48 ∨ 57 < c.toNat) : c ∉ Lib.decDigits n := fun hm => by
 have := dig_isDigit n c hm
 omega
theorem dig_len (j : Nat) : ∀ n, n < 10 ^ (j + 1) → (Lib.decDigits n).length ≤ j + 1 := by
 induction j with
 | zero => intro n h; rw [Lib.decDigits_one (by omega)]; simp
 | succ j ih =>
  intro n h
  rw [Lib.decDigits]
  by_cases h1 : n < 10
  ·
   rw [dif_pos h1]; simp
  ·
   rw [dif_neg h1]
   have := ih (n / 10) (by rw [Nat.pow_succ] at h; omega)
   simp only [List.length_append, List.length_singleton]; omega
theorem dig_pos (n : Nat) : 0 < (Lib.decDigits n).length := by
 rw [Lib.decDigits]
 split <;> simp
theorem implDigits_at (n : Nat) (h : n ≤ 9223372036854775807) : impl_Digits.f (n : Int) = some (digS n) := by
 unfold impl_Digits.f strconv_Itoa_205.f digS
 rw [if_pos (by omega), if_pos (by omega), Option.bind_some]
 unfold Lib.itoa
 rw [if_neg (by omega)]
 rfl
theorem specDigits_l : ∀ (j n k : Nat) (acc : ByteArray), n < 10 ^ j → n ≤ 9223372036854775807 → j < k → acc.size + j ≤ 1000 →
  spec_Digits.l0 k (n : Int) false acc = some (mkS ((if n = 0 then [] else Lib.decDigits n) ++ acc.data.toList)) := by
 intro j
 induction j with
 | zero =>
  intro n k acc h hn hk ha
  obtain ⟨k, rfl⟩ : ∃ q, k = q + 1 := ⟨k - 1, by omega⟩
  obtain rfl : n = 0 := by simpa using h
  simp only [spec_Digits.l0]
  simp [mkS_of]
 | succ j ih =>
  intro n k acc h hn hk ha
  obtain ⟨k, rfl⟩ : ∃ q, k = q + 1 := ⟨k - 1, by omega⟩
  simp only [spec_Digits.l0]
  by_cases h0 : n = 0
  ·
   subst h0; simp [mkS_of]
  ·
   have hm : Int.tmod (n : Int) 10 = ((n % 10 : Nat) : Int) := by rw [Int.tmod_eq_emod_of_nonneg (by omega)]; omega
   have hd : wrap64 (Int.tdiv (n : Int) 10) = ((n / 10 : Nat) : Int) := by
    rw [Int.tdiv_eq_ediv_of_nonneg (by omega)]
    unfold wrap64; omega
   have hw : wrap64 (48 + ((n % 10 : Nat) : Int)) % 256 = ((48 + n % 10 : Nat) : Int) := by unfold wrap64; omega
   rw [if_neg (by omega), hm, if_neg (by omega), Option.bind_some, hw, hd]
   have hs : (strOfNums [((48 + n % 10 : Nat) : Int)]).size = 1 := by rw [strOfNums_size]; rfl
   rw [if_pos (by rw [hs]; omega), ih (n / 10) k _ (by rw [Nat.pow_succ] at h; omega) (by omega) (by omega) (by rw [ByteArray.size_append, hs]; omega)]
   congr 2
   rw [if_neg h0]
   simp only [ByteArray.data_append, Array.toList_append, strOfNums_data, List.map_cons, List.map_nil, Int.toNat_natCast]
   by_cases h1 : n < 10
   ·
    rw [if_pos (by omega), Lib.decDigits_one h1, Nat.mod_eq_of_lt h1]
    rfl
   ·
    have e : Lib.decDigits n = Lib.decDigits (n / 10) ++ [UInt8.ofNat (48 + n % 10)] := by rw [Lib.decDigits, dif_neg h1]
    rw [if_neg (by omega), e]
    simp
theorem specDigits_at (n : Nat) (h : n < 10 ^ 20) (h' : n ≤ 9223372036854775807) (k : Nat) (hk : 20 < k) : spec_Digits.f k (n : Int) = some (digS n) := by
 unfold spec_Digits.f digS
 by_cases h0 : n = 0
 ·
  subst h0
  rw [if_pos (show ((0 : Nat) : Int) = 0 from rfl), Lib.decDigits_one (by omega)]
  rfl
 ·
  rw [if_neg (by omega), show decide ((n : Int) < 0) = false by simp, specDigits_l 20 n k _ h h' hk (by decide), if_neg h0]
  congr 2
  show Lib.decDigits n ++ [] = _
  simp
theorem num_w1 (n b : Int) (h0 : 0 ≤ n) (h1 : n < 1000000) (hb : 48 ≤ b) (hb2 : b ≤ 255) : wrap64 (wrap64 (wrap64 (10 * n) + wrap64 b) - 48) = 10 * n + (b - 48) := by
 have w1 : wrap64 (10 * n) = 10 * n := by unfold wrap64; omega
 have w2 : wrap64 b = b := by unfold wrap64; omega
 rw [w1, w2]
 have w3 : wrap64 (10 * n + b) = 10 * n + b := by unfold wrap64; omega
 rw [w3]
 unfold wrap64; omega
theorem num_w2 (n b : Int) (h0 : 0 ≤ n) (h1 : n < 1000000) (hb : 48 ≤ b) (hb2 : b ≤ 255) : wrap64 (wrap64 (10 * n) + (b - 48) % 256) = 10 * n + (b - 48) := by
 have w1 : wrap64 (10 * n) = 10 * n := by unfold wrap64; omega
 have w2 : (b - 48) % 256 = b - 48 := by omega
 rw [w1, w2]
 unfold wrap64; omega
theorem number_l (s : ByteArray) (h6 : s.size ≤ 6) : ∀ (d k m n : Nat), m + d = s.size → d + 25 < k → n < 10 ^ m →
  ∃ r : Int × Bool, spec_Number.l0 k s (n : Int) (m : Int) = some r ∧ impl_Number.l0 k s (n : Int) (m : Int) = some r ∧ ∃ q : Nat, r.1 = (q : Int) ∧ q < 1000000 ∧ (r.2 = true → s = digS q) := by
 intro d
 induction d with
 | zero =>
  intro k m n hd hk hn
  obtain ⟨k, rfl⟩ : ∃ q, k = q + 1 := ⟨k - 1, by omega⟩
  have hp : 10 ^ m ≤ 10 ^ 6 := Nat.pow_le_pow_right (by omega) (by omega)
  have hn6 : n < 1000000 := by omega
  have hs : spec_Number.l0 (k + 1) s (n : Int) (m : Int) = if (digS n).toList = s.toList then some ((n : Int), true) else some (0, false) := by
   simp only [spec_Number.l0]
   rw [if_neg (by omega), specDigits_at n (by omega) (by omega) k (by omega), Option.bind_some]
  have hi : impl_Number.l0 (k + 1) s (n : Int) (m : Int) = if (digS n).toList = s.toList then some ((n : Int), true) else some (0, false) := by
   simp only [impl_Number.l0]
   rw [if_neg (by omega), implDigits_at n (by omega), Option.bind_some]
  rw [hs, hi]
  by_cases h : (digS n).toList = s.toList
  ·
   rw [if_pos h]
   refine ⟨_, rfl, rfl, n, rfl, hn6, fun _ => ?_⟩
   rw [Lib.toList_data, Lib.toList_data] at h
   exact (s_ext h).symm
  ·
   rw [if_neg h]
   exact ⟨_, rfl, rfl, 0, rfl, by omega, fun e => by cases e⟩
 | succ d ih =>
  intro k m n hd hk hn
  obtain ⟨k, rfl⟩ : ∃ q, k = q + 1 := ⟨k - 1, by omega⟩
  have hp : 10 ^ m ≤ 10 ^ 6 := Nat.pow_le_pow_right (by omega) (by omega)
  have hn6 : (n : Int) < 1000000 := by omega
  obtain ⟨b, hb, hbt⟩ := drop_byte s m (by omega)
  have hw : wrap64 ((m : Int) + 1) = ((m + 1 : Nat) : Int) := wn (n := s.size) (by omega) (by omega)
  have hs : spec_Number.l0 (k + 1) s (n : Int) (m : Int) = if (b.toNat : Int) < 48 then some (0, false) else if (b.toNat : Int) > 57 then some (0, false) else spec_Number.l0 k s ((10 * n + (b.toNat - 48) : Nat) : Int) ((m + 1 : Nat) : Int) := by
   simp only [spec_Number.l0]
   rw [if_pos (by omega), if_pos (by omega), hbt, hw]
   by_cases h1 : (b.toNat : Int) < 48
   ·
    rw [if_pos h1, if_pos h1]
   ·
    have e1 : wrap64 (wrap64 (wrap64 (10 * (n : Int)) + wrap64 (b.toNat : Int)) - 48) = ((10 * n + (b.toNat - 48) : Nat) : Int) := by
     have := b.toNat_lt
     rw [num_w1 n b.toNat (by omega) hn6 (by omega) (by omega)]; omega
    rw [if_neg h1, if_neg h1, e1]
  have hi : impl_Number.l0 (k + 1) s (n : Int) (m : Int) = if (b.toNat : Int) < 48 then some (0, false) else if (b.toNat : Int) > 57 then some (0, false) else impl_Number.l0 k s ((10 * n + (b.toNat - 48) : Nat) : Int) ((m + 1 : Nat) : Int) := by
   simp only [impl_Number.l0]
   rw [if_pos (by omega), if_pos (by omega), hbt, hw]
   by_cases h1 : (b.toNat : Int) < 48
   ·
    rw [if_pos h1, if_pos h1]
   ·
    have e2 : wrap64 (wrap64 (10 * (n : Int)) + ((b.toNat : Int) - 48) % 256) = ((10 * n + (b.toNat - 48) : Nat) : Int) := by
     have := b.toNat_lt
     rw [num_w2 n b.toNat (by omega) hn6 (by omega) (by omega)]; omega
    rw [if_neg h1, if_neg h1, e2]
  rw [hs, hi]
  by_cases h1 : (b.toNat : Int) < 48
  ·
   exact ⟨(0, false), by rw [if_pos h1], by rw [if_pos h1], 0, rfl, by omega, fun e => by cases e⟩
  ·
   by_cases h2 : (b.toNat : Int) > 57
   ·
    exact ⟨(0, false), by rw [if_neg h1, if_pos h2], by rw [if_neg h1, if_pos h2], 0, rfl, by omega, fun e => by cases e⟩
   ·
    simp only [h1, h2, if_false]
    exact ih k (m + 1) _ (by omega) (by omega) (by rw [Nat.pow_succ]; omega)
theorem number_at (s : ByteArray) (k : Nat) (hk : 40 < k) : ∃ r : Int × Bool, spec_Number.f k s = some r ∧ impl_Number.f k s = some r ∧ ∃ q : Nat, r.1 = (q : Int) ∧ q < 1000000 ∧ (r.2 = true → s = digS q) := by
 unfold spec_Number.f impl_Number.f
 obtain ⟨k, rfl⟩ : ∃ q, k = q + 1 := ⟨k - 1, by omega⟩
 by_cases h1 : (s.size : Int) < 1
 ·
  refine ⟨(0, false), ?_, ?_, 0, rfl, by omega, fun e => by cases e⟩
  ·
   first | (rw [if_pos h1]; done) | (rw [if_pos h1]; simp [spec_Number.j0])
  ·
   first | (rw [if_pos h1]; done) | (rw [if_pos h1]; simp [impl_Number.j0])
 ·
  by_cases h2 : (s.size : Int) > 6
  ·
   refine ⟨(0, false), ?_, ?_, 0, rfl, by omega, fun e => by cases e⟩
   ·
    first | (rw [if_neg h1, if_pos h2]; done) | (rw [if_neg h1]; simp only [spec_Number.j0]; rw [if_pos (decide_eq_true h2)])
   ·
    first | (rw [if_neg h1, if_pos h2]; done) | (rw [if_neg h1]; simp only [impl_Number.j0]; rw [if_pos (decide_eq_true h2)])
  ·
   first
   | (obtain ⟨r, e1, e2, e3⟩ := number_l s (by omega) s.size (k + 1) 0 0 (by omega) (by omega) (by omega); exact ⟨r, by rw [if_neg h1, if_neg h2]; exact e1, by rw [if_neg h1, if_neg h2]; exact e2, e3⟩)
   | (obtain ⟨r, e1, e2, e3⟩ := number_l s (by omega) s.size k 0 0 (by omega) (by omega) (by omega); exact ⟨r, by rw [if_neg h1]; simp only [spec_Number.j0]; rw [if_neg (by simpa using h2)]; exact e1, by rw [if_neg h1]; simp only [impl_Number.j0]; rw [if_neg (by simpa using h2)]; exact e2, e3⟩) | (rw [if_neg h1]; simp only [impl_Number.j0]; rw [if_neg (by simpa using h2)]; exact e2)
def txB (a b c d : Nat) : Bool := decide ((a : Int) ≤ 3 ∧ (b : Int) ≤ 3 ∧ (c : Int) ≤ 1000 ∧ (d : Int) ≤ 99)
def txL (a b c d : Nat) : List UInt8 := Lib.decDigits a ++ 62 :: (Lib.decDigits b ++ 58 :: (Lib.decDigits c ++ 35 :: Lib.decDigits d))
theorem implTxOk_at (a b c d : Nat) : impl_TxOk.f (a : Int) (b : Int) (c : Int) (d : Int) = some (txB a b c d) := by
 unfold impl_TxOk.f impl_within.f txB
 rw [if_pos (by omega), if_pos (by omega), if_pos (by omega), if_pos (by omega)]
 by_cases h1 : (a : Int) ≤ 3 <;> by_cases h2 : (b : Int) ≤ 3 <;> by_cases h3 : (c : Int) ≤ 1000 <;> by_cases h4 : (d : Int) ≤ 99 <;> simp [h1, h2, h3, h4]
theorem specTxOk_at (a b c d : Nat) : spec_TxOk.f (a : Int) (b : Int) (c : Int) (d : Int) = some (txB a b c d) := implTxOk_at a b c d
theorem digS_size (n : Nat) (h : n < 1000000) : (digS n).size ≤ 6 := by
 unfold digS
 rw [mkS_size]
 exact dig_len 5 n h
theorem tx_join (a b c d : Nat) : ((((((digS a ++ (⟨#[62]⟩ : ByteArray)) ++ digS b) ++ (⟨#[58]⟩ : ByteArray)) ++ digS c) ++ (⟨#[35]⟩ : ByteArray)) ++ digS d) = mkS (txL a b c d) := by
 apply s_ext
 simp only [ByteArray.data_append, Array.toList_append, mkS_list, digS, txL]
 simp
theorem implTxText_at (a b c d : Nat) (ha : a < 1000000) (hb : b < 1000000) (hc : c < 1000000) (hd : d < 1000000) :
  impl_TxText.f (a : Int) (b : Int) (c : Int) (d : Int) = some (if txB a b c d = true then mkS (txL a b c d) else mkS []) := by
 have s1 := digS_size a ha
 have s2 := digS_size b hb
 have s3 := digS_size c hc
 have s4 := digS_size d hd
 have o1 : (⟨#[62]⟩ : ByteArray).size = 1 := rfl
 have o2 : (⟨#[58]⟩ : ByteArray).size = 1 := rfl
 have o3 : (⟨#[35]⟩ : ByteArray).size = 1 := rfl
 unfold impl_TxText.f
 rw [implTxOk_at, Option.bind_some]
 by_cases h : txB a b c d = true
 ·
  rw [if_pos h, if_pos h, implDigits_at a (by omega), Option.bind_some, if_pos (by omega), implDigits_at b (by omega), Option.bind_some, if_pos (by simp only [ByteArray.size_append]; omega), if_pos (by simp only [ByteArray.size_append]; omega),
   implDigits_at c (by omega), Option.bind_some, if_pos (by simp only [ByteArray.size_append]; omega), if_pos (by simp only [ByteArray.size_append]; omega), implDigits_at d (by omega), Option.bind_some, if_pos (by simp only [ByteArray.size_append]; omega), tx_join]
 ·
  rw [if_neg h, if_neg h]; rfl
theorem specTxText_at (a b c d : Nat) (ha : a < 1000000) (hb : b < 1000000) (hc : c < 1000000) (hd : d < 1000000) (k : Nat) (hk : 20 < k) :
  spec_TxText.f k (a : Int) (b : Int) (c : Int) (d : Int) = some (if txB a b c d = true then mkS (txL a b c d) else mkS []) := by
 have s1 := digS_size a ha
 have s2 := digS_size b hb
 have s3 := digS_size c hc
 have s4 := digS_size d hd
 have o1 : (⟨#[62]⟩ : ByteArray).size = 1 := rfl
 have o2 : (⟨#[58]⟩ : ByteArray).size = 1 := rfl
 have o3 : (⟨#[35]⟩ : ByteArray).size = 1 := rfl
 have p : (1000000 : Nat) ≤ 10 ^ 20 := by decide
 unfold spec_TxText.f
 rw [specTxOk_at, Option.bind_some]
 by_cases h : txB a b c d = true
 ·
  rw [if_pos h, if_pos h, specDigits_at a (by omega) (by omega) k hk, Option.bind_some, if_pos (by omega), specDigits_at b (by omega) (by omega) k hk, Option.bind_some, if_pos (by simp only [ByteArray.size_append]; omega), if_pos (by simp only [ByteArray.size_append]; omega),
   specDigits_at c (by omega) (by omega) k hk, Option.bind_some, if_pos (by simp only [ByteArray.size_append]; omega), if_pos (by simp only [ByteArray.size_append]; omega), specDigits_at d (by omega) (by omega) k hk, Option.bind_some, if_pos (by simp only [ByteArray.size_append]; omega), tx_join]
 ·
  rw [if_neg h, if_neg h]; rfl
def tell (s : ByteArray) (a b c d : Nat) : Int × Int × Int × Int × Bool := if txB a b c d = true ∧ txL a b c d = s.data.toList then ((a : Int), (b : Int), (c : Int), (d : Int), true) else (0, 0, 0, 0, false)
theorem txL_chain (a b c d : Nat) : cutL 62 (txL a b c d) = some (Lib.decDigits a, Lib.decDigits b ++ 58 :: (Lib.decDigits c ++ 35 :: Lib.decDigits d)) ∧
  cutL 58 (Lib.decDigits b ++ 58 :: (Lib.decDigits c ++ 35 :: Lib.decDigits d)) = some (Lib.decDigits b, Lib.decDigits c ++ 35 :: Lib.decDigits d) ∧ cutL 35 (Lib.decDigits c ++ 35 :: Lib.decDigits d) = some (Lib.decDigits c, Lib.decDigits d) :=
 ⟨cutL_app (dig_ne a 62 (by decide)), cutL_app (dig_ne b 58 (by decide)), cutL_app (dig_ne c 35 (by decide))⟩
theorem implTxOf_core (s x1 x2 x3 y1 y2 y3 : ByteArray) (b1 b2 b3 : Bool) (k : Nat) (hk : 40 < k) (h1 : strings_Cut.f s (⟨#[62]⟩ : ByteArray) = some (x1, y1, b1)) (h2 : strings_Cut.f y1 (⟨#[58]⟩ : ByteArray) = some (x2, y2, b2)) (h3 : strings_Cut.f y2 (⟨#[35]⟩ : ByteArray) = some (x3, y3, b3))
  (a b c d : Nat) (ha : a < 1000000) (hb : b < 1000000) (hc : c < 1000000) (hd : d < 1000000) (m1 m2 m3 m4 : Bool)
  (n1 : impl_Number.f k x1 = some ((a : Int), m1)) (n2 : impl_Number.f k x2 = some ((b : Int), m2)) (n3 : impl_Number.f k x3 = some ((c : Int), m3)) (n4 : impl_Number.f k y3 = some ((d : Int), m4)) : impl_TxOf.f k s = some (tell s a b c d) := by
 unfold impl_TxOf.f tell
 rw [h1, Option.bind_some]; dsimp only
 rw [h2, Option.bind_some]; dsimp only
 rw [h3, Option.bind_some]; dsimp only
 rw [n1, Option.bind_some, n2, Option.bind_some, n3, Option.bind_some, n4, Option.bind_some]; dsimp only
 rw [implTxOk_at, Option.bind_some, implTxText_at a b c d ha hb hc hd]
 by_cases h : txB a b c d = true
 ·
  rw [if_pos h, Option.bind_some, if_pos h, mkS_toList, Lib.toList_data]
  by_cases e : txL a b c d = s.data.toList
  ·
   rw [if_pos e, if_pos ⟨h, e⟩]
  ·
   rw [if_neg e, if_neg (fun x => e x.2)]
 ·
  rw [if_neg h, if_neg (fun x => h x.1)]
theorem specTxOf_core (s x1 x2 x3 y1 y2 y3 : ByteArray) (b1 b2 b3 : Bool) (k : Nat) (hk : 40 < k) (h1 : spec_l2Cut.f k s 62 = some (x1, y1, b1)) (h2 : spec_l2Cut.f k y1 58 = some (x2, y2, b2)) (h3 : spec_l2Cut.f k y2 35 = some (x3, y3, b3))
  (a b c d : Nat) (ha : a < 1000000) (hb : b < 1000000) (hc : c < 1000000) (hd : d < 1000000) (m1 m2 m3 m4 : Bool)
  (n1 : spec_Number.f k x1 = some ((a : Int), m1)) (n2 : spec_Number.f k x2 = some ((b : Int), m2)) (n3 : spec_Number.f k x3 = some ((c : Int), m3)) (n4 : spec_Number.f k y3 = some ((d : Int), m4)) : spec_TxOf.f k s = some (tell s a b c d) := by
 unfold spec_TxOf.f tell
 rw [h1, Option.bind_some]; dsimp only
 rw [h2, Option.bind_some]; dsimp only
 rw [h3, Option.bind_some]; dsimp only
 rw [n1, Option.bind_some, n2, Option.bind_some, n3, Option.bind_some, n4, Option.bind_some]; dsimp only
 rw [specTxText_at a b c d ha hb hc hd k (by omega), Lib.toList_data]
 by_cases e0 : s.data.toList = []
 ·
  rw [if_pos e0, if_neg]
  rintro ⟨_, x⟩
  rw [e0] at x
  have := dig_pos a
  simp [txL] at x
 ·
  rw [if_neg e0, Option.bind_some]
  by_cases h : txB a b c d = true
  ·
   rw [if_pos h, mkS_toList]
   by_cases e : txL a b c d = s.data.toList
   ·
    rw [if_pos e, if_pos ⟨h, e⟩]
   ·
    rw [if_neg e, if_neg (fun x => e x.2)]
  ·
   rw [if_neg h, mkS_toList, if_neg (fun x => e0 x.symm), if_neg (fun x => h x.1)]
theorem num_of (x : ByteArray) (k : Nat) (hk : 40 < k) : ∃ (a : Nat) (m : Bool), a < 1000000 ∧ spec_Number.f k x = some ((a : Int), m) ∧ impl_Number.f k x = some ((a : Int), m) := by
 obtain ⟨⟨r, m⟩, e1, e2, q, rfl, hq, _⟩ := number_at x k hk
 exact ⟨q, m, hq, e1, e2⟩
theorem tell_none (s : ByteArray) (h : ∀ p1 p2 p3, cutL 62 s.data.toList = some p1 → cutL 58 p1.2 = some p2 → cutL 35 p2.2 = some p3 → False) (a b c d : Nat) : tell s a b c d = (0, 0, 0, 0, false) := by
 unfold tell
 rw [if_neg]
 rintro ⟨_, e⟩
 obtain ⟨c1, c2, c3⟩ := txL_chain a b c d
 rw [e] at c1
 exact h _ _ _ c1 c2 c3
theorem txOf_at (s : ByteArray) (hs : s.size < 4294967281) (k : Nat) (hk : s.size + 41 < k) : ∃ r, spec_TxOf.f k s = some r ∧ impl_TxOf.f k s = some r := by
 have both : ∀ (x1 x2 x3 y1 y2 y3 x1' x2' x3' y1' y2' y3' : ByteArray) (b1 b2 b3 b1' b2' b3' : Bool),
   spec_l2Cut.f k s 62 = some (x1, y1, b1) → spec_l2Cut.f k y1 58 = some (x2, y2, b2) → spec_l2Cut.f k y2 35 = some (x3, y3, b3) →
   strings_Cut.f s (⟨#[62]⟩ : ByteArray) = some (x1', y1', b1') → strings_Cut.f y1' (⟨#[58]⟩ : ByteArray) = some (x2', y2', b2') → strings_Cut.f y2' (⟨#[35]⟩ : ByteArray) = some (x3', y3', b3') →
   ((∀ a b c d : Nat, tell s a b c d = (0, 0, 0, 0, false)) ∨ (x1 = x1' ∧ x2 = x2' ∧ x3 = x3' ∧ y3 = y3')) → ∃ r, spec_TxOf.f k s = some r ∧ impl_TxOf.f k s = some r := by
  intro x1 x2 x3 y1 y2 y3 x1' x2' x3' y1' y2' y3' b1 b2 b3 b1' b2' b3' h1 h2 h3 g1 g2 g3 hor
  rcases hor with ht | ⟨rfl, rfl, rfl, rfl⟩
  ·
   obtain ⟨a, m1, ha, n1, _⟩ := num_of x1 k (by omega)
   obtain ⟨b, m2, hb, n2, _⟩ := num_of x2 k (by omega)
   obtain ⟨c, m3, hc, n3, _⟩ := num_of x3 k (by omega)
   obtain ⟨d, m4, hd, n4, _⟩ := num_of y3 k (by omega)
   obtain ⟨a', m1', ha', _, n1'⟩ := num_of x1' k (by omega)
   obtain ⟨b', m2', hb', _, n2'⟩ := num_of x2' k (by omega)
   obtain ⟨c', m3', hc', _, n3'⟩ := num_of x3' k (by omega)
   obtain ⟨d', m4', hd', _, n4'⟩ := num_of y3' k (by omega)
   refine ⟨(0, 0, 0, 0, false), ?_, ?_⟩
   ·
    rw [specTxOf_core s x1 x2 x3 y1 y2 y3 b1 b2 b3 k (by omega) h1 h2 h3 a b c d ha hb hc hd m1 m2 m3 m4 n1 n2 n3 n4, ht]
   ·
    rw [implTxOf_core s x1' x2' x3' y1' y2' y3' b1' b2' b3' k (by omega) g1 g2 g3 a' b' c' d' ha' hb' hc' hd' m1' m2' m3' m4' n1' n2' n3' n4', ht]
  ·
   obtain ⟨a, m1, ha, n1, n1'⟩ := num_of x1 k (by omega)
   obtain ⟨b, m2, hb, n2, n2'⟩ := num_of x2 k (by omega)
   obtain ⟨c, m3, hc, n3, n3'⟩ := num_of x3 k (by omega)
   obtain ⟨d, m4, hd, n4, n4'⟩ := num_of y3 k (by omega)
   exact ⟨_, specTxOf_core s x1 x2 x3 y1 y2 y3 b1 b2 b3 k (by omega) h1 h2 h3 a b c d ha hb hc hd m1 m2 m3 m4 n1 n2 n3 n4, implTxOf_core s x1 x2 x3 y1' y2' y3 b1' b2' b3' k (by omega) g1 g2 g3 a b c d ha hb hc hd m1 m2 m3 m4 n1' n2' n3' n4'⟩
 have sz0 : (mkS []).size = 0 := rfl
 have sp : ∀ {c : UInt8} {l : List UInt8} {p : List UInt8 × List UInt8}, cutL c l = some p → (mkS p.1).size ≤ l.length ∧ (mkS p.2).size ≤ l.length := by
  intro c l p h
  obtain ⟨e, _⟩ := cutL_some h
  rw [mkS_size, mkS_size, e]
  simp; omega
 have cS : ∀ (x : ByteArray) (c : UInt8), (cutS x c).2.1.size ≤ x.size := by
  intro x c
  unfold cutS
  cases h : cutL c x.data.toList with
  | none => simp only; rw [sz0]; omega
  | some p => simp only; have := (sp h).2; rw [len_size] at this; exact this
 have cI : ∀ (x : ByteArray) (c : UInt8), (cutI x c).2.1.size ≤ x.size := by
  intro x c
  unfold cutI
  cases h : cutL c x.data.toList with
  | none => simp only; rw [sz0]; omega
  | some p => simp only; have := (sp h).2; rw [len_size] at this; exact this
 have k1 := cS s 62
 have k2 := cS (cutS s 62).2.1 58
 have i1 := cI s 62
 have i2 := cI (cutI s 62).2.1 58
 refine both _ _ _ _ _ _ _ _ _ _ _ _ _ _ _ _ _ _ (specCut_at s 62 hs k (by omega)) (specCut_at (cutS s 62).2.1 58 (by omega) k (by omega)) (specCut_at (cutS (cutS s 62).2.1 58).2.1 35 (by omega) k (by omega))
  (implCut_at s 62 hs) (implCut_at (cutI s 62).2.1 58 (by omega)) (implCut_at (cutI (cutI s 62).2.1 58).2.1 35 (by omega)) ?_
 by_cases hn : ∃ p1 p2 p3, cutL 62 s.data.toList = some p1 ∧ cutL 58 p1.2 = some p2 ∧ cutL 35 p2.2 = some p3
 rotate_left
 ·
  exact Or.inl (tell_none s (fun p1 p2 p3 x1 x2 x3 => hn ⟨p1, p2, p3, x1, x2, x3⟩))
 ·
  right
  obtain ⟨p1, p2, p3, e1, e2, e3⟩ := hn
  have a1 : cutS s 62 = (mkS p1.1, mkS p1.2, true) := by unfold cutS; rw [e1]
  have a2 : cutI s 62 = (mkS p1.1, mkS p1.2, true) := by unfold cutI; rw [e1]
  have a3 : cutS (mkS p1.2) 58 = (mkS p2.1, mkS p2.2, true) := by unfold cutS; rw [mkS_list, e2]
  have a4 : cutI (mkS p1.2) 58 = (mkS p2.1, mkS p2.2, true) := by unfold cutI; rw [mkS_list, e2]
  have a5 : cutS (mkS p2.2) 35 = (mkS p3.1, mkS p3.2, true) := by unfold cutS; rw [mkS_list, e3]
  have a6 : cutI (mkS p2.2) 35 = (mkS p3.1, mkS p3.2, true) := by unfold cutI; rw [mkS_list, e3]
  simp only [a1, a2, a3, a4, a5, a6, mkS_list, e1, e2, e3, and_self]
theorem rdOf_mem {α : Type} (d : α) (xs : List α) (m : Nat) (h : m < xs.length) : rdOf d xs (m : Int) ∈ xs := by
 unfold rdOf
 simp [List.getD_eq_getElem?_getD, List.getElem?_eq_getElem h]
theorem splitA_size (c : UInt8) (s : ByteArray) : ∀ p ∈ splitA c s, p.size ≤ s.size := by
 intro p hp
 unfold splitA at hp
 obtain ⟨l, hl, rfl⟩ := List.mem_map.1 hp
 rw [mkS_size, ← len_size]
 exact splitL_part c _ l hl
theorem splitA_length (c : UInt8) (s : ByteArray) : (splitA c s).length ≤ s.size + 1 := by
 unfold splitA
 rw [List.length_map, ← len_size]
 exact splitL_length c _
theorem txsOf_l (ps : List ByteArray) (hL : ps.length < 1000000000000) (B : Nat) (hB : B < 4294967281) (hp : ∀ p ∈ ps, p.size ≤ B) : ∀ (d k m : Nat) (out : List (S156)), m + d = ps.length → d + B + 42 < k → out.length + d < 4398046511104 →
  ∃ r, spec_TxsOf.l0 k out ps (m : Int) = some r ∧ impl_TxsOf.l0 k out ps (ps.length : Int) (m : Int) = some r ∧ r.1.length ≤ out.length + d := by
 intro d
 induction d with
 | zero =>
  intro k m out hd hk ho
  obtain ⟨k, rfl⟩ : ∃ q, k = q + 1 := ⟨k - 1, by omega⟩
  refine ⟨(out, true), ?_, ?_, Nat.le_refl _⟩
  ·
   simp only [spec_TxsOf.l0]; rw [if_neg (by omega)]
  ·
   simp only [impl_TxsOf.l0]; rw [if_neg (by omega)]
 | succ d ih =>
  intro k m out hd hk ho
  obtain ⟨k, rfl⟩ : ∃ q, k = q + 1 := ⟨k - 1, by omega⟩
  have hs := hp _ (rdOf_mem ByteArray.empty ps m (by omega))
  obtain ⟨⟨a, b, c, e, ok⟩, h1, h2⟩ := txOf_at (rdOf ByteArray.empty ps (m : Int)) (by omega) k (by omega)
  have hw : wrap64 ((m : Int) + 1) = ((m + 1 : Nat) : Int) := wn (n := ps.length) (by omega) (by omega)
  have e1 : spec_TxsOf.l0 (k + 1) out ps (m : Int) = if ok = true then spec_TxsOf.l0 k (out ++ [⟨a, b, c, e⟩]) ps ((m + 1 : Nat) : Int) else some ([], false) := by
   simp only [spec_TxsOf.l0]
   rw [if_pos (by omega), if_pos (by omega), h1, Option.bind_some, hw, if_pos (show out.length < 4398046511104 by omega)]
  have e2 : impl_TxsOf.l0 (k + 1) out ps (ps.length : Int) (m : Int) = if ok = true then impl_TxsOf.l0 k (out ++ [⟨a, b, c, e⟩]) ps (ps.length : Int) ((m + 1 : Nat) : Int) else some ([], false) := by
   simp only [impl_TxsOf.l0]
   rw [if_pos (show (m : Int) < (ps.length : Int) by omega), if_pos (by omega), if_pos (by omega), h2, Option.bind_some, hw, if_pos (show out.length < 4398046511104 by omega)]
  rw [e1, e2]
  by_cases h : ok = true
  ·
   rw [if_pos h, if_pos h]
   obtain ⟨r, r1, r2, r3⟩ := ih k (m + 1) (out ++ [⟨a, b, c, e⟩]) (by omega) (by omega) (by simp; omega)
   exact ⟨r, r1, r2, by simp at r3; omega⟩
  ·
   rw [if_neg h, if_neg h]
   exact ⟨([], false), rfl, rfl, by simp⟩
theorem txsOf_at (s : ByteArray) (hs : s.size < 100000000) (k : Nat) (hk : 2 * s.size + 50 < k) : ∃ r, spec_TxsOf.f k s = some r ∧ impl_TxsOf.f k s = some r ∧ r.1.length ≤ s.size + 1 := by
 unfold spec_TxsOf.f impl_TxsOf.f
 rw [Option.bind_some]
 by_cases h : s.toList = []
 ·
  rw [if_pos h, if_pos h]; exact ⟨_, rfl, rfl, by simp⟩
 ·
  have g1 := specSplit_at s 44 (by omega) k (by omega)
  have g2 := implSplit_at s 44 (by omega)
  rw [show ((44 : UInt8).toNat : Int) = 44 from rfl] at g1 g2
  have hl := splitA_length 44 s
  rw [if_neg h, if_neg h, g1, g2, Option.bind_some, Option.bind_some]
  obtain ⟨r, r1, r2, r3⟩ := txsOf_l (splitA 44 s) (by omega) s.size (by omega) (splitA_size 44 s) (splitA 44 s).length k 0 [] (by omega) (by omega) (by simp; omega)
  exact ⟨r, r1, r2, by simp at r3; omega⟩
theorem rdOf_drop (ps : List ByteArray) (m : Nat) : rdOf ByteArray.empty (ps.drop 1) (m : Int) = rdOf ByteArray.empty ps ((m + 1 : Nat) : Int) := by
 unfold rdOf
 simp [List.getD_eq_getElem?_getD, Nat.add_comm]
theorem cut_both (s : ByteArray) (c : UInt8) : ((cutS s c).2.2 = (cutI s c).2.2) ∧ ((cutS s c).2.2 = true → cutS s c = cutI s c) ∧ (cutS s c).1.size ≤ s.size ∧ (cutS s c).2.1.size ≤ s.size ∧ (cutI s c).1.size ≤ s.size ∧ (cutI s c).2.1.size ≤ s.size := by
 unfold cutS cutI
 cases h : cutL c s.data.toList with
 | none => exact ⟨rfl, (fun x => by cases x), Nat.zero_le _, Nat.zero_le _, Nat.le_refl _, Nat.zero_le _⟩
 | some p =>
  obtain ⟨e, _⟩ := cutL_some h
  have hl : s.size = p.1.length + 1 + p.2.length := by rw [← len_size, e]; simp; omega
  exact ⟨rfl, fun _ => rfl, by simp only [mkS_size]; omega, by simp only [mkS_size]; omega, by simp only [mkS_size]; omega, by simp only [mkS_size]; omega⟩
theorem steps_l (ps : List ByteArray) (hL : ps.length < 1000000000000) (B : Nat) (hB : B < 100000000) (hp : ∀ p ∈ ps, p.size ≤ B) : ∀ (d k m : Nat) (out : List (S163)) (last : Nat), m + 1 + d = ps.length → d + 2 * B + 60 < k → out.length + d < 4398046511104 → last < 1000000 → (∀ e ∈ out, (1 : Int) ≤ e.f0) →
  ∃ r, spec_Steps.l0 k [] out ps (last : Int) ((m + 1 : Nat) : Int) = some r ∧ impl_Steps.l0 k out (last : Int) (ps.drop 1) ((ps.drop 1).length : Int) (m : Int) = some r ∧ (r.2 = false → r.1 = []) ∧ r.1.length ≤ out.length + d ∧ (r.2 = true → r.1.length = out.length + d) ∧ ∀ e ∈ r.1, (1 : Int) ≤ e.f0 := by
 intro d
 induction d with
 | zero =>
  intro k m out last hd hk ho hlast ho1
  obtain ⟨k, rfl⟩ : ∃ q, k = q + 1 := ⟨k - 1, by omega⟩
  refine ⟨(out, true), ?_, ?_, (fun x => by cases x), Nat.le_refl _, fun _ => rfl, ho1⟩
  ·
   simp only [spec_Steps.l0]; rw [if_neg (by omega)]
  ·
   simp only [impl_Steps.l0]; rw [if_neg (by rw [List.length_drop]; omega)]
 | succ d ih =>
  intro k m out last hd hk ho hlast ho1
  obtain ⟨k, rfl⟩ : ∃ q, k = q + 1 := ⟨k - 1, by omega⟩
  have hs := hp _ (rdOf_mem ByteArray.empty ps (m + 1) (by omega))
  generalize hx : rdOf ByteArray.empty ps ((m + 1 : Nat) : Int) = x at hs
  obtain ⟨hok, hsame, z1, z2, z3, z4⟩ := cut_both x 124
  have g1 := specCut_at x 124 (by omega) k (by omega)
  have g2 := implCut_at x 124 (by omega)
  rw [show ((124 : UInt8).toNat : Int) = 124 from rfl] at g1
  obtain ⟨q1, m1, hq1, n1, n1'⟩ := num_of (cutS x 124).1 k (by omega)
  obtain ⟨q2, m2, hq2, n2, n2'⟩ := num_of (cutI x 124).1 k (by omega)
  obtain ⟨t1, v1, v1', w1⟩ := txsOf_at (cutS x 124).2.1 (by omega) k (by omega)
  obtain ⟨t2, v2, v2', w2⟩ := txsOf_at (cutI x 124).2.1 (by omega) k (by omega)
  have hlen : out.length < 4398046511104 := by omega
  obtain ⟨HW, HX, HY⟩ : Aside0 (wrap64 (((m + 1 : Nat) : Int) + 1) = ((m + 1 + 1 : Nat) : Int)) ∧ Aside0 (wrap64 ((m : Int) + 1) = ((m + 1 : Nat) : Int)) ∧ Aside0 (wrap64 ((last : Int) + 1) = (last : Int) + 1) := ⟨⟨wn (n := ps.length) (by omega) (by omega)⟩, ⟨wn (n := ps.length) (by omega) (by omega)⟩, ⟨by unfold wrap64; omega⟩⟩
  have hdl : (ps.drop 1).length = ps.length - 1 := by rw [List.length_drop]
  have e1 : spec_Steps.l0 (k + 1) [] out ps (last : Int) ((m + 1 : Nat) : Int) = if (cutS x 124).2.2 = true then (if m1 = true then (if t1.2 = true then (if (q1 : Int) ≤ (last : Int) then some ([], false) else (if (q1 : Int) > 60 then some ([], false) else (if (t1.1.length : Int) > 2 then some ([], false) else spec_Steps.l0 k [] (out ++ [⟨(q1 : Int), t1.1⟩]) ps (q1 : Int) ((m + 1 + 1 : Nat) : Int)))) else some ([], false)) else some ([], false)) else some ([], false) := by
   simp only [spec_Steps.l0]
   rw [if_pos (by omega), if_pos (by omega), hx, g1, Option.bind_some, n1, Option.bind_some, v1, Option.bind_some, HW.out, if_pos hlen]
  have e2 : impl_Steps.l0 (k + 1) out (last : Int) (ps.drop 1) ((ps.drop 1).length : Int) (m : Int) = if (cutI x 124).2.2 = true then (if m2 = true then (if t2.2 = true then (if (q2 : Int) ≥ (last : Int) + 1 ∧ (q2 : Int) ≤ 60 then (if (t2.1.length : Int) > 2 then some ([], false) else impl_Steps.l0 k (out ++ [⟨(q2 : Int), t2.1⟩]) (q2 : Int) (ps.drop 1) ((ps.drop 1).length : Int) ((m + 1 : Nat) : Int)) else some ([], false)) else some ([], false)) else some ([], false)) else some ([], false) := by
   simp only [impl_Steps.l0]
   rw [if_pos (by rw [hdl]; omega), if_pos (by omega), if_pos (by rw [hdl]; omega), rdOf_drop, hx, g2, Option.bind_some, n2', Option.bind_some, v2', Option.bind_some, HX.out, if_pos hlen, HY.out]
   unfold impl_within.f
   by_cases a1 : (q2 : Int) ≥ (last : Int) + 1
   ·
    by_cases a2 : (q2 : Int) ≤ 60
    ·
     rw [if_pos a1, Option.bind_some, if_pos (decide_eq_true a2), if_pos (show (q2 : Int) ≥ (last : Int) + 1 ∧ (q2 : Int) ≤ 60 from ⟨a1, a2⟩)]
    ·
     rw [if_pos a1, Option.bind_some, if_neg (show ¬ (decide ((q2 : Int) ≤ 60) = true) by simpa using a2), if_neg (show ¬ ((q2 : Int) ≥ (last : Int) + 1 ∧ (q2 : Int) ≤ 60) from fun h => a2 h.2)]
   ·
    rw [if_neg a1, Option.bind_some, if_neg (show ¬ (false = true) by decide), if_neg (show ¬ ((q2 : Int) ≥ (last : Int) + 1 ∧ (q2 : Int) ≤ 60) from fun h => a1 h.1)]
  rw [e1, e2, ← hok]
  have bad : ∃ r : List (S163) × Bool, some (([] : List (S163)), false) = some r ∧ some (([] : List (S163)), false) = some r ∧ (r.2 = false → r.1 = []) ∧ r.1.length ≤ out.length + (d + 1) ∧ (r.2 = true → r.1.length = out.length + (d + 1)) ∧ ∀ e ∈ r.1, (1 : Int) ≤ e.f0 := ⟨_, rfl, rfl, fun _ => rfl, by simp, (fun x => by cases x), by simp⟩
  by_cases c0 : (cutS x 124).2.2 = true
  ·
   have es := hsame c0
   rw [← es] at n2' v2'
   obtain ⟨rfl, rfl⟩ : q1 = q2 ∧ m1 = m2 := by
    rw [n1'] at n2'
    simp only [Option.some.injEq, Prod.mk.injEq] at n2'
    exact ⟨by omega, n2'.2⟩
   obtain rfl : t1 = t2 := by
    rw [v1'] at v2'
    exact Option.some.inj v2'
   simp only [c0, if_true]
   by_cases c1 : m1 = true
   ·
    simp only [c1, if_true]
    by_cases c2 : t1.2 = true
    ·
     simp only [c2, if_true]
     by_cases c3 : (q1 : Int) ≤ (last : Int)
     ·
      rw [if_pos c3, if_neg (by omega)]; exact bad
     ·
      rw [if_neg c3]
      by_cases c4 : (q1 : Int) > 60
      ·
       rw [if_pos c4, if_neg (by omega)]; exact bad
      ·
       have c6 : (q1 : Int) ≥ (last : Int) + 1 ∧ (q1 : Int) ≤ 60 := ⟨by omega, by omega⟩
       rw [if_neg c4, if_pos c6]
       by_cases c5 : (t1.1.length : Int) > 2
       ·
        rw [if_pos c5, if_pos c5]; exact bad
       ·
        rw [if_neg c5, if_neg c5]
        have ho2 : ∀ e ∈ out ++ [(⟨(q1 : Int), t1.1⟩ : S163)], (1 : Int) ≤ e.f0 := by
         intro e he
         rcases List.mem_append.1 he with h | h
         ·
          exact ho1 e h
         ·
          rw [List.mem_singleton.1 h]
          show (1 : Int) ≤ (q1 : Int)
          omega
        obtain ⟨r, r1, r2, r3, r4, r5, r6⟩ := ih k (m + 1) (out ++ [⟨(q1 : Int), t1.1⟩]) q1 (by omega) (by omega) (by simp; omega) hq1 ho2
        exact ⟨r, r1, r2, r3, by simp at r4; omega, (fun h => by have := r5 h; simp at this; omega), r6⟩
    ·
     simp only [c2, if_false]; exact bad
   ·
    simp only [c1, if_false]; exact bad
  ·
   simp only [c0, if_false]; exact bad
theorem steps_at (s : ByteArray) (hs : s.size < 100000000) (k : Nat) (hk : 3 * s.size + 80 < k) :
  ∃ r, spec_Steps.f k s = some r ∧ impl_Steps.f k s = some r ∧ (r.2 = false → r.1 = []) ∧ r.1.length ≤ s.size + 1 ∧ (r.2 = true → s.data.toList = [] ∨ ∃ l, s.data.toList = 47 :: l) ∧ (s.data.toList = [] → r = ([], true)) ∧ (r.2 = true → s.data.toList ≠ [] → 0 < r.1.length) ∧ ∀ e ∈ r.1, (1 : Int) ≤ e.f0 := by
 unfold spec_Steps.f impl_Steps.f
 rw [Option.bind_some, Option.bind_some, Lib.toList_data]
 by_cases h : s.data.toList = []
 ·
  rw [if_pos h, if_pos h]; exact ⟨_, rfl, rfl, (fun x => by cases x), by simp, fun _ => Or.inl h, fun _ => rfl, fun _ x => absurd h x, by simp⟩
 ·
  have g1 := specSplit_at s 47 (by omega) k (by omega)
  have g2 := implSplit_at s 47 (by omega)
  rw [show ((47 : UInt8).toNat : Int) = 47 from rfl] at g1 g2
  have hl := splitA_length 47 s
  have hp : 0 < (splitA 47 s).length := by
   obtain ⟨x, t, e⟩ := splitL_ne 47 s.data.toList
   unfold splitA; rw [e]; simp
  have hpi : 0 < ((splitA 47 s).length : Int) := by omega
  rw [if_neg h, if_neg h, g1, g2, Option.bind_some, Option.bind_some, if_pos hpi, if_pos hpi]
  obtain ⟨k, rfl⟩ : ∃ q, k = q + 1 := ⟨k - 1, by omega⟩
  have bad1 : ∀ t, spec_Steps.j0 (k + 1) [] [] t true = some ([], false) := fun t => by simp [spec_Steps.j0]
  have bad2 : ∀ t, impl_Steps.j0 (k + 1) t true = some ([], false) := fun t => by simp [impl_Steps.j0]
  by_cases h0 : (rdOf ByteArray.empty (splitA 47 s) 0).toList = []
  ·
   have h47 : ∃ l, s.data.toList = 47 :: l := by
    unfold splitA rdOf at h0
    rw [splitL_cut] at h0
    cases hc : cutL 47 s.data.toList with
    | none => rw [hc] at h0; simp [mkS_toList] at h0; exact absurd h0 (by simpa using h)
    | some p =>
     rw [hc] at h0
     obtain ⟨e, _⟩ := cutL_some hc
     simp [mkS_toList] at h0
     rw [h0] at e
     exact ⟨p.2, by simpa using e⟩
   have h2 : 2 ≤ (splitA 47 s).length := by
    unfold splitA rdOf at h0
    unfold splitA
    rw [splitL_cut] at h0 ⊢
    cases hc : cutL 47 s.data.toList with
    | none => rw [hc] at h0; simp [mkS_toList] at h0; exact absurd h0 (by simpa using h)
    | some p =>
     obtain ⟨x, t, e⟩ := splitL_ne 47 p.2
     simp [e]
   rw [if_pos h0, if_pos h0]
   have hw : wrap64 (((splitA 47 s).length : Int) - 1) = ((splitA 47 s).length : Int) - 1 := by unfold wrap64; omega
   by_cases h31 : ((splitA 47 s).length : Int) > 31
   ·
    rw [decide_eq_true h31, hw, decide_eq_true (show ((splitA 47 s).length : Int) - 1 > 30 by omega), bad1, bad2]
    exact ⟨_, rfl, rfl, fun _ => rfl, by simp, (fun x => by cases x), (fun x => absurd x h), (fun x => by cases x), by simp⟩
   ·
    rw [decide_eq_false h31, hw, decide_eq_false (show ¬ ((splitA 47 s).length : Int) - 1 > 30 by omega)]
    obtain ⟨r, r1, r2, r3, r4, r5, r6⟩ := steps_l (splitA 47 s) (by omega) s.size hs (splitA_size 47 s) ((splitA 47 s).length - 1) k 0 [] 0 (by omega) (by omega) (by simp; omega) (by omega) (by simp)
    refine ⟨r, ?_, ?_, r3, by simp at r4; omega, (fun _ => Or.inr h47), (fun x => absurd x h), (fun x _ => by have := r5 x; simp at this; omega), r6⟩
    ·
     simp only [spec_Steps.j0]
     rw [if_neg (by simp)]
     exact r1
    ·
     simp only [impl_Steps.j0]
     rw [if_neg (by simp), if_pos (by omega), Option.bind_some]
     exact r2
  ·
   rw [if_neg h0, if_neg h0, bad1, bad2]
   exact ⟨_, rfl, rfl, fun _ => rfl, by simp, (fun x => by cases x), (fun x => absurd x h), (fun x => by cases x), by simp⟩
theorem rdStep_mem (xs : List S163) (i : Int) (h0 : 0 ≤ i) (h : i < (xs.length : Int)) : rd_T163 xs i ∈ xs := by
 have h1 : i.toNat < xs.length := by omega
 unfold rd_T163
 simp [List.getD_eq_getElem?_getD, List.getElem?_eq_getElem h1]
theorem viewOf_at (s : ByteArray) (hs : s.size < 100000000) (k : Nat) (hk : 3 * s.size + 80 < k) :
  ∃ v b, spec_ViewOf.f k s = some v ∧ impl_ViewOf.f k s = some v ∧ spec_NameOk.f k s = some b ∧ impl_NameOk.f k s = some b ∧ (b = true → s.data.toList ≠ [] → 1 ≤ v) ∧ (s.data.toList = [] → v = 0 ∧ b = true) := by
 obtain ⟨r, r1, r2, r3, r4, _, r5, r6, r7⟩ := steps_at s hs k hk
 unfold spec_ViewOf.f impl_ViewOf.f spec_NameOk.f impl_NameOk.f
 simp only [r1, r2, Option.bind_some]
 by_cases h : r.1 = []
 ·
  refine ⟨0, r.2, ?_, ?_, rfl, rfl, ?_, ?_⟩
  ·
   rw [h]; simp
  ·
   rw [h]; simp
  ·
   intro hb hne
   have := r6 hb hne
   rw [h] at this; simp at this
  ·
   intro he
   rw [r5 he]; exact ⟨rfl, rfl⟩
 ·
  have hp : 0 < r.1.length := List.length_pos_iff.2 h
  have hb : r.2 = true := by
   cases hb : r.2
   ·
    exact absurd (r3 hb) h
   ·
    rfl
  have w1 : wrap64 ((r.1.length : Int) - 1) = (r.1.length : Int) - 1 := by unfold wrap64; omega
  have c0 : ¬ (r.1.length : Int) = 0 := by omega
  have c1 : (0 : Int) ≤ (r.1.length : Int) - 1 := by omega
  have c2 : (r.1.length : Int) - 1 < (r.1.length : Int) := by omega
  refine ⟨(rd_T163 r.1 ((r.1.length : Int) - 1)).f0, r.2, ?_, ?_, rfl, rfl, ?_, ?_⟩
  ·
   simp only [w1, hb, if_true, if_neg c0, if_pos c1, if_pos c2]
  ·
   simp only [w1, if_neg c0, if_pos c1, if_pos c2]
  ·
   intro _ _
   exact r7 _ (rdStep_mem _ _ c1 c2)
  ·
   intro he
   exact absurd (congrArg Prod.fst (r5 he)) h
theorem mono_le {α : Type} {f : Nat → Option α} (h : ∀ k, LeO (f k) (f (k + 1))) {a : Nat} {x : α} (hx : f a = some x) : ∀ {b : Nat}, a ≤ b → f b = some x := by
 intro b
 induction b with
 | zero =>
  intro hab
  obtain rfl : a = 0 := by omega
  exact hx
 | succ b ih =>
  intro hab
  by_cases e : a = b + 1
  ·
   subst e; exact hx
  ·
   exact h b x (ih (by omega))
theorem num_ex (s : ByteArray) : ∃ r : Int × Bool, ∀ k, 40 < k → spec_Number.f k s = some r := by
 obtain ⟨r, h, _⟩ := number_at s 41 (by omega)
 exact ⟨r, fun k hk => mono_le (fun k => spec_Number.mono s k) h (by omega)⟩
noncomputable def numV (s : ByteArray) : Int × Bool := Classical.choose (num_ex s)
theorem numV_at (s : ByteArray) (k : Nat) (hk : 40 < k) : spec_Number.f k s = some (numV s) := Classical.choose_spec (num_ex s) k hk
theorem txs_ex (s : ByteArray) (hs : s.size < 100000000) : ∃ r, ∀ k, 2 * s.size + 50 < k → spec_TxsOf.f k s = some r := by
 obtain ⟨r, h, _⟩ := txsOf_at s hs (2 * s.size + 51) (by omega)
 exact ⟨r, fun k hk => mono_le (fun k => spec_TxsOf.mono s k) h (by omega)⟩
noncomputable def txsV (s : ByteArray) : List S156 × Bool := if h : s.size < 100000000 then Classical.choose (txs_ex s h) else ([], false)
theorem txsV_at (s : ByteArray) (hs : s.size < 100000000) (k : Nat) (hk : 2 * s.size + 50 < k) : spec_TxsOf.f k s = some (txsV s) := by
 unfold txsV
 rw [dif_pos hs]
 exact Classical.choose_spec (txs_ex s hs) k hk
theorem steps_ex (s : ByteArray) (hs : s.size < 100000000) : ∃ r, ∀ k, 3 * s.size + 80 < k → spec_Steps.f k s = some r ∧ impl_Steps.f k s = some r := by
 obtain ⟨r, h, h', _⟩ := steps_at s hs (3 * s.size + 81) (by omega)
 exact ⟨r, fun k hk => ⟨mono_le (fun k => spec_Steps.mono s k) h (by omega), mono_le (fun k => impl_Steps.mono s k) h' (by omega)⟩⟩
noncomputable def stepsV (s : ByteArray) : List S163 × Bool := if h : s.size < 100000000 then Classical.choose (steps_ex s h) else ([], false)
theorem stepsV_at (s : ByteArray) (hs : s.size < 100000000) (k : Nat) (hk : 3 * s.size + 80 < k) : spec_Steps.f k s = some (stepsV s) ∧ impl_Steps.f k s = some (stepsV s) := by
 unfold stepsV
 rw [dif_pos hs]
 exact Classical.choose_spec (steps_ex s hs) k hk
noncomputable def stepQ (q : ByteArray) (last : Int) : Option S163 :=
 if (cutS q 124).2.2 = true ∧ (numV (cutS q 124).1).2 = true ∧ (txsV (cutS q 124).2.1).2 = true ∧ last < (numV (cutS q 124).1).1 ∧ (numV (cutS q 124).1).1 ≤ 60 ∧ ((txsV (cutS q 124).2.1).1.length : Int) ≤ 2 then some ⟨(numV (cutS q 124).1).1, (txsV (cutS q 124).2.1).1⟩ else none
noncomputable def walkP : List ByteArray → List S163 → Int → List S163 × Bool
 | [], out, _ => (out, true)
 | p :: ps, out, last => match stepQ p last with
  | some x => walkP ps (out ++ [x]) x.f0
  | none => ([], false)
theorem walk_l (ps : List ByteArray) (hL : ps.length < 1000000000000) (B : Nat) (hB : B < 100000000) (hp : ∀ p ∈ ps, p.size ≤ B) : ∀ (d k m : Nat) (out : List (S163)) (last : Int), m + 1 + d = ps.length → d + 2 * B + 60 < k → out.length + d < 4398046511104 →
  spec_Steps.l0 k [] out ps last ((m + 1 : Nat) : Int) = some (walkP (ps.drop (m + 1)) out last) := by
 intro d
 induction d with
 | zero =>
  intro k m out last hd hk ho
  obtain ⟨k, rfl⟩ : ∃ q, k = q + 1 := ⟨k - 1, by omega⟩
  simp only [spec_Steps.l0]
  rw [if_neg (by omega), List.drop_of_length_le (by omega)]
  rfl
 | succ d ih =>
  intro k m out last hd hk ho
  obtain ⟨k, rfl⟩ : ∃ q, k = q + 1 := ⟨k - 1, by omega⟩
  have hs := hp _ (rdOf_mem ByteArray.empty ps (m + 1) (by omega))
  have hdr : ps.drop (m + 1) = rdOf ByteArray.empty ps ((m + 1 : Nat) : Int) :: ps.drop (m + 1 + 1) := by
   rw [List.drop_eq_getElem_cons (show m + 1 < ps.length by omega)]
   simp [rdOf, List.getD_eq_getElem?_getD, List.getElem?_eq_getElem (show m + 1 < ps.length by omega)]
  generalize hx : rdOf ByteArray.empty ps ((m + 1 : Nat) : Int) = x at hs hdr
  obtain ⟨_, _, z1, z2, _, _⟩ := cut_both x 124
  have g1 := specCut_at x 124 (by omega) k (by omega)
  rw [show ((124 : UInt8).toNat : Int) = 124 from rfl] at g1
  have n1 := numV_at (cutS x 124).1 k (by omega)
  have v1 := txsV_at (cutS x 124).2.1 (by omega) k (by omega)
  have hlen : out.length < 4398046511104 := by omega
  obtain ⟨HW⟩ : Aside0 (wrap64 (((m + 1 : Nat) : Int) + 1) = ((m + 1 + 1 : Nat) : Int)) := ⟨wn (n := ps.length) (by omega) (by omega)⟩
  have HW' := Aside0.mk HW
  clear HW
  have e1 : spec_Steps.l0 (k + 1) [] out ps last ((m + 1 : Nat) : Int) = if (cutS x 124).2.2 = true then (if (numV (cutS x 124).1).2 = true then (if (txsV (cutS x 124).2.1).2 = true then (if (numV (cutS x 124).1).1 ≤ last then some ([], false) else (if (numV (cutS x 124).1).1 > 60 then some ([], false) else (if ((txsV (cutS x 124).2.1).1.length : Int) > 2 then some ([], false) else spec_Steps.l0 k [] (out ++ [⟨(numV (cutS x 124).1).1, (txsV (cutS x 124).2.1).1⟩]) ps (numV (cutS x 124).1).1 ((m + 1 + 1 : Nat) : Int)))) else some ([], false)) else some ([], false)) else some ([], false) := by
   simp only [spec_Steps.l0]
   rw [if_pos (by omega), if_pos (by omega), hx, g1, Option.bind_some, n1, Option.bind_some, v1, Option.bind_some, HW'.out, if_pos hlen]
  rw [e1, hdr]
  unfold walkP stepQ
  by_cases c0 : (cutS x 124).2.2 = true
  ·
   by_cases c1 : (numV (cutS x 124).1).2 = true
   ·
    by_cases c2 : (txsV (cutS x 124).2.1).2 = true
    ·
     by_cases c3 : (numV (cutS x 124).1).1 ≤ last
     ·
      rw [if_pos c0, if_pos c1, if_pos c2, if_pos c3, if_neg (fun h => by have := h.2.2.2.1; omega)]
     ·
      by_cases c4 : (numV (cutS x 124).1).1 > 60
      ·
       rw [if_pos c0, if_pos c1, if_pos c2, if_neg c3, if_pos c4, if_neg (fun h => by have := h.2.2.2.2.1; omega)]
      ·
       by_cases c5 : ((txsV (cutS x 124).2.1).1.length : Int) > 2
       ·
        rw [if_pos c0, if_pos c1, if_pos c2, if_neg c3, if_neg c4, if_pos c5, if_neg (fun h => by have := h.2.2.2.2.2; omega)]
       ·
        rw [if_pos c0, if_pos c1, if_pos c2, if_neg c3, if_neg c4, if_neg c5, if_pos ⟨c0, c1, c2, by omega, by omega, by omega⟩]
        exact ih k (m + 1) _ _ (by omega) (by omega) (by simp; omega)
    ·
     rw [if_pos c0, if_pos c1, if_neg c2, if_neg (fun h => c2 h.2.2.1)]
   ·
    rw [if_pos c0, if_neg c1, if_neg (fun h => c1 h.2.1)]
  ·
   rw [if_neg c0, if_neg (fun h => c0 h.1)]
theorem stepsV_eq (s : ByteArray) (hs : s.size < 100000000) : stepsV s = if s.data.toList = [] then ([], true) else if (rdOf ByteArray.empty (splitA 47 s) 0).data.toList = [] ∧ (splitA 47 s).length ≤ 31 then walkP ((splitA 47 s).drop 1) [] 0 else ([], false) := by
 have h := (stepsV_at s hs (3 * s.size + 100) (by omega)).1
 generalize hk : 3 * s.size + 100 = k at h
 unfold spec_Steps.f at h
 rw [Option.bind_some, Option.bind_some, Lib.toList_data] at h
 by_cases h1 : s.data.toList = []
 ·
  rw [if_pos h1] at h ⊢
  exact (Option.some.inj h).symm
 ·
  have g1 := specSplit_at s 47 (by omega) k (by omega)
  rw [show ((47 : UInt8).toNat : Int) = 47 from rfl] at g1
  have hl := splitA_length 47 s
  have hp : 0 < (splitA 47 s).length := by
   obtain ⟨x, t, e⟩ := splitL_ne 47 s.data.toList
   unfold splitA; rw [e]; simp
  have hpi : 0 < ((splitA 47 s).length : Int) := by omega
  obtain ⟨k, rfl⟩ : ∃ q, k = q + 1 := ⟨k - 1, by omega⟩
  have bad1 : ∀ t, spec_Steps.j0 (k + 1) [] [] t true = some ([], false) := fun t => by simp [spec_Steps.j0]
  rw [if_neg h1, g1, Option.bind_some, if_pos hpi, Lib.toList_data] at h
  rw [if_neg h1]
  by_cases h0 : (rdOf ByteArray.empty (splitA 47 s) 0).data.toList = []
  ·
   rw [if_pos h0] at h
   by_cases h31 : ((splitA 47 s).length : Int) > 31
   ·
    rw [decide_eq_true h31, bad1] at h
    rw [if_neg (fun x => by have := x.2; omega)]
    exact (Option.some.inj h).symm
   ·
    rw [decide_eq_false h31] at h
    simp only [spec_Steps.j0] at h
    rw [if_neg (by simp)] at h
    have hw := walk_l (splitA 47 s) (by omega) s.size hs (splitA_size 47 s) ((splitA 47 s).length - 1) k 0 [] 0 (by omega) (by omega) (by simp; omega)
    rw [if_pos ⟨h0, by omega⟩]
    have e : spec_Steps.l0 k [] [] (splitA 47 s) 0 1 = some (walkP ((splitA 47 s).drop 1) [] 0) := hw
    rw [e] at h
    exact (Option.some.inj h).symm
  ·
   rw [if_neg h0, bad1] at h
   rw [if_neg (fun x => h0 x.1)]
   exact (Option.some.inj h).symm
def lastV (l : List S163) : Int := match l.getLast? with
 | some x => x.f0
 | none => 0
theorem lastV_snoc (l : List S163) (x : S163) : lastV (l ++ [x]) = x.f0 := by
 unfold lastV
 simp
theorem viewV_at (s : ByteArray) (hs : s.size < 100000000) (k : Nat) (hk : 3 * s.size + 80 < k) : spec_ViewOf.f k s = some (lastV (stepsV s).1) ∧ impl_ViewOf.f k s = some (lastV (stepsV s).1) ∧ spec_NameOk.f k s = some (stepsV s).2 ∧ impl_NameOk.f k s = some (stepsV s).2 := by
 obtain ⟨r, r1, r2, r3, r4, _⟩ := steps_at s hs k hk
 obtain ⟨h1, h2⟩ := stepsV_at s hs k hk
 obtain rfl : stepsV s = r := Option.some.inj (h1.symm.trans r1)
 unfold spec_ViewOf.f impl_ViewOf.f spec_NameOk.f impl_NameOk.f
 simp only [h1, h2, Option.bind_some]
 generalize stepsV s = r at r3 r4
 by_cases h : r.1 = []
 ·
  rw [h]
  refine ⟨?_, ?_, trivial, trivial⟩
  ·
   simp [lastV]
  ·
   simp [lastV]
 ·
  have hp : 0 < r.1.length := List.length_pos_iff.2 h
  have hb : r.2 = true := by
   cases hb : r.2
   ·
    exact absurd (r3 hb) h
   ·
    rfl
  have w1 : wrap64 ((r.1.length : Int) - 1) = (r.1.length : Int) - 1 := by unfold wrap64; omega
  have c0 : ¬ (r.1.length : Int) = 0 := by omega
  have c1 : (0 : Int) ≤ (r.1.length : Int) - 1 := by omega
  have c2 : (r.1.length : Int) - 1 < (r.1.length : Int) := by omega
  have e : (rd_T163 r.1 ((r.1.length : Int) - 1)).f0 = lastV r.1 := by
   unfold rd_T163 lastV
   rw [List.getLast?_eq_getElem?, show ((r.1.length : Int) - 1).toNat = r.1.length - 1 by omega, List.getD_eq_getElem?_getD, List.getElem?_eq_getElem (by omega)]
   rfl
  refine ⟨?_, ?_, trivial, trivial⟩
  ·
   simp only [w1, hb, if_true, if_neg c0, if_pos c1, if_pos c2, e]
  ·
   simp only [w1, if_neg c0, if_pos c1, if_pos c2, e]
theorem setOk_l (n : Int) (l : List Int) (hn : l.length ≤ 9223372036854775807) : ∀ (d m : Nat), m + d = l.length →
  ∃ b, ∀ k, d < k → spec_SetOk.l0 k n l (m : Int) = some b ∧ impl_SetOk.l0 k n l l (l.length : Int) (m : Int) = some b := by
 intro d
 induction d with
 | zero =>
  intro m hd
  have hA : ¬ (m : Int) < (l.length : Int) := by omega
  refine ⟨true, fun k hk => ?_⟩
  obtain ⟨k, rfl⟩ : ∃ q, k = q + 1 := ⟨k - 1, by omega⟩
  exact ⟨by simp only [spec_SetOk.l0, if_neg hA], by simp only [impl_SetOk.l0, if_neg hA]⟩
 | succ d ih =>
  intro m hd
  have hA : (m : Int) < (l.length : Int) := by omega
  have hB : (0 : Int) ≤ (m : Int) := by omega
  have hw1 : wrap64 ((m : Int) - 1) = (m : Int) - 1 := by unfold wrap64; omega
  have hw2 : wrap64 ((m : Int) + 1) = ((m + 1 : Nat) : Int) := wn (n := l.length) (by omega) hn
  obtain ⟨b, hb⟩ := ih (m + 1) (by omega)
  have go : ∀ c : Bool, (∀ k, d < k → (spec_SetOk.l0 (k + 1) n l (m : Int) = some c ∧ impl_SetOk.l0 (k + 1) n l l (l.length : Int) (m : Int) = some c)) → ∃ b, ∀ k, d + 1 < k → spec_SetOk.l0 k n l (m : Int) = some b ∧ impl_SetOk.l0 k n l l (l.length : Int) (m : Int) = some b := by
   intro c h
   refine ⟨c, fun k hk => ?_⟩
   obtain ⟨k, rfl⟩ : ∃ q, k = q + 1 := ⟨k - 1, by omega⟩
   exact h k (by omega)
  by_cases a1 : rd l (m : Int) < 0
  ·
   exact go false fun k hk => ⟨by simp only [spec_SetOk.l0, if_pos hA, if_pos hB, if_pos a1], by simp only [impl_SetOk.l0, if_pos hA, if_pos hB, if_pos a1]⟩
  ·
   by_cases a2 : rd l (m : Int) ≥ n
   ·
    exact go false fun k hk => ⟨by simp only [spec_SetOk.l0, if_pos hA, if_pos hB, if_neg a1, if_pos a2], by simp only [impl_SetOk.l0, if_pos hA, if_pos hB, if_neg a1, if_pos a2]⟩
   ·
    by_cases a3 : (m : Int) > 0
    ·
     have hC : (0 : Int) ≤ (m : Int) - 1 := by omega
     have hD : (m : Int) - 1 < (l.length : Int) := by omega
     by_cases a4 : rd l ((m : Int) - 1) ≥ rd l (m : Int)
     ·
      exact go false fun k hk => ⟨by simp only [spec_SetOk.l0, hw1, if_pos hA, if_pos hB, if_neg a1, if_neg a2, if_pos a3, if_pos hC, if_pos hD, if_pos a4], by simp only [impl_SetOk.l0, hw1, if_pos hA, if_pos hB, if_neg a1, if_neg a2, if_pos a3, if_pos hC, if_pos hD, if_pos a4]⟩
     ·
      exact go b fun k hk => ⟨by simp only [spec_SetOk.l0, hw1, hw2, if_pos hA, if_pos hB, if_neg a1, if_neg a2, if_pos a3, if_pos hC, if_pos hD, if_neg a4]; exact (hb k hk).1, by simp only [impl_SetOk.l0, hw1, hw2, if_pos hA, if_pos hB, if_neg a1, if_neg a2, if_pos a3, if_pos hC, if_pos hD, if_neg a4]; exact (hb k hk).2⟩
    ·
     exact go b fun k hk => ⟨by simp only [spec_SetOk.l0, hw2, if_pos hA, if_pos hB, if_neg a1, if_neg a2, if_neg a3]; exact (hb k hk).1, by simp only [impl_SetOk.l0, hw2, if_pos hA, if_pos hB, if_neg a1, if_neg a2, if_neg a3]; exact (hb k hk).2⟩
theorem setOk_at (n : Int) (l : List Int) (hn : l.length ≤ 9223372036854775807) : ∃ b, ∀ k, l.length < k → spec_SetOk.f k n l = some b ∧ impl_SetOk.f k n l = some b :=
 setOk_l n l hn l.length 0 (by omega)
def confB (a b : Int) : Bool := decide (4 ≤ a ∧ a ≤ 7 ∧ 1 ≤ b ∧ b ≤ 6)
theorem implConf_at (a b : Int) : impl_ConfOk.f a b = some (confB a b) := by
 unfold impl_ConfOk.f impl_within.f confB
 by_cases h : a ≥ 4 <;> by_cases h2 : a ≤ 7 <;> by_cases h3 : b ≥ 1 <;> simp [h, h2, h3] <;> omega
theorem specConf_at (a b : Int) : spec_ConfOk.f a b = some (confB a b) := implConf_at a b
theorem confB_iff {a b : Int} (h : confB a b = true) : (a = 4 ∨ a = 5 ∨ a = 6 ∨ a = 7) ∧ 1 ≤ b ∧ b ≤ 6 := by
 unfold confB at h
 have := of_decide_eq_true h
 omega
theorem slEqual_l (xs ys : List Int) (hl : ys.length = xs.length) (hn : xs.length ≤ 9223372036854775807) : ∀ (d k m : Nat), m + d = xs.length → d < k →
  slices_Equal_int_int.l0 k xs ys (xs.length : Int) (m : Int) = some (decide (xs.drop m = ys.drop m)) := by
 intro d
 induction d with
 | zero =>
  intro k m hd hk
  obtain ⟨k, rfl⟩ : ∃ q, k = q + 1 := ⟨k - 1, by omega⟩
  simp only [slices_Equal_int_int.l0]
  rw [if_neg (by omega), List.drop_of_length_le (by omega), List.drop_of_length_le (by omega)]
  simp
 | succ d ih =>
  intro k m hd hk
  obtain ⟨k, rfl⟩ : ∃ q, k = q + 1 := ⟨k - 1, by omega⟩
  simp only [slices_Equal_int_int.l0]
  rw [if_pos (by omega), if_pos (by omega), if_pos (by omega), if_pos (by omega), wn (n := xs.length) (by omega) hn, ih k (m + 1) (by omega) (by omega), drop_at xs m (by omega), drop_at ys m (by omega)]
  by_cases h : rd xs m = rd ys m <;> simp [h]
theorem slEqual_at (xs ys : List Int) (hn : xs.length ≤ 9223372036854775807) (k : Nat) (hk : xs.length < k) : slices_Equal_int_int.f k xs ys = some (decide (xs = ys)) := by
 unfold slices_Equal_int_int.f
 by_cases h : (xs.length : Int) = (ys.length : Int)
 ·
  rw [if_pos h]
  have := slEqual_l xs ys (by omega) hn xs.length k 0 (by omega) hk
  simpa using this
 ·
  rw [if_neg h]
  have : xs ≠ ys := fun e => h (by rw [e])
  simp [this]
def qcB (v : Int) (s : ByteArray) (l : List Int) (v' : Int) (s' : ByteArray) (l' : List Int) : Bool := decide (v = v' ∧ s.toList = s'.toList ∧ l = l')
theorem implQcSame_at (v : Int) (s : ByteArray) (l : List Int) (v' : Int) (s' : ByteArray) (l' : List Int) (hn : l.length ≤ 9223372036854775807) (k : Nat) (hk : 2 * l.length + 1 < k) :
  impl_QcSame.f k v s l v' s' l' = some (qcB v s l v' s' l') := by
 unfold impl_QcSame.f qcB
 rw [slEqual_at l l' hn k (by omega)]
 by_cases h1 : v = v' <;> by_cases h2 : s.toList = s'.toList <;> simp [h1, h2]
noncomputable def okN (s : ByteArray) : Bool := (stepsV s).2
noncomputable def vwN (s : ByteArray) : Int := lastV (stepsV s).1
noncomputable def setN (n : Int) (l : List Int) : Bool := if h : l.length ≤ 9223372036854775807 then Classical.choose (setOk_at n l h) else false
theorem setN_at (n : Int) (l : List Int) (hn : l.length ≤ 9223372036854775807) (k : Nat) (hk : l.length < k) : spec_SetOk.f k n l = some (setN n l) ∧ impl_SetOk.f k n l = some (setN n l) := by
 unfold setN
 rw [dif_pos hn]
 exact Classical.choose_spec (setOk_at n l hn) k hk
def quoZ (a b : Int) : Int := if confB a b = true then a - (a - 1) / 3 else 0
theorem quoZ_at (a b : Int) : spec_Quorum.f a b = some (quoZ a b) ∧ impl_Quorum.f a b = some (quoZ a b) := by
 unfold spec_Quorum.f impl_Quorum.f impl_Faults.f quoZ
 rw [specConf_at, implConf_at]
 cases hc : confB a b
 ·
  simp
 ·
  obtain ⟨ha, _⟩ := confB_iff hc
  simp only [Option.bind_some, if_true]
  rcases ha with rfl | rfl | rfl | rfl <;> refine ⟨?_, ?_⟩ <;> refine congrArg some ?_ <;> simp [wrap64]
noncomputable def qcN (a b v : Int) (s : ByteArray) (l : List Int) : Bool := confB a b && (okN s && (decide (vwN s = v) && if s.data.toList = [] then ((l.length : Int) == 0) else (setN a l && decide ((l.length : Int) ≥ quoZ a b))))
theorem vwN_pos (s : ByteArray) (hs : s.size < 100000000) : (okN s = true → s.data.toList ≠ [] → 1 ≤ vwN s) ∧ (s.data.toList = [] → vwN s = 0 ∧ okN s = true) := by
 obtain ⟨v, b, v1, _, b1, _, h1, h2⟩ := viewOf_at s hs (3 * s.size + 81) (by omega)
 obtain ⟨e1, _, e2, _⟩ := viewV_at s hs (3 * s.size + 81) (by omega)
 obtain rfl : lastV (stepsV s).1 = v := Option.some.inj (e1.symm.trans v1)
 obtain rfl : (stepsV s).2 = b := Option.some.inj (e2.symm.trans b1)
 exact ⟨h1, h2⟩
theorem qcN_at (a b v : Int) (s : ByteArray) (l : List Int) (hs : s.size < 100000000) (hn : l.length < 100000000) (k : Nat) (hk : 3 * s.size + 2 * l.length + 90 < k) :
  spec_QcOk.f k a b v s l = some (qcN a b v s l) ∧ impl_QcOk.f k a b v s l = some (qcN a b v s l) := by
 obtain ⟨v1, v2, o1, o2⟩ := viewV_at s hs k (by omega)
 obtain ⟨t1, t2⟩ := setN_at a l (by omega) k (by omega)
 obtain ⟨q1, q2⟩ := quoZ_at a b
 obtain ⟨p1, p2⟩ := vwN_pos s hs
 unfold spec_QcOk.f impl_QcOk.f impl_QcFirst.f qcN
 rw [specConf_at, implConf_at]
 have hk2 : 2 * l.length + 1 < k := by omega
 have e0 := implQcSame_at v s l 0 (⟨#[]⟩ : ByteArray) [] (show l.length ≤ 9223372036854775807 by omega) k hk2
 change spec_ViewOf.f k s = some (vwN s) at v1
 change impl_ViewOf.f k s = some (vwN s) at v2
 change spec_NameOk.f k s = some (okN s) at o1
 change impl_NameOk.f k s = some (okN s) at o2
 simp only [Option.bind_some, v1, v2, o1, o2, t1, t2, q1, q2, e0, Lib.toList_data]
 cases hc : confB a b
 ·
  simp
 ·
  simp only [if_true, Bool.true_and]
  by_cases hz : s.data.toList = []
  ·
   obtain ⟨w0, w1⟩ := p2 hz
   rw [w1, w0, if_pos hz]
   by_cases hv0 : v = 0
   ·
    subst hv0
    have e2 : qcB 0 s l 0 (⟨#[]⟩ : ByteArray) [] = ((l.length : Int) == 0) := by
     unfold qcB
     rw [Lib.toList_data, Lib.toList_data, hz]
     cases l with
     | nil => rfl
     | cons x y => simp; omega
    rw [e2]
    cases l with
    | nil => simp [hz]
    | cons x y =>
     have hy : ¬ ((y.length : Int) + 1 = 0) := by omega
     simp [hz, hy]
   ·
    have e2 : qcB v s l 0 (⟨#[]⟩ : ByteArray) [] = false := by unfold qcB; simp [hv0]
    have h3 : ¬ (0 : Int) = v := fun e => hv0 e.symm
    rw [e2]
    simp [hv0, h3]
  ·
   have e2 : qcB v s l 0 (⟨#[]⟩ : ByteArray) [] = false := by
    unfold qcB
    rw [Lib.toList_data, Lib.toList_data]
    exact decide_eq_false (fun h => hz h.2.1)
   rw [e2]
   cases ho : okN s
   ·
    simp
   ·
    have hw := p1 ho hz
    by_cases hwv : vwN s = v
    ·
     subst hwv
     have h1 : vwN s ≥ 1 := hw
     simp only [if_true, if_neg hz, if_pos h1, Bool.false_eq_true, if_false, decide_true, Bool.true_and]
     cases setN a l <;> simp
    ·
     have h2 : ¬ v = vwN s := fun e => hwv e.symm
     simp [h2, hwv]
theorem stepQ_view (q : ByteArray) (last : Int) (x : S163) (h : stepQ q last = some x) : last < x.f0 ∧ x.f0 ≤ 60 := by
 unfold stepQ at h
 split at h
 ·
  next c => cases h; exact ⟨c.2.2.2.1, c.2.2.2.2.1⟩
 ·
  cases h
theorem walkP_view : ∀ (t : List ByteArray) (out : List S163) (last : Int), last = lastV out → 0 ≤ last → last ≤ 60 → 0 ≤ lastV (walkP t out last).1 ∧ lastV (walkP t out last).1 ≤ 60
 | [], out, last, e, h0, h1 => by unfold walkP; exact ⟨by rw [← e]; exact h0, by rw [← e]; exact h1⟩
 | p :: t, out, last, e, h0, h1 => by
  unfold walkP
  cases hs : stepQ p last with
  | none => exact ⟨by simp [lastV], by simp [lastV]⟩
  | some x =>
   obtain ⟨a, b⟩ := stepQ_view p last x hs
   exact walkP_view t (out ++ [x]) x.f0 (lastV_snoc out x).symm (by omega) b
theorem vwN_le (s : ByteArray) (hs : s.size < 100000000) : 0 ≤ vwN s ∧ vwN s ≤ 60 := by
 unfold vwN
 rw [stepsV_eq s hs]
 split
 ·
  exact ⟨by simp [lastV], by simp [lastV]⟩
 ·
  split
  ·
   exact walkP_view _ [] 0 (by simp [lastV]) (by omega) (by omega)
  ·
   exact ⟨by simp [lastV], by simp [lastV]⟩
theorem vwN_at (s : ByteArray) (hs : s.size < 100000000) (k : Nat) (hk : 3 * s.size + 80 < k) : spec_ViewOf.f k s = some (vwN s) ∧ impl_ViewOf.f k s = some (vwN s) ∧ spec_NameOk.f k s = some (okN s) ∧ impl_NameOk.f k s = some (okN s) := viewV_at s hs k hk
def inB (x lo hi : Int) : Bool := decide (lo ≤ x ∧ x ≤ hi)
theorem inN_at (x lo hi : Int) : spec_l1In.f x lo hi = some (inB x lo hi) ∧ impl_within.f x lo hi = some (inB x lo hi) := by
 unfold spec_l1In.f impl_within.f inB
 by_cases h : x ≥ lo <;> by_cases h2 : x ≤ hi <;> simp [h, h2]
noncomputable def safeN (a b x y v : Int) (s : ByteArray) (l : List Int) (d : ByteArray) : Bool := inB x 0 60 && (inB y 0 60 && (qcN a b v s l && okN d))
theorem safeN_at (a b x y v : Int) (s : ByteArray) (l : List Int) (d : ByteArray) (hs : s.size < 100000000) (hn : l.length < 100000000) (hd : d.size < 100000000) (k : Nat) (hk : 3 * s.size + 2 * l.length + 3 * d.size + 90 < k) :
  spec_SafeOk.f k a b x y v s l d = some (safeN a b x y v s l d) ∧ impl_SafeOk.f k a b x y v s l d = some (safeN a b x y v s l d) := by
 obtain ⟨c1, c2⟩ := inN_at x 0 60
 obtain ⟨e1, e2⟩ := inN_at y 0 60
 obtain ⟨q1, q2⟩ := qcN_at a b v s l hs hn k (by omega)
 obtain ⟨_, _, o1, o2⟩ := vwN_at d hd k (by omega)
 unfold spec_SafeOk.f impl_SafeOk.f safeN
 simp only [c1, c2, e1, e2, q1, q2, o1, o2, Option.bind_some]
 cases inB x 0 60 <;> cases inB y 0 60 <;> cases qcN a b v s l <;> simp
theorem safeOf_at (c d : Int) (l : List Int) (hl : bytesOk l) (k : Nat) (hk : 20000000 < k) :
  ∃ (x y v : Int) (s : ByteArray) (w : List Int) (t : ByteArray) (p : Bool), spec_SafeOf.f k c d l = some (x, y, v, s, w, t, p) ∧ impl_SafeOf.f k c d l = some (x, y, v, s, w, t, p) ∧ w.length ≤ 1048600 ∧ s.size ≤ 1048576 ∧ t.size ≤ 1048576 := by
 have hn := hl.1
 obtain ⟨f1, _⟩ := cn_fine l hl 0 true (by decide)
 obtain ⟨g1, _⟩ := cn_fine l hl (cn l 0 true).2.1 (cn l 0 true).2.2 f1
 have n1 := specNum_at l hl 0 true (by decide) k (by omega)
 have n2 := specNum_at l hl (cn l 0 true).2.1 (cn l 0 true).2.2 f1 k (by omega)
 have m1 := implNum_at l hl 0 true (by decide) k (by omega)
 have m2 := implNum_at l hl (cn l 0 true).2.1 (cn l 0 true).2.2 f1 k (by omega)
 generalize hx : cn l 0 true = x at f1 g1 n1 n2 m1 m2
 generalize hy : cn l x.2.1 x.2.2 = y at g1 n2 m2
 obtain ⟨v, s, w, b, p, h1, h2, h3, h4⟩ := curQc_at l hl y.2.1 y.2.2 g1
 obtain ⟨r1, r2⟩ := h1 k (by omega)
 obtain ⟨⟨t1, _⟩, t2⟩ := ct_fine l hl b p h4
 have e1 := specText_at l hl b p h4 k (by omega)
 have e2 := implText_at l hl b p h4 k (by omega)
 generalize hz : ct l b p = z at t1 t2 e1 e2
 have m1' : impl_reader_num.f k l 0 false = some (x.1, x.2.1, !x.2.2) := m1
 unfold spec_SafeOf.f impl_SafeOf.f
 rw [n1, m1', Option.bind_some, Option.bind_some, n2]
 simp only [m2, Option.bind_some, r1, r2, e1, e2]
 obtain ⟨q1, q2⟩ := safeN_at c d x.1 y.1 v s w z.1 (by omega) (by omega) (by omega) k (by omega)
 generalize safeN c d x.1 y.1 v s w z.1 = r at q1 q2
 cases hp : z.2.2
 ·
  exact ⟨0, 0, 0, (⟨#[]⟩ : ByteArray), [], (⟨#[]⟩ : ByteArray), false, by simp, by simp, by simp, by decide, by decide⟩
 ·
  by_cases hb : z.2.1 = (l.length : Int)
  ·
   cases r
   ·
    exact ⟨0, 0, 0, (⟨#[]⟩ : ByteArray), [], (⟨#[]⟩ : ByteArray), false, by simp [hb, q1], by simp [hb, q2], by simp, by decide, by decide⟩
   ·
    exact ⟨x.1, y.1, v, s, w, z.1, true, by simp [hb, q1], by simp [hb, q2], h3, h2, t2⟩
  ·
   exact ⟨0, 0, 0, (⟨#[]⟩ : ByteArray), [], (⟨#[]⟩ : ByteArray), false, by simp [hb], by simp [hb], by simp, by decide, by decide⟩
theorem bytes_back (xs : List Int) (h : ∀ i, 0 ≤ rd xs i ∧ rd xs i < 256) : bytesOf (strOfNums xs) = xs := by
 have hx : ∀ x ∈ xs, 0 ≤ x ∧ x < 256 := by
  intro x hm
  obtain ⟨i, hi, rfl⟩ := List.getElem_of_mem hm
  have := h (i : Int)
  unfold rd at this
  simpa [List.getD_eq_getElem?_getD, List.getElem?_eq_getElem hi] using this
 clear h
 unfold bytesOf strOfNums
 simp only [List.map_map]
 conv => rhs; rw [← List.map_id xs]
 apply List.map_congr_left
 intro x hm
 have := hx x hm
 simp only [Function.comp, id, UInt8.toNat_ofNat']
 omega
theorem bytesOk_cut (l : List Int) (hl : bytesOk l) (a b : Nat) : bytesOk ((l.take a).drop b) := by
 refine ⟨by have := hl.1; simp only [List.length_drop, List.length_take]; omega, fun i => ?_⟩
 by_cases hi : i.toNat < ((l.take a).drop b).length
 ·
  have h2 : rd ((l.take a).drop b) i = rd l ((b + i.toNat : Nat) : Int) := by
   simp only [List.length_drop, List.length_take] at hi
   unfold rd
   rw [List.getD_eq_getElem?_getD, List.getD_eq_getElem?_getD, List.getElem?_drop, List.getElem?_take, if_pos (by omega), Int.toNat_natCast]
  rw [h2]
  exact hl.2 _
 ·
  unfold rd
  rw [List.getD_eq_getElem?_getD, List.getElem?_eq_none (by omega)]
  simp
theorem lastNote_l (c d : Int) (l : List Int) (hl : bytesOk l) : ∀ (m : Nat) (n : Int), 0 ≤ n → (l.length : Int) - n ≤ m → n ≤ l.length → ∀ (k : Nat), 20000100 + 2 * m < k → ∀ (s0 s1 s2 : Int) (s3 : ByteArray) (s4 : List Int) (s5 : ByteArray), s4.length ≤ 1048600 → s3.size ≤ 1048576 → s5.size ≤ 1048576 →
  ∃ (x y v : Int) (s : ByteArray) (w : List Int) (t : ByteArray) (p : Int), spec_LastNote.l0 k l n c d s0 s1 s2 s3 s4 s5 = some (x, y, v, s, w, t, p) ∧ impl_LastNote.l0 k l n c d s0 s1 s2 s3 s4 s5 = some (x, y, v, s, w, t, p) ∧ w.length ≤ 1048600 ∧ s.size ≤ 1048576 ∧ t.size ≤ 1048576 := by
 have hn := hl.1
 intro m
 induction m with
 | zero =>
  intro n h0 h1 h2 k hk s0 s1 s2 s3 s4 s5 b4 b3 b5
  refine ⟨s0, s1, s2, s3, s4, s5, n, ?_, ?_, b4, b3, b5⟩
  ·
   obtain ⟨k, rfl⟩ : ∃ j, k = j + 2 := ⟨k - 2, by omega⟩
   have g : (gn l n).2.2 = false := by
    cases hg : (gn l n).2.2
    ·
     rfl
    ·
     have := gn_ok l hl n hg; omega
   simp [spec_LastNote.l0, specGetNum_at l hl n (by omega) (k + 1) (by omega), g]
  ·
   obtain ⟨k, rfl⟩ : ∃ j, k = j + 2 := ⟨k - 2, by omega⟩
   have g : (gn l n).2.2 = false := by
    cases hg : (gn l n).2.2
    ·
     rfl
    ·
     have := gn_ok l hl n hg; omega
   have e : (gt l n).2.2 = false := by unfold gt; rw [if_neg (by rw [g]; simp)]
   simp [impl_LastNote.l0, impl_LastNote.j1, implGetText_at l hl n (by omega) (k + 1) (by omega), e]
 | succ m ih =>
  intro n h0 h1 h2 k hk s0 s1 s2 s3 s4 s5 b4 b3 b5
  obtain ⟨k, rfl⟩ : ∃ j, k = j + 2 := ⟨k - 2, by omega⟩
  have e1 := specGetNum_at l hl n (by omega) (k + 1) (by omega)
  have e2 := implGetText_at l hl n (by omega) (k + 1) (by omega)
  have ho := gn_ok l hl n
  unfold gt at e2
  generalize gn l n = g at e1 e2 ho
  obtain ⟨g1, g2, g3⟩ := g
  simp only at e1 e2 ho
  cases g3 with
  | false =>
   refine ⟨s0, s1, s2, s3, s4, s5, n, ?_, ?_, b4, b3, b5⟩
   ·
    simp [spec_LastNote.l0, e1]
   ·
    simp [impl_LastNote.l0, impl_LastNote.j1, e2]
  | true =>
   obtain ⟨_, o1, o2, o3, o4⟩ := ho rfl
   have w1 : wrap64 ((l.length : Int) - g2) = (l.length : Int) - g2 := wid (by omega) (by omega)
   have w2 : wrap64 (g2 + g1) = g2 + g1 := wid (by omega) (by omega)
   by_cases q1 : g1 ≥ (l.length : Int) - g2
   ·
    refine ⟨s0, s1, s2, s3, s4, s5, n, ?_, ?_, b4, b3, b5⟩
    ·
     simp only [spec_LastNote.l0, e1, Option.bind_some, if_true, w1]
     rw [if_pos q1]
    ·
     clear w1 w2
     by_cases q2 : g1 ≤ (l.length : Int) - g2
     ·
      rw [if_pos (show true = true ∧ g1 ≤ (l.length : Int) - g2 from ⟨rfl, q2⟩)] at e2
      simp only [impl_LastNote.l0, e2, Option.bind_some, if_true]
      rw [if_pos (show g2 + g1 ≥ (l.length : Int) by omega)]
      simp [impl_LastNote.j1]
     ·
      rw [if_neg (show ¬ (true = true ∧ g1 ≤ (l.length : Int) - g2) from fun h => q2 h.2)] at e2
      simp [impl_LastNote.l0, e2, impl_LastNote.j1]
   ·
    have q2 : true = true ∧ g1 ≤ (l.length : Int) - g2 := ⟨rfl, by omega⟩
    rw [if_pos q2] at e2
    have p1 : 0 ≤ g2 + g1 := by omega
    have p2 : g2 + g1 < (l.length : Int) := by omega
    have p3 : 0 ≤ g2 := by omega
    have p4 : g2 ≤ g2 + g1 := by omega
    have p5 : g2 + g1 ≤ (l.length : Int) := by omega
    have p6 : ¬ (g2 + g1 ≥ (l.length : Int)) := by omega
    by_cases r : rd l (g2 + g1) = 10
    ·
     have hB := bytesOk_cut l hl (g2 + g1).toNat g2.toNat
     have hbk := bytes_back _ hB.2
     have hsz : (strOfNums ((l.take (g2 + g1).toNat).drop g2.toNat)).size < 140737488355328 := by
      rw [strOfNums_size]; have := hB.1; omega
     have w3 : wrap64 (g2 + g1 + 1) = g2 + g1 + 1 := wid (by omega) (by omega)
     obtain ⟨x, y, v, s, w, t, p, r1, r2, hw, hs, ht⟩ := safeOf_at c d _ hB k (by omega)
     have r' : (rd l (g2 + g1) != 10) = false := by rw [r]; rfl
     have r3 := spec_SafeOf.mono c d _ k _ r1
     cases p with
     | false =>
      refine ⟨s0, s1, s2, s3, s4, s5, n, ?_, ?_, b4, b3, b5⟩
      ·
       simp only [spec_LastNote.l0, e1, Option.bind_some, if_true, w1, w2]
       rw [if_neg q1, if_pos p1, if_pos p2, if_pos r, if_pos p3, if_pos p4, if_pos p5, r3]
       simp
      ·
       simp only [impl_LastNote.l0, e2, Option.bind_some, if_true]
       rw [if_neg p6, if_pos p1, if_pos p2, r']
       simp only [impl_LastNote.j1]
       rw [if_neg (by decide), if_pos hsz, hbk, r2]
       simp
     | true =>
      obtain ⟨x', y', v', s', w', t', p', i1, i2, i3⟩ := ih (g2 + g1 + 1) (by omega) (by omega) (by omega) k (by omega) x y v s w t hw hs ht
      refine ⟨x', y', v', s', w', t', p', ?_, ?_, i3⟩
      ·
       simp only [spec_LastNote.l0, e1, Option.bind_some, if_true, w1, w2, w3]
       rw [if_neg q1, if_pos p1, if_pos p2, if_pos r, if_pos p3, if_pos p4, if_pos p5, r3]
       simp only [Option.bind_some, if_true]
       exact spec_LastNote.mono_l k _ _ _ _ _ _ _ _ _ _ _ i1
      ·
       simp only [impl_LastNote.l0, e2, Option.bind_some, if_true]
       rw [if_neg p6, if_pos p1, if_pos p2, r']
       simp only [impl_LastNote.j1, w3]
       rw [if_neg (by decide), if_pos hsz, hbk, r2]
       simp only [Option.bind_some, if_true]
       exact i2
    ·
     have r' : (rd l (g2 + g1) != 10) = true := by simpa using r
     refine ⟨s0, s1, s2, s3, s4, s5, n, ?_, ?_, b4, b3, b5⟩
     ·
      simp only [spec_LastNote.l0, e1, Option.bind_some, if_true, w1, w2]
      rw [if_neg q1, if_pos p1, if_pos p2, if_neg r]
     ·
      simp only [impl_LastNote.l0, e2, Option.bind_some, if_true]
      rw [if_neg p6, if_pos p1, if_pos p2, r']
      simp [impl_LastNote.j1]
theorem lastNote_at (c d : Int) (l : List Int) (hl : bytesOk l) (k : Nat) (hk : 30000000 < k) :
  ∃ (x y v : Int) (s : ByteArray) (w : List Int) (t : ByteArray) (p : Int), spec_LastNote.f k c d l = some (x, y, v, s, w, t, p) ∧ impl_LastNote.f k c d l = some (x, y, v, s, w, t, p) ∧ w.length ≤ 1048600 ∧ s.size ≤ 1048576 ∧ t.size ≤ 1048576 := by
 have hn := hl.1
 obtain ⟨x, y, v, s, w, t, p, h1, h2, h3⟩ := lastNote_l c d l hl l.length 0 (by omega) (by omega) (by omega) k (by omega) 0 0 0 (⟨#[]⟩ : ByteArray) [] (⟨#[]⟩ : ByteArray) (by decide) (by decide) (by decide)
 exact ⟨x, y, v, s, w, t, p, by simp [spec_LastNote.f, spec_SafeNew.f, h1], by simp [impl_LastNote.f, impl_SafeNew.f, h2], h3⟩
theorem pnr_len1 (d : Nat) (n : Int) : 1 ≤ (pnr d n).length := by
 cases d with
 | zero => simp [pnr]
 | succ d =>
  simp only [pnr]
  split <;> simp
theorem pn_len1 (n : Int) : 1 ≤ (pn n).length := pnr_len1 4 n
theorem cut_app (l : List Int) (i j : Nat) (h : i ≤ j) (h2 : j ≤ l.length) : l.drop i = (l.take j).drop i ++ l.drop j := by
 have e := List.drop_append (l₁ := l.take j) (l₂ := l.drop j) (i := i)
 rw [List.take_append_drop] at e
 rw [e, List.length_take, Nat.min_eq_left h2, Nat.sub_eq_zero_of_le h, List.drop_zero]
theorem str_back (t : ByteArray) : strOfNums (bytesOf t) = t := by
 unfold strOfNums bytesOf
 rw [List.map_map]
 have e : t.data.toList.map ((fun n : Int => UInt8.ofNat n.toNat) ∘ fun b : UInt8 => (b.toNat : Int)) = t.data.toList := by
  conv => rhs; rw [← List.map_id t.data.toList]
  apply List.map_congr_left
  intro x _
  simp
 rw [e]
theorem bytesOf_len (t : ByteArray) : (bytesOf t).length = t.size := by
 unfold bytesOf
 rw [List.length_map, Array.length_toList]
 rfl
def et (t : ByteArray) : List Int := pn (t.size : Int) ++ bytesOf t
theorem et_len (t : ByteArray) : (et t).length = (pn (t.size : Int)).length + t.size := by
 unfold et
 rw [List.length_append, bytesOf_len]
theorem num_dec (l : List Int) (hl : bytesOk l) (a : Int) (o : Bool) (n b : Int) (h : cn l a o = (n, b, true)) : o = true ∧ 0 ≤ a ∧ 0 ≤ n ∧ n ≤ 2147483647 ∧ l.drop a.toNat = pn n ++ l.drop b.toNat ∧ b = a + ((pn n).length : Int) := by
 unfold cn at h
 by_cases c : (gn l a).2.2 = true ∧ o = true
 ·
  rw [if_pos c] at h
  simp only [Prod.mk.injEq, and_true] at h
  obtain ⟨h1, h2⟩ := h
  have e : gn l a = (n, b, true) := by rw [← h1, ← h2, ← c.1]
  exact ⟨c.2, gn_dec l hl.2 a n b e⟩
 ·
  rw [if_neg c] at h
  simp at h
theorem num_enc (l : List Int) (a : Nat) (n : Int) (r : List Int) (h0 : 0 ≤ n) (h1 : n ≤ 2147483647) (h : l.drop a = pn n ++ r) : cn l (a : Int) true = (n, ((a + (pn n).length : Nat) : Int), true) := by
 unfold cn
 rw [gn_enc l a n r h0 h1 h]
 exact if_pos ⟨rfl, rfl⟩
theorem text_dec (l : List Int) (hl : bytesOk l) (a : Int) (o : Bool) (t : ByteArray) (b : Int) (h : ct l a o = (t, b, true)) : o = true ∧ 0 ≤ a ∧ t.size ≤ 1048576 ∧ l.drop a.toNat = et t ++ l.drop b.toNat ∧ b = a + ((et t).length : Int) := by
 have hn := hl.1
 unfold ct at h
 by_cases c : ((gn l a).2.2 = true ∧ (gn l a).1 ≤ (l.length : Int) - (gn l a).2.1) ∧ o = true
 ·
  rw [if_pos c] at h
  obtain ⟨⟨c1, c2⟩, c3⟩ := c
  simp only [Prod.mk.injEq, and_true] at h
  obtain ⟨h1, h2⟩ := h
  have e : gn l a = ((gn l a).1, (gn l a).2.1, true) := by rw [← c1]
  obtain ⟨a0, n0, n1, d1, d2⟩ := gn_dec l hl.2 a _ _ e
  generalize (gn l a).1 = n at *
  generalize (gn l a).2.1 = b1 at *
  have hp := pn_len1 n
  have hsz : t.size = n.toNat := by
   rw [← h1, strOfNums_size, List.length_drop, List.length_take]
   omega
  have hbt : bytesOf t = (l.take (b1 + n).toNat).drop b1.toNat := by
   rw [← h1]
   exact bytes_back _ (bytesOk_cut l hl _ _).2
  have hn2 : (t.size : Int) = n := by omega
  refine ⟨c3, a0, by omega, ?_, ?_⟩
  ·
   unfold et
   rw [hn2, hbt, d1, List.append_assoc, ← h2, ← cut_app l b1.toNat (b1 + n).toNat (by omega) (by omega)]
  ·
   rw [et_len, hn2, ← h2, d2]
   omega
 ·
  rw [if_neg c] at h
  simp at h
theorem text_enc (l : List Int) (hl : bytesOk l) (a : Nat) (t : ByteArray) (r : List Int) (h : l.drop a = et t ++ r) : ct l (a : Int) true = (t, ((a + (et t).length : Nat) : Int), true) := by
 have hn := hl.1
 have hL := congrArg List.length h
 rw [List.length_drop, List.length_append, et_len] at hL
 have hp := pn_len1 (t.size : Int)
 unfold et at h
 rw [List.append_assoc] at h
 have g := gn_enc l a (t.size : Int) (bytesOf t ++ r) (by omega) (by omega) h
 have hd : l.drop (a + (pn (t.size : Int)).length) = bytesOf t ++ r := by
  rw [← List.drop_drop, h, List.drop_left]
 unfold ct
 rw [g]
 simp only
 rw [if_pos ⟨⟨trivial, by omega⟩, trivial⟩]
 rw [show (((a + (pn (t.size : Int)).length : Nat) : Int) + (t.size : Int)).toNat = a + (pn (t.size : Int)).length + t.size by omega, Int.toNat_natCast, List.drop_take, hd, show a + (pn (t.size : Int)).length + t.size - (a + (pn (t.size : Int)).length) = (bytesOf t).length by rw [bytesOf_len]; omega, List.take_left, str_back, et_len]
 simp only [Prod.mk.injEq, true_and, and_true]
 omega
def en (w : List Int) : List Int := w.flatMap pn
theorem en_cons (x : Int) (w : List Int) : en (x :: w) = pn x ++ en w := by simp [en]
def nums31 (w : List Int) : Prop := ∀ x ∈ w, 0 ≤ x ∧ x ≤ 2147483647
theorem who_dec_l (l : List Int) (hl : bytesOk l) (n : Int) (hn : n ≤ 2147483647) : ∀ (d k i : Nat) (out : List Int) (a : Int) (o : Bool) (w : List Int) (b : Int), (i : Int) + d = n → d + 30 < k → out.length ≤ i → a ≤ 9223372036854775807 → spec_l12Who.l0 k out n (i : Int) l a o = some (w, b, true) →
  ∃ u, w = out ++ u ∧ u.length = d ∧ nums31 u ∧ o = true ∧ (0 ≤ a → l.drop a.toNat = en u ++ l.drop b.toNat ∧ b = a + ((en u).length : Int)) := by
 intro d
 induction d with
 | zero =>
  intro k i out a o w b hd hk ho ha h
  obtain ⟨k, rfl⟩ : ∃ q, k = q + 1 := ⟨k - 1, by omega⟩
  simp only [spec_l12Who.l0] at h
  rw [if_neg (by omega)] at h
  simp only [Option.some.injEq, Prod.mk.injEq] at h
  obtain ⟨rfl, rfl, rfl⟩ := h
  exact ⟨[], by simp, rfl, (fun x hx => by cases hx), rfl, fun _ => ⟨by simp [en], by simp [en]⟩⟩
 | succ d ih =>
  intro k i out a o w b hd hk ho ha h
  obtain ⟨k, rfl⟩ : ∃ q, k = q + 1 := ⟨k - 1, by omega⟩
  simp only [spec_l12Who.l0] at h
  rw [if_pos (by omega)] at h
  cases o
  ·
   rw [if_neg (by decide)] at h
   simp at h
  ·
   have hw : wrap64 ((i : Int) + 1) = ((i + 1 : Nat) : Int) := wn (n := 4294967296) (by omega) (by omega)
   rw [if_pos rfl, specNum_at l hl a true ha k (by omega), Option.bind_some, if_pos (by omega), hw] at h
   obtain ⟨f1, _⟩ := cn_fine l hl a true ha
   obtain ⟨u, rfl, u2, u3, u4, u5⟩ := ih k (i + 1) _ _ _ w b (by omega) (by omega) (by simp; omega) f1 h
   have e : cn l a true = ((cn l a true).1, (cn l a true).2.1, true) := Prod.ext rfl (Prod.ext rfl u4)
   obtain ⟨_, a0, n0, n1, d1, d2⟩ := num_dec l hl a true _ _ e
   generalize (cn l a true).1 = x at *
   generalize (cn l a true).2.1 = a' at *
   obtain ⟨g1, g2⟩ := u5 (by omega)
   refine ⟨x :: u, by simp, by simp [u2], ?_, rfl, fun _ => ⟨?_, ?_⟩⟩
   ·
    intro y hy
    rcases List.mem_cons.1 hy with rfl | hy
    ·
     exact ⟨n0, n1⟩
    ·
     exact u3 y hy
   ·
    rw [en_cons, List.append_assoc, ← g1, d1]
   ·
    rw [en_cons, List.length_append]
    omega
def ew (w : List Int) : List Int := pn (w.length : Int) ++ en w
theorem who_dec (l : List Int) (hl : bytesOk l) (a : Int) (o : Bool) (ha : a ≤ 9223372036854775807) (w : List Int) (b : Int) (k : Nat) (h : spec_l12Who.f k l a o = some (w, b, true)) :
  o = true ∧ 0 ≤ a ∧ nums31 w ∧ w.length ≤ 2147483647 ∧ l.drop a.toNat = ew w ++ l.drop b.toNat ∧ b = a + ((ew w).length : Int) := by
 have h2 := mono_le (fun k => spec_l12Who.mono l a o k) h (show k ≤ k + 2147483800 by omega)
 generalize hK : k + 2147483800 = K at h2
 unfold spec_l12Who.f at h2
 rw [specNum_at l hl a o ha K (by omega), Option.bind_some] at h2
 obtain ⟨f1, _⟩ := cn_fine l hl a o ha
 have hle := cn_le l hl a o
 by_cases h0 : 0 ≤ (cn l a o).1
 ·
  obtain ⟨u, hwu, u2, u3, u4, u5⟩ := who_dec_l l hl (cn l a o).1 hle (cn l a o).1.toNat K 0 [] (cn l a o).2.1 (cn l a o).2.2 w b (by omega) (by omega) (by simp) f1 h2
  rw [List.nil_append] at hwu
  subst hwu
  have e : cn l a o = ((cn l a o).1, (cn l a o).2.1, true) := Prod.ext rfl (Prod.ext rfl u4)
  obtain ⟨o1, a0, n0, n1, d1, d2⟩ := num_dec l hl a o _ _ e
  generalize (cn l a o).1 = x at *
  generalize (cn l a o).2.1 = a' at *
  obtain ⟨g1, g2⟩ := u5 (by omega)
  have hx : ((w.length : Nat) : Int) = x := by omega
  refine ⟨o1, a0, u3, by omega, ?_, ?_⟩
  ·
   unfold ew
   rw [hx, List.append_assoc, ← g1, d1]
  ·
   unfold ew
   rw [hx, List.length_append]
   omega
 ·
  exfalso
  unfold cn at h0
  by_cases c : (gn l a).2.2 = true ∧ o = true
  ·
   rw [if_pos c] at h0
   exact h0 (gn_ok l hl a c.1).2.1
  ·
   rw [if_neg c] at h0
   exact h0 (Int.le_refl 0)
theorem who_enc_l (l : List Int) (hl : bytesOk l) (n : Int) (hn : n ≤ 2147483647) (r : List Int) : ∀ (u : List Int) (k i a : Nat) (out : List Int), (i : Int) + u.length = n → u.length + 30 < k → out.length ≤ i → a ≤ 2000000 → nums31 u → l.drop a = en u ++ r →
  spec_l12Who.l0 k out n (i : Int) l (a : Int) true = some (out ++ u, ((a + (en u).length : Nat) : Int), true) := by
 intro u
 induction u with
 | nil =>
  intro k i a out hd hk ho ha hu h
  obtain ⟨k, rfl⟩ : ∃ q, k = q + 1 := ⟨k - 1, by omega⟩
  simp only [List.length_nil] at hd
  simp only [spec_l12Who.l0]
  rw [if_neg (by omega)]
  simp [en]
 | cons x u ih =>
  intro k i a out hd hk ho ha hu h
  obtain ⟨k, rfl⟩ : ∃ q, k = q + 1 := ⟨k - 1, by omega⟩
  simp only [List.length_cons] at hd hk
  have hw : wrap64 ((i : Int) + 1) = ((i + 1 : Nat) : Int) := wn (n := 4294967296) (by omega) (by omega)
  rw [en_cons, List.append_assoc] at h
  obtain ⟨x0, x1⟩ := hu x List.mem_cons_self
  have hll := hl.1
  have hL := congrArg List.length h
  rw [List.length_drop, List.length_append] at hL
  have hp := pn_len1 x
  have e := num_enc l a x (en u ++ r) x0 x1 h
  have hd2 : l.drop (a + (pn x).length) = en u ++ r := by rw [← List.drop_drop, h, List.drop_left]
  simp only [spec_l12Who.l0]
  rw [if_pos (by omega), if_pos trivial, specNum_at l hl (a : Int) true (by omega) k (by omega), e, Option.bind_some, if_pos (by omega), hw]
  simp only
  rw [ih k (i + 1) (a + (pn x).length) (out ++ [x]) (by omega) (by omega) (by simp; omega) (by omega) (fun y hy => hu y (List.mem_cons_of_mem _ hy)) hd2, en_cons, List.length_append]
  simp only [List.append_assoc, List.singleton_append, Nat.add_assoc]
theorem who_enc (l : List Int) (hl : bytesOk l) (a : Nat) (w r : List Int) (hw : nums31 w) (h : l.drop a = ew w ++ r) (k : Nat) (hk : l.length + 100 < k) : spec_l12Who.f k l (a : Int) true = some (w, ((a + (ew w).length : Nat) : Int), true) := by
 have hll := hl.1
 have hL := congrArg List.length h
 unfold ew at h hL
 rw [List.append_assoc] at h
 simp only [List.length_drop, List.length_append] at hL
 have hlen : w.length ≤ (en w).length := by
  clear hL h hw
  induction w with
  | nil => simp
  | cons x w ih =>
   have := pn_len1 x
   rw [en_cons, List.length_append, List.length_cons]
   omega
 have hp := pn_len1 (w.length : Int)
 have e := num_enc l a (w.length : Int) (en w ++ r) (by omega) (by omega) h
 have hd2 : l.drop (a + (pn (w.length : Int)).length) = en w ++ r := by rw [← List.drop_drop, h, List.drop_left]
 unfold spec_l12Who.f
 rw [specNum_at l hl (a : Int) true (by omega) k (by omega), e, Option.bind_some]
 have := who_enc_l l hl (w.length : Int) (by omega) r w k 0 (a + (pn (w.length : Int)).length) [] (by omega) (by omega) (by simp) (by omega) hw hd2
 unfold ew
 simp only [List.nil_append, List.length_append, Nat.add_assoc] at this ⊢
 exact this
def eq_ (v : Int) (s : ByteArray) (w : List Int) : List Int := pn v ++ (et s ++ ew w)
theorem qc_dec (l : List Int) (hl : bytesOk l) (a : Int) (o : Bool) (ha : a ≤ 9223372036854775807) (v : Int) (s : ByteArray) (w : List Int) (b : Int) (k : Nat) (hk : 20 < k) (h : spec_l12Qc.f k l a o = some (v, s, w, b, true)) :
  o = true ∧ 0 ≤ a ∧ 0 ≤ v ∧ v ≤ 2147483647 ∧ s.size ≤ 1048576 ∧ nums31 w ∧ l.drop a.toNat = eq_ v s w ++ l.drop b.toNat ∧ b = a + ((eq_ v s w).length : Int) := by
 obtain ⟨f1, _⟩ := cn_fine l hl a o ha
 obtain ⟨⟨f2, _⟩, _⟩ := ct_fine l hl (cn l a o).2.1 (cn l a o).2.2 f1
 unfold spec_l12Qc.f at h
 rw [specNum_at l hl a o ha k hk, Option.bind_some] at h
 simp only [specText_at l hl (cn l a o).2.1 (cn l a o).2.2 f1 k hk, Option.bind_some] at h
 cases hw : spec_l12Who.f k l (ct l (cn l a o).2.1 (cn l a o).2.2).2.1 (ct l (cn l a o).2.1 (cn l a o).2.2).2.2 with
 | none => rw [hw] at h; cases h
 | some q =>
  obtain ⟨w', b', p⟩ := q
  rw [hw, Option.bind_some] at h
  simp only [Option.some.injEq, Prod.mk.injEq] at h
  obtain ⟨h1, h2, rfl, rfl, rfl⟩ := h
  obtain ⟨w1, w2, w3, w4, w5, w6⟩ := who_dec l hl _ _ f2 _ _ k hw
  have e2 : ct l (cn l a o).2.1 (cn l a o).2.2 = (s, (ct l (cn l a o).2.1 (cn l a o).2.2).2.1, true) := Prod.ext h2 (Prod.ext rfl w1)
  obtain ⟨t1, t2, t3, t4, t5⟩ := text_dec l hl _ _ _ _ e2
  have e1 : cn l a o = (v, (cn l a o).2.1, true) := Prod.ext h1 (Prod.ext rfl t1)
  obtain ⟨n1, n2, n3, n4, n5, n6⟩ := num_dec l hl a o _ _ e1
  generalize (ct l (cn l a o).2.1 (cn l a o).2.2).2.1 = b2 at *
  generalize (cn l a o).2.1 = b1 at *
  refine ⟨n1, n2, n3, n4, t3, w3, ?_, ?_⟩
  ·
   unfold eq_
   rw [n5, t4, w5]
   simp only [List.append_assoc]
  ·
   unfold eq_
   simp only [List.length_append]
   omega
theorem qc_enc (l : List Int) (hl : bytesOk l) (a : Nat) (v : Int) (s : ByteArray) (w r : List Int) (h0 : 0 ≤ v) (h1 : v ≤ 2147483647) (hw : nums31 w) (h : l.drop a = eq_ v s w ++ r) (k : Nat) (hk : l.length + 100 < k) :
  spec_l12Qc.f k l (a : Int) true = some (v, s, w, ((a + (eq_ v s w).length : Nat) : Int), true) := by
 have hll := hl.1
 have hL := congrArg List.length h
 unfold eq_ at h hL
 rw [List.append_assoc, List.append_assoc] at h
 simp only [List.length_drop, List.length_append] at hL
 have hp := pn_len1 v
 have e1 := num_enc l a v (et s ++ (ew w ++ r)) h0 h1 h
 have d1 : l.drop (a + (pn v).length) = et s ++ (ew w ++ r) := by rw [← List.drop_drop, h, List.drop_left]
 have e2 := text_enc l hl _ s (ew w ++ r) d1
 have d2 : l.drop (a + (pn v).length + (et s).length) = ew w ++ r := by rw [← List.drop_drop, d1, List.drop_left]
 have e3 := who_enc l hl _ w r hw d2 k hk
 unfold spec_l12Qc.f
 rw [specNum_at l hl (a : Int) true (by omega) k (by omega), e1, Option.bind_some]
 simp only
 rw [specText_at l hl _ true (by omega) k (by omega), e2, Option.bind_some]
 simp only
 rw [e3, Option.bind_some]
 unfold eq_
 simp only [List.length_append, Nat.add_assoc]
def es (x y v : Int) (s : ByteArray) (w : List Int) (d : ByteArray) : List Int := pn x ++ (pn y ++ (eq_ v s w ++ et d))
theorem safe_dec (c e : Int) (l : List Int) (hl : bytesOk l) (x y v : Int) (s : ByteArray) (w : List Int) (d : ByteArray) (k : Nat) (hk : 20 < k) (h : spec_SafeOf.f k c e l = some (x, y, v, s, w, d, true)) :
  l = es x y v s w d ∧ spec_SafeOk.f k c e x y v s w d = some true := by
 unfold spec_SafeOf.f at h
 obtain ⟨f1, _⟩ := cn_fine l hl 0 true (by decide)
 rw [specNum_at l hl 0 true (by decide) k hk, Option.bind_some] at h
 obtain ⟨f2, _⟩ := cn_fine l hl (cn l 0 true).2.1 (cn l 0 true).2.2 f1
 simp only [specNum_at l hl (cn l 0 true).2.1 (cn l 0 true).2.2 f1 k hk, Option.bind_some] at h
 cases hq : spec_l12Qc.f k l (cn l (cn l 0 true).2.1 (cn l 0 true).2.2).2.1 (cn l (cn l 0 true).2.1 (cn l 0 true).2.2).2.2 with
 | none => rw [hq] at h; cases h
 | some q =>
  obtain ⟨v', s', w', b3, p3⟩ := q
  rw [hq, Option.bind_some] at h
  simp only at h
  have hb3 : b3 ≤ 9223372036854775807 := by
   obtain ⟨v2, s2, w2, b2, p2, g1, _, _, g2⟩ := curQc_at l hl _ (cn l (cn l 0 true).2.1 (cn l 0 true).2.2).2.2 f2
   have g := (g1 (k + l.length + 200) (by omega)).1
   have m := mono_le (fun k => spec_l12Qc.mono l (cn l (cn l 0 true).2.1 (cn l 0 true).2.2).2.1 (cn l (cn l 0 true).2.1 (cn l 0 true).2.2).2.2 k) hq (show k ≤ k + l.length + 200 by omega)
   have q := Option.some.inj (m.symm.trans g)
   simp only [Prod.mk.injEq] at q
   omega
  rw [specText_at l hl b3 p3 hb3 k hk, Option.bind_some] at h
  by_cases c1 : (ct l b3 p3).2.2 = true
  ·
   rw [if_pos c1] at h
   by_cases c2 : (ct l b3 p3).2.1 = (l.length : Int)
   ·
    rw [if_pos c2] at h
    cases ho : spec_SafeOk.f k c e (cn l 0 true).1 (cn l (cn l 0 true).2.1 (cn l 0 true).2.2).1 v' s' w' (ct l b3 p3).1 with
    | none => rw [ho] at h; cases h
    | some q =>
     rw [ho, Option.bind_some] at h
     cases q
     ·
      simp at h
     ·
      rw [if_pos rfl] at h
      simp only [Option.some.injEq, Prod.mk.injEq, and_true] at h
      obtain ⟨h1, h2, rfl, rfl, rfl, h6⟩ := h
      have e4 : ct l b3 p3 = (d, (l.length : Int), true) := Prod.ext h6 (Prod.ext c2 c1)
      obtain ⟨t1, t2, t3, t4, t5⟩ := text_dec l hl _ _ _ _ e4
      subst t1
      obtain ⟨q1, q2, q3, q4, q5, q6, q7, q8⟩ := qc_dec l hl _ _ f2 _ _ _ _ k hk hq
      have e2 : cn l (cn l 0 true).2.1 (cn l 0 true).2.2 = (y, (cn l (cn l 0 true).2.1 (cn l 0 true).2.2).2.1, true) := Prod.ext h2 (Prod.ext rfl q1)
      obtain ⟨n1, n2, n3, n4, n5, n6⟩ := num_dec l hl _ _ _ _ e2
      have e1 : cn l 0 true = (x, (cn l 0 true).2.1, true) := Prod.ext h1 (Prod.ext rfl n1)
      obtain ⟨m1, m2, m3, m4, m5, m6⟩ := num_dec l hl 0 true _ _ e1
      rw [h1, h2, h6] at ho
      refine ⟨?_, ho⟩
      generalize (cn l (cn l 0 true).2.1 (cn l 0 true).2.2).2.1 = b2 at *
      generalize (cn l 0 true).2.1 = b1 at *
      rw [Int.toNat_zero, List.drop_zero] at m5
      rw [Int.toNat_natCast, List.drop_length, List.append_nil] at t4
      unfold es
      rw [← t4, ← q7, ← n5]
      exact m5
   ·
    rw [if_neg c2] at h
    simp at h
  ·
   rw [if_neg c1] at h
   simp at h
theorem safe_enc (c e : Int) (x y v : Int) (s : ByteArray) (w : List Int) (d : ByteArray) (hl : bytesOk (es x y v s w d)) (hx : 0 ≤ x ∧ x ≤ 2147483647) (hy : 0 ≤ y ∧ y ≤ 2147483647) (hv : 0 ≤ v ∧ v ≤ 2147483647) (hw : nums31 w) (k : Nat) (hk : (es x y v s w d).length + 100 < k) (ho : spec_SafeOk.f k c e x y v s w d = some true) :
  spec_SafeOf.f k c e (es x y v s w d) = some (x, y, v, s, w, d, true) := by
 generalize hL : es x y v s w d = l at *
 have hll := hl.1
 have h0 : l.drop 0 = pn x ++ (pn y ++ (eq_ v s w ++ et d)) := by rw [List.drop_zero, ← hL]; rfl
 have hlen := congrArg List.length h0
 simp only [List.length_drop, List.length_append] at hlen
 have e1 := num_enc l 0 x (pn y ++ (eq_ v s w ++ et d)) hx.1 hx.2 h0
 have d1 : l.drop (0 + (pn x).length) = pn y ++ (eq_ v s w ++ et d) := by rw [← List.drop_drop, h0, List.drop_left]
 have e2 := num_enc l _ y (eq_ v s w ++ et d) hy.1 hy.2 d1
 have d2 : l.drop (0 + (pn x).length + (pn y).length) = eq_ v s w ++ et d := by rw [← List.drop_drop, d1, List.drop_left]
 have e3 := qc_enc l hl _ v s w (et d) hv.1 hv.2 hw d2 k hk
 have d3 : l.drop (0 + (pn x).length + (pn y).length + (eq_ v s w).length) = et d ++ [] := by rw [← List.drop_drop, d2, List.drop_left, List.append_nil]
 have e4 := text_enc l hl _ d [] d3
 unfold spec_SafeOf.f
 rw [show ((0 : Nat) : Int) = 0 from rfl] at e1
 rw [specNum_at l hl 0 true (by decide) k (by omega), e1, Option.bind_some]
 simp only
 rw [specNum_at l hl _ true (by omega) k (by omega), e2, Option.bind_some]
 simp only
 rw [e3, Option.bind_some]
 simp only
 rw [specText_at l hl _ true (by omega) k (by omega), e4, Option.bind_some]
 simp only
 rw [if_pos trivial, if_pos (by omega), ho, Option.bind_some, if_pos rfl]
theorem quorum_at (a b : Int) : ∃ q, spec_Quorum.f a b = some q ∧ impl_Quorum.f a b = some q := by
 unfold spec_Quorum.f impl_Quorum.f impl_Faults.f
 rw [specConf_at, implConf_at]
 cases confB a b <;> simp
theorem qcOk_at (a b v : Int) (s : ByteArray) (l : List Int) (hs : s.size < 100000000) (hn : l.length < 100000000) (k : Nat) (hk : 3 * s.size + 2 * l.length + 90 < k) :
  ∃ r, spec_QcOk.f k a b v s l = some r ∧ impl_QcOk.f k a b v s l = some r := by
 obtain ⟨w, o, v1, v2, o1, o2, hv, he⟩ := viewOf_at s hs k (by omega)
 obtain ⟨t, ht⟩ := setOk_at a l (by omega)
 obtain ⟨q, q1, q2⟩ := quorum_at a b
 unfold spec_QcOk.f impl_QcOk.f impl_QcFirst.f
 rw [specConf_at, implConf_at]
 have hk2 : 2 * l.length + 1 < k := by omega
 cases hc : confB a b
 ·
  exact ⟨false, by simp, by simp⟩
 ·
  simp only [Option.bind_some, if_true, o1, o2, v1, v2, implQcSame_at _ _ _ _ _ _ (show l.length ≤ 9223372036854775807 by omega) k hk2]
  by_cases hz : s.data.toList = []
  ·
   obtain ⟨rfl, rfl⟩ := he hz
   simp only [if_true]
   by_cases hv0 : v = 0
   ·
    subst hv0
    refine ⟨(l.length : Int) == 0, ?_, ?_⟩
    ·
     rw [if_pos rfl, Lib.toList_data, if_pos hz]
    ·
     have e2 : qcB 0 s l 0 (⟨#[]⟩ : ByteArray) [] = ((l.length : Int) == 0) := by
      unfold qcB
      rw [Lib.toList_data, Lib.toList_data, hz]
      cases l with
      | nil => rfl
      | cons x y => simp; omega
     rw [e2]
     cases hl : ((l.length : Int) == 0)
     ·
      simp
     ·
      simp
   ·
    have e2 : qcB v s l 0 (⟨#[]⟩ : ByteArray) [] = false := by unfold qcB; simp [hv0]
    rw [e2]
    exact ⟨false, by rw [if_neg (Ne.symm hv0)], by simp [hv0]⟩
  ·
   have e2 : qcB v s l 0 (⟨#[]⟩ : ByteArray) [] = false := by
    unfold qcB
    rw [Lib.toList_data, Lib.toList_data]
    exact decide_eq_false (fun h => hz h.2.1)
   rw [e2]
   cases o
   ·
    exact ⟨false, by simp, by simp⟩
   ·
    have hw := hv rfl hz
    simp only [if_true]
    by_cases hwv : w = v
    ·
     subst hwv
     refine ⟨if t = true then decide ((l.length : Int) ≥ q) else false, ?_, ?_⟩
     ·
      rw [if_pos rfl, Lib.toList_data, if_neg hz, (ht k (by omega)).1, Option.bind_some, q1]
      cases t <;> simp
     ·
      have h1 : w ≥ 1 := hw
      simp only [if_pos h1, (ht k (by omega)).2, q2, Option.bind_some, if_true]
      cases t <;> simp
    ·
     refine ⟨false, by rw [if_neg hwv], ?_⟩
     have h2 : ¬ v = w := fun e => hwv e.symm
     simp [h2]
theorem in_at (x lo hi : Int) : ∃ c, spec_l1In.f x lo hi = some c ∧ impl_within.f x lo hi = some c := by
 unfold spec_l1In.f impl_within.f
 by_cases h : x ≥ lo
 ·
  exact ⟨_, by rw [if_pos h], by rw [if_pos h]⟩
 ·
  exact ⟨_, by rw [if_neg h], by rw [if_neg h]⟩
theorem safeOk_at (a b x y v : Int) (s : ByteArray) (l : List Int) (d : ByteArray) (hs : s.size < 100000000) (hn : l.length < 100000000) (hd : d.size < 100000000) (k : Nat) (hk : 3 * s.size + 2 * l.length + 3 * d.size + 90 < k) :
  ∃ r, spec_SafeOk.f k a b x y v s l d = some r ∧ impl_SafeOk.f k a b x y v s l d = some r := by
 obtain ⟨c, c1, c2⟩ := in_at x 0 60
 obtain ⟨e, e1, e2⟩ := in_at y 0 60
 obtain ⟨q, q1, q2⟩ := qcOk_at a b v s l hs hn k (by omega)
 obtain ⟨w, o, v1, v2, o1, o2, hv, he⟩ := viewOf_at d hd k (by omega)
 unfold spec_SafeOk.f impl_SafeOk.f
 simp only [c1, c2, e1, e2, q1, q2, o1, o2, Option.bind_some]
 cases c <;> cases e <;> cases q <;> exact ⟨_, rfl, rfl⟩
theorem putNum_l : ∀ (j : Nat) (n : Int) (out : List Int), 0 ≤ n → n ≤ 2147483647 → n < 128 ^ (j + 1) → out.length + j < 1000 →
  ∃ r, (∀ k, j < k → spec_PutNum.l0 k n out = some r ∧ impl_PutNum.l0 k n out = some r) ∧ r.length ≤ out.length + j + 1 := by
 intro j
 induction j with
 | zero =>
  intro n out h0 _ h1 ho
  have h2 : n < 128 := by simpa using h1
  refine ⟨out ++ [n % 256], fun k hk => ?_, by simp⟩
  obtain ⟨k, rfl⟩ : ∃ q, k = q + 1 := ⟨k - 1, by omega⟩
  simp only [spec_PutNum.l0, impl_PutNum.l0]
  rw [if_neg (show ¬ n > 127 by omega), if_neg (show ¬ n ≥ 128 by omega), if_pos (show out.length < 140737488355328 by omega)]
  exact ⟨rfl, rfl⟩
 | succ j ih =>
  intro n out h0 hm h1 ho
  by_cases h2 : n > 127
  ·
   have e : wrap64 (Int.tdiv n 128) = n / 128 := by
    rw [Int.tdiv_eq_ediv_of_nonneg h0]
    unfold wrap64
    omega
   have hp : (128 : Int) ^ (j + 1 + 1) = 128 ^ (j + 1) * 128 := Int.pow_succ _ _
   rw [hp] at h1
   have h3 : n / 128 < 128 ^ (j + 1) := by
    generalize (128 : Int) ^ (j + 1) = P at h1
    omega
   obtain ⟨r, hr, hl⟩ := ih (n / 128) (out ++ [(wrap64 ((Int.tmod n 128) + 128)) % 256]) (by omega) (by omega) h3 (by simp; omega)
   refine ⟨r, fun k hk => ?_, by simp at hl; omega⟩
   obtain ⟨k, rfl⟩ : ∃ q, k = q + 1 := ⟨k - 1, by omega⟩
   simp only [spec_PutNum.l0, impl_PutNum.l0]
   have h9 : out.length < 140737488355328 := by omega
   simp only [if_pos h2, if_pos (show n ≥ 128 by omega), if_pos h9, e]
   exact hr k (by omega)
  ·
   refine ⟨out ++ [n % 256], fun k hk => ?_, by simp⟩
   obtain ⟨k, rfl⟩ : ∃ q, k = q + 1 := ⟨k - 1, by omega⟩
   simp only [spec_PutNum.l0, impl_PutNum.l0]
   rw [if_neg h2, if_neg (show ¬ n ≥ 128 by omega), if_pos (show out.length < 140737488355328 by omega)]
   exact ⟨rfl, rfl⟩
theorem putNum_ex (n : Int) : ∃ r, (∀ k, 6 < k → spec_PutNum.f k n = some r ∧ impl_PutNum.f k n = some r) ∧ r.length ≤ 5 := by
 unfold spec_PutNum.f impl_PutNum.f spec_l1In.f impl_within.f
 by_cases h0 : n ≥ 0
 ·
  by_cases h1 : n ≤ 2147483647
  ·
   obtain ⟨r, hr, hl⟩ := putNum_l 4 n [] h0 h1 (by omega) (by simp)
   refine ⟨r, fun k hk => ?_, by simpa using hl⟩
   simp only [Option.bind_some, if_pos h0, decide_eq_true h1, if_true]
   exact hr k (by omega)
  ·
   refine ⟨[], fun k hk => ?_, by simp⟩
   simp [h0, h1]
 ·
  refine ⟨[], fun k hk => ?_, by simp⟩
  simp [h0]
noncomputable def putB (n : Int) : List Int := Classical.choose (putNum_ex n)
theorem putNum_at (n : Int) (k : Nat) (hk : 6 < k) : spec_PutNum.f k n = some (putB n) ∧ impl_PutNum.f k n = some (putB n) := (Classical.choose_spec (putNum_ex n)).1 k hk
theorem putB_length (n : Int) : (putB n).length ≤ 5 := (Classical.choose_spec (putNum_ex n)).2
noncomputable def catB (l : List Int) : List Int := l.flatMap putB
theorem catB_length : ∀ l : List Int, (catB l).length ≤ 5 * l.length
 | [] => by simp [catB]
 | x :: l => by
  have h1 := putB_length x
  have h2 := catB_length l
  simp only [catB, List.flatMap_cons, List.length_append, List.length_cons] at h2 ⊢
  omega
theorem putText_at (s : ByteArray) (hs : s.size < 100000000) (k : Nat) (hk : 6 < k) : spec_PutText.f k s = some (putB (s.size : Int) ++ bytesOf s) ∧ impl_PutText.f k s = some (putB (s.size : Int) ++ bytesOf s) := by
 obtain ⟨h1, h2⟩ := putNum_at (s.size : Int) k hk
 have h3 := putB_length (s.size : Int)
 unfold spec_PutText.f impl_PutText.f
 have c : (putB (s.size : Int)).length + s.size < 140737488355328 := by omega
 exact ⟨by simp only [h1, Option.bind_some, if_pos c], by simp only [h2, Option.bind_some, if_pos c]⟩
theorem putNums_at (l : List Int) (hn : l.length < 100000000) (k : Nat) (hk : l.length + 8 < k) : impl_putNums.f k l = some (catB l) := by
 have key : ∀ (d k m : Nat) (out : List Int), m + d = l.length → d + 8 < k → out.length + 5 * d < 10000000000 → impl_putNums.l0 k out l (l.length : Int) (m : Int) = some (out ++ catB (l.drop m)) := by
  intro d
  induction d with
  | zero =>
   intro k m out hd hk _
   obtain ⟨k, rfl⟩ : ∃ q, k = q + 1 := ⟨k - 1, by omega⟩
   simp only [impl_putNums.l0]
   rw [if_neg (by omega), List.drop_of_length_le (by omega)]
   simp [catB]
  | succ d ih =>
   intro k m out hd hk ho
   obtain ⟨k, rfl⟩ : ∃ q, k = q + 1 := ⟨k - 1, by omega⟩
   have h3 := putB_length (rd l (m : Int))
   simp only [impl_putNums.l0]
   rw [if_pos (by omega), if_pos (by omega), if_pos (by omega), (putNum_at _ k (by omega)).2, Option.bind_some, if_pos (by omega), wn (n := l.length) (by omega) (by omega), ih k (m + 1) _ (by omega) (by omega) (by rw [List.length_append]; omega), drop_at l m (by omega)]
   simp [catB]
 have := key l.length k 0 [] (by omega) hk (by simp; omega)
 unfold impl_putNums.f
 simpa using this
theorem qcBytes_l (l : List Int) (hn : l.length < 100000000) (x : Int) (z : ByteArray) : ∀ (d k m : Nat) (out : List Int), m + d = l.length → d + 8 < k → out.length + 5 * d < 10000000000 → spec_QcBytes.l0 k out (m : Int) x z l = some (out ++ catB (l.drop m)) := by
 intro d
 induction d with
 | zero =>
  intro k m out hd hk _
  obtain ⟨k, rfl⟩ : ∃ q, k = q + 1 := ⟨k - 1, by omega⟩
  simp only [spec_QcBytes.l0]
  rw [if_neg (by omega), List.drop_of_length_le (by omega)]
  simp [catB]
 | succ d ih =>
  intro k m out hd hk ho
  obtain ⟨k, rfl⟩ : ∃ q, k = q + 1 := ⟨k - 1, by omega⟩
  have h3 := putB_length (rd l (m : Int))
  simp only [spec_QcBytes.l0]
  rw [if_pos (by omega), if_pos (by omega), (putNum_at _ k (by omega)).1, Option.bind_some, if_pos (by omega), wn (n := l.length) (by omega) (by omega), ih k (m + 1) _ (by omega) (by omega) (by rw [List.length_append]; omega), drop_at l m (by omega)]
  simp [catB]
theorem qcBytes_at (a b v : Int) (s : ByteArray) (l : List Int) (hs : s.size < 100000000) (hn : l.length < 100000000) (k : Nat) (hk : 3 * s.size + 2 * l.length + 90 < k) :
  ∃ r, spec_QcBytes.f k a b v s l = some r ∧ impl_QcBytes.f k a b v s l = some r ∧ r.length ≤ 20 + s.size + 5 * l.length := by
 obtain ⟨r, r1, r2⟩ := qcOk_at a b v s l hs hn k hk
 obtain ⟨p1, p2⟩ := putNum_at v k (by omega)
 obtain ⟨t1, t2⟩ := putText_at s hs k (by omega)
 obtain ⟨n1, n2⟩ := putNum_at (l.length : Int) k (by omega)
 have l1 := putB_length v
 have l2 := putB_length (s.size : Int)
 have l3 := putB_length (l.length : Int)
 have l4 := catB_length l
 have l5 := bytesOf_length s
 have q1 := fun out h => qcBytes_l l hn v s l.length k 0 out (by omega) (by omega) h
 have q2 := putNums_at l hn k (by omega)
 rw [List.drop_zero] at q1
 unfold spec_QcBytes.f impl_QcBytes.f
 rw [r1, r2, Option.bind_some, Option.bind_some]
 cases r
 ·
  exact ⟨[], rfl, rfl, Nat.zero_le _⟩
 ·
  have c1 : (putB v).length + (putB (s.size : Int) ++ bytesOf s).length < 140737488355328 := by rw [List.length_append]; omega
  have c2 : (putB v ++ (putB (s.size : Int) ++ bytesOf s)).length + (putB (l.length : Int)).length < 140737488355328 := by rw [List.length_append, List.length_append]; omega
  have c3 : (putB v ++ (putB (s.size : Int) ++ bytesOf s) ++ putB (l.length : Int)).length + (catB l).length < 140737488355328 := by rw [List.length_append, List.length_append, List.length_append]; omega
  refine ⟨putB v ++ (putB (s.size : Int) ++ bytesOf s) ++ putB (l.length : Int) ++ catB l, ?_, ?_, ?_⟩
  ·
   simp only [if_true, p1, t1, n1, Option.bind_some, if_pos c1, if_pos c2]
   exact q1 _ (by rw [List.length_append, List.length_append, List.length_append]; omega)
  ·
   simp only [if_true, p2, t2, n2, q2, Option.bind_some, if_pos c1, if_pos c2, if_pos c3]
  ·
   rw [List.length_append, List.length_append, List.length_append, List.length_append]
   omega
theorem safeBytes_at (a b x y v : Int) (s : ByteArray) (l : List Int) (d : ByteArray) (hs : s.size < 100000000) (hn : l.length < 100000000) (hd : d.size < 100000000) (k : Nat) (hk : 3 * s.size + 2 * l.length + 3 * d.size + 90 < k) :
  ∃ r, spec_SafeBytes.f k a b x y v s l d = some r ∧ impl_SafeBytes.f k a b x y v s l d = some r ∧ r.length ≤ 50 + s.size + 5 * l.length + d.size := by
 obtain ⟨o, o1, o2⟩ := safeOk_at a b x y v s l d hs hn hd k hk
 obtain ⟨p1, p2⟩ := putNum_at x k (by omega)
 obtain ⟨n1, n2⟩ := putNum_at y k (by omega)
 obtain ⟨t1, t2⟩ := putText_at d hd k (by omega)
 obtain ⟨q, q1, q2, q3⟩ := qcBytes_at a b v s l hs hn k (by omega)
 have g := putNums_at [x, y] (by simp) k (by simp; omega)
 have e : catB [x, y] = putB x ++ putB y := by simp [catB]
 have l1 := putB_length x
 have l2 := putB_length y
 have l3 := putB_length (d.size : Int)
 have l5 := bytesOf_length d
 unfold spec_SafeBytes.f impl_SafeBytes.f
 rw [o1, o2, Option.bind_some, Option.bind_some]
 cases o
 ·
  exact ⟨[], rfl, rfl, Nat.zero_le _⟩
 ·
  have c1 : (putB x).length + (putB y).length < 140737488355328 := by omega
  have c2 : (putB x ++ putB y).length + q.length < 140737488355328 := by rw [List.length_append]; omega
  have c3 : (putB x ++ putB y ++ q).length + (putB (d.size : Int) ++ bytesOf d).length < 140737488355328 := by rw [List.length_append, List.length_append, List.length_append]; omega
  refine ⟨putB x ++ putB y ++ q ++ (putB (d.size : Int) ++ bytesOf d), ?_, ?_, ?_⟩
  ·
   simp only [if_true, p1, n1, t1, q1, Option.bind_some, if_pos c1, if_pos c2, if_pos c3]
  ·
   simp only [if_true, g, e, q2, t2, Option.bind_some, if_pos c2, if_pos c3]
  ·
   rw [List.length_append, List.length_append, List.length_append, List.length_append]
   omega
theorem noteBytes_at (a b x y v : Int) (s : ByteArray) (l : List Int) (d : ByteArray) (hs : s.size < 100000000) (hn : l.length < 100000000) (hd : d.size < 100000000) (k : Nat) (hk : 3 * s.size + 2 * l.length + 3 * d.size + 90 < k) :
  ∃ r, spec_NoteBytes.f k a b x y v s l d = some r ∧ impl_NoteBytes.f k a b x y v s l d = some r ∧ r.length ≤ 60 + s.size + 5 * l.length + d.size := by
 obtain ⟨q, q1, q2, q3⟩ := safeBytes_at a b x y v s l d hs hn hd k hk
 obtain ⟨n1, n2⟩ := putNum_at (q.length : Int) k (by omega)
 have l1 := putB_length (q.length : Int)
 unfold spec_NoteBytes.f impl_NoteBytes.f
 rw [q1, q2, Option.bind_some, Option.bind_some]
 by_cases h : (q.length : Int) = 0
 ·
  exact ⟨[], by rw [if_pos h], by rw [if_pos h], Nat.zero_le _⟩
 ·
  have c1 : (putB (q.length : Int)).length + q.length < 140737488355328 := by omega
  have c2 : (putB (q.length : Int) ++ q).length < 140737488355328 := by rw [List.length_append]; omega
  refine ⟨putB (q.length : Int) ++ q ++ [10], ?_, ?_, ?_⟩
  ·
   simp only [if_neg h, n1, Option.bind_some, if_pos c1, if_pos c2]
  ·
   simp only [if_neg h, n2, Option.bind_some, if_pos c1, if_pos c2]
  ·
   rw [List.length_append, List.length_append, List.length_singleton]
   omega
theorem putNum_pn_l : ∀ (d : Nat) (n : Int) (out : List Int) (k : Nat), 0 ≤ n → n ≤ 2147483647 → n < P7 (d + 1) → out.length + d < 1000 → d < k → spec_PutNum.l0 k n out = some (out ++ pnr d n) := by
 intro d
 induction d with
 | zero =>
  intro n out k h0 h1 h2 ho hk
  obtain ⟨k, rfl⟩ : ∃ q, k = q + 1 := ⟨k - 1, by omega⟩
  have h3 : n < 128 := by have : P7 (0 + 1) = 128 := rfl; omega
  simp only [spec_PutNum.l0, pnr]
  rw [if_neg (by omega), if_pos (by omega), Int.emod_eq_of_lt h0 (by omega)]
 | succ d ih =>
  intro n out k h0 h1 h2 ho hk
  obtain ⟨k, rfl⟩ : ∃ q, k = q + 1 := ⟨k - 1, by omega⟩
  simp only [spec_PutNum.l0, pnr]
  by_cases h3 : n > 127
  ·
   have e1 : wrap64 (Int.tdiv n 128) = n / 128 := by
    rw [Int.tdiv_eq_ediv_of_nonneg h0]
    unfold wrap64
    omega
   have e2 : wrap64 (Int.tmod n 128 + 128) % 256 = n % 128 + 128 := by
    rw [Int.tmod_eq_emod_of_nonneg h0]
    unfold wrap64
    omega
   rw [P7_step] at h2
   rw [if_pos h3, if_pos (by omega), if_pos (by omega), e1, e2, ih (n / 128) _ k (by omega) (by omega) (by omega) (by simp; omega) (by omega)]
   simp
  ·
   rw [if_neg h3, if_pos (show out.length < 140737488355328 by omega), if_neg (show ¬ 128 ≤ n by omega), Int.emod_eq_of_lt h0 (by omega)]
theorem putB_pn (n : Int) (h0 : 0 ≤ n) (h1 : n ≤ 2147483647) : putB n = pn n := by
 have e := (putNum_at n 100 (by omega)).1
 unfold spec_PutNum.f spec_l1In.f at e
 rw [Option.bind_some, if_pos (show n ≥ 0 from h0), decide_eq_true h1, Option.bind_some, if_pos rfl, putNum_pn_l 4 n [] 100 h0 h1 (by have : P7 (4 + 1) = 34359738368 := rfl; omega) (by simp) (by omega)] at e
 simpa [pn] using (Option.some.inj e).symm
theorem catB_en : ∀ w : List Int, nums31 w → catB w = en w
 | [], _ => rfl
 | x :: w, h => by
  have h1 := h x List.mem_cons_self
  have h2 := catB_en w (fun y hy => h y (List.mem_cons_of_mem _ hy))
  unfold catB at h2 ⊢
  rw [List.flatMap_cons, en_cons, h2, putB_pn x h1.1 h1.2]
theorem walkP_bound : ∀ (t : List ByteArray) (out : List S163) (last : Int), (∀ e ∈ out, 0 ≤ e.f0 ∧ e.f0 ≤ 60) → 0 ≤ last → ∀ e ∈ (walkP t out last).1, 0 ≤ e.f0 ∧ e.f0 ≤ 60
 | [], out, last, h, _ => h
 | p :: t, out, last, h, hl => by
  unfold walkP
  cases hs : stepQ p last with
  | none => intro e he; cases he
  | some x =>
   have hx : last < x.f0 ∧ x.f0 ≤ 60 := by
    unfold stepQ at hs
    split at hs
    ·
     rename_i c
     cases hs
     exact ⟨c.2.2.2.1, c.2.2.2.2.1⟩
    ·
     cases hs
   refine walkP_bound t (out ++ [x]) x.f0 (fun e he => ?_) (by omega)
   rcases List.mem_append.1 he with he | he
   ·
    exact h e he
   ·
    rw [List.mem_singleton.1 he]; omega
theorem viewB (s : ByteArray) (hs : s.size < 100000000) : 0 ≤ lastV (stepsV s).1 ∧ lastV (stepsV s).1 ≤ 60 := by
 have h : ∀ e ∈ (stepsV s).1, 0 ≤ e.f0 ∧ e.f0 ≤ 60 := by
  rw [stepsV_eq s hs]
  split
  ·
   intro e he; cases he
  ·
   split
   ·
    exact walkP_bound _ [] 0 (fun e he => by cases he) (Int.le_refl 0)
   ·
    intro e he; cases he
 generalize (stepsV s).1 = r at h
 unfold lastV
 cases hg : r.getLast? with
 | none => exact ⟨Int.le_refl 0, by decide⟩
 | some x => exact h x (List.mem_of_getLast? hg)
theorem setOk_mem (n : Int) (l : List Int) (hn : l.length ≤ 9223372036854775807) : ∀ (k m : Nat), spec_SetOk.l0 k n l (m : Int) = some true → ∀ x ∈ l.drop m, 0 ≤ x ∧ x < n := by
 intro k
 induction k with
 | zero => intro m h; cases h
 | succ k ih =>
  intro m h
  simp only [spec_SetOk.l0] at h
  by_cases c : (m : Int) < (l.length : Int)
  ·
   have hw : wrap64 ((m : Int) + 1) = ((m + 1 : Nat) : Int) := wn (n := l.length) (by omega) hn
   rw [if_pos c, if_pos (by omega), hw] at h
   by_cases c1 : rd l (m : Int) < 0
   ·
    rw [if_pos c1] at h; cases h
   ·
    rw [if_neg c1] at h
    by_cases c2 : rd l (m : Int) ≥ n
    ·
     rw [if_pos c2] at h; cases h
    ·
     rw [if_neg c2] at h
     have h2 : spec_SetOk.l0 k n l ((m + 1 : Nat) : Int) = some true := by
      split at h
      ·
       split at h
       ·
        split at h
        ·
         split at h
         ·
          cases h
         ·
          exact h
        ·
         cases h
       ·
        cases h
      ·
       exact h
     rw [drop_at l m (by omega)]
     intro x hx
     rcases List.mem_cons.1 hx with rfl | hx
     ·
      omega
     ·
      exact ih (m + 1) h2 x hx
  ·
   rw [List.drop_of_length_le (by omega)]
   intro x hx; cases hx
theorem qcOk_facts (a b v : Int) (s : ByteArray) (w : List Int) (hs : s.size < 100000000) (hw : w.length < 100000000) (k : Nat) (hk : 3 * s.size + 80 < k) (h : spec_QcOk.f k a b v s w = some true) : 0 ≤ v ∧ v ≤ 60 ∧ nums31 w := by
 obtain ⟨v1, _, v3, _⟩ := viewV_at s hs k hk
 obtain ⟨b1, b2⟩ := viewB s hs
 unfold spec_QcOk.f at h
 rw [specConf_at, Option.bind_some] at h
 cases hc : confB a b
 ·
  rw [hc, if_neg (by decide)] at h; cases h
 ·
  rw [hc, if_pos rfl, v3, Option.bind_some] at h
  have ha := (confB_iff hc).1
  cases ho : (stepsV s).2
  ·
   rw [ho, if_neg (by decide)] at h; cases h
  ·
   rw [ho, if_pos rfl, v1, Option.bind_some] at h
   by_cases c : lastV (stepsV s).1 = v
   ·
    rw [if_pos c] at h
    subst c
    refine ⟨b1, b2, ?_⟩
    by_cases c2 : s.toList = []
    ·
     rw [if_pos c2] at h
     have h2 := beq_iff_eq.1 (Option.some.inj h)
     obtain rfl : w = [] := List.length_eq_zero_iff.1 (by omega)
     intro x hx; cases hx
    ·
     rw [if_neg c2] at h
     cases ht : spec_SetOk.f k a w with
     | none => rw [ht] at h; cases h
     | some t =>
      rw [ht, Option.bind_some] at h
      cases t
      ·
       rw [if_neg (by decide)] at h; cases h
      ·
       intro x hx
       have := setOk_mem a w (by omega) k 0 ht x (by simpa using hx)
       omega
   ·
    rw [if_neg c] at h; cases h
theorem safeOk_facts (a b x y v : Int) (s : ByteArray) (w : List Int) (d : ByteArray) (hs : s.size < 100000000) (hw : w.length < 100000000) (k : Nat) (hk : 3 * s.size + 80 < k) (h : spec_SafeOk.f k a b x y v s w d = some true) :
  (0 ≤ x ∧ x ≤ 60) ∧ (0 ≤ y ∧ y ≤ 60) ∧ (0 ≤ v ∧ v ≤ 60) ∧ nums31 w ∧ spec_QcOk.f k a b v s w = some true := by
 unfold spec_SafeOk.f at h
 have hin : ∀ (z : Int) (t : Bool), spec_l1In.f z 0 60 = some t → (t = true ↔ 0 ≤ z ∧ z ≤ 60) := by
  intro z t ht
  unfold spec_l1In.f at ht
  by_cases c : z ≥ 0
  ·
   rw [if_pos c] at ht
   rw [← Option.some.inj ht, decide_eq_true_iff]
   exact ⟨fun q => ⟨c, q⟩, fun q => q.2⟩
  ·
   rw [if_neg c] at ht
   rw [← Option.some.inj ht]
   exact ⟨(fun q => by cases q), fun q => absurd q.1 c⟩
 cases hx : spec_l1In.f x 0 60 with
 | none => rw [hx] at h; cases h
 | some t1 =>
  rw [hx, Option.bind_some] at h
  cases t1
  ·
   rw [if_neg (by decide)] at h; cases h
  ·
   rw [if_pos rfl] at h
   cases hy : spec_l1In.f y 0 60 with
   | none => rw [hy] at h; cases h
   | some t2 =>
    rw [hy, Option.bind_some] at h
    cases t2
    ·
     rw [if_neg (by decide)] at h; cases h
    ·
     rw [if_pos rfl] at h
     cases hq : spec_QcOk.f k a b v s w with
     | none => rw [hq] at h; cases h
     | some t3 =>
      rw [hq, Option.bind_some] at h
      cases t3
      ·
       rw [if_neg (by decide)] at h; cases h
      ·
       obtain ⟨q1, q2, q3⟩ := qcOk_facts a b v s w hs hw k hk hq
       exact ⟨(hin x true hx).1 rfl, (hin y true hy).1 rfl, ⟨q1, q2⟩, q3, rfl⟩
theorem qcBytes_eq (a b v : Int) (s : ByteArray) (w : List Int) (hs : s.size < 100000000) (hw : w.length < 100000000) (k : Nat) (hk : 3 * s.size + 2 * w.length + 90 < k) (h : spec_QcOk.f k a b v s w = some true) : spec_QcBytes.f k a b v s w = some (eq_ v s w) := by
 obtain ⟨v0, v1, hn⟩ := qcOk_facts a b v s w hs hw k (by omega) h
 obtain ⟨p1, _⟩ := putNum_at v k (by omega)
 obtain ⟨t1, _⟩ := putText_at s hs k (by omega)
 obtain ⟨n1, _⟩ := putNum_at (w.length : Int) k (by omega)
 have l1 := putB_length v
 have l2 := putB_length (s.size : Int)
 have l3 := putB_length (w.length : Int)
 have l4 := catB_length w
 have l5 := bytesOf_length s
 have q1 := fun out h => qcBytes_l w hw v s w.length k 0 out (by omega) (by omega) h
 rw [List.drop_zero] at q1
 have c1 : (putB v).length + (putB (s.size : Int) ++ bytesOf s).length < 140737488355328 := by rw [List.length_append]; omega
 have c2 : (putB v ++ (putB (s.size : Int) ++ bytesOf s)).length + (putB (w.length : Int)).length < 140737488355328 := by rw [List.length_append, List.length_append]; omega
 unfold spec_QcBytes.f
 rw [h, Option.bind_some]
 simp only [if_true, p1, t1, n1, Option.bind_some, if_pos c1, if_pos c2]
 have g := q1 (putB v ++ (putB (s.size : Int) ++ bytesOf s) ++ putB (w.length : Int)) (by rw [List.length_append, List.length_append, List.length_append]; omega)
 refine Eq.trans g ?_
 rw [putB_pn v v0 (by omega), putB_pn (s.size : Int) (by omega) (by omega), putB_pn (w.length : Int) (by omega) (by omega), catB_en w hn]
 unfold eq_ et ew
 simp only [List.append_assoc]
theorem safeBytes_eq (a b x y v : Int) (s : ByteArray) (w : List Int) (d : ByteArray) (hs : s.size < 100000000) (hw : w.length < 100000000) (hd : d.size < 100000000) (k : Nat) (hk : 3 * s.size + 2 * w.length + 3 * d.size + 90 < k) (h : spec_SafeOk.f k a b x y v s w d = some true) : spec_SafeBytes.f k a b x y v s w d = some (es x y v s w d) := by
 obtain ⟨hx, hy, hv, hn, hq⟩ := safeOk_facts a b x y v s w d hs hw k (by omega) h
 have e := qcBytes_eq a b v s w hs hw k (by omega) hq
 obtain ⟨q, q1, _, q3⟩ := qcBytes_at a b v s w hs hw k (by omega)
 obtain rfl : q = eq_ v s w := Option.some.inj (q1.symm.trans e)
 obtain ⟨p1, _⟩ := putNum_at x k (by omega)
 obtain ⟨n1, _⟩ := putNum_at y k (by omega)
 obtain ⟨t1, _⟩ := putText_at d hd k (by omega)
 have l1 := putB_length x
 have l2 := putB_length y
 have l3 := putB_length (d.size : Int)
 have l5 := bytesOf_length d
 have c1 : (putB x).length + (putB y).length < 140737488355328 := by omega
 have c2 : (putB x ++ putB y).length + (eq_ v s w).length < 140737488355328 := by rw [List.length_append]; omega
 have c3 : (putB x ++ putB y ++ eq_ v s w).length + (putB (d.size : Int) ++ bytesOf d).length < 140737488355328 := by rw [List.length_append, List.length_append, List.length_append]; omega
 unfold spec_SafeBytes.f
 rw [h, Option.bind_some]
 simp only [if_true, p1, n1, t1, q1, Option.bind_some, if_pos c1, if_pos c2, if_pos c3]
 rw [putB_pn x hx.1 (by omega), putB_pn y hy.1 (by omega), putB_pn (d.size : Int) (by omega) (by omega)]
 unfold es et
 simp only [List.append_assoc]
theorem bytesOk_take (l : List Int) (hl : bytesOk l) (p : Nat) : bytesOk (l.take p) := by
 have := bytesOk_cut l hl p 0
 rwa [List.drop_zero] at this
theorem gn_take (l : List Int) (hl : bytesOk l) (n m b : Int) (h : gn l n = (m, b, true)) (p : Nat) (hp : b ≤ p) : gn (l.take p) n = (m, b, true) := by
 obtain ⟨a0, m0, m1, d1, d2⟩ := gn_dec l hl.2 n m b h
 obtain ⟨n, rfl⟩ := Int.eq_ofNat_of_zero_le a0
 rw [Int.toNat_natCast] at d1
 have e : (l.take p).drop n = pn m ++ (l.drop b.toNat).take (p - n - (pn m).length) := by
  rw [List.drop_take, d1, List.take_append, List.take_of_length_le (l := pn m) (by omega)]
 rw [gn_enc (l.take p) n m _ m0 m1 e, d2]
 simp
theorem gn_end (l : List Int) (n : Nat) (h : l.length ≤ n) : (gn l (n : Int)).2.2 = false := by
 unfold gn
 rw [if_pos (by omega)]
 simp only [gnr]
 rw [if_neg (by omega)]
theorem ln_stop (c d : Int) (l : List Int) (hl : bytesOk l) (n : Nat) (hn : n ≤ l.length) (hs : (gn l (n : Int)).2.2 = false ∨ ((gn l (n : Int)).2.2 = true ∧ (gn l (n : Int)).1 ≥ (l.length : Int) - (gn l (n : Int)).2.1)) (k : Nat) (hk : 100 < k) (s0 s1 s2 : Int) (s3 : ByteArray) (s4 : List Int) (s5 : ByteArray) :
  spec_LastNote.l0 k l (n : Int) c d s0 s1 s2 s3 s4 s5 = some (s0, s1, s2, s3, s4, s5, (n : Int)) := by
 have hll := hl.1
 obtain ⟨k, rfl⟩ : ∃ q, k = q + 1 + 1 := ⟨k - 2, by omega⟩
 simp only [spec_LastNote.l0]
 rw [specGetNum_at l hl (n : Int) (by omega) (k + 1) (by omega), Option.bind_some]
 rcases hs with h | ⟨h, h2⟩
 ·
  rw [h, if_neg (by decide)]
 ·
  obtain ⟨g1, g2, g3, g4, g5⟩ := gn_ok l hl (n : Int) h
  rw [h, if_pos rfl, wid (x := (l.length : Int) - (gn l (n : Int)).2.1) (by omega) (by omega), if_pos h2]
theorem ln_go (c d : Int) (l : List Int) (hl : bytesOk l) (n m b : Nat) (hg : gn l (n : Int) = ((m : Int), (b : Int), true)) (hm : b + m < l.length) (k : Nat) (hk : 100 < k) (s0 s1 s2 : Int) (s3 : ByteArray) (s4 : List Int) (s5 : ByteArray) :
  spec_LastNote.l0 (k + 1) l (n : Int) c d s0 s1 s2 s3 s4 s5 = if rd l ((b + m : Nat) : Int) = 10 then ((spec_SafeOf.f k c d ((l.take (b + m)).drop b)).bind fun t => if t.2.2.2.2.2.2 = true then spec_LastNote.l0 k l ((b + m + 1 : Nat) : Int) c d t.1 t.2.1 t.2.2.1 t.2.2.2.1 t.2.2.2.2.1 t.2.2.2.2.2.1 else some (s0, s1, s2, s3, s4, s5, (n : Int))) else some (s0, s1, s2, s3, s4, s5, (n : Int)) := by
 have hll := hl.1
 obtain ⟨g1, g2, g3, g4, g5⟩ := gn_ok l hl (n : Int) (by rw [hg])
 rw [hg] at g2 g3 g4 g5
 simp only at g2 g3 g4 g5
 have w1 : wrap64 ((b : Int) + (m : Int)) = ((b + m : Nat) : Int) := by rw [wid (by omega) (by omega)]; omega
 have w2 : wrap64 (((b + m : Nat) : Int) + 1) = ((b + m + 1 : Nat) : Int) := by rw [wid (by omega) (by omega)]; omega
 have w3 : wrap64 ((l.length : Int) - (b : Int)) = (l.length : Int) - (b : Int) := wid (by omega) (by omega)
 simp only [spec_LastNote.l0]
 rw [specGetNum_at l hl (n : Int) (by omega) k (by omega), hg, Option.bind_some]
 simp only
 rw [if_pos trivial, w3, if_neg (by omega), w1, if_pos (by omega), if_pos (by omega)]
 by_cases h10 : rd l ((b + m : Nat) : Int) = 10
 ·
  simp only [if_pos h10]
  rw [if_pos (by omega), if_pos (by omega), if_pos (by omega), w2, Int.toNat_natCast, Int.toNat_natCast]
 ·
  simp only [if_neg h10]
theorem ln_pre (c d : Int) (l : List Int) (hl : bytesOk l) : ∀ (q n : Nat), n ≤ l.length → l.length ≤ n + q → ∀ (s0 s1 s2 : Int) (s3 : ByteArray) (s4 : List Int) (s5 : ByteArray), ∃ (t0 t1 t2 : Int) (t3 : ByteArray) (t4 : List Int) (t5 : ByteArray) (p : Nat), n ≤ p ∧ p ≤ l.length ∧
  ∀ k, 20000100 + 2 * q < k → spec_LastNote.l0 k l (n : Int) c d s0 s1 s2 s3 s4 s5 = some (t0, t1, t2, t3, t4, t5, (p : Int)) ∧ spec_LastNote.l0 k (l.take p) (n : Int) c d s0 s1 s2 s3 s4 s5 = some (t0, t1, t2, t3, t4, t5, (p : Int)) := by
 have hll := hl.1
 intro q
 induction q with
 | zero =>
  intro n hn hq s0 s1 s2 s3 s4 s5
  refine ⟨s0, s1, s2, s3, s4, s5, n, Nat.le_refl _, hn, fun k hk => ⟨ln_stop c d l hl n hn (.inl (gn_end l n (by omega))) k (by omega) _ _ _ _ _ _, ?_⟩⟩
  exact ln_stop c d _ (bytesOk_take l hl n) n (by rw [List.length_take]; omega) (.inl (gn_end _ n (by rw [List.length_take]; omega))) k (by omega) _ _ _ _ _ _
 | succ q ih =>
  intro n hn hq s0 s1 s2 s3 s4 s5
  have stop : (∀ k, 20000100 + 2 * (q + 1) < k → spec_LastNote.l0 k l (n : Int) c d s0 s1 s2 s3 s4 s5 = some (s0, s1, s2, s3, s4, s5, (n : Int))) → ∃ (t0 t1 t2 : Int) (t3 : ByteArray) (t4 : List Int) (t5 : ByteArray) (p : Nat), n ≤ p ∧ p ≤ l.length ∧
    ∀ k, 20000100 + 2 * (q + 1) < k → spec_LastNote.l0 k l (n : Int) c d s0 s1 s2 s3 s4 s5 = some (t0, t1, t2, t3, t4, t5, (p : Int)) ∧ spec_LastNote.l0 k (l.take p) (n : Int) c d s0 s1 s2 s3 s4 s5 = some (t0, t1, t2, t3, t4, t5, (p : Int)) := fun h =>
   ⟨s0, s1, s2, s3, s4, s5, n, Nat.le_refl _, hn, fun k hk => ⟨h k hk, ln_stop c d _ (bytesOk_take l hl n) n (by rw [List.length_take]; omega) (.inl (gn_end _ n (by rw [List.length_take]; omega))) k (by omega) _ _ _ _ _ _⟩⟩
  by_cases h1 : (gn l (n : Int)).2.2 = true
  ·
   obtain ⟨g1, g2, g3, g4, g5⟩ := gn_ok l hl (n : Int) h1
   by_cases h2 : (gn l (n : Int)).1 ≥ (l.length : Int) - (gn l (n : Int)).2.1
   ·
    exact stop (fun k hk => ln_stop c d l hl n hn (.inr ⟨h1, h2⟩) k (by omega) _ _ _ _ _ _)
   ·
    obtain ⟨m, hm⟩ := Int.eq_ofNat_of_zero_le g2
    obtain ⟨b, hb⟩ := Int.eq_ofNat_of_zero_le (show 0 ≤ (gn l (n : Int)).2.1 by omega)
    have hg : gn l (n : Int) = ((m : Int), (b : Int), true) := Prod.ext hm (Prod.ext hb h1)
    rw [hm, hb] at h2
    rw [hb] at g4 g5
    have hbm : b + m < l.length := by omega
    have st := fun k (hk : 100 < k) => ln_go c d l hl n m b hg hbm k hk s0 s1 s2 s3 s4 s5
    by_cases h10 : rd l ((b + m : Nat) : Int) = 10
    ·
     obtain ⟨x, y, v, s, w, t, o, f1⟩ : ∃ (x y v : Int) (s : ByteArray) (w : List Int) (t : ByteArray) (o : Bool), ∀ k, 20000000 < k → spec_SafeOf.f k c d ((l.take (b + m)).drop b) = some (x, y, v, s, w, t, o) := by
      obtain ⟨x, y, v, s, w, t, o, f1, _⟩ := safeOf_at c d _ (bytesOk_cut l hl (b + m) b) 20000001 (by omega)
      exact ⟨x, y, v, s, w, t, o, fun k hk => mono_le (fun k => spec_SafeOf.mono c d ((l.take (b + m)).drop b) k) f1 (by omega)⟩
     cases o
     ·
      refine stop (fun k hk => ?_)
      obtain ⟨k, rfl⟩ : ∃ q, k = q + 1 := ⟨k - 1, by omega⟩
      rw [st k (by omega), if_pos h10, f1 k (by omega)]
      rfl
     ·
      obtain ⟨t0, t1, t2, t3, t4, t5, p, p1, p2, p3⟩ := ih (b + m + 1) (by omega) (by omega) x y v s w t
      refine ⟨t0, t1, t2, t3, t4, t5, p, by omega, p2, fun k hk => ?_⟩
      obtain ⟨k, rfl⟩ : ∃ q, k = q + 1 := ⟨k - 1, by omega⟩
      obtain ⟨e1, e2⟩ := p3 k (by omega)
      have hl2 := bytesOk_take l hl p
      have hlen : (l.take p).length = p := by rw [List.length_take]; omega
      have hr : rd (l.take p) ((b + m : Nat) : Int) = rd l ((b + m : Nat) : Int) := by
       unfold rd
       rw [List.getD_eq_getElem?_getD, List.getD_eq_getElem?_getD, Int.toNat_natCast, List.getElem?_take, if_pos (by omega)]
      have hc : ((l.take p).take (b + m)).drop b = (l.take (b + m)).drop b := by rw [List.take_take, Nat.min_eq_left (by omega)]
      constructor
      ·
       rw [st k (by omega), if_pos h10, f1 k (by omega), Option.bind_some]
       simp only [if_true]
       exact e1
      ·
       rw [ln_go c d (l.take p) hl2 n m b (gn_take l hl _ _ _ hg p (by omega)) (by omega) k (by omega) s0 s1 s2 s3 s4 s5, hr, if_pos h10, hc, f1 k (by omega), Option.bind_some]
       simp only [if_true]
       exact e2
    ·
     refine stop (fun k hk => ?_)
     obtain ⟨k, rfl⟩ : ∃ q, k = q + 1 := ⟨k - 1, by omega⟩
     rw [st k (by omega), if_neg h10]
  ·
   exact stop (fun k hk => ln_stop c d l hl n hn (.inl (by simpa using h1)) k (by omega) _ _ _ _ _ _)
theorem es_pos (x y v : Int) (s : ByteArray) (w : List Int) (d : ByteArray) : 1 ≤ (es x y v s w d).length := by
 have := pn_len1 x
 unfold es
 rw [List.length_append]
 omega
theorem noteBytes_eq (a b x y v : Int) (s : ByteArray) (w : List Int) (d : ByteArray) (hs : s.size < 100000000) (hw : w.length < 100000000) (hd : d.size < 100000000) (k : Nat) (hk : 3 * s.size + 2 * w.length + 3 * d.size + 90 < k) (h : spec_SafeOk.f k a b x y v s w d = some true) :
  spec_NoteBytes.f k a b x y v s w d = some (pn ((es x y v s w d).length : Int) ++ (es x y v s w d ++ [10])) := by
 have e := safeBytes_eq a b x y v s w d hs hw hd k hk h
 obtain ⟨q, q1, _, q3⟩ := safeBytes_at a b x y v s w d hs hw hd k hk
 obtain rfl : q = es x y v s w d := Option.some.inj (q1.symm.trans e)
 have hp := es_pos x y v s w d
 obtain ⟨n1, _⟩ := putNum_at ((es x y v s w d).length : Int) k (by omega)
 have l1 := putB_length ((es x y v s w d).length : Int)
 have h0 : ¬ ((es x y v s w d).length : Int) = 0 := by omega
 have c1 : (putB ((es x y v s w d).length : Int)).length + (es x y v s w d).length < 140737488355328 := by omega
 have c2 : (putB ((es x y v s w d).length : Int) ++ es x y v s w d).length < 140737488355328 := by rw [List.length_append]; omega
 unfold spec_NoteBytes.f
 rw [q1, Option.bind_some]
 simp only [if_neg h0, n1, Option.bind_some, if_pos c1, if_pos c2]
 rw [putB_pn _ (by omega) (by omega), List.append_assoc]
theorem note_at (B : List Int) (hB : B.length ≤ 2000000) (r : List Int) : gn (pn (B.length : Int) ++ (B ++ r)) 0 = ((B.length : Int), (((pn (B.length : Int)).length : Nat) : Int), true) := by
 have := gn_enc (pn (B.length : Int) ++ (B ++ r)) 0 (B.length : Int) (B ++ r) (by omega) (by omega) (by rw [List.drop_zero])
 rw [Nat.zero_add] at this
 exact this
theorem ln_note (c d : Int) (B : List Int) (hl : bytesOk (pn (B.length : Int) ++ (B ++ [10]))) (x y v : Int) (s : ByteArray) (w : List Int) (t : ByteArray) (hS : ∀ k, 20000000 < k → spec_SafeOf.f k c d B = some (x, y, v, s, w, t, true)) (k : Nat) (hk : 30000000 < k) :
  spec_LastNote.f k c d (pn (B.length : Int) ++ (B ++ [10])) = some (x, y, v, s, w, t, ((pn (B.length : Int) ++ (B ++ [10])).length : Int)) := by
 have hll := hl.1
 have hlen : (pn (B.length : Int) ++ (B ++ [10])).length = (pn (B.length : Int)).length + B.length + 1 := by
  rw [List.length_append, List.length_append, List.length_singleton]; omega
 have hg := note_at B (by omega) [10]
 have hr : rd (pn (B.length : Int) ++ (B ++ [10])) (((pn (B.length : Int)).length + B.length : Nat) : Int) = 10 := by
  unfold rd
  rw [List.getD_eq_getElem?_getD, Int.toNat_natCast, List.getElem?_append_right (by omega), List.getElem?_append_right (by omega), show (pn (B.length : Int)).length + B.length - (pn (B.length : Int)).length - B.length = 0 by omega]
  rfl
 have hc : ((pn (B.length : Int) ++ (B ++ [10])).take ((pn (B.length : Int)).length + B.length)).drop (pn (B.length : Int)).length = B := by
  rw [List.drop_take, List.drop_left, show (pn (B.length : Int)).length + B.length - (pn (B.length : Int)).length = B.length by omega, List.take_left]
 obtain ⟨k, rfl⟩ : ∃ q, k = q + 1 := ⟨k - 1, by omega⟩
 unfold spec_LastNote.f spec_SafeNew.f
 rw [Option.bind_some]
 simp only
 have e := ln_go c d _ hl 0 B.length (pn (B.length : Int)).length hg (by omega) k (by omega) 0 0 0 (⟨#[]⟩ : ByteArray) [] (⟨#[]⟩ : ByteArray)
 rw [hr, if_pos rfl, hc, hS k (by omega), Option.bind_some] at e
 simp only [if_true] at e
 refine Eq.trans e ?_
 rw [← hlen]
 exact ln_stop c d _ hl _ (Nat.le_refl _) (.inl (gn_end _ _ (Nat.le_refl _))) k (by omega) _ _ _ _ _ _
theorem ln_torn (c d : Int) (B : List Int) (hl : bytesOk (pn (B.length : Int) ++ B)) (k : Nat) (hk : 30000000 < k) :
  spec_LastNote.f k c d (pn (B.length : Int) ++ B) = some (0, 0, 0, (⟨#[]⟩ : ByteArray), [], (⟨#[]⟩ : ByteArray), 0) := by
 have hll := hl.1
 have hlen : (pn (B.length : Int) ++ B).length = (pn (B.length : Int)).length + B.length := by rw [List.length_append]
 have hg := note_at B (by omega) []
 rw [List.append_nil] at hg
 unfold spec_LastNote.f spec_SafeNew.f
 rw [Option.bind_some]
 simp only
 have e := ln_stop c d _ hl 0 (Nat.zero_le _) (.inr (by
  rw [show ((0 : Nat) : Int) = 0 from rfl, hg]
  exact ⟨rfl, by simp only; omega⟩)) k (by omega) 0 0 0 (⟨#[]⟩ : ByteArray) [] (⟨#[]⟩ : ByteArray)
 exact e
theorem nameOk_ex (s : ByteArray) (hs : s.size < 100000000) (k : Nat) (hk : 3 * s.size + 80 < k) : ∃ b, spec_NameOk.f k s = some b := ⟨_, (viewV_at s hs k hk).2.2.1⟩
theorem setHas_ex (l : List Int) (x : Int) (hn : l.length ≤ 1000000) (k : Nat) (hk : l.length < k) : ∃ b, spec_SetHas.f k l x = some b := by
 have key : ∀ (d k m : Nat), m + d = l.length → d < k → ∃ b, spec_SetHas.l0 k l x (m : Int) = some b := by
  intro d
  induction d with
  | zero =>
   intro k m hd hk
   obtain ⟨k, rfl⟩ : ∃ q, k = q + 1 := ⟨k - 1, by omega⟩
   simp only [spec_SetHas.l0]
   rw [if_neg (by omega)]; exact ⟨_, rfl⟩
  | succ d ih =>
   intro k m hd hk
   obtain ⟨k, rfl⟩ : ∃ q, k = q + 1 := ⟨k - 1, by omega⟩
   simp only [spec_SetHas.l0]
   rw [if_pos (by omega), if_pos (by omega), wn (n := l.length) (by omega) (by omega)]
   split
   ·
    exact ⟨_, rfl⟩
   ·
    exact ih k (m + 1) (by omega) (by omega)
 exact key l.length k 0 (by omega) hk
theorem setAdd_ex (l : List Int) (x : Int) (hn : l.length ≤ 1000000) (k : Nat) (hk : l.length < k) : ∃ r, spec_SetAdd.f k l x = some r ∧ r.length ≤ l.length + 1 := by
 have fin : ∀ m : Nat, m ≤ l.length → ([] ++ l.take m).length < 17592186044416 ∧ (([] ++ l.take m) ++ [x]).length + (l.drop m).length < 17592186044416 ∧ ((([] ++ l.take m) ++ [x]) ++ l.drop m).length ≤ l.length + 1 := by
  intro m hm
  simp only [List.nil_append, List.length_append, List.length_take, List.length_drop, List.length_singleton]
  omega
 have key : ∀ (d k m : Nat), m + d = l.length → d < k → ∃ r, spec_SetAdd.l0 k l x (m : Int) = some r ∧ r.length ≤ l.length + 1 := by
  intro d
  induction d with
  | zero =>
   intro k m hd hk
   obtain ⟨k, rfl⟩ : ∃ q, k = q + 1 := ⟨k - 1, by omega⟩
   obtain ⟨f1, f2, f3⟩ := fin m (by omega)
   have c1 : ¬ (m : Int) < (l.length : Int) := by omega
   have c2 : (0 : Int) ≤ (m : Int) := by omega
   have c3 : (m : Int) ≤ (l.length : Int) := by omega
   have c4 : ([] : List Int).length + (l.take m).length < 17592186044416 := by simpa using f1
   simp only [spec_SetAdd.l0, if_neg c1, Option.bind_some, if_pos c2, if_pos c3, Int.toNat_natCast, if_pos c4, if_pos f1, if_pos f2]
   exact ⟨_, rfl, f3⟩
  | succ d ih =>
   intro k m hd hk
   obtain ⟨k, rfl⟩ : ∃ q, k = q + 1 := ⟨k - 1, by omega⟩
   obtain ⟨f1, f2, f3⟩ := fin m (by omega)
   have c1 : (m : Int) < (l.length : Int) := by omega
   have c2 : (0 : Int) ≤ (m : Int) := by omega
   have c3 : (m : Int) ≤ (l.length : Int) := by omega
   have c4 : ([] : List Int).length + (l.take m).length < 17592186044416 := by simpa using f1
   obtain ⟨r, r1, r2⟩ := ih k (m + 1) (by omega) (by omega)
   have hw : wrap64 ((m : Int) + 1) = ((m + 1 : Nat) : Int) := wn (n := l.length) (by omega) (by omega)
   simp only [spec_SetAdd.l0, if_pos c1, Option.bind_some, if_pos c2, if_pos c3, Int.toNat_natCast, if_pos c4, if_pos f1, if_pos f2, hw, r1]
   split
   ·
    exact ⟨r, rfl, r2⟩
   ·
    exact ⟨_, rfl, f3⟩
 obtain ⟨b, hb⟩ := setHas_ex l x hn k hk
 obtain ⟨r, r1, r2⟩ := key l.length k 0 (by omega) hk
 have c0 : ([] : List Int).length + l.length < 17592186044416 := by simp; omega
 have r1' : spec_SetAdd.l0 k l x 0 = some r := r1
 unfold spec_SetAdd.f
 simp only [hb, Option.bind_some, if_pos c0, r1']
 cases b
 ·
  exact ⟨r, rfl, r2⟩
 ·
  exact ⟨_, rfl, by simp⟩
theorem and255 (n : Int) : Go.bits .and .i64 n 255 = n % 256 := by
 have h255 : (BitVec.ofInt 64 255).toNat = 2 ^ 8 - 1 := by decide
 have key : (BitVec.ofInt 64 n &&& BitVec.ofInt 64 255).toNat = (n % ((2 ^ 64 : Nat) : Int)).toNat % 2 ^ 8 := by
  rw [BitVec.toNat_and, BitVec.toNat_ofInt, h255, Nat.and_two_pow_sub_one_eq_mod]
 show IntKind.i64.wrap ((BitVec.ofInt 64 n &&& BitVec.ofInt 64 255).toNat : Nat) = n % 256
 rw [key, IntKind.wrap_i64]
 omega
theorem l1Byte_at (s : List Int) (hn : s.length ≤ 9223372036854775807) (i h : Int) (hi : 0 ≤ i ∧ i ≤ s.length) :
  ∃ x i' h', spec_l1Byte.f s i h = some (x, i', h') ∧ 0 ≤ x ∧ x ≤ 255 ∧ 0 ≤ i' ∧ i' ≤ s.length := by
 unfold spec_l1Byte.f
 by_cases h1 : i < (s.length : Int)
 ·
  rw [if_pos h1, if_pos hi.1]
  refine ⟨_, _, _, rfl, ?_, ?_, ?_, ?_⟩
  ·
   rw [and255]; omega
  ·
   rw [and255]; omega
  ·
   unfold wrap64; omega
  ·
   unfold wrap64; omega
 ·
  rw [if_neg h1]
  refine ⟨_, _, _, rfl, ?_, ?_, hi.1, hi.2⟩
  ·
   rw [and255]; omega
  ·
   rw [and255]; omega
theorem l1Below_at (s : List Int) (hn : s.length ≤ 9223372036854775807) (i h n : Int) (hi : 0 ≤ i ∧ i ≤ s.length) (h0 : 0 < n) (h1 : n ≤ 256) :
  ∃ x i' h', spec_l1Below.f s i h n = some (x, i', h') ∧ 0 ≤ x ∧ x < n ∧ 0 ≤ i' ∧ i' ≤ s.length := by
 obtain ⟨x, i', h', e, x0, x1, i0, i1⟩ := l1Byte_at s hn i h hi
 unfold spec_l1Below.f
 rw [if_neg (by omega), if_pos h1, e, Option.bind_some, if_neg (by omega)]
 refine ⟨_, _, _, rfl, ?_, ?_, i0, i1⟩
 ·
  exact Int.tmod_nonneg _ x0
 ·
  exact Int.tmod_lt_of_pos _ h0
theorem l1PickInt_at (s : List Int) (hn : s.length ≤ 9223372036854775807) (i h : Int) (hi : 0 ≤ i ∧ i ≤ s.length) (l : List Int) (h0 : 0 < l.length) (h1 : l.length ≤ 256) :
  ∃ x i' h', spec_l1PickInt.f s i h l = some (x, i', h') ∧ x ∈ l ∧ 0 ≤ i' ∧ i' ≤ s.length := by
 obtain ⟨x, i', h', e, x0, x1, i0, i1⟩ := l1Below_at s hn i h l.length hi (by omega) (by omega)
 unfold spec_l1PickInt.f
 rw [e, Option.bind_some, if_pos x0, if_pos x1]
 refine ⟨_, _, _, rfl, ?_, i0, i1⟩
 obtain ⟨n, rfl⟩ := Int.eq_ofNat_of_zero_le x0
 have : n < l.length := by omega
 simp [rd, List.getD_eq_getElem?_getD, List.getElem?_eq_getElem this]
theorem l1New_at (l : List Int) (hn : l.length ≤ 9223372036854775807) (k : Nat) (hk : 4001 < k) : ∃ h, spec_l1New.f k l = some (l, 0, h) := by
 have key : ∀ (d k m : Nat) (h : Int), m + d = 4000 → d < k → ∃ h', spec_l1New.l0 k l h (m : Int) = some (l, 0, h') := by
  intro d
  induction d with
  | zero =>
   intro k m h hd hk
   obtain ⟨k, rfl⟩ : ∃ q, k = q + 1 := ⟨k - 1, by omega⟩
   simp only [spec_l1New.l0]
   rw [if_neg (show ¬ ((m : Int) < 4000) by omega)]
   exact ⟨h, by simp⟩
  | succ d ih =>
   intro k m h hd hk
   obtain ⟨k, rfl⟩ : ∃ q, k = q + 1 := ⟨k - 1, by omega⟩
   simp only [spec_l1New.l0]
   by_cases h1 : (m : Int) < (l.length : Int)
   ·
    rw [if_pos h1, if_pos (by omega), if_pos (by omega), wn (n := l.length) (by omega) hn]
    exact ih k (m + 1) _ (by omega) (by omega)
   ·
    rw [if_neg h1]; exact ⟨h, rfl⟩
 obtain ⟨h, e⟩ := key 4000 k 0 _ (by omega) (by omega)
 exact ⟨h, e⟩
theorem l7DrawConf_at (s : List Int) (hn : s.length ≤ 9223372036854775807) (i h : Int) (hi : 0 ≤ i ∧ i ≤ s.length) :
  ∃ a b i' h', spec_l7DrawConf.f s i h = some (a, b, i', h') ∧ 4 ≤ a ∧ a ≤ 7 ∧ 1 ≤ b ∧ b ≤ 3 ∧ 0 ≤ i' ∧ i' ≤ s.length := by
 obtain ⟨x, i1, h1, e1, x0, x1, p1⟩ := l1Below_at s hn i h 4 hi (by omega) (by omega)
 obtain ⟨y, i2, h2, e2, y0, y1, p2⟩ := l1Below_at s hn i1 h1 3 p1 (by omega) (by omega)
 unfold spec_l7DrawConf.f
 rw [e1, Option.bind_some]; dsimp only
 rw [e2, Option.bind_some]; dsimp only
 refine ⟨_, _, _, _, rfl, ?_, ?_, ?_, ?_, p2.1, p2.2⟩ <;> (unfold wrap64; omega)
def Cu (c : List Int) (i : Int) : Prop := 0 ≤ i ∧ i ≤ (c.length : Int)
theorem below_ex (c : List Int) (hn : c.length ≤ 9223372036854775807) (i h n : Int) (hi : Cu c i) (h0 : 0 < n) (h1 : n ≤ 20000) :
  ∃ x i' h', spec_l1Below.f c i h n = some (x, i', h') ∧ (0 ≤ x ∧ x < n) ∧ Cu c i' := by
 by_cases h2 : n ≤ 256
 ·
  obtain ⟨x, i', h', e, x0, x1, y0, y1⟩ := l1Below_at c hn i h n hi h0 h2
  exact ⟨x, i', h', e, ⟨x0, x1⟩, y0, y1⟩
 ·
  obtain ⟨x, i1, h1', e1, a0, a1, p1⟩ := l1Byte_at c hn i h hi
  obtain ⟨y, i2, h2', e2, b0, b1, p2⟩ := l1Byte_at c hn i1 h1' p1
  obtain ⟨z, i3, h3', e3, c0, c1, p3⟩ := l1Byte_at c hn i2 h2' p2
  obtain ⟨w, i4, h4', e4, d0, d1, p4⟩ := l1Byte_at c hn i3 h3' p3
  unfold spec_l1Below.f
  rw [if_neg (by omega), if_neg h2, e1, Option.bind_some, e2, Option.bind_some, e3, Option.bind_some, e4, Option.bind_some, if_neg (by omega)]
  have q1 : wrap64 (x * 16777216) = x * 16777216 := by unfold wrap64; omega
  have q2 : wrap64 (y * 65536) = y * 65536 := by clear q1; unfold wrap64; omega
  have q3 : wrap64 (z * 256) = z * 256 := by clear q1 q2; unfold wrap64; omega
  have q4 : wrap64 (x * 16777216 + y * 65536) = x * 16777216 + y * 65536 := by clear q1 q2 q3; unfold wrap64; omega
  have q5 : wrap64 (x * 16777216 + y * 65536 + z * 256) = x * 16777216 + y * 65536 + z * 256 := by clear q1 q2 q3 q4; unfold wrap64; omega
  have q6 : wrap64 (x * 16777216 + y * 65536 + z * 256 + w) = x * 16777216 + y * 65536 + z * 256 + w := by clear q1 q2 q3 q4 q5; unfold wrap64; omega
  have hnn : 0 ≤ x * 16777216 + y * 65536 + z * 256 + w := by clear q1 q2 q3 q4 q5 q6; omega
  dsimp only
  rw [q1, q2, q4, q3, q5, q6]
  exact ⟨_, _, _, rfl, ⟨Int.tmod_nonneg _ hnn, Int.tmod_lt_of_pos _ h0⟩, p4⟩
theorem once_ex (c : List Int) (hn : c.length ≤ 9223372036854775807) (i h n : Int) (hi : Cu c i) (h0 : 0 < n) (h1 : n ≤ 20000) : ∃ b i' h', spec_l1Once.f c i h n = some (b, i', h') ∧ Cu c i' := by
 obtain ⟨x, i', h', e, _, p⟩ := below_ex c hn i h n hi h0 h1
 unfold spec_l1Once.f
 rw [e]; exact ⟨_, _, _, rfl, p⟩
theorem pickInt_ex (c : List Int) (hn : c.length ≤ 9223372036854775807) (i h : Int) (hi : Cu c i) (l : List Int) (h0 : 0 < l.length) (h1 : l.length ≤ 256) : ∃ x i' h', spec_l1PickInt.f c i h l = some (x, i', h') ∧ x ∈ l ∧ Cu c i' := by
 obtain ⟨x, i', h', e, m, p⟩ := l1PickInt_at c hn i h hi l h0 h1
 exact ⟨x, i', h', e, m, p⟩
theorem pick_ex (c : List Int) (hn : c.length ≤ 9223372036854775807) (i h : Int) (hi : Cu c i) (l : List ByteArray) (h0 : 0 < l.length) (h1 : l.length ≤ 256) (hz : ∀ x ∈ l, x.size = 1) : ∃ x i' h', spec_l1Pick.f c i h l = some (x, i', h') ∧ x.size = 1 ∧ Cu c i' := by
 obtain ⟨x, i', h', e, ⟨x0, x1⟩, p⟩ := below_ex c hn i h l.length hi (by omega) (by omega)
 unfold spec_l1Pick.f
 rw [e, Option.bind_some, if_pos x0, if_pos x1]
 refine ⟨_, _, _, rfl, ?_, p⟩
 obtain ⟨m, rfl⟩ := Int.eq_ofNat_of_zero_le x0
 exact hz _ (rdOf_mem ByteArray.empty l m (by omega))
def okT (x : S156) : Prop := (0 ≤ x.f0 ∧ x.f0 ≤ 3) ∧ (0 ≤ x.f1 ∧ x.f1 ≤ 3) ∧ (0 ≤ x.f2 ∧ x.f2 ≤ 1000) ∧ (0 ≤ x.f3 ∧ x.f3 ≤ 99)
theorem drawRight_ex (c : List Int) (hn : c.length ≤ 9223372036854775807) (i h : Int) (hi : Cu c i) : ∃ x y z w i' h', spec_l2DrawRight.f c i h = some (x, y, z, w, i', h') ∧ okT ⟨x, y, z, w⟩ ∧ Cu c i' := by
 obtain ⟨x, i1, h1, e1, ⟨a0, a1⟩, p1⟩ := below_ex c hn i h 4 hi (by omega) (by omega)
 obtain ⟨y, i2, h2, e2, ⟨b0, b1⟩, p2⟩ := below_ex c hn i1 h1 4 p1 (by omega) (by omega)
 obtain ⟨z, i3, h3, e3, hz, p3⟩ := pickInt_ex c hn i2 h2 p2 [0, 5, 60, 100, 1000] (by simp) (by simp)
 obtain ⟨w, i4, h4, e4, ⟨d0, d1⟩, p4⟩ := below_ex c hn i3 h3 3 p3 (by omega) (by omega)
 unfold spec_l2DrawRight.f
 rw [e1, Option.bind_some]; dsimp only
 rw [e2, Option.bind_some]; dsimp only
 rw [e3, Option.bind_some]; dsimp only
 rw [e4, Option.bind_some]
 refine ⟨x, y, z, w, i4, h4, rfl, ⟨⟨a0, by show x ≤ 3; omega⟩, ⟨b0, by show y ≤ 3; omega⟩, ?_, ⟨d0, by show w ≤ 99; omega⟩⟩, p4⟩
 show 0 ≤ z ∧ z ≤ 1000
 simp at hz; omega
theorem rdT_mem (xs : List S156) (m : Nat) (h : m < xs.length) : rd_T156 xs (m : Int) ∈ xs := by
 unfold rd_T156
 simp [List.getD_eq_getElem?_getD, List.getElem?_eq_getElem h]
theorem txText_ex (x : S156) (h : okT x) (k : Nat) (hk : 20 < k) : ∃ t, spec_TxText.f k x.f0 x.f1 x.f2 x.f3 = some t ∧ t.size ≤ 30 ∧ spec_TxOk.f x.f0 x.f1 x.f2 x.f3 = some true := by
 obtain ⟨h1, h2, h3, h4⟩ := h
 obtain ⟨a, ea⟩ : ∃ a : Nat, x.f0 = (a : Int) := ⟨x.f0.toNat, by omega⟩
 obtain ⟨b, eb⟩ : ∃ a : Nat, x.f1 = (a : Int) := ⟨x.f1.toNat, by omega⟩
 obtain ⟨c, ec⟩ : ∃ a : Nat, x.f2 = (a : Int) := ⟨x.f2.toNat, by omega⟩
 obtain ⟨d, ed⟩ : ∃ a : Nat, x.f3 = (a : Int) := ⟨x.f3.toNat, by omega⟩
 have hb : txB a b c d = true := by unfold txB; exact decide_eq_true (by omega)
 have h5 := dig_len 5 a (by omega)
 have h6 := dig_len 5 b (by omega)
 have h7 := dig_len 5 c (by omega)
 have h8 := dig_len 5 d (by omega)
 rw [ea, eb, ec, ed, specTxText_at a b c d (by omega) (by omega) (by omega) (by omega) k hk, specTxOk_at, if_pos hb, hb]
 refine ⟨_, rfl, ?_, rfl⟩
 rw [mkS_size]
 unfold txL
 simp only [List.length_append, List.length_cons]
 omega
theorem txsText_ex (l : List S156) (hn : l.length ≤ 100) (hx : ∀ x ∈ l, okT x) (k : Nat) (hk : 200 < k) : ∃ t, spec_TxsText.f k l = some t ∧ t.size ≤ 31 * l.length := by
 have key : ∀ (d k m : Nat) (out : ByteArray), m + d = l.length → d + 25 < k → out.size ≤ 31 * m → ∃ t, spec_TxsText.l0 k l out (m : Int) = some t ∧ t.size ≤ 31 * l.length := by
  intro d
  induction d with
  | zero =>
   intro k m out hd hk ho
   obtain ⟨k, rfl⟩ : ∃ q, k = q + 1 := ⟨k - 1, by omega⟩
   simp only [spec_TxsText.l0]
   rw [if_neg (by omega)]; exact ⟨_, rfl, by omega⟩
  | succ d ih =>
   intro k m out hd hk ho
   obtain ⟨k, rfl⟩ : ∃ q, k = q + 1 := ⟨k - 1, by omega⟩
   obtain ⟨t, t1, t2, t3⟩ := txText_ex _ (hx _ (rdT_mem l m (by omega))) k (by omega)
   have o1 : (⟨#[44]⟩ : ByteArray).size = 1 := rfl
   simp only [spec_TxsText.l0]
   rw [if_pos (by omega), if_pos (by omega), t3, Option.bind_some, if_pos rfl, t1]
   have hw : wrap64 ((m : Int) + 1) = ((m + 1 : Nat) : Int) := wn (n := l.length) (by omega) (by omega)
   by_cases h0 : (m : Int) > 0
   ·
    rw [if_pos h0, if_pos (by clear hw; omega), Option.bind_some, if_pos (by clear hw; rw [ByteArray.size_append]; omega), hw]
    exact ih k (m + 1) _ (by clear hw; omega) (by clear hw; omega) (by clear hw; rw [ByteArray.size_append, ByteArray.size_append]; omega)
   ·
    rw [if_neg h0, Option.bind_some, if_pos (by clear hw; omega), hw]
    exact ih k (m + 1) _ (by clear hw; omega) (by clear hw; omega) (by clear hw; rw [ByteArray.size_append]; omega)
 exact key l.length k 0 (⟨#[]⟩ : ByteArray) (by omega) (by omega) (Nat.zero_le _)
theorem nameOf_ex (up : ByteArray) (v : Nat) (l : List S156) (hup : up.size ≤ 5000) (hv : v ≤ 1000) (hn : l.length ≤ 10) (hx : ∀ x ∈ l, okT x) (k : Nat) (hk : 40000 < k) : ∃ r, spec_NameOf.f k up (v : Int) l = some r ∧ r.size ≤ up.size + 400 := by
 have key : ∀ (d k m : Nat), m + d = l.length → d + 30000 < k → ∃ r, spec_NameOf.l0 k up (v : Int) l (m : Int) = some r ∧ r.size ≤ up.size + 400 := by
  intro d
  induction d with
  | zero =>
   intro k m hd hk
   obtain ⟨k, rfl⟩ : ∃ q, k = q + 1 := ⟨k - 1, by omega⟩
   obtain ⟨t, t1, t2⟩ := txsText_ex l (by omega) hx k (by omega)
   have d1 := specDigits_at v (by omega) (by omega) k (by omega)
   have d2 := digS_size v (by omega)
   have o1 : (⟨#[47]⟩ : ByteArray).size = 1 := rfl
   have o2 : (⟨#[124]⟩ : ByteArray).size = 1 := rfl
   have hsz : ((((up ++ (⟨#[47]⟩ : ByteArray)) ++ digS v) ++ (⟨#[124]⟩ : ByteArray)) ++ t).size ≤ up.size + 400 := by
    rw [ByteArray.size_append, ByteArray.size_append, ByteArray.size_append, ByteArray.size_append]; omega
   obtain ⟨b, hb⟩ := nameOk_ex ((((up ++ (⟨#[47]⟩ : ByteArray)) ++ digS v) ++ (⟨#[124]⟩ : ByteArray)) ++ t) (by omega) k (by omega)
   simp only [spec_NameOf.l0]
   rw [if_neg (by omega), if_pos (by omega), d1, Option.bind_some, if_pos (by rw [ByteArray.size_append]; omega), if_pos (by rw [ByteArray.size_append, ByteArray.size_append]; omega), t1, Option.bind_some, if_pos (by rw [ByteArray.size_append, ByteArray.size_append, ByteArray.size_append]; omega), hb, Option.bind_some]
   cases b
   ·
    exact ⟨_, by rw [if_neg (by decide)], Nat.zero_le _⟩
   ·
    exact ⟨_, by rw [if_pos rfl], hsz⟩
  | succ d ih =>
   intro k m hd hk
   obtain ⟨k, rfl⟩ : ∃ q, k = q + 1 := ⟨k - 1, by omega⟩
   obtain ⟨t, _, _, t3⟩ := txText_ex _ (hx _ (rdT_mem l m (by omega))) 21 (by omega)
   simp only [spec_NameOf.l0]
   rw [if_pos (by omega), if_pos (by omega), t3, Option.bind_some, if_pos rfl, wn (n := l.length) (by omega) (by omega)]
   exact ih k (m + 1) (by omega) (by omega)
 exact key l.length k 0 (by omega) (by omega)
theorem l5Right_ex (c : List Int) (hn : c.length ≤ 9223372036854775807) (i h : Int) (hi : Cu c i) (k : Nat) (hk : 50000 < k) : ∃ r i' h', spec_l5DrawRight.f k c i h = some (r, i', h') ∧ r.size ≤ 3000 ∧ Cu c i' := by
 have inner : ∀ (e k j : Nat) (s : ByteArray) (v x : Nat) (list : List S156) (i h : Int), j + e = 3 → 41000 + e < k → s.size ≤ 5000 → v ≤ 1000 → x ≤ 10 → list.length ≤ j → (∀ y ∈ list, okT y) → Cu c i →
   (∀ (k' : Nat) (t : ByteArray) (i h : Int), k ≤ k' + e + 2 → t.size ≤ s.size + 400 → Cu c i → ∃ r i' h', spec_l5DrawRight.l0 k' t (v : Int) ((x + 1 : Nat) : Int) c i h = some (r, i', h') ∧ r.size ≤ 3000 ∧ Cu c i') →
   ∃ r i' h', spec_l5DrawRight.l1 k s (v : Int) (x : Int) list (j : Int) c i h = some (r, i', h') ∧ r.size ≤ 3000 ∧ Cu c i' := by
  intro e
  induction e with
  | zero =>
   intro k j s v x list i h hd hk hs hv hx hl hf hi hc
   obtain ⟨k, rfl⟩ : ∃ q, k = q + 1 := ⟨k - 1, by omega⟩
   obtain ⟨b, i1, h1, e1, ⟨b0, b1⟩, p1⟩ := below_ex c hn i h 3 hi (by omega) (by omega)
   obtain ⟨t, t1, t2⟩ := nameOf_ex s v list (by omega) hv (by omega) hf k (by omega)
   simp only [spec_l5DrawRight.l1]
   rw [e1, Option.bind_some]; dsimp only
   rw [if_neg (by omega), t1, Option.bind_some, wn (m := x) (n := 100) (by omega) (by omega)]
   exact hc k t i1 h1 (by omega) t2 p1
  | succ e ih =>
   intro k j s v x list i h hd hk hs hv hx hl hf hi hc
   obtain ⟨k, rfl⟩ : ∃ q, k = q + 1 := ⟨k - 1, by omega⟩
   obtain ⟨b, i1, h1, e1, ⟨b0, b1⟩, p1⟩ := below_ex c hn i h 3 hi (by omega) (by omega)
   obtain ⟨t, t1, t2⟩ := nameOf_ex s v list (by omega) hv (by omega) hf k (by omega)
   obtain ⟨q0, q1, q2, q3, i2, h2, e2, ok, p2⟩ := drawRight_ex c hn i1 h1 p1
   simp only [spec_l5DrawRight.l1]
   rw [e1, Option.bind_some]; dsimp only
   by_cases hlt : (j : Int) < b
   ·
    rw [if_pos hlt, e2, Option.bind_some, if_pos (by omega), wn (m := j) (n := 100) (by omega) (by omega)]
    refine ih k (j + 1) s v x _ i2 h2 (by omega) (by omega) hs hv hx (by simp; omega) ?_ p2 (fun k' t i h h1 h2 h3 => hc k' t i h (by omega) h2 h3)
    intro y hy
    rcases List.mem_append.1 hy with hy | hy
    ·
     exact hf y hy
    ·
     rw [List.mem_singleton.1 hy]; exact ok
   ·
    rw [if_neg hlt, t1, Option.bind_some, wn (m := x) (n := 100) (by omega) (by omega)]
    exact hc k t i1 h1 (by omega) t2 p1
 have outer : ∀ (d k x : Nat) (s : ByteArray) (v : Nat) (i h : Int), x + d = 6 → 42000 + 10 * d < k → s.size ≤ 400 * x → v ≤ 2 * x → Cu c i → ∃ r i' h', spec_l5DrawRight.l0 k s (v : Int) (x : Int) c i h = some (r, i', h') ∧ r.size ≤ 3000 ∧ Cu c i' := by
  intro d
  induction d with
  | zero =>
   intro k x s v i h hd hk hs hv hi
   obtain ⟨k, rfl⟩ : ∃ q, k = q + 1 := ⟨k - 1, by omega⟩
   obtain ⟨b, i1, h1, e1, ⟨b0, b1⟩, p1⟩ := below_ex c hn i h 6 hi (by omega) (by omega)
   simp only [spec_l5DrawRight.l0]
   rw [e1, Option.bind_some]; dsimp only
   rw [if_neg (by omega)]
   exact ⟨_, _, _, rfl, by omega, p1⟩
  | succ d ih =>
   intro k x s v i h hd hk hs hv hi
   obtain ⟨k, rfl⟩ : ∃ q, k = q + 1 := ⟨k - 1, by omega⟩
   obtain ⟨b, i1, h1, e1, ⟨b0, b1⟩, p1⟩ := below_ex c hn i h 6 hi (by omega) (by omega)
   obtain ⟨y, i2, h2, e2, ⟨y0, y1⟩, p2⟩ := below_ex c hn i1 h1 4 p1 (by omega) (by omega)
   simp only [spec_l5DrawRight.l0]
   rw [e1, Option.bind_some]; dsimp only
   by_cases hlt : (x : Int) < b
   ·
    obtain ⟨z, ez, hz⟩ : ∃ z : Nat, wrap64 (wrap64 ((v : Int) + 1) + wrap64 (Int.tdiv y 3)) = (z : Int) ∧ z ≤ 2 * (x + 1) := by
     have hy : Int.tdiv y 3 = y / 3 := Int.tdiv_eq_ediv_of_nonneg y0
     rw [hy]
     refine ⟨v + 1 + (y / 3).toNat, ?_, by omega⟩
     have w1 : wrap64 ((v : Int) + 1) = (v : Int) + 1 := by clear hy; unfold wrap64; omega
     have w2 : wrap64 (y / 3) = y / 3 := by clear hy w1; unfold wrap64; omega
     rw [w1, w2]
     clear w1 w2 hy
     unfold wrap64
     omega
    rw [if_pos hlt, e2, Option.bind_some]; dsimp only
    rw [ez]
    refine inner 3 k 0 s z x [] i2 h2 (by omega) (by clear ez; omega) (by clear ez; omega) (by clear ez; omega) (by clear ez; omega) (by simp) (by simp) p2 ?_
    intro k' t i h g1 g2 g3
    exact ih k' (x + 1) t z i h (by clear ez; omega) (by clear ez; omega) (by clear ez; omega) hz g3
   ·
    rw [if_neg hlt]
    exact ⟨_, _, _, rfl, by omega, p1⟩
 unfold spec_l5DrawRight.f
 exact outer 6 k 0 (⟨#[]⟩ : ByteArray) 0 i h (by omega) (by omega) (Nat.zero_le _) (by omega) hi
theorem dent_ex (c : List Int) (hn : c.length ≤ 9223372036854775807) (i h : Int) (hi : Cu c i) (s : ByteArray) (hs : s.size ≤ 9000) : ∃ r i' h', spec_l2Dent.f c i h s = some (r, i', h') ∧ r.size ≤ s.size + 1 ∧ Cu c i' := by
 have hw : wrap64 ((s.size : Int) + 1) = (s.size : Int) + 1 := by unfold wrap64; omega
 obtain ⟨x, i1, h1, e1, ⟨a0, a1⟩, p1⟩ := below_ex c hn i h ((s.size : Int) + 1) hi (by clear hw; omega) (by clear hw; omega)
 obtain ⟨y, i2, h2, e2, ⟨b0, b1⟩, p2⟩ := below_ex c hn i1 h1 5 p1 (by omega) (by omega)
 obtain ⟨t, i3, h3, e3, ht, p3⟩ := pick_ex c hn i2 h2 p2 [(⟨#[48]⟩ : ByteArray), (⟨#[44]⟩ : ByteArray), (⟨#[62]⟩ : ByteArray), (⟨#[47]⟩ : ByteArray), (⟨#[124]⟩ : ByteArray), (⟨#[120]⟩ : ByteArray), (⟨#[49]⟩ : ByteArray)] (by simp) (by simp) (by
  intro x hx
  simp only [List.mem_cons, List.not_mem_nil, or_false] at hx
  rcases hx with rfl | rfl | rfl | rfl | rfl | rfl | rfl <;> rfl)
 have c1 : x ≤ (s.size : Int) := by clear hw; omega
 have z1 : (s.extract 0 x.toNat).size ≤ s.size := by rw [ByteArray.size_extract]; clear hw; omega
 have z2 : (s.extract 0 x.toNat).size + (s.extract x.toNat s.size).size ≤ s.size := by rw [ByteArray.size_extract, ByteArray.size_extract]; clear hw; omega
 unfold spec_l2Dent.f
 rw [hw]
 clear hw
 rw [e1, Option.bind_some]; dsimp only
 rw [e2, Option.bind_some]; dsimp only
 by_cases h0 : y = 0
 ·
  rw [if_pos h0, if_pos a0, if_pos c1]
  exact ⟨_, _, _, rfl, by omega, p2⟩
 ·
  rw [if_neg h0]
  by_cases h1 : y = 1
  ·
   rw [if_pos h1, if_pos a0, if_pos c1, e3, Option.bind_some]; dsimp only
   rw [if_pos (by omega), if_pos (by rw [ByteArray.size_append]; omega)]
   refine ⟨_, _, _, rfl, ?_, p3⟩
   rw [ByteArray.size_append, ByteArray.size_append]; omega
  ·
   rw [if_neg h1]
   exact ⟨_, _, _, rfl, by omega, p2⟩
theorem l5Draw_ex (c : List Int) (hn : c.length ≤ 9223372036854775807) (i h : Int) (hi : Cu c i) (k : Nat) (hk : 50100 < k) : ∃ r i' h', spec_l5Draw.f k c i h = some (r, i', h') ∧ r.size ≤ 4000 ∧ Cu c i' := by
 have key : ∀ (d k x : Nat) (s : ByteArray) (i h : Int), x + d = 32 → d + 50 < k → s.size ≤ 10 * x → Cu c i → ∃ r i' h', spec_l5Draw.l0 k s (x : Int) c i h = some (r, i', h') ∧ r.size ≤ 4000 ∧ Cu c i' := by
  intro d
  induction d with
  | zero =>
   intro k x s i h hd hk hs hi
   obtain ⟨k, rfl⟩ : ∃ q, k = q + 1 := ⟨k - 1, by omega⟩
   obtain ⟨b, i1, h1, e1, ⟨b0, b1⟩, p1⟩ := below_ex c hn i h 2 hi (by omega) (by omega)
   have hw : wrap64 (30 + b) = 30 + b := by unfold wrap64; omega
   simp only [spec_l5Draw.l0]
   rw [e1, Option.bind_some]; dsimp only
   rw [hw]
   clear hw
   rw [if_neg (by omega)]
   exact ⟨_, _, _, rfl, by omega, p1⟩
  | succ d ih =>
   intro k x s i h hd hk hs hi
   obtain ⟨k, rfl⟩ : ∃ q, k = q + 1 := ⟨k - 1, by omega⟩
   obtain ⟨b, i1, h1, e1, ⟨b0, b1⟩, p1⟩ := below_ex c hn i h 2 hi (by omega) (by omega)
   have d1 := specDigits_at x (by omega) (by omega) k (by omega)
   have d2 := digS_size x (by omega)
   have o1 : (⟨#[47]⟩ : ByteArray).size = 1 := rfl
   have o2 : (⟨#[124]⟩ : ByteArray).size = 1 := rfl
   have hw : wrap64 (30 + b) = 30 + b := by unfold wrap64; omega
   simp only [spec_l5Draw.l0]
   rw [e1, Option.bind_some]; dsimp only
   rw [hw]
   clear hw
   by_cases hlt : (x : Int) ≤ 30 + b
   ·
    rw [if_pos hlt, if_pos (by omega), d1, Option.bind_some, if_pos (by rw [ByteArray.size_append]; omega), if_pos (by rw [ByteArray.size_append, ByteArray.size_append]; omega), wn (m := x) (n := 100) (by omega) (by omega)]
    exact ih k (x + 1) _ i1 h1 (by omega) (by omega) (by rw [ByteArray.size_append, ByteArray.size_append, ByteArray.size_append]; omega) p1
   ·
    rw [if_neg hlt]
    exact ⟨_, _, _, rfl, by omega, p1⟩
 obtain ⟨b, i1, h1, e1, p1⟩ := once_ex c hn i h 20 hi (by omega) (by omega)
 unfold spec_l5Draw.f
 rw [e1, Option.bind_some]; dsimp only
 cases b
 ·
  rw [if_neg (by decide)]
  obtain ⟨r, i2, h2, e2, r2, p2⟩ := l5Right_ex c hn i1 h1 p1 k (by omega)
  obtain ⟨t, i3, h3, e3, r3, p3⟩ := dent_ex c hn i2 h2 p2 r (by omega)
  rw [e2, Option.bind_some]; dsimp only
  rw [e3, Option.bind_some]
  exact ⟨t, i3, h3, rfl, by omega, p3⟩
 ·
  rw [if_pos rfl]
  exact key 31 k 1 (⟨#[]⟩ : ByteArray) i1 h1 (by omega) (by omega) (Nat.zero_le _) p1
theorem l6Set_ex (c : List Int) (hn : c.length ≤ 9223372036854775807) (i h n : Int) (hi : Cu c i) (h0 : 0 < n) (h1 : n ≤ 256) (k : Nat) (hk : 200 < k) : ∃ r i' h', spec_l6DrawSet.f k c i h n = some (r, i', h') ∧ r.length ≤ 20 ∧ Cu c i' := by
 have key : ∀ (d k x : Nat) (s : List Int) (i h : Int), x + d = 8 → d + 50 < k → s.length ≤ x → Cu c i → ∃ r i' h', spec_l6DrawSet.l0 k n s (x : Int) c i h = some (r, i', h') ∧ r.length ≤ 20 ∧ Cu c i' := by
  have fin : ∀ (s : List Int) (i h : Int), s.length ≤ 8 → Cu c i → ∃ r i' h', (spec_l1Once.f c i h 12).bind (fun bt458 => (if bt458.1 = true then ((spec_l1PickInt.f c bt458.2.1 bt458.2.2 (([(-1), 0, 3, 9] : List Int))).bind fun bt464 => (if s.length < 17592186044416 then (some ((s ++ [bt464.1]), bt464.2.1, bt464.2.2)) else (none))) else (some (s, bt458.2.1, bt458.2.2)))) = some (r, i', h') ∧ r.length ≤ 20 ∧ Cu c i' := by
   intro s i h hs hi
   obtain ⟨b, i1, h1, e1, p1⟩ := once_ex c hn i h 12 hi (by omega) (by omega)
   obtain ⟨y, i2, h2, e2, _, p2⟩ := pickInt_ex c hn i1 h1 p1 [(-1), 0, 3, 9] (by simp) (by simp)
   rw [e1, Option.bind_some]; dsimp only
   cases b
   ·
    rw [if_neg (by decide)]; exact ⟨_, _, _, rfl, by omega, p1⟩
   ·
    rw [if_pos rfl, e2, Option.bind_some, if_pos (by omega)]; exact ⟨_, _, _, rfl, by simp; omega, p2⟩
  intro d
  induction d with
  | zero =>
   intro k x s i h hd hk hs hi
   obtain ⟨k, rfl⟩ : ∃ q, k = q + 1 := ⟨k - 1, by omega⟩
   obtain ⟨b, i1, h1, e1, ⟨b0, b1⟩, p1⟩ := below_ex c hn i h 8 hi (by omega) (by omega)
   simp only [spec_l6DrawSet.l0]
   rw [e1, Option.bind_some]; dsimp only
   rw [if_neg (by omega)]
   exact fin s i1 h1 (by omega) p1
  | succ d ih =>
   intro k x s i h hd hk hs hi
   obtain ⟨k, rfl⟩ : ∃ q, k = q + 1 := ⟨k - 1, by omega⟩
   obtain ⟨b, i1, h1', e1, ⟨b0, b1⟩, p1⟩ := below_ex c hn i h 8 hi (by omega) (by omega)
   obtain ⟨y, i2, h2, e2, _, p2⟩ := below_ex c hn i1 h1' n p1 h0 (by omega)
   obtain ⟨r, r1, r2⟩ := setAdd_ex s y (by omega) k (by omega)
   simp only [spec_l6DrawSet.l0]
   rw [e1, Option.bind_some]; dsimp only
   by_cases hlt : (x : Int) < b
   ·
    rw [if_pos hlt, e2, Option.bind_some]; dsimp only
    rw [r1, Option.bind_some, wn (m := x) (n := 100) (by omega) (by omega)]
    exact ih k (x + 1) r i2 h2 (by omega) (by omega) (by omega) p2
   ·
    rw [if_neg hlt]
    exact fin s i1 h1' (by omega) p1
 unfold spec_l6DrawSet.f
 exact key 8 k 0 [] i h (by omega) (by omega) (by simp) hi
theorem copyS_at (v : Int) (s : ByteArray) (l : List Int) (hn : l.length < 100000000) : spec_l7Copy.f v s l = some (v, s, l) := by
 unfold spec_l7Copy.f
 rw [Option.bind_some, if_pos (by simp; omega)]; rfl
theorem l7Of_ex (c : List Int) (hn : c.length ≤ 9223372036854775807) (i h : Int) (hi : Cu c i) (n : Nat) (hn7 : n ≤ 10) (b : Int) (s : ByteArray) (hs : s.size ≤ 5000) (k : Nat) (hk : 20000 < k) : ∃ l i' h', spec_l7DrawOf.f k c i h (n : Int) b s = some (vwN s, s, l, i', h') ∧ l.length ≤ 10 ∧ Cu c i' := by
 have key : ∀ (d k x : Nat) (l : List Int) (i h : Int), x + d = n → d + 50 < k → l.length ≤ x → Cu c i → ∃ r i' h', spec_l7DrawOf.l0 k (x : Int) c i h (n : Int) b (vwN s) s l = some (vwN s, s, r, i', h') ∧ r.length ≤ 10 ∧ Cu c i' := by
  intro d
  induction d with
  | zero =>
   intro k x l i h hd hk hl hi
   obtain ⟨k, rfl⟩ : ∃ q, k = q + 1 := ⟨k - 1, by omega⟩
   obtain ⟨o, i1, h1, e1, p1⟩ := once_ex c hn i h 2 hi (by omega) (by omega)
   simp only [spec_l7DrawOf.l0]
   rw [if_neg (by omega), e1, Option.bind_some]; dsimp only
   cases o
   ·
    rw [if_neg (by decide)]; exact ⟨_, _, _, rfl, by omega, p1⟩
   ·
    rw [if_pos rfl]
    by_cases h0 : (l.length : Int) > 0
    ·
     obtain ⟨y, i2, h2, e2, ⟨y0, y1⟩, p2⟩ := below_ex c hn i1 h1 l.length p1 (by omega) (by omega)
     have c1 : y ≤ (l.length:Int) := by omega
     have c2 : 0 ≤ y + 1 := by omega
     have c3 : y + 1 ≤ (l.length : Int) := by omega
     have c4 : ([] : List Int).length + (l.take y.toNat).length < 17592186044416 := by simp; omega
     have c5 : (([] : List Int) ++ l.take y.toNat).length + (l.drop (y+1).toNat).length < 17592186044416 := by simp; omega
     have c6 : (([] : List Int) ++ l.take y.toNat ++ l.drop (y+1).toNat).length ≤ 10 := by simp; omega
     have hw : wrap64 (y + 1) = y + 1 := by clear c4 c5 c6; unfold wrap64; omega
     rw [if_pos h0, e2, Option.bind_some, Option.bind_some]
     simp only [hw, if_pos y0, if_pos c1, Option.bind_some, if_pos c4, if_pos c2, if_pos c3, if_pos c5]
     exact ⟨_, _, _, rfl, c6, p2⟩
    ·
     rw [if_neg h0]; exact ⟨_, _, _, rfl, by omega, p1⟩
  | succ d ih =>
   intro k x l i h hd hk hl hi
   obtain ⟨k, rfl⟩ : ∃ q, k = q + 1 := ⟨k - 1, by omega⟩
   simp only [spec_l7DrawOf.l0]
   rw [if_pos (by omega), if_pos (by omega), wn (m := x) (n := 100) (by omega) (by omega)]
   exact ih k (x + 1) _ i h (by omega) (by omega) (by simp; omega) hi
 have v1 := (vwN_at s (by omega) k (by omega)).1
 unfold spec_l7DrawOf.f
 rw [v1, Option.bind_some]
 split
 ·
  exact ⟨_, _, _, rfl, by simp, hi⟩
 ·
  exact key n k 0 [] i h (by omega) (by omega) (by simp) hi
theorem l7Draw_exB (c : List Int) (hn : c.length ≤ 9223372036854775807) (i h : Int) (hi : Cu c i) (n : Nat) (hn7 : n ≤ 10) (b : Int) (k : Nat) (hk : 60000 < k) : ∃ v s l i' h', spec_l7Draw.f k c i h (n : Int) b = some (v, s, l, i', h') ∧ s.size ≤ 4000 ∧ l.length ≤ 20 ∧ (0 ≤ v ∧ v ≤ 61) ∧ Cu c i' := by
 have hb : ∀ s : ByteArray, s.size ≤ 4000 → 0 ≤ vwN s ∧ vwN s ≤ 60 := fun s hs => vwN_le s (by omega)
 obtain ⟨s, i1, h1, e1, s1, p1⟩ := l5Right_ex c hn i h hi k (by omega)
 obtain ⟨l, i2, h2, e2, l2, p2⟩ := l7Of_ex c hn i1 h1 p1 n hn7 b s (by omega) k (by omega)
 obtain ⟨y, i3, h3, e3, _, p3⟩ := below_ex c hn i2 h2 12 p2 (by omega) (by omega)
 obtain ⟨q, i4, h4, e4, q4, p4⟩ := l6Set_ex c hn i3 h3 7 p3 (by omega) (by omega) k (by omega)
 obtain ⟨t, i5, h5, e5, t5, p5⟩ := l5Draw_ex c hn i3 h3 p3 k (by omega)
 unfold spec_l7Draw.f
 rw [e1, Option.bind_some]; dsimp only
 rw [e2, Option.bind_some]; dsimp only
 rw [e3, Option.bind_some]; dsimp only
 have hv := hb s (by omega)
 have hw : wrap64 (vwN s + 1) = vwN s + 1 := by unfold wrap64; omega
 split
 ·
  exact ⟨_, _, _, _, _, rfl, by clear hw; omega, by clear hw; omega, by rw [hw]; clear hw; omega, p3⟩
 ·
  split
  ·
   rw [e4]; exact ⟨_, _, _, _, _, rfl, by clear hw; omega, by clear hw; omega, by clear hw; omega, p4⟩
  ·
   split
   ·
    rw [e5]; exact ⟨_, _, _, _, _, rfl, by clear hw; omega, by clear hw; omega, by clear hw; omega, p5⟩
   ·
    exact ⟨_, _, _, _, _, rfl, by clear hw; omega, by clear hw; omega, by clear hw; omega, p3⟩
theorem l7Draw_ex (c : List Int) (hn : c.length ≤ 9223372036854775807) (i h : Int) (hi : Cu c i) (n : Nat) (hn7 : n ≤ 10) (b : Int) (k : Nat) (hk : 60000 < k) : ∃ v s l i' h', spec_l7Draw.f k c i h (n : Int) b = some (v, s, l, i', h') ∧ s.size ≤ 4000 ∧ l.length ≤ 20 ∧ Cu c i' := by
 obtain ⟨v, s, l, i', h', e, s1, l1, _, p⟩ := l7Draw_exB c hn i h hi n hn7 b k hk
 exact ⟨v, s, l, i', h', e, s1, l1, p⟩
theorem specMax_at (a b : Int) : spec_l1Max.f a b = some (if a > b then a else b) := by
 unfold spec_l1Max.f
 split <;> rfl
theorem extr_le (s : ByteArray) (n : Nat) : (s.extract 0 n).size ≤ s.size := by
 rw [ByteArray.size_extract]
 omega
theorem upS_l (s : ByteArray) (hs : s.size < 100000000) : ∀ (m k : Nat), m ≤ s.size → m + 1 < k → ∃ r, spec_UpOf.l0 k s (m : Int) = some r ∧ r.size ≤ s.size := by
 have fin : ∀ v : Int, 0 ≤ v → v ≤ (s.size : Int) → ∃ r : ByteArray, (if 0 ≤ v then (if v ≤ (s.size : Int) then (some (s.extract 0 (v : Int).toNat)) else (none)) else (none)) = some r ∧ r.size ≤ s.size := by
  intro v h0 h1
  rw [if_pos h0, if_pos h1]
  exact ⟨_, rfl, extr_le s _⟩
 intro m
 induction m with
 | zero =>
  intro k hm hk
  obtain ⟨k, rfl⟩ : ∃ q, k = q + 1 := ⟨k - 1, by omega⟩
  simp only [spec_UpOf.l0]
  rw [if_neg (by decide), specMax_at, Option.bind_some]
  refine fin _ ?_ ?_
  ·
   split <;> omega
  ·
   have hw : wrap64 (((0 : Nat) : Int) - 1) = -1 := by unfold wrap64; omega
   rw [hw]
   split <;> omega
 | succ m ih =>
  intro k hm hk
  obtain ⟨k, rfl⟩ : ∃ q, k = q + 1 := ⟨k - 1, by omega⟩
  have hw : wrap64 (((m + 1 : Nat) : Int) - 1) = (m : Int) := by unfold wrap64; omega
  simp only [spec_UpOf.l0]
  rw [if_pos (by omega), hw, if_pos (by omega), if_pos (by omega)]
  by_cases h : bt s (m : Int) = 47
  ·
   rw [if_pos h, specMax_at, Option.bind_some]
   refine fin _ ?_ ?_ <;> (clear hw; split <;> omega)
  ·
   rw [if_neg h]
   exact ih k (by omega) (by omega)
theorem up_ex (s : ByteArray) (hs : s.size < 100000000) : ∃ r : ByteArray, (∀ k, 3 * s.size + 80 < k → spec_UpOf.f k s = some r) ∧ r.size ≤ s.size := by
 have q : ∃ r, spec_UpOf.f (3 * s.size + 81) s = some r ∧ r.size ≤ s.size := by
  obtain ⟨_, _, o1, _⟩ := vwN_at s hs (3 * s.size + 81) (by omega)
  unfold spec_UpOf.f
  rw [o1, Option.bind_some]
  by_cases h : okN s = true
  ·
   rw [if_pos h]
   exact upS_l s hs s.size _ (Nat.le_refl _) (by omega)
  ·
   rw [if_neg h]
   exact ⟨_, rfl, Nat.zero_le _⟩
 obtain ⟨r, h, h2⟩ := q
 exact ⟨r, fun k hk => mono_le (fun k => spec_UpOf.mono s k) h (by omega), h2⟩
noncomputable def upN (s : ByteArray) : ByteArray := if h : s.size < 100000000 then Classical.choose (up_ex s h) else s
theorem upN_at (s : ByteArray) (hs : s.size < 100000000) (k : Nat) (hk : 3 * s.size + 80 < k) : spec_UpOf.f k s = some (upN s) ∧ True := by
 unfold upN
 rw [dif_pos hs]
 exact ⟨(Classical.choose_spec (up_ex s hs)).1 k hk, trivial⟩
theorem upN_size (s : ByteArray) : (upN s).size ≤ s.size := by
 unfold upN
 by_cases hs : s.size < 100000000
 ·
  rw [dif_pos hs]; exact (Classical.choose_spec (up_ex s hs)).2
 ·
  rw [dif_neg hs]; exact Nat.le_refl _
noncomputable def blockN (a b : Int) (d : ByteArray) (v : Int) (s : ByteArray) (l : List Int) : Bool := qcN a b v s l && (okN d && (!(decide (d.toList = ([] : List UInt8))) && ((upN d).toList == s.toList)))
theorem blockS_at (a b : Int) (d : ByteArray) (v : Int) (s : ByteArray) (l : List Int) (hd : d.size < 100000000) (hs : s.size < 100000000) (hn : l.length < 100000000) (k : Nat) (hk : 3 * s.size + 2 * l.length + 3 * d.size + 90 < k) :
  spec_BlockOk.f k a b d v s l = some (blockN a b d v s l) := by
 obtain ⟨q1, q2⟩ := qcN_at a b v s l hs hn k (by omega)
 obtain ⟨_, _, o1, o2⟩ := vwN_at d hd k (by omega)
 obtain ⟨u1, u2⟩ := upN_at d hd k (by omega)
 unfold spec_BlockOk.f blockN
 simp only [q1, o1, u1, Option.bind_some]
 by_cases hz : d.toList = [] <;> cases qcN a b v s l <;> cases okN d <;> simp [hz]
theorem blockNew_ex (a b v : Int) (s : ByteArray) (l : List Int) (z : Nat) (xs : List S156) (hs : s.size ≤ 5000) (hl : l.length ≤ 1000) (hz : z ≤ 1000) (hx : xs.length ≤ 10) (ho : ∀ x ∈ xs, okT x) (k : Nat) (hk : 60000 < k) : ∃ d v' s' l' g, spec_BlockNew.f k a b v s l (z : Int) xs = some (d, v', s', l', g) ∧ d.size ≤ s.size + 400 ∧ s'.size ≤ s.size ∧ l'.length ≤ l.length := by
 obtain ⟨d, d1, d2⟩ := nameOf_ex s z xs hs hz hx ho k (by omega)
 have b1 := blockS_at a b d v s l (by omega) (by omega) (by omega) k (by omega)
 have v1 := (vwN_at d (by omega) k (by omega)).1
 unfold spec_BlockNew.f
 rw [d1, Option.bind_some, copyS_at v s l (by omega), Option.bind_some]; dsimp only
 rw [b1, Option.bind_some, v1]
 split
 ·
  rw [Option.bind_some]
  split
  ·
   exact ⟨_, _, _, _, _, rfl, d2, Nat.le_refl _, Nat.le_refl _⟩
  ·
   exact ⟨_, _, _, _, _, rfl, Nat.zero_le _, Nat.zero_le _, Nat.zero_le _⟩
 ·
  exact ⟨_, _, _, _, _, rfl, Nat.zero_le _, Nat.zero_le _, Nat.zero_le _⟩
theorem l8Right_ex (c : List Int) (hn : c.length ≤ 9223372036854775807) (i h : Int) (hi : Cu c i) (n : Nat) (hn7 : n ≤ 10) (b : Int) (k : Nat) (hk : 61000 < k) : ∃ d v s l i' h', spec_l8DrawRight.f k c i h (n : Int) b = some (d, v, s, l, i', h') ∧ d.size ≤ 3400 ∧ s.size ≤ 3000 ∧ l.length ≤ 10 ∧ Cu c i' := by
 obtain ⟨s, i1, h1, e1, s1, p1⟩ := l5Right_ex c hn i h hi k (by omega)
 obtain ⟨l, i2, h2, e2, l2, p2⟩ := l7Of_ex c hn i1 h1 p1 n hn7 b s (by omega) k (by omega)
 obtain ⟨v0, v6⟩ := vwN_le s (by omega)
 have fin : ∀ (k : Nat) (xs : List S156) (i h : Int), 60000 < k → xs.length ≤ 10 → (∀ x ∈ xs, okT x) → Cu c i → ∃ d v s' l' i' h', (spec_l1Below.f c i h 4).bind (fun bt582 => ((spec_BlockNew.f k (n : Int) b (vwN s) s l (wrap64 ((wrap64 (vwN s + 1)) + (wrap64 (Int.tdiv bt582.1 3)))) xs).bind fun bt585 => (some (bt585.1, bt585.2.1, bt585.2.2.1, bt585.2.2.2.1, bt582.2.1, bt582.2.2)))) = some (d, v, s', l', i', h') ∧ d.size ≤ 3400 ∧ s'.size ≤ 3000 ∧ l'.length ≤ 10 ∧ Cu c i' := by
  intro k xs i h hk hx ho hi
  obtain ⟨y, i3, h3, e3, ⟨y0, y1⟩, p3⟩ := below_ex c hn i h 4 hi (by omega) (by omega)
  obtain ⟨z, ez, hz⟩ : ∃ z : Nat, wrap64 (wrap64 (vwN s + 1) + wrap64 (Int.tdiv y 3)) = (z : Int) ∧ z ≤ 1000 := by
   have hy : Int.tdiv y 3 = y / 3 := Int.tdiv_eq_ediv_of_nonneg y0
   rw [hy]
   refine ⟨(vwN s + 1 + (y / 3)).toNat, ?_, by omega⟩
   have w1 : wrap64 (vwN s + 1) = vwN s + 1 := by clear hy; unfold wrap64; omega
   have w2 : wrap64 (y / 3) = y / 3 := by clear hy w1; unfold wrap64; omega
   rw [w1, w2]
   clear w1 w2 hy
   unfold wrap64
   omega
  obtain ⟨d, v', s', l', g, f1, f2, f3, f4⟩ := blockNew_ex (n : Int) b (vwN s) s l z xs (by clear ez; omega) (by clear ez; omega) hz hx ho k (by clear ez; omega)
  rw [e3, Option.bind_some]; dsimp only
  rw [ez, f1]
  exact ⟨d, v', s', l', i3, h3, rfl, by clear ez; omega, by clear ez; omega, by clear ez; omega, p3⟩
 have key : ∀ (e k j : Nat) (xs : List S156) (i h : Int), j + e = 3 → 60000 + e + 1 < k → xs.length ≤ j → (∀ y ∈ xs, okT y) → Cu c i → ∃ d v s' l' i' h', spec_l8DrawRight.l0 k xs (j : Int) c i h (n : Int) b (vwN s) s l = some (d, v, s', l', i', h') ∧ d.size ≤ 3400 ∧ s'.size ≤ 3000 ∧ l'.length ≤ 10 ∧ Cu c i' := by
  intro e
  induction e with
  | zero =>
   intro k j xs i h hd hk hx ho hi
   obtain ⟨k, rfl⟩ : ∃ q, k = q + 1 := ⟨k - 1, by omega⟩
   obtain ⟨y, i1, h1, e1, ⟨b0, b1⟩, p1⟩ := below_ex c hn i h 3 hi (by omega) (by omega)
   simp only [spec_l8DrawRight.l0]
   rw [e1, Option.bind_some]; dsimp only
   rw [if_neg (by omega)]
   exact fin k xs i1 h1 (by omega) (by omega) ho p1
  | succ e ih =>
   intro k j xs i h hd hk hx ho hi
   obtain ⟨k, rfl⟩ : ∃ q, k = q + 1 := ⟨k - 1, by omega⟩
   obtain ⟨y, i1, h1, e1, ⟨b0, b1⟩, p1⟩ := below_ex c hn i h 3 hi (by omega) (by omega)
   obtain ⟨q0, q1, q2, q3, i2, h2, e2, ok, p2⟩ := drawRight_ex c hn i1 h1 p1
   simp only [spec_l8DrawRight.l0]
   rw [e1, Option.bind_some]; dsimp only
   by_cases hlt : (j : Int) < y
   ·
    rw [if_pos hlt, e2, Option.bind_some, if_pos (by omega), wn (m := j) (n := 100) (by omega) (by omega)]
    refine ih k (j + 1) _ i2 h2 (by omega) (by omega) (by simp; omega) ?_ p2
    intro y hy
    rcases List.mem_append.1 hy with hy | hy
    ·
     exact ho y hy
    ·
     rw [List.mem_singleton.1 hy]; exact ok
   ·
    rw [if_neg hlt]
    exact fin k xs i1 h1 (by omega) (by omega) ho p1
 unfold spec_l8DrawRight.f
 rw [e1, Option.bind_some]; dsimp only
 rw [e2, Option.bind_some]; dsimp only
 exact key 3 k 0 [] i2 h2 (by omega) (by omega) (by simp) (by simp) p2
noncomputable def mayN (a b x y v : Int) (s : ByteArray) (l : List Int) (e d : ByteArray) (v' : Int) (s' : ByteArray) (l' : List Int) : Bool := safeN a b x y v s l e && (blockN a b d v' s' l' && (decide (vwN d > x) && decide (v' ≥ y)))
theorem mayS_at (a b x y v : Int) (s : ByteArray) (l : List Int) (e d : ByteArray) (v' : Int) (s' : ByteArray) (l' : List Int) (hs : s.size < 100000000) (hn : l.length < 100000000) (he : e.size < 100000000) (hd : d.size < 100000000) (hs' : s'.size < 100000000) (hn' : l'.length < 100000000) (k : Nat) (hk : 3 * s.size + 2 * l.length + 3 * e.size + 3 * s'.size + 2 * l'.length + 3 * d.size + 90 < k) :
  spec_MayVote.f k a b x y v s l e d v' s' l' = some (mayN a b x y v s l e d v' s' l') := by
 obtain ⟨p1, p2⟩ := safeN_at a b x y v s l e hs hn he k (by omega)
 have q1 := blockS_at a b d v' s' l' hd hs' hn' k (by omega)
 obtain ⟨v1, v2, _, _⟩ := vwN_at d hd k (by omega)
 unfold spec_MayVote.f mayN
 simp only [p1, q1, v1, Option.bind_some]
 by_cases hz : vwN d > x <;> cases safeN a b x y v s l e <;> cases blockN a b d v' s' l' <;> simp [hz]
theorem copySafe_at (x y v : Int) (s : ByteArray) (l : List Int) (d : ByteArray) (hn : l.length < 100000000) : spec_l11Copy.f x y v s l d = some (x, y, v, s, l, d) := by
 unfold spec_l11Copy.f
 rw [copyS_at v s l hn]; rfl
theorem voteS_at (a b x y v : Int) (s : ByteArray) (l : List Int) (e d : ByteArray) (v' : Int) (s' : ByteArray) (l' : List Int) (hs : s.size < 100000000) (hn : l.length < 100000000) (he : e.size < 100000000) (hd : d.size < 100000000) (hs' : s'.size < 100000000) (hn' : l'.length < 100000000) (k : Nat) (hk : 3 * s.size + 2 * l.length + 3 * e.size + 3 * s'.size + 2 * l'.length + 3 * d.size + 90 < k) :
  ∃ z g, spec_Vote.f k a b x y v s l e d v' s' l' = some (z, y, v, s, l, e, g) := by
 have p1 := mayS_at a b x y v s l e d v' s' l' hs hn he hd hs' hn' k hk
 obtain ⟨v1, v2, _, _⟩ := vwN_at d hd k (by omega)
 unfold spec_Vote.f
 rw [copySafe_at x y v s l e hn, Option.bind_some, p1, Option.bind_some, v1]
 cases mayN a b x y v s l e d v' s' l'
 ·
  exact ⟨_, _, rfl⟩
 ·
  exact ⟨_, _, rfl⟩
theorem settlesS_ex (s : ByteArray) (hs : s.size < 100000000) (k : Nat) (hk : 3 * s.size + 90 < k) : ∃ r, spec_Settles.f k s = some r ∧ r.1.size ≤ s.size := by
 obtain ⟨r, r1, r2, r3, r4, _⟩ := steps_at s hs k (by omega)
 have no : ∃ r : ByteArray × Bool, some ((⟨#[]⟩ : ByteArray), false) = some r ∧ r.1.size ≤ s.size := ⟨_, rfl, Nat.zero_le _⟩
 unfold spec_Settles.f
 rw [r1, Option.bind_some]
 by_cases h : r.2 = true
 ·
  rw [if_pos h]
  by_cases h3 : (r.1.length : Int) < 3
  ·
   rw [if_pos h3]; exact no
  ·
   have w1 : wrap64 ((r.1.length : Int) - 1) = (r.1.length : Int) - 1 := by unfold wrap64; omega
   have w2 : wrap64 ((r.1.length : Int) - 2) = (r.1.length : Int) - 2 := by unfold wrap64; omega
   have w3 : wrap64 ((r.1.length : Int) - 3) = (r.1.length : Int) - 3 := by unfold wrap64; omega
   have c1 : (0 : Int) ≤ (r.1.length : Int) - 1 := by omega
   have c2 : (r.1.length : Int) - 1 < (r.1.length : Int) := by omega
   have c3 : (0 : Int) ≤ (r.1.length : Int) - 2 := by omega
   have c4 : (r.1.length : Int) - 2 < (r.1.length : Int) := by omega
   have c5 : (0 : Int) ≤ (r.1.length : Int) - 3 := by omega
   have c6 : (r.1.length : Int) - 3 < (r.1.length : Int) := by omega
   have h1 := upN_size s
   have h2 := upN_size (upN s)
   have u1 := (upN_at s hs k (by omega)).1
   have u2 := (upN_at (upN s) (by omega) k (by omega)).1
   rw [if_neg h3, w1, w2, w3, if_pos c1, if_pos c2, if_pos c3, if_pos c4, if_pos c5, if_pos c6, u1, Option.bind_some, u2, Option.bind_some]
   split
   ·
    split
    ·
     exact ⟨_, rfl, by show (upN (upN s)).size ≤ s.size; omega⟩
    ·
     exact no
   ·
    exact no
 ·
  rw [if_neg h]; exact no
theorem extendsS_ex (s t : ByteArray) (hs : s.size < 100000000) (ht : t.size < 100000000) (k : Nat) (hk : 3 * s.size + 3 * t.size + 80 < k) : ∃ b, spec_Extends.f k s t = some b ∧ (b = true → okN s = true) := by
 obtain ⟨_, _, o1, o2⟩ := vwN_at s hs k (by omega)
 obtain ⟨_, _, p1, p2⟩ := vwN_at t ht k (by omega)
 unfold spec_Extends.f
 simp only [o1, p1, Option.bind_some]
 cases ho : okN s
 ·
  exact ⟨false, rfl, fun h => by cases h⟩
 ·
  simp only [if_true]
  have c0 : (0 : Int) ≤ (t.size : Int) := by omega
  by_cases hp : okN t = true
  ·
   rw [if_pos hp]
   by_cases h : (t.size : Int) > (s.size : Int)
   ·
    exact ⟨false, by rw [if_pos h], fun _ => trivial⟩
   ·
    have h3 : (t.size : Int) ≤ (s.size : Int) := by omega
    rw [if_neg h, if_pos c0, if_pos h3]
    by_cases e : (s.extract 0 ((t.size : Int)).toNat).toList = t.toList
    ·
     rw [if_pos e]
     by_cases q : (s.size : Int) = (t.size : Int)
     ·
      exact ⟨true, by rw [if_pos q], fun _ => trivial⟩
     ·
      have q2 : (t.size : Int) < (s.size : Int) := by omega
      exact ⟨_, by rw [if_neg q, if_pos q2], fun _ => trivial⟩
    ·
     exact ⟨false, by rw [if_neg e], fun _ => trivial⟩
  ·
   exact ⟨false, by rw [if_neg hp], fun _ => trivial⟩
theorem setl_ex (s : ByteArray) (hs : s.size < 100000000) : ∃ r : ByteArray × Bool, (∀ k, 3 * s.size + 90 < k → spec_Settles.f k s = some r) ∧ r.1.size ≤ s.size := by
 obtain ⟨r, h, h2⟩ := settlesS_ex s hs (3 * s.size + 91) (by omega)
 exact ⟨r, fun k hk => mono_le (fun k => spec_Settles.mono s k) h (by omega), h2⟩
noncomputable def setlN (s : ByteArray) : ByteArray × Bool := if h : s.size < 100000000 then Classical.choose (setl_ex s h) else (s, false)
theorem setlN_at (s : ByteArray) (hs : s.size < 100000000) (k : Nat) (hk : 3 * s.size + 90 < k) : spec_Settles.f k s = some (setlN s) := by
 unfold setlN
 rw [dif_pos hs]
 exact (Classical.choose_spec (setl_ex s hs)).1 k hk
theorem setlN_size (s : ByteArray) : (setlN s).1.size ≤ s.size := by
 unfold setlN
 by_cases hs : s.size < 100000000
 ·
  rw [dif_pos hs]; exact (Classical.choose_spec (setl_ex s hs)).2
 ·
  rw [dif_neg hs]; exact Nat.le_refl _
theorem ext_ex (s t : ByteArray) (hs : s.size < 100000000 ∧ t.size < 100000000) : ∃ b : Bool, (∀ k, 3 * s.size + 3 * t.size + 80 < k → spec_Extends.f k s t = some b) ∧ (b = true → okN s = true) := by
 obtain ⟨r, h, h2⟩ := extendsS_ex s t hs.1 hs.2 (3 * s.size + 3 * t.size + 81) (by omega)
 exact ⟨r, fun k hk => mono_le (fun k => spec_Extends.mono s t k) h (by omega), h2⟩
noncomputable def extN (s t : ByteArray) : Bool := if h : s.size < 100000000 ∧ t.size < 100000000 then Classical.choose (ext_ex s t h) else false
theorem extN_at (s t : ByteArray) (hs : s.size < 100000000) (ht : t.size < 100000000) (k : Nat) (hk : 3 * s.size + 3 * t.size + 80 < k) : spec_Extends.f k s t = some (extN s t) := by
 unfold extN
 rw [dif_pos ⟨hs, ht⟩]
 exact (Classical.choose_spec (ext_ex s t ⟨hs, ht⟩)).1 k hk
noncomputable def depN (s d : ByteArray) : ByteArray := if (setlN s).2 = true then (if extN (setlN s).1 d = true then (setlN s).1 else d) else d
theorem depN_size (s d : ByteArray) (n : Nat) (hs : s.size ≤ n) (hd : d.size ≤ n) : (depN s d).size ≤ n := by
 have := setlN_size s
 unfold depN
 split
 ·
  split
  ·
   omega
  ·
   omega
 ·
  omega
theorem maxS_at (a b : Int) : spec_l1Max.f a b = some (if a > b then a else b) := by
 unfold spec_l1Max.f
 split <;> rfl
theorem laterS_at (v : Int) (s : ByteArray) (l : List Int) (v' : Int) (s' : ByteArray) (l' : List Int) (hn : l.length < 100000000) (hn' : l'.length < 100000000) :
  spec_QcLater.f v s l v' s' l' = some (if v > v' then v else v', if v > v' then s else s', if v > v' then l else l') := by
 unfold spec_QcLater.f
 rw [copyS_at v s l hn, copyS_at v' s' l' hn']
 by_cases h : v > v'
 ·
  simp only [if_pos h]; rfl
 ·
  simp only [if_neg h]; rfl
theorem seeS_at (a b x y v : Int) (s : ByteArray) (l : List Int) (d : ByteArray) (v' : Int) (s' : ByteArray) (l' : List Int) (hs : s.size < 100000000) (hn : l.length < 100000000) (hd : d.size < 100000000) (hs' : s'.size < 100000000) (hn' : l'.length < 100000000) (k : Nat) (hk : 3 * s.size + 2 * l.length + 3 * d.size + 6 * s'.size + 2 * l'.length + 100 < k) :
  spec_See.f k a b x y v s l d v' s' l' = some (if (safeN a b x y v s l d && qcN a b v' s' l') = true then (x, (if y > vwN (upN s') then y else vwN (upN s')), (if v' > v then v' else v), (if v' > v then s' else s), (if v' > v then l' else l), depN s' d) else (x, y, v, s, l, d)) := by
 obtain ⟨p1, p2⟩ := safeN_at a b x y v s l d hs hn hd k (by omega)
 obtain ⟨q1, q2⟩ := qcN_at a b v' s' l' hs' hn' k (by omega)
 have h1 := upN_size s'
 have h2 := setlN_size s'
 have u1 := (upN_at s' hs' k (by omega)).1
 have w1 := (vwN_at (upN s') (by omega) k (by omega)).1
 have t1 := setlN_at s' hs' k (by omega)
 have e1 := extN_at (setlN s').1 d (by omega) hd k (by omega)
 have c1 := copySafe_at x y v s l d hn
 have f1 := laterS_at v' s' l' v s l hn' hn
 unfold spec_See.f
 simp only [c1, p1, q1, Option.bind_some]
 cases safeN a b x y v s l d
 ·
  simp
 ·
  cases qcN a b v' s' l'
  ·
   simp
  ·
   simp only [if_true, Bool.and_self, f1, u1, w1, maxS_at, t1, e1, Option.bind_some]
   unfold depN
   by_cases c2 : (setlN s').2 = true
   ·
    by_cases c3 : extN (setlN s').1 d = true
    ·
     simp only [if_pos c2, if_pos c3]
    ·
     simp only [if_pos c2, if_neg c3]
   ·
    simp only [if_neg c2]
theorem l11Right_ex (c : List Int) (hn : c.length ≤ 9223372036854775807) (i h : Int) (hi : Cu c i) (n : Nat) (hn7 : n ≤ 10) (b : Int) (k : Nat) (hk : 90000 < k) : ∃ x y v s l d i' h', spec_l11DrawRight.f k c i h (n : Int) b = some (x, y, v, s, l, d, i', h') ∧ s.size ≤ 3000 ∧ l.length ≤ 10 ∧ d.size ≤ 3000 ∧ Cu c i' := by
 have key : ∀ (e k j : Nat) (x y v : Int) (s : ByteArray) (l : List Int) (d : ByteArray) (i h : Int), j + e = 5 → 80000 + e + 1 < k → s.size ≤ 3000 → l.length ≤ 10 → d.size ≤ 3000 → Cu c i → ∃ x' y' v' s' l' d' i' h', spec_l11DrawRight.l0 k (j : Int) c i h (n : Int) b x y v s l d = some (x', y', v', s', l', d', i', h') ∧ s'.size ≤ 3000 ∧ l'.length ≤ 10 ∧ d'.size ≤ 3000 ∧ Cu c i' := by
  intro e
  induction e with
  | zero =>
   intro k j x y v s l d i h hd hk hs hl hd' hi
   obtain ⟨k, rfl⟩ : ∃ q, k = q + 1 := ⟨k - 1, by omega⟩
   obtain ⟨z, i1, h1, e1, ⟨b0, b1⟩, p1⟩ := below_ex c hn i h 5 hi (by omega) (by omega)
   simp only [spec_l11DrawRight.l0]
   rw [e1, Option.bind_some]; dsimp only
   rw [if_neg (by omega)]
   exact ⟨_, _, _, _, _, _, _, _, rfl, hs, hl, hd', p1⟩
  | succ e ih =>
   intro k j x y v s l d i h hd hk hs hl hd' hi
   obtain ⟨k, rfl⟩ : ∃ q, k = q + 1 := ⟨k - 1, by omega⟩
   obtain ⟨z, i1, h1, e1, ⟨b0, b1⟩, p1⟩ := below_ex c hn i h 5 hi (by omega) (by omega)
   obtain ⟨d', v', s', l', i2, h2, e2, d2, s2, l2, p2⟩ := l8Right_ex c hn i1 h1 p1 n hn7 b k (by omega)
   obtain ⟨o, i3, h3, e3, p3⟩ := once_ex c hn i2 h2 3 p2 (by omega) (by omega)
   obtain ⟨x3, y3, v3, s3, l3, d3, e4, s3', l3', d3'⟩ : ∃ x3 y3 v3 s3 l3 d3, spec_See.f k (n : Int) b x y v s l d v' s' l' = some (x3, y3, v3, s3, l3, d3) ∧ s3.size ≤ 3000 ∧ l3.length ≤ 10 ∧ d3.size ≤ 3000 := by
    rw [seeS_at (n : Int) b x y v s l d v' s' l' (by omega) (by omega) (by omega) (by omega) (by omega) k (by omega)]
    split
    ·
     refine ⟨_, _, _, _, _, _, rfl, ?_, ?_, depN_size s' d 3000 s2 hd'⟩
     ·
      split <;> assumption
     ·
      split <;> assumption
    ·
     exact ⟨_, _, _, _, _, _, rfl, hs, hl, hd'⟩
   obtain ⟨w, g, e5⟩ := voteS_at (n : Int) b x3 y3 v3 s3 l3 d3 d' v' s' l' (by omega) (by omega) (by omega) (by omega) (by omega) (by omega) k (by omega)
   simp only [spec_l11DrawRight.l0]
   rw [e1, Option.bind_some]; dsimp only
   by_cases hlt : (j : Int) < z
   ·
    rw [if_pos hlt, e2, Option.bind_some]; dsimp only
    rw [e4, Option.bind_some]; dsimp only
    rw [e3, Option.bind_some]; dsimp only
    rw [wn (m := j) (n := 100) (by omega) (by omega)]
    cases o
    ·
     rw [if_neg (by decide), e5, Option.bind_some]
     exact ih k (j + 1) _ _ _ _ _ _ _ _ (by omega) (by omega) s3' l3' d3' p3
    ·
     rw [if_pos rfl]
     exact ih k (j + 1) _ _ _ _ _ _ _ _ (by omega) (by omega) s3' l3' d3' p3
   ·
    rw [if_neg hlt]
    exact ⟨_, _, _, _, _, _, _, _, rfl, hs, hl, hd', p1⟩
 unfold spec_l11DrawRight.f spec_SafeNew.f
 rw [Option.bind_some]
 exact key 5 k 0 0 0 0 _ _ _ i h (by omega) (by omega) (Nat.zero_le _) (Nat.zero_le _) (Nat.zero_le _) hi
theorem l11Draw_ex (c : List Int) (hn : c.length ≤ 9223372036854775807) (i h : Int) (hi : Cu c i) (n : Nat) (hn7 : n ≤ 10) (b : Int) (k : Nat) (hk : 90000 < k) : ∃ x y v s l d i' h', spec_l11Draw.f k c i h (n : Int) b = some (x, y, v, s, l, d, i', h') ∧ s.size ≤ 4000 ∧ l.length ≤ 20 ∧ d.size ≤ 4000 ∧ Cu c i' := by
 obtain ⟨x, y, v, s, l, d, i1, h1, e1, s1, l1, d1, p1⟩ := l11Right_ex c hn i h hi n hn7 b k hk
 obtain ⟨z, i3, h3, e3, _, p3⟩ := below_ex c hn i1 h1 10 p1 (by omega) (by omega)
 obtain ⟨t, i5, h5, e5, t5, p5⟩ := l5Draw_ex c hn i3 h3 p3 k (by omega)
 obtain ⟨v', s', l', i4, h4, e4, s4, l4, p4⟩ := l7Draw_ex c hn i3 h3 p3 n hn7 b k (by omega)
 obtain ⟨x6, i6, h6, e6, _, p6⟩ := pickInt_ex c hn i3 h3 p3 [(-1), 60, 61] (by simp) (by simp)
 obtain ⟨x7, i7, h7, e7, _, p7⟩ := pickInt_ex c hn i3 h3 p3 [(-1), 0, 60, 61] (by simp) (by simp)
 unfold spec_l11Draw.f
 rw [e1, Option.bind_some]; dsimp only
 rw [e3, Option.bind_some]; dsimp only
 split
 ·
  rw [e6]; exact ⟨_, _, _, _, _, _, _, _, rfl, by omega, by omega, by omega, p6⟩
 ·
  split
  ·
   rw [e7]; exact ⟨_, _, _, _, _, _, _, _, rfl, by omega, by omega, by omega, p7⟩
  ·
   split
   ·
    rw [e5]; exact ⟨_, _, _, _, _, _, _, _, rfl, by omega, by omega, by omega, p5⟩
   ·
    split
    ·
     rw [e4]; exact ⟨_, _, _, _, _, _, _, _, rfl, by omega, by omega, by omega, p4⟩
    ·
     exact ⟨_, _, _, _, _, _, _, _, rfl, by omega, by omega, by omega, p3⟩
def isB (l : List Int) : Prop := ∀ x ∈ l, 0 ≤ x ∧ x < 256
theorem isB_nil : isB [] := fun x h => by cases h
theorem isB_app {a b : List Int} (ha : isB a) (hb : isB b) : isB (a ++ b) := fun x h => (List.mem_append.1 h).elim (ha x) (hb x)
theorem isB_take {l : List Int} (h : isB l) (n : Nat) : isB (l.take n) := fun x hx => h x (List.mem_of_mem_take hx)
theorem isB_drop {l : List Int} (h : isB l) (n : Nat) : isB (l.drop n) := fun x hx => h x (List.mem_of_mem_drop hx)
theorem isB_pnr : ∀ (d : Nat) (n : Int), 0 ≤ n → n < P7 (d + 1) → isB (pnr d n)
 | 0, n, h0, h1 => by
  have : P7 (0 + 1) = 128 := rfl
  intro x hx
  simp only [pnr, List.mem_singleton] at hx
  omega
 | d + 1, n, h0, h1 => by
  rw [P7_step] at h1
  intro x hx
  simp only [pnr] at hx
  by_cases c : 128 ≤ n
  ·
   rw [if_pos c] at hx
   rcases List.mem_cons.1 hx with rfl | hx
   ·
    omega
   ·
    exact isB_pnr d (n / 128) (by omega) (by omega) x hx
  ·
   rw [if_neg c, List.mem_singleton] at hx
   omega
theorem isB_pn (n : Int) (h0 : 0 ≤ n) (h1 : n ≤ 2147483647) : isB (pn n) := isB_pnr 4 n h0 (by have : P7 (4 + 1) = 34359738368 := rfl; omega)
theorem isB_bytesOf (t : ByteArray) : isB (bytesOf t) := by
 intro x hx
 unfold bytesOf at hx
 obtain ⟨b, _, rfl⟩ := List.mem_map.1 hx
 have := b.toNat_lt
 omega
theorem isB_et (t : ByteArray) (h : t.size ≤ 2147483647) : isB (et t) := isB_app (isB_pn _ (by omega) (by omega)) (isB_bytesOf t)
theorem isB_en : ∀ w : List Int, nums31 w → isB (en w)
 | [], _ => by unfold en; exact isB_nil
 | x :: w, h => by
  have hx := h x List.mem_cons_self
  rw [en_cons]
  exact isB_app (isB_pn x hx.1 hx.2) (isB_en w (fun y hy => h y (List.mem_cons_of_mem _ hy)))
theorem isB_eq (v : Int) (s : ByteArray) (w : List Int) (h0 : 0 ≤ v) (h1 : v ≤ 2147483647) (hs : s.size ≤ 2147483647) (hw : nums31 w) (hl : w.length ≤ 2147483647) : isB (eq_ v s w) :=
 isB_app (isB_pn v h0 h1) (isB_app (isB_et s hs) (isB_app (isB_pn _ (by omega) (by omega)) (isB_en w hw)))
theorem isB_es (x y v : Int) (s : ByteArray) (w : List Int) (d : ByteArray) (hx : 0 ≤ x ∧ x ≤ 2147483647) (hy : 0 ≤ y ∧ y ≤ 2147483647) (hv : 0 ≤ v ∧ v ≤ 2147483647) (hs : s.size ≤ 2147483647) (hw : nums31 w) (hl : w.length ≤ 2147483647) (hd : d.size ≤ 2147483647) : isB (es x y v s w d) :=
 isB_app (isB_pn x hx.1 hx.2) (isB_app (isB_pn y hy.1 hy.2) (isB_app (isB_eq v s w hv.1 hv.2 hs hw hl) (isB_et d hd)))
theorem bytesOk_isB {l : List Int} (h : isB l) (hl : l.length ≤ 1048576) : bytesOk l := by
 refine ⟨hl, fun i => ?_⟩
 unfold rd
 rw [List.getD_eq_getElem?_getD]
 cases e : l[i.toNat]? with
 | none => exact ⟨Int.le_refl 0, by decide⟩
 | some x => exact h x (List.mem_of_getElem? e)
theorem safeB (a b x y v : Int) (s : ByteArray) (w : List Int) (d : ByteArray) (hs : s.size < 1000000) (hw : w.length < 1000000) (hd : d.size < 1000000) (k : Nat) (hk : 10000000 < k) : ∃ r, spec_SafeBytes.f k a b x y v s w d = some r ∧ isB r ∧ r.length ≤ 50 + s.size + 5 * w.length + d.size := by
 obtain ⟨r, r1, _, r3⟩ := safeBytes_at a b x y v s w d (by omega) (by omega) (by omega) k (by omega)
 obtain ⟨o, o1, _⟩ := safeOk_at a b x y v s w d (by omega) (by omega) (by omega) k (by omega)
 refine ⟨r, r1, ?_, r3⟩
 cases o
 ·
  unfold spec_SafeBytes.f at r1
  rw [o1, Option.bind_some, if_neg (by decide)] at r1
  rw [← Option.some.inj r1]
  exact isB_nil
 ·
  obtain ⟨hx, hy, hv, hn, _⟩ := safeOk_facts a b x y v s w d (by omega) (by omega) k (by omega) o1
  have e := safeBytes_eq a b x y v s w d (by omega) (by omega) (by omega) k (by omega) o1
  rw [← Option.some.inj (e.symm.trans r1)]
  exact isB_es x y v s w d ⟨hx.1, by omega⟩ ⟨hy.1, by omega⟩ ⟨hv.1, by omega⟩ (by omega) hn (by omega) (by omega)
theorem dent_ex' (c : List Int) (hn : c.length ≤ 9223372036854775807) (i h : Int) (hi : Cu c i) (B : List Int) (hB : isB B) (hl : B.length ≤ 19000) : ∃ r i' h', spec_l12Dent.f c i h B = some (r, i', h') ∧ isB r ∧ r.length ≤ B.length + 1 ∧ Cu c i' := by
 have hw : wrap64 ((B.length : Int) + 1) = (B.length : Int) + 1 := by unfold wrap64; omega
 obtain ⟨x, i1, h1, e1, ⟨x0, x1⟩, p1⟩ := below_ex c hn i h ((B.length : Int) + 1) hi (by omega) (by omega)
 obtain ⟨y, i2, h2, e2, ⟨y0, y1⟩, p2⟩ := below_ex c hn i1 h1 5 p1 (by omega) (by omega)
 obtain ⟨z, i3, h3, e3, z3, p3⟩ := pickInt_ex c hn i2 h2 p2 [0, 1, 128, 3] (by simp) (by simp)
 have hx : x ≤ (B.length : Int) := by omega
 unfold spec_l12Dent.f
 rw [hw, e1, Option.bind_some]; dsimp only
 rw [e2, Option.bind_some]; dsimp only
 by_cases c1 : y = 0
 ·
  rw [if_pos c1, if_pos x0, if_pos hx]
  exact ⟨_, _, _, rfl, isB_take hB _, by rw [List.length_take]; omega, p2⟩
 ·
  rw [if_neg c1]
  by_cases c2 : y = 1
  ·
   rw [if_pos c2, if_pos x0, if_pos hx, e3, Option.bind_some]; dsimp only
   rw [if_pos (by omega)]
   refine ⟨_, _, _, rfl, isB_app (isB_take hB _) (isB_app (fun q hq => ?_) (isB_drop hB _)), ?_, p3⟩
   ·
    rw [List.mem_singleton.1 hq]; omega
   ·
    rw [List.length_append, List.length_append, List.length_take, List.length_drop, List.length_singleton]; omega
  ·
   rw [if_neg c2]
   exact ⟨_, _, _, rfl, hB, by omega, p2⟩
theorem dSafeOf_ex (l : List Int) (hn : l.length ≤ 9223372036854775807) (k : Nat) (hk : 20000000 < k) : ∃ a b r, spec_DrawSafeOf.f k l = some (a, b, r) ∧ bytesOk r := by
 obtain ⟨h, e0⟩ := l1New_at l hn k (by omega)
 obtain ⟨a, b, i1, h1, e1, a0, a1, _, _, p1⟩ := l7DrawConf_at l hn 0 h ⟨by omega, by omega⟩
 obtain ⟨n, rfl⟩ : ∃ n : Nat, a = (n : Int) := ⟨a.toNat, by omega⟩
 obtain ⟨x, y, v, s, w, d, i2, h2, e2, s2, w2, d2, p2⟩ := l11Right_ex l hn i1 h1 p1 n (by omega) b k (by omega)
 obtain ⟨B, b1, b2, b3⟩ := safeB (n : Int) b x y v s w d (by omega) (by omega) (by omega) k (by omega)
 obtain ⟨r, i3, h3, e3, r1, r2, p3⟩ := dent_ex' l hn i2 h2 p2 B b2 (by omega)
 unfold spec_DrawSafeOf.f
 rw [e0, Option.bind_some]; dsimp only
 rw [e1, Option.bind_some]; dsimp only
 rw [e2, Option.bind_some]; dsimp only
 rw [b1, Option.bind_some, e3, Option.bind_some]
 exact ⟨_, _, _, rfl, bytesOk_isB r1 (Nat.le_trans r2 (by omega))⟩
theorem noteB (a b x y v : Int) (s : ByteArray) (w : List Int) (d : ByteArray) (hs : s.size < 1000000) (hw : w.length < 1000000) (hd : d.size < 1000000) (k : Nat) (hk : 10000000 < k) : ∃ r, spec_NoteBytes.f k a b x y v s w d = some r ∧ isB r ∧ r.length ≤ 60 + s.size + 5 * w.length + d.size := by
 obtain ⟨r, r1, _, r3⟩ := noteBytes_at a b x y v s w d (by omega) (by omega) (by omega) k (by omega)
 obtain ⟨q, q1, _, q3⟩ := safeBytes_at a b x y v s w d (by omega) (by omega) (by omega) k (by omega)
 obtain ⟨o, o1, _⟩ := safeOk_at a b x y v s w d (by omega) (by omega) (by omega) k (by omega)
 refine ⟨r, r1, ?_, r3⟩
 cases o
 ·
  have hq : q = [] := by
   unfold spec_SafeBytes.f at q1
   rw [o1, Option.bind_some, if_neg (by decide)] at q1
   exact (Option.some.inj q1).symm
  subst hq
  unfold spec_NoteBytes.f at r1
  rw [q1, Option.bind_some, if_pos (by simp)] at r1
  rw [← Option.some.inj r1]
  exact isB_nil
 ·
  obtain ⟨hx, hy, hv, hn, _⟩ := safeOk_facts a b x y v s w d (by omega) (by omega) k (by omega) o1
  have e := noteBytes_eq a b x y v s w d (by omega) (by omega) (by omega) k (by omega) o1
  have e2 := safeBytes_eq a b x y v s w d (by omega) (by omega) (by omega) k (by omega) o1
  have hl : (es x y v s w d).length ≤ 50 + s.size + 5 * w.length + d.size := by rw [Option.some.inj (e2.symm.trans q1)]; exact q3
  rw [← Option.some.inj (e.symm.trans r1)]
  refine isB_app (isB_pn _ (by omega) (by omega)) (isB_app (isB_es x y v s w d ⟨hx.1, by omega⟩ ⟨hy.1, by omega⟩ ⟨hv.1, by omega⟩ (by omega) hn (by omega) (by omega)) (fun q hq => ?_))
  rw [List.mem_singleton.1 hq]; omega
theorem dLast_ex (l : List Int) (hn : l.length ≤ 9223372036854775807) (k : Nat) (hk : 20000000 < k) : ∃ a b r, spec_DrawLastNote.f k l = some (a, b, r) ∧ bytesOk r := by
 obtain ⟨h, e0⟩ := l1New_at l hn k (by omega)
 obtain ⟨a, b, i1, h1, e1, a0, a1, _, _, p1⟩ := l7DrawConf_at l hn 0 h ⟨by omega, by omega⟩
 obtain ⟨n, rfl⟩ : ∃ n : Nat, a = (n : Int) := ⟨a.toNat, by omega⟩
 have key : ∀ (e k j : Nat) (B : List Int) (i h : Int), j + e = 3 → 11000000 + e < k → isB B → B.length ≤ 6120 * j → Cu l i → ∃ a' b' r, spec_DrawLastNote.l0 k B (j : Int) l i h (n : Int) b = some (a', b', r) ∧ bytesOk r := by
  intro e
  induction e with
  | zero =>
   intro k j B i h he hk hB hl hi
   obtain ⟨k, rfl⟩ : ∃ q, k = q + 1 := ⟨k - 1, by omega⟩
   obtain ⟨y, i2, h2, e2, ⟨y0, y1⟩, p2⟩ := below_ex l hn i h 4 hi (by omega) (by omega)
   obtain ⟨r, i3, h3, e3, r1, r2, p3⟩ := dent_ex' l hn i2 h2 p2 B hB (by omega)
   simp only [spec_DrawLastNote.l0]
   rw [e2, Option.bind_some]; dsimp only
   rw [if_neg (by omega), e3, Option.bind_some]
   exact ⟨_, _, _, rfl, bytesOk_isB r1 (Nat.le_trans r2 (by omega))⟩
  | succ e ih =>
   intro k j B i h he hk hB hl hi
   obtain ⟨k, rfl⟩ : ∃ q, k = q + 1 := ⟨k - 1, by omega⟩
   obtain ⟨y, i2, h2, e2, ⟨y0, y1⟩, p2⟩ := below_ex l hn i h 4 hi (by omega) (by omega)
   simp only [spec_DrawLastNote.l0]
   rw [e2, Option.bind_some]; dsimp only
   by_cases hlt : (j : Int) < y
   ·
    obtain ⟨x, y', v, s, w, d, i3, h3, e3, s3, w3, d3, p3⟩ := l11Right_ex l hn i2 h2 p2 n (by omega) b k (by omega)
    obtain ⟨N, n1, n2, n3⟩ := noteB (n : Int) b x y' v s w d (by omega) (by omega) (by omega) k (by omega)
    rw [if_pos hlt, e3, Option.bind_some]; dsimp only
    rw [n1, Option.bind_some, if_pos (by omega), wn (m := j) (n := 100) (by omega) (by omega)]
    exact ih k (j + 1) (B ++ N) i3 h3 (by omega) (by omega) (isB_app hB n2) (by rw [List.length_append]; omega) p3
   ·
    obtain ⟨r, i3, h3, e3, r1, r2, p3⟩ := dent_ex' l hn i2 h2 p2 B hB (by omega)
    rw [if_neg hlt, e3, Option.bind_some]
    exact ⟨_, _, _, rfl, bytesOk_isB r1 (Nat.le_trans r2 (by omega))⟩
 unfold spec_DrawLastNote.f
 rw [e0, Option.bind_some]; dsimp only
 rw [e1, Option.bind_some]; dsimp only
 exact key 3 k 0 [] i1 h1 (by omega) (by omega) isB_nil (by simp) p1
theorem dSafe_ex (l : List Int) (hn : l.length ≤ 9223372036854775807) (k : Nat) (hk : 20000000 < k) : ∃ a b x y v s w d, spec_DrawSafeBytes.f k l = some (a, b, x, y, v, s, w, d) ∧ s.size ≤ 4000 ∧ w.length ≤ 20 ∧ d.size ≤ 4000 := by
 obtain ⟨h, e0⟩ := l1New_at l hn k (by omega)
 obtain ⟨a, b, i1, h1, e1, a0, a1, _, _, p1⟩ := l7DrawConf_at l hn 0 h ⟨by omega, by omega⟩
 obtain ⟨n, rfl⟩ : ∃ n : Nat, a = (n : Int) := ⟨a.toNat, by omega⟩
 obtain ⟨x, y, v, s, w, d, i2, h2, e2, s2, w2, d2, p2⟩ := l11Draw_ex l hn i1 h1 p1 n (by omega) b k (by omega)
 obtain ⟨q, i3, h3, e3, p3⟩ := once_ex l hn i2 h2 10 p2 (by omega) (by omega)
 obtain ⟨a', b', i4, h4, e4⟩ : ∃ a' b' i4 h4, spec_l7DrawBent.f l i3 h3 = some (a', b', i4, h4) := by
  obtain ⟨a, b, i1, h1, e1, _, _, _, _, p1⟩ := l7DrawConf_at l hn i3 h3 p3
  obtain ⟨y, i2, h2, e2, _, p2⟩ := below_ex l hn i1 h1 12 p1 (by omega) (by omega)
  obtain ⟨z, i3, h3, e3, _, p3⟩ := pickInt_ex l hn i2 h2 p2 [0, 3, 8, (-1)] (by simp) (by simp)
  obtain ⟨u, i4, h4, e4, _, p4⟩ := pickInt_ex l hn i2 h2 p2 [0, 6, 7] (by simp) (by simp)
  unfold spec_l7DrawBent.f
  rw [e1, Option.bind_some]; dsimp only
  rw [e2, Option.bind_some]; dsimp only
  split
  ·
   rw [e3, Option.bind_some]; exact ⟨_, _, _, _, rfl⟩
  ·
   split
   ·
    rw [e4, Option.bind_some]; exact ⟨_, _, _, _, rfl⟩
   ·
    exact ⟨_, _, _, _, rfl⟩
 unfold spec_DrawSafeBytes.f spec_DrawSafeOk.f
 rw [e0, Option.bind_some]; dsimp only
 rw [e1, Option.bind_some]; dsimp only
 rw [e2, Option.bind_some]; dsimp only
 rw [e3, Option.bind_some]; dsimp only
 cases q
 ·
  rw [if_neg (by decide), Option.bind_some]
  exact ⟨_, _, _, _, _, _, _, _, rfl, s2, w2, d2⟩
 ·
  rw [if_pos rfl, e4, Option.bind_some, Option.bind_some]
  exact ⟨_, _, _, _, _, _, _, _, rfl, s2, w2, d2⟩
theorem nums_ex (c : List Int) (hn : c.length ≤ 9223372036854775807) (i h : Int) (hi : Cu c i) (k : Nat) (hk : 100 < k) : ∃ r i' h', spec_l1DrawNums.f k c i h = some (r, i', h') ∧ isB r ∧ r.length ≤ 40 ∧ Cu c i' := by
 have key : ∀ (e k j : Nat) (B : List Int) (i h : Int), j + e = 3 → 20 + e < k → isB B → B.length ≤ 5 * j → Cu c i → ∃ r i' h', spec_l1DrawNums.l0 k B (j : Int) c i h = some (r, i', h') ∧ isB r ∧ r.length ≤ 40 ∧ Cu c i' := by
  have fin : ∀ (B : List Int) (i h : Int), isB B → B.length ≤ 15 → Cu c i → ∃ r i' h', ((spec_l1Once.f c i h 3).bind fun bt1288 => (if bt1288.1 = true then ((spec_l1PickInt.f c bt1288.2.1 bt1288.2.2 (([0, 128, 255] : List Int))).bind fun bt1294 => ((spec_l1Below.f c bt1294.2.1 bt1294.2.2 3).bind fun bt1297 => ((some (([(bt1294.1) % 256, (bt1297.1) % 256] : List Int) : List Int)).bind fun y1300 => (if B.length + y1300.length < 140737488355328 then (some ((B ++ y1300), bt1297.2.1, bt1297.2.2)) else (none))))) else (some (B, bt1288.2.1, bt1288.2.2)))) = some (r, i', h') ∧ isB r ∧ r.length ≤ 40 ∧ Cu c i' := by
   intro B i h hB hl hi
   obtain ⟨q, i1, h1, e1, p1⟩ := once_ex c hn i h 3 hi (by omega) (by omega)
   obtain ⟨x, i2, h2, e2, _, p2⟩ := pickInt_ex c hn i1 h1 p1 [0, 128, 255] (by simp) (by simp)
   obtain ⟨y, i3, h3, e3, _, p3⟩ := below_ex c hn i2 h2 3 p2 (by omega) (by omega)
   rw [e1, Option.bind_some]; dsimp only
   cases q
   ·
    rw [if_neg (by decide)]
    exact ⟨_, _, _, rfl, hB, by omega, p1⟩
   ·
    rw [if_pos rfl, e2, Option.bind_some]; dsimp only
    rw [e3, Option.bind_some]; dsimp only
    rw [Option.bind_some, if_pos (by simp; omega)]
    refine ⟨_, _, _, rfl, isB_app hB (fun z hz => ?_), by simp; omega, p3⟩
    simp only [List.mem_cons, List.not_mem_nil, or_false] at hz
    rcases hz with rfl | rfl <;> omega
  intro e
  induction e with
  | zero =>
   intro k j B i h he hk hB hl hi
   obtain ⟨k, rfl⟩ : ∃ q, k = q + 1 := ⟨k - 1, by omega⟩
   obtain ⟨y, i1, h1, e1, ⟨y0, y1⟩, p1⟩ := below_ex c hn i h 4 hi (by omega) (by omega)
   simp only [spec_l1DrawNums.l0]
   rw [e1, Option.bind_some]; dsimp only
   rw [if_neg (by omega)]
   exact fin B i1 h1 hB (by omega) p1
  | succ e ih =>
   intro k j B i h he hk hB hl hi
   obtain ⟨k, rfl⟩ : ∃ q, k = q + 1 := ⟨k - 1, by omega⟩
   obtain ⟨y, i1, h1, e1, ⟨y0, y1⟩, p1⟩ := below_ex c hn i h 4 hi (by omega) (by omega)
   simp only [spec_l1DrawNums.l0]
   rw [e1, Option.bind_some]; dsimp only
   by_cases hlt : (j : Int) < y
   ·
    obtain ⟨x, i2, h2, e2, x2, p2⟩ := pickInt_ex c hn i1 h1 p1 [0, 1, 127, 128, 300, 2147483647] (by simp) (by simp)
    have hx : 0 ≤ x ∧ x ≤ 2147483647 := by
     simp only [List.mem_cons, List.not_mem_nil, or_false] at x2
     omega
    have l1 := putB_length x
    rw [if_pos hlt, e2, Option.bind_some]; dsimp only
    rw [(putNum_at x k (by omega)).1, Option.bind_some, if_pos (by omega), wn (m := j) (n := 100) (by omega) (by omega)]
    refine ih k (j + 1) (B ++ putB x) i2 h2 (by omega) (by omega) (isB_app hB ?_) (by rw [List.length_append]; omega) p2
    rw [putB_pn x hx.1 hx.2]
    exact isB_pn x hx.1 hx.2
   ·
    rw [if_neg hlt]
    exact fin B i1 h1 hB (by omega) p1
 unfold spec_l1DrawNums.f
 exact key 3 k 0 [] i h (by omega) (by omega) isB_nil (by simp) hi
theorem qcB8 (a b v : Int) (s : ByteArray) (w : List Int) (hs : s.size < 1000000) (hw : w.length < 1000000) (k : Nat) (hk : 10000000 < k) : ∃ r, spec_QcBytes.f k a b v s w = some r ∧ isB r ∧ r.length ≤ 20 + s.size + 5 * w.length := by
 obtain ⟨r, r1, _, r3⟩ := qcBytes_at a b v s w (by omega) (by omega) k (by omega)
 obtain ⟨o, o1, _⟩ := qcOk_at a b v s w (by omega) (by omega) k (by omega)
 refine ⟨r, r1, ?_, r3⟩
 cases o
 ·
  unfold spec_QcBytes.f at r1
  rw [o1, Option.bind_some, if_neg (by decide)] at r1
  rw [← Option.some.inj r1]
  exact isB_nil
 ·
  obtain ⟨v0, v1, hn⟩ := qcOk_facts a b v s w (by omega) (by omega) k (by omega) o1
  have e := qcBytes_eq a b v s w (by omega) (by omega) k (by omega) o1
  rw [← Option.some.inj (e.symm.trans r1)]
  exact isB_eq v s w v0 (by omega) (by omega) hn (by omega)
theorem dQcOf_ex (l : List Int) (hn : l.length ≤ 9223372036854775807) (k : Nat) (hk : 20000000 < k) : ∃ a b r q, spec_DrawQcOf.f k l = some (a, b, r, q) ∧ bytesOk r ∧ q ≤ 9223372036854775807 := by
 obtain ⟨h, e0⟩ := l1New_at l hn k (by omega)
 obtain ⟨a, b, i1, h1, e1, a0, a1, _, _, p1⟩ := l7DrawConf_at l hn 0 h ⟨by omega, by omega⟩
 obtain ⟨n, rfl⟩ : ∃ n : Nat, a = (n : Int) := ⟨a.toNat, by omega⟩
 obtain ⟨v, s, w, i2, h2, e2, s2, w2, p2⟩ := l7Draw_ex l hn i1 h1 p1 n (by omega) b k (by omega)
 obtain ⟨B, b1, b2, b3⟩ := qcB8 (n : Int) b v s w (by omega) (by omega) k (by omega)
 obtain ⟨N, i3, h3, e3, n1, n2, p3⟩ := nums_ex l hn i2 h2 p2 k (by omega)
 obtain ⟨r, i4, h4, e4, r1, r2, p4⟩ := dent_ex' l hn i3 h3 p3 (B ++ N) (isB_app b2 n1) (by rw [List.length_append]; omega)
 rw [List.length_append] at r2
 obtain ⟨q, i5, h5, e5, q5, p5⟩ := pickInt_ex l hn i4 h4 p4 [0, 0, 0, 1, (r.length : Int), (-1)] (by simp) (by simp)
 have hq : q ≤ 9223372036854775807 := by
  simp only [List.mem_cons, List.not_mem_nil, or_false] at q5
  omega
 unfold spec_DrawQcOf.f
 rw [e0, Option.bind_some]; dsimp only
 rw [e1, Option.bind_some]; dsimp only
 rw [e2, Option.bind_some]; dsimp only
 rw [b1, Option.bind_some, e3, Option.bind_some]; dsimp only
 rw [if_pos (by omega), e4, Option.bind_some]; dsimp only
 rw [e5, Option.bind_some]
 exact ⟨_, _, _, _, rfl, bytesOk_isB r1 (Nat.le_trans r2 (by omega)), hq⟩
theorem dQc_ex (l : List Int) (hn : l.length ≤ 9223372036854775807) (k : Nat) (hk : 20000000 < k) : ∃ a b v s w, spec_DrawQcBytes.f k l = some (a, b, v, s, w) ∧ s.size ≤ 4000 ∧ w.length ≤ 20 := by
 obtain ⟨h, e0⟩ := l1New_at l hn k (by omega)
 obtain ⟨a, b, i1, h1, e1, a0, a1, _, _, p1⟩ := l7DrawConf_at l hn 0 h ⟨by omega, by omega⟩
 obtain ⟨n, rfl⟩ : ∃ n : Nat, a = (n : Int) := ⟨a.toNat, by omega⟩
 obtain ⟨v, s, w, i2, h2, e2, s2, w2, p2⟩ := l7Draw_ex l hn i1 h1 p1 n (by omega) b k (by omega)
 obtain ⟨q, i3, h3, e3, p3⟩ := once_ex l hn i2 h2 10 p2 (by omega) (by omega)
 obtain ⟨a', b', i4, h4, e4⟩ : ∃ a' b' i4 h4, spec_l7DrawBent.f l i3 h3 = some (a', b', i4, h4) := by
  obtain ⟨a, b, i1, h1, e1, _, _, _, _, p1⟩ := l7DrawConf_at l hn i3 h3 p3
  obtain ⟨y, i2, h2, e2, _, p2⟩ := below_ex l hn i1 h1 12 p1 (by omega) (by omega)
  obtain ⟨z, i3, h3, e3, _, p3⟩ := pickInt_ex l hn i2 h2 p2 [0, 3, 8, (-1)] (by simp) (by simp)
  obtain ⟨u, i4, h4, e4, _, p4⟩ := pickInt_ex l hn i2 h2 p2 [0, 6, 7] (by simp) (by simp)
  unfold spec_l7DrawBent.f
  rw [e1, Option.bind_some]; dsimp only
  rw [e2, Option.bind_some]; dsimp only
  split
  ·
   rw [e3, Option.bind_some]; exact ⟨_, _, _, _, rfl⟩
  ·
   split
   ·
    rw [e4, Option.bind_some]; exact ⟨_, _, _, _, rfl⟩
   ·
    exact ⟨_, _, _, _, rfl⟩
 unfold spec_DrawQcBytes.f spec_DrawQcOk.f
 rw [e0, Option.bind_some]; dsimp only
 rw [e1, Option.bind_some]; dsimp only
 rw [e2, Option.bind_some]; dsimp only
 rw [e3, Option.bind_some]; dsimp only
 cases q
 ·
  rw [if_neg (by decide), Option.bind_some]
  exact ⟨_, _, _, _, _, rfl, s2, w2⟩
 ·
  rw [if_pos rfl, e4, Option.bind_some, Option.bind_some]
  exact ⟨_, _, _, _, _, rfl, s2, w2⟩
theorem safe_back (c e : Int) (l : List Int) (hl : bytesOk l) (x y v : Int) (s : ByteArray) (w : List Int) (d : ByteArray) (hs : s.size < 100000000) (hw : w.length < 10000000) (hd : d.size < 100000000) (k : Nat) (hk : 3 * s.size + 2 * w.length + 3 * d.size + 90 < k) (h : spec_SafeOf.f k c e l = some (x, y, v, s, w, d, true)) :
  spec_SafeBytes.f k c e x y v s w d = some l := by
 obtain ⟨h1, h2⟩ := safe_dec c e l hl x y v s w d k (by omega) h
 rw [safeBytes_eq c e x y v s w d hs (by omega) hd k hk h2, ← h1]
theorem qcOf_dec (c e : Int) (l : List Int) (hl : bytesOk l) (a : Int) (ha : a ≤ 9223372036854775807) (v : Int) (s : ByteArray) (w : List Int) (b : Int) (k : Nat) (hk : 20 < k) (h : spec_QcOf.f k c e l a = some (v, s, w, b, true)) :
  0 ≤ a ∧ a ≤ b ∧ b ≤ (l.length : Int) ∧ (l.take b.toNat).drop a.toNat = eq_ v s w ∧ spec_QcOk.f k c e v s w = some true := by
 have hll := hl.1
 unfold spec_QcOf.f at h
 cases hq : spec_l12Qc.f k l a true with
 | none => rw [hq] at h; cases h
 | some q =>
  obtain ⟨v', s', w', b', p⟩ := q
  rw [hq, Option.bind_some] at h
  simp only at h
  cases p
  ·
   rw [if_neg (by decide)] at h; simp at h
  ·
   rw [if_pos rfl] at h
   cases ho : spec_QcOk.f k c e v' s' w' with
   | none => rw [ho] at h; cases h
   | some o =>
    rw [ho, Option.bind_some] at h
    cases o
    ·
     rw [if_neg (by decide)] at h; simp at h
    ·
     rw [if_pos rfl] at h
     simp only [Option.some.injEq, Prod.mk.injEq, and_true] at h
     obtain ⟨rfl, rfl, rfl, rfl⟩ := h
     obtain ⟨_, a0, _, _, _, _, d1, d2⟩ := qc_dec l hl a true ha _ _ _ _ k hk hq
     have hL := congrArg List.length d1
     rw [List.length_drop, List.length_append, List.length_drop] at hL
     have hp := pn_len1 v'
     have hp2 : 1 ≤ (eq_ v' s' w').length := by unfold eq_; rw [List.length_append]; omega
     refine ⟨a0, by omega, by omega, ?_, ho⟩
     rw [List.drop_take, d1, show b'.toNat - a.toNat = (eq_ v' s' w').length by omega, List.take_left]
theorem qc_back (c e : Int) (l : List Int) (hl : bytesOk l) (a : Int) (ha : a ≤ 9223372036854775807) (v : Int) (s : ByteArray) (w : List Int) (b : Int) (hs : s.size < 100000000) (hw : w.length < 10000000) (k : Nat) (hk : 3 * s.size + 2 * w.length + 90 < k) (h : spec_QcOf.f k c e l a = some (v, s, w, b, true)) :
  0 ≤ a ∧ a ≤ b ∧ b ≤ (l.length : Int) ∧ spec_QcBytes.f k c e v s w = some ((l.take b.toNat).drop a.toNat) := by
 obtain ⟨h1, h2, h3, h4, h5⟩ := qcOf_dec c e l hl a ha v s w b k (by omega) h
 exact ⟨h1, h2, h3, by rw [qcBytes_eq c e v s w hs (by omega) k hk h5, h4]⟩
theorem ln_same (c d : Int) (l : List Int) (hl : bytesOk l) (k : Nat) (hk : 30000000 < k) (x y v : Int) (s : ByteArray) (w : List Int) (t : ByteArray) (p : Int) (h : spec_LastNote.f k c d l = some (x, y, v, s, w, t, p)) :
  0 ≤ p ∧ p ≤ (l.length : Int) ∧ spec_LastNote.f k c d (l.take p.toNat) = some (x, y, v, s, w, t, p) := by
 have hll := hl.1
 obtain ⟨t0, t1, t2, t3, t4, t5, q, q1, q2, q3⟩ := ln_pre c d l hl l.length 0 (Nat.zero_le _) (by omega) 0 0 0 (⟨#[]⟩ : ByteArray) [] (⟨#[]⟩ : ByteArray)
 obtain ⟨e1, e2⟩ := q3 k (by omega)
 unfold spec_LastNote.f spec_SafeNew.f at h ⊢
 rw [Option.bind_some] at h ⊢
 simp only at h ⊢
 have e := Option.some.inj (e1.symm.trans h)
 simp only [Prod.mk.injEq] at e
 obtain ⟨rfl, rfl, rfl, rfl, rfl, rfl, rfl⟩ := e
 refine ⟨by omega, by omega, ?_⟩
 rw [Int.toNat_natCast]
 exact e2
theorem qcOf_at (c d : Int) (l : List Int) (hl : bytesOk l) (a : Int) (ha : a ≤ 9223372036854775807) (k : Nat) (hk : 10000000 < k) :
  ∃ (v : Int) (s : ByteArray) (w : List Int) (b : Int) (p : Bool), spec_QcOf.f k c d l a = some (v, s, w, b, p) ∧ impl_QcOf.f k c d l a = some (v, s, w, b, p) ∧ w.length ≤ 1048600 := by
 have hn := hl.1
 obtain ⟨v, s, w, b, p, h1, h2, h3, _⟩ := curQc_at l hl a true ha
 obtain ⟨r1, r2⟩ := h1 k (by omega)
 have r2' : impl_reader_qc.f k l a false = some (v, s, w, b, !p) := r2
 unfold spec_QcOf.f impl_QcOf.f
 rw [r1, r2', Option.bind_some, Option.bind_some]
 cases p
 ·
  exact ⟨0, (⟨#[]⟩ : ByteArray), [], 0, false, by simp, by simp, by simp⟩
 ·
  obtain ⟨q1, q2⟩ := qcN_at c d v s w (by omega) (by omega) k (by omega)
  generalize qcN c d v s w = r at q1 q2
  cases r
  ·
   exact ⟨0, (⟨#[]⟩ : ByteArray), [], 0, false, by simp [q1], by simp [q2], by simp⟩
  ·
   exact ⟨v, s, w, b, true, by simp [q1], by simp [q2], h3⟩
theorem selfB (x y v : Int) (s : ByteArray) (l : List Int) (d : ByteArray) (hn : l.length ≤ 2000000) (k : Nat) (hk : 5000000 < k) : impl_SafeSame.f k x y v s l d x y v s l d = some true := by
 have hqb := implQcSame_at v s l v s l (by omega) k (by omega)
 have hqt : qcB v s l v s l = true := by unfold qcB; exact decide_eq_true ⟨rfl, rfl, rfl⟩
 unfold impl_SafeSame.f
 rw [if_pos rfl, if_pos rfl, hqb, hqt, Option.bind_some, if_pos rfl]
 simp
theorem testB (k : Nat) (hk : 400000000 < k) (d0 d2 : Int) (X : List Int) (hX : bytesOk X) (x y v : Int) (s : ByteArray) (w : List Int) (t : ByteArray) (ok : Bool) (o1 : spec_SafeOf.f k d0 d2 X = some (x, y, v, s, w, t, ok)) (o3 : w.length ≤ 1048600) (o4 : s.size ≤ 1048576) (o5 : t.size ≤ 1048576)
  (g0 g1 : Int) (R : List Int) (hR : bytesOk R) (a : Int) (ha : a ≤ 9223372036854775807) (v6 : Int) (s6 : ByteArray) (w6 : List Int) (nx : Int) (is : Bool) (u1 : spec_QcOf.f k g0 g1 R a = some (v6, s6, w6, nx, is)) (u3 : w6.length ≤ 1048600) :
  laws_FnNotes.cd k ok d0 d2 x y v s w t X is g0 g1 v6 s6 w6 a nx R = some false := by
 have hok : ok = true → impl_SafeBytes.f k d0 d2 x y v s w t = some X := by
  intro h
  rw [h] at o1
  have b := safe_back d0 d2 X hX x y v s w t (by omega) (by omega) (by omega) k (by omega) o1
  obtain ⟨r, r1, r2, _⟩ := safeBytes_at d0 d2 x y v s w t (by omega) (by omega) (by omega) k (by omega)
  rw [r2, ← r1, b]
 have his : is = true → 0 ≤ a ∧ a ≤ nx ∧ nx ≤ (R.length : Int) ∧ impl_QcBytes.f k g0 g1 v6 s6 w6 = some ((R.take nx.toNat).drop a.toNat) := by
  intro h
  rw [h] at u1
  have hl := hR.1
  obtain ⟨_, _, _, e, _⟩ := qcOf_dec g0 g1 R hR a ha v6 s6 w6 nx k (by omega) u1
  have hz : s6.size ≤ 1048576 := by
   have e2 := congrArg List.length e
   have e3 := et_len s6
   have e4 : (eq_ v6 s6 w6).length = (pn v6).length + ((et s6).length + (ew w6).length) := by unfold eq_; rw [List.length_append, List.length_append]
   rw [List.length_drop, List.length_take] at e2
   omega
  obtain ⟨i1, i2, i3, b⟩ := qc_back g0 g1 R hR a ha v6 s6 w6 nx (by omega) (by omega) k (by omega) u1
  obtain ⟨r, r1, r2, _⟩ := qcBytes_at g0 g1 v6 s6 w6 (by omega) (by omega) k (by omega)
  exact ⟨i1, i2, i3, by rw [r2, ← r1, b]⟩
 unfold laws_FnNotes.cd
 cases ok
 ·
  rw [if_neg (by decide)]
  cases is
  ·
   rw [if_neg (by decide)]
  ·
   obtain ⟨i1, i2, i3, i4⟩ := his rfl
   rw [if_pos rfl, i4, Option.bind_some, if_pos i1, if_pos i2, if_pos i3, if_pos rfl]
 ·
  rw [if_pos rfl, hok rfl, Option.bind_some, if_pos rfl]
  cases is
  ·
   rw [if_neg (by decide)]
  ·
   obtain ⟨i1, i2, i3, i4⟩ := his rfl
   rw [if_pos rfl, i4, Option.bind_some, if_pos i1, if_pos i2, if_pos i3, if_pos rfl]
theorem lastI (c d : Int) (l : List Int) (hl : bytesOk l) (k : Nat) (hk : 400000000 < k) (x y v : Int) (s : ByteArray) (w : List Int) (t : ByteArray) (p : Int) (h : spec_LastNote.f k c d l = some (x, y, v, s, w, t, p)) : impl_LastNote.f k c d l = some (x, y, v, s, w, t, p) := by
 obtain ⟨_, _, _, _, _, _, _, r1, r2, _⟩ := lastNote_at c d l hl k (by omega)
 rw [r2, ← r1, h]
theorem restB (k : Nat) (hk : 400000000 < k) (f0 f1 : Int) (raw : List Int) (hR : bytesOk raw) (x3 y3 v3 : Int) (s3 : ByteArray) (w3 : List Int) (t3 : ByteArray) (used : Int) (l1 : spec_LastNote.f k f0 f1 raw = some (x3, y3, v3, s3, w3, t3, used)) (l3 : w3.length ≤ 1048600)
  (c0 c1 x y v : Int) (s : ByteArray) (w : List Int) (d : ByteArray) (s1 : s.size ≤ 4000) (w1 : w.length ≤ 20) (d1 : d.size ≤ 4000) (B N : List Int) (b1 : spec_SafeBytes.f k c0 c1 x y v s w d = some B) (n1 : spec_NoteBytes.f k c0 c1 x y v s w d = some N) :
  laws_FnNotes.tl k used raw f0 f1 x3 y3 v3 s3 w3 t3 c0 c1 x y v s w d B N = some true := by
 obtain ⟨p0, p1, p2⟩ := ln_same f0 f1 raw hR k (by omega) x3 y3 v3 s3 w3 t3 used l1
 have p3 := lastI f0 f1 (raw.take used.toNat) (bytesOk_take raw hR _) k hk _ _ _ _ _ _ _ p2
 obtain ⟨o, o1, o2⟩ := safeOk_at c0 c1 x y v s w d (by omega) (by omega) (by omega) k (by omega)
 unfold laws_FnNotes.tl
 rw [if_pos p0, if_pos p1, p3, Option.bind_some]; dsimp only
 rw [if_pos rfl, selfB x3 y3 v3 s3 w3 t3 (by omega) k (by omega), Option.bind_some, if_pos rfl, o2, Option.bind_some]
 cases o
 ·
  rw [if_neg (by decide)]
  have hB : B = [] := by
   unfold spec_SafeBytes.f at b1
   rw [o1, Option.bind_some, if_neg (by decide)] at b1
   exact (Option.some.inj b1).symm
  subst hB
  have hN : N = [] := by
   unfold spec_NoteBytes.f at n1
   rw [b1, Option.bind_some, if_pos (by simp)] at n1
   exact (Option.some.inj n1).symm
  subst hN
  rw [if_pos (by simp)]
  simp
 ·
  rw [if_pos rfl]
  obtain ⟨hx, hy, hv, hn, _⟩ := safeOk_facts c0 c1 x y v s w d (by omega) (by omega) k (by omega) o1
  have hb := safeBytes_eq c0 c1 x y v s w d (by omega) (by omega) (by omega) k (by omega) o1
  have hnn := noteBytes_eq c0 c1 x y v s w d (by omega) (by omega) (by omega) k (by omega) o1
  obtain ⟨B', b1', b2, b3⟩ := safeB c0 c1 x y v s w d (by omega) (by omega) (by omega) k (by omega)
  obtain ⟨N', n1', n2, n3⟩ := noteB c0 c1 x y v s w d (by omega) (by omega) (by omega) k (by omega)
  obtain rfl : B = B' := Option.some.inj (b1.symm.trans b1')
  obtain rfl : N = N' := Option.some.inj (n1.symm.trans n1')
  have hBe : B = es x y v s w d := Option.some.inj (b1.symm.trans hb)
  have hNe : N = pn (B.length : Int) ++ (B ++ [10]) := by rw [hBe]; exact Option.some.inj (n1.symm.trans hnn)
  have hBo := bytesOk_isB b2 (by omega)
  have hNo := bytesOk_isB n2 (by omega)
  have hS : ∀ k, 20000000 < k → spec_SafeOf.f k c0 c1 B = some (x, y, v, s, w, d, true) := by
   intro k' hk'
   obtain ⟨o', o1', _⟩ := safeOk_at c0 c1 x y v s w d (by omega) (by omega) (by omega) k' (by omega)
   have hoo : o' = true := by
    obtain ⟨z1, _⟩ := safeN_at c0 c1 x y v s w d (by omega) (by omega) (by omega) k (by omega)
    obtain ⟨z2, _⟩ := safeN_at c0 c1 x y v s w d (by omega) (by omega) (by omega) k' (by omega)
    have y1 := Option.some.inj (z1.symm.trans o1)
    have y2 := Option.some.inj (z2.symm.trans o1')
    rw [← y2, y1]
   rw [hoo] at o1'
   rw [hBe]
   exact safe_enc c0 c1 x y v s w d (by rw [← hBe]; exact hBo) ⟨hx.1, by omega⟩ ⟨hy.1, by omega⟩ ⟨hv.1, by omega⟩ hn k' (by rw [← hBe]; omega) o1'
  have r1 : impl_SafeOf.f k c0 c1 B = some (x, y, v, s, w, d, true) := by
   obtain ⟨_, _, _, _, _, _, _, z1, z2, _⟩ := safeOf_at c0 c1 B hBo k (by omega)
   rw [z2, ← z1, hS k (by omega)]
  have hNl : N.length = (pn (B.length : Int)).length + B.length + 1 := by
   rw [hNe, List.length_append, List.length_append, List.length_singleton]; omega
  have r2 : impl_LastNote.f k c0 c1 N = some (x, y, v, s, w, d, (N.length : Int)) := by
   refine lastI c0 c1 N hNo k hk _ _ _ _ _ _ _ ?_
   have e := ln_note c0 c1 B (by rw [← hNe]; exact hNo) x y v s w d hS k (by omega)
   rw [← hNe] at e
   exact e
  have hw : wrap64 ((N.length : Int) - 1) = ((N.length - 1 : Nat) : Int) := by unfold wrap64; omega
  have hT : N.take (N.length - 1) = pn (B.length : Int) ++ B := by
   rw [hNl, hNe, ← List.append_assoc, List.take_left' (by rw [List.length_append]; omega)]
  have r3 : impl_LastNote.f k c0 c1 (N.take (N.length - 1)) = some (0, 0, 0, (⟨#[]⟩ : ByteArray), [], (⟨#[]⟩ : ByteArray), 0) := by
   refine lastI c0 c1 _ (bytesOk_take N hNo _) k hk _ _ _ _ _ _ _ ?_
   rw [hT]
   exact ln_torn c0 c1 B (by rw [← hT]; exact bytesOk_take N hNo _) k (by omega)
  rw [r1, Option.bind_some]; dsimp only
  rw [r2, Option.bind_some]; dsimp only
  rw [hw, if_pos (by omega), if_pos (by omega), Int.toNat_natCast, r3, Option.bind_some]; dsimp only
  rw [if_pos rfl, selfB x y v s w d (by omega) k (by omega), Option.bind_some, if_pos rfl, Option.bind_some, if_pos rfl, if_pos rfl, if_pos rfl]
  unfold impl_SafeNew.f
  rw [Option.bind_some]; dsimp only
  rw [selfB 0 0 0 _ [] _ (by simp) k (by omega)]
  rfl
theorem Pure.FnNotes : StatFnNotes := by
 intro l0 ⟨h1, h2⟩
 have hn : l0.length ≤ 9223372036854775807 := h1
 obtain ⟨k, hk⟩ : ∃ k, 400000000 < k := ⟨_, Nat.lt_succ_self _⟩
 refine ⟨k, ?_⟩
 unfold laws_FnNotes.f laws_big.f
 rw [Option.bind_some]
 by_cases hb : decide ((l0.length : Int) > 1048576) = true
 ·
  rw [if_pos hb]
 rw [if_neg hb]
 clear hb
 obtain ⟨c0, c1, x, y, v, s, w, d, e1, s1, w1, d1⟩ := dSafe_ex l0 hn k (by omega)
 obtain ⟨B, b1, b2, _⟩ := safeBytes_at c0 c1 x y v s w d (by omega) (by omega) (by omega) k (by omega)
 obtain ⟨N, n1, n2, _⟩ := noteBytes_at c0 c1 x y v s w d (by omega) (by omega) (by omega) k (by omega)
 obtain ⟨d0, d2, X, e2, hX⟩ := dSafeOf_ex l0 hn k (by omega)
 obtain ⟨x2, y2, v2, s2, w2, t2, ok, o1, o2, o3, o4, o5⟩ := safeOf_at d0 d2 X hX k (by omega)
 obtain ⟨f0, f1, raw, e3, hR⟩ := dLast_ex l0 hn k (by omega)
 obtain ⟨x3, y3, v3, s3, w3, t3, used, l1, l2, l3, l4, l5⟩ := lastNote_at f0 f1 raw hR k (by omega)
 obtain ⟨q0, q1, v4, s4, w4, e4, s5, w5⟩ := dQc_ex l0 hn k (by omega)
 obtain ⟨Q, z1, z2, _⟩ := qcBytes_at q0 q1 v4 s4 w4 (by omega) (by omega) k (by omega)
 obtain ⟨g0, g4, R, a, e5, hRR, ha⟩ := dQcOf_ex l0 hn k (by omega)
 obtain ⟨v6, s6, w6, nx, is, u1, u2, u3⟩ := qcOf_at g0 g4 R hRR a ha k (by omega)
 have hcd := testB k hk d0 d2 X hX x2 y2 v2 s2 w2 t2 ok o1 o3 o4 o5 g0 g4 R hRR a ha v6 s6 w6 nx is u1 u3
 have htl := restB k hk f0 f1 raw hR x3 y3 v3 s3 w3 t3 used l1 l3 c0 c1 x y v s w d s1 w1 d1 B N b1 n1
 have ne : ∀ x : Bool, (x != x) = false := fun x => by cases x <;> rfl
 have qs : impl_QcSame.f k v6 s6 w6 v6 s6 w6 = some true := by
  rw [implQcSame_at v6 s6 w6 v6 s6 w6 (by omega) k (by omega)]
  unfold qcB
  rw [decide_eq_true ⟨rfl, rfl, rfl⟩]
 rw [e1, Option.bind_some]; dsimp only
 rw [b2, Option.bind_some, n2, Option.bind_some, e2, Option.bind_some]; dsimp only
 rw [o2, Option.bind_some, o1, Option.bind_some, e3, Option.bind_some]; dsimp only
 rw [l2, Option.bind_some, l1, Option.bind_some, e4, Option.bind_some, e5, Option.bind_some]; dsimp only
 rw [u2, Option.bind_some, u1, Option.bind_some, b1, Option.bind_some]; dsimp only
 rw [if_pos rfl, n1, Option.bind_some, if_pos rfl, ne, if_neg (by decide), selfB x2 y2 v2 s2 w2 t2 (by omega) k (by omega), Option.bind_some, if_pos rfl, if_pos rfl, selfB x3 y3 v3 s3 w3 t3 (by omega) k (by omega), Option.bind_some, if_pos rfl, z2, Option.bind_some, z1, Option.bind_some, if_pos rfl, ne, if_neg (by decide), if_pos rfl, qs, Option.bind_some, if_pos rfl, hcd, Option.bind_some, if_neg (by decide)]
 exact htl
end Go.Proofs.YtdmjhgogljhfkaaGreatDoor.PFnNotes
