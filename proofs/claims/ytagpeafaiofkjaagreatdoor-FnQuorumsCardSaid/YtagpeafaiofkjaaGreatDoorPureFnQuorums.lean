/- The law FnQuorums over numbers, texts and lists: both sides come to one answer; the later certificate is no earlier than either; and two quorums have more in common than the faults, with each other and with the honest. No condition. -/
import Derived.Test.YtagpeafaiofkjaaGreatDoorStatFnQuorums
namespace Go.Proofs.YtagpeafaiofkjaaGreatDoor.PFnQuorums
open Go.RowKit Go.Proofs.YtagpeafaiofkjaaGreatDoorW.PrintWords Go.Proofs.YtagpeafaiofkjaaGreatDoorW.PrintLast
set_option linter.unusedVariables false
set_option linter.unusedSimpArgs false
theorem wn {m n : Nat} (h : m < n) (hn : n ≤ 9223372036854775807) : wrap64 ((m : Int) + 1) = ((m + 1 : Nat) : Int) := by unfold wrap64; omega
theorem wi {a : Int} {n : Nat} (h0 : 0 ≤ a) (h : a + (n : Int) ≤ 9223372036854775807) : ∀ {m : Nat}, m < n → wrap64 (a + (m : Int) + 1) = a + ((m + 1 : Nat) : Int) := by
  intro m hm
  unfold wrap64
  omega
theorem len_ok {n : Nat} (h : n ≤ maxLen) : n ≤ 9223372036854775807 := by unfold maxLen at h; omega
theorem set_take {α : Type} (l : List α) (n : Nat) (x : α) (h : n < l.length) : (l.set n x).take (n + 1) = l.take n ++ [x] := by
  rw [List.take_succ_eq_append_getElem (by simpa using h), List.take_set_of_le (Nat.le_refl _)]
  simp
theorem drop_at (l : List Int) (n : Nat) (h : n < l.length) : l.drop n = rd l (n : Int) :: l.drop (n + 1) := by
  rw [List.drop_eq_getElem_cons h]
  simp [rd, List.getD_eq_getElem?_getD, List.getElem?_eq_getElem h]
/-- n numbers that follow each other, from a on. -/
def marks (a : Int) : Nat → List Int
  | 0 => []
  | n + 1 => a :: marks (a + 1) n
theorem marks_length : ∀ (n : Nat) (a : Int), (marks a n).length = n
  | 0, _ => rfl
  | n + 1, a => by simp [marks, marks_length n]
theorem setOk_l (n : Int) (l : List Int) (hn : l.length ≤ 9223372036854775807) : ∀ (d m : Nat), m + d = l.length →
    ∃ b, ∀ k, d < k → spec_SetOk.l0 k n l (m : Int) = some b ∧ impl_SetOk.l0 k n l l (l.length : Int) (m : Int) = some b := by
  intro d
  induction d with
  | zero =>
    intro m hd
    have hA : ¬ (m : Int) < (l.length : Int) := by omega
    refine ⟨true, fun k hk => ?_⟩
    obtain ⟨k, rfl⟩ : ∃ q, k = q + 1 := ⟨k - 1, by omega⟩
    exact ⟨by simp only [spec_SetOk.l0, if_neg hA], by simp only [impl_SetOk.l0, if_neg hA]⟩
  | succ d ih =>
    intro m hd
    have hA : (m : Int) < (l.length : Int) := by omega
    have hB : (0 : Int) ≤ (m : Int) := by omega
    have hw1 : wrap64 ((m : Int) - 1) = (m : Int) - 1 := by unfold wrap64; omega
    have hw2 : wrap64 ((m : Int) + 1) = ((m + 1 : Nat) : Int) := wn (n := l.length) (by omega) hn
    obtain ⟨b, hb⟩ := ih (m + 1) (by omega)
    have go : ∀ c : Bool, (∀ k, d < k → (spec_SetOk.l0 (k + 1) n l (m : Int) = some c ∧ impl_SetOk.l0 (k + 1) n l l (l.length : Int) (m : Int) = some c)) → ∃ b, ∀ k, d + 1 < k → spec_SetOk.l0 k n l (m : Int) = some b ∧ impl_SetOk.l0 k n l l (l.length : Int) (m : Int) = some b := by
      intro c h
      refine ⟨c, fun k hk => ?_⟩
      obtain ⟨k, rfl⟩ : ∃ q, k = q + 1 := ⟨k - 1, by omega⟩
      exact h k (by omega)
    by_cases a1 : rd l (m : Int) < 0
    · exact go false fun k hk => ⟨by simp only [spec_SetOk.l0, if_pos hA, if_pos hB, if_pos a1], by simp only [impl_SetOk.l0, if_pos hA, if_pos hB, if_pos a1]⟩
    · by_cases a2 : rd l (m : Int) ≥ n
      · exact go false fun k hk => ⟨by simp only [spec_SetOk.l0, if_pos hA, if_pos hB, if_neg a1, if_pos a2], by simp only [impl_SetOk.l0, if_pos hA, if_pos hB, if_neg a1, if_pos a2]⟩
      · by_cases a3 : (m : Int) > 0
        · have hC : (0 : Int) ≤ (m : Int) - 1 := by omega
          have hD : (m : Int) - 1 < (l.length : Int) := by omega
          by_cases a4 : rd l ((m : Int) - 1) ≥ rd l (m : Int)
          · exact go false fun k hk => ⟨by simp only [spec_SetOk.l0, hw1, if_pos hA, if_pos hB, if_neg a1, if_neg a2, if_pos a3, if_pos hC, if_pos hD, if_pos a4], by simp only [impl_SetOk.l0, hw1, if_pos hA, if_pos hB, if_neg a1, if_neg a2, if_pos a3, if_pos hC, if_pos hD, if_pos a4]⟩
          · exact go b fun k hk => ⟨by simp only [spec_SetOk.l0, hw1, hw2, if_pos hA, if_pos hB, if_neg a1, if_neg a2, if_pos a3, if_pos hC, if_pos hD, if_neg a4]; exact (hb k hk).1, by simp only [impl_SetOk.l0, hw1, hw2, if_pos hA, if_pos hB, if_neg a1, if_neg a2, if_pos a3, if_pos hC, if_pos hD, if_neg a4]; exact (hb k hk).2⟩
        · exact go b fun k hk => ⟨by simp only [spec_SetOk.l0, hw2, if_pos hA, if_pos hB, if_neg a1, if_neg a2, if_neg a3]; exact (hb k hk).1, by simp only [impl_SetOk.l0, hw2, if_pos hA, if_pos hB, if_neg a1, if_neg a2, if_neg a3]; exact (hb k hk).2⟩
theorem setOk_at (n : Int) (l : List Int) (hn : l.length ≤ 9223372036854775807) : ∃ b, ∀ k, l.length < k → spec_SetOk.f k n l = some b ∧ impl_SetOk.f k n l = some b :=
  setOk_l n l hn l.length 0 (by omega)
/-- How many of the first list are in the second. -/
def inN (xs ys : List Int) : Nat := (xs.filter (fun x => decide (x ∈ ys))).length
/-- How many of the first n numbers are in a list. -/
def cntN (xs : List Int) (n : Nat) : Nat := ((List.range n).filter (fun i : Nat => decide (((i : Nat) : Int) ∈ xs))).length
theorem cntN_succ (xs : List Int) (n : Nat) : cntN xs (n + 1) = cntN xs n + if (n : Int) ∈ xs then 1 else 0 := by
  unfold cntN
  rw [List.range_succ, List.filter_append, List.length_append]
  by_cases h : (n : Int) ∈ xs
  · rw [if_pos h, List.filter_cons_of_pos (by simpa using h)]; simp
  · rw [if_neg h, List.filter_cons_of_neg (by simpa using h)]; simp
theorem cntN_cons (a : Int) (xs : List Int) (ha : a ∉ xs) : ∀ n : Nat, cntN (a :: xs) n = cntN xs n + if 0 ≤ a ∧ a < (n : Int) then 1 else 0
  | 0 => by rw [if_neg (by omega)]; simp [cntN]
  | n + 1 => by
    rw [cntN_succ, cntN_succ, cntN_cons a xs ha n]
    by_cases h : (n : Int) = a
    · have h1 : (n : Int) ∈ a :: xs := by rw [h]; simp
      have h2 : (n : Int) ∉ xs := by rw [h]; exact ha
      rw [if_pos h1, if_neg h2, if_neg (by omega), if_pos (by omega)]
    · have h1 : (n : Int) ∈ a :: xs ↔ (n : Int) ∈ xs := by simp [h]
      by_cases h2 : (n : Int) ∈ xs
      · rw [if_pos (h1.2 h2), if_pos h2]
        by_cases h3 : 0 ≤ a ∧ a < (n : Int)
        · rw [if_pos h3, if_pos (by omega)]
        · rw [if_neg h3, if_neg (by omega)]
      · rw [if_neg (fun x => h2 (h1.1 x)), if_neg h2]
        by_cases h3 : 0 ≤ a ∧ a < (n : Int)
        · rw [if_pos h3, if_pos (by omega)]
        · rw [if_neg h3, if_neg (by omega)]
theorem cntN_all (n : Nat) : ∀ xs : List Int, xs.Nodup → (∀ x ∈ xs, 0 ≤ x ∧ x < (n : Int)) → cntN xs n = xs.length
  | [], _, _ => by
    unfold cntN
    simp
  | a :: xs, hd, hr => by
    obtain ⟨h1, h2⟩ := List.nodup_cons.1 hd
    rw [cntN_cons a xs h1, cntN_all n xs h2 (fun x hx => hr x (List.mem_cons_of_mem _ hx)), if_pos (hr a (by simp))]
    rfl
theorem cntN_le (n : Nat) (xs ys zs : List Int) (h : ∀ i : Int, i ∈ xs → i ∈ ys → i ∈ zs) : cntN xs n + cntN ys n ≤ n + cntN zs n := by
  induction n with
  | zero => simp [cntN]
  | succ n ih =>
    rw [cntN_succ, cntN_succ, cntN_succ]
    by_cases h1 : (n : Int) ∈ xs <;> by_cases h2 : (n : Int) ∈ ys
    · rw [if_pos h1, if_pos h2, if_pos (h _ h1 h2)]; omega
    · rw [if_pos h1, if_neg h2]; omega
    · rw [if_neg h1, if_pos h2]; omega
    · rw [if_neg h1, if_neg h2]; omega
/-- Two sets within n numbers have at least that in common by which they are more than n. -/
theorem pig (n : Nat) (xs ys : List Int) (hx : xs.Nodup) (hy : ys.Nodup) (rx : ∀ x ∈ xs, 0 ≤ x ∧ x < (n : Int)) (ry : ∀ y ∈ ys, 0 ≤ y ∧ y < (n : Int)) : xs.length + ys.length ≤ n + inN xs ys := by
  have h := cntN_le n xs ys (xs.filter (fun x => decide (x ∈ ys))) (fun i h1 h2 => List.mem_filter.2 ⟨h1, decide_eq_true h2⟩)
  rw [cntN_all n xs hx rx, cntN_all n ys hy ry, cntN_all n _ (hx.filter _) (fun x hm => rx x (List.mem_filter.1 hm).1)] at h
  exact h
/-- What SetOk says of a list. -/
theorem setOk_sorted (n : Int) (l : List Int) (hn : l.length ≤ 9223372036854775807) : ∀ (d k m : Nat), m + d = l.length → spec_SetOk.l0 k n l (m : Int) = some true →
    (∀ x ∈ l.drop m, 0 ≤ x ∧ x < n) ∧ (l.drop m).Pairwise (· < ·) ∧ (0 < m → ∀ x ∈ l.drop m, rd l ((m : Int) - 1) < x) := by
  intro d
  induction d with
  | zero =>
    intro k m hd h
    rw [List.drop_of_length_le (by omega)]
    exact ⟨by simp, List.Pairwise.nil, by simp⟩
  | succ d ih =>
    intro k m hd h
    cases k with
    | zero => simp [spec_SetOk.l0] at h
    | succ k =>
      have hA : (m : Int) < (l.length : Int) := by omega
      have hB : (0 : Int) ≤ (m : Int) := by omega
      have hw1 : wrap64 ((m : Int) - 1) = (m : Int) - 1 := by unfold wrap64; omega
      have hw2 : wrap64 ((m : Int) + 1) = ((m + 1 : Nat) : Int) := wn (n := l.length) (by omega) hn
      simp only [spec_SetOk.l0, if_pos hA, if_pos hB, hw1, hw2] at h
      by_cases a1 : rd l (m : Int) < 0
      · rw [if_pos a1] at h; cases h
      · by_cases a2 : rd l (m : Int) ≥ n
        · rw [if_neg a1, if_pos a2] at h; cases h
        · rw [if_neg a1, if_neg a2] at h
          have key : spec_SetOk.l0 k n l ((m + 1 : Nat) : Int) = some true ∧ (0 < m → rd l ((m : Int) - 1) < rd l (m : Int)) := by
            by_cases a3 : (m : Int) > 0
            · rw [if_pos a3, if_pos (show (0 : Int) ≤ (m : Int) - 1 by omega), if_pos (show (m : Int) - 1 < (l.length : Int) by omega)] at h
              by_cases a4 : rd l ((m : Int) - 1) ≥ rd l (m : Int)
              · rw [if_pos a4] at h; cases h
              · rw [if_neg a4] at h; exact ⟨h, fun _ => by omega⟩
            · rw [if_neg a3] at h; exact ⟨h, fun x => by omega⟩
          obtain ⟨h1, h2⟩ := key
          obtain ⟨i1, i2, i3⟩ := ih k (m + 1) (by omega) h1
          have i3' : ∀ x ∈ l.drop (m + 1), rd l (m : Int) < x := by
            have := i3 (by omega)
            rw [show ((m + 1 : Nat) : Int) - 1 = (m : Int) by omega] at this
            exact this
          rw [drop_at l m (by omega)]
          refine ⟨?_, List.pairwise_cons.2 ⟨i3', i2⟩, ?_⟩
          · intro x hx
            rcases List.mem_cons.1 hx with rfl | hx
            · omega
            · exact i1 x hx
          · intro hm x hx
            have h3 := h2 hm
            rcases List.mem_cons.1 hx with rfl | hx
            · exact h3
            · have := i3' x hx; omega
theorem setOk_nodup (n : Int) (l : List Int) (hn : l.length ≤ 9223372036854775807) (k : Nat) (h : spec_SetOk.f k n l = some true) : l.Nodup ∧ ∀ x ∈ l, 0 ≤ x ∧ x < n := by
  obtain ⟨h1, h2, _⟩ := setOk_sorted n l hn l.length k 0 (by omega) h
  rw [List.drop_zero] at h1 h2
  exact ⟨h2.imp (fun h => by omega), h1⟩
theorem slIndex_l (xs : List Int) (x : Int) (hn : xs.length ≤ 9223372036854775807) : ∀ (d k m : Nat), m + d = xs.length → d < k →
    ∃ r, slices_Index_int_int.l0 k xs x (xs.length : Int) (m : Int) = some r ∧ decide (r ≥ 0) = decide (x ∈ xs.drop m) := by
  intro d
  induction d with
  | zero =>
    intro k m hd hk
    obtain ⟨k, rfl⟩ : ∃ q, k = q + 1 := ⟨k - 1, by omega⟩
    refine ⟨-1, ?_, ?_⟩
    · simp only [slices_Index_int_int.l0]
      rw [if_neg (by omega)]
    · rw [List.drop_of_length_le (by omega)]; simp
  | succ d ih =>
    intro k m hd hk
    obtain ⟨k, rfl⟩ : ∃ q, k = q + 1 := ⟨k - 1, by omega⟩
    obtain ⟨r, hr, h2⟩ := ih k (m + 1) (by omega) (by omega)
    simp only [slices_Index_int_int.l0]
    rw [if_pos (by omega), if_pos (by omega), if_pos (by omega), wn (n := xs.length) (by omega) hn, hr, drop_at xs m (by omega)]
    by_cases h : x = rd xs m
    · exact ⟨m, by rw [if_pos h], by simp [h]⟩
    · exact ⟨r, by rw [if_neg h], by rw [h2]; simp [h]⟩
theorem implSetHas_at (xs : List Int) (x : Int) (hn : xs.length ≤ 9223372036854775807) (k : Nat) (hk : xs.length < k) : impl_SetHas.f k xs x = some (decide (x ∈ xs)) := by
  obtain ⟨r, hr, h2⟩ := slIndex_l xs x hn xs.length k 0 (by omega) hk
  unfold impl_SetHas.f slices_Contains_int_int.f slices_Index_int_int.f
  rw [show ((0 : Nat) : Int) = 0 from rfl] at hr
  rw [hr]
  simp only [Option.bind_some, h2, List.drop_zero]
/-- How many two lists have in common. -/
theorem implCommon_at (xs ys : List Int) (hx : xs.length ≤ 1000000) (hy : ys.length ≤ 1000000) (k : Nat) (hk : xs.length + ys.length + 1 < k) :
    impl_Common.f k xs ys = some (inN xs ys : Int) := by
  have key : ∀ (d k m c : Nat), m + d = xs.length → c ≤ m → d + ys.length + 1 < k → impl_Common.l0 k ys (c : Int) xs (xs.length : Int) (m : Int) = some ((c + inN (xs.drop m) ys : Nat) : Int) := by
    intro d
    induction d with
    | zero =>
      intro k m c hd hc hk
      obtain ⟨k, rfl⟩ : ∃ q, k = q + 1 := ⟨k - 1, by omega⟩
      simp only [impl_Common.l0]
      rw [if_neg (by omega), List.drop_of_length_le (by omega)]
      rfl
    | succ d ih =>
      intro k m c hd hc hk
      obtain ⟨k, rfl⟩ : ∃ q, k = q + 1 := ⟨k - 1, by omega⟩
      have hdr : xs.drop m = rd xs (m : Int) :: xs.drop (m + 1) := by
        rw [List.drop_eq_getElem_cons (show m < xs.length by omega)]
        simp [rd, List.getD_eq_getElem?_getD, List.getElem?_eq_getElem (show m < xs.length by omega)]
      have w1 : wrap64 ((m : Int) + 1) = ((m + 1 : Nat) : Int) := wn (n := xs.length) (by omega) (by omega)
      have w2 : wrap64 ((c : Int) + 1) = ((c + 1 : Nat) : Int) := wn (n := xs.length) (by omega) (by omega)
      simp only [impl_Common.l0]
      rw [if_pos (by clear w1 w2; omega), if_pos (by clear w1 w2; omega), if_pos (by clear w1 w2; omega), implSetHas_at ys _ (by clear w1 w2; omega) k (by clear w1 w2; omega), Option.bind_some, w1, w2, hdr]
      clear w1 w2
      unfold inN
      by_cases h : rd xs (m : Int) ∈ ys
      · rw [if_pos (decide_eq_true h), List.filter_cons_of_pos (by simpa using h), ih k (m + 1) (c + 1) (by omega) (by omega) (by omega)]
        unfold inN
        simp only [List.length_cons]
        congr 2
        omega
      · rw [if_neg (by simpa using h), List.filter_cons_of_neg (by simpa using h), ih k (m + 1) c (by omega) (by omega) (by omega)]
        rfl
  unfold impl_Common.f
  have := key xs.length k 0 0 (by omega) (by omega) (by omega)
  simpa using this
/-- A text out of its bytes. -/
def mkS (l : List UInt8) : ByteArray := ⟨l.toArray⟩
theorem mkS_list (l : List UInt8) : (mkS l).data.toList = l := by simp [mkS]
theorem mkS_toList (l : List UInt8) : (mkS l).toList = l := by rw [Lib.toList_data, mkS_list]
theorem mkS_size (l : List UInt8) : (mkS l).size = l.length := by simp [mkS, ByteArray.size]
theorem mkS_of (s : ByteArray) : mkS s.data.toList = s := by
  obtain ⟨⟨l⟩⟩ := s
  rfl
theorem len_size (s : ByteArray) : s.data.toList.length = s.size := by
  obtain ⟨⟨l⟩⟩ := s
  rfl
theorem s_ext {s t : ByteArray} (h : s.data.toList = t.data.toList) : s = t := by rw [← mkS_of s, ← mkS_of t, h]
theorem bt_nat (s : ByteArray) (m : Nat) (h : m < s.size) : bt s (m : Int) = ((s.data.toList[m]'(by rw [len_size]; exact h)).toNat : Int) := by
  unfold bt
  rw [dif_pos (show ((m : Int)).toNat < s.size by simpa using h)]
  simp only [Int.toNat_natCast]
  rfl
theorem drop_byte (s : ByteArray) (m : Nat) (h : m < s.size) : ∃ b : UInt8, s.data.toList.drop m = b :: s.data.toList.drop (m + 1) ∧ bt s (m : Int) = (b.toNat : Int) :=
  ⟨s.data.toList[m]'(by rw [len_size]; exact h), List.drop_eq_getElem_cons (by rw [len_size]; exact h), bt_nat s m h⟩
theorem u8_inj {a b : UInt8} : (a.toNat : Int) = (b.toNat : Int) ↔ a = b := by
  constructor
  · intro h; exact UInt8.toNat_inj.1 (by omega)
  · rintro rfl; rfl
/-- A list cut at the first such byte. -/
def cutL (c : UInt8) : List UInt8 → Option (List UInt8 × List UInt8)
  | [] => none
  | b :: l => if b = c then some ([], l) else (cutL c l).map fun p => (b :: p.1, p.2)
theorem cutL_some {c : UInt8} : ∀ {l : List UInt8} {p : List UInt8 × List UInt8}, cutL c l = some p → l = p.1 ++ c :: p.2 ∧ c ∉ p.1
  | [], _, h => by simp [cutL] at h
  | b :: l, p, h => by
    unfold cutL at h
    by_cases hb : b = c
    · rw [if_pos hb] at h
      obtain rfl := Option.some.inj h
      exact ⟨by simp [hb], by simp⟩
    · rw [if_neg hb] at h
      obtain ⟨q, hq, rfl⟩ := Option.map_eq_some_iff.1 h
      obtain ⟨e, hn⟩ := cutL_some hq
      exact ⟨by simp [← e], by simp [hn, Ne.symm hb]⟩
theorem cutL_none {c : UInt8} : ∀ {l : List UInt8}, cutL c l = none → c ∉ l
  | [], _ => by simp
  | b :: l, h => by
    unfold cutL at h
    by_cases hb : b = c
    · rw [if_pos hb] at h; cases h
    · rw [if_neg hb, Option.map_eq_none_iff] at h
      simp [cutL_none h, Ne.symm hb]
theorem cutL_app {c : UInt8} {l r : List UInt8} (h : c ∉ l) : cutL c (l ++ c :: r) = some (l, r) := by
  induction l with
  | nil => simp [cutL]
  | cons b l ih =>
    have hb : ¬ b = c := fun e => h (by simp [e])
    simp only [List.cons_append]
    unfold cutL
    rw [if_neg hb, ih (fun hm => h (List.mem_cons_of_mem _ hm))]
    rfl
theorem indexByte_cut (c : UInt8) : ∀ l : List UInt8, match cutL c l with
    | some p => Lib.indexByte l c = (p.1.length : Int)
    | none => Lib.indexByte l c = -1
  | [] => rfl
  | b :: l => by
    have ih := indexByte_cut c l
    unfold cutL Lib.indexByte
    by_cases hb : b = c
    · simp [hb]
    · rw [if_neg hb, if_neg (by simpa using hb)]
      cases hc : cutL c l with
      | none => rw [hc] at ih; simp at ih; simp [ih]
      | some p =>
        rw [hc] at ih
        simp only [Option.map_some] at ih ⊢
        rw [ih, if_neg (by simp)]
        simp
theorem libcut (c : UInt8) (l : List UInt8) : Lib.cut l [c] = match cutL c l with
    | some p => (p.1, p.2, true)
    | none => (l, [], false) := by
  have h := indexByte_cut c l
  unfold Lib.cut
  rw [Lib.index_one]
  cases hc : cutL c l with
  | none => rw [hc] at h; simp only at h; simp [h]
  | some p =>
    rw [hc] at h
    simp only at h
    obtain ⟨e, _⟩ := cutL_some hc
    rw [h, if_pos (by omega)]
    simp only [Int.toNat_natCast, List.length_singleton, Prod.mk.injEq, and_true]
    constructor
    · rw [e]; simp
    · rw [e, show p.1 ++ c :: p.2 = (p.1 ++ [c]) ++ p.2 by simp, List.drop_left' (by simp)]
def cutI (s : ByteArray) (c : UInt8) : ByteArray × ByteArray × Bool := match cutL c s.data.toList with
  | some p => (mkS p.1, mkS p.2, true)
  | none => (s, mkS [], false)
def cutS (s : ByteArray) (c : UInt8) : ByteArray × ByteArray × Bool := match cutL c s.data.toList with
  | some p => (mkS p.1, mkS p.2, true)
  | none => (mkS [], mkS [], false)
theorem implCut_at (s : ByteArray) (c : UInt8) (hs : s.size < 4294967281) : strings_Cut.f s (⟨#[c]⟩ : ByteArray) = some (cutI s c) := by
  unfold strings_Cut.f cutI
  rw [if_pos hs, show (⟨#[c]⟩ : ByteArray).data.toList = [c] from rfl, libcut]
  cases cutL c s.data.toList with
  | some p => rfl
  | none => simp [mkS]
theorem specCut_at (s : ByteArray) (c : UInt8) (hs : s.size < 4294967281) (k : Nat) (hk : s.size < k) : spec_l2Cut.f k s (c.toNat : Int) = some (cutS s c) := by
  have key : ∀ (d k m : Nat), m + d = s.size → d < k → (∀ p, cutL c s.data.toList = some p → m ≤ p.1.length) → cutL c s.data.toList = (cutL c (s.data.toList.drop m)).map (fun p => (s.data.toList.take m ++ p.1, p.2)) →
      spec_l2Cut.l0 k s (c.toNat : Int) (m : Int) = some (cutS s c) := by
    intro d
    induction d with
    | zero =>
      intro k m hd hk hm he
      obtain ⟨k, rfl⟩ : ∃ q, k = q + 1 := ⟨k - 1, by omega⟩
      simp only [spec_l2Cut.l0]
      rw [if_neg (by omega)]
      rw [List.drop_of_length_le (by rw [len_size]; omega)] at he
      unfold cutS
      rw [he]
      rfl
    | succ d ih =>
      intro k m hd hk hm he
      obtain ⟨k, rfl⟩ : ∃ q, k = q + 1 := ⟨k - 1, by omega⟩
      obtain ⟨b, hb, hbt⟩ := drop_byte s m (by omega)
      have hw : wrap64 ((m : Int) + 1) = ((m + 1 : Nat) : Int) := wn (n := s.size) (by omega) (by omega)
      simp only [spec_l2Cut.l0]
      rw [if_pos (by omega), if_pos (by omega), hbt]
      rw [hb, show cutL c (b :: s.data.toList.drop (m + 1)) = if b = c then some ([], s.data.toList.drop (m + 1)) else (cutL c (s.data.toList.drop (m + 1))).map (fun p => (b :: p.1, p.2)) from rfl] at he
      by_cases hc : b = c
      · rw [if_pos (u8_inj.2 hc), if_pos (by omega), hw, if_pos (by omega), if_pos (by omega)]
        rw [if_pos hc] at he
        unfold cutS
        rw [he]
        simp only [Option.map_some, List.append_nil, Int.toNat_natCast]
        rw [Lib.extract_eq, Lib.extract_eq]
        simp only [mkS, List.drop_zero, Nat.sub_zero, Int.toNat_natCast]
        rw [List.take_of_length_le (l := s.data.toList.drop (m + 1)) (by rw [List.length_drop, len_size]; omega)]
      · rw [if_neg (fun e => hc (u8_inj.1 e)), hw]
        rw [if_neg hc] at he
        have hl : m < s.data.toList.length := by rw [len_size]; omega
        have hg : b = s.data.toList[m] := by
          have := List.drop_eq_getElem_cons hl
          rw [hb] at this
          exact (List.cons.inj this).1
        refine ih k (m + 1) (by omega) (by omega) ?_ ?_
        · intro p hp
          rw [he] at hp
          obtain ⟨q, hq, rfl⟩ := Option.map_eq_some_iff.1 hp
          obtain ⟨q', _, rfl⟩ := Option.map_eq_some_iff.1 hq
          simp [len_size]; omega
        · rw [he, Option.map_map]
          congr 1
          funext p
          simp only [Function.comp, Prod.mk.injEq, and_true]
          rw [List.take_succ_eq_append_getElem hl, hg]
          simp
  have h0 := key s.size k 0 (by omega) hk (fun p _ => Nat.zero_le _) (by simp)
  unfold spec_l2Cut.f
  exact h0
/-- A list parted at each such byte. -/
def splitL (c : UInt8) : List UInt8 → List (List UInt8)
  | [] => [[]]
  | b :: l => if b = c then [] :: splitL c l else match splitL c l with
    | [] => [[b]]
    | h :: t => (b :: h) :: t
/-- What stands ahead is put ahead of the first part. -/
def glue (p : List UInt8) : List (List UInt8) → List (List UInt8)
  | [] => [p]
  | h :: t => (p ++ h) :: t
theorem splitL_ne (c : UInt8) : ∀ l, ∃ h t, splitL c l = h :: t
  | [] => ⟨[], [], rfl⟩
  | b :: l => by
    obtain ⟨h, t, e⟩ := splitL_ne c l
    unfold splitL
    by_cases hb : b = c
    · rw [if_pos hb]; exact ⟨_, _, rfl⟩
    · rw [if_neg hb, e]; exact ⟨_, _, rfl⟩
theorem splitL_eq (c : UInt8) (l : List UInt8) : splitL c (c :: l) = [] :: splitL c l := by rw [splitL, if_pos rfl]
theorem splitL_cons {b c : UInt8} (h : ¬ b = c) (l : List UInt8) : splitL c (b :: l) = glue [b] (splitL c l) := by
  obtain ⟨x, t, e⟩ := splitL_ne c l
  rw [splitL, if_neg h, e]
  rfl
theorem glue_nil {c : UInt8} {l : List UInt8} : glue [] (splitL c l) = splitL c l := by
  obtain ⟨x, t, e⟩ := splitL_ne c l
  rw [e]; rfl
theorem glue_glue (p q : List UInt8) {c : UInt8} {l : List UInt8} : glue p (glue q (splitL c l)) = glue (p ++ q) (splitL c l) := by
  obtain ⟨x, t, e⟩ := splitL_ne c l
  rw [e]; simp [glue]
theorem splitL_length (c : UInt8) : ∀ l : List UInt8, (splitL c l).length ≤ l.length + 1
  | [] => by simp [splitL]
  | b :: l => by
    have ih := splitL_length c l
    by_cases h : b = c
    · subst h; rw [splitL_eq]; simp; omega
    · obtain ⟨x, t, e⟩ := splitL_ne c l
      rw [splitL_cons h, e]
      rw [e] at ih
      simp [glue] at ih ⊢; omega
theorem splitL_part (c : UInt8) : ∀ (l : List UInt8) (p : List UInt8), p ∈ splitL c l → p.length ≤ l.length
  | [], p, h => by simp [splitL] at h; simp [h]
  | b :: l, p, h => by
    have ih := splitL_part c l
    by_cases hb : b = c
    · subst hb
      rw [splitL_eq] at h
      rcases List.mem_cons.1 h with rfl | h
      · simp
      · have := ih p h; simp; omega
    · obtain ⟨x, t, e⟩ := splitL_ne c l
      rw [splitL_cons hb, e] at h
      rcases List.mem_cons.1 h with rfl | h
      · have := ih x (by rw [e]; simp); simp; omega
      · have := ih p (by rw [e]; simp [h]); simp; omega
theorem splitL_cut (c : UInt8) : ∀ l : List UInt8, splitL c l = match cutL c l with
    | some p => p.1 :: splitL c p.2
    | none => [l]
  | [] => rfl
  | b :: l => by
    have ih := splitL_cut c l
    by_cases h : b = c
    · subst h; rw [splitL_eq]; simp [cutL]
    · rw [splitL_cons h, ih, show cutL c (b :: l) = (cutL c l).map (fun p => (b :: p.1, p.2)) by rw [cutL, if_neg h]]
      cases cutL c l <;> simp [glue]
def splitA (c : UInt8) (s : ByteArray) : List ByteArray := (splitL c s.data.toList).map mkS
theorem indexB_cut (c : UInt8) (s : ByteArray) : match cutL c s.data.toList with
    | some p => Lib.indexB s (⟨#[c]⟩ : ByteArray) = ((p.1.length : Nat) : Int)
    | none => Lib.indexB s (⟨#[c]⟩ : ByteArray) = -1 := by
  have h := indexByte_cut c s.data.toList
  show match cutL c s.data.toList with
    | some p => Lib.index s.data.toList [c] = ((p.1.length : Nat) : Int)
    | none => Lib.index s.data.toList [c] = -1
  rw [Lib.index_one]
  exact h
theorem libsplit (c : UInt8) : ∀ (n : Nat) (s : ByteArray), s.size ≤ n → Lib.splitB (⟨#[c]⟩ : ByteArray) 0 (Lib.countB s (⟨#[c]⟩ : ByteArray)) s = splitA c s := by
  intro n
  induction n with
  | zero =>
    intro s hs
    have h := indexB_cut c s
    have h0 : s.data.toList = [] := by apply List.eq_nil_of_length_eq_zero; rw [len_size]; omega
    rw [h0] at h
    simp only [cutL] at h
    rw [Lib.countB_miss s _ h, Lib.splitB_zero]
    unfold splitA
    rw [h0]
    simp only [splitL, List.map_cons, List.map_nil]
    rw [← h0, mkS_of]
  | succ n ih =>
    intro s hs
    have h := indexB_cut c s
    cases hc : cutL c s.data.toList with
    | none =>
      rw [hc] at h
      simp only at h
      rw [Lib.countB_miss s _ h, Lib.splitB_zero]
      unfold splitA
      rw [splitL_cut, hc]
      simp only [List.map_cons, List.map_nil]
      rw [mkS_of]
    | some p =>
      rw [hc] at h
      simp only at h
      obtain ⟨e, _⟩ := cutL_some hc
      have hsz : (⟨#[c]⟩ : ByteArray).size = 1 := rfl
      rw [Lib.countB_hit s _ p.1.length (by rw [hsz]; omega) h, Nat.add_comm 1, Lib.splitB_hit _ 0 _ s p.1.length h, hsz]
      have hl : s.size = p.1.length + 1 + p.2.length := by rw [← len_size, e]; simp; omega
      have e1 : s.extract 0 (p.1.length + 0) = mkS p.1 := s_ext (by rw [Lib.extract_data, mkS_list, e]; simp)
      have e2 : s.extract (p.1.length + 1) s.size = mkS p.2 := s_ext (by
        rw [Lib.extract_data, mkS_list, e, show p.1 ++ c :: p.2 = (p.1 ++ [c]) ++ p.2 by simp, List.drop_left' (by simp), List.take_of_length_le (by omega)])
      rw [e1, e2, ih (mkS p.2) (by rw [mkS_size]; omega)]
      unfold splitA
      rw [splitL_cut c s.data.toList, hc, mkS_list]
      rfl
theorem implSplit_at (s : ByteArray) (c : UInt8) (hs : s.size < 4294967281) : impl_Split.f s (c.toNat : Int) = some (splitA c s) := by
  have hc : strOfNums ([(c.toNat : Int)] : List Int) = (⟨#[c]⟩ : ByteArray) := by
    apply s_ext
    rw [strOfNums_data]
    simp
  unfold impl_Split.f strings_Split.f
  rw [hc, if_pos hs, if_pos (show 1 ≤ (⟨#[c]⟩ : ByteArray).size from Nat.le_refl 1), libsplit c s.size s (Nat.le_refl _)]
  rfl
theorem specSplit_at (s : ByteArray) (c : UInt8) (hs : s.size < 4294967281) (k : Nat) (hk : s.size + 2 < k) : spec_Split.f k s (c.toNat : Int) = some (splitA c s) := by
  have key : ∀ (d k m f : Nat) (out : List ByteArray), m + d = s.size → d + 2 < k → f ≤ m → out.length + d + 1 < 8796093022208 →
      spec_Split.l0 k s (c.toNat : Int) out (f : Int) (m : Int) = some (out ++ (glue ((s.data.toList.drop f).take (m - f)) (splitL c (s.data.toList.drop m))).map mkS) := by
    intro d
    induction d with
    | zero =>
      intro k m f out hd hk hf ho
      obtain ⟨k, rfl⟩ : ∃ q, k = q + 2 := ⟨k - 2, by omega⟩
      have hw : wrap64 ((m : Int) + 1) = ((m + 1 : Nat) : Int) := wn (n := m + 1) (by omega) (by omega)
      simp only [spec_Split.l0]
      rw [if_pos (show (m : Int) ≤ (s.size : Int) by omega), if_pos (show (m : Int) = (s.size : Int) by omega), if_pos (by omega), if_pos (by omega), if_pos (by omega), hw, if_neg (by omega)]
      rw [List.drop_of_length_le (i := m) (by rw [len_size]; omega)]
      simp only [splitL, glue, List.append_nil, List.map_cons, List.map_nil, Int.toNat_natCast]
      rw [Lib.extract_eq]
      rfl
    | succ d ih =>
      intro k m f out hd hk hf ho
      obtain ⟨k, rfl⟩ : ∃ q, k = q + 1 := ⟨k - 1, by omega⟩
      obtain ⟨b, hb, hbt⟩ := drop_byte s m (by omega)
      have hw : wrap64 ((m : Int) + 1) = ((m + 1 : Nat) : Int) := wn (n := s.size) (by omega) (by omega)
      have hl : m < s.data.toList.length := by rw [len_size]; omega
      have hg : s.data.toList[m] = b := by
        have := List.drop_eq_getElem_cons hl
        rw [hb] at this
        exact (List.cons.inj this).1.symm
      simp only [spec_Split.l0]
      rw [if_pos (show (m : Int) ≤ (s.size : Int) by omega), if_neg (show ¬ (m : Int) = (s.size : Int) by omega), if_pos (by omega), if_pos (by omega), hbt, hb]
      by_cases hc : b = c
      · subst hc
        rw [if_pos rfl, if_pos (by omega), if_pos (by omega), if_pos (by omega), hw, ih k (m + 1) (m + 1) _ (by omega) (by omega) (Nat.le_refl _) (by simp; omega), splitL_eq, Nat.sub_self, List.take_zero, glue_nil]
        simp only [glue, List.append_nil, List.map_cons, Int.toNat_natCast]
        rw [Lib.extract_eq]
        simp [mkS]
      · rw [if_neg (fun e => hc (u8_inj.1 e)), hw, ih k (m + 1) f _ (by omega) (by omega) (by omega) (by omega), splitL_cons hc, glue_glue]
        congr 4
        rw [show m + 1 - f = (m - f) + 1 by omega, List.take_succ_eq_append_getElem (by rw [List.length_drop]; omega), List.getElem_drop]
        congr 2
        rw [← hg]
        congr 1
        omega
  have h0 := key s.size k 0 0 [] (by omega) (by omega) (Nat.le_refl _) (by simp; omega)
  unfold spec_Split.f splitA
  simp only [Nat.sub_self, List.take_zero, List.drop_zero, glue_nil, List.nil_append] at h0
  exact h0
/-- A number's numeral. -/
def digS (n : Nat) : ByteArray := mkS (Lib.decDigits n)
theorem dig_isDigit (n : Nat) : ∀ b ∈ Lib.decDigits n, 48 ≤ b.toNat ∧ b.toNat ≤ 57 := by
  induction n using Nat.strongRecOn with
  | _ n ih =>
    intro b hb
    rw [Lib.decDigits] at hb
    by_cases h : n < 10
    · rw [dif_pos h] at hb
      obtain rfl := List.mem_singleton.1 hb
      rw [UInt8.toNat_ofNat']
      omega
    · rw [dif_neg h] at hb
      rcases List.mem_append.1 hb with hb | hb
      · exact ih (n / 10) (by omega) b hb
      · obtain rfl := List.mem_singleton.1 hb
        rw [UInt8.toNat_ofNat']
        omega
theorem dig_ne (n : Nat) (c : UInt8) (h : c.toNat < 48 ∨ 57 < c.toNat) : c ∉ Lib.decDigits n := fun hm => by
  have := dig_isDigit n c hm
  omega
theorem dig_len (j : Nat) : ∀ n, n < 10 ^ (j + 1) → (Lib.decDigits n).length ≤ j + 1 := by
  induction j with
  | zero => intro n h; rw [Lib.decDigits_one (by omega)]; simp
  | succ j ih =>
    intro n h
    rw [Lib.decDigits]
    by_cases h1 : n < 10
    · rw [dif_pos h1]; simp
    · rw [dif_neg h1]
      have := ih (n / 10) (by rw [Nat.pow_succ] at h; omega)
      simp only [List.length_append, List.length_singleton]; omega
theorem dig_pos (n : Nat) : 0 < (Lib.decDigits n).length := by
  rw [Lib.decDigits]
  split <;> simp
theorem implDigits_at (n : Nat) (h : n ≤ 9223372036854775807) : impl_Digits.f (n : Int) = some (digS n) := by
  unfold impl_Digits.f strconv_Itoa_76.f digS
  rw [if_pos (by omega), if_pos (by omega), Option.bind_some]
  unfold Lib.itoa
  rw [if_neg (by omega)]
  rfl
theorem specDigits_l : ∀ (j n k : Nat) (acc : ByteArray), n < 10 ^ j → n ≤ 9223372036854775807 → j < k → acc.size + j ≤ 1000 →
    spec_Digits.l0 k (n : Int) false acc = some (mkS ((if n = 0 then [] else Lib.decDigits n) ++ acc.data.toList)) := by
  intro j
  induction j with
  | zero =>
    intro n k acc h hn hk ha
    obtain ⟨k, rfl⟩ : ∃ q, k = q + 1 := ⟨k - 1, by omega⟩
    obtain rfl : n = 0 := by simpa using h
    simp only [spec_Digits.l0]
    simp [mkS_of]
  | succ j ih =>
    intro n k acc h hn hk ha
    obtain ⟨k, rfl⟩ : ∃ q, k = q + 1 := ⟨k - 1, by omega⟩
    simp only [spec_Digits.l0]
    by_cases h0 : n = 0
    · subst h0; simp [mkS_of]
    · have hm : Int.tmod (n : Int) 10 = ((n % 10 : Nat) : Int) := by rw [Int.tmod_eq_emod_of_nonneg (by omega)]; omega
      have hd : wrap64 (Int.tdiv (n : Int) 10) = ((n / 10 : Nat) : Int) := by
        rw [Int.tdiv_eq_ediv_of_nonneg (by omega)]
        unfold wrap64; omega
      have hw : wrap64 (48 + ((n % 10 : Nat) : Int)) % 256 = ((48 + n % 10 : Nat) : Int) := by unfold wrap64; omega
      rw [if_neg (by omega), hm, if_neg (by omega), Option.bind_some, hw, hd]
      have hs : (strOfNums [((48 + n % 10 : Nat) : Int)]).size = 1 := by rw [strOfNums_size]; rfl
      rw [if_pos (by rw [hs]; omega), ih (n / 10) k _ (by rw [Nat.pow_succ] at h; omega) (by omega) (by omega) (by rw [ByteArray.size_append, hs]; omega)]
      congr 2
      rw [if_neg h0]
      simp only [ByteArray.data_append, Array.toList_append, strOfNums_data, List.map_cons, List.map_nil, Int.toNat_natCast]
      by_cases h1 : n < 10
      · rw [if_pos (by omega), Lib.decDigits_one h1, Nat.mod_eq_of_lt h1]
        rfl
      · have e : Lib.decDigits n = Lib.decDigits (n / 10) ++ [UInt8.ofNat (48 + n % 10)] := by rw [Lib.decDigits, dif_neg h1]
        rw [if_neg (by omega), e]
        simp
theorem specDigits_at (n : Nat) (h : n < 10 ^ 20) (h' : n ≤ 9223372036854775807) (k : Nat) (hk : 20 < k) : spec_Digits.f k (n : Int) = some (digS n) := by
  unfold spec_Digits.f digS
  by_cases h0 : n = 0
  · subst h0
    rw [if_pos (show ((0 : Nat) : Int) = 0 from rfl), Lib.decDigits_one (by omega)]
    rfl
  · rw [if_neg (by omega), show decide ((n : Int) < 0) = false by simp, specDigits_l 20 n k _ h h' hk (by decide), if_neg h0]
    congr 2
    show Lib.decDigits n ++ [] = _
    simp
theorem num_w1 (n b : Int) (h0 : 0 ≤ n) (h1 : n < 1000000) (hb : 48 ≤ b) (hb2 : b ≤ 255) : wrap64 (wrap64 (wrap64 (10 * n) + wrap64 b) - 48) = 10 * n + (b - 48) := by
  have w1 : wrap64 (10 * n) = 10 * n := by unfold wrap64; omega
  have w2 : wrap64 b = b := by unfold wrap64; omega
  rw [w1, w2]
  have w3 : wrap64 (10 * n + b) = 10 * n + b := by unfold wrap64; omega
  rw [w3]
  unfold wrap64; omega
theorem num_w2 (n b : Int) (h0 : 0 ≤ n) (h1 : n < 1000000) (hb : 48 ≤ b) (hb2 : b ≤ 255) : wrap64 (wrap64 (10 * n) + (b - 48) % 256) = 10 * n + (b - 48) := by
  have w1 : wrap64 (10 * n) = 10 * n := by unfold wrap64; omega
  have w2 : (b - 48) % 256 = b - 48 := by omega
  rw [w1, w2]
  unfold wrap64; omega
/-- What both sides of Number tell. -/
theorem number_l (s : ByteArray) (h6 : s.size ≤ 6) : ∀ (d k m n : Nat), m + d = s.size → d + 25 < k → n < 10 ^ m →
    ∃ r : Int × Bool, spec_Number.l0 k s (n : Int) (m : Int) = some r ∧ impl_Number.l0 k s (n : Int) (m : Int) = some r ∧ ∃ q : Nat, r.1 = (q : Int) ∧ q < 1000000 ∧ (r.2 = true → s = digS q) := by
  intro d
  induction d with
  | zero =>
    intro k m n hd hk hn
    obtain ⟨k, rfl⟩ : ∃ q, k = q + 1 := ⟨k - 1, by omega⟩
    have hp : 10 ^ m ≤ 10 ^ 6 := Nat.pow_le_pow_right (by omega) (by omega)
    have hn6 : n < 1000000 := by omega
    have hs : spec_Number.l0 (k + 1) s (n : Int) (m : Int) = if (digS n).toList = s.toList then some ((n : Int), true) else some (0, false) := by
      simp only [spec_Number.l0]
      rw [if_neg (by omega), specDigits_at n (by omega) (by omega) k (by omega), Option.bind_some]
    have hi : impl_Number.l0 (k + 1) s (n : Int) (m : Int) = if (digS n).toList = s.toList then some ((n : Int), true) else some (0, false) := by
      simp only [impl_Number.l0]
      rw [if_neg (by omega), implDigits_at n (by omega), Option.bind_some]
    rw [hs, hi]
    by_cases h : (digS n).toList = s.toList
    · rw [if_pos h]
      refine ⟨_, rfl, rfl, n, rfl, hn6, fun _ => ?_⟩
      rw [Lib.toList_data, Lib.toList_data] at h
      exact (s_ext h).symm
    · rw [if_neg h]
      exact ⟨_, rfl, rfl, 0, rfl, by omega, fun e => by cases e⟩
  | succ d ih =>
    intro k m n hd hk hn
    obtain ⟨k, rfl⟩ : ∃ q, k = q + 1 := ⟨k - 1, by omega⟩
    have hp : 10 ^ m ≤ 10 ^ 6 := Nat.pow_le_pow_right (by omega) (by omega)
    have hn6 : (n : Int) < 1000000 := by omega
    obtain ⟨b, hb, hbt⟩ := drop_byte s m (by omega)
    have hw : wrap64 ((m : Int) + 1) = ((m + 1 : Nat) : Int) := wn (n := s.size) (by omega) (by omega)
    have hs : spec_Number.l0 (k + 1) s (n : Int) (m : Int) = if (b.toNat : Int) < 48 then some (0, false) else if (b.toNat : Int) > 57 then some (0, false) else spec_Number.l0 k s ((10 * n + (b.toNat - 48) : Nat) : Int) ((m + 1 : Nat) : Int) := by
      simp only [spec_Number.l0]
      rw [if_pos (by omega), if_pos (by omega), hbt, hw]
      by_cases h1 : (b.toNat : Int) < 48
      · rw [if_pos h1, if_pos h1]
      · have e1 : wrap64 (wrap64 (wrap64 (10 * (n : Int)) + wrap64 (b.toNat : Int)) - 48) = ((10 * n + (b.toNat - 48) : Nat) : Int) := by
          have := b.toNat_lt
          rw [num_w1 n b.toNat (by omega) hn6 (by omega) (by omega)]; omega
        rw [if_neg h1, if_neg h1, e1]
    have hi : impl_Number.l0 (k + 1) s (n : Int) (m : Int) = if (b.toNat : Int) < 48 then some (0, false) else if (b.toNat : Int) > 57 then some (0, false) else impl_Number.l0 k s ((10 * n + (b.toNat - 48) : Nat) : Int) ((m + 1 : Nat) : Int) := by
      simp only [impl_Number.l0]
      rw [if_pos (by omega), if_pos (by omega), hbt, hw]
      by_cases h1 : (b.toNat : Int) < 48
      · rw [if_pos h1, if_pos h1]
      · have e2 : wrap64 (wrap64 (10 * (n : Int)) + ((b.toNat : Int) - 48) % 256) = ((10 * n + (b.toNat - 48) : Nat) : Int) := by
          have := b.toNat_lt
          rw [num_w2 n b.toNat (by omega) hn6 (by omega) (by omega)]; omega
        rw [if_neg h1, if_neg h1, e2]
    rw [hs, hi]
    by_cases h1 : (b.toNat : Int) < 48
    · exact ⟨(0, false), by rw [if_pos h1], by rw [if_pos h1], 0, rfl, by omega, fun e => by cases e⟩
    · by_cases h2 : (b.toNat : Int) > 57
      · exact ⟨(0, false), by rw [if_neg h1, if_pos h2], by rw [if_neg h1, if_pos h2], 0, rfl, by omega, fun e => by cases e⟩
      · simp only [h1, h2, if_false]
        exact ih k (m + 1) _ (by omega) (by omega) (by rw [Nat.pow_succ]; omega)
theorem number_at (s : ByteArray) (k : Nat) (hk : 40 < k) : ∃ r : Int × Bool, spec_Number.f k s = some r ∧ impl_Number.f k s = some r ∧ ∃ q : Nat, r.1 = (q : Int) ∧ q < 1000000 ∧ (r.2 = true → s = digS q) := by
  unfold spec_Number.f impl_Number.f
  obtain ⟨k, rfl⟩ : ∃ q, k = q + 1 := ⟨k - 1, by omega⟩
  by_cases h1 : (s.size : Int) < 1
  · refine ⟨(0, false), ?_, ?_, 0, rfl, by omega, fun e => by cases e⟩
    · rw [if_pos h1]; simp [spec_Number.j0]
    · rw [if_pos h1]; simp [impl_Number.j0]
  · by_cases h2 : (s.size : Int) > 6
    · refine ⟨(0, false), ?_, ?_, 0, rfl, by omega, fun e => by cases e⟩
      · rw [if_neg h1]; simp only [spec_Number.j0]; rw [if_pos (decide_eq_true h2)]
      · rw [if_neg h1]; simp only [impl_Number.j0]; rw [if_pos (decide_eq_true h2)]
    · obtain ⟨r, e1, e2, e3⟩ := number_l s (by omega) s.size k 0 0 (by omega) (by omega) (by omega)
      refine ⟨r, ?_, ?_, e3⟩
      · rw [if_neg h1]; simp only [spec_Number.j0]; rw [if_neg (by simpa using h2)]; exact e1
      · rw [if_neg h1]; simp only [impl_Number.j0]; rw [if_neg (by simpa using h2)]; exact e2
def txB (a b c d : Nat) : Bool := decide ((a : Int) ≤ 3 ∧ (b : Int) ≤ 3 ∧ (c : Int) ≤ 1000 ∧ (d : Int) ≤ 99)
def txL (a b c d : Nat) : List UInt8 := Lib.decDigits a ++ 62 :: (Lib.decDigits b ++ 58 :: (Lib.decDigits c ++ 35 :: Lib.decDigits d))
theorem implTxOk_at (a b c d : Nat) : impl_TxOk.f (a : Int) (b : Int) (c : Int) (d : Int) = some (txB a b c d) := by
  unfold impl_TxOk.f impl_within.f txB
  rw [if_pos (by omega), if_pos (by omega), if_pos (by omega), if_pos (by omega)]
  by_cases h1 : (a : Int) ≤ 3 <;> by_cases h2 : (b : Int) ≤ 3 <;> by_cases h3 : (c : Int) ≤ 1000 <;> by_cases h4 : (d : Int) ≤ 99 <;> simp [h1, h2, h3, h4]
theorem specTxOk_at (a b c d : Nat) : spec_TxOk.f (a : Int) (b : Int) (c : Int) (d : Int) = some (txB a b c d) := implTxOk_at a b c d
theorem digS_size (n : Nat) (h : n < 1000000) : (digS n).size ≤ 6 := by
  unfold digS
  rw [mkS_size]
  exact dig_len 5 n h
theorem tx_join (a b c d : Nat) : ((((((digS a ++ (⟨#[62]⟩ : ByteArray)) ++ digS b) ++ (⟨#[58]⟩ : ByteArray)) ++ digS c) ++ (⟨#[35]⟩ : ByteArray)) ++ digS d) = mkS (txL a b c d) := by
  apply s_ext
  simp only [ByteArray.data_append, Array.toList_append, mkS_list, digS, txL]
  simp
theorem implTxText_at (a b c d : Nat) (ha : a < 1000000) (hb : b < 1000000) (hc : c < 1000000) (hd : d < 1000000) :
    impl_TxText.f (a : Int) (b : Int) (c : Int) (d : Int) = some (if txB a b c d = true then mkS (txL a b c d) else mkS []) := by
  have s1 := digS_size a ha
  have s2 := digS_size b hb
  have s3 := digS_size c hc
  have s4 := digS_size d hd
  have o1 : (⟨#[62]⟩ : ByteArray).size = 1 := rfl
  have o2 : (⟨#[58]⟩ : ByteArray).size = 1 := rfl
  have o3 : (⟨#[35]⟩ : ByteArray).size = 1 := rfl
  unfold impl_TxText.f
  rw [implTxOk_at, Option.bind_some]
  by_cases h : txB a b c d = true
  · rw [if_pos h, if_pos h, implDigits_at a (by omega), Option.bind_some, if_pos (by omega), implDigits_at b (by omega), Option.bind_some, if_pos (by simp only [ByteArray.size_append]; omega), if_pos (by simp only [ByteArray.size_append]; omega),
      implDigits_at c (by omega), Option.bind_some, if_pos (by simp only [ByteArray.size_append]; omega), if_pos (by simp only [ByteArray.size_append]; omega), implDigits_at d (by omega), Option.bind_some, if_pos (by simp only [ByteArray.size_append]; omega), tx_join]
  · rw [if_neg h, if_neg h]; rfl
theorem specTxText_at (a b c d : Nat) (ha : a < 1000000) (hb : b < 1000000) (hc : c < 1000000) (hd : d < 1000000) (k : Nat) (hk : 20 < k) :
    spec_TxText.f k (a : Int) (b : Int) (c : Int) (d : Int) = some (if txB a b c d = true then mkS (txL a b c d) else mkS []) := by
  have s1 := digS_size a ha
  have s2 := digS_size b hb
  have s3 := digS_size c hc
  have s4 := digS_size d hd
  have o1 : (⟨#[62]⟩ : ByteArray).size = 1 := rfl
  have o2 : (⟨#[58]⟩ : ByteArray).size = 1 := rfl
  have o3 : (⟨#[35]⟩ : ByteArray).size = 1 := rfl
  have p : (1000000 : Nat) ≤ 10 ^ 20 := by decide
  unfold spec_TxText.f
  rw [specTxOk_at, Option.bind_some]
  by_cases h : txB a b c d = true
  · rw [if_pos h, if_pos h, specDigits_at a (by omega) (by omega) k hk, Option.bind_some, if_pos (by omega), specDigits_at b (by omega) (by omega) k hk, Option.bind_some, if_pos (by simp only [ByteArray.size_append]; omega), if_pos (by simp only [ByteArray.size_append]; omega),
      specDigits_at c (by omega) (by omega) k hk, Option.bind_some, if_pos (by simp only [ByteArray.size_append]; omega), if_pos (by simp only [ByteArray.size_append]; omega), specDigits_at d (by omega) (by omega) k hk, Option.bind_some, if_pos (by simp only [ByteArray.size_append]; omega), tx_join]
  · rw [if_neg h, if_neg h]; rfl
/-- What is told of a text and four numbers. -/
def tell (s : ByteArray) (a b c d : Nat) : Int × Int × Int × Int × Bool := if txB a b c d = true ∧ txL a b c d = s.data.toList then ((a : Int), (b : Int), (c : Int), (d : Int), true) else (0, 0, 0, 0, false)
theorem tell_eq (s : ByteArray) (a b c d : Nat) (h : mkS (txL a b c d) = s) : txL a b c d = s.data.toList := by rw [← h, mkS_list]
theorem txL_chain (a b c d : Nat) : cutL 62 (txL a b c d) = some (Lib.decDigits a, Lib.decDigits b ++ 58 :: (Lib.decDigits c ++ 35 :: Lib.decDigits d)) ∧
    cutL 58 (Lib.decDigits b ++ 58 :: (Lib.decDigits c ++ 35 :: Lib.decDigits d)) = some (Lib.decDigits b, Lib.decDigits c ++ 35 :: Lib.decDigits d) ∧ cutL 35 (Lib.decDigits c ++ 35 :: Lib.decDigits d) = some (Lib.decDigits c, Lib.decDigits d) :=
  ⟨cutL_app (dig_ne a 62 (by decide)), cutL_app (dig_ne b 58 (by decide)), cutL_app (dig_ne c 35 (by decide))⟩
theorem implTxOf_core (s x1 x2 x3 y1 y2 y3 : ByteArray) (b1 b2 b3 : Bool) (k : Nat) (hk : 40 < k) (h1 : strings_Cut.f s (⟨#[62]⟩ : ByteArray) = some (x1, y1, b1)) (h2 : strings_Cut.f y1 (⟨#[58]⟩ : ByteArray) = some (x2, y2, b2)) (h3 : strings_Cut.f y2 (⟨#[35]⟩ : ByteArray) = some (x3, y3, b3))
    (a b c d : Nat) (ha : a < 1000000) (hb : b < 1000000) (hc : c < 1000000) (hd : d < 1000000) (m1 m2 m3 m4 : Bool)
    (n1 : impl_Number.f k x1 = some ((a : Int), m1)) (n2 : impl_Number.f k x2 = some ((b : Int), m2)) (n3 : impl_Number.f k x3 = some ((c : Int), m3)) (n4 : impl_Number.f k y3 = some ((d : Int), m4)) : impl_TxOf.f k s = some (tell s a b c d) := by
  unfold impl_TxOf.f tell
  rw [h1, Option.bind_some]; dsimp only
  rw [h2, Option.bind_some]; dsimp only
  rw [h3, Option.bind_some]; dsimp only
  rw [n1, Option.bind_some, n2, Option.bind_some, n3, Option.bind_some, n4, Option.bind_some]; dsimp only
  rw [implTxOk_at, Option.bind_some, implTxText_at a b c d ha hb hc hd]
  by_cases h : txB a b c d = true
  · rw [if_pos h, Option.bind_some, if_pos h, mkS_toList, Lib.toList_data]
    by_cases e : txL a b c d = s.data.toList
    · rw [if_pos e, if_pos ⟨h, e⟩]
    · rw [if_neg e, if_neg (fun x => e x.2)]
  · rw [if_neg h, if_neg (fun x => h x.1)]
theorem specTxOf_core (s x1 x2 x3 y1 y2 y3 : ByteArray) (b1 b2 b3 : Bool) (k : Nat) (hk : 40 < k) (h1 : spec_l2Cut.f k s 62 = some (x1, y1, b1)) (h2 : spec_l2Cut.f k y1 58 = some (x2, y2, b2)) (h3 : spec_l2Cut.f k y2 35 = some (x3, y3, b3))
    (a b c d : Nat) (ha : a < 1000000) (hb : b < 1000000) (hc : c < 1000000) (hd : d < 1000000) (m1 m2 m3 m4 : Bool)
    (n1 : spec_Number.f k x1 = some ((a : Int), m1)) (n2 : spec_Number.f k x2 = some ((b : Int), m2)) (n3 : spec_Number.f k x3 = some ((c : Int), m3)) (n4 : spec_Number.f k y3 = some ((d : Int), m4)) : spec_TxOf.f k s = some (tell s a b c d) := by
  unfold spec_TxOf.f tell
  rw [h1, Option.bind_some]; dsimp only
  rw [h2, Option.bind_some]; dsimp only
  rw [h3, Option.bind_some]; dsimp only
  rw [n1, Option.bind_some, n2, Option.bind_some, n3, Option.bind_some, n4, Option.bind_some]; dsimp only
  rw [specTxText_at a b c d ha hb hc hd k (by omega), Lib.toList_data]
  by_cases e0 : s.data.toList = []
  · rw [if_pos e0, if_neg]
    rintro ⟨_, x⟩
    rw [e0] at x
    have := dig_pos a
    simp [txL] at x
  · rw [if_neg e0, Option.bind_some]
    by_cases h : txB a b c d = true
    · rw [if_pos h, mkS_toList]
      by_cases e : txL a b c d = s.data.toList
      · rw [if_pos e, if_pos ⟨h, e⟩]
      · rw [if_neg e, if_neg (fun x => e x.2)]
    · rw [if_neg h, mkS_toList, if_neg (fun x => e0 x.symm), if_neg (fun x => h x.1)]
theorem num_of (x : ByteArray) (k : Nat) (hk : 40 < k) : ∃ (a : Nat) (m : Bool), a < 1000000 ∧ spec_Number.f k x = some ((a : Int), m) ∧ impl_Number.f k x = some ((a : Int), m) := by
  obtain ⟨⟨r, m⟩, e1, e2, q, rfl, hq, _⟩ := number_at x k hk
  exact ⟨q, m, hq, e1, e2⟩
/-- A text that lacks one of the three signs, in their order, is no payment's. -/
theorem tell_none (s : ByteArray) (h : ∀ p1 p2 p3, cutL 62 s.data.toList = some p1 → cutL 58 p1.2 = some p2 → cutL 35 p2.2 = some p3 → False) (a b c d : Nat) : tell s a b c d = (0, 0, 0, 0, false) := by
  unfold tell
  rw [if_neg]
  rintro ⟨_, e⟩
  obtain ⟨c1, c2, c3⟩ := txL_chain a b c d
  rw [e] at c1
  exact h _ _ _ c1 c2 c3
theorem txOf_at (s : ByteArray) (hs : s.size < 4294967281) (k : Nat) (hk : s.size + 41 < k) : ∃ r, spec_TxOf.f k s = some r ∧ impl_TxOf.f k s = some r := by
  have both : ∀ (x1 x2 x3 y1 y2 y3 x1' x2' x3' y1' y2' y3' : ByteArray) (b1 b2 b3 b1' b2' b3' : Bool),
      spec_l2Cut.f k s 62 = some (x1, y1, b1) → spec_l2Cut.f k y1 58 = some (x2, y2, b2) → spec_l2Cut.f k y2 35 = some (x3, y3, b3) →
      strings_Cut.f s (⟨#[62]⟩ : ByteArray) = some (x1', y1', b1') → strings_Cut.f y1' (⟨#[58]⟩ : ByteArray) = some (x2', y2', b2') → strings_Cut.f y2' (⟨#[35]⟩ : ByteArray) = some (x3', y3', b3') →
      ((∀ a b c d : Nat, tell s a b c d = (0, 0, 0, 0, false)) ∨ (x1 = x1' ∧ x2 = x2' ∧ x3 = x3' ∧ y3 = y3')) → ∃ r, spec_TxOf.f k s = some r ∧ impl_TxOf.f k s = some r := by
    intro x1 x2 x3 y1 y2 y3 x1' x2' x3' y1' y2' y3' b1 b2 b3 b1' b2' b3' h1 h2 h3 g1 g2 g3 hor
    rcases hor with ht | ⟨rfl, rfl, rfl, rfl⟩
    · obtain ⟨a, m1, ha, n1, _⟩ := num_of x1 k (by omega)
      obtain ⟨b, m2, hb, n2, _⟩ := num_of x2 k (by omega)
      obtain ⟨c, m3, hc, n3, _⟩ := num_of x3 k (by omega)
      obtain ⟨d, m4, hd, n4, _⟩ := num_of y3 k (by omega)
      obtain ⟨a', m1', ha', _, n1'⟩ := num_of x1' k (by omega)
      obtain ⟨b', m2', hb', _, n2'⟩ := num_of x2' k (by omega)
      obtain ⟨c', m3', hc', _, n3'⟩ := num_of x3' k (by omega)
      obtain ⟨d', m4', hd', _, n4'⟩ := num_of y3' k (by omega)
      refine ⟨(0, 0, 0, 0, false), ?_, ?_⟩
      · rw [specTxOf_core s x1 x2 x3 y1 y2 y3 b1 b2 b3 k (by omega) h1 h2 h3 a b c d ha hb hc hd m1 m2 m3 m4 n1 n2 n3 n4, ht]
      · rw [implTxOf_core s x1' x2' x3' y1' y2' y3' b1' b2' b3' k (by omega) g1 g2 g3 a' b' c' d' ha' hb' hc' hd' m1' m2' m3' m4' n1' n2' n3' n4', ht]
    · obtain ⟨a, m1, ha, n1, n1'⟩ := num_of x1 k (by omega)
      obtain ⟨b, m2, hb, n2, n2'⟩ := num_of x2 k (by omega)
      obtain ⟨c, m3, hc, n3, n3'⟩ := num_of x3 k (by omega)
      obtain ⟨d, m4, hd, n4, n4'⟩ := num_of y3 k (by omega)
      exact ⟨_, specTxOf_core s x1 x2 x3 y1 y2 y3 b1 b2 b3 k (by omega) h1 h2 h3 a b c d ha hb hc hd m1 m2 m3 m4 n1 n2 n3 n4, implTxOf_core s x1 x2 x3 y1' y2' y3 b1' b2' b3' k (by omega) g1 g2 g3 a b c d ha hb hc hd m1 m2 m3 m4 n1' n2' n3' n4'⟩
  have sz0 : (mkS []).size = 0 := rfl
  have sp : ∀ {c : UInt8} {l : List UInt8} {p : List UInt8 × List UInt8}, cutL c l = some p → (mkS p.1).size ≤ l.length ∧ (mkS p.2).size ≤ l.length := by
    intro c l p h
    obtain ⟨e, _⟩ := cutL_some h
    rw [mkS_size, mkS_size, e]
    simp; omega
  have cS : ∀ (x : ByteArray) (c : UInt8), (cutS x c).2.1.size ≤ x.size := by
    intro x c
    unfold cutS
    cases h : cutL c x.data.toList with
    | none => simp only; rw [sz0]; omega
    | some p => simp only; have := (sp h).2; rw [len_size] at this; exact this
  have cI : ∀ (x : ByteArray) (c : UInt8), (cutI x c).2.1.size ≤ x.size := by
    intro x c
    unfold cutI
    cases h : cutL c x.data.toList with
    | none => simp only; rw [sz0]; omega
    | some p => simp only; have := (sp h).2; rw [len_size] at this; exact this
  have k1 := cS s 62
  have k2 := cS (cutS s 62).2.1 58
  have i1 := cI s 62
  have i2 := cI (cutI s 62).2.1 58
  refine both _ _ _ _ _ _ _ _ _ _ _ _ _ _ _ _ _ _ (specCut_at s 62 hs k (by omega)) (specCut_at (cutS s 62).2.1 58 (by omega) k (by omega)) (specCut_at (cutS (cutS s 62).2.1 58).2.1 35 (by omega) k (by omega))
    (implCut_at s 62 hs) (implCut_at (cutI s 62).2.1 58 (by omega)) (implCut_at (cutI (cutI s 62).2.1 58).2.1 35 (by omega)) ?_
  by_cases hn : ∃ p1 p2 p3, cutL 62 s.data.toList = some p1 ∧ cutL 58 p1.2 = some p2 ∧ cutL 35 p2.2 = some p3
  rotate_left
  · exact Or.inl (tell_none s (fun p1 p2 p3 x1 x2 x3 => hn ⟨p1, p2, p3, x1, x2, x3⟩))
  · right
    obtain ⟨p1, p2, p3, e1, e2, e3⟩ := hn
    have a1 : cutS s 62 = (mkS p1.1, mkS p1.2, true) := by unfold cutS; rw [e1]
    have a2 : cutI s 62 = (mkS p1.1, mkS p1.2, true) := by unfold cutI; rw [e1]
    have a3 : cutS (mkS p1.2) 58 = (mkS p2.1, mkS p2.2, true) := by unfold cutS; rw [mkS_list, e2]
    have a4 : cutI (mkS p1.2) 58 = (mkS p2.1, mkS p2.2, true) := by unfold cutI; rw [mkS_list, e2]
    have a5 : cutS (mkS p2.2) 35 = (mkS p3.1, mkS p3.2, true) := by unfold cutS; rw [mkS_list, e3]
    have a6 : cutI (mkS p2.2) 35 = (mkS p3.1, mkS p3.2, true) := by unfold cutI; rw [mkS_list, e3]
    simp only [a1, a2, a3, a4, a5, a6, mkS_list, e1, e2, e3, and_self]
theorem rdOf_mem {α : Type} (d : α) (xs : List α) (m : Nat) (h : m < xs.length) : rdOf d xs (m : Int) ∈ xs := by
  unfold rdOf
  simp [List.getD_eq_getElem?_getD, List.getElem?_eq_getElem h]
theorem splitA_size (c : UInt8) (s : ByteArray) : ∀ p ∈ splitA c s, p.size ≤ s.size := by
  intro p hp
  unfold splitA at hp
  obtain ⟨l, hl, rfl⟩ := List.mem_map.1 hp
  rw [mkS_size, ← len_size]
  exact splitL_part c _ l hl
theorem splitA_length (c : UInt8) (s : ByteArray) : (splitA c s).length ≤ s.size + 1 := by
  unfold splitA
  rw [List.length_map, ← len_size]
  exact splitL_length c _
theorem txsOf_l (ps : List ByteArray) (hL : ps.length < 1000000000000) (B : Nat) (hB : B < 4294967281) (hp : ∀ p ∈ ps, p.size ≤ B) : ∀ (d k m : Nat) (out : List (S68)), m + d = ps.length → d + B + 42 < k → out.length + d < 4398046511104 →
    ∃ r, spec_TxsOf.l0 k out ps (m : Int) = some r ∧ impl_TxsOf.l0 k out ps (ps.length : Int) (m : Int) = some r ∧ r.1.length ≤ out.length + d := by
  intro d
  induction d with
  | zero =>
    intro k m out hd hk ho
    obtain ⟨k, rfl⟩ : ∃ q, k = q + 1 := ⟨k - 1, by omega⟩
    refine ⟨(out, true), ?_, ?_, Nat.le_refl _⟩
    · simp only [spec_TxsOf.l0]; rw [if_neg (by omega)]
    · simp only [impl_TxsOf.l0]; rw [if_neg (by omega)]
  | succ d ih =>
    intro k m out hd hk ho
    obtain ⟨k, rfl⟩ : ∃ q, k = q + 1 := ⟨k - 1, by omega⟩
    have hs := hp _ (rdOf_mem ByteArray.empty ps m (by omega))
    obtain ⟨⟨a, b, c, e, ok⟩, h1, h2⟩ := txOf_at (rdOf ByteArray.empty ps (m : Int)) (by omega) k (by omega)
    have hw : wrap64 ((m : Int) + 1) = ((m + 1 : Nat) : Int) := wn (n := ps.length) (by omega) (by omega)
    have e1 : spec_TxsOf.l0 (k + 1) out ps (m : Int) = if ok = true then spec_TxsOf.l0 k (out ++ [⟨a, b, c, e⟩]) ps ((m + 1 : Nat) : Int) else some ([], false) := by
      simp only [spec_TxsOf.l0]
      rw [if_pos (by omega), if_pos (by omega), h1, Option.bind_some, hw, if_pos (show out.length < 4398046511104 by omega)]
    have e2 : impl_TxsOf.l0 (k + 1) out ps (ps.length : Int) (m : Int) = if ok = true then impl_TxsOf.l0 k (out ++ [⟨a, b, c, e⟩]) ps (ps.length : Int) ((m + 1 : Nat) : Int) else some ([], false) := by
      simp only [impl_TxsOf.l0]
      rw [if_pos (show (m : Int) < (ps.length : Int) by omega), if_pos (by omega), if_pos (by omega), h2, Option.bind_some, hw, if_pos (show out.length < 4398046511104 by omega)]
    rw [e1, e2]
    by_cases h : ok = true
    · rw [if_pos h, if_pos h]
      obtain ⟨r, r1, r2, r3⟩ := ih k (m + 1) (out ++ [⟨a, b, c, e⟩]) (by omega) (by omega) (by simp; omega)
      exact ⟨r, r1, r2, by simp at r3; omega⟩
    · rw [if_neg h, if_neg h]
      exact ⟨([], false), rfl, rfl, by simp⟩
theorem txsOf_at (s : ByteArray) (hs : s.size < 100000000) (k : Nat) (hk : 2 * s.size + 50 < k) : ∃ r, spec_TxsOf.f k s = some r ∧ impl_TxsOf.f k s = some r ∧ r.1.length ≤ s.size + 1 := by
  unfold spec_TxsOf.f impl_TxsOf.f
  rw [Option.bind_some]
  by_cases h : s.toList = []
  · rw [if_pos h, if_pos h]; exact ⟨_, rfl, rfl, by simp⟩
  · have g1 := specSplit_at s 44 (by omega) k (by omega)
    have g2 := implSplit_at s 44 (by omega)
    rw [show ((44 : UInt8).toNat : Int) = 44 from rfl] at g1 g2
    have hl := splitA_length 44 s
    rw [if_neg h, if_neg h, g1, g2, Option.bind_some, Option.bind_some]
    obtain ⟨r, r1, r2, r3⟩ := txsOf_l (splitA 44 s) (by omega) s.size (by omega) (splitA_size 44 s) (splitA 44 s).length k 0 [] (by omega) (by omega) (by simp; omega)
    exact ⟨r, r1, r2, by simp at r3; omega⟩
theorem rdOf_drop (ps : List ByteArray) (m : Nat) : rdOf ByteArray.empty (ps.drop 1) (m : Int) = rdOf ByteArray.empty ps ((m + 1 : Nat) : Int) := by
  unfold rdOf
  simp [List.getD_eq_getElem?_getD, Nat.add_comm]
theorem cut_both (s : ByteArray) (c : UInt8) : ((cutS s c).2.2 = (cutI s c).2.2) ∧ ((cutS s c).2.2 = true → cutS s c = cutI s c) ∧ (cutS s c).1.size ≤ s.size ∧ (cutS s c).2.1.size ≤ s.size ∧ (cutI s c).1.size ≤ s.size ∧ (cutI s c).2.1.size ≤ s.size := by
  unfold cutS cutI
  cases h : cutL c s.data.toList with
  | none => exact ⟨rfl, (fun x => by cases x), Nat.zero_le _, Nat.zero_le _, Nat.le_refl _, Nat.zero_le _⟩
  | some p =>
    obtain ⟨e, _⟩ := cutL_some h
    have hl : s.size = p.1.length + 1 + p.2.length := by rw [← len_size, e]; simp; omega
    exact ⟨rfl, fun _ => rfl, by simp only [mkS_size]; omega, by simp only [mkS_size]; omega, by simp only [mkS_size]; omega, by simp only [mkS_size]; omega⟩
theorem steps_l (ps : List ByteArray) (hL : ps.length < 1000000000000) (B : Nat) (hB : B < 100000000) (hp : ∀ p ∈ ps, p.size ≤ B) : ∀ (d k m : Nat) (out : List (S64)) (last : Nat), m + 1 + d = ps.length → d + 2 * B + 60 < k → out.length + d < 4398046511104 → last < 1000000 → (∀ e ∈ out, (1 : Int) ≤ e.f0) →
    ∃ r, spec_Steps.l0 k [] out ps (last : Int) ((m + 1 : Nat) : Int) = some r ∧ impl_Steps.l0 k out (last : Int) (ps.drop 1) ((ps.drop 1).length : Int) (m : Int) = some r ∧ (r.2 = false → r.1 = []) ∧ r.1.length ≤ out.length + d ∧ (r.2 = true → r.1.length = out.length + d) ∧ ∀ e ∈ r.1, (1 : Int) ≤ e.f0 := by
  intro d
  induction d with
  | zero =>
    intro k m out last hd hk ho hlast ho1
    obtain ⟨k, rfl⟩ : ∃ q, k = q + 1 := ⟨k - 1, by omega⟩
    refine ⟨(out, true), ?_, ?_, (fun x => by cases x), Nat.le_refl _, fun _ => rfl, ho1⟩
    · simp only [spec_Steps.l0]; rw [if_neg (by omega)]
    · simp only [impl_Steps.l0]; rw [if_neg (by rw [List.length_drop]; omega)]
  | succ d ih =>
    intro k m out last hd hk ho hlast ho1
    obtain ⟨k, rfl⟩ : ∃ q, k = q + 1 := ⟨k - 1, by omega⟩
    have hs := hp _ (rdOf_mem ByteArray.empty ps (m + 1) (by omega))
    generalize hx : rdOf ByteArray.empty ps ((m + 1 : Nat) : Int) = x at hs
    obtain ⟨hok, hsame, z1, z2, z3, z4⟩ := cut_both x 124
    have g1 := specCut_at x 124 (by omega) k (by omega)
    have g2 := implCut_at x 124 (by omega)
    rw [show ((124 : UInt8).toNat : Int) = 124 from rfl] at g1
    obtain ⟨q1, m1, hq1, n1, n1'⟩ := num_of (cutS x 124).1 k (by omega)
    obtain ⟨q2, m2, hq2, n2, n2'⟩ := num_of (cutI x 124).1 k (by omega)
    obtain ⟨t1, v1, v1', w1⟩ := txsOf_at (cutS x 124).2.1 (by omega) k (by omega)
    obtain ⟨t2, v2, v2', w2⟩ := txsOf_at (cutI x 124).2.1 (by omega) k (by omega)
    have hlen : out.length < 4398046511104 := by omega
    obtain ⟨HW, HX, HY⟩ : Aside0 (wrap64 (((m + 1 : Nat) : Int) + 1) = ((m + 1 + 1 : Nat) : Int)) ∧ Aside0 (wrap64 ((m : Int) + 1) = ((m + 1 : Nat) : Int)) ∧ Aside0 (wrap64 ((last : Int) + 1) = (last : Int) + 1) := ⟨⟨wn (n := ps.length) (by omega) (by omega)⟩, ⟨wn (n := ps.length) (by omega) (by omega)⟩, ⟨by unfold wrap64; omega⟩⟩
    have hdl : (ps.drop 1).length = ps.length - 1 := by rw [List.length_drop]
    have e1 : spec_Steps.l0 (k + 1) [] out ps (last : Int) ((m + 1 : Nat) : Int) = if (cutS x 124).2.2 = true then (if m1 = true then (if t1.2 = true then (if (q1 : Int) ≤ (last : Int) then some ([], false) else (if (q1 : Int) > 60 then some ([], false) else (if (t1.1.length : Int) > 2 then some ([], false) else spec_Steps.l0 k [] (out ++ [⟨(q1 : Int), t1.1⟩]) ps (q1 : Int) ((m + 1 + 1 : Nat) : Int)))) else some ([], false)) else some ([], false)) else some ([], false) := by
      simp only [spec_Steps.l0]
      rw [if_pos (by omega), if_pos (by omega), hx, g1, Option.bind_some, n1, Option.bind_some, v1, Option.bind_some, HW.out, if_pos hlen]
    have e2 : impl_Steps.l0 (k + 1) out (last : Int) (ps.drop 1) ((ps.drop 1).length : Int) (m : Int) = if (cutI x 124).2.2 = true then (if m2 = true then (if t2.2 = true then (if (q2 : Int) ≥ (last : Int) + 1 ∧ (q2 : Int) ≤ 60 then (if (t2.1.length : Int) > 2 then some ([], false) else impl_Steps.l0 k (out ++ [⟨(q2 : Int), t2.1⟩]) (q2 : Int) (ps.drop 1) ((ps.drop 1).length : Int) ((m + 1 : Nat) : Int)) else some ([], false)) else some ([], false)) else some ([], false)) else some ([], false) := by
      simp only [impl_Steps.l0]
      rw [if_pos (by rw [hdl]; omega), if_pos (by omega), if_pos (by rw [hdl]; omega), rdOf_drop, hx, g2, Option.bind_some, n2', Option.bind_some, v2', Option.bind_some, HX.out, if_pos hlen, HY.out]
      unfold impl_within.f
      by_cases a1 : (q2 : Int) ≥ (last : Int) + 1
      · by_cases a2 : (q2 : Int) ≤ 60
        · rw [if_pos a1, Option.bind_some, if_pos (decide_eq_true a2), if_pos (show (q2 : Int) ≥ (last : Int) + 1 ∧ (q2 : Int) ≤ 60 from ⟨a1, a2⟩)]
        · rw [if_pos a1, Option.bind_some, if_neg (show ¬ (decide ((q2 : Int) ≤ 60) = true) by simpa using a2), if_neg (show ¬ ((q2 : Int) ≥ (last : Int) + 1 ∧ (q2 : Int) ≤ 60) from fun h => a2 h.2)]
      · rw [if_neg a1, Option.bind_some, if_neg (show ¬ (false = true) by decide), if_neg (show ¬ ((q2 : Int) ≥ (last : Int) + 1 ∧ (q2 : Int) ≤ 60) from fun h => a1 h.1)]
    rw [e1, e2, ← hok]
    have bad : ∃ r : List (S64) × Bool, some (([] : List (S64)), false) = some r ∧ some (([] : List (S64)), false) = some r ∧ (r.2 = false → r.1 = []) ∧ r.1.length ≤ out.length + (d + 1) ∧ (r.2 = true → r.1.length = out.length + (d + 1)) ∧ ∀ e ∈ r.1, (1 : Int) ≤ e.f0 := ⟨_, rfl, rfl, fun _ => rfl, by simp, (fun x => by cases x), by simp⟩
    by_cases c0 : (cutS x 124).2.2 = true
    · have es := hsame c0
      rw [← es] at n2' v2'
      obtain ⟨rfl, rfl⟩ : q1 = q2 ∧ m1 = m2 := by
        rw [n1'] at n2'
        simp only [Option.some.injEq, Prod.mk.injEq] at n2'
        exact ⟨by omega, n2'.2⟩
      obtain rfl : t1 = t2 := by
        rw [v1'] at v2'
        exact Option.some.inj v2'
      simp only [c0, if_true]
      by_cases c1 : m1 = true
      · simp only [c1, if_true]
        by_cases c2 : t1.2 = true
        · simp only [c2, if_true]
          by_cases c3 : (q1 : Int) ≤ (last : Int)
          · rw [if_pos c3, if_neg (by omega)]; exact bad
          · rw [if_neg c3]
            by_cases c4 : (q1 : Int) > 60
            · rw [if_pos c4, if_neg (by omega)]; exact bad
            · have c6 : (q1 : Int) ≥ (last : Int) + 1 ∧ (q1 : Int) ≤ 60 := ⟨by omega, by omega⟩
              rw [if_neg c4, if_pos c6]
              by_cases c5 : (t1.1.length : Int) > 2
              · rw [if_pos c5, if_pos c5]; exact bad
              · rw [if_neg c5, if_neg c5]
                have ho2 : ∀ e ∈ out ++ [(⟨(q1 : Int), t1.1⟩ : S64)], (1 : Int) ≤ e.f0 := by
                  intro e he
                  rcases List.mem_append.1 he with h | h
                  · exact ho1 e h
                  · rw [List.mem_singleton.1 h]
                    show (1 : Int) ≤ (q1 : Int)
                    omega
                obtain ⟨r, r1, r2, r3, r4, r5, r6⟩ := ih k (m + 1) (out ++ [⟨(q1 : Int), t1.1⟩]) q1 (by omega) (by omega) (by simp; omega) hq1 ho2
                exact ⟨r, r1, r2, r3, by simp at r4; omega, (fun h => by have := r5 h; simp at this; omega), r6⟩
        · simp only [c2, if_false]; exact bad
      · simp only [c1, if_false]; exact bad
    · simp only [c0, if_false]; exact bad
theorem steps_at (s : ByteArray) (hs : s.size < 100000000) (k : Nat) (hk : 3 * s.size + 80 < k) :
    ∃ r, spec_Steps.f k s = some r ∧ impl_Steps.f k s = some r ∧ (r.2 = false → r.1 = []) ∧ r.1.length ≤ s.size + 1 ∧ (r.2 = true → s.data.toList = [] ∨ ∃ l, s.data.toList = 47 :: l) ∧ (s.data.toList = [] → r = ([], true)) ∧ (r.2 = true → s.data.toList ≠ [] → 0 < r.1.length) ∧ ∀ e ∈ r.1, (1 : Int) ≤ e.f0 := by
  unfold spec_Steps.f impl_Steps.f
  rw [Option.bind_some, Option.bind_some, Lib.toList_data]
  by_cases h : s.data.toList = []
  · rw [if_pos h, if_pos h]; exact ⟨_, rfl, rfl, (fun x => by cases x), by simp, fun _ => Or.inl h, fun _ => rfl, fun _ x => absurd h x, by simp⟩
  · have g1 := specSplit_at s 47 (by omega) k (by omega)
    have g2 := implSplit_at s 47 (by omega)
    rw [show ((47 : UInt8).toNat : Int) = 47 from rfl] at g1 g2
    have hl := splitA_length 47 s
    have hp : 0 < (splitA 47 s).length := by
      obtain ⟨x, t, e⟩ := splitL_ne 47 s.data.toList
      unfold splitA; rw [e]; simp
    have hpi : 0 < ((splitA 47 s).length : Int) := by omega
    rw [if_neg h, if_neg h, g1, g2, Option.bind_some, Option.bind_some, if_pos hpi, if_pos hpi]
    obtain ⟨k, rfl⟩ : ∃ q, k = q + 1 := ⟨k - 1, by omega⟩
    have bad1 : ∀ t, spec_Steps.j0 (k + 1) [] [] t true = some ([], false) := fun t => by simp [spec_Steps.j0]
    have bad2 : ∀ t, impl_Steps.j0 (k + 1) t true = some ([], false) := fun t => by simp [impl_Steps.j0]
    by_cases h0 : (rdOf ByteArray.empty (splitA 47 s) 0).toList = []
    · have h47 : ∃ l, s.data.toList = 47 :: l := by
        unfold splitA rdOf at h0
        rw [splitL_cut] at h0
        cases hc : cutL 47 s.data.toList with
        | none => rw [hc] at h0; simp [mkS_toList] at h0; exact absurd h0 (by simpa using h)
        | some p =>
          rw [hc] at h0
          obtain ⟨e, _⟩ := cutL_some hc
          simp [mkS_toList] at h0
          rw [h0] at e
          exact ⟨p.2, by simpa using e⟩
      have h2 : 2 ≤ (splitA 47 s).length := by
        unfold splitA rdOf at h0
        unfold splitA
        rw [splitL_cut] at h0 ⊢
        cases hc : cutL 47 s.data.toList with
        | none => rw [hc] at h0; simp [mkS_toList] at h0; exact absurd h0 (by simpa using h)
        | some p =>
          obtain ⟨x, t, e⟩ := splitL_ne 47 p.2
          simp [e]
      rw [if_pos h0, if_pos h0]
      have hw : wrap64 (((splitA 47 s).length : Int) - 1) = ((splitA 47 s).length : Int) - 1 := by unfold wrap64; omega
      by_cases h31 : ((splitA 47 s).length : Int) > 31
      · rw [decide_eq_true h31, hw, decide_eq_true (show ((splitA 47 s).length : Int) - 1 > 30 by omega), bad1, bad2]
        exact ⟨_, rfl, rfl, fun _ => rfl, by simp, (fun x => by cases x), (fun x => absurd x h), (fun x => by cases x), by simp⟩
      · rw [decide_eq_false h31, hw, decide_eq_false (show ¬ ((splitA 47 s).length : Int) - 1 > 30 by omega)]
        obtain ⟨r, r1, r2, r3, r4, r5, r6⟩ := steps_l (splitA 47 s) (by omega) s.size hs (splitA_size 47 s) ((splitA 47 s).length - 1) k 0 [] 0 (by omega) (by omega) (by simp; omega) (by omega) (by simp)
        refine ⟨r, ?_, ?_, r3, by simp at r4; omega, (fun _ => Or.inr h47), (fun x => absurd x h), (fun x _ => by have := r5 x; simp at this; omega), r6⟩
        · simp only [spec_Steps.j0]
          rw [if_neg (by simp)]
          exact r1
        · simp only [impl_Steps.j0]
          rw [if_neg (by simp), if_pos (by omega), Option.bind_some]
          exact r2
    · rw [if_neg h0, if_neg h0, bad1, bad2]
      exact ⟨_, rfl, rfl, fun _ => rfl, by simp, (fun x => by cases x), (fun x => absurd x h), (fun x => by cases x), by simp⟩
theorem rdStep_mem (xs : List S64) (i : Int) (h0 : 0 ≤ i) (h : i < (xs.length : Int)) : rd_T64 xs i ∈ xs := by
  have h1 : i.toNat < xs.length := by omega
  unfold rd_T64
  simp [List.getD_eq_getElem?_getD, List.getElem?_eq_getElem h1]
/-- The view of a name, and whether it is one: both sides alike. -/
theorem viewOf_at (s : ByteArray) (hs : s.size < 100000000) (k : Nat) (hk : 3 * s.size + 80 < k) :
    ∃ v b, spec_ViewOf.f k s = some v ∧ impl_ViewOf.f k s = some v ∧ spec_NameOk.f k s = some b ∧ impl_NameOk.f k s = some b ∧ (b = true → s.data.toList ≠ [] → 1 ≤ v) ∧ (s.data.toList = [] → v = 0 ∧ b = true) := by
  obtain ⟨r, r1, r2, r3, r4, _, r5, r6, r7⟩ := steps_at s hs k hk
  unfold spec_ViewOf.f impl_ViewOf.f spec_NameOk.f impl_NameOk.f
  simp only [r1, r2, Option.bind_some]
  by_cases h : r.1 = []
  · refine ⟨0, r.2, ?_, ?_, rfl, rfl, ?_, ?_⟩
    · rw [h]; simp
    · rw [h]; simp
    · intro hb hne
      have := r6 hb hne
      rw [h] at this; simp at this
    · intro he
      rw [r5 he]; exact ⟨rfl, rfl⟩
  · have hp : 0 < r.1.length := List.length_pos_iff.2 h
    have hb : r.2 = true := by
      cases hb : r.2
      · exact absurd (r3 hb) h
      · rfl
    have w1 : wrap64 ((r.1.length : Int) - 1) = (r.1.length : Int) - 1 := by unfold wrap64; omega
    have c0 : ¬ (r.1.length : Int) = 0 := by omega
    have c1 : (0 : Int) ≤ (r.1.length : Int) - 1 := by omega
    have c2 : (r.1.length : Int) - 1 < (r.1.length : Int) := by omega
    refine ⟨(rd_T64 r.1 ((r.1.length : Int) - 1)).f0, r.2, ?_, ?_, rfl, rfl, ?_, ?_⟩
    · simp only [w1, hb, if_true, if_neg c0, if_pos c1, if_pos c2]
    · simp only [w1, if_neg c0, if_pos c1, if_pos c2]
    · intro _ _
      exact r7 _ (rdStep_mem _ _ c1 c2)
    · intro he
      exact absurd (congrArg Prod.fst (r5 he)) h
theorem mono_le {α : Type} {f : Nat → Option α} (h : ∀ k, LeO (f k) (f (k + 1))) {a : Nat} {x : α} (hx : f a = some x) : ∀ {b : Nat}, a ≤ b → f b = some x := by
  intro b
  induction b with
  | zero => intro hab; obtain rfl : a = 0 := by omega
            exact hx
  | succ b ih =>
    intro hab
    by_cases e : a = b + 1
    · subst e; exact hx
    · exact h b x (ih (by omega))
theorem num_ex (s : ByteArray) : ∃ r : Int × Bool, ∀ k, 40 < k → spec_Number.f k s = some r := by
  obtain ⟨r, h, _⟩ := number_at s 41 (by omega)
  exact ⟨r, fun k hk => mono_le (fun k => spec_Number.mono s k) h (by omega)⟩
noncomputable def numV (s : ByteArray) : Int × Bool := Classical.choose (num_ex s)
theorem numV_at (s : ByteArray) (k : Nat) (hk : 40 < k) : spec_Number.f k s = some (numV s) := Classical.choose_spec (num_ex s) k hk
theorem txs_ex (s : ByteArray) (hs : s.size < 100000000) : ∃ r, ∀ k, 2 * s.size + 50 < k → spec_TxsOf.f k s = some r := by
  obtain ⟨r, h, _⟩ := txsOf_at s hs (2 * s.size + 51) (by omega)
  exact ⟨r, fun k hk => mono_le (fun k => spec_TxsOf.mono s k) h (by omega)⟩
noncomputable def txsV (s : ByteArray) : List S68 × Bool := if h : s.size < 100000000 then Classical.choose (txs_ex s h) else ([], false)
theorem txsV_at (s : ByteArray) (hs : s.size < 100000000) (k : Nat) (hk : 2 * s.size + 50 < k) : spec_TxsOf.f k s = some (txsV s) := by
  unfold txsV
  rw [dif_pos hs]
  exact Classical.choose_spec (txs_ex s hs) k hk
theorem steps_ex (s : ByteArray) (hs : s.size < 100000000) : ∃ r, ∀ k, 3 * s.size + 80 < k → spec_Steps.f k s = some r ∧ impl_Steps.f k s = some r := by
  obtain ⟨r, h, h', _⟩ := steps_at s hs (3 * s.size + 81) (by omega)
  exact ⟨r, fun k hk => ⟨mono_le (fun k => spec_Steps.mono s k) h (by omega), mono_le (fun k => impl_Steps.mono s k) h' (by omega)⟩⟩
/-- The steps of a name, and whether it is one. -/
noncomputable def stepsV (s : ByteArray) : List S64 × Bool := if h : s.size < 100000000 then Classical.choose (steps_ex s h) else ([], false)
theorem stepsV_at (s : ByteArray) (hs : s.size < 100000000) (k : Nat) (hk : 3 * s.size + 80 < k) : spec_Steps.f k s = some (stepsV s) ∧ impl_Steps.f k s = some (stepsV s) := by
  unfold stepsV
  rw [dif_pos hs]
  exact Classical.choose_spec (steps_ex s hs) k hk
/-- One part of a name behind a view. -/
noncomputable def stepQ (q : ByteArray) (last : Int) : Option S64 :=
  if (cutS q 124).2.2 = true ∧ (numV (cutS q 124).1).2 = true ∧ (txsV (cutS q 124).2.1).2 = true ∧ last < (numV (cutS q 124).1).1 ∧ (numV (cutS q 124).1).1 ≤ 60 ∧ ((txsV (cutS q 124).2.1).1.length : Int) ≤ 2 then some ⟨(numV (cutS q 124).1).1, (txsV (cutS q 124).2.1).1⟩ else none
noncomputable def walkP : List ByteArray → List S64 → Int → List S64 × Bool
  | [], out, _ => (out, true)
  | p :: ps, out, last => match stepQ p last with
    | some x => walkP ps (out ++ [x]) x.f0
    | none => ([], false)
theorem walk_l (ps : List ByteArray) (hL : ps.length < 1000000000000) (B : Nat) (hB : B < 100000000) (hp : ∀ p ∈ ps, p.size ≤ B) : ∀ (d k m : Nat) (out : List (S64)) (last : Int), m + 1 + d = ps.length → d + 2 * B + 60 < k → out.length + d < 4398046511104 →
    spec_Steps.l0 k [] out ps last ((m + 1 : Nat) : Int) = some (walkP (ps.drop (m + 1)) out last) := by
  intro d
  induction d with
  | zero =>
    intro k m out last hd hk ho
    obtain ⟨k, rfl⟩ : ∃ q, k = q + 1 := ⟨k - 1, by omega⟩
    simp only [spec_Steps.l0]
    rw [if_neg (by omega), List.drop_of_length_le (by omega)]
    rfl
  | succ d ih =>
    intro k m out last hd hk ho
    obtain ⟨k, rfl⟩ : ∃ q, k = q + 1 := ⟨k - 1, by omega⟩
    have hs := hp _ (rdOf_mem ByteArray.empty ps (m + 1) (by omega))
    have hdr : ps.drop (m + 1) = rdOf ByteArray.empty ps ((m + 1 : Nat) : Int) :: ps.drop (m + 1 + 1) := by
      rw [List.drop_eq_getElem_cons (show m + 1 < ps.length by omega)]
      simp [rdOf, List.getD_eq_getElem?_getD, List.getElem?_eq_getElem (show m + 1 < ps.length by omega)]
    generalize hx : rdOf ByteArray.empty ps ((m + 1 : Nat) : Int) = x at hs hdr
    obtain ⟨_, _, z1, z2, _, _⟩ := cut_both x 124
    have g1 := specCut_at x 124 (by omega) k (by omega)
    rw [show ((124 : UInt8).toNat : Int) = 124 from rfl] at g1
    have n1 := numV_at (cutS x 124).1 k (by omega)
    have v1 := txsV_at (cutS x 124).2.1 (by omega) k (by omega)
    have hlen : out.length < 4398046511104 := by omega
    obtain ⟨HW⟩ : Aside0 (wrap64 (((m + 1 : Nat) : Int) + 1) = ((m + 1 + 1 : Nat) : Int)) := ⟨wn (n := ps.length) (by omega) (by omega)⟩
    have HW' := Aside0.mk HW
    clear HW
    have e1 : spec_Steps.l0 (k + 1) [] out ps last ((m + 1 : Nat) : Int) = if (cutS x 124).2.2 = true then (if (numV (cutS x 124).1).2 = true then (if (txsV (cutS x 124).2.1).2 = true then (if (numV (cutS x 124).1).1 ≤ last then some ([], false) else (if (numV (cutS x 124).1).1 > 60 then some ([], false) else (if ((txsV (cutS x 124).2.1).1.length : Int) > 2 then some ([], false) else spec_Steps.l0 k [] (out ++ [⟨(numV (cutS x 124).1).1, (txsV (cutS x 124).2.1).1⟩]) ps (numV (cutS x 124).1).1 ((m + 1 + 1 : Nat) : Int)))) else some ([], false)) else some ([], false)) else some ([], false) := by
      simp only [spec_Steps.l0]
      rw [if_pos (by omega), if_pos (by omega), hx, g1, Option.bind_some, n1, Option.bind_some, v1, Option.bind_some, HW'.out, if_pos hlen]
    rw [e1, hdr]
    unfold walkP stepQ
    by_cases c0 : (cutS x 124).2.2 = true
    · by_cases c1 : (numV (cutS x 124).1).2 = true
      · by_cases c2 : (txsV (cutS x 124).2.1).2 = true
        · by_cases c3 : (numV (cutS x 124).1).1 ≤ last
          · rw [if_pos c0, if_pos c1, if_pos c2, if_pos c3, if_neg (fun h => by have := h.2.2.2.1; omega)]
          · by_cases c4 : (numV (cutS x 124).1).1 > 60
            · rw [if_pos c0, if_pos c1, if_pos c2, if_neg c3, if_pos c4, if_neg (fun h => by have := h.2.2.2.2.1; omega)]
            · by_cases c5 : ((txsV (cutS x 124).2.1).1.length : Int) > 2
              · rw [if_pos c0, if_pos c1, if_pos c2, if_neg c3, if_neg c4, if_pos c5, if_neg (fun h => by have := h.2.2.2.2.2; omega)]
              · rw [if_pos c0, if_pos c1, if_pos c2, if_neg c3, if_neg c4, if_neg c5, if_pos ⟨c0, c1, c2, by omega, by omega, by omega⟩]
                exact ih k (m + 1) _ _ (by omega) (by omega) (by simp; omega)
        · rw [if_pos c0, if_pos c1, if_neg c2, if_neg (fun h => c2 h.2.2.1)]
      · rw [if_pos c0, if_neg c1, if_neg (fun h => c1 h.2.1)]
    · rw [if_neg c0, if_neg (fun h => c0 h.1)]
/-- What the steps of a name are. -/
theorem stepsV_eq (s : ByteArray) (hs : s.size < 100000000) : stepsV s = if s.data.toList = [] then ([], true) else if (rdOf ByteArray.empty (splitA 47 s) 0).data.toList = [] ∧ (splitA 47 s).length ≤ 31 then walkP ((splitA 47 s).drop 1) [] 0 else ([], false) := by
  have h := (stepsV_at s hs (3 * s.size + 100) (by omega)).1
  generalize hk : 3 * s.size + 100 = k at h
  unfold spec_Steps.f at h
  rw [Option.bind_some, Option.bind_some, Lib.toList_data] at h
  by_cases h1 : s.data.toList = []
  · rw [if_pos h1] at h ⊢
    exact (Option.some.inj h).symm
  · have g1 := specSplit_at s 47 (by omega) k (by omega)
    rw [show ((47 : UInt8).toNat : Int) = 47 from rfl] at g1
    have hl := splitA_length 47 s
    have hp : 0 < (splitA 47 s).length := by
      obtain ⟨x, t, e⟩ := splitL_ne 47 s.data.toList
      unfold splitA; rw [e]; simp
    have hpi : 0 < ((splitA 47 s).length : Int) := by omega
    obtain ⟨k, rfl⟩ : ∃ q, k = q + 1 := ⟨k - 1, by omega⟩
    have bad1 : ∀ t, spec_Steps.j0 (k + 1) [] [] t true = some ([], false) := fun t => by simp [spec_Steps.j0]
    rw [if_neg h1, g1, Option.bind_some, if_pos hpi, Lib.toList_data] at h
    rw [if_neg h1]
    by_cases h0 : (rdOf ByteArray.empty (splitA 47 s) 0).data.toList = []
    · rw [if_pos h0] at h
      by_cases h31 : ((splitA 47 s).length : Int) > 31
      · rw [decide_eq_true h31, bad1] at h
        rw [if_neg (fun x => by have := x.2; omega)]
        exact (Option.some.inj h).symm
      · rw [decide_eq_false h31] at h
        simp only [spec_Steps.j0] at h
        rw [if_neg (by simp)] at h
        have hw := walk_l (splitA 47 s) (by omega) s.size hs (splitA_size 47 s) ((splitA 47 s).length - 1) k 0 [] 0 (by omega) (by omega) (by simp; omega)
        rw [if_pos ⟨h0, by omega⟩]
        have e : spec_Steps.l0 k [] [] (splitA 47 s) 0 1 = some (walkP ((splitA 47 s).drop 1) [] 0) := hw
        rw [e] at h
        exact (Option.some.inj h).symm
    · rw [if_neg h0, bad1] at h
      rw [if_neg (fun x => h0 x.1)]
      exact (Option.some.inj h).symm
theorem splitL_app (c : UInt8) : ∀ (a b : List UInt8), splitL c (a ++ c :: b) = splitL c a ++ splitL c b
  | [], b => by rw [List.nil_append, splitL_eq]; rfl
  | x :: a, b => by
    have ih := splitL_app c a b
    rw [List.cons_append]
    by_cases h : x = c
    · subst h
      rw [splitL_eq, splitL_eq, ih]; rfl
    · rw [splitL_cons h, splitL_cons h, ih]
      obtain ⟨y, t, e⟩ := splitL_ne c a
      rw [e]; rfl
theorem cutL_out {c : UInt8} : ∀ {q : List UInt8}, c ∉ q → cutL c q = none
  | [], _ => rfl
  | x :: q, h => by
    have hx : ¬ x = c := fun e => h (by simp [e])
    unfold cutL
    rw [if_neg hx, cutL_out (fun hm => h (List.mem_cons_of_mem _ hm))]
    rfl
theorem splitL_one {c : UInt8} {q : List UInt8} (h : c ∉ q) : splitL c q = [q] := by
  rw [splitL_cut, cutL_out h]
def lastV (l : List S64) : Int := match l.getLast? with
  | some x => x.f0
  | none => 0
theorem lastV_snoc (l : List S64) (x : S64) : lastV (l ++ [x]) = x.f0 := by
  unfold lastV
  simp
/-- A part more at the end. -/
theorem walkP_snoc (q : ByteArray) : ∀ (t : List ByteArray) (out : List S64) (last : Int), last = lastV out →
    walkP (t ++ [q]) out last = if (walkP t out last).2 = true then (match stepQ q (lastV (walkP t out last).1) with | some x => ((walkP t out last).1 ++ [x], true) | none => ([], false)) else ([], false)
  | [], out, last, hl => by
    simp only [List.nil_append, walkP, if_true]
    rw [hl]
  | p :: t, out, last, hl => by
    rw [List.cons_append]
    unfold walkP
    cases h : stepQ p last with
    | none => simp
    | some x =>
      simp only
      exact walkP_snoc q t (out ++ [x]) x.f0 (lastV_snoc out x).symm
theorem walkP_len : ∀ (t : List ByteArray) (out : List S64) (last : Int), (walkP t out last).2 = true → (walkP t out last).1.length = out.length + t.length
  | [], out, last, _ => rfl
  | p :: t, out, last, h => by
    unfold walkP at h ⊢
    cases hs : stepQ p last with
    | none => rw [hs] at h; simp at h
    | some x =>
      rw [hs] at h
      simp only at h ⊢
      rw [walkP_len t _ _ h, List.length_append, List.length_cons, List.length_cons, List.length_nil]
      omega
/-- A name with a part more. -/
theorem steps_join (s up q : ByteArray) (hs : s.size < 100000000) (hq : (47 : UInt8) ∉ q.data.toList) (e : s.data.toList = up.data.toList ++ 47 :: q.data.toList) :
    stepsV s = if (stepsV up).2 = true ∧ (stepsV up).1.length < 30 then (match stepQ q (lastV (stepsV up).1) with | some x => ((stepsV up).1 ++ [x], true) | none => ([], false)) else ([], false) := by
  have hz : s.size = up.size + 1 + q.size := by rw [← len_size, e, ← len_size, ← len_size]; simp; omega
  have hne : ¬ s.data.toList = [] := by rw [e]; simp
  have hp : splitA 47 s = splitA 47 up ++ [q] := by
    unfold splitA
    rw [e, splitL_app, splitL_one hq, List.map_append]
    simp [mkS_of]
  obtain ⟨y, t, ey⟩ := splitL_ne 47 up.data.toList
  have eu : splitA 47 up = mkS y :: t.map mkS := by unfold splitA; rw [ey]; rfl
  rw [stepsV_eq s hs, if_neg hne, hp, eu, stepsV_eq up (by omega), eu]
  have r1 : rdOf ByteArray.empty (mkS y :: t.map mkS ++ [q]) 0 = mkS y := by simp [rdOf]
  have r2 : rdOf ByteArray.empty (mkS y :: t.map mkS) 0 = mkS y := by simp [rdOf]
  have d1 : (mkS y :: t.map mkS ++ [q]).drop 1 = t.map mkS ++ [q] := rfl
  have d2 : (mkS y :: t.map mkS).drop 1 = t.map mkS := rfl
  have n1 : (mkS y :: t.map mkS ++ [q]).length = t.length + 2 := by simp
  have n2 : (mkS y :: t.map mkS).length = t.length + 1 := by simp
  rw [r1, r2, d1, d2, n1, n2, mkS_list, walkP_snoc q _ [] 0 rfl]
  by_cases hup : up.data.toList = []
  · have e1 : y = [] ∧ t = [] := by rw [hup] at ey; simpa [splitL, eq_comm] using ey
    obtain ⟨rfl, rfl⟩ := e1
    rw [if_pos hup]
    simp [walkP]
  · rw [if_neg hup]
    by_cases hy : y = []
    · subst hy
      by_cases h31 : t.length + 1 ≤ 31
      · rw [if_pos (show ([] : List UInt8) = [] ∧ t.length + 1 ≤ 31 from ⟨rfl, h31⟩)]
        have hlen := walkP_len (t.map mkS) [] 0
        rw [List.length_map, List.length_nil, Nat.zero_add] at hlen
        generalize walkP (t.map mkS) [] 0 = W at hlen
        by_cases hok : W.2 = true
        · have hl := hlen hok
          by_cases h30 : t.length + 2 ≤ 31
          · rw [if_pos (show ([] : List UInt8) = [] ∧ t.length + 2 ≤ 31 from ⟨rfl, h30⟩), if_pos hok, if_pos (show W.2 = true ∧ W.1.length < 30 from ⟨hok, by omega⟩)]
          · rw [if_neg (show ¬ (([] : List UInt8) = [] ∧ t.length + 2 ≤ 31) from fun x => h30 x.2), if_neg (show ¬ (W.2 = true ∧ W.1.length < 30) from fun x => by have := x.2; omega)]
        · rw [if_neg (show ¬ (W.2 = true ∧ W.1.length < 30) from fun x => hok x.1), if_neg hok]
          split <;> rfl
      · rw [if_neg (show ¬ (([] : List UInt8) = [] ∧ t.length + 2 ≤ 31) from fun x => by have := x.2; omega), if_neg (show ¬ (([] : List UInt8) = [] ∧ t.length + 1 ≤ 31) from fun x => h31 x.2)]
        simp
    · rw [if_neg (show ¬ (y = [] ∧ t.length + 2 ≤ 31) from fun x => hy x.1), if_neg (show ¬ (y = [] ∧ t.length + 1 ≤ 31) from fun x => hy x.1)]
      simp
theorem viewV_at (s : ByteArray) (hs : s.size < 100000000) (k : Nat) (hk : 3 * s.size + 80 < k) : spec_ViewOf.f k s = some (lastV (stepsV s).1) ∧ impl_ViewOf.f k s = some (lastV (stepsV s).1) ∧ spec_NameOk.f k s = some (stepsV s).2 ∧ impl_NameOk.f k s = some (stepsV s).2 := by
  obtain ⟨r, r1, r2, r3, r4, _⟩ := steps_at s hs k hk
  obtain ⟨h1, h2⟩ := stepsV_at s hs k hk
  obtain rfl : stepsV s = r := Option.some.inj (h1.symm.trans r1)
  unfold spec_ViewOf.f impl_ViewOf.f spec_NameOk.f impl_NameOk.f
  simp only [h1, h2, Option.bind_some]
  generalize stepsV s = r at r3 r4
  by_cases h : r.1 = []
  · rw [h]
    refine ⟨?_, ?_, trivial, trivial⟩
    · simp [lastV]
    · simp [lastV]
  · have hp : 0 < r.1.length := List.length_pos_iff.2 h
    have hb : r.2 = true := by
      cases hb : r.2
      · exact absurd (r3 hb) h
      · rfl
    have w1 : wrap64 ((r.1.length : Int) - 1) = (r.1.length : Int) - 1 := by unfold wrap64; omega
    have c0 : ¬ (r.1.length : Int) = 0 := by omega
    have c1 : (0 : Int) ≤ (r.1.length : Int) - 1 := by omega
    have c2 : (r.1.length : Int) - 1 < (r.1.length : Int) := by omega
    have e : (rd_T64 r.1 ((r.1.length : Int) - 1)).f0 = lastV r.1 := by
      unfold rd_T64 lastV
      rw [List.getLast?_eq_getElem?, show ((r.1.length : Int) - 1).toNat = r.1.length - 1 by omega, List.getD_eq_getElem?_getD, List.getElem?_eq_getElem (by omega)]
      rfl
    refine ⟨?_, ?_, trivial, trivial⟩
    · simp only [w1, hb, if_true, if_neg c0, if_pos c1, if_pos c2, e]
    · simp only [w1, if_neg c0, if_pos c1, if_pos c2, e]
theorem nameOk_ex (s : ByteArray) (hs : s.size < 100000000) (k : Nat) (hk : 3 * s.size + 80 < k) : ∃ b, spec_NameOk.f k s = some b := ⟨_, (viewV_at s hs k hk).2.2.1⟩
theorem viewOf_ex (s : ByteArray) (hs : s.size < 100000000) (k : Nat) (hk : 3 * s.size + 80 < k) : ∃ v, spec_ViewOf.f k s = some v := ⟨_, (viewV_at s hs k hk).1⟩
theorem setHas_ex (l : List Int) (x : Int) (hn : l.length ≤ 1000000) (k : Nat) (hk : l.length < k) : ∃ b, spec_SetHas.f k l x = some b := by
  have key : ∀ (d k m : Nat), m + d = l.length → d < k → ∃ b, spec_SetHas.l0 k l x (m : Int) = some b := by
    intro d
    induction d with
    | zero =>
      intro k m hd hk
      obtain ⟨k, rfl⟩ : ∃ q, k = q + 1 := ⟨k - 1, by omega⟩
      simp only [spec_SetHas.l0]
      rw [if_neg (by omega)]; exact ⟨_, rfl⟩
    | succ d ih =>
      intro k m hd hk
      obtain ⟨k, rfl⟩ : ∃ q, k = q + 1 := ⟨k - 1, by omega⟩
      simp only [spec_SetHas.l0]
      rw [if_pos (by omega), if_pos (by omega), wn (n := l.length) (by omega) (by omega)]
      split
      · exact ⟨_, rfl⟩
      · exact ih k (m + 1) (by omega) (by omega)
  exact key l.length k 0 (by omega) hk
theorem setAdd_ex (l : List Int) (x : Int) (hn : l.length ≤ 1000000) (k : Nat) (hk : l.length < k) : ∃ r, spec_SetAdd.f k l x = some r ∧ r.length ≤ l.length + 1 := by
  have fin : ∀ m : Nat, m ≤ l.length → ([] ++ l.take m).length < 17592186044416 ∧ (([] ++ l.take m) ++ [x]).length + (l.drop m).length < 17592186044416 ∧ ((([] ++ l.take m) ++ [x]) ++ l.drop m).length ≤ l.length + 1 := by
    intro m hm
    simp only [List.nil_append, List.length_append, List.length_take, List.length_drop, List.length_singleton]
    omega
  have key : ∀ (d k m : Nat), m + d = l.length → d < k → ∃ r, spec_SetAdd.l0 k l x (m : Int) = some r ∧ r.length ≤ l.length + 1 := by
    intro d
    induction d with
    | zero =>
      intro k m hd hk
      obtain ⟨k, rfl⟩ : ∃ q, k = q + 1 := ⟨k - 1, by omega⟩
      obtain ⟨f1, f2, f3⟩ := fin m (by omega)
      have c1 : ¬ (m : Int) < (l.length : Int) := by omega
      have c2 : (0 : Int) ≤ (m : Int) := by omega
      have c3 : (m : Int) ≤ (l.length : Int) := by omega
      have c4 : ([] : List Int).length + (l.take m).length < 17592186044416 := by simpa using f1
      simp only [spec_SetAdd.l0, if_neg c1, Option.bind_some, if_pos c2, if_pos c3, Int.toNat_natCast, if_pos c4, if_pos f1, if_pos f2]
      exact ⟨_, rfl, f3⟩
    | succ d ih =>
      intro k m hd hk
      obtain ⟨k, rfl⟩ : ∃ q, k = q + 1 := ⟨k - 1, by omega⟩
      obtain ⟨f1, f2, f3⟩ := fin m (by omega)
      have c1 : (m : Int) < (l.length : Int) := by omega
      have c2 : (0 : Int) ≤ (m : Int) := by omega
      have c3 : (m : Int) ≤ (l.length : Int) := by omega
      have c4 : ([] : List Int).length + (l.take m).length < 17592186044416 := by simpa using f1
      obtain ⟨r, r1, r2⟩ := ih k (m + 1) (by omega) (by omega)
      have hw : wrap64 ((m : Int) + 1) = ((m + 1 : Nat) : Int) := wn (n := l.length) (by omega) (by omega)
      simp only [spec_SetAdd.l0, if_pos c1, Option.bind_some, if_pos c2, if_pos c3, Int.toNat_natCast, if_pos c4, if_pos f1, if_pos f2, hw, r1]
      split
      · exact ⟨r, rfl, r2⟩
      · exact ⟨_, rfl, f3⟩
  obtain ⟨b, hb⟩ := setHas_ex l x hn k hk
  obtain ⟨r, r1, r2⟩ := key l.length k 0 (by omega) hk
  have c0 : ([] : List Int).length + l.length < 17592186044416 := by simp; omega
  have r1' : spec_SetAdd.l0 k l x 0 = some r := r1
  unfold spec_SetAdd.f
  simp only [hb, Option.bind_some, if_pos c0, r1']
  cases b
  · exact ⟨r, rfl, r2⟩
  · exact ⟨_, rfl, by simp⟩
theorem wf64 {n : Int} (h : (Lit.int .i64 n).wf = true) : -9223372036854775808 ≤ n ∧ n ≤ 9223372036854775807 := by
  simp [Lit.wf, IntKind.min, IntKind.max, IntKind.bits, IntKind.signed] at h
  omega
theorem and255 (n : Int) : Go.bits .and .i64 n 255 = n % 256 := by
  have h255 : (BitVec.ofInt 64 255).toNat = 2 ^ 8 - 1 := by decide
  have key : (BitVec.ofInt 64 n &&& BitVec.ofInt 64 255).toNat = (n % ((2 ^ 64 : Nat) : Int)).toNat % 2 ^ 8 := by
    rw [BitVec.toNat_and, BitVec.toNat_ofInt, h255, Nat.and_two_pow_sub_one_eq_mod]
  show IntKind.i64.wrap ((BitVec.ofInt 64 n &&& BitVec.ofInt 64 255).toNat : Nat) = n % 256
  rw [key, IntKind.wrap_i64]
  omega
/-- A drawn number is below its bound, and the cursor stays in its list. -/
theorem l1Byte_at (s : List Int) (hn : s.length ≤ 9223372036854775807) (i h : Int) (hi : 0 ≤ i ∧ i ≤ s.length) :
    ∃ x i' h', spec_l1Byte.f s i h = some (x, i', h') ∧ 0 ≤ x ∧ x ≤ 255 ∧ 0 ≤ i' ∧ i' ≤ s.length := by
  unfold spec_l1Byte.f
  by_cases h1 : i < (s.length : Int)
  · rw [if_pos h1, if_pos hi.1]
    refine ⟨_, _, _, rfl, ?_, ?_, ?_, ?_⟩
    · rw [and255]; omega
    · rw [and255]; omega
    · unfold wrap64; omega
    · unfold wrap64; omega
  · rw [if_neg h1]
    refine ⟨_, _, _, rfl, ?_, ?_, hi.1, hi.2⟩
    · rw [and255]; omega
    · rw [and255]; omega
theorem l1Below_at (s : List Int) (hn : s.length ≤ 9223372036854775807) (i h n : Int) (hi : 0 ≤ i ∧ i ≤ s.length) (h0 : 0 < n) (h1 : n ≤ 256) :
    ∃ x i' h', spec_l1Below.f s i h n = some (x, i', h') ∧ 0 ≤ x ∧ x < n ∧ 0 ≤ i' ∧ i' ≤ s.length := by
  obtain ⟨x, i', h', e, x0, x1, i0, i1⟩ := l1Byte_at s hn i h hi
  unfold spec_l1Below.f
  rw [if_neg (by omega), if_pos h1, e, Option.bind_some, if_neg (by omega)]
  refine ⟨_, _, _, rfl, ?_, ?_, i0, i1⟩
  · exact Int.tmod_nonneg _ x0
  · exact Int.tmod_lt_of_pos _ h0
theorem l1PickInt_at (s : List Int) (hn : s.length ≤ 9223372036854775807) (i h : Int) (hi : 0 ≤ i ∧ i ≤ s.length) (l : List Int) (h0 : 0 < l.length) (h1 : l.length ≤ 256) :
    ∃ x i' h', spec_l1PickInt.f s i h l = some (x, i', h') ∧ x ∈ l ∧ 0 ≤ i' ∧ i' ≤ s.length := by
  obtain ⟨x, i', h', e, x0, x1, i0, i1⟩ := l1Below_at s hn i h l.length hi (by omega) (by omega)
  unfold spec_l1PickInt.f
  rw [e, Option.bind_some, if_pos x0, if_pos x1]
  refine ⟨_, _, _, rfl, ?_, i0, i1⟩
  obtain ⟨n, rfl⟩ := Int.eq_ofNat_of_zero_le x0
  have : n < l.length := by omega
  simp [rd, List.getD_eq_getElem?_getD, List.getElem?_eq_getElem this]
theorem l1New_at (l : List Int) (hn : l.length ≤ 9223372036854775807) (k : Nat) (hk : 4001 < k) : ∃ h, spec_l1New.f k l = some (l, 0, h) := by
  have key : ∀ (d k m : Nat) (h : Int), m + d = 4000 → d < k → ∃ h', spec_l1New.l0 k l h (m : Int) = some (l, 0, h') := by
    intro d
    induction d with
    | zero =>
      intro k m h hd hk
      obtain ⟨k, rfl⟩ : ∃ q, k = q + 1 := ⟨k - 1, by omega⟩
      simp only [spec_l1New.l0]
      rw [if_neg (show ¬ ((m : Int) < 4000) by omega)]
      exact ⟨h, by simp⟩
    | succ d ih =>
      intro k m h hd hk
      obtain ⟨k, rfl⟩ : ∃ q, k = q + 1 := ⟨k - 1, by omega⟩
      simp only [spec_l1New.l0]
      by_cases h1 : (m : Int) < (l.length : Int)
      · rw [if_pos h1, if_pos (by omega), if_pos (by omega), wn (n := l.length) (by omega) hn]
        exact ih k (m + 1) _ (by omega) (by omega)
      · rw [if_neg h1]; exact ⟨h, rfl⟩
  obtain ⟨h, e⟩ := key 4000 k 0 _ (by omega) (by omega)
  exact ⟨h, e⟩
theorem l7DrawConf_at (s : List Int) (hn : s.length ≤ 9223372036854775807) (i h : Int) (hi : 0 ≤ i ∧ i ≤ s.length) :
    ∃ a b i' h', spec_l7DrawConf.f s i h = some (a, b, i', h') ∧ 4 ≤ a ∧ a ≤ 7 ∧ 1 ≤ b ∧ b ≤ 3 ∧ 0 ≤ i' ∧ i' ≤ s.length := by
  obtain ⟨x, i1, h1, e1, x0, x1, p1⟩ := l1Below_at s hn i h 4 hi (by omega) (by omega)
  obtain ⟨y, i2, h2, e2, y0, y1, p2⟩ := l1Below_at s hn i1 h1 3 p1 (by omega) (by omega)
  unfold spec_l7DrawConf.f
  rw [e1, Option.bind_some]; dsimp only
  rw [e2, Option.bind_some]; dsimp only
  refine ⟨_, _, _, _, rfl, ?_, ?_, ?_, ?_, p2.1, p2.2⟩ <;> (unfold wrap64; omega)
/-- A cursor within its list. -/
def Cu (c : List Int) (i : Int) : Prop := 0 ≤ i ∧ i ≤ (c.length : Int)
theorem below_ex (c : List Int) (hn : c.length ≤ 9223372036854775807) (i h n : Int) (hi : Cu c i) (h0 : 0 < n) (h1 : n ≤ 20000) :
    ∃ x i' h', spec_l1Below.f c i h n = some (x, i', h') ∧ (0 ≤ x ∧ x < n) ∧ Cu c i' := by
  by_cases h2 : n ≤ 256
  · obtain ⟨x, i', h', e, x0, x1, y0, y1⟩ := l1Below_at c hn i h n hi h0 h2
    exact ⟨x, i', h', e, ⟨x0, x1⟩, y0, y1⟩
  · obtain ⟨x, i1, h1', e1, a0, a1, p1⟩ := l1Byte_at c hn i h hi
    obtain ⟨y, i2, h2', e2, b0, b1, p2⟩ := l1Byte_at c hn i1 h1' p1
    obtain ⟨z, i3, h3', e3, c0, c1, p3⟩ := l1Byte_at c hn i2 h2' p2
    obtain ⟨w, i4, h4', e4, d0, d1, p4⟩ := l1Byte_at c hn i3 h3' p3
    unfold spec_l1Below.f
    rw [if_neg (by omega), if_neg h2, e1, Option.bind_some, e2, Option.bind_some, e3, Option.bind_some, e4, Option.bind_some, if_neg (by omega)]
    have q1 : wrap64 (x * 16777216) = x * 16777216 := by unfold wrap64; omega
    have q2 : wrap64 (y * 65536) = y * 65536 := by clear q1; unfold wrap64; omega
    have q3 : wrap64 (z * 256) = z * 256 := by clear q1 q2; unfold wrap64; omega
    have q4 : wrap64 (x * 16777216 + y * 65536) = x * 16777216 + y * 65536 := by clear q1 q2 q3; unfold wrap64; omega
    have q5 : wrap64 (x * 16777216 + y * 65536 + z * 256) = x * 16777216 + y * 65536 + z * 256 := by clear q1 q2 q3 q4; unfold wrap64; omega
    have q6 : wrap64 (x * 16777216 + y * 65536 + z * 256 + w) = x * 16777216 + y * 65536 + z * 256 + w := by clear q1 q2 q3 q4 q5; unfold wrap64; omega
    have hnn : 0 ≤ x * 16777216 + y * 65536 + z * 256 + w := by clear q1 q2 q3 q4 q5 q6; omega
    dsimp only
    rw [q1, q2, q4, q3, q5, q6]
    exact ⟨_, _, _, rfl, ⟨Int.tmod_nonneg _ hnn, Int.tmod_lt_of_pos _ h0⟩, p4⟩
theorem once_ex (c : List Int) (hn : c.length ≤ 9223372036854775807) (i h n : Int) (hi : Cu c i) (h0 : 0 < n) (h1 : n ≤ 20000) : ∃ b i' h', spec_l1Once.f c i h n = some (b, i', h') ∧ Cu c i' := by
  obtain ⟨x, i', h', e, _, p⟩ := below_ex c hn i h n hi h0 h1
  unfold spec_l1Once.f
  rw [e]; exact ⟨_, _, _, rfl, p⟩
theorem pickInt_ex (c : List Int) (hn : c.length ≤ 9223372036854775807) (i h : Int) (hi : Cu c i) (l : List Int) (h0 : 0 < l.length) (h1 : l.length ≤ 256) : ∃ x i' h', spec_l1PickInt.f c i h l = some (x, i', h') ∧ x ∈ l ∧ Cu c i' := by
  obtain ⟨x, i', h', e, m, p⟩ := l1PickInt_at c hn i h hi l h0 h1
  exact ⟨x, i', h', e, m, p⟩
theorem pick_ex (c : List Int) (hn : c.length ≤ 9223372036854775807) (i h : Int) (hi : Cu c i) (l : List ByteArray) (h0 : 0 < l.length) (h1 : l.length ≤ 256) (hz : ∀ x ∈ l, x.size = 1) : ∃ x i' h', spec_l1Pick.f c i h l = some (x, i', h') ∧ x.size = 1 ∧ Cu c i' := by
  obtain ⟨x, i', h', e, ⟨x0, x1⟩, p⟩ := below_ex c hn i h l.length hi (by omega) (by omega)
  unfold spec_l1Pick.f
  rw [e, Option.bind_some, if_pos x0, if_pos x1]
  refine ⟨_, _, _, rfl, ?_, p⟩
  obtain ⟨m, rfl⟩ := Int.eq_ofNat_of_zero_le x0
  exact hz _ (rdOf_mem ByteArray.empty l m (by omega))
/-- A transaction is in its bounds. -/
def okT (x : S68) : Prop := (0 ≤ x.f0 ∧ x.f0 ≤ 3) ∧ (0 ≤ x.f1 ∧ x.f1 ≤ 3) ∧ (0 ≤ x.f2 ∧ x.f2 ≤ 1000) ∧ (0 ≤ x.f3 ∧ x.f3 ≤ 99)
theorem drawRight_ex (c : List Int) (hn : c.length ≤ 9223372036854775807) (i h : Int) (hi : Cu c i) : ∃ x y z w i' h', spec_l2DrawRight.f c i h = some (x, y, z, w, i', h') ∧ okT ⟨x, y, z, w⟩ ∧ Cu c i' := by
  obtain ⟨x, i1, h1, e1, ⟨a0, a1⟩, p1⟩ := below_ex c hn i h 4 hi (by omega) (by omega)
  obtain ⟨y, i2, h2, e2, ⟨b0, b1⟩, p2⟩ := below_ex c hn i1 h1 4 p1 (by omega) (by omega)
  obtain ⟨z, i3, h3, e3, hz, p3⟩ := pickInt_ex c hn i2 h2 p2 [0, 5, 60, 100, 1000] (by simp) (by simp)
  obtain ⟨w, i4, h4, e4, ⟨d0, d1⟩, p4⟩ := below_ex c hn i3 h3 3 p3 (by omega) (by omega)
  unfold spec_l2DrawRight.f
  rw [e1, Option.bind_some]; dsimp only
  rw [e2, Option.bind_some]; dsimp only
  rw [e3, Option.bind_some]; dsimp only
  rw [e4, Option.bind_some]
  refine ⟨x, y, z, w, i4, h4, rfl, ⟨⟨a0, by show x ≤ 3; omega⟩, ⟨b0, by show y ≤ 3; omega⟩, ?_, ⟨d0, by show w ≤ 99; omega⟩⟩, p4⟩
  show 0 ≤ z ∧ z ≤ 1000
  simp at hz; omega
theorem rdT_mem (xs : List S68) (m : Nat) (h : m < xs.length) : rd_T68 xs (m : Int) ∈ xs := by
  unfold rd_T68
  simp [List.getD_eq_getElem?_getD, List.getElem?_eq_getElem h]
theorem txText_ex (x : S68) (h : okT x) (k : Nat) (hk : 20 < k) : ∃ t, spec_TxText.f k x.f0 x.f1 x.f2 x.f3 = some t ∧ t.size ≤ 30 ∧ spec_TxOk.f x.f0 x.f1 x.f2 x.f3 = some true := by
  obtain ⟨h1, h2, h3, h4⟩ := h
  obtain ⟨a, ea⟩ : ∃ a : Nat, x.f0 = (a : Int) := ⟨x.f0.toNat, by omega⟩
  obtain ⟨b, eb⟩ : ∃ a : Nat, x.f1 = (a : Int) := ⟨x.f1.toNat, by omega⟩
  obtain ⟨c, ec⟩ : ∃ a : Nat, x.f2 = (a : Int) := ⟨x.f2.toNat, by omega⟩
  obtain ⟨d, ed⟩ : ∃ a : Nat, x.f3 = (a : Int) := ⟨x.f3.toNat, by omega⟩
  have hb : txB a b c d = true := by unfold txB; exact decide_eq_true (by omega)
  have h5 := dig_len 5 a (by omega)
  have h6 := dig_len 5 b (by omega)
  have h7 := dig_len 5 c (by omega)
  have h8 := dig_len 5 d (by omega)
  rw [ea, eb, ec, ed, specTxText_at a b c d (by omega) (by omega) (by omega) (by omega) k hk, specTxOk_at, if_pos hb, hb]
  refine ⟨_, rfl, ?_, rfl⟩
  rw [mkS_size]
  unfold txL
  simp only [List.length_append, List.length_cons]
  omega
theorem txsText_ex (l : List S68) (hn : l.length ≤ 100) (hx : ∀ x ∈ l, okT x) (k : Nat) (hk : 200 < k) : ∃ t, spec_TxsText.f k l = some t ∧ t.size ≤ 31 * l.length := by
  have key : ∀ (d k m : Nat) (out : ByteArray), m + d = l.length → d + 25 < k → out.size ≤ 31 * m → ∃ t, spec_TxsText.l0 k l out (m : Int) = some t ∧ t.size ≤ 31 * l.length := by
    intro d
    induction d with
    | zero =>
      intro k m out hd hk ho
      obtain ⟨k, rfl⟩ : ∃ q, k = q + 1 := ⟨k - 1, by omega⟩
      simp only [spec_TxsText.l0]
      rw [if_neg (by omega)]; exact ⟨_, rfl, by omega⟩
    | succ d ih =>
      intro k m out hd hk ho
      obtain ⟨k, rfl⟩ : ∃ q, k = q + 1 := ⟨k - 1, by omega⟩
      obtain ⟨t, t1, t2, t3⟩ := txText_ex _ (hx _ (rdT_mem l m (by omega))) k (by omega)
      have o1 : (⟨#[44]⟩ : ByteArray).size = 1 := rfl
      simp only [spec_TxsText.l0]
      rw [if_pos (by omega), if_pos (by omega), t3, Option.bind_some, if_pos rfl, t1]
      have hw : wrap64 ((m : Int) + 1) = ((m + 1 : Nat) : Int) := wn (n := l.length) (by omega) (by omega)
      by_cases h0 : (m : Int) > 0
      · rw [if_pos h0, if_pos (by clear hw; omega), Option.bind_some, if_pos (by clear hw; rw [ByteArray.size_append]; omega), hw]
        exact ih k (m + 1) _ (by clear hw; omega) (by clear hw; omega) (by clear hw; rw [ByteArray.size_append, ByteArray.size_append]; omega)
      · rw [if_neg h0, Option.bind_some, if_pos (by clear hw; omega), hw]
        exact ih k (m + 1) _ (by clear hw; omega) (by clear hw; omega) (by clear hw; rw [ByteArray.size_append]; omega)
  exact key l.length k 0 (⟨#[]⟩ : ByteArray) (by omega) (by omega) (Nat.zero_le _)
theorem nameOf_ex (up : ByteArray) (v : Nat) (l : List S68) (hup : up.size ≤ 5000) (hv : v ≤ 1000) (hn : l.length ≤ 10) (hx : ∀ x ∈ l, okT x) (k : Nat) (hk : 40000 < k) : ∃ r, spec_NameOf.f k up (v : Int) l = some r ∧ r.size ≤ up.size + 400 := by
  have key : ∀ (d k m : Nat), m + d = l.length → d + 30000 < k → ∃ r, spec_NameOf.l0 k up (v : Int) l (m : Int) = some r ∧ r.size ≤ up.size + 400 := by
    intro d
    induction d with
    | zero =>
      intro k m hd hk
      obtain ⟨k, rfl⟩ : ∃ q, k = q + 1 := ⟨k - 1, by omega⟩
      obtain ⟨t, t1, t2⟩ := txsText_ex l (by omega) hx k (by omega)
      have d1 := specDigits_at v (by omega) (by omega) k (by omega)
      have d2 := digS_size v (by omega)
      have o1 : (⟨#[47]⟩ : ByteArray).size = 1 := rfl
      have o2 : (⟨#[124]⟩ : ByteArray).size = 1 := rfl
      have hsz : ((((up ++ (⟨#[47]⟩ : ByteArray)) ++ digS v) ++ (⟨#[124]⟩ : ByteArray)) ++ t).size ≤ up.size + 400 := by
        rw [ByteArray.size_append, ByteArray.size_append, ByteArray.size_append, ByteArray.size_append]; omega
      obtain ⟨b, hb⟩ := nameOk_ex ((((up ++ (⟨#[47]⟩ : ByteArray)) ++ digS v) ++ (⟨#[124]⟩ : ByteArray)) ++ t) (by omega) k (by omega)
      simp only [spec_NameOf.l0]
      rw [if_neg (by omega), if_pos (by omega), d1, Option.bind_some, if_pos (by rw [ByteArray.size_append]; omega), if_pos (by rw [ByteArray.size_append, ByteArray.size_append]; omega), t1, Option.bind_some, if_pos (by rw [ByteArray.size_append, ByteArray.size_append, ByteArray.size_append]; omega), hb, Option.bind_some]
      cases b
      · exact ⟨_, by rw [if_neg (by decide)], Nat.zero_le _⟩
      · exact ⟨_, by rw [if_pos rfl], hsz⟩
    | succ d ih =>
      intro k m hd hk
      obtain ⟨k, rfl⟩ : ∃ q, k = q + 1 := ⟨k - 1, by omega⟩
      obtain ⟨t, _, _, t3⟩ := txText_ex _ (hx _ (rdT_mem l m (by omega))) 21 (by omega)
      simp only [spec_NameOf.l0]
      rw [if_pos (by omega), if_pos (by omega), t3, Option.bind_some, if_pos rfl, wn (n := l.length) (by omega) (by omega)]
      exact ih k (m + 1) (by omega) (by omega)
  exact key l.length k 0 (by omega) (by omega)
theorem l5Right_ex (c : List Int) (hn : c.length ≤ 9223372036854775807) (i h : Int) (hi : Cu c i) (k : Nat) (hk : 50000 < k) : ∃ r i' h', spec_l5DrawRight.f k c i h = some (r, i', h') ∧ r.size ≤ 3000 ∧ Cu c i' := by
  have inner : ∀ (e k j : Nat) (s : ByteArray) (v x : Nat) (list : List S68) (i h : Int), j + e = 3 → 41000 + e < k → s.size ≤ 5000 → v ≤ 1000 → x ≤ 10 → list.length ≤ j → (∀ y ∈ list, okT y) → Cu c i →
      (∀ (k' : Nat) (t : ByteArray) (i h : Int), k ≤ k' + e + 2 → t.size ≤ s.size + 400 → Cu c i → ∃ r i' h', spec_l5DrawRight.l0 k' t (v : Int) ((x + 1 : Nat) : Int) c i h = some (r, i', h') ∧ r.size ≤ 3000 ∧ Cu c i') →
      ∃ r i' h', spec_l5DrawRight.l1 k s (v : Int) (x : Int) list (j : Int) c i h = some (r, i', h') ∧ r.size ≤ 3000 ∧ Cu c i' := by
    intro e
    induction e with
    | zero =>
      intro k j s v x list i h hd hk hs hv hx hl hf hi hc
      obtain ⟨k, rfl⟩ : ∃ q, k = q + 1 := ⟨k - 1, by omega⟩
      obtain ⟨b, i1, h1, e1, ⟨b0, b1⟩, p1⟩ := below_ex c hn i h 3 hi (by omega) (by omega)
      obtain ⟨t, t1, t2⟩ := nameOf_ex s v list (by omega) hv (by omega) hf k (by omega)
      simp only [spec_l5DrawRight.l1]
      rw [e1, Option.bind_some]; dsimp only
      rw [if_neg (by omega), t1, Option.bind_some, wn (m := x) (n := 100) (by omega) (by omega)]
      exact hc k t i1 h1 (by omega) t2 p1
    | succ e ih =>
      intro k j s v x list i h hd hk hs hv hx hl hf hi hc
      obtain ⟨k, rfl⟩ : ∃ q, k = q + 1 := ⟨k - 1, by omega⟩
      obtain ⟨b, i1, h1, e1, ⟨b0, b1⟩, p1⟩ := below_ex c hn i h 3 hi (by omega) (by omega)
      obtain ⟨t, t1, t2⟩ := nameOf_ex s v list (by omega) hv (by omega) hf k (by omega)
      obtain ⟨q0, q1, q2, q3, i2, h2, e2, ok, p2⟩ := drawRight_ex c hn i1 h1 p1
      simp only [spec_l5DrawRight.l1]
      rw [e1, Option.bind_some]; dsimp only
      by_cases hlt : (j : Int) < b
      · rw [if_pos hlt, e2, Option.bind_some, if_pos (by omega), wn (m := j) (n := 100) (by omega) (by omega)]
        refine ih k (j + 1) s v x _ i2 h2 (by omega) (by omega) hs hv hx (by simp; omega) ?_ p2 (fun k' t i h h1 h2 h3 => hc k' t i h (by omega) h2 h3)
        intro y hy
        rcases List.mem_append.1 hy with hy | hy
        · exact hf y hy
        · rw [List.mem_singleton.1 hy]; exact ok
      · rw [if_neg hlt, t1, Option.bind_some, wn (m := x) (n := 100) (by omega) (by omega)]
        exact hc k t i1 h1 (by omega) t2 p1
  have outer : ∀ (d k x : Nat) (s : ByteArray) (v : Nat) (i h : Int), x + d = 6 → 42000 + 10 * d < k → s.size ≤ 400 * x → v ≤ 2 * x → Cu c i → ∃ r i' h', spec_l5DrawRight.l0 k s (v : Int) (x : Int) c i h = some (r, i', h') ∧ r.size ≤ 3000 ∧ Cu c i' := by
    intro d
    induction d with
    | zero =>
      intro k x s v i h hd hk hs hv hi
      obtain ⟨k, rfl⟩ : ∃ q, k = q + 1 := ⟨k - 1, by omega⟩
      obtain ⟨b, i1, h1, e1, ⟨b0, b1⟩, p1⟩ := below_ex c hn i h 6 hi (by omega) (by omega)
      simp only [spec_l5DrawRight.l0]
      rw [e1, Option.bind_some]; dsimp only
      rw [if_neg (by omega)]
      exact ⟨_, _, _, rfl, by omega, p1⟩
    | succ d ih =>
      intro k x s v i h hd hk hs hv hi
      obtain ⟨k, rfl⟩ : ∃ q, k = q + 1 := ⟨k - 1, by omega⟩
      obtain ⟨b, i1, h1, e1, ⟨b0, b1⟩, p1⟩ := below_ex c hn i h 6 hi (by omega) (by omega)
      obtain ⟨y, i2, h2, e2, ⟨y0, y1⟩, p2⟩ := below_ex c hn i1 h1 4 p1 (by omega) (by omega)
      simp only [spec_l5DrawRight.l0]
      rw [e1, Option.bind_some]; dsimp only
      by_cases hlt : (x : Int) < b
      · obtain ⟨z, ez, hz⟩ : ∃ z : Nat, wrap64 (wrap64 ((v : Int) + 1) + wrap64 (Int.tdiv y 3)) = (z : Int) ∧ z ≤ 2 * (x + 1) := by
          have hy : Int.tdiv y 3 = y / 3 := Int.tdiv_eq_ediv_of_nonneg y0
          rw [hy]
          refine ⟨v + 1 + (y / 3).toNat, ?_, by omega⟩
          have w1 : wrap64 ((v : Int) + 1) = (v : Int) + 1 := by clear hy; unfold wrap64; omega
          have w2 : wrap64 (y / 3) = y / 3 := by clear hy w1; unfold wrap64; omega
          rw [w1, w2]
          clear w1 w2 hy
          unfold wrap64
          omega
        rw [if_pos hlt, e2, Option.bind_some]; dsimp only
        rw [ez]
        refine inner 3 k 0 s z x [] i2 h2 (by omega) (by clear ez; omega) (by clear ez; omega) (by clear ez; omega) (by clear ez; omega) (by simp) (by simp) p2 ?_
        intro k' t i h g1 g2 g3
        exact ih k' (x + 1) t z i h (by clear ez; omega) (by clear ez; omega) (by clear ez; omega) hz g3
      · rw [if_neg hlt]
        exact ⟨_, _, _, rfl, by omega, p1⟩
  unfold spec_l5DrawRight.f
  exact outer 6 k 0 (⟨#[]⟩ : ByteArray) 0 i h (by omega) (by omega) (Nat.zero_le _) (by omega) hi
theorem dent_ex (c : List Int) (hn : c.length ≤ 9223372036854775807) (i h : Int) (hi : Cu c i) (s : ByteArray) (hs : s.size ≤ 9000) : ∃ r i' h', spec_l2Dent.f c i h s = some (r, i', h') ∧ r.size ≤ s.size + 1 ∧ Cu c i' := by
  have hw : wrap64 ((s.size : Int) + 1) = (s.size : Int) + 1 := by unfold wrap64; omega
  obtain ⟨x, i1, h1, e1, ⟨a0, a1⟩, p1⟩ := below_ex c hn i h ((s.size : Int) + 1) hi (by clear hw; omega) (by clear hw; omega)
  obtain ⟨y, i2, h2, e2, ⟨b0, b1⟩, p2⟩ := below_ex c hn i1 h1 5 p1 (by omega) (by omega)
  obtain ⟨t, i3, h3, e3, ht, p3⟩ := pick_ex c hn i2 h2 p2 [(⟨#[48]⟩ : ByteArray), (⟨#[44]⟩ : ByteArray), (⟨#[62]⟩ : ByteArray), (⟨#[47]⟩ : ByteArray), (⟨#[124]⟩ : ByteArray), (⟨#[120]⟩ : ByteArray), (⟨#[49]⟩ : ByteArray)] (by simp) (by simp) (by
    intro x hx
    simp only [List.mem_cons, List.not_mem_nil, or_false] at hx
    rcases hx with rfl | rfl | rfl | rfl | rfl | rfl | rfl <;> rfl)
  have c1 : x ≤ (s.size : Int) := by clear hw; omega
  have z1 : (s.extract 0 x.toNat).size ≤ s.size := by rw [ByteArray.size_extract]; clear hw; omega
  have z2 : (s.extract 0 x.toNat).size + (s.extract x.toNat s.size).size ≤ s.size := by rw [ByteArray.size_extract, ByteArray.size_extract]; clear hw; omega
  unfold spec_l2Dent.f
  rw [hw]
  clear hw
  rw [e1, Option.bind_some]; dsimp only
  rw [e2, Option.bind_some]; dsimp only
  by_cases h0 : y = 0
  · rw [if_pos h0, if_pos a0, if_pos c1]
    exact ⟨_, _, _, rfl, by omega, p2⟩
  · rw [if_neg h0]
    by_cases h1 : y = 1
    · rw [if_pos h1, if_pos a0, if_pos c1, e3, Option.bind_some]; dsimp only
      rw [if_pos (by omega), if_pos (by rw [ByteArray.size_append]; omega)]
      refine ⟨_, _, _, rfl, ?_, p3⟩
      rw [ByteArray.size_append, ByteArray.size_append]; omega
    · rw [if_neg h1]
      exact ⟨_, _, _, rfl, by omega, p2⟩
theorem l5Draw_ex (c : List Int) (hn : c.length ≤ 9223372036854775807) (i h : Int) (hi : Cu c i) (k : Nat) (hk : 50100 < k) : ∃ r i' h', spec_l5Draw.f k c i h = some (r, i', h') ∧ r.size ≤ 4000 ∧ Cu c i' := by
  have key : ∀ (d k x : Nat) (s : ByteArray) (i h : Int), x + d = 32 → d + 50 < k → s.size ≤ 10 * x → Cu c i → ∃ r i' h', spec_l5Draw.l0 k s (x : Int) c i h = some (r, i', h') ∧ r.size ≤ 4000 ∧ Cu c i' := by
    intro d
    induction d with
    | zero =>
      intro k x s i h hd hk hs hi
      obtain ⟨k, rfl⟩ : ∃ q, k = q + 1 := ⟨k - 1, by omega⟩
      obtain ⟨b, i1, h1, e1, ⟨b0, b1⟩, p1⟩ := below_ex c hn i h 2 hi (by omega) (by omega)
      have hw : wrap64 (30 + b) = 30 + b := by unfold wrap64; omega
      simp only [spec_l5Draw.l0]
      rw [e1, Option.bind_some]; dsimp only
      rw [hw]
      clear hw
      rw [if_neg (by omega)]
      exact ⟨_, _, _, rfl, by omega, p1⟩
    | succ d ih =>
      intro k x s i h hd hk hs hi
      obtain ⟨k, rfl⟩ : ∃ q, k = q + 1 := ⟨k - 1, by omega⟩
      obtain ⟨b, i1, h1, e1, ⟨b0, b1⟩, p1⟩ := below_ex c hn i h 2 hi (by omega) (by omega)
      have d1 := specDigits_at x (by omega) (by omega) k (by omega)
      have d2 := digS_size x (by omega)
      have o1 : (⟨#[47]⟩ : ByteArray).size = 1 := rfl
      have o2 : (⟨#[124]⟩ : ByteArray).size = 1 := rfl
      have hw : wrap64 (30 + b) = 30 + b := by unfold wrap64; omega
      simp only [spec_l5Draw.l0]
      rw [e1, Option.bind_some]; dsimp only
      rw [hw]
      clear hw
      by_cases hlt : (x : Int) ≤ 30 + b
      · rw [if_pos hlt, if_pos (by omega), d1, Option.bind_some, if_pos (by rw [ByteArray.size_append]; omega), if_pos (by rw [ByteArray.size_append, ByteArray.size_append]; omega), wn (m := x) (n := 100) (by omega) (by omega)]
        exact ih k (x + 1) _ i1 h1 (by omega) (by omega) (by rw [ByteArray.size_append, ByteArray.size_append, ByteArray.size_append]; omega) p1
      · rw [if_neg hlt]
        exact ⟨_, _, _, rfl, by omega, p1⟩
  obtain ⟨b, i1, h1, e1, p1⟩ := once_ex c hn i h 20 hi (by omega) (by omega)
  unfold spec_l5Draw.f
  rw [e1, Option.bind_some]; dsimp only
  cases b
  · rw [if_neg (by decide)]
    obtain ⟨r, i2, h2, e2, r2, p2⟩ := l5Right_ex c hn i1 h1 p1 k (by omega)
    obtain ⟨t, i3, h3, e3, r3, p3⟩ := dent_ex c hn i2 h2 p2 r (by omega)
    rw [e2, Option.bind_some]; dsimp only
    rw [e3, Option.bind_some]
    exact ⟨t, i3, h3, rfl, by omega, p3⟩
  · rw [if_pos rfl]
    exact key 31 k 1 (⟨#[]⟩ : ByteArray) i1 h1 (by omega) (by omega) (Nat.zero_le _) p1
theorem l6Set_ex (c : List Int) (hn : c.length ≤ 9223372036854775807) (i h n : Int) (hi : Cu c i) (h0 : 0 < n) (h1 : n ≤ 256) (k : Nat) (hk : 200 < k) : ∃ r i' h', spec_l6DrawSet.f k c i h n = some (r, i', h') ∧ r.length ≤ 20 ∧ Cu c i' := by
  have key : ∀ (d k x : Nat) (s : List Int) (i h : Int), x + d = 8 → d + 50 < k → s.length ≤ x → Cu c i → ∃ r i' h', spec_l6DrawSet.l0 k n s (x : Int) c i h = some (r, i', h') ∧ r.length ≤ 20 ∧ Cu c i' := by
    have fin : ∀ (s : List Int) (i h : Int), s.length ≤ 8 → Cu c i → ∃ r i' h', (spec_l1Once.f c i h 12).bind (fun bt458 => (if bt458.1 = true then ((spec_l1PickInt.f c bt458.2.1 bt458.2.2 (([(-1), 0, 3, 9] : List Int))).bind fun bt464 => (if s.length < 17592186044416 then (some ((s ++ [bt464.1]), bt464.2.1, bt464.2.2)) else (none))) else (some (s, bt458.2.1, bt458.2.2)))) = some (r, i', h') ∧ r.length ≤ 20 ∧ Cu c i' := by
      intro s i h hs hi
      obtain ⟨b, i1, h1, e1, p1⟩ := once_ex c hn i h 12 hi (by omega) (by omega)
      obtain ⟨y, i2, h2, e2, _, p2⟩ := pickInt_ex c hn i1 h1 p1 [(-1), 0, 3, 9] (by simp) (by simp)
      rw [e1, Option.bind_some]; dsimp only
      cases b
      · rw [if_neg (by decide)]; exact ⟨_, _, _, rfl, by omega, p1⟩
      · rw [if_pos rfl, e2, Option.bind_some, if_pos (by omega)]; exact ⟨_, _, _, rfl, by simp; omega, p2⟩
    intro d
    induction d with
    | zero =>
      intro k x s i h hd hk hs hi
      obtain ⟨k, rfl⟩ : ∃ q, k = q + 1 := ⟨k - 1, by omega⟩
      obtain ⟨b, i1, h1, e1, ⟨b0, b1⟩, p1⟩ := below_ex c hn i h 8 hi (by omega) (by omega)
      simp only [spec_l6DrawSet.l0]
      rw [e1, Option.bind_some]; dsimp only
      rw [if_neg (by omega)]
      exact fin s i1 h1 (by omega) p1
    | succ d ih =>
      intro k x s i h hd hk hs hi
      obtain ⟨k, rfl⟩ : ∃ q, k = q + 1 := ⟨k - 1, by omega⟩
      obtain ⟨b, i1, h1', e1, ⟨b0, b1⟩, p1⟩ := below_ex c hn i h 8 hi (by omega) (by omega)
      obtain ⟨y, i2, h2, e2, _, p2⟩ := below_ex c hn i1 h1' n p1 h0 (by omega)
      obtain ⟨r, r1, r2⟩ := setAdd_ex s y (by omega) k (by omega)
      simp only [spec_l6DrawSet.l0]
      rw [e1, Option.bind_some]; dsimp only
      by_cases hlt : (x : Int) < b
      · rw [if_pos hlt, e2, Option.bind_some]; dsimp only
        rw [r1, Option.bind_some, wn (m := x) (n := 100) (by omega) (by omega)]
        exact ih k (x + 1) r i2 h2 (by omega) (by omega) (by omega) p2
      · rw [if_neg hlt]
        exact fin s i1 h1' (by omega) p1
  unfold spec_l6DrawSet.f
  exact key 8 k 0 [] i h (by omega) (by omega) (by simp) hi
def confB (a b : Int) : Bool := decide (4 ≤ a ∧ a ≤ 7 ∧ 1 ≤ b ∧ b ≤ 6)
theorem implConf_at (a b : Int) : impl_ConfOk.f a b = some (confB a b) := by
  unfold impl_ConfOk.f impl_within.f confB
  by_cases h : a ≥ 4 <;> by_cases h2 : a ≤ 7 <;> by_cases h3 : b ≥ 1 <;> simp [h, h2, h3] <;> omega
theorem specConf_at (a b : Int) : spec_ConfOk.f a b = some (confB a b) := implConf_at a b
/-- At which place of the order of a view a replica is; -1 where there is none. -/
def seatZ (a b v i : Int) : Int := if confB a b = true ∧ 0 ≤ v ∧ 0 ≤ i ∧ i < a then (i + a - v % a) % a else -1
/-- Who sits at a place. -/
def sitsZ (a b v s : Int) : Int := if confB a b = true ∧ 0 ≤ v ∧ 0 ≤ s ∧ s < a then (v % a + s) % a else -1
theorem confB_iff {a b : Int} (h : confB a b = true) : (a = 4 ∨ a = 5 ∨ a = 6 ∨ a = 7) ∧ 1 ≤ b ∧ b ≤ 6 := by
  unfold confB at h
  have := of_decide_eq_true h
  omega
theorem slEqual_l (xs ys : List Int) (hl : ys.length = xs.length) (hn : xs.length ≤ 9223372036854775807) : ∀ (d k m : Nat), m + d = xs.length → d < k →
    slices_Equal_int_int.l0 k xs ys (xs.length : Int) (m : Int) = some (decide (xs.drop m = ys.drop m)) := by
  intro d
  induction d with
  | zero =>
    intro k m hd hk
    obtain ⟨k, rfl⟩ : ∃ q, k = q + 1 := ⟨k - 1, by omega⟩
    simp only [slices_Equal_int_int.l0]
    rw [if_neg (by omega), List.drop_of_length_le (by omega), List.drop_of_length_le (by omega)]
    simp
  | succ d ih =>
    intro k m hd hk
    obtain ⟨k, rfl⟩ : ∃ q, k = q + 1 := ⟨k - 1, by omega⟩
    simp only [slices_Equal_int_int.l0]
    rw [if_pos (by omega), if_pos (by omega), if_pos (by omega), if_pos (by omega), wn (n := xs.length) (by omega) hn, ih k (m + 1) (by omega) (by omega), drop_at xs m (by omega), drop_at ys m (by omega)]
    by_cases h : rd xs m = rd ys m <;> simp [h]
theorem slEqual_at (xs ys : List Int) (hn : xs.length ≤ 9223372036854775807) (k : Nat) (hk : xs.length < k) : slices_Equal_int_int.f k xs ys = some (decide (xs = ys)) := by
  unfold slices_Equal_int_int.f
  by_cases h : (xs.length : Int) = (ys.length : Int)
  · rw [if_pos h]
    have := slEqual_l xs ys (by omega) hn xs.length k 0 (by omega) hk
    simpa using this
  · rw [if_neg h]
    have : xs ≠ ys := fun e => h (by rw [e])
    simp [this]
/-- Two certificates are alike. -/
def qcB (v : Int) (s : ByteArray) (l : List Int) (v' : Int) (s' : ByteArray) (l' : List Int) : Bool := decide (v = v' ∧ s.toList = s'.toList ∧ l = l')
theorem implQcSame_at (v : Int) (s : ByteArray) (l : List Int) (v' : Int) (s' : ByteArray) (l' : List Int) (hn : l.length ≤ 9223372036854775807) (k : Nat) (hk : 2 * l.length + 1 < k) :
    impl_QcSame.f k v s l v' s' l' = some (qcB v s l v' s' l') := by
  unfold impl_QcSame.f qcB
  rw [slEqual_at l l' hn k (by omega)]
  by_cases h1 : v = v' <;> by_cases h2 : s.toList = s'.toList <;> simp [h1, h2]
/-- A text is a name; its view; what it stands on. -/
noncomputable def okN (s : ByteArray) : Bool := (stepsV s).2
noncomputable def vwN (s : ByteArray) : Int := lastV (stepsV s).1
noncomputable def setN (n : Int) (l : List Int) : Bool := if h : l.length ≤ 9223372036854775807 then Classical.choose (setOk_at n l h) else false
theorem setN_at (n : Int) (l : List Int) (hn : l.length ≤ 9223372036854775807) (k : Nat) (hk : l.length < k) : spec_SetOk.f k n l = some (setN n l) ∧ impl_SetOk.f k n l = some (setN n l) := by
  unfold setN
  rw [dif_pos hn]
  exact Classical.choose_spec (setOk_at n l hn) k hk
def quoZ (a b : Int) : Int := if confB a b = true then a - (a - 1) / 3 else 0
theorem quoZ_at (a b : Int) : spec_Quorum.f a b = some (quoZ a b) ∧ impl_Quorum.f a b = some (quoZ a b) := by
  unfold spec_Quorum.f impl_Quorum.f impl_Faults.f quoZ
  rw [specConf_at, implConf_at]
  cases hc : confB a b
  · simp
  · obtain ⟨ha, _⟩ := confB_iff hc
    simp only [Option.bind_some, if_true]
    rcases ha with rfl | rfl | rfl | rfl <;> refine ⟨?_, ?_⟩ <;> refine congrArg some ?_ <;> simp [wrap64]
/-- A certificate is one. -/
noncomputable def qcN (a b v : Int) (s : ByteArray) (l : List Int) : Bool := confB a b && (okN s && (decide (vwN s = v) && if s.data.toList = [] then ((l.length : Int) == 0) else (setN a l && decide ((l.length : Int) ≥ quoZ a b))))
theorem vwN_pos (s : ByteArray) (hs : s.size < 100000000) : (okN s = true → s.data.toList ≠ [] → 1 ≤ vwN s) ∧ (s.data.toList = [] → vwN s = 0 ∧ okN s = true) := by
  obtain ⟨v, b, v1, _, b1, _, h1, h2⟩ := viewOf_at s hs (3 * s.size + 81) (by omega)
  obtain ⟨e1, _, e2, _⟩ := viewV_at s hs (3 * s.size + 81) (by omega)
  obtain rfl : lastV (stepsV s).1 = v := Option.some.inj (e1.symm.trans v1)
  obtain rfl : (stepsV s).2 = b := Option.some.inj (e2.symm.trans b1)
  exact ⟨h1, h2⟩
theorem qcN_at (a b v : Int) (s : ByteArray) (l : List Int) (hs : s.size < 100000000) (hn : l.length < 100000000) (k : Nat) (hk : 3 * s.size + 2 * l.length + 90 < k) :
    spec_QcOk.f k a b v s l = some (qcN a b v s l) ∧ impl_QcOk.f k a b v s l = some (qcN a b v s l) := by
  obtain ⟨v1, v2, o1, o2⟩ := viewV_at s hs k (by omega)
  obtain ⟨t1, t2⟩ := setN_at a l (by omega) k (by omega)
  obtain ⟨q1, q2⟩ := quoZ_at a b
  obtain ⟨p1, p2⟩ := vwN_pos s hs
  unfold spec_QcOk.f impl_QcOk.f impl_QcFirst.f qcN
  rw [specConf_at, implConf_at]
  have hk2 : 2 * l.length + 1 < k := by omega
  have e0 := implQcSame_at v s l 0 (⟨#[]⟩ : ByteArray) [] (show l.length ≤ 9223372036854775807 by omega) k hk2
  change spec_ViewOf.f k s = some (vwN s) at v1
  change impl_ViewOf.f k s = some (vwN s) at v2
  change spec_NameOk.f k s = some (okN s) at o1
  change impl_NameOk.f k s = some (okN s) at o2
  simp only [Option.bind_some, v1, v2, o1, o2, t1, t2, q1, q2, e0, Lib.toList_data]
  cases hc : confB a b
  · simp
  · simp only [if_true, Bool.true_and]
    by_cases hz : s.data.toList = []
    · obtain ⟨w0, w1⟩ := p2 hz
      rw [w1, w0, if_pos hz]
      by_cases hv0 : v = 0
      · subst hv0
        have e2 : qcB 0 s l 0 (⟨#[]⟩ : ByteArray) [] = ((l.length : Int) == 0) := by
          unfold qcB
          rw [Lib.toList_data, Lib.toList_data, hz]
          cases l with
          | nil => rfl
          | cons x y => simp; omega
        rw [e2]
        cases l with
        | nil => simp [hz]
        | cons x y =>
          have hy : ¬ ((y.length : Int) + 1 = 0) := by omega
          simp [hz, hy]
      · have e2 : qcB v s l 0 (⟨#[]⟩ : ByteArray) [] = false := by unfold qcB; simp [hv0]
        have h3 : ¬ (0 : Int) = v := fun e => hv0 e.symm
        rw [e2]
        simp [hv0, h3]
    · have e2 : qcB v s l 0 (⟨#[]⟩ : ByteArray) [] = false := by
        unfold qcB
        rw [Lib.toList_data, Lib.toList_data]
        exact decide_eq_false (fun h => hz h.2.1)
      rw [e2]
      cases ho : okN s
      · simp
      · have hw := p1 ho hz
        by_cases hwv : vwN s = v
        · subst hwv
          have h1 : vwN s ≥ 1 := hw
          simp only [if_true, if_neg hz, if_pos h1, Bool.false_eq_true, if_false, decide_true, Bool.true_and]
          cases setN a l <;> simp
        · have h2 : ¬ v = vwN s := fun e => hwv e.symm
          simp [h2, hwv]
theorem stepQ_view (q : ByteArray) (last : Int) (x : S64) (h : stepQ q last = some x) : last < x.f0 ∧ x.f0 ≤ 60 := by
  unfold stepQ at h
  split at h
  · next c => cases h; exact ⟨c.2.2.2.1, c.2.2.2.2.1⟩
  · cases h
theorem walkP_view : ∀ (t : List ByteArray) (out : List S64) (last : Int), last = lastV out → 0 ≤ last → last ≤ 60 → 0 ≤ lastV (walkP t out last).1 ∧ lastV (walkP t out last).1 ≤ 60
  | [], out, last, e, h0, h1 => by unfold walkP; exact ⟨by rw [← e]; exact h0, by rw [← e]; exact h1⟩
  | p :: t, out, last, e, h0, h1 => by
    unfold walkP
    cases hs : stepQ p last with
    | none => exact ⟨by simp [lastV], by simp [lastV]⟩
    | some x =>
      obtain ⟨a, b⟩ := stepQ_view p last x hs
      exact walkP_view t (out ++ [x]) x.f0 (lastV_snoc out x).symm (by omega) b
theorem vwN_le (s : ByteArray) (hs : s.size < 100000000) : 0 ≤ vwN s ∧ vwN s ≤ 60 := by
  unfold vwN
  rw [stepsV_eq s hs]
  split
  · exact ⟨by simp [lastV], by simp [lastV]⟩
  · split
    · exact walkP_view _ [] 0 (by simp [lastV]) (by omega) (by omega)
    · exact ⟨by simp [lastV], by simp [lastV]⟩
theorem vwN_at (s : ByteArray) (hs : s.size < 100000000) (k : Nat) (hk : 3 * s.size + 80 < k) : spec_ViewOf.f k s = some (vwN s) ∧ impl_ViewOf.f k s = some (vwN s) ∧ spec_NameOk.f k s = some (okN s) ∧ impl_NameOk.f k s = some (okN s) := viewV_at s hs k hk
theorem copyS_at (v : Int) (s : ByteArray) (l : List Int) (hn : l.length < 100000000) : spec_l7Copy.f v s l = some (v, s, l) := by
  unfold spec_l7Copy.f
  rw [Option.bind_some, if_pos (by simp; omega)]; rfl
theorem l7Of_ex (c : List Int) (hn : c.length ≤ 9223372036854775807) (i h : Int) (hi : Cu c i) (n : Nat) (hn7 : n ≤ 10) (b : Int) (s : ByteArray) (hs : s.size ≤ 5000) (k : Nat) (hk : 20000 < k) : ∃ l i' h', spec_l7DrawOf.f k c i h (n : Int) b s = some (vwN s, s, l, i', h') ∧ l.length ≤ 10 ∧ Cu c i' := by
  have key : ∀ (d k x : Nat) (l : List Int) (i h : Int), x + d = n → d + 50 < k → l.length ≤ x → Cu c i → ∃ r i' h', spec_l7DrawOf.l0 k (x : Int) c i h (n : Int) b (vwN s) s l = some (vwN s, s, r, i', h') ∧ r.length ≤ 10 ∧ Cu c i' := by
    intro d
    induction d with
    | zero =>
      intro k x l i h hd hk hl hi
      obtain ⟨k, rfl⟩ : ∃ q, k = q + 1 := ⟨k - 1, by omega⟩
      obtain ⟨o, i1, h1, e1, p1⟩ := once_ex c hn i h 2 hi (by omega) (by omega)
      simp only [spec_l7DrawOf.l0]
      rw [if_neg (by omega), e1, Option.bind_some]; dsimp only
      cases o
      · rw [if_neg (by decide)]; exact ⟨_, _, _, rfl, by omega, p1⟩
      · rw [if_pos rfl]
        by_cases h0 : (l.length : Int) > 0
        · obtain ⟨y, i2, h2, e2, ⟨y0, y1⟩, p2⟩ := below_ex c hn i1 h1 l.length p1 (by omega) (by omega)
          have c1 : y ≤ (l.length:Int) := by omega
          have c2 : 0 ≤ y + 1 := by omega
          have c3 : y + 1 ≤ (l.length : Int) := by omega
          have c4 : ([] : List Int).length + (l.take y.toNat).length < 17592186044416 := by simp; omega
          have c5 : (([] : List Int) ++ l.take y.toNat).length + (l.drop (y+1).toNat).length < 17592186044416 := by simp; omega
          have c6 : (([] : List Int) ++ l.take y.toNat ++ l.drop (y+1).toNat).length ≤ 10 := by simp; omega
          have hw : wrap64 (y + 1) = y + 1 := by clear c4 c5 c6; unfold wrap64; omega
          rw [if_pos h0, e2, Option.bind_some, Option.bind_some]
          simp only [hw, if_pos y0, if_pos c1, Option.bind_some, if_pos c4, if_pos c2, if_pos c3, if_pos c5]
          exact ⟨_, _, _, rfl, c6, p2⟩
        · rw [if_neg h0]; exact ⟨_, _, _, rfl, by omega, p1⟩
    | succ d ih =>
      intro k x l i h hd hk hl hi
      obtain ⟨k, rfl⟩ : ∃ q, k = q + 1 := ⟨k - 1, by omega⟩
      simp only [spec_l7DrawOf.l0]
      rw [if_pos (by omega), if_pos (by omega), wn (m := x) (n := 100) (by omega) (by omega)]
      exact ih k (x + 1) _ i h (by omega) (by omega) (by simp; omega) hi
  have v1 := (vwN_at s (by omega) k (by omega)).1
  unfold spec_l7DrawOf.f
  rw [v1, Option.bind_some]
  split
  · exact ⟨_, _, _, rfl, by simp, hi⟩
  · exact key n k 0 [] i h (by omega) (by omega) (by simp) hi
theorem l7Draw_exB (c : List Int) (hn : c.length ≤ 9223372036854775807) (i h : Int) (hi : Cu c i) (n : Nat) (hn7 : n ≤ 10) (b : Int) (k : Nat) (hk : 60000 < k) : ∃ v s l i' h', spec_l7Draw.f k c i h (n : Int) b = some (v, s, l, i', h') ∧ s.size ≤ 4000 ∧ l.length ≤ 20 ∧ (0 ≤ v ∧ v ≤ 61) ∧ Cu c i' := by
  have hb : ∀ s : ByteArray, s.size ≤ 4000 → 0 ≤ vwN s ∧ vwN s ≤ 60 := fun s hs => vwN_le s (by omega)
  obtain ⟨s, i1, h1, e1, s1, p1⟩ := l5Right_ex c hn i h hi k (by omega)
  obtain ⟨l, i2, h2, e2, l2, p2⟩ := l7Of_ex c hn i1 h1 p1 n hn7 b s (by omega) k (by omega)
  obtain ⟨y, i3, h3, e3, _, p3⟩ := below_ex c hn i2 h2 12 p2 (by omega) (by omega)
  obtain ⟨q, i4, h4, e4, q4, p4⟩ := l6Set_ex c hn i3 h3 7 p3 (by omega) (by omega) k (by omega)
  obtain ⟨t, i5, h5, e5, t5, p5⟩ := l5Draw_ex c hn i3 h3 p3 k (by omega)
  unfold spec_l7Draw.f
  rw [e1, Option.bind_some]; dsimp only
  rw [e2, Option.bind_some]; dsimp only
  rw [e3, Option.bind_some]; dsimp only
  have hv := hb s (by omega)
  have hw : wrap64 (vwN s + 1) = vwN s + 1 := by unfold wrap64; omega
  split
  · exact ⟨_, _, _, _, _, rfl, by clear hw; omega, by clear hw; omega, by rw [hw]; clear hw; omega, p3⟩
  · split
    · rw [e4]; exact ⟨_, _, _, _, _, rfl, by clear hw; omega, by clear hw; omega, by clear hw; omega, p4⟩
    · split
      · rw [e5]; exact ⟨_, _, _, _, _, rfl, by clear hw; omega, by clear hw; omega, by clear hw; omega, p5⟩
      · exact ⟨_, _, _, _, _, rfl, by clear hw; omega, by clear hw; omega, by clear hw; omega, p3⟩
theorem l7Draw_ex (c : List Int) (hn : c.length ≤ 9223372036854775807) (i h : Int) (hi : Cu c i) (n : Nat) (hn7 : n ≤ 10) (b : Int) (k : Nat) (hk : 60000 < k) : ∃ v s l i' h', spec_l7Draw.f k c i h (n : Int) b = some (v, s, l, i', h') ∧ s.size ≤ 4000 ∧ l.length ≤ 20 ∧ Cu c i' := by
  obtain ⟨v, s, l, i', h', e, s1, l1, _, p⟩ := l7Draw_exB c hn i h hi n hn7 b k hk
  exact ⟨v, s, l, i', h', e, s1, l1, p⟩
theorem l7DrawBent_at (s : List Int) (hn : s.length ≤ 9223372036854775807) (i h : Int) (hi : 0 ≤ i ∧ i ≤ s.length) :
    ∃ a b i' h', spec_l7DrawBent.f s i h = some (a, b, i', h') ∧ 0 ≤ i' ∧ i' ≤ s.length := by
  obtain ⟨a, b, i1, h1, e1, _, _, _, _, p1⟩ := l7DrawConf_at s hn i h hi
  obtain ⟨x, i2, h2, e2, x0, x1, p2⟩ := l1Below_at s hn i1 h1 12 p1 (by omega) (by omega)
  obtain ⟨y, i3, h3, e3, _, p3⟩ := l1PickInt_at s hn i2 h2 p2 [0, 3, 8, -1] (by simp) (by simp)
  obtain ⟨z, i4, h4, e4, _, p4⟩ := l1PickInt_at s hn i2 h2 p2 [0, 6, 7] (by simp) (by simp)
  unfold spec_l7DrawBent.f
  rw [e1, Option.bind_some]; dsimp only
  rw [e2, Option.bind_some]; dsimp only
  rw [e3, e4]
  by_cases c0 : x = 0
  · rw [if_pos c0]; exact ⟨_, _, _, _, rfl, p3⟩
  · rw [if_neg c0]
    by_cases c1 : x = 1
    · rw [if_pos c1]; exact ⟨_, _, _, _, rfl, p4⟩
    · rw [if_neg c1]; exact ⟨_, _, _, _, rfl, p2⟩
theorem implCopyQc_at (v : Int) (s : ByteArray) (l : List Int) (hn : l.length < 17592186044416) : impl_copyQc.f v s l = some (v, s, l) := by
  unfold impl_copyQc.f impl_copyInts.f
  rw [if_pos (by simpa using hn)]; rfl
theorem specCopyQc_at (v : Int) (s : ByteArray) (l : List Int) (hn : l.length < 17592186044416) : spec_l7Copy.f v s l = some (v, s, l) := by
  unfold spec_l7Copy.f
  rw [Option.bind_some, if_pos (by simpa using hn)]; rfl
theorem specQcLater_at (v : Int) (s : ByteArray) (l : List Int) (v' : Int) (s' : ByteArray) (l' : List Int) (hn : l.length < 17592186044416) (hn' : l'.length < 17592186044416) :
    spec_QcLater.f v s l v' s' l' = some (if v > v' then (v, s, l) else (v', s', l')) := by
  unfold spec_QcLater.f
  rw [specCopyQc_at v s l hn, specCopyQc_at v' s' l' hn']
  split <;> rfl
theorem implQcLater_at (v : Int) (s : ByteArray) (l : List Int) (v' : Int) (s' : ByteArray) (l' : List Int) (hn : l.length < 17592186044416) (hn' : l'.length < 17592186044416) :
    impl_QcLater.f v s l v' s' l' = some (if v > v' then (v, s, l) else (v', s', l')) := by
  unfold impl_QcLater.f
  rw [implCopyQc_at v s l hn, implCopyQc_at v' s' l' hn']
  split <;> rfl
def faZ (a b : Int) : Int := if confB a b = true then (a - 1) / 3 else 0
theorem faZ_at (a b : Int) : spec_Faults.f a b = some (faZ a b) ∧ impl_Faults.f a b = some (faZ a b) := by
  unfold spec_Faults.f impl_Faults.f faZ
  rw [specConf_at, implConf_at]
  cases hc : confB a b
  · simp
  · obtain ⟨ha, _⟩ := confB_iff hc
    simp only [Option.bind_some, if_true]
    rcases ha with rfl | rfl | rfl | rfl <;> refine ⟨?_, ?_⟩ <;> refine congrArg some ?_ <;> simp [wrap64]
def whoQ (n : Int) : List Int := if n = 4 then [1, 2, 3] else if n = 5 then [1, 2, 3, 4] else if n = 6 then [1, 2, 3, 4, 5] else [2, 3, 4, 5, 6]
/-- The last test. -/
theorem quorums_l (n f : Int) (hn : n = 4 ∨ n = 5 ∨ n = 6 ∨ n = 7) (hf : confB n f = true) (v : Int) (s : ByteArray) (l : List Int) (v' : Int) (s' : ByteArray) (hl : l.length ≤ 1000) (hd : l.Nodup) (hr : ∀ x ∈ l, 0 ≤ x ∧ x < n) (hq : (l.length : Int) ≥ n - (n - 1) / 3) (k : Nat) (hk : 3000 < k) :
    laws_FnQuorums.l0 k [] (faZ n f) n f v s l v' s' l = some true := by
  have f1 := (faZ_at n f).2
  have q1 := (quoZ_at n f).2
  have hall : inN l l = l.length := by
    unfold inN
    rw [List.filter_eq_self.2 (fun x hx => decide_eq_true hx)]
  have e0 : faZ n f = (n - 1) / 3 := by unfold faZ; rw [if_pos hf]
  have e1 : quoZ n f = n - (n - 1) / 3 := by unfold quoZ; rw [if_pos hf]
  have fin : ∀ k', 2990 < k' → ((impl_Common.f k' l l).bind fun t748 => ((impl_Faults.f n f).bind fun t749 => (if t748 > t749 then ((impl_Common.f k' l (whoQ n)).bind fun t750 => ((impl_Faults.f n f).bind fun t751 => (if t750 > t751 then ((impl_Quorum.f n f).bind fun t752 => ((impl_Faults.f n f).bind fun t753 => (some (decide ((wrap64 ((wrap64 (2 * t752)) - n)) > t753))))) else (some false)))) else (some false)))) = some true := by
    intro k' hk'
    have hwl : (whoQ n).length ≤ 5 := by rcases hn with rfl | rfl | rfl | rfl <;> simp [whoQ]
    have c1 := implCommon_at l l (by omega) (by omega) k' (by omega)
    have c2 := implCommon_at l (whoQ n) (by omega) (by omega) k' (by omega)
    have hp : l.length + (whoQ n).length ≤ n.toNat + inN l (whoQ n) := by
      refine pig n.toNat l (whoQ n) hd ?_ ?_ ?_
      · rcases hn with rfl | rfl | rfl | rfl <;> simp [whoQ]
      · intro x hx
        have := hr x hx
        omega
      · intro y hy
        rcases hn with rfl | rfl | rfl | rfl <;> simp [whoQ] at hy <;> omega
    have hwn : ((whoQ n).length : Int) = n - (n - 1) / 3 := by rcases hn with rfl | rfl | rfl | rfl <;> simp [whoQ]
    rw [c1, c2, f1, q1, hall, e0, e1]
    have g1 : (l.length : Int) > (n - 1) / 3 := by omega
    have g2 : (inN l (whoQ n) : Int) > (n - 1) / 3 := by omega
    simp only [Option.bind_some, if_pos g1, if_pos g2]
    have w1 : wrap64 (2 * (n - (n - 1) / 3)) = 2 * (n - (n - 1) / 3) := by clear hp hwn g1 g2; unfold wrap64; omega
    rw [w1]
    have w2 : wrap64 (2 * (n - (n - 1) / 3) - n) = 2 * (n - (n - 1) / 3) - n := by clear hp hwn g1 g2 w1; unfold wrap64; omega
    rw [w2]
    exact congrArg some (decide_eq_true (by clear hp hwn g1 g2 w1 w2; omega))
  obtain ⟨k, rfl⟩ : ∃ q, k = q + 8 := ⟨k - 8, by omega⟩
  rw [e0]
  have go : ∃ k', 2990 < k' ∧ laws_FnQuorums.l0 (k + 8) [] ((n - 1) / 3) n f v s l v' s' l = ((impl_Common.f k' l l).bind fun t748 => ((impl_Faults.f n f).bind fun t749 => (if t748 > t749 then ((impl_Common.f k' l (whoQ n)).bind fun t750 => ((impl_Faults.f n f).bind fun t751 => (if t750 > t751 then ((impl_Quorum.f n f).bind fun t752 => ((impl_Faults.f n f).bind fun t753 => (some (decide ((wrap64 ((wrap64 (2 * t752)) - n)) > t753))))) else (some false)))) else (some false)))) := by
    rcases hn with rfl | rfl | rfl | rfl
    · exact ⟨k + 4, by omega, by simp [laws_FnQuorums.l0, whoQ, wrap64]⟩
    · exact ⟨k + 3, by omega, by simp [laws_FnQuorums.l0, whoQ, wrap64]⟩
    · exact ⟨k + 2, by omega, by simp [laws_FnQuorums.l0, whoQ, wrap64]⟩
    · exact ⟨k + 2, by omega, by simp [laws_FnQuorums.l0, whoQ, wrap64]⟩
  obtain ⟨k', hk', e⟩ := go
  rw [e]
  exact fin k' hk'
theorem qc_facts (a b v : Int) (s : ByteArray) (l : List Int) (hl : l.length ≤ 1000) (h : qcN a b v s l = true) (hz : s.toList ≠ []) :
    confB a b = true ∧ l.Nodup ∧ (∀ x ∈ l, 0 ≤ x ∧ x < a) ∧ (l.length : Int) ≥ a - (a - 1) / 3 := by
  unfold qcN at h
  rw [Lib.toList_data] at hz
  simp only [Bool.and_eq_true, if_neg hz, decide_eq_true_eq] at h
  obtain ⟨hc, _, _, ht, hq⟩ := h
  have h3 := (setN_at a l (by omega) (l.length + 1) (by omega)).1
  rw [ht] at h3
  obtain ⟨hd, hr⟩ := setOk_nodup a l (by omega) _ h3
  unfold quoZ at hq
  rw [if_pos hc] at hq
  exact ⟨hc, hd, hr, hq⟩
theorem Pure.FnQuorums : StatFnQuorums := by
  intro l0 ⟨h1, h2⟩
  have hn : l0.length ≤ 9223372036854775807 := h1
  refine ⟨100000, ?_⟩
  generalize hk : (100000 : Nat) = k
  unfold laws_FnQuorums.f laws_big.f
  rw [Option.bind_some]
  by_cases hb : decide ((l0.length : Int) > 1048576) = true
  · rw [if_pos hb]
  rw [if_neg hb]
  clear hb
  obtain ⟨h0, e0⟩ := l1New_at l0 hn k (by omega)
  obtain ⟨a, b, i1, h3, e1, a0, a1, _, _, p1⟩ := l7DrawConf_at l0 hn 0 h0 ⟨by omega, by omega⟩
  obtain ⟨n, rfl⟩ := Int.eq_ofNat_of_zero_le (show 0 ≤ a by omega)
  obtain ⟨v, s, l, i2, h4, e2, s2, l2, p2⟩ := l7Draw_ex l0 hn i1 h3 p1 n (by omega) b k (by omega)
  obtain ⟨A, B, ed⟩ : ∃ A B, spec_DrawQcOk.f k l0 = some (A, B, v, s, l) := by
    obtain ⟨o, i3, h5, e3, p3⟩ := once_ex l0 hn i2 h4 10 p2 (by omega) (by omega)
    obtain ⟨A, B, i4, h6, e4, _⟩ := l7DrawBent_at l0 hn i3 h5 p3
    unfold spec_DrawQcOk.f
    rw [e0, Option.bind_some]; dsimp only
    rw [e1, Option.bind_some]; dsimp only
    rw [e2, Option.bind_some]; dsimp only
    rw [e3, Option.bind_some]; dsimp only
    cases o
    · rw [if_neg (by decide)]; exact ⟨_, _, rfl⟩
    · rw [if_pos rfl, e4]; exact ⟨_, _, rfl⟩
  obtain ⟨w2, t2, m2, eq', g3⟩ : ∃ w2 t2 m2, spec_DrawQcLater.f k l0 = some (v, s, l, w2, t2, m2) ∧ m2.length ≤ 20 := by
    obtain ⟨o, i5, h7, e5, p5⟩ := once_ex l0 hn i2 h4 3 p2 (by omega) (by omega)
    obtain ⟨w2, t2, m2, i6, h8, e6, _, z6, _⟩ := l7Draw_ex l0 hn i5 h7 p5 n (by omega) b k (by omega)
    unfold spec_DrawQcLater.f spec_l7DrawTwo.f
    rw [e0, Option.bind_some]; dsimp only
    rw [e1, Option.bind_some]; dsimp only
    rw [e2, Option.bind_some]; dsimp only
    rw [e5, Option.bind_some]; dsimp only
    cases o
    · rw [if_neg (by decide), e6]; exact ⟨_, _, _, rfl, z6⟩
    · rw [if_pos rfl, copyS_at v s l (by omega)]; exact ⟨_, _, _, rfl, l2⟩
  obtain ⟨q1, q2⟩ := qcN_at A B v s l (by omega) (by omega) k (by omega)
  obtain ⟨f1, f2⟩ := faZ_at A B
  obtain ⟨u1, u2⟩ := quoZ_at A B
  have ne : ∀ x : Bool, (x != x) = false := fun x => by cases x <;> rfl
  have lS := specQcLater_at v s l w2 t2 m2 (by omega) (by omega)
  have lI := implQcLater_at v s l w2 t2 m2 (by omega) (by omega)
  obtain ⟨W, T, M, hW, hM, hv⟩ : ∃ W T M, (if v > w2 then (v, s, l) else (w2, t2, m2)) = (W, T, M) ∧ M.length ≤ 20 ∧ (W ≥ v ∧ W ≥ w2) := by
    by_cases h : v > w2
    · exact ⟨v, s, l, if_pos h, l2, by omega, by omega⟩
    · exact ⟨w2, t2, m2, if_neg h, g3, by omega, by omega⟩
  rw [hW] at lS lI
  have self : ∀ (v : Int) (s : ByteArray) (l : List Int), l.length ≤ 1000 → impl_QcSame.f k v s l v s l = some true := by
    intro v s l hl
    rw [implQcSame_at v s l v s l (by omega) k (by omega)]
    unfold qcB
    exact congrArg some (decide_eq_true ⟨rfl, rfl, rfl⟩)
  rw [ed, Option.bind_some]; dsimp only
  rw [Option.bind_some]; dsimp only
  rw [q2, Option.bind_some, q1, Option.bind_some, ne, if_neg (by decide), f2, Option.bind_some, f1, Option.bind_some, if_pos rfl, u2, Option.bind_some, u1, Option.bind_some, if_pos rfl, implConf_at, specConf_at, Option.bind_some, Option.bind_some, ne, if_neg (by decide), eq', Option.bind_some]; dsimp only
  rw [lI, Option.bind_some, lS, Option.bind_some]; dsimp only
  rw [self W T M (by omega), Option.bind_some, if_pos rfl, if_neg (by omega)]
  unfold impl_QcFirst.f spec_QcFirst.f
  rw [Option.bind_some, Option.bind_some]; dsimp only
  rw [self 0 (⟨#[]⟩ : ByteArray) [] (by simp), Option.bind_some, if_pos rfl]
  cases hq : qcN A B v s l
  · rw [if_neg (by decide)]
  · rw [if_pos rfl, Option.bind_some, if_pos rfl]
    have hcc : (!(A == A) || (!(B == B))) = false := by simp
    rw [hcc, if_neg (by decide)]
    by_cases hz : s.toList = []
    · rw [if_pos hz]
    · rw [if_neg hz, if_neg hz, Option.bind_some]
      obtain ⟨hc, hd, hr, hge⟩ := qc_facts A B v s l (by omega) hq hz
      exact quorums_l A B (confB_iff hc).1 hc v s l v s (by omega) hd hr hge k (by omega)
end Go.Proofs.YtagpeafaiofkjaaGreatDoor.PFnQuorums
