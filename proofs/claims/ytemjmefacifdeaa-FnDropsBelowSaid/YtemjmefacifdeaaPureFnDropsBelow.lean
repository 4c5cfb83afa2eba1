/- The law FnDropsBelow over bytes: of a drawn table just what is below a view is dropped. No condition but the code's kind. -/
import Derived.Test.YtemjmefacifdeaaStatFnDropsBelow
import Derived.Lib.Strings
import Derived.Lib.ItoaNum
namespace Go.Proofs.Ytemjmefacifdeaa.PFnDropsBelow
open Go.RowKit Go.Proofs.YtemjmefacifdeaaW.PrintWords Go.Proofs.YtemjmefacifdeaaW.PrintLast
set_option linter.unusedVariables false
set_option linter.unusedSimpArgs false
theorem wn {m n : Nat} (h : m < n) (hn : n ≤ 9223372036854775807) : wrap64 ((m : Int) + 1) = ((m + 1 : Nat) : Int) := by unfold wrap64; omega
theorem wi {a : Int} {n : Nat} (h0 : 0 ≤ a) (h : a + (n : Int) ≤ 9223372036854775807) : ∀ {m : Nat}, m < n → wrap64 (a + (m : Int) + 1) = a + ((m + 1 : Nat) : Int) := by
  intro m hm
  unfold wrap64
  omega
theorem len_ok {n : Nat} (h : n ≤ maxLen) : n ≤ 9223372036854775807 := by unfold maxLen at h; omega
theorem set_take {α : Type} (l : List α) (n : Nat) (x : α) (h : n < l.length) : (l.set n x).take (n + 1) = l.take n ++ [x] := by
  rw [List.take_succ_eq_append_getElem (by simpa using h), List.take_set_of_le (Nat.le_refl _)]
  simp
theorem drop_at (l : List Int) (n : Nat) (h : n < l.length) : l.drop n = rd l (n : Int) :: l.drop (n + 1) := by
  rw [List.drop_eq_getElem_cons h]
  simp [rd, List.getD_eq_getElem?_getD, List.getElem?_eq_getElem h]
/-- n numbers that follow each other, from a on. -/
def marks (a : Int) : Nat → List Int
  | 0 => []
  | n + 1 => a :: marks (a + 1) n
theorem marks_length : ∀ (n : Nat) (a : Int), (marks a n).length = n
  | 0, _ => rfl
  | n + 1, a => by simp [marks, marks_length n]
-- imports: Derived.Lib.Strings Derived.Lib.ItoaNum
/-- A text out of its bytes. -/
def mkS (l : List UInt8) : ByteArray := ⟨l.toArray⟩
theorem mkS_list (l : List UInt8) : (mkS l).data.toList = l := by simp [mkS]
theorem mkS_toList (l : List UInt8) : (mkS l).toList = l := by rw [Lib.toList_data, mkS_list]
theorem mkS_size (l : List UInt8) : (mkS l).size = l.length := by simp [mkS, ByteArray.size]
theorem mkS_of (s : ByteArray) : mkS s.data.toList = s := by
  obtain ⟨⟨l⟩⟩ := s
  rfl
theorem len_size (s : ByteArray) : s.data.toList.length = s.size := by
  obtain ⟨⟨l⟩⟩ := s
  rfl
theorem s_ext {s t : ByteArray} (h : s.data.toList = t.data.toList) : s = t := by rw [← mkS_of s, ← mkS_of t, h]
theorem bt_nat (s : ByteArray) (m : Nat) (h : m < s.size) : bt s (m : Int) = ((s.data.toList[m]'(by rw [len_size]; exact h)).toNat : Int) := by
  unfold bt
  rw [dif_pos (show ((m : Int)).toNat < s.size by simpa using h)]
  simp only [Int.toNat_natCast]
  rfl
theorem drop_byte (s : ByteArray) (m : Nat) (h : m < s.size) : ∃ b : UInt8, s.data.toList.drop m = b :: s.data.toList.drop (m + 1) ∧ bt s (m : Int) = (b.toNat : Int) :=
  ⟨s.data.toList[m]'(by rw [len_size]; exact h), List.drop_eq_getElem_cons (by rw [len_size]; exact h), bt_nat s m h⟩
theorem u8_inj {a b : UInt8} : (a.toNat : Int) = (b.toNat : Int) ↔ a = b := by
  constructor
  · intro h; exact UInt8.toNat_inj.1 (by omega)
  · rintro rfl; rfl
/-- A list cut at the first such byte. -/
def cutL (c : UInt8) : List UInt8 → Option (List UInt8 × List UInt8)
  | [] => none
  | b :: l => if b = c then some ([], l) else (cutL c l).map fun p => (b :: p.1, p.2)
theorem cutL_some {c : UInt8} : ∀ {l : List UInt8} {p : List UInt8 × List UInt8}, cutL c l = some p → l = p.1 ++ c :: p.2 ∧ c ∉ p.1
  | [], _, h => by simp [cutL] at h
  | b :: l, p, h => by
    unfold cutL at h
    by_cases hb : b = c
    · rw [if_pos hb] at h
      obtain rfl := Option.some.inj h
      exact ⟨by simp [hb], by simp⟩
    · rw [if_neg hb] at h
      obtain ⟨q, hq, rfl⟩ := Option.map_eq_some_iff.1 h
      obtain ⟨e, hn⟩ := cutL_some hq
      exact ⟨by simp [← e], by simp [hn, Ne.symm hb]⟩
theorem cutL_none {c : UInt8} : ∀ {l : List UInt8}, cutL c l = none → c ∉ l
  | [], _ => by simp
  | b :: l, h => by
    unfold cutL at h
    by_cases hb : b = c
    · rw [if_pos hb] at h; cases h
    · rw [if_neg hb, Option.map_eq_none_iff] at h
      simp [cutL_none h, Ne.symm hb]
theorem cutL_app {c : UInt8} {l r : List UInt8} (h : c ∉ l) : cutL c (l ++ c :: r) = some (l, r) := by
  induction l with
  | nil => simp [cutL]
  | cons b l ih =>
    have hb : ¬ b = c := fun e => h (by simp [e])
    simp only [List.cons_append]
    unfold cutL
    rw [if_neg hb, ih (fun hm => h (List.mem_cons_of_mem _ hm))]
    rfl
def cutS (s : ByteArray) (c : UInt8) : ByteArray × ByteArray × Bool := match cutL c s.data.toList with
  | some p => (mkS p.1, mkS p.2, true)
  | none => (mkS [], mkS [], false)
theorem specCut_at (s : ByteArray) (c : UInt8) (hs : s.size < 4294967281) (k : Nat) (hk : s.size < k) : spec_l2Cut.f k s (c.toNat : Int) = some (cutS s c) := by
  have key : ∀ (d k m : Nat), m + d = s.size → d < k → (∀ p, cutL c s.data.toList = some p → m ≤ p.1.length) → cutL c s.data.toList = (cutL c (s.data.toList.drop m)).map (fun p => (s.data.toList.take m ++ p.1, p.2)) →
      spec_l2Cut.l0 k s (c.toNat : Int) (m : Int) = some (cutS s c) := by
    intro d
    induction d with
    | zero =>
      intro k m hd hk hm he
      obtain ⟨k, rfl⟩ : ∃ q, k = q + 1 := ⟨k - 1, by omega⟩
      simp only [spec_l2Cut.l0]
      rw [if_neg (by omega)]
      rw [List.drop_of_length_le (by rw [len_size]; omega)] at he
      unfold cutS
      rw [he]
      rfl
    | succ d ih =>
      intro k m hd hk hm he
      obtain ⟨k, rfl⟩ : ∃ q, k = q + 1 := ⟨k - 1, by omega⟩
      obtain ⟨b, hb, hbt⟩ := drop_byte s m (by omega)
      have hw : wrap64 ((m : Int) + 1) = ((m + 1 : Nat) : Int) := wn (n := s.size) (by omega) (by omega)
      simp only [spec_l2Cut.l0]
      rw [if_pos (by omega), if_pos (by omega), hbt]
      rw [hb, show cutL c (b :: s.data.toList.drop (m + 1)) = if b = c then some ([], s.data.toList.drop (m + 1)) else (cutL c (s.data.toList.drop (m + 1))).map (fun p => (b :: p.1, p.2)) from rfl] at he
      by_cases hc : b = c
      · rw [if_pos (u8_inj.2 hc), if_pos (by omega), hw, if_pos (by omega), if_pos (by omega)]
        rw [if_pos hc] at he
        unfold cutS
        rw [he]
        simp only [Option.map_some, List.append_nil, Int.toNat_natCast]
        rw [Lib.extract_eq, Lib.extract_eq]
        simp only [mkS, List.drop_zero, Nat.sub_zero, Int.toNat_natCast]
        rw [List.take_of_length_le (l := s.data.toList.drop (m + 1)) (by rw [List.length_drop, len_size]; omega)]
      · rw [if_neg (fun e => hc (u8_inj.1 e)), hw]
        rw [if_neg hc] at he
        have hl : m < s.data.toList.length := by rw [len_size]; omega
        have hg : b = s.data.toList[m] := by
          have := List.drop_eq_getElem_cons hl
          rw [hb] at this
          exact (List.cons.inj this).1
        refine ih k (m + 1) (by omega) (by omega) ?_ ?_
        · intro p hp
          rw [he] at hp
          obtain ⟨q, hq, rfl⟩ := Option.map_eq_some_iff.1 hp
          obtain ⟨q', _, rfl⟩ := Option.map_eq_some_iff.1 hq
          simp [len_size]; omega
        · rw [he, Option.map_map]
          congr 1
          funext p
          simp only [Function.comp, Prod.mk.injEq, and_true]
          rw [List.take_succ_eq_append_getElem hl, hg]
          simp
  have h0 := key s.size k 0 (by omega) hk (fun p _ => Nat.zero_le _) (by simp)
  unfold spec_l2Cut.f
  exact h0
/-- A list parted at each such byte. -/
def splitL (c : UInt8) : List UInt8 → List (List UInt8)
  | [] => [[]]
  | b :: l => if b = c then [] :: splitL c l else match splitL c l with
    | [] => [[b]]
    | h :: t => (b :: h) :: t
/-- What stands ahead is put ahead of the first part. -/
def glue (p : List UInt8) : List (List UInt8) → List (List UInt8)
  | [] => [p]
  | h :: t => (p ++ h) :: t
theorem splitL_ne (c : UInt8) : ∀ l, ∃ h t, splitL c l = h :: t
  | [] => ⟨[], [], rfl⟩
  | b :: l => by
    obtain ⟨h, t, e⟩ := splitL_ne c l
    unfold splitL
    by_cases hb : b = c
    · rw [if_pos hb]; exact ⟨_, _, rfl⟩
    · rw [if_neg hb, e]; exact ⟨_, _, rfl⟩
theorem splitL_eq (c : UInt8) (l : List UInt8) : splitL c (c :: l) = [] :: splitL c l := by rw [splitL, if_pos rfl]
theorem splitL_cons {b c : UInt8} (h : ¬ b = c) (l : List UInt8) : splitL c (b :: l) = glue [b] (splitL c l) := by
  obtain ⟨x, t, e⟩ := splitL_ne c l
  rw [splitL, if_neg h, e]
  rfl
theorem glue_nil {c : UInt8} {l : List UInt8} : glue [] (splitL c l) = splitL c l := by
  obtain ⟨x, t, e⟩ := splitL_ne c l
  rw [e]; rfl
theorem glue_glue (p q : List UInt8) {c : UInt8} {l : List UInt8} : glue p (glue q (splitL c l)) = glue (p ++ q) (splitL c l) := by
  obtain ⟨x, t, e⟩ := splitL_ne c l
  rw [e]; simp [glue]
theorem splitL_length (c : UInt8) : ∀ l : List UInt8, (splitL c l).length ≤ l.length + 1
  | [] => by simp [splitL]
  | b :: l => by
    have ih := splitL_length c l
    by_cases h : b = c
    · subst h; rw [splitL_eq]; simp; omega
    · obtain ⟨x, t, e⟩ := splitL_ne c l
      rw [splitL_cons h, e]
      rw [e] at ih
      simp [glue] at ih ⊢; omega
theorem splitL_part (c : UInt8) : ∀ (l : List UInt8) (p : List UInt8), p ∈ splitL c l → p.length ≤ l.length
  | [], p, h => by simp [splitL] at h; simp [h]
  | b :: l, p, h => by
    have ih := splitL_part c l
    by_cases hb : b = c
    · subst hb
      rw [splitL_eq] at h
      rcases List.mem_cons.1 h with rfl | h
      · simp
      · have := ih p h; simp; omega
    · obtain ⟨x, t, e⟩ := splitL_ne c l
      rw [splitL_cons hb, e] at h
      rcases List.mem_cons.1 h with rfl | h
      · have := ih x (by rw [e]; simp); simp; omega
      · have := ih p (by rw [e]; simp [h]); simp; omega
theorem splitL_cut (c : UInt8) : ∀ l : List UInt8, splitL c l = match cutL c l with
    | some p => p.1 :: splitL c p.2
    | none => [l]
  | [] => rfl
  | b :: l => by
    have ih := splitL_cut c l
    by_cases h : b = c
    · subst h; rw [splitL_eq]; simp [cutL]
    · rw [splitL_cons h, ih, show cutL c (b :: l) = (cutL c l).map (fun p => (b :: p.1, p.2)) by rw [cutL, if_neg h]]
      cases cutL c l <;> simp [glue]
def splitA (c : UInt8) (s : ByteArray) : List ByteArray := (splitL c s.data.toList).map mkS
theorem specSplit_at (s : ByteArray) (c : UInt8) (hs : s.size < 4294967281) (k : Nat) (hk : s.size + 2 < k) : spec_Split.f k s (c.toNat : Int) = some (splitA c s) := by
  have key : ∀ (d k m f : Nat) (out : List ByteArray), m + d = s.size → d + 2 < k → f ≤ m → out.length + d + 1 < 8796093022208 →
      spec_Split.l0 k s (c.toNat : Int) out (f : Int) (m : Int) = some (out ++ (glue ((s.data.toList.drop f).take (m - f)) (splitL c (s.data.toList.drop m))).map mkS) := by
    intro d
    induction d with
    | zero =>
      intro k m f out hd hk hf ho
      obtain ⟨k, rfl⟩ : ∃ q, k = q + 2 := ⟨k - 2, by omega⟩
      have hw : wrap64 ((m : Int) + 1) = ((m + 1 : Nat) : Int) := wn (n := m + 1) (by omega) (by omega)
      simp only [spec_Split.l0]
      rw [if_pos (show (m : Int) ≤ (s.size : Int) by omega), if_pos (show (m : Int) = (s.size : Int) by omega), if_pos (by omega), if_pos (by omega), if_pos (by omega), hw, if_neg (by omega)]
      rw [List.drop_of_length_le (i := m) (by rw [len_size]; omega)]
      simp only [splitL, glue, List.append_nil, List.map_cons, List.map_nil, Int.toNat_natCast]
      rw [Lib.extract_eq]
      rfl
    | succ d ih =>
      intro k m f out hd hk hf ho
      obtain ⟨k, rfl⟩ : ∃ q, k = q + 1 := ⟨k - 1, by omega⟩
      obtain ⟨b, hb, hbt⟩ := drop_byte s m (by omega)
      have hw : wrap64 ((m : Int) + 1) = ((m + 1 : Nat) : Int) := wn (n := s.size) (by omega) (by omega)
      have hl : m < s.data.toList.length := by rw [len_size]; omega
      have hg : s.data.toList[m] = b := by
        have := List.drop_eq_getElem_cons hl
        rw [hb] at this
        exact (List.cons.inj this).1.symm
      simp only [spec_Split.l0]
      rw [if_pos (show (m : Int) ≤ (s.size : Int) by omega), if_neg (show ¬ (m : Int) = (s.size : Int) by omega), if_pos (by omega), if_pos (by omega), hbt, hb]
      by_cases hc : b = c
      · subst hc
        rw [if_pos rfl, if_pos (by omega), if_pos (by omega), if_pos (by omega), hw, ih k (m + 1) (m + 1) _ (by omega) (by omega) (Nat.le_refl _) (by simp; omega), splitL_eq, Nat.sub_self, List.take_zero, glue_nil]
        simp only [glue, List.append_nil, List.map_cons, Int.toNat_natCast]
        rw [Lib.extract_eq]
        simp [mkS]
      · rw [if_neg (fun e => hc (u8_inj.1 e)), hw, ih k (m + 1) f _ (by omega) (by omega) (by omega) (by omega), splitL_cons hc, glue_glue]
        congr 4
        rw [show m + 1 - f = (m - f) + 1 by omega, List.take_succ_eq_append_getElem (by rw [List.length_drop]; omega), List.getElem_drop]
        congr 2
        rw [← hg]
        congr 1
        omega
  have h0 := key s.size k 0 0 [] (by omega) (by omega) (Nat.le_refl _) (by simp; omega)
  unfold spec_Split.f splitA
  simp only [Nat.sub_self, List.take_zero, List.drop_zero, glue_nil, List.nil_append] at h0
  exact h0
/-- A number's numeral. -/
def digS (n : Nat) : ByteArray := mkS (Lib.decDigits n)
theorem dig_isDigit (n : Nat) : ∀ b ∈ Lib.decDigits n, 48 ≤ b.toNat ∧ b.toNat ≤ 57 := by
  induction n using Nat.strongRecOn with
  | _ n ih =>
    intro b hb
    rw [Lib.decDigits] at hb
    by_cases h : n < 10
    · rw [dif_pos h] at hb
      obtain rfl := List.mem_singleton.1 hb
      rw [UInt8.toNat_ofNat']
      omega
    · rw [dif_neg h] at hb
      rcases List.mem_append.1 hb with hb | hb
      · exact ih (n / 10) (by omega) b hb
      · obtain rfl := List.mem_singleton.1 hb
        rw [UInt8.toNat_ofNat']
        omega
theorem dig_ne (n : Nat) (c : UInt8) (h : c.toNat < 48 ∨ 57 < c.toNat) : c ∉ Lib.decDigits n := fun hm => by
  have := dig_isDigit n c hm
  omega
theorem dig_len (j : Nat) : ∀ n, n < 10 ^ (j + 1) → (Lib.decDigits n).length ≤ j + 1 := by
  induction j with
  | zero => intro n h; rw [Lib.decDigits_one (by omega)]; simp
  | succ j ih =>
    intro n h
    rw [Lib.decDigits]
    by_cases h1 : n < 10
    · rw [dif_pos h1]; simp
    · rw [dif_neg h1]
      have := ih (n / 10) (by rw [Nat.pow_succ] at h; omega)
      simp only [List.length_append, List.length_singleton]; omega
theorem dig_pos (n : Nat) : 0 < (Lib.decDigits n).length := by
  rw [Lib.decDigits]
  split <;> simp
theorem specDigits_l : ∀ (j n k : Nat) (acc : ByteArray), n < 10 ^ j → n ≤ 9223372036854775807 → j < k → acc.size + j ≤ 1000 →
    spec_Digits.l0 k (n : Int) false acc = some (mkS ((if n = 0 then [] else Lib.decDigits n) ++ acc.data.toList)) := by
  intro j
  induction j with
  | zero =>
    intro n k acc h hn hk ha
    obtain ⟨k, rfl⟩ : ∃ q, k = q + 1 := ⟨k - 1, by omega⟩
    obtain rfl : n = 0 := by simpa using h
    simp only [spec_Digits.l0]
    simp [mkS_of]
  | succ j ih =>
    intro n k acc h hn hk ha
    obtain ⟨k, rfl⟩ : ∃ q, k = q + 1 := ⟨k - 1, by omega⟩
    simp only [spec_Digits.l0]
    by_cases h0 : n = 0
    · subst h0; simp [mkS_of]
    · have hm : Int.tmod (n : Int) 10 = ((n % 10 : Nat) : Int) := by rw [Int.tmod_eq_emod_of_nonneg (by omega)]; omega
      have hd : wrap64 (Int.tdiv (n : Int) 10) = ((n / 10 : Nat) : Int) := by
        rw [Int.tdiv_eq_ediv_of_nonneg (by omega)]
        unfold wrap64; omega
      have hw : wrap64 (48 + ((n % 10 : Nat) : Int)) % 256 = ((48 + n % 10 : Nat) : Int) := by unfold wrap64; omega
      rw [if_neg (by omega), hm, if_neg (by omega), Option.bind_some, hw, hd]
      have hs : (strOfNums [((48 + n % 10 : Nat) : Int)]).size = 1 := by rw [strOfNums_size]; rfl
      rw [if_pos (by rw [hs]; omega), ih (n / 10) k _ (by rw [Nat.pow_succ] at h; omega) (by omega) (by omega) (by rw [ByteArray.size_append, hs]; omega)]
      congr 2
      rw [if_neg h0]
      simp only [ByteArray.data_append, Array.toList_append, strOfNums_data, List.map_cons, List.map_nil, Int.toNat_natCast]
      by_cases h1 : n < 10
      · rw [if_pos (by omega), Lib.decDigits_one h1, Nat.mod_eq_of_lt h1]
        rfl
      · have e : Lib.decDigits n = Lib.decDigits (n / 10) ++ [UInt8.ofNat (48 + n % 10)] := by rw [Lib.decDigits, dif_neg h1]
        rw [if_neg (by omega), e]
        simp
theorem specDigits_at (n : Nat) (h : n < 10 ^ 20) (h' : n ≤ 9223372036854775807) (k : Nat) (hk : 20 < k) : spec_Digits.f k (n : Int) = some (digS n) := by
  unfold spec_Digits.f digS
  by_cases h0 : n = 0
  · subst h0
    rw [if_pos (show ((0 : Nat) : Int) = 0 from rfl), Lib.decDigits_one (by omega)]
    rfl
  · rw [if_neg (by omega), show decide ((n : Int) < 0) = false by simp, specDigits_l 20 n k _ h h' hk (by decide), if_neg h0]
    congr 2
    show Lib.decDigits n ++ [] = _
    simp
theorem num_w1 (n b : Int) (h0 : 0 ≤ n) (h1 : n < 1000000) (hb : 48 ≤ b) (hb2 : b ≤ 255) : wrap64 (wrap64 (wrap64 (10 * n) + wrap64 b) - 48) = 10 * n + (b - 48) := by
  have w1 : wrap64 (10 * n) = 10 * n := by unfold wrap64; omega
  have w2 : wrap64 b = b := by unfold wrap64; omega
  rw [w1, w2]
  have w3 : wrap64 (10 * n + b) = 10 * n + b := by unfold wrap64; omega
  rw [w3]
  unfold wrap64; omega
theorem number_l (s : ByteArray) (h6 : s.size ≤ 6) : ∀ (d k m n : Nat), m + d = s.size → d + 25 < k → n < 10 ^ m →
    ∃ r : Int × Bool, spec_Number.l0 k s (n : Int) (m : Int) = some r ∧ ∃ q : Nat, r.1 = (q : Int) ∧ q < 1000000 := by
  intro d
  induction d with
  | zero =>
    intro k m n hd hk hn
    obtain ⟨k, rfl⟩ : ∃ q, k = q + 1 := ⟨k - 1, by omega⟩
    have hp : 10 ^ m ≤ 10 ^ 6 := Nat.pow_le_pow_right (by omega) (by omega)
    have hn6 : n < 1000000 := by omega
    have hs : spec_Number.l0 (k + 1) s (n : Int) (m : Int) = if (digS n).toList = s.toList then some ((n : Int), true) else some (0, false) := by
      simp only [spec_Number.l0]
      rw [if_neg (by omega), specDigits_at n (by omega) (by omega) k (by omega), Option.bind_some]
    rw [hs]
    by_cases h : (digS n).toList = s.toList
    · rw [if_pos h]
      exact ⟨_, rfl, n, rfl, hn6⟩
    · rw [if_neg h]
      exact ⟨_, rfl, 0, rfl, by omega⟩
  | succ d ih =>
    intro k m n hd hk hn
    obtain ⟨k, rfl⟩ : ∃ q, k = q + 1 := ⟨k - 1, by omega⟩
    have hp : 10 ^ m ≤ 10 ^ 6 := Nat.pow_le_pow_right (by omega) (by omega)
    have hn6 : (n : Int) < 1000000 := by omega
    obtain ⟨b, hb, hbt⟩ := drop_byte s m (by omega)
    have hw : wrap64 ((m : Int) + 1) = ((m + 1 : Nat) : Int) := wn (n := s.size) (by omega) (by omega)
    have hs : spec_Number.l0 (k + 1) s (n : Int) (m : Int) = if (b.toNat : Int) < 48 then some (0, false) else if (b.toNat : Int) > 57 then some (0, false) else spec_Number.l0 k s ((10 * n + (b.toNat - 48) : Nat) : Int) ((m + 1 : Nat) : Int) := by
      simp only [spec_Number.l0]
      rw [if_pos (by omega), if_pos (by omega), hbt, hw]
      by_cases h1 : (b.toNat : Int) < 48
      · rw [if_pos h1, if_pos h1]
      · have e1 : wrap64 (wrap64 (wrap64 (10 * (n : Int)) + wrap64 (b.toNat : Int)) - 48) = ((10 * n + (b.toNat - 48) : Nat) : Int) := by
          have := b.toNat_lt
          rw [num_w1 n b.toNat (by omega) hn6 (by omega) (by omega)]; omega
        rw [if_neg h1, if_neg h1, e1]
    rw [hs]
    by_cases h1 : (b.toNat : Int) < 48
    · exact ⟨(0, false), by rw [if_pos h1], 0, rfl, by omega⟩
    · by_cases h2 : (b.toNat : Int) > 57
      · exact ⟨(0, false), by rw [if_neg h1, if_pos h2], 0, rfl, by omega⟩
      · simp only [h1, h2, if_false]
        exact ih k (m + 1) _ (by omega) (by omega) (by rw [Nat.pow_succ]; omega)
theorem num_of (s : ByteArray) (k : Nat) (hk : 40 < k) : ∃ (a : Nat) (m : Bool), a < 1000000 ∧ spec_Number.f k s = some ((a : Int), m) := by
  unfold spec_Number.f
  obtain ⟨k, rfl⟩ : ∃ q, k = q + 1 := ⟨k - 1, by omega⟩
  by_cases h1 : (s.size : Int) < 1
  · refine ⟨0, false, by omega, ?_⟩
    rw [if_pos h1]; simp [spec_Number.j0]
  · by_cases h2 : (s.size : Int) > 6
    · refine ⟨0, false, by omega, ?_⟩
      rw [if_neg h1]; simp only [spec_Number.j0]; rw [if_pos (decide_eq_true h2)]; rfl
    · obtain ⟨⟨r, b⟩, e1, q, rfl, hq⟩ := number_l s (by omega) s.size k 0 0 (by omega) (by omega) (by omega)
      refine ⟨q, b, hq, ?_⟩
      rw [if_neg h1]; simp only [spec_Number.j0]; rw [if_neg (by simpa using h2)]; exact e1
def txB (a b c d : Nat) : Bool := decide ((a : Int) ≤ 3 ∧ (b : Int) ≤ 3 ∧ (c : Int) ≤ 1000 ∧ (d : Int) ≤ 99)
def txL (a b c d : Nat) : List UInt8 := Lib.decDigits a ++ 62 :: (Lib.decDigits b ++ 58 :: (Lib.decDigits c ++ 35 :: Lib.decDigits d))
theorem in_z (x lo hi : Int) : spec_l1In.f x lo hi = some (decide (lo ≤ x ∧ x ≤ hi)) := by
  unfold spec_l1In.f
  by_cases h : x ≥ lo
  · rw [if_pos h]; congr 1; by_cases h2 : x ≤ hi <;> simp [h2] <;> omega
  · rw [if_neg h]; congr 1; symm; exact decide_eq_false (fun x => h x.1)
theorem specTxOk_at (a b c d : Nat) : spec_TxOk.f (a : Int) (b : Int) (c : Int) (d : Int) = some (txB a b c d) := by
  unfold spec_TxOk.f txB
  rw [in_z, in_z, in_z, in_z]
  by_cases h1 : (a : Int) ≤ 3 <;> by_cases h2 : (b : Int) ≤ 3 <;> by_cases h3 : (c : Int) ≤ 1000 <;> by_cases h4 : (d : Int) ≤ 99 <;> simp [h1, h2, h3, h4]
theorem digS_size (n : Nat) (h : n < 1000000) : (digS n).size ≤ 6 := by
  unfold digS
  rw [mkS_size]
  exact dig_len 5 n h
theorem tx_join (a b c d : Nat) : ((((((digS a ++ (⟨#[62]⟩ : ByteArray)) ++ digS b) ++ (⟨#[58]⟩ : ByteArray)) ++ digS c) ++ (⟨#[35]⟩ : ByteArray)) ++ digS d) = mkS (txL a b c d) := by
  apply s_ext
  simp only [ByteArray.data_append, Array.toList_append, mkS_list, digS, txL]
  simp
theorem specTxText_at (a b c d : Nat) (ha : a < 1000000) (hb : b < 1000000) (hc : c < 1000000) (hd : d < 1000000) (k : Nat) (hk : 20 < k) :
    spec_TxText.f k (a : Int) (b : Int) (c : Int) (d : Int) = some (if txB a b c d = true then mkS (txL a b c d) else mkS []) := by
  have s1 := digS_size a ha
  have s2 := digS_size b hb
  have s3 := digS_size c hc
  have s4 := digS_size d hd
  have o1 : (⟨#[62]⟩ : ByteArray).size = 1 := rfl
  have o2 : (⟨#[58]⟩ : ByteArray).size = 1 := rfl
  have o3 : (⟨#[35]⟩ : ByteArray).size = 1 := rfl
  have p : (1000000 : Nat) ≤ 10 ^ 20 := by decide
  unfold spec_TxText.f
  rw [specTxOk_at, Option.bind_some]
  by_cases h : txB a b c d = true
  · rw [if_pos h, if_pos h, specDigits_at a (by omega) (by omega) k hk, Option.bind_some, if_pos (by omega), specDigits_at b (by omega) (by omega) k hk, Option.bind_some, if_pos (by simp only [ByteArray.size_append]; omega), if_pos (by simp only [ByteArray.size_append]; omega),
      specDigits_at c (by omega) (by omega) k hk, Option.bind_some, if_pos (by simp only [ByteArray.size_append]; omega), if_pos (by simp only [ByteArray.size_append]; omega), specDigits_at d (by omega) (by omega) k hk, Option.bind_some, if_pos (by simp only [ByteArray.size_append]; omega), tx_join]
  · rw [if_neg h, if_neg h]; rfl
def tell (s : ByteArray) (a b c d : Nat) : Int × Int × Int × Int × Bool := if txB a b c d = true ∧ txL a b c d = s.data.toList then ((a : Int), (b : Int), (c : Int), (d : Int), true) else (0, 0, 0, 0, false)
theorem specTxOf_core (s x1 x2 x3 y1 y2 y3 : ByteArray) (b1 b2 b3 : Bool) (k : Nat) (hk : 40 < k) (h1 : spec_l2Cut.f k s 62 = some (x1, y1, b1)) (h2 : spec_l2Cut.f k y1 58 = some (x2, y2, b2)) (h3 : spec_l2Cut.f k y2 35 = some (x3, y3, b3))
    (a b c d : Nat) (ha : a < 1000000) (hb : b < 1000000) (hc : c < 1000000) (hd : d < 1000000) (m1 m2 m3 m4 : Bool)
    (n1 : spec_Number.f k x1 = some ((a : Int), m1)) (n2 : spec_Number.f k x2 = some ((b : Int), m2)) (n3 : spec_Number.f k x3 = some ((c : Int), m3)) (n4 : spec_Number.f k y3 = some ((d : Int), m4)) : spec_TxOf.f k s = some (tell s a b c d) := by
  unfold spec_TxOf.f tell
  rw [h1, Option.bind_some]; dsimp only
  rw [h2, Option.bind_some]; dsimp only
  rw [h3, Option.bind_some]; dsimp only
  rw [n1, Option.bind_some, n2, Option.bind_some, n3, Option.bind_some, n4, Option.bind_some]; dsimp only
  rw [specTxText_at a b c d ha hb hc hd k (by omega), Lib.toList_data]
  by_cases e0 : s.data.toList = []
  · rw [if_pos e0, if_neg]
    rintro ⟨_, x⟩
    rw [e0] at x
    have := dig_pos a
    simp [txL] at x
  · rw [if_neg e0, Option.bind_some]
    by_cases h : txB a b c d = true
    · rw [if_pos h, mkS_toList]
      by_cases e : txL a b c d = s.data.toList
      · rw [if_pos e, if_pos ⟨h, e⟩]
      · rw [if_neg e, if_neg (fun x => e x.2)]
    · rw [if_neg h, mkS_toList, if_neg (fun x => e0 x.symm), if_neg (fun x => h x.1)]
theorem cutS_size (x : ByteArray) (c : UInt8) : (cutS x c).1.size ≤ x.size ∧ (cutS x c).2.1.size ≤ x.size := by
  unfold cutS
  cases h : cutL c x.data.toList with
  | none => exact ⟨Nat.zero_le _, Nat.zero_le _⟩
  | some p =>
    obtain ⟨e, _⟩ := cutL_some h
    have hl : x.size = p.1.length + 1 + p.2.length := by rw [← len_size, e]; simp; omega
    exact ⟨by simp only [mkS_size]; omega, by simp only [mkS_size]; omega⟩
theorem txOf_ex (s : ByteArray) (hs : s.size < 4294967281) (k : Nat) (hk : s.size + 41 < k) : ∃ r, spec_TxOf.f k s = some r := by
  have k1 := (cutS_size s 62).2
  have k2 := (cutS_size (cutS s 62).2.1 58).2
  obtain ⟨a, m1, ha, n1⟩ := num_of (cutS s 62).1 k (by omega)
  obtain ⟨b, m2, hb, n2⟩ := num_of (cutS (cutS s 62).2.1 58).1 k (by omega)
  obtain ⟨c, m3, hc, n3⟩ := num_of (cutS (cutS (cutS s 62).2.1 58).2.1 35).1 k (by omega)
  obtain ⟨d, m4, hd, n4⟩ := num_of (cutS (cutS (cutS s 62).2.1 58).2.1 35).2.1 k (by omega)
  exact ⟨_, specTxOf_core s _ _ _ _ _ _ _ _ _ k (by omega) (specCut_at s 62 hs k (by omega)) (specCut_at (cutS s 62).2.1 58 (by omega) k (by omega)) (specCut_at (cutS (cutS s 62).2.1 58).2.1 35 (by omega) k (by omega)) a b c d ha hb hc hd m1 m2 m3 m4 n1 n2 n3 n4⟩
theorem rdOf_mem {α : Type} (d : α) (xs : List α) (m : Nat) (h : m < xs.length) : rdOf d xs (m : Int) ∈ xs := by
  unfold rdOf
  simp [List.getD_eq_getElem?_getD, List.getElem?_eq_getElem h]
theorem splitA_size (c : UInt8) (s : ByteArray) : ∀ p ∈ splitA c s, p.size ≤ s.size := by
  intro p hp
  unfold splitA at hp
  obtain ⟨l, hl, rfl⟩ := List.mem_map.1 hp
  rw [mkS_size, ← len_size]
  exact splitL_part c _ l hl
theorem splitA_length (c : UInt8) (s : ByteArray) : (splitA c s).length ≤ s.size + 1 := by
  unfold splitA
  rw [List.length_map, ← len_size]
  exact splitL_length c _
theorem txsOf_l (ps : List ByteArray) (hL : ps.length < 1000000000000) (B : Nat) (hB : B < 4294967281) (hp : ∀ p ∈ ps, p.size ≤ B) : ∀ (d k m : Nat) (out : List (S87)), m + d = ps.length → d + B + 42 < k → out.length + d < 4398046511104 →
    ∃ r, spec_TxsOf.l0 k out ps (m : Int) = some r ∧ r.1.length ≤ out.length + d := by
  intro d
  induction d with
  | zero =>
    intro k m out hd hk ho
    obtain ⟨k, rfl⟩ : ∃ q, k = q + 1 := ⟨k - 1, by omega⟩
    refine ⟨(out, true), ?_, Nat.le_refl _⟩
    simp only [spec_TxsOf.l0]; rw [if_neg (by omega)]
  | succ d ih =>
    intro k m out hd hk ho
    obtain ⟨k, rfl⟩ : ∃ q, k = q + 1 := ⟨k - 1, by omega⟩
    have hs := hp _ (rdOf_mem ByteArray.empty ps m (by omega))
    obtain ⟨⟨a, b, c, e, ok⟩, h1⟩ := txOf_ex (rdOf ByteArray.empty ps (m : Int)) (by omega) k (by omega)
    have hw : wrap64 ((m : Int) + 1) = ((m + 1 : Nat) : Int) := wn (n := ps.length) (by omega) (by omega)
    have e1 : spec_TxsOf.l0 (k + 1) out ps (m : Int) = if ok = true then spec_TxsOf.l0 k (out ++ [⟨a, b, c, e⟩]) ps ((m + 1 : Nat) : Int) else some ([], false) := by
      simp only [spec_TxsOf.l0]
      rw [if_pos (by omega), if_pos (by omega), h1, Option.bind_some, hw, if_pos (show out.length < 4398046511104 by omega)]
    rw [e1]
    by_cases h : ok = true
    · rw [if_pos h]
      obtain ⟨r, r1, r3⟩ := ih k (m + 1) (out ++ [⟨a, b, c, e⟩]) (by omega) (by omega) (by simp; omega)
      exact ⟨r, r1, by simp at r3; omega⟩
    · rw [if_neg h]
      exact ⟨([], false), rfl, by simp⟩
theorem txsOf_ex (s : ByteArray) (hs : s.size < 100000000) (k : Nat) (hk : 2 * s.size + 50 < k) : ∃ r, spec_TxsOf.f k s = some r := by
  unfold spec_TxsOf.f
  rw [Option.bind_some]
  by_cases h : s.toList = []
  · rw [if_pos h]; exact ⟨_, rfl⟩
  · have g1 := specSplit_at s 44 (by omega) k (by omega)
    rw [show ((44 : UInt8).toNat : Int) = 44 from rfl] at g1
    have hl := splitA_length 44 s
    rw [if_neg h, g1, Option.bind_some]
    obtain ⟨r, r1, _⟩ := txsOf_l (splitA 44 s) (by omega) s.size (by omega) (splitA_size 44 s) (splitA 44 s).length k 0 [] (by omega) (by omega) (by simp; omega)
    exact ⟨r, r1⟩
theorem steps_l (ps : List ByteArray) (hL : ps.length < 1000000000000) (B : Nat) (hB : B < 100000000) (hp : ∀ p ∈ ps, p.size ≤ B) : ∀ (d k m : Nat) (out : List (S94)) (last : Int), m + 1 + d = ps.length → d + 2 * B + 60 < k → out.length + d < 4398046511104 →
    ∃ r, spec_Steps.l0 k [] out ps last ((m + 1 : Nat) : Int) = some r ∧ r.1.length ≤ out.length + d := by
  intro d
  induction d with
  | zero =>
    intro k m out last hd hk ho
    obtain ⟨k, rfl⟩ : ∃ q, k = q + 1 := ⟨k - 1, by omega⟩
    refine ⟨(out, true), ?_, Nat.le_refl _⟩
    simp only [spec_Steps.l0]; rw [if_neg (by omega)]
  | succ d ih =>
    intro k m out last hd hk ho
    obtain ⟨k, rfl⟩ : ∃ q, k = q + 1 := ⟨k - 1, by omega⟩
    have hs := hp _ (rdOf_mem ByteArray.empty ps (m + 1) (by omega))
    generalize hx : rdOf ByteArray.empty ps ((m + 1 : Nat) : Int) = x at hs
    obtain ⟨z1, z2⟩ := cutS_size x 124
    have g1 := specCut_at x 124 (by omega) k (by omega)
    rw [show ((124 : UInt8).toNat : Int) = 124 from rfl] at g1
    obtain ⟨q1, m1, hq1, n1⟩ := num_of (cutS x 124).1 k (by omega)
    obtain ⟨t1, v1⟩ := txsOf_ex (cutS x 124).2.1 (by omega) k (by omega)
    have hlen : out.length < 4398046511104 := by omega
    have a1 : ((m + 1 : Nat) : Int) < (ps.length : Int) := by omega
    have a2 : (0 : Int) ≤ ((m + 1 : Nat) : Int) := by omega
    obtain ⟨r, r1, r2⟩ := ih k (m + 1) (out ++ [⟨(q1 : Int), t1.1⟩]) q1 (by omega) (by omega) (by simp; omega)
    rw [List.length_append, List.length_singleton] at r2
    have bad : ∃ r : List (S94) × Bool, some (([] : List (S94)), false) = some r ∧ r.1.length ≤ out.length + (d + 1) := ⟨_, rfl, by simp⟩
    have good : ∃ r', some r = some r' ∧ r'.1.length ≤ out.length + (d + 1) := ⟨r, rfl, by omega⟩
    have hw : wrap64 (((m + 1 : Nat) : Int) + 1) = ((m + 1 + 1 : Nat) : Int) := wn (n := ps.length) (by omega) (by omega)
    simp only [spec_Steps.l0]
    rw [if_pos a1, if_pos a2, hx, g1, Option.bind_some, n1, Option.bind_some, v1, Option.bind_some, hw, if_pos hlen, r1]
    dsimp only
    repeat' split
    all_goals first | exact bad | exact good
theorem steps_ex (s : ByteArray) (hs : s.size < 100000000) (k : Nat) (hk : 3 * s.size + 80 < k) : ∃ r, spec_Steps.f k s = some r ∧ r.1.length ≤ s.size + 1 := by
  unfold spec_Steps.f
  rw [Option.bind_some, Option.bind_some]
  by_cases h : s.toList = []
  · rw [if_pos h]; exact ⟨_, rfl, by simp⟩
  · have g1 := specSplit_at s 47 (by omega) k (by omega)
    rw [show ((47 : UInt8).toNat : Int) = 47 from rfl] at g1
    have hl := splitA_length 47 s
    have hp : 0 < (splitA 47 s).length := by
      obtain ⟨x, t, e⟩ := splitL_ne 47 s.data.toList
      unfold splitA; rw [e]; simp
    have hpi : 0 < ((splitA 47 s).length : Int) := by omega
    rw [if_neg h, g1, Option.bind_some, if_pos hpi]
    obtain ⟨k, rfl⟩ : ∃ q, k = q + 1 := ⟨k - 1, by omega⟩
    obtain ⟨r, r1, r4⟩ := steps_l (splitA 47 s) (by omega) s.size hs (splitA_size 47 s) ((splitA 47 s).length - 1) k 0 [] 0 (by omega) (by omega) (by simp; omega)
    have r1' : spec_Steps.l0 k [] [] (splitA 47 s) 0 1 = some r := r1
    have good : ∃ r', some r = some r' ∧ r'.1.length ≤ s.size + 1 := ⟨r, rfl, by simp at r4; omega⟩
    have bad : ∃ r : List (S94) × Bool, some (([] : List (S94)), false) = some r ∧ r.1.length ≤ s.size + 1 := ⟨_, rfl, by simp⟩
    simp only [spec_Steps.j0]
    rw [r1']
    repeat' split
    all_goals first | exact bad | exact good
theorem nameOk_ex (s : ByteArray) (hs : s.size < 100000000) (k : Nat) (hk : 3 * s.size + 80 < k) : ∃ b, spec_NameOk.f k s = some b := by
  obtain ⟨r, r1, _⟩ := steps_ex s hs k hk
  unfold spec_NameOk.f
  rw [r1]; exact ⟨_, rfl⟩
theorem viewOf_ex (s : ByteArray) (hs : s.size < 100000000) (k : Nat) (hk : 3 * s.size + 80 < k) : ∃ v, spec_ViewOf.f k s = some v := by
  obtain ⟨r, r1, r2⟩ := steps_ex s hs k hk
  unfold spec_ViewOf.f
  rw [r1, Option.bind_some]
  by_cases h : (r.1.length : Int) = 0
  · by_cases hb : r.2 = true
    · rw [if_pos hb, if_pos h]; exact ⟨_, rfl⟩
    · rw [if_neg hb]; exact ⟨_, rfl⟩
  · have w1 : wrap64 ((r.1.length : Int) - 1) = (r.1.length : Int) - 1 := by unfold wrap64; omega
    have c1 : (0 : Int) ≤ (r.1.length : Int) - 1 := by clear w1; omega
    have c2 : (r.1.length : Int) - 1 < (r.1.length : Int) := by clear w1; omega
    by_cases hb : r.2 = true
    · rw [if_pos hb, if_neg h, w1, if_pos c1, if_pos c2]; exact ⟨_, rfl⟩
    · rw [if_neg hb]; exact ⟨_, rfl⟩
theorem setHas_ex (l : List Int) (x : Int) (hn : l.length ≤ 1000000) (k : Nat) (hk : l.length < k) : ∃ b, spec_SetHas.f k l x = some b := by
  have key : ∀ (d k m : Nat), m + d = l.length → d < k → ∃ b, spec_SetHas.l0 k l x (m : Int) = some b := by
    intro d
    induction d with
    | zero =>
      intro k m hd hk
      obtain ⟨k, rfl⟩ : ∃ q, k = q + 1 := ⟨k - 1, by omega⟩
      simp only [spec_SetHas.l0]
      rw [if_neg (by omega)]; exact ⟨_, rfl⟩
    | succ d ih =>
      intro k m hd hk
      obtain ⟨k, rfl⟩ : ∃ q, k = q + 1 := ⟨k - 1, by omega⟩
      simp only [spec_SetHas.l0]
      rw [if_pos (by omega), if_pos (by omega), wn (n := l.length) (by omega) (by omega)]
      split
      · exact ⟨_, rfl⟩
      · exact ih k (m + 1) (by omega) (by omega)
  exact key l.length k 0 (by omega) hk
theorem setAdd_ex (l : List Int) (x : Int) (hn : l.length ≤ 1000000) (k : Nat) (hk : l.length < k) : ∃ r, spec_SetAdd.f k l x = some r ∧ r.length ≤ l.length + 1 := by
  have fin : ∀ m : Nat, m ≤ l.length → ([] ++ l.take m).length < 17592186044416 ∧ (([] ++ l.take m) ++ [x]).length + (l.drop m).length < 17592186044416 ∧ ((([] ++ l.take m) ++ [x]) ++ l.drop m).length ≤ l.length + 1 := by
    intro m hm
    simp only [List.nil_append, List.length_append, List.length_take, List.length_drop, List.length_singleton]
    omega
  have key : ∀ (d k m : Nat), m + d = l.length → d < k → ∃ r, spec_SetAdd.l0 k l x (m : Int) = some r ∧ r.length ≤ l.length + 1 := by
    intro d
    induction d with
    | zero =>
      intro k m hd hk
      obtain ⟨k, rfl⟩ : ∃ q, k = q + 1 := ⟨k - 1, by omega⟩
      obtain ⟨f1, f2, f3⟩ := fin m (by omega)
      have c1 : ¬ (m : Int) < (l.length : Int) := by omega
      have c2 : (0 : Int) ≤ (m : Int) := by omega
      have c3 : (m : Int) ≤ (l.length : Int) := by omega
      have c4 : ([] : List Int).length + (l.take m).length < 17592186044416 := by simpa using f1
      simp only [spec_SetAdd.l0, if_neg c1, Option.bind_some, if_pos c2, if_pos c3, Int.toNat_natCast, if_pos c4, if_pos f1, if_pos f2]
      exact ⟨_, rfl, f3⟩
    | succ d ih =>
      intro k m hd hk
      obtain ⟨k, rfl⟩ : ∃ q, k = q + 1 := ⟨k - 1, by omega⟩
      obtain ⟨f1, f2, f3⟩ := fin m (by omega)
      have c1 : (m : Int) < (l.length : Int) := by omega
      have c2 : (0 : Int) ≤ (m : Int) := by omega
      have c3 : (m : Int) ≤ (l.length : Int) := by omega
      have c4 : ([] : List Int).length + (l.take m).length < 17592186044416 := by simpa using f1
      obtain ⟨r, r1, r2⟩ := ih k (m + 1) (by omega) (by omega)
      have hw : wrap64 ((m : Int) + 1) = ((m + 1 : Nat) : Int) := wn (n := l.length) (by omega) (by omega)
      simp only [spec_SetAdd.l0, if_pos c1, Option.bind_some, if_pos c2, if_pos c3, Int.toNat_natCast, if_pos c4, if_pos f1, if_pos f2, hw, r1]
      split
      · exact ⟨r, rfl, r2⟩
      · exact ⟨_, rfl, f3⟩
  obtain ⟨b, hb⟩ := setHas_ex l x hn k hk
  obtain ⟨r, r1, r2⟩ := key l.length k 0 (by omega) hk
  have c0 : ([] : List Int).length + l.length < 17592186044416 := by simp; omega
  have r1' : spec_SetAdd.l0 k l x 0 = some r := r1
  unfold spec_SetAdd.f
  simp only [hb, Option.bind_some, if_pos c0, r1']
  cases b
  · exact ⟨r, rfl, r2⟩
  · exact ⟨_, rfl, by simp⟩
theorem setJoin_ex (a b : List Int) (ha : a.length ≤ 100000) (hb : b.length ≤ 100000) (k : Nat) (hk : 3 * a.length + 3 * b.length + 10 < k) : ∃ r, spec_SetJoin.f k a b = some r ∧ r.length ≤ a.length + b.length := by
  have key1 : ∀ (d k m : Nat) (out : List Int), m + d = b.length → out.length + d ≤ a.length + b.length → d + a.length + b.length + 2 < k → ∃ r, spec_SetJoin.l1 k b out (m : Int) = some r ∧ r.length ≤ a.length + b.length := by
    intro d
    induction d with
    | zero =>
      intro k m out hd ho hk
      obtain ⟨k, rfl⟩ : ∃ q, k = q + 1 := ⟨k - 1, by omega⟩
      simp only [spec_SetJoin.l1]
      rw [if_neg (by omega)]; exact ⟨_, rfl, by omega⟩
    | succ d ih =>
      intro k m out hd ho hk
      obtain ⟨k, rfl⟩ : ∃ q, k = q + 1 := ⟨k - 1, by omega⟩
      obtain ⟨r, r1, r2⟩ := setAdd_ex out (rd b (m : Int)) (by omega) k (by omega)
      simp only [spec_SetJoin.l1]
      rw [if_pos (by omega), if_pos (by omega), r1, Option.bind_some, wn (n := b.length) (by omega) (by omega)]
      exact ih k (m + 1) r (by omega) (by omega) (by omega)
  have key0 : ∀ (d k m : Nat) (out : List Int), m + d = a.length → out.length + d ≤ a.length → d + a.length + 2 * b.length + 4 < k → ∃ r, spec_SetJoin.l0 k a b out (m : Int) = some r ∧ r.length ≤ a.length + b.length := by
    intro d
    induction d with
    | zero =>
      intro k m out hd ho hk
      obtain ⟨k, rfl⟩ : ∃ q, k = q + 1 := ⟨k - 1, by omega⟩
      simp only [spec_SetJoin.l0]
      rw [if_neg (by omega)]
      exact key1 b.length k 0 out (by omega) (by omega) (by omega)
    | succ d ih =>
      intro k m out hd ho hk
      obtain ⟨k, rfl⟩ : ∃ q, k = q + 1 := ⟨k - 1, by omega⟩
      obtain ⟨r, r1, r2⟩ := setAdd_ex out (rd a (m : Int)) (by omega) k (by omega)
      simp only [spec_SetJoin.l0]
      rw [if_pos (by omega), if_pos (by omega), r1, Option.bind_some, wn (n := a.length) (by omega) (by omega)]
      exact ih k (m + 1) r (by omega) (by omega) (by omega)
  unfold spec_SetJoin.f
  first
    | exact key0 a.length k 0 [] (by omega) (by simp) (by omega)
    | (simp only [Option.bind_some]; exact key0 a.length k 0 [] (by omega) (by simp) (by omega))
theorem setOk_ex (n : Int) (l : List Int) (hn : l.length ≤ 1000000) (k : Nat) (hk : l.length < k) : ∃ b, spec_SetOk.f k n l = some b := by
  have key : ∀ (d k m : Nat), m + d = l.length → d < k → ∃ b, spec_SetOk.l0 k n l (m : Int) = some b := by
    intro d
    induction d with
    | zero =>
      intro k m hd hk
      obtain ⟨k, rfl⟩ : ∃ q, k = q + 1 := ⟨k - 1, by omega⟩
      simp only [spec_SetOk.l0]
      rw [if_neg (by omega)]; exact ⟨_, rfl⟩
    | succ d ih =>
      intro k m hd hk
      obtain ⟨k, rfl⟩ : ∃ q, k = q + 1 := ⟨k - 1, by omega⟩
      obtain ⟨b, hb⟩ := ih k (m + 1) (by omega) (by omega)
      have c1 : (m : Int) < (l.length : Int) := by omega
      have c2 : (0 : Int) ≤ (m : Int) := by omega
      have c5 : (m : Int) - 1 < (l.length : Int) := by omega
      have c4 : (m : Int) > 0 → (0 : Int) ≤ (m : Int) - 1 := by omega
      have hm1 : m ≤ 1000000 := by omega
      have hw : wrap64 ((m : Int) + 1) = ((m + 1 : Nat) : Int) := wn (n := l.length) (by omega) (by omega)
      have hw1 : wrap64 ((m : Int) - 1) = (m : Int) - 1 := by clear hw; unfold wrap64; omega
      simp only [spec_SetOk.l0, if_pos c1, if_pos c2, hw, hw1, hb, if_pos c5]
      split
      · exact ⟨_, rfl⟩
      · split
        · exact ⟨_, rfl⟩
        · split
          · rename_i h
            rw [if_pos (c4 h)]
            split <;> exact ⟨_, rfl⟩
          · exact ⟨_, rfl⟩
  exact key l.length k 0 (by omega) hk
theorem confOk_ex (a b : Int) : ∃ c, spec_ConfOk.f a b = some c := by
  unfold spec_ConfOk.f
  rw [in_z, Option.bind_some, in_z, Option.bind_some]
  split <;> exact ⟨_, rfl⟩
theorem l10Copy_at (v : Int) (s : ByteArray) (l : List Int) (hn : l.length ≤ 1000000) : spec_l10Copy.f v s l = some (v, s, l) := by
  have c : ([] : List Int).length + l.length < 17592186044416 := by simp; omega
  unfold spec_l10Copy.f
  simp only [Option.bind_some, if_pos c, List.nil_append]
theorem before_ex (v : Int) (s : ByteArray) (l : List Int) (v' : Int) (s' : ByteArray) (l' : List Int) : ∃ b, spec_l10Before.f v s l v' s' l' = some b := by
  unfold spec_l10Before.f
  split
  · exact ⟨_, rfl⟩
  · split <;> exact ⟨_, rfl⟩
theorem partJoin_ex (v : Int) (s : ByteArray) (l : List Int) (v' : Int) (s' : ByteArray) (l' : List Int) (hl : l.length ≤ 1000) (hl' : l'.length ≤ 1000) (k : Nat) (hk : 10000 < k) :
    ∃ x t m b, spec_PartJoin.f k v s l v' s' l' = some (x, t, m, b) ∧ (b = true → t = s ∧ m.length ≤ l.length + l'.length) := by
  obtain ⟨r, r1, r2⟩ := setJoin_ex l l' (by omega) (by omega) k (by omega)
  unfold spec_PartJoin.f
  split
  · split
    · rw [r1, Option.bind_some]
      exact ⟨v, s, r, true, rfl, fun _ => ⟨rfl, r2⟩⟩
    · exact ⟨_, _, _, _, rfl, fun h => by cases h⟩
  · exact ⟨_, _, _, _, rfl, fun h => by cases h⟩
/-- A part's sizes are small. -/
def fitN (n : Nat) (x : S26) : Prop := x.f1.size ≤ 10000 ∧ x.f2.length ≤ n
theorem rdN_mem (xs : List S26) (m : Nat) (h : m < xs.length) : rd_T26 xs (m : Int) ∈ xs := by
  unfold rd_T26
  simp [List.getD_eq_getElem?_getD, List.getElem?_eq_getElem h]
theorem partOk_ex (a b v : Int) (s : ByteArray) (l : List Int) (hs : s.size ≤ 10000) (hl : l.length ≤ 10000) (k : Nat) (hk : 50000 < k) : ∃ r, spec_PartOk.f k a b v s l = some r := by
  obtain ⟨k, rfl⟩ : ∃ q, k = q + 1 := ⟨k - 1, by omega⟩
  obtain ⟨c, hc⟩ := confOk_ex a b
  obtain ⟨t, ht⟩ := setOk_ex a l (by omega) (k + 1) (by omega)
  obtain ⟨o, ho⟩ := nameOk_ex s (by omega) k (by omega)
  obtain ⟨w, hw⟩ := viewOf_ex s (by omega) k (by omega)
  have hj : ∀ x, ∃ r, spec_PartOk.j0 (k + 1) x v s l = some r := by
    intro x
    simp only [spec_PartOk.j0, ho, hw, Option.bind_some]
    split
    · exact ⟨_, rfl⟩
    · split
      · exact ⟨_, rfl⟩
      · split <;> exact ⟨_, rfl⟩
  unfold spec_PartOk.f
  rw [hc, Option.bind_some, in_z, Option.bind_some, ht, Option.bind_some]
  split
  · split
    · split
      · exact hj _
      · exact hj _
    · exact hj _
  · exact hj _
theorem tableOk_ex (a b : Int) (xs : List S26) (hn : xs.length ≤ 1000) (hx : ∀ x ∈ xs, fitN 10000 x) (k : Nat) (hk : 60000 < k) : ∃ r, spec_TableOk.f k a b xs = some r := by
  have key : ∀ (d k m : Nat), m + d = xs.length → 55000 + d < k → ∃ r, spec_TableOk.l0 k xs (m : Int) a b = some r := by
    intro d
    induction d with
    | zero =>
      intro k m hd hk
      obtain ⟨k, rfl⟩ : ∃ q, k = q + 1 := ⟨k - 1, by omega⟩
      simp only [spec_TableOk.l0]
      rw [if_neg (by omega)]; exact ⟨_, rfl⟩
    | succ d ih =>
      intro k m hd hk
      obtain ⟨k, rfl⟩ : ∃ q, k = q + 1 := ⟨k - 1, by omega⟩
      obtain ⟨r, hr⟩ := ih k (m + 1) (by omega) (by omega)
      obtain ⟨f1, f2⟩ := hx _ (rdN_mem xs m (by omega))
      obtain ⟨p, hp⟩ := partOk_ex a b (rd_T26 xs (m : Int)).f0 (rd_T26 xs (m : Int)).f1 (rd_T26 xs (m : Int)).f2 f1 f2 k (by omega)
      have c1 : (m : Int) < (xs.length : Int) := by omega
      have c2 : (0 : Int) ≤ (m : Int) := by omega
      have c4 : (m : Int) > 0 → (0 : Int) ≤ (m : Int) - 1 := by omega
      have c5 : (m : Int) - 1 < (xs.length : Int) := by omega
      have hm1 : m ≤ 1000 := by omega
      have hw : wrap64 ((m : Int) + 1) = ((m + 1 : Nat) : Int) := wn (n := xs.length) (by omega) (by omega)
      have hw1 : wrap64 ((m : Int) - 1) = (m : Int) - 1 := by clear hw; unfold wrap64; omega
      obtain ⟨q, hq⟩ := before_ex (rd_T26 xs ((m : Int) - 1)).f0 (rd_T26 xs ((m : Int) - 1)).f1 (rd_T26 xs ((m : Int) - 1)).f2 (rd_T26 xs (m : Int)).f0 (rd_T26 xs (m : Int)).f1 (rd_T26 xs (m : Int)).f2
      simp only [spec_TableOk.l0, if_pos c1, if_pos c2, hp, Option.bind_some, hw, hw1, hr, if_pos c5, hq]
      split
      · split
        · rename_i h
          rw [if_pos (c4 h)]
          split <;> exact ⟨_, rfl⟩
        · exact ⟨_, rfl⟩
      · exact ⟨_, rfl⟩
  exact key xs.length k 0 (by omega) (by omega)
theorem l10Table_ex (n : Nat) (hn' : n ≤ 10000) (xs : List S26) (hn : xs.length ≤ 1000) (hx : ∀ x ∈ xs, fitN n x) (k : Nat) (hk : 2000 < k) : ∃ r, spec_l10Table.f k xs = some r ∧ r.length ≤ xs.length ∧ ∀ x ∈ r, fitN n x := by
  have key : ∀ (d k m : Nat) (out : List S26), m + d = xs.length → d < k → out.length ≤ m → (∀ x ∈ out, fitN n x) → ∃ r, spec_l10Table.l0 k xs out (m : Int) = some r ∧ r.length ≤ xs.length ∧ ∀ x ∈ r, fitN n x := by
    intro d
    induction d with
    | zero =>
      intro k m out hd hk ho hf
      obtain ⟨k, rfl⟩ : ∃ q, k = q + 1 := ⟨k - 1, by omega⟩
      simp only [spec_l10Table.l0]
      rw [if_neg (by omega)]; exact ⟨_, rfl, by omega, hf⟩
    | succ d ih =>
      intro k m out hd hk ho hf
      obtain ⟨k, rfl⟩ : ∃ q, k = q + 1 := ⟨k - 1, by omega⟩
      have hm := hx _ (rdN_mem xs m (by omega))
      simp only [spec_l10Table.l0]
      rw [if_pos (by omega), if_pos (by omega), l10Copy_at _ _ _ (by have := hm.2; omega), Option.bind_some, if_pos (by omega), wn (n := xs.length) (by omega) (by omega)]
      refine ih k (m + 1) _ (by omega) (by omega) (by simp; omega) ?_
      intro x h
      rcases List.mem_append.1 h with h | h
      · exact hf x h
      · rw [List.mem_singleton.1 h]; exact hm
  unfold spec_l10Table.f
  exact key xs.length k 0 [] (by omega) (by omega) (by simp) (by simp)
theorem tableAdd_ex (a b v : Int) (s : ByteArray) (l : List Int) (n : Nat) (hn : n ≤ 800) (hs : s.size ≤ 10000) (hl : l.length ≤ 100) (xs : List S26) (hxl : xs.length ≤ 100) (hx : ∀ x ∈ xs, fitN n x) (k : Nat) (hk : 70000 < k) :
    ∃ r p, spec_TableAdd.f k a b xs v s l = some (r, p) ∧ r.length ≤ xs.length + 1 ∧ ∀ x ∈ r, fitN (n + 100) x := by
  have fsnoc : ∀ (ys : List S26) (y : S26), (∀ x ∈ ys, fitN (n + 100) x) → fitN (n + 100) y → ∀ x ∈ ys ++ [y], fitN (n + 100) x := by
    intro ys y h1 h2 x hm
    rcases List.mem_append.1 hm with h | h
    · exact h1 x h
    · rw [List.mem_singleton.1 h]; exact h2
  have fp : fitN (n + 100) (⟨v, s, l⟩ : S26) := ⟨hs, by show l.length ≤ n + 100; omega⟩
  have fin : ∀ (k : Nat) (out : List S26), 65000 < k → out.length ≤ xs.length + 1 → (∀ x ∈ out, fitN (n + 100) x) → ∃ r p, spec_TableAdd.j2 k xs out a b v s l = some (r, p) ∧ r.length ≤ xs.length + 1 ∧ ∀ x ∈ r, fitN (n + 100) x := by
    intro k out hk ho hf
    obtain ⟨k, rfl⟩ : ∃ q, k = q + 1 := ⟨k - 1, by omega⟩
    obtain ⟨t, ht⟩ := tableOk_ex a b out (by omega) (fun x h => ⟨(hf x h).1, by have := (hf x h).2; omega⟩) k (by omega)
    obtain ⟨q, hq⟩ := partOk_ex a b v s l hs (by omega) k (by omega)
    obtain ⟨r, r1, r2, r3⟩ := l10Table_ex n (by omega) xs (by omega) hx k (by omega)
    have good : ∃ r' p, some (r, false) = some (r', p) ∧ r'.length ≤ xs.length + 1 ∧ ∀ x ∈ r', fitN (n + 100) x := ⟨r, false, rfl, by omega, fun x h => ⟨(r3 x h).1, by have := (r3 x h).2; omega⟩⟩
    simp only [spec_TableAdd.j2, ht, hq, r1, Option.bind_some]
    split
    · split
      · exact ⟨out, true, rfl, ho, hf⟩
      · exact good
    · exact good
  have key : ∀ (d k m : Nat) (out : List S26) (put : Bool), m + d = xs.length → 66000 + 2 * d < k → out.length ≤ m + (if put = true then 1 else 0) → (∀ x ∈ out, fitN (n + 100) x) → ∃ r p, spec_TableAdd.l0 k xs out put (m : Int) a b v s l = some (r, p) ∧ r.length ≤ xs.length + 1 ∧ ∀ x ∈ r, fitN (n + 100) x := by
    intro d
    induction d with
    | zero =>
      intro k m out put hd hk ho hf
      obtain ⟨k, rfl⟩ : ∃ q, k = q + 1 := ⟨k - 1, by omega⟩
      have hlen : out.length ≤ m + 1 := by split at ho <;> omega
      simp only [spec_TableAdd.l0]
      rw [if_neg (by omega)]
      cases put
      · rw [if_neg (by decide), l10Copy_at _ _ _ (by omega), Option.bind_some, if_pos (by omega)]
        refine fin k _ (by omega) ?_ (fsnoc _ _ hf fp)
        simp at ho ⊢; omega
      · rw [if_pos rfl]
        exact fin k out (by omega) (by omega) hf
    | succ d ih =>
      intro k m out put hd hk ho hf
      obtain ⟨k, rfl⟩ : ∃ q, k = q + 2 := ⟨k - 2, by omega⟩
      have hm := hx _ (rdN_mem xs m (by omega))
      have hlen : out.length ≤ m + 1 := by split at ho <;> omega
      have fm : fitN (n + 100) (⟨(rd_T26 xs (m : Int)).f0, (rd_T26 xs (m : Int)).f1, (rd_T26 xs (m : Int)).f2⟩ : S26) := ⟨hm.1, by have := hm.2; show (rd_T26 xs (m : Int)).f2.length ≤ n + 100; omega⟩
      have hml : (rd_T26 xs (m : Int)).f2.length ≤ 800 := by have := hm.2; omega
      have hml2 : (rd_T26 xs (m : Int)).f2.length ≤ n := hm.2
      have c1 : (m : Int) < (xs.length : Int) := by omega
      have c2 : (0 : Int) ≤ (m : Int) := by omega
      have c3 : out.length < 2932031007402 := by omega
      have ih1 := fun out' put' h1 h2 => ih k (m + 1) out' put' (by omega) (by omega) h1 h2
      obtain ⟨jx, jt, jm, jb, j1, j2⟩ := partJoin_ex (rd_T26 xs (m : Int)).f0 (rd_T26 xs (m : Int)).f1 (rd_T26 xs (m : Int)).f2 v s l (by omega) (by omega) k (by omega)
      obtain ⟨q, hq⟩ := before_ex (rd_T26 xs (m : Int)).f0 (rd_T26 xs (m : Int)).f1 (rd_T26 xs (m : Int)).f2 v s l
      have hc := l10Copy_at v s l (by omega)
      have hcm := l10Copy_at (rd_T26 xs (m : Int)).f0 (rd_T26 xs (m : Int)).f1 (rd_T26 xs (m : Int)).f2 (by omega)
      have hlf : put = false → out.length ≤ m := by intro h; rw [h] at ho; simpa using ho
      have hms : m + 1 ≤ 100 := by omega
      have hw : wrap64 ((m : Int) + 1) = ((m + 1 : Nat) : Int) := wn (n := xs.length) (by omega) (by omega)
      have hj : ∀ x, (x = true → put = false) → ∃ r p, spec_TableAdd.j1 (k + 1) xs out put (m : Int) x a b v s l (rd_T26 xs (m : Int)).f0 (rd_T26 xs (m : Int)).f1 (rd_T26 xs (m : Int)).f2 = some (r, p) ∧ r.length ≤ xs.length + 1 ∧ ∀ x ∈ r, fitN (n + 100) x := by
        intro x hx1
        simp only [spec_TableAdd.j1, j1, hc, Option.bind_some, hw, if_pos c3]
        by_cases hx2 : x = true
        · rw [if_pos hx2]
          have hp0 := hlf (hx1 hx2)
          by_cases hb : jb = true
          · rw [if_pos hb]
            obtain ⟨rfl, hjm⟩ := j2 hb
            refine ih1 _ true ?_ (fsnoc _ _ hf ⟨hm.1, by show jm.length ≤ n + 100; clear hw; omega⟩)
            clear hw
            simp; omega
          · rw [if_neg hb, if_pos (by clear hw; simp; omega)]
            refine ih1 _ true ?_ (fsnoc _ _ (fsnoc _ _ hf fp) fm)
            clear hw
            simp; omega
        · rw [if_neg hx2]
          refine ih1 _ put ?_ (fsnoc _ _ hf fm)
          clear hw
          simp only [List.length_append, List.length_singleton]
          split at ho <;> split <;> omega
      have hgoal : ∃ r p, spec_TableAdd.l0 (k + 1 + 1) xs out put (m : Int) a b v s l = some (r, p) ∧ r.length ≤ xs.length + 1 ∧ ∀ x ∈ r, fitN (n + 100) x := by
        simp only [spec_TableAdd.l0]
        rw [if_pos c1, if_pos c2, hcm, Option.bind_some]
        cases put
        · rw [if_neg (by decide), hq, Option.bind_some]
          exact hj _ (fun _ => rfl)
        · rw [if_pos rfl]
          exact hj _ (fun h => by cases h)
      exact hgoal
  unfold spec_TableAdd.f
  exact key xs.length k 0 [] false (by omega) (by omega) (by simp) (by simp)
theorem wf64 {n : Int} (h : (Lit.int .i64 n).wf = true) : -9223372036854775808 ≤ n ∧ n ≤ 9223372036854775807 := by
  simp [Lit.wf, IntKind.min, IntKind.max, IntKind.bits, IntKind.signed] at h
  omega
theorem and255 (n : Int) : Go.bits .and .i64 n 255 = n % 256 := by
  have h255 : (BitVec.ofInt 64 255).toNat = 2 ^ 8 - 1 := by decide
  have key : (BitVec.ofInt 64 n &&& BitVec.ofInt 64 255).toNat = (n % ((2 ^ 64 : Nat) : Int)).toNat % 2 ^ 8 := by
    rw [BitVec.toNat_and, BitVec.toNat_ofInt, h255, Nat.and_two_pow_sub_one_eq_mod]
  show IntKind.i64.wrap ((BitVec.ofInt 64 n &&& BitVec.ofInt 64 255).toNat : Nat) = n % 256
  rw [key, IntKind.wrap_i64]
  omega
/-- A drawn number is below its bound, and the cursor stays in its list. -/
theorem l1Byte_at (s : List Int) (hn : s.length ≤ 9223372036854775807) (i h : Int) (hi : 0 ≤ i ∧ i ≤ s.length) :
    ∃ x i' h', spec_l1Byte.f s i h = some (x, i', h') ∧ 0 ≤ x ∧ x ≤ 255 ∧ 0 ≤ i' ∧ i' ≤ s.length := by
  unfold spec_l1Byte.f
  by_cases h1 : i < (s.length : Int)
  · rw [if_pos h1, if_pos hi.1]
    refine ⟨_, _, _, rfl, ?_, ?_, ?_, ?_⟩
    · rw [and255]; omega
    · rw [and255]; omega
    · unfold wrap64; omega
    · unfold wrap64; omega
  · rw [if_neg h1]
    refine ⟨_, _, _, rfl, ?_, ?_, hi.1, hi.2⟩
    · rw [and255]; omega
    · rw [and255]; omega
theorem l1Below_at (s : List Int) (hn : s.length ≤ 9223372036854775807) (i h n : Int) (hi : 0 ≤ i ∧ i ≤ s.length) (h0 : 0 < n) (h1 : n ≤ 256) :
    ∃ x i' h', spec_l1Below.f s i h n = some (x, i', h') ∧ 0 ≤ x ∧ x < n ∧ 0 ≤ i' ∧ i' ≤ s.length := by
  obtain ⟨x, i', h', e, x0, x1, i0, i1⟩ := l1Byte_at s hn i h hi
  unfold spec_l1Below.f
  rw [if_neg (by omega), if_pos h1, e, Option.bind_some, if_neg (by omega)]
  refine ⟨_, _, _, rfl, ?_, ?_, i0, i1⟩
  · exact Int.tmod_nonneg _ x0
  · exact Int.tmod_lt_of_pos _ h0
theorem l1PickInt_at (s : List Int) (hn : s.length ≤ 9223372036854775807) (i h : Int) (hi : 0 ≤ i ∧ i ≤ s.length) (l : List Int) (h0 : 0 < l.length) (h1 : l.length ≤ 256) :
    ∃ x i' h', spec_l1PickInt.f s i h l = some (x, i', h') ∧ x ∈ l ∧ 0 ≤ i' ∧ i' ≤ s.length := by
  obtain ⟨x, i', h', e, x0, x1, i0, i1⟩ := l1Below_at s hn i h l.length hi (by omega) (by omega)
  unfold spec_l1PickInt.f
  rw [e, Option.bind_some, if_pos x0, if_pos x1]
  refine ⟨_, _, _, rfl, ?_, i0, i1⟩
  obtain ⟨n, rfl⟩ := Int.eq_ofNat_of_zero_le x0
  have : n < l.length := by omega
  simp [rd, List.getD_eq_getElem?_getD, List.getElem?_eq_getElem this]
theorem l1New_at (l : List Int) (hn : l.length ≤ 9223372036854775807) (k : Nat) (hk : 4001 < k) : ∃ h, spec_l1New.f k l = some (l, 0, h) := by
  have key : ∀ (d k m : Nat) (h : Int), m + d = 4000 → d < k → ∃ h', spec_l1New.l0 k l h (m : Int) = some (l, 0, h') := by
    intro d
    induction d with
    | zero =>
      intro k m h hd hk
      obtain ⟨k, rfl⟩ : ∃ q, k = q + 1 := ⟨k - 1, by omega⟩
      simp only [spec_l1New.l0]
      rw [if_neg (show ¬ ((m : Int) < 4000) by omega)]
      exact ⟨h, by simp⟩
    | succ d ih =>
      intro k m h hd hk
      obtain ⟨k, rfl⟩ : ∃ q, k = q + 1 := ⟨k - 1, by omega⟩
      simp only [spec_l1New.l0]
      by_cases h1 : (m : Int) < (l.length : Int)
      · rw [if_pos h1, if_pos (by omega), if_pos (by omega), wn (n := l.length) (by omega) hn]
        exact ih k (m + 1) _ (by omega) (by omega)
      · rw [if_neg h1]; exact ⟨h, rfl⟩
  obtain ⟨h, e⟩ := key 4000 k 0 _ (by omega) (by omega)
  exact ⟨h, e⟩
theorem l7DrawConf_at (s : List Int) (hn : s.length ≤ 9223372036854775807) (i h : Int) (hi : 0 ≤ i ∧ i ≤ s.length) :
    ∃ a b i' h', spec_l7DrawConf.f s i h = some (a, b, i', h') ∧ 4 ≤ a ∧ a ≤ 7 ∧ 1 ≤ b ∧ b ≤ 3 ∧ 0 ≤ i' ∧ i' ≤ s.length := by
  obtain ⟨x, i1, h1, e1, x0, x1, p1⟩ := l1Below_at s hn i h 4 hi (by omega) (by omega)
  obtain ⟨y, i2, h2, e2, y0, y1, p2⟩ := l1Below_at s hn i1 h1 3 p1 (by omega) (by omega)
  unfold spec_l7DrawConf.f
  rw [e1, Option.bind_some]; dsimp only
  rw [e2, Option.bind_some]; dsimp only
  refine ⟨_, _, _, _, rfl, ?_, ?_, ?_, ?_, p2.1, p2.2⟩ <;> (unfold wrap64; omega)
/-- A cursor within its list. -/
def Cu (c : List Int) (i : Int) : Prop := 0 ≤ i ∧ i ≤ (c.length : Int)
theorem below_ex (c : List Int) (hn : c.length ≤ 9223372036854775807) (i h n : Int) (hi : Cu c i) (h0 : 0 < n) (h1 : n ≤ 20000) :
    ∃ x i' h', spec_l1Below.f c i h n = some (x, i', h') ∧ (0 ≤ x ∧ x < n) ∧ Cu c i' := by
  by_cases h2 : n ≤ 256
  · obtain ⟨x, i', h', e, x0, x1, y0, y1⟩ := l1Below_at c hn i h n hi h0 h2
    exact ⟨x, i', h', e, ⟨x0, x1⟩, y0, y1⟩
  · obtain ⟨x, i1, h1', e1, a0, a1, p1⟩ := l1Byte_at c hn i h hi
    obtain ⟨y, i2, h2', e2, b0, b1, p2⟩ := l1Byte_at c hn i1 h1' p1
    obtain ⟨z, i3, h3', e3, c0, c1, p3⟩ := l1Byte_at c hn i2 h2' p2
    obtain ⟨w, i4, h4', e4, d0, d1, p4⟩ := l1Byte_at c hn i3 h3' p3
    unfold spec_l1Below.f
    rw [if_neg (by omega), if_neg h2, e1, Option.bind_some, e2, Option.bind_some, e3, Option.bind_some, e4, Option.bind_some, if_neg (by omega)]
    have q1 : wrap64 (x * 16777216) = x * 16777216 := by unfold wrap64; omega
    have q2 : wrap64 (y * 65536) = y * 65536 := by clear q1; unfold wrap64; omega
    have q3 : wrap64 (z * 256) = z * 256 := by clear q1 q2; unfold wrap64; omega
    have q4 : wrap64 (x * 16777216 + y * 65536) = x * 16777216 + y * 65536 := by clear q1 q2 q3; unfold wrap64; omega
    have q5 : wrap64 (x * 16777216 + y * 65536 + z * 256) = x * 16777216 + y * 65536 + z * 256 := by clear q1 q2 q3 q4; unfold wrap64; omega
    have q6 : wrap64 (x * 16777216 + y * 65536 + z * 256 + w) = x * 16777216 + y * 65536 + z * 256 + w := by clear q1 q2 q3 q4 q5; unfold wrap64; omega
    have hnn : 0 ≤ x * 16777216 + y * 65536 + z * 256 + w := by clear q1 q2 q3 q4 q5 q6; omega
    dsimp only
    rw [q1, q2, q4, q3, q5, q6]
    exact ⟨_, _, _, rfl, ⟨Int.tmod_nonneg _ hnn, Int.tmod_lt_of_pos _ h0⟩, p4⟩
theorem once_ex (c : List Int) (hn : c.length ≤ 9223372036854775807) (i h n : Int) (hi : Cu c i) (h0 : 0 < n) (h1 : n ≤ 20000) : ∃ b i' h', spec_l1Once.f c i h n = some (b, i', h') ∧ Cu c i' := by
  obtain ⟨x, i', h', e, _, p⟩ := below_ex c hn i h n hi h0 h1
  unfold spec_l1Once.f
  rw [e]; exact ⟨_, _, _, rfl, p⟩
theorem pickInt_ex (c : List Int) (hn : c.length ≤ 9223372036854775807) (i h : Int) (hi : Cu c i) (l : List Int) (h0 : 0 < l.length) (h1 : l.length ≤ 256) : ∃ x i' h', spec_l1PickInt.f c i h l = some (x, i', h') ∧ x ∈ l ∧ Cu c i' := by
  obtain ⟨x, i', h', e, m, p⟩ := l1PickInt_at c hn i h hi l h0 h1
  exact ⟨x, i', h', e, m, p⟩
theorem pick_ex (c : List Int) (hn : c.length ≤ 9223372036854775807) (i h : Int) (hi : Cu c i) (l : List ByteArray) (h0 : 0 < l.length) (h1 : l.length ≤ 256) (hz : ∀ x ∈ l, x.size = 1) : ∃ x i' h', spec_l1Pick.f c i h l = some (x, i', h') ∧ x.size = 1 ∧ Cu c i' := by
  obtain ⟨x, i', h', e, ⟨x0, x1⟩, p⟩ := below_ex c hn i h l.length hi (by omega) (by omega)
  unfold spec_l1Pick.f
  rw [e, Option.bind_some, if_pos x0, if_pos x1]
  refine ⟨_, _, _, rfl, ?_, p⟩
  obtain ⟨m, rfl⟩ := Int.eq_ofNat_of_zero_le x0
  exact hz _ (rdOf_mem ByteArray.empty l m (by omega))
/-- A transaction is in its bounds. -/
def okT (x : S87) : Prop := (0 ≤ x.f0 ∧ x.f0 ≤ 3) ∧ (0 ≤ x.f1 ∧ x.f1 ≤ 3) ∧ (0 ≤ x.f2 ∧ x.f2 ≤ 1000) ∧ (0 ≤ x.f3 ∧ x.f3 ≤ 99)
theorem drawRight_ex (c : List Int) (hn : c.length ≤ 9223372036854775807) (i h : Int) (hi : Cu c i) : ∃ x y z w i' h', spec_l2DrawRight.f c i h = some (x, y, z, w, i', h') ∧ okT ⟨x, y, z, w⟩ ∧ Cu c i' := by
  obtain ⟨x, i1, h1, e1, ⟨a0, a1⟩, p1⟩ := below_ex c hn i h 4 hi (by omega) (by omega)
  obtain ⟨y, i2, h2, e2, ⟨b0, b1⟩, p2⟩ := below_ex c hn i1 h1 4 p1 (by omega) (by omega)
  obtain ⟨z, i3, h3, e3, hz, p3⟩ := pickInt_ex c hn i2 h2 p2 [0, 5, 60, 100, 1000] (by simp) (by simp)
  obtain ⟨w, i4, h4, e4, ⟨d0, d1⟩, p4⟩ := below_ex c hn i3 h3 3 p3 (by omega) (by omega)
  unfold spec_l2DrawRight.f
  rw [e1, Option.bind_some]; dsimp only
  rw [e2, Option.bind_some]; dsimp only
  rw [e3, Option.bind_some]; dsimp only
  rw [e4, Option.bind_some]
  refine ⟨x, y, z, w, i4, h4, rfl, ⟨⟨a0, by show x ≤ 3; omega⟩, ⟨b0, by show y ≤ 3; omega⟩, ?_, ⟨d0, by show w ≤ 99; omega⟩⟩, p4⟩
  show 0 ≤ z ∧ z ≤ 1000
  simp at hz; omega
theorem rdT_mem (xs : List S87) (m : Nat) (h : m < xs.length) : rd_T87 xs (m : Int) ∈ xs := by
  unfold rd_T87
  simp [List.getD_eq_getElem?_getD, List.getElem?_eq_getElem h]
theorem txText_ex (x : S87) (h : okT x) (k : Nat) (hk : 20 < k) : ∃ t, spec_TxText.f k x.f0 x.f1 x.f2 x.f3 = some t ∧ t.size ≤ 30 ∧ spec_TxOk.f x.f0 x.f1 x.f2 x.f3 = some true := by
  obtain ⟨h1, h2, h3, h4⟩ := h
  obtain ⟨a, ea⟩ : ∃ a : Nat, x.f0 = (a : Int) := ⟨x.f0.toNat, by omega⟩
  obtain ⟨b, eb⟩ : ∃ a : Nat, x.f1 = (a : Int) := ⟨x.f1.toNat, by omega⟩
  obtain ⟨c, ec⟩ : ∃ a : Nat, x.f2 = (a : Int) := ⟨x.f2.toNat, by omega⟩
  obtain ⟨d, ed⟩ : ∃ a : Nat, x.f3 = (a : Int) := ⟨x.f3.toNat, by omega⟩
  have hb : txB a b c d = true := by unfold txB; exact decide_eq_true (by omega)
  have h5 := dig_len 5 a (by omega)
  have h6 := dig_len 5 b (by omega)
  have h7 := dig_len 5 c (by omega)
  have h8 := dig_len 5 d (by omega)
  rw [ea, eb, ec, ed, specTxText_at a b c d (by omega) (by omega) (by omega) (by omega) k hk, specTxOk_at, if_pos hb, hb]
  refine ⟨_, rfl, ?_, rfl⟩
  rw [mkS_size]
  unfold txL
  simp only [List.length_append, List.length_cons]
  omega
theorem txsText_ex (l : List S87) (hn : l.length ≤ 100) (hx : ∀ x ∈ l, okT x) (k : Nat) (hk : 200 < k) : ∃ t, spec_TxsText.f k l = some t ∧ t.size ≤ 31 * l.length := by
  have key : ∀ (d k m : Nat) (out : ByteArray), m + d = l.length → d + 25 < k → out.size ≤ 31 * m → ∃ t, spec_TxsText.l0 k l out (m : Int) = some t ∧ t.size ≤ 31 * l.length := by
    intro d
    induction d with
    | zero =>
      intro k m out hd hk ho
      obtain ⟨k, rfl⟩ : ∃ q, k = q + 1 := ⟨k - 1, by omega⟩
      simp only [spec_TxsText.l0]
      rw [if_neg (by omega)]; exact ⟨_, rfl, by omega⟩
    | succ d ih =>
      intro k m out hd hk ho
      obtain ⟨k, rfl⟩ : ∃ q, k = q + 1 := ⟨k - 1, by omega⟩
      obtain ⟨t, t1, t2, t3⟩ := txText_ex _ (hx _ (rdT_mem l m (by omega))) k (by omega)
      have o1 : (⟨#[44]⟩ : ByteArray).size = 1 := rfl
      simp only [spec_TxsText.l0]
      rw [if_pos (by omega), if_pos (by omega), t3, Option.bind_some, if_pos rfl, t1]
      have hw : wrap64 ((m : Int) + 1) = ((m + 1 : Nat) : Int) := wn (n := l.length) (by omega) (by omega)
      by_cases h0 : (m : Int) > 0
      · rw [if_pos h0, if_pos (by clear hw; omega), Option.bind_some, if_pos (by clear hw; rw [ByteArray.size_append]; omega), hw]
        exact ih k (m + 1) _ (by clear hw; omega) (by clear hw; omega) (by clear hw; rw [ByteArray.size_append, ByteArray.size_append]; omega)
      · rw [if_neg h0, Option.bind_some, if_pos (by clear hw; omega), hw]
        exact ih k (m + 1) _ (by clear hw; omega) (by clear hw; omega) (by clear hw; rw [ByteArray.size_append]; omega)
  exact key l.length k 0 (⟨#[]⟩ : ByteArray) (by omega) (by omega) (Nat.zero_le _)
theorem nameOf_ex (up : ByteArray) (v : Nat) (l : List S87) (hup : up.size ≤ 5000) (hv : v ≤ 1000) (hn : l.length ≤ 10) (hx : ∀ x ∈ l, okT x) (k : Nat) (hk : 40000 < k) : ∃ r, spec_NameOf.f k up (v : Int) l = some r ∧ r.size ≤ up.size + 400 := by
  have key : ∀ (d k m : Nat), m + d = l.length → d + 30000 < k → ∃ r, spec_NameOf.l0 k up (v : Int) l (m : Int) = some r ∧ r.size ≤ up.size + 400 := by
    intro d
    induction d with
    | zero =>
      intro k m hd hk
      obtain ⟨k, rfl⟩ : ∃ q, k = q + 1 := ⟨k - 1, by omega⟩
      obtain ⟨t, t1, t2⟩ := txsText_ex l (by omega) hx k (by omega)
      have d1 := specDigits_at v (by omega) (by omega) k (by omega)
      have d2 := digS_size v (by omega)
      have o1 : (⟨#[47]⟩ : ByteArray).size = 1 := rfl
      have o2 : (⟨#[124]⟩ : ByteArray).size = 1 := rfl
      have hsz : ((((up ++ (⟨#[47]⟩ : ByteArray)) ++ digS v) ++ (⟨#[124]⟩ : ByteArray)) ++ t).size ≤ up.size + 400 := by
        rw [ByteArray.size_append, ByteArray.size_append, ByteArray.size_append, ByteArray.size_append]; omega
      obtain ⟨b, hb⟩ := nameOk_ex ((((up ++ (⟨#[47]⟩ : ByteArray)) ++ digS v) ++ (⟨#[124]⟩ : ByteArray)) ++ t) (by omega) k (by omega)
      simp only [spec_NameOf.l0]
      rw [if_neg (by omega), if_pos (by omega), d1, Option.bind_some, if_pos (by rw [ByteArray.size_append]; omega), if_pos (by rw [ByteArray.size_append, ByteArray.size_append]; omega), t1, Option.bind_some, if_pos (by rw [ByteArray.size_append, ByteArray.size_append, ByteArray.size_append]; omega), hb, Option.bind_some]
      cases b
      · exact ⟨_, by rw [if_neg (by decide)], Nat.zero_le _⟩
      · exact ⟨_, by rw [if_pos rfl], hsz⟩
    | succ d ih =>
      intro k m hd hk
      obtain ⟨k, rfl⟩ : ∃ q, k = q + 1 := ⟨k - 1, by omega⟩
      obtain ⟨t, _, _, t3⟩ := txText_ex _ (hx _ (rdT_mem l m (by omega))) 21 (by omega)
      simp only [spec_NameOf.l0]
      rw [if_pos (by omega), if_pos (by omega), t3, Option.bind_some, if_pos rfl, wn (n := l.length) (by omega) (by omega)]
      exact ih k (m + 1) (by omega) (by omega)
  exact key l.length k 0 (by omega) (by omega)
theorem l5Right_ex (c : List Int) (hn : c.length ≤ 9223372036854775807) (i h : Int) (hi : Cu c i) (k : Nat) (hk : 50000 < k) : ∃ r i' h', spec_l5DrawRight.f k c i h = some (r, i', h') ∧ r.size ≤ 3000 ∧ Cu c i' := by
  have inner : ∀ (e k j : Nat) (s : ByteArray) (v x : Nat) (list : List S87) (i h : Int), j + e = 3 → 41000 + e < k → s.size ≤ 5000 → v ≤ 1000 → x ≤ 10 → list.length ≤ j → (∀ y ∈ list, okT y) → Cu c i →
      (∀ (k' : Nat) (t : ByteArray) (i h : Int), k ≤ k' + e + 2 → t.size ≤ s.size + 400 → Cu c i → ∃ r i' h', spec_l5DrawRight.l0 k' t (v : Int) ((x + 1 : Nat) : Int) c i h = some (r, i', h') ∧ r.size ≤ 3000 ∧ Cu c i') →
      ∃ r i' h', spec_l5DrawRight.l1 k s (v : Int) (x : Int) list (j : Int) c i h = some (r, i', h') ∧ r.size ≤ 3000 ∧ Cu c i' := by
    intro e
    induction e with
    | zero =>
      intro k j s v x list i h hd hk hs hv hx hl hf hi hc
      obtain ⟨k, rfl⟩ : ∃ q, k = q + 1 := ⟨k - 1, by omega⟩
      obtain ⟨b, i1, h1, e1, ⟨b0, b1⟩, p1⟩ := below_ex c hn i h 3 hi (by omega) (by omega)
      obtain ⟨t, t1, t2⟩ := nameOf_ex s v list (by omega) hv (by omega) hf k (by omega)
      simp only [spec_l5DrawRight.l1]
      rw [e1, Option.bind_some]; dsimp only
      rw [if_neg (by omega), t1, Option.bind_some, wn (m := x) (n := 100) (by omega) (by omega)]
      exact hc k t i1 h1 (by omega) t2 p1
    | succ e ih =>
      intro k j s v x list i h hd hk hs hv hx hl hf hi hc
      obtain ⟨k, rfl⟩ : ∃ q, k = q + 1 := ⟨k - 1, by omega⟩
      obtain ⟨b, i1, h1, e1, ⟨b0, b1⟩, p1⟩ := below_ex c hn i h 3 hi (by omega) (by omega)
      obtain ⟨t, t1, t2⟩ := nameOf_ex s v list (by omega) hv (by omega) hf k (by omega)
      obtain ⟨q0, q1, q2, q3, i2, h2, e2, ok, p2⟩ := drawRight_ex c hn i1 h1 p1
      simp only [spec_l5DrawRight.l1]
      rw [e1, Option.bind_some]; dsimp only
      by_cases hlt : (j : Int) < b
      · rw [if_pos hlt, e2, Option.bind_some, if_pos (by omega), wn (m := j) (n := 100) (by omega) (by omega)]
        refine ih k (j + 1) s v x _ i2 h2 (by omega) (by omega) hs hv hx (by simp; omega) ?_ p2 (fun k' t i h h1 h2 h3 => hc k' t i h (by omega) h2 h3)
        intro y hy
        rcases List.mem_append.1 hy with hy | hy
        · exact hf y hy
        · rw [List.mem_singleton.1 hy]; exact ok
      · rw [if_neg hlt, t1, Option.bind_some, wn (m := x) (n := 100) (by omega) (by omega)]
        exact hc k t i1 h1 (by omega) t2 p1
  have outer : ∀ (d k x : Nat) (s : ByteArray) (v : Nat) (i h : Int), x + d = 6 → 42000 + 10 * d < k → s.size ≤ 400 * x → v ≤ 2 * x → Cu c i → ∃ r i' h', spec_l5DrawRight.l0 k s (v : Int) (x : Int) c i h = some (r, i', h') ∧ r.size ≤ 3000 ∧ Cu c i' := by
    intro d
    induction d with
    | zero =>
      intro k x s v i h hd hk hs hv hi
      obtain ⟨k, rfl⟩ : ∃ q, k = q + 1 := ⟨k - 1, by omega⟩
      obtain ⟨b, i1, h1, e1, ⟨b0, b1⟩, p1⟩ := below_ex c hn i h 6 hi (by omega) (by omega)
      simp only [spec_l5DrawRight.l0]
      rw [e1, Option.bind_some]; dsimp only
      rw [if_neg (by omega)]
      exact ⟨_, _, _, rfl, by omega, p1⟩
    | succ d ih =>
      intro k x s v i h hd hk hs hv hi
      obtain ⟨k, rfl⟩ : ∃ q, k = q + 1 := ⟨k - 1, by omega⟩
      obtain ⟨b, i1, h1, e1, ⟨b0, b1⟩, p1⟩ := below_ex c hn i h 6 hi (by omega) (by omega)
      obtain ⟨y, i2, h2, e2, ⟨y0, y1⟩, p2⟩ := below_ex c hn i1 h1 4 p1 (by omega) (by omega)
      simp only [spec_l5DrawRight.l0]
      rw [e1, Option.bind_some]; dsimp only
      by_cases hlt : (x : Int) < b
      · obtain ⟨z, ez, hz⟩ : ∃ z : Nat, wrap64 (wrap64 ((v : Int) + 1) + wrap64 (Int.tdiv y 3)) = (z : Int) ∧ z ≤ 2 * (x + 1) := by
          have hy : Int.tdiv y 3 = y / 3 := Int.tdiv_eq_ediv_of_nonneg y0
          rw [hy]
          refine ⟨v + 1 + (y / 3).toNat, ?_, by omega⟩
          have w1 : wrap64 ((v : Int) + 1) = (v : Int) + 1 := by clear hy; unfold wrap64; omega
          have w2 : wrap64 (y / 3) = y / 3 := by clear hy w1; unfold wrap64; omega
          rw [w1, w2]
          clear w1 w2 hy
          unfold wrap64
          omega
        rw [if_pos hlt, e2, Option.bind_some]; dsimp only
        rw [ez]
        refine inner 3 k 0 s z x [] i2 h2 (by omega) (by clear ez; omega) (by clear ez; omega) (by clear ez; omega) (by clear ez; omega) (by simp) (by simp) p2 ?_
        intro k' t i h g1 g2 g3
        exact ih k' (x + 1) t z i h (by clear ez; omega) (by clear ez; omega) (by clear ez; omega) hz g3
      · rw [if_neg hlt]
        exact ⟨_, _, _, rfl, by omega, p1⟩
  unfold spec_l5DrawRight.f
  exact outer 6 k 0 (⟨#[]⟩ : ByteArray) 0 i h (by omega) (by omega) (Nat.zero_le _) (by omega) hi
theorem dent_ex (c : List Int) (hn : c.length ≤ 9223372036854775807) (i h : Int) (hi : Cu c i) (s : ByteArray) (hs : s.size ≤ 9000) : ∃ r i' h', spec_l2Dent.f c i h s = some (r, i', h') ∧ r.size ≤ s.size + 1 ∧ Cu c i' := by
  have hw : wrap64 ((s.size : Int) + 1) = (s.size : Int) + 1 := by unfold wrap64; omega
  obtain ⟨x, i1, h1, e1, ⟨a0, a1⟩, p1⟩ := below_ex c hn i h ((s.size : Int) + 1) hi (by clear hw; omega) (by clear hw; omega)
  obtain ⟨y, i2, h2, e2, ⟨b0, b1⟩, p2⟩ := below_ex c hn i1 h1 5 p1 (by omega) (by omega)
  obtain ⟨t, i3, h3, e3, ht, p3⟩ := pick_ex c hn i2 h2 p2 [(⟨#[48]⟩ : ByteArray), (⟨#[44]⟩ : ByteArray), (⟨#[62]⟩ : ByteArray), (⟨#[47]⟩ : ByteArray), (⟨#[124]⟩ : ByteArray), (⟨#[120]⟩ : ByteArray), (⟨#[49]⟩ : ByteArray)] (by simp) (by simp) (by
    intro x hx
    simp only [List.mem_cons, List.not_mem_nil, or_false] at hx
    rcases hx with rfl | rfl | rfl | rfl | rfl | rfl | rfl <;> rfl)
  have c1 : x ≤ (s.size : Int) := by clear hw; omega
  have z1 : (s.extract 0 x.toNat).size ≤ s.size := by rw [ByteArray.size_extract]; clear hw; omega
  have z2 : (s.extract 0 x.toNat).size + (s.extract x.toNat s.size).size ≤ s.size := by rw [ByteArray.size_extract, ByteArray.size_extract]; clear hw; omega
  unfold spec_l2Dent.f
  rw [hw]
  clear hw
  rw [e1, Option.bind_some]; dsimp only
  rw [e2, Option.bind_some]; dsimp only
  by_cases h0 : y = 0
  · rw [if_pos h0, if_pos a0, if_pos c1]
    exact ⟨_, _, _, rfl, by omega, p2⟩
  · rw [if_neg h0]
    by_cases h1 : y = 1
    · rw [if_pos h1, if_pos a0, if_pos c1, e3, Option.bind_some]; dsimp only
      rw [if_pos (by omega), if_pos (by rw [ByteArray.size_append]; omega)]
      refine ⟨_, _, _, rfl, ?_, p3⟩
      rw [ByteArray.size_append, ByteArray.size_append]; omega
    · rw [if_neg h1]
      exact ⟨_, _, _, rfl, by omega, p2⟩
theorem l5Draw_ex (c : List Int) (hn : c.length ≤ 9223372036854775807) (i h : Int) (hi : Cu c i) (k : Nat) (hk : 50100 < k) : ∃ r i' h', spec_l5Draw.f k c i h = some (r, i', h') ∧ r.size ≤ 4000 ∧ Cu c i' := by
  have key : ∀ (d k x : Nat) (s : ByteArray) (i h : Int), x + d = 32 → d + 50 < k → s.size ≤ 10 * x → Cu c i → ∃ r i' h', spec_l5Draw.l0 k s (x : Int) c i h = some (r, i', h') ∧ r.size ≤ 4000 ∧ Cu c i' := by
    intro d
    induction d with
    | zero =>
      intro k x s i h hd hk hs hi
      obtain ⟨k, rfl⟩ : ∃ q, k = q + 1 := ⟨k - 1, by omega⟩
      obtain ⟨b, i1, h1, e1, ⟨b0, b1⟩, p1⟩ := below_ex c hn i h 2 hi (by omega) (by omega)
      have hw : wrap64 (30 + b) = 30 + b := by unfold wrap64; omega
      simp only [spec_l5Draw.l0]
      rw [e1, Option.bind_some]; dsimp only
      rw [hw]
      clear hw
      rw [if_neg (by omega)]
      exact ⟨_, _, _, rfl, by omega, p1⟩
    | succ d ih =>
      intro k x s i h hd hk hs hi
      obtain ⟨k, rfl⟩ : ∃ q, k = q + 1 := ⟨k - 1, by omega⟩
      obtain ⟨b, i1, h1, e1, ⟨b0, b1⟩, p1⟩ := below_ex c hn i h 2 hi (by omega) (by omega)
      have d1 := specDigits_at x (by omega) (by omega) k (by omega)
      have d2 := digS_size x (by omega)
      have o1 : (⟨#[47]⟩ : ByteArray).size = 1 := rfl
      have o2 : (⟨#[124]⟩ : ByteArray).size = 1 := rfl
      have hw : wrap64 (30 + b) = 30 + b := by unfold wrap64; omega
      simp only [spec_l5Draw.l0]
      rw [e1, Option.bind_some]; dsimp only
      rw [hw]
      clear hw
      by_cases hlt : (x : Int) ≤ 30 + b
      · rw [if_pos hlt, if_pos (by omega), d1, Option.bind_some, if_pos (by rw [ByteArray.size_append]; omega), if_pos (by rw [ByteArray.size_append, ByteArray.size_append]; omega), wn (m := x) (n := 100) (by omega) (by omega)]
        exact ih k (x + 1) _ i1 h1 (by omega) (by omega) (by rw [ByteArray.size_append, ByteArray.size_append, ByteArray.size_append]; omega) p1
      · rw [if_neg hlt]
        exact ⟨_, _, _, rfl, by omega, p1⟩
  obtain ⟨b, i1, h1, e1, p1⟩ := once_ex c hn i h 20 hi (by omega) (by omega)
  unfold spec_l5Draw.f
  rw [e1, Option.bind_some]; dsimp only
  cases b
  · rw [if_neg (by decide)]
    obtain ⟨r, i2, h2, e2, r2, p2⟩ := l5Right_ex c hn i1 h1 p1 k (by omega)
    obtain ⟨t, i3, h3, e3, r3, p3⟩ := dent_ex c hn i2 h2 p2 r (by omega)
    rw [e2, Option.bind_some]; dsimp only
    rw [e3, Option.bind_some]
    exact ⟨t, i3, h3, rfl, by omega, p3⟩
  · rw [if_pos rfl]
    exact key 31 k 1 (⟨#[]⟩ : ByteArray) i1 h1 (by omega) (by omega) (Nat.zero_le _) p1
theorem l6Set_ex (c : List Int) (hn : c.length ≤ 9223372036854775807) (i h n : Int) (hi : Cu c i) (h0 : 0 < n) (h1 : n ≤ 256) (k : Nat) (hk : 200 < k) : ∃ r i' h', spec_l6DrawSet.f k c i h n = some (r, i', h') ∧ r.length ≤ 20 ∧ Cu c i' := by
  have key : ∀ (d k x : Nat) (s : List Int) (i h : Int), x + d = 8 → d + 50 < k → s.length ≤ x → Cu c i → ∃ r i' h', spec_l6DrawSet.l0 k n s (x : Int) c i h = some (r, i', h') ∧ r.length ≤ 20 ∧ Cu c i' := by
    have fin : ∀ (s : List Int) (i h : Int), s.length ≤ 8 → Cu c i → ∃ r i' h', (spec_l1Once.f c i h 12).bind (fun bt458 => (if bt458.1 = true then ((spec_l1PickInt.f c bt458.2.1 bt458.2.2 (([(-1), 0, 3, 9] : List Int))).bind fun bt464 => (if s.length < 17592186044416 then (some ((s ++ [bt464.1]), bt464.2.1, bt464.2.2)) else (none))) else (some (s, bt458.2.1, bt458.2.2)))) = some (r, i', h') ∧ r.length ≤ 20 ∧ Cu c i' := by
      intro s i h hs hi
      obtain ⟨b, i1, h1, e1, p1⟩ := once_ex c hn i h 12 hi (by omega) (by omega)
      obtain ⟨y, i2, h2, e2, _, p2⟩ := pickInt_ex c hn i1 h1 p1 [(-1), 0, 3, 9] (by simp) (by simp)
      rw [e1, Option.bind_some]; dsimp only
      cases b
      · rw [if_neg (by decide)]; exact ⟨_, _, _, rfl, by omega, p1⟩
      · rw [if_pos rfl, e2, Option.bind_some, if_pos (by omega)]; exact ⟨_, _, _, rfl, by simp; omega, p2⟩
    intro d
    induction d with
    | zero =>
      intro k x s i h hd hk hs hi
      obtain ⟨k, rfl⟩ : ∃ q, k = q + 1 := ⟨k - 1, by omega⟩
      obtain ⟨b, i1, h1, e1, ⟨b0, b1⟩, p1⟩ := below_ex c hn i h 8 hi (by omega) (by omega)
      simp only [spec_l6DrawSet.l0]
      rw [e1, Option.bind_some]; dsimp only
      rw [if_neg (by omega)]
      exact fin s i1 h1 (by omega) p1
    | succ d ih =>
      intro k x s i h hd hk hs hi
      obtain ⟨k, rfl⟩ : ∃ q, k = q + 1 := ⟨k - 1, by omega⟩
      obtain ⟨b, i1, h1', e1, ⟨b0, b1⟩, p1⟩ := below_ex c hn i h 8 hi (by omega) (by omega)
      obtain ⟨y, i2, h2, e2, _, p2⟩ := below_ex c hn i1 h1' n p1 h0 (by omega)
      obtain ⟨r, r1, r2⟩ := setAdd_ex s y (by omega) k (by omega)
      simp only [spec_l6DrawSet.l0]
      rw [e1, Option.bind_some]; dsimp only
      by_cases hlt : (x : Int) < b
      · rw [if_pos hlt, e2, Option.bind_some]; dsimp only
        rw [r1, Option.bind_some, wn (m := x) (n := 100) (by omega) (by omega)]
        exact ih k (x + 1) r i2 h2 (by omega) (by omega) (by omega) p2
      · rw [if_neg hlt]
        exact fin s i1 h1' (by omega) p1
  unfold spec_l6DrawSet.f
  exact key 8 k 0 [] i h (by omega) (by omega) (by simp) hi
theorem l10Right_ex (c : List Int) (hn : c.length ≤ 9223372036854775807) (i h a b : Int) (hi : Cu c i) (ha : 4 ≤ a ∧ a ≤ 7) (k : Nat) (hk : 60000 < k) : ∃ v s l i' h', spec_l10DrawRight.f k c i h a b = some (v, s, l, i', h') ∧ s.size ≤ 4000 ∧ l.length ≤ 20 ∧ Cu c i' := by
  have loop : ∀ (d k x : Nat) (v : Int) (s : ByteArray) (l : List Int) (i h : Int), x + d = 7 → d + 50 < k → s.size ≤ 4000 → l.length ≤ x → Cu c i → ∃ v' s' l' i' h', spec_l10DrawRight.l0 k (x : Int) c i h a b v s l = some (v', s', l', i', h') ∧ s'.size ≤ 4000 ∧ l'.length ≤ 20 ∧ Cu c i' := by
    intro d
    induction d with
    | zero =>
      intro k x v s l i h hd hk hs hl hi
      obtain ⟨k, rfl⟩ : ∃ q, k = q + 1 := ⟨k - 1, by omega⟩
      obtain ⟨y, i1, h1, e1, ⟨b0, b1⟩, p1⟩ := below_ex c hn i h 7 hi (by omega) (by omega)
      have hw : wrap64 (1 + y) = 1 + y := by unfold wrap64; omega
      simp only [spec_l10DrawRight.l0]
      rw [e1, Option.bind_some]; dsimp only
      rw [hw]
      clear hw
      rw [if_neg (by omega)]
      exact ⟨_, _, _, _, _, rfl, hs, by omega, p1⟩
    | succ d ih =>
      intro k x v s l i h hd hk hs hl hi
      obtain ⟨k, rfl⟩ : ∃ q, k = q + 1 := ⟨k - 1, by omega⟩
      obtain ⟨y, i1, h1, e1, ⟨b0, b1⟩, p1⟩ := below_ex c hn i h 7 hi (by omega) (by omega)
      have hmx : ∃ m, spec_l1Max.f a 4 = some m ∧ 0 < m ∧ m ≤ 256 := by
        unfold spec_l1Max.f
        split
        · exact ⟨_, rfl, by omega, by omega⟩
        · exact ⟨_, rfl, by omega, by omega⟩
      obtain ⟨m, m1, m2, m3⟩ := hmx
      obtain ⟨z, i2, h2, e2, _, p2⟩ := below_ex c hn i1 h1 m p1 m2 (by omega)
      obtain ⟨r, r1, r2⟩ := setAdd_ex l z (by omega) k (by omega)
      have hw : wrap64 (1 + y) = 1 + y := by unfold wrap64; omega
      simp only [spec_l10DrawRight.l0]
      rw [e1, Option.bind_some]; dsimp only
      rw [hw]
      clear hw
      by_cases hlt : (x : Int) < 1 + y
      · rw [if_pos hlt, m1, Option.bind_some, e2, Option.bind_some]; dsimp only
        rw [r1, Option.bind_some, wn (m := x) (n := 100) (by omega) (by omega)]
        exact ih k (x + 1) v s r i2 h2 (by omega) (by omega) hs (by omega) p2
      · rw [if_neg hlt]
        exact ⟨_, _, _, _, _, rfl, hs, by omega, p1⟩
  have j1 : ∀ (k : Nat) (v : Int) (s : ByteArray) (i h : Int), 100 < k → s.size ≤ 4000 → Cu c i → ∃ v' s' l' i' h', spec_l10DrawRight.j1 k c i h a b v s = some (v', s', l', i', h') ∧ s'.size ≤ 4000 ∧ l'.length ≤ 20 ∧ Cu c i' := by
    intro k v s i h hk hs hi
    obtain ⟨k, rfl⟩ : ∃ q, k = q + 1 := ⟨k - 1, by omega⟩
    simp only [spec_l10DrawRight.j1]
    exact loop 7 k 0 v s [] i h (by omega) (by omega) hs (by simp) hi
  have j0 : ∀ (k : Nat) (q : Bool) (v : Int) (s : ByteArray) (i h : Int), 200 < k → s.size ≤ 4000 → Cu c i → ∃ v' s' l' i' h', spec_l10DrawRight.j0 k q c i h a b v s = some (v', s', l', i', h') ∧ s'.size ≤ 4000 ∧ l'.length ≤ 20 ∧ Cu c i' := by
    intro k q v s i h hk hs hi
    obtain ⟨k, rfl⟩ : ∃ q, k = q + 1 := ⟨k - 1, by omega⟩
    simp only [spec_l10DrawRight.j0]
    cases q
    · rw [if_neg (by decide)]
      exact j1 k v s i h (by omega) hs hi
    · obtain ⟨y, i1, h1, e1, _, p1⟩ := below_ex c hn i h 4 hi (by omega) (by omega)
      rw [if_pos rfl, e1, Option.bind_some]
      exact j1 k _ _ i1 h1 (by omega) (Nat.zero_le _) p1
  obtain ⟨s, i1, h1, e1, s1, p1⟩ := l5Right_ex c hn i h hi k (by omega)
  obtain ⟨w, hw⟩ := viewOf_ex s (by omega) k (by omega)
  obtain ⟨q, i2, h2, e2, p2⟩ := once_ex c hn i1 h1 4 p1 (by omega) (by omega)
  unfold spec_l10DrawRight.f
  rw [e1, Option.bind_some]; dsimp only
  rw [hw, Option.bind_some, e2, Option.bind_some]; dsimp only
  cases q
  · rw [if_neg (by decide)]
    exact j0 k _ _ _ _ _ (by omega) (by omega) p2
  · rw [if_pos rfl]
    exact j0 k _ _ _ _ _ (by omega) (by omega) p2
theorem l10Draw_ex (c : List Int) (hn : c.length ≤ 9223372036854775807) (i h a b : Int) (hi : Cu c i) (ha : 4 ≤ a ∧ a ≤ 7) (k : Nat) (hk : 60000 < k) : ∃ v s l i' h', spec_l10Draw.f k c i h a b = some (v, s, l, i', h') ∧ s.size ≤ 4000 ∧ l.length ≤ 20 ∧ Cu c i' := by
  obtain ⟨v, s, l, i1, h1, e1, s1, l1, p1⟩ := l10Right_ex c hn i h a b hi ha k hk
  obtain ⟨y, i2, h2, e2, _, p2⟩ := below_ex c hn i1 h1 10 p1 (by omega) (by omega)
  obtain ⟨z, i3, h3, e3, _, p3⟩ := pickInt_ex c hn i2 h2 p2 [(-1), 0, 60, 61] (by simp) (by simp)
  obtain ⟨m, i4, h4, e4, m4, p4⟩ := l6Set_ex c hn i2 h2 7 p2 (by omega) (by omega) k (by omega)
  obtain ⟨t, i5, h5, e5, t5, p5⟩ := l5Draw_ex c hn i2 h2 p2 k (by omega)
  unfold spec_l10Draw.f
  rw [e1, Option.bind_some]; dsimp only
  rw [e2, Option.bind_some]; dsimp only
  split
  · rw [e3]; exact ⟨_, _, _, _, _, rfl, s1, l1, p3⟩
  · split
    · rw [e4]; exact ⟨_, _, _, _, _, rfl, s1, m4, p4⟩
    · split
      · rw [e5]; exact ⟨_, _, _, _, _, rfl, t5, l1, p5⟩
      · exact ⟨_, _, _, _, _, rfl, s1, l1, p2⟩
theorem l10Tab_ex (c : List Int) (hn : c.length ≤ 9223372036854775807) (i h a b : Int) (hi : Cu c i) (ha : 4 ≤ a ∧ a ≤ 7) (k : Nat) (hk : 80000 < k) : ∃ r i' h', spec_l10DrawTable.f k c i h a b = some (r, i', h') ∧ r.length ≤ 50 ∧ (∀ x ∈ r, fitN 10000 x) ∧ Cu c i' := by
  have key : ∀ (d k x : Nat) (xs : List S26) (i h : Int), x + d = 5 → 71000 + d < k → xs.length ≤ x → (∀ y ∈ xs, fitN (100 * x) y) → Cu c i → ∃ r i' h', spec_l10DrawTable.l0 k xs (x : Int) c i h a b = some (r, i', h') ∧ r.length ≤ 50 ∧ (∀ y ∈ r, fitN 10000 y) ∧ Cu c i' := by
    have fin : ∀ (k : Nat) (xs : List S26) (i h : Int), 60000 < k → xs.length ≤ 5 → (∀ y ∈ xs, fitN 500 y) → Cu c i → ∃ r i' h', (spec_l1Once.f c i h 8).bind (fun bt544 => (if bt544.1 = true then ((spec_l10Draw.f k c bt544.2.1 bt544.2.2 a b).bind fun bt547 => (if xs.length < 2932031007402 then (some ((xs ++ [(⟨bt547.1, bt547.2.1, bt547.2.2.1⟩ : S26)]), bt547.2.2.2.1, bt547.2.2.2.2)) else (none))) else (some (xs, bt544.2.1, bt544.2.2)))) = some (r, i', h') ∧ r.length ≤ 50 ∧ (∀ y ∈ r, fitN 10000 y) ∧ Cu c i' := by
      intro k xs i h hk hx hf hi
      have hf2 : ∀ y ∈ xs, fitN 10000 y := fun y hy => ⟨(hf y hy).1, by have := (hf y hy).2; omega⟩
      obtain ⟨q, i1, h1, e1, p1⟩ := once_ex c hn i h 8 hi (by omega) (by omega)
      obtain ⟨v, s, l, i2, h2, e2, s2, l2, p2⟩ := l10Draw_ex c hn i1 h1 a b p1 ha k hk
      rw [e1, Option.bind_some]; dsimp only
      cases q
      · rw [if_neg (by decide)]; exact ⟨_, _, _, rfl, by omega, hf2, p1⟩
      · rw [if_pos rfl, e2, Option.bind_some, if_pos (by omega)]
        refine ⟨_, _, _, rfl, by simp; omega, ?_, p2⟩
        intro y hy
        rcases List.mem_append.1 hy with hy | hy
        · exact hf2 y hy
        · rw [List.mem_singleton.1 hy]; exact ⟨by show s.size ≤ 10000; omega, by show l.length ≤ 10000; omega⟩
    intro d
    induction d with
    | zero =>
      intro k x xs i h hd hk hx hf hi
      obtain ⟨k, rfl⟩ : ∃ q, k = q + 1 := ⟨k - 1, by omega⟩
      obtain ⟨y, i1, h1, e1, ⟨b0, b1⟩, p1⟩ := below_ex c hn i h 5 hi (by omega) (by omega)
      simp only [spec_l10DrawTable.l0]
      rw [e1, Option.bind_some]; dsimp only
      rw [if_neg (by omega)]
      exact fin k xs i1 h1 (by omega) (by omega) (fun z hz => ⟨(hf z hz).1, by have := (hf z hz).2; omega⟩) p1
    | succ d ih =>
      intro k x xs i h hd hk hx hf hi
      obtain ⟨k, rfl⟩ : ∃ q, k = q + 1 := ⟨k - 1, by omega⟩
      obtain ⟨y, i1, h1, e1, ⟨b0, b1⟩, p1⟩ := below_ex c hn i h 5 hi (by omega) (by omega)
      simp only [spec_l10DrawTable.l0]
      rw [e1, Option.bind_some]; dsimp only
      by_cases hlt : (x : Int) < y
      · obtain ⟨v, s, l, i2, h2, e2, s2, l2, p2⟩ := l10Right_ex c hn i1 h1 a b p1 ha k (by omega)
        obtain ⟨r, q, r1, r2, r3⟩ := tableAdd_ex a b v s l (100 * x) (by omega) (by omega) (by omega) xs (by omega) hf k (by omega)
        rw [if_pos hlt, e2, Option.bind_some]; dsimp only
        rw [r1, Option.bind_some, wn (m := x) (n := 100) (by omega) (by omega)]
        exact ih k (x + 1) r i2 h2 (by omega) (by omega) (by omega) (fun z hz => ⟨(r3 z hz).1, by have := (r3 z hz).2; omega⟩) p2
      · rw [if_neg hlt]
        exact fin k xs i1 h1 (by omega) (by omega) (fun z hz => ⟨(hf z hz).1, by have := (hf z hz).2; omega⟩) p1
  unfold spec_l10DrawTable.f
  exact key 5 k 0 [] i h (by omega) (by omega) (by simp) (by simp) hi
theorem drawDrop_ex (l : List Int) (hn : l.length ≤ 9223372036854775807) (k : Nat) (hk : 90000 < k) : ∃ r v, spec_DrawTableDrop.f k l = some (r, v) ∧ r.length ≤ 50 ∧ ∀ x ∈ r, fitN 10000 x := by
  obtain ⟨h, e0⟩ := l1New_at l hn k (by omega)
  obtain ⟨a, b, i1, h1, e1, a0, a1, _, _, p1⟩ := l7DrawConf_at l hn 0 h ⟨by omega, by omega⟩
  obtain ⟨r, i2, h2, e2, r1, r2, p2⟩ := l10Tab_ex l hn i1 h1 a b p1 ⟨a0, a1⟩ k (by omega)
  obtain ⟨v, i3, h3, e3, _, p3⟩ := below_ex l hn i2 h2 6 p2 (by omega) (by omega)
  unfold spec_DrawTableDrop.f
  rw [e0, Option.bind_some]; dsimp only
  rw [e1, Option.bind_some]; dsimp only
  rw [e2, Option.bind_some]; dsimp only
  rw [e3, Option.bind_some]
  exact ⟨_, _, rfl, r1, r2⟩
theorem sameInts_refl (xs : List Int) (hn : xs.length ≤ 9223372036854775807) (k : Nat) (hk : xs.length < k) : laws_sameInts.f k xs xs = some true := by
  have key : ∀ (d k m : Nat), m + d = xs.length → d < k → laws_sameInts.l0 k xs xs (m : Int) = some true := by
    intro d
    induction d with
    | zero =>
      intro k m hd hk
      obtain ⟨k, rfl⟩ : ∃ q, k = q + 1 := ⟨k - 1, by omega⟩
      simp only [laws_sameInts.l0]
      rw [if_neg (by omega)]
    | succ d ih =>
      intro k m hd hk
      obtain ⟨k, rfl⟩ : ∃ q, k = q + 1 := ⟨k - 1, by omega⟩
      simp only [laws_sameInts.l0]
      rw [if_pos (by omega), if_pos (by omega), if_pos (by omega), if_pos trivial, wn (n := xs.length) (by omega) hn]
      exact ih k (m + 1) (by omega) (by omega)
  unfold laws_sameInts.f
  rw [if_pos rfl]
  exact key xs.length k 0 (by omega) hk
theorem dropN_at (xs : List S26) (m : Nat) (h : m < xs.length) : xs.drop m = rd_T26 xs (m : Int) :: xs.drop (m + 1) := by
  rw [List.drop_eq_getElem_cons h]
  simp [rd_T26, List.getD_eq_getElem?_getD, List.getElem?_eq_getElem h]
/-- What is kept. -/
def kp (v : Int) (x : S26) : Bool := decide (x.f0 ≥ v)
theorem implCopyPart_at (v : Int) (s : ByteArray) (l : List Int) (hn : l.length ≤ 1000000) : impl_copyPart.f v s l = some (v, s, l) := by
  have c : ([] : List Int).length + l.length < 17592186044416 := by simp; omega
  unfold impl_copyPart.f impl_copyInts.f
  rw [if_pos c]; rfl
theorem drop_at2 (v : Int) (xs : List S26) (hl : xs.length ≤ 1000) (hx : ∀ x ∈ xs, fitN 10000 x) (k : Nat) (hk : 2000 < k) :
    spec_TableDrop.f k xs v = some (xs.filter (kp v)) ∧ impl_TableDrop.f k xs v = some (xs.filter (kp v)) := by
  have key : ∀ (d k m : Nat) (out : List S26), m + d = xs.length → d < k → out.length ≤ m →
      spec_TableDrop.l0 k xs v out (m : Int) = some (out ++ (xs.drop m).filter (kp v)) ∧ impl_TableDrop.l0 k v out xs (xs.length : Int) (m : Int) = some (out ++ (xs.drop m).filter (kp v)) := by
    intro d
    induction d with
    | zero =>
      intro k m out hd hk ho
      obtain ⟨k, rfl⟩ : ∃ q, k = q + 1 := ⟨k - 1, by omega⟩
      have c1 : ¬ (m : Int) < (xs.length : Int) := by omega
      rw [List.drop_of_length_le (by omega)]
      simp only [spec_TableDrop.l0, impl_TableDrop.l0, if_neg c1, List.filter_nil, List.append_nil]
      exact ⟨trivial, trivial⟩
    | succ d ih =>
      intro k m out hd hk ho
      obtain ⟨k, rfl⟩ : ∃ q, k = q + 1 := ⟨k - 1, by omega⟩
      have hm := (hx _ (rdN_mem xs m (by omega))).2
      have c1 : (m : Int) < (xs.length : Int) := by omega
      have c2 : (0 : Int) ≤ (m : Int) := by omega
      have c3 : out.length < 2932031007402 := by omega
      have e1 := l10Copy_at (rd_T26 xs (m : Int)).f0 (rd_T26 xs (m : Int)).f1 (rd_T26 xs (m : Int)).f2 (by omega)
      have e2 := implCopyPart_at (rd_T26 xs (m : Int)).f0 (rd_T26 xs (m : Int)).f1 (rd_T26 xs (m : Int)).f2 (by omega)
      have i1 := ih k (m + 1) (out ++ [rd_T26 xs (m : Int)]) (by omega) (by omega) (by simp; omega)
      have i2 := ih k (m + 1) out (by omega) (by omega) (by omega)
      have hdr := dropN_at xs m (by omega)
      have hw : wrap64 ((m : Int) + 1) = ((m + 1 : Nat) : Int) := wn (n := xs.length) (by omega) (by omega)
      rw [hdr]
      by_cases h : (rd_T26 xs (m : Int)).f0 ≥ v
      · have hp : kp v (rd_T26 xs (m : Int)) = true := decide_eq_true h
        rw [List.filter_cons_of_pos hp]
        simp only [spec_TableDrop.l0, impl_TableDrop.l0, if_pos c1, if_pos c2, if_pos h, e1, e2, Option.bind_some, if_pos c3, hw]
        have ee : (⟨(rd_T26 xs (m : Int)).f0, (rd_T26 xs (m : Int)).f1, (rd_T26 xs (m : Int)).f2⟩ : S26) = rd_T26 xs (m : Int) := rfl
        rw [ee, i1.1, i1.2]
        simp
      · have hp : ¬ kp v (rd_T26 xs (m : Int)) = true := by unfold kp; simpa using h
        rw [List.filter_cons_of_neg hp]
        simp only [spec_TableDrop.l0, impl_TableDrop.l0, if_pos c1, if_pos c2, if_neg h, hw]
        exact i2
  have h := key xs.length k 0 [] (by omega) (by omega) (by simp)
  rw [List.drop_zero, List.nil_append] at h
  exact h
theorem samePart_refl (x : S26) (hx : fitN 10000 x) (k : Nat) (hk : 20000 < k) : laws_samePart.f k x.f0 x.f1 x.f2 x.f0 x.f1 x.f2 = some true := by
  have h := sameInts_refl x.f2 (by have := hx.2; omega) k (by have := hx.2; omega)
  unfold laws_samePart.f
  rw [if_pos rfl, if_pos rfl, h, Option.bind_some]
theorem sameTable_refl (xs : List S26) (hl : xs.length ≤ 1000) (hx : ∀ x ∈ xs, fitN 10000 x) (k : Nat) (hk : 30000 < k) : laws_sameTable.f k xs xs = some true := by
  have key : ∀ (d k m : Nat), m + d = xs.length → 21000 + d < k → laws_sameTable.l0 k xs xs (m : Int) = some true := by
    intro d
    induction d with
    | zero =>
      intro k m hd hk
      obtain ⟨k, rfl⟩ : ∃ q, k = q + 1 := ⟨k - 1, by omega⟩
      simp only [laws_sameTable.l0]
      rw [if_neg (by omega)]
    | succ d ih =>
      intro k m hd hk
      obtain ⟨k, rfl⟩ : ∃ q, k = q + 1 := ⟨k - 1, by omega⟩
      simp only [laws_sameTable.l0]
      rw [if_pos (by omega), if_pos (by omega), if_pos (by omega), samePart_refl _ (hx _ (rdN_mem xs m (by omega))) k (by omega), Option.bind_some, if_pos rfl, wn (n := xs.length) (by omega) (by omega)]
      exact ih k (m + 1) (by omega) (by omega)
  unfold laws_sameTable.f
  rw [if_pos rfl]
  exact key xs.length k 0 (by omega) (by omega)
theorem drops_l (v : Int) (xs : List S26) (hl : xs.length ≤ 1000) (hx : ∀ x ∈ xs, fitN 10000 x) : ∀ (d k m j : Nat), m + d = xs.length → 21000 + d < k → j ≤ (xs.filter (kp v)).length → (xs.filter (kp v)).drop j = (xs.drop m).filter (kp v) →
    laws_FnDropsBelow.l0 k xs v (xs.filter (kp v)) (j : Int) (m : Int) = some true := by
  have hfl : (xs.filter (kp v)).length ≤ 1000 := Nat.le_trans (List.length_filter_le _ _) hl
  intro d
  induction d with
  | zero =>
    intro k m j hd hk hj he
    obtain ⟨k, rfl⟩ : ∃ q, k = q + 1 := ⟨k - 1, by omega⟩
    rw [List.drop_of_length_le (l := xs) (by omega), List.filter_nil] at he
    have h1 := congrArg List.length he
    rw [List.length_drop, List.length_nil] at h1
    simp only [laws_FnDropsBelow.l0]
    rw [if_neg (by omega)]
    have : ((j : Int) == ((xs.filter (kp v)).length : Int)) = true := beq_iff_eq.2 (by omega)
    rw [this]
  | succ d ih =>
    intro k m j hd hk hj he
    obtain ⟨k, rfl⟩ : ∃ q, k = q + 1 := ⟨k - 1, by omega⟩
    have c1 : (m : Int) < (xs.length : Int) := by omega
    have c2 : (0 : Int) ≤ (m : Int) := by omega
    have hf := hx _ (rdN_mem xs m (by omega))
    have hmx : m < xs.length := by omega
    have hk2 : 21000 + d < k := by omega
    have hd2 : m + 1 + d = xs.length := by omega
    have hk3 : 20000 < k := by omega
    rw [dropN_at xs m hmx] at he
    have hw : wrap64 ((m : Int) + 1) = ((m + 1 : Nat) : Int) := wn (n := xs.length) hmx (by omega)
    simp only [laws_FnDropsBelow.l0]
    rw [if_pos c1, if_pos c2, hw]
    by_cases h : (rd_T26 xs (m : Int)).f0 < v
    · have hp : ¬ kp v (rd_T26 xs (m : Int)) = true := by unfold kp; simp; exact h
      rw [List.filter_cons_of_neg hp] at he
      rw [if_pos h]
      exact ih k (m + 1) j hd2 hk2 hj he
    · have hp : kp v (rd_T26 xs (m : Int)) = true := by unfold kp; simp; clear hw; omega
      rw [List.filter_cons_of_pos hp] at he
      have hjl : j < (xs.filter (kp v)).length := by
        rcases Nat.lt_or_ge j (xs.filter (kp v)).length with h1 | h1
        · exact h1
        · rw [List.drop_of_length_le h1] at he; cases he
      rw [dropN_at (xs.filter (kp v)) j hjl] at he
      obtain ⟨g1, g2⟩ := List.cons.inj he
      have c3 : ¬ (j : Int) ≥ ((xs.filter (kp v)).length : Int) := by clear hw; omega
      have c4 : (0 : Int) ≤ (j : Int) := by clear hw; omega
      have c5 : (j : Int) < ((xs.filter (kp v)).length : Int) := by clear hw; omega
      have hjj : j + 1 ≤ (xs.filter (kp v)).length := hjl
      have hw2 : wrap64 ((j : Int) + 1) = ((j + 1 : Nat) : Int) := wn (n := (xs.filter (kp v)).length) hjl (by clear hw; omega)
      rw [if_neg h, if_neg c3, if_pos c4, if_pos c5, g1, samePart_refl _ hf k hk3, Option.bind_some, if_pos rfl, hw2]
      exact ih k (m + 1) (j + 1) hd2 hk2 hjj g2
theorem Pure.FnDropsBelow : StatFnDropsBelow := by
  intro l hl
  obtain ⟨k, hk⟩ : ∃ k, 200000 < k := ⟨_, Nat.lt_succ_self _⟩
  refine ⟨k, ?_⟩
  unfold laws_FnDropsBelow.f laws_big.f
  rw [Option.bind_some]
  by_cases hb : (l.length : Int) > 1048576
  · rw [decide_eq_true hb, if_pos rfl]
  · rw [decide_eq_false hb, if_neg (by decide)]
    obtain ⟨xs, v, e1, x1, x2⟩ := drawDrop_ex l (by omega) k (by omega)
    obtain ⟨s1, s2⟩ := drop_at2 v xs (by omega) x2 k (by omega)
    have hfl : (xs.filter (kp v)).length ≤ 1000 := Nat.le_trans (List.length_filter_le _ _) (by omega)
    have hfx : ∀ x ∈ xs.filter (kp v), fitN 10000 x := fun x h => x2 x (List.mem_filter.1 h).1
    rw [e1, Option.bind_some]; dsimp only
    rw [s2, Option.bind_some, s1, Option.bind_some, sameTable_refl _ hfl hfx k (by omega), Option.bind_some, if_pos rfl]
    exact drops_l v xs (by omega) x2 xs.length k 0 0 (by omega) (by omega) (Nat.zero_le _) (by rw [List.drop_zero, List.drop_zero])
end Go.Proofs.Ytemjmefacifdeaa.PFnDropsBelow
