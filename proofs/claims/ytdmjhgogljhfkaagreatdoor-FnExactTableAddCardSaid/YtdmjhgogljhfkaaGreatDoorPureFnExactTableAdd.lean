/- The law FnExactTableAdd over numbers, texts and rows of parts: both sides of TableAdd come to one row and one answer, the row is its own, and what was handed over is as it was. No condition but the arguments' kinds. -/
import Derived.Test.YtdmjhgogljhfkaaGreatDoorStatFnExactTableAdd
namespace Go.Proofs.YtdmjhgogljhfkaaGreatDoor.PFnExactTableAdd
open Go.RowKit Go.Proofs.YtdmjhgogljhfkaaGreatDoorW.PrintWords Go.Proofs.YtdmjhgogljhfkaaGreatDoorW.PrintLast
set_option linter.unusedVariables false
set_option linter.unusedSimpArgs false
theorem wn {m n : Nat} (h : m < n) (hn : n ≤ 9223372036854775807) : wrap64 ((m : Int) + 1) = ((m + 1 : Nat) : Int) := by unfold wrap64; omega
theorem wi {a : Int} {n : Nat} (h0 : 0 ≤ a) (h : a + (n : Int) ≤ 9223372036854775807) : ∀ {m : Nat}, m < n → wrap64 (a + (m : Int) + 1) = a + ((m + 1 : Nat) : Int) := by
  intro m hm
  unfold wrap64
  omega
theorem len_ok {n : Nat} (h : n ≤ maxLen) : n ≤ 9223372036854775807 := by unfold maxLen at h; omega
theorem set_take {α : Type} (l : List α) (n : Nat) (x : α) (h : n < l.length) : (l.set n x).take (n + 1) = l.take n ++ [x] := by
  rw [List.take_succ_eq_append_getElem (by simpa using h), List.take_set_of_le (Nat.le_refl _)]
  simp
theorem drop_at (l : List Int) (n : Nat) (h : n < l.length) : l.drop n = rd l (n : Int) :: l.drop (n + 1) := by
  rw [List.drop_eq_getElem_cons h]
  simp [rd, List.getD_eq_getElem?_getD, List.getElem?_eq_getElem h]
/-- n numbers that follow each other, from a on. -/
def marks (a : Int) : Nat → List Int
  | 0 => []
  | n + 1 => a :: marks (a + 1) n
theorem marks_length : ∀ (n : Nat) (a : Int), (marks a n).length = n
  | 0, _ => rfl
  | n + 1, a => by simp [marks, marks_length n]
/-- A text out of its bytes. -/
def mkS (l : List UInt8) : ByteArray := ⟨l.toArray⟩
theorem mkS_list (l : List UInt8) : (mkS l).data.toList = l := by simp [mkS]
theorem mkS_toList (l : List UInt8) : (mkS l).toList = l := by rw [Lib.toList_data, mkS_list]
theorem mkS_size (l : List UInt8) : (mkS l).size = l.length := by simp [mkS, ByteArray.size]
theorem mkS_of (s : ByteArray) : mkS s.data.toList = s := by
  obtain ⟨⟨l⟩⟩ := s
  rfl
theorem len_size (s : ByteArray) : s.data.toList.length = s.size := by
  obtain ⟨⟨l⟩⟩ := s
  rfl
theorem s_ext {s t : ByteArray} (h : s.data.toList = t.data.toList) : s = t := by rw [← mkS_of s, ← mkS_of t, h]
theorem bt_nat (s : ByteArray) (m : Nat) (h : m < s.size) : bt s (m : Int) = ((s.data.toList[m]'(by rw [len_size]; exact h)).toNat : Int) := by
  unfold bt
  rw [dif_pos (show ((m : Int)).toNat < s.size by simpa using h)]
  simp only [Int.toNat_natCast]
  rfl
theorem drop_byte (s : ByteArray) (m : Nat) (h : m < s.size) : ∃ b : UInt8, s.data.toList.drop m = b :: s.data.toList.drop (m + 1) ∧ bt s (m : Int) = (b.toNat : Int) :=
  ⟨s.data.toList[m]'(by rw [len_size]; exact h), List.drop_eq_getElem_cons (by rw [len_size]; exact h), bt_nat s m h⟩
theorem u8_inj {a b : UInt8} : (a.toNat : Int) = (b.toNat : Int) ↔ a = b := by
  constructor
  · intro h; exact UInt8.toNat_inj.1 (by omega)
  · rintro rfl; rfl
/-- A list cut at the first such byte. -/
def cutL (c : UInt8) : List UInt8 → Option (List UInt8 × List UInt8)
  | [] => none
  | b :: l => if b = c then some ([], l) else (cutL c l).map fun p => (b :: p.1, p.2)
theorem cutL_some {c : UInt8} : ∀ {l : List UInt8} {p : List UInt8 × List UInt8}, cutL c l = some p → l = p.1 ++ c :: p.2 ∧ c ∉ p.1
  | [], _, h => by simp [cutL] at h
  | b :: l, p, h => by
    unfold cutL at h
    by_cases hb : b = c
    · rw [if_pos hb] at h
      obtain rfl := Option.some.inj h
      exact ⟨by simp [hb], by simp⟩
    · rw [if_neg hb] at h
      obtain ⟨q, hq, rfl⟩ := Option.map_eq_some_iff.1 h
      obtain ⟨e, hn⟩ := cutL_some hq
      exact ⟨by simp [← e], by simp [hn, Ne.symm hb]⟩
theorem cutL_none {c : UInt8} : ∀ {l : List UInt8}, cutL c l = none → c ∉ l
  | [], _ => by simp
  | b :: l, h => by
    unfold cutL at h
    by_cases hb : b = c
    · rw [if_pos hb] at h; cases h
    · rw [if_neg hb, Option.map_eq_none_iff] at h
      simp [cutL_none h, Ne.symm hb]
theorem cutL_app {c : UInt8} {l r : List UInt8} (h : c ∉ l) : cutL c (l ++ c :: r) = some (l, r) := by
  induction l with
  | nil => simp [cutL]
  | cons b l ih =>
    have hb : ¬ b = c := fun e => h (by simp [e])
    simp only [List.cons_append]
    unfold cutL
    rw [if_neg hb, ih (fun hm => h (List.mem_cons_of_mem _ hm))]
    rfl
theorem indexByte_cut (c : UInt8) : ∀ l : List UInt8, match cutL c l with
    | some p => Lib.indexByte l c = (p.1.length : Int)
    | none => Lib.indexByte l c = -1
  | [] => rfl
  | b :: l => by
    have ih := indexByte_cut c l
    unfold cutL Lib.indexByte
    by_cases hb : b = c
    · simp [hb]
    · rw [if_neg hb, if_neg (by simpa using hb)]
      cases hc : cutL c l with
      | none => rw [hc] at ih; simp at ih; simp [ih]
      | some p =>
        rw [hc] at ih
        simp only [Option.map_some] at ih ⊢
        rw [ih, if_neg (by simp)]
        simp
theorem libcut (c : UInt8) (l : List UInt8) : Lib.cut l [c] = match cutL c l with
    | some p => (p.1, p.2, true)
    | none => (l, [], false) := by
  have h := indexByte_cut c l
  unfold Lib.cut
  rw [Lib.index_one]
  cases hc : cutL c l with
  | none => rw [hc] at h; simp only at h; simp [h]
  | some p =>
    rw [hc] at h
    simp only at h
    obtain ⟨e, _⟩ := cutL_some hc
    rw [h, if_pos (by omega)]
    simp only [Int.toNat_natCast, List.length_singleton, Prod.mk.injEq, and_true]
    constructor
    · rw [e]; simp
    · rw [e, show p.1 ++ c :: p.2 = (p.1 ++ [c]) ++ p.2 by simp, List.drop_left' (by simp)]
def cutI (s : ByteArray) (c : UInt8) : ByteArray × ByteArray × Bool := match cutL c s.data.toList with
  | some p => (mkS p.1, mkS p.2, true)
  | none => (s, mkS [], false)
def cutS (s : ByteArray) (c : UInt8) : ByteArray × ByteArray × Bool := match cutL c s.data.toList with
  | some p => (mkS p.1, mkS p.2, true)
  | none => (mkS [], mkS [], false)
theorem implCut_at (s : ByteArray) (c : UInt8) (hs : s.size < 4294967281) : strings_Cut.f s (⟨#[c]⟩ : ByteArray) = some (cutI s c) := by
  unfold strings_Cut.f cutI
  rw [if_pos hs, show (⟨#[c]⟩ : ByteArray).data.toList = [c] from rfl, libcut]
  cases cutL c s.data.toList with
  | some p => rfl
  | none => simp [mkS]
theorem specCut_at (s : ByteArray) (c : UInt8) (hs : s.size < 4294967281) (k : Nat) (hk : s.size < k) : spec_l2Cut.f k s (c.toNat : Int) = some (cutS s c) := by
  have key : ∀ (d k m : Nat), m + d = s.size → d < k → (∀ p, cutL c s.data.toList = some p → m ≤ p.1.length) → cutL c s.data.toList = (cutL c (s.data.toList.drop m)).map (fun p => (s.data.toList.take m ++ p.1, p.2)) →
      spec_l2Cut.l0 k s (c.toNat : Int) (m : Int) = some (cutS s c) := by
    intro d
    induction d with
    | zero =>
      intro k m hd hk hm he
      obtain ⟨k, rfl⟩ : ∃ q, k = q + 1 := ⟨k - 1, by omega⟩
      simp only [spec_l2Cut.l0]
      rw [if_neg (by omega)]
      rw [List.drop_of_length_le (by rw [len_size]; omega)] at he
      unfold cutS
      rw [he]
      rfl
    | succ d ih =>
      intro k m hd hk hm he
      obtain ⟨k, rfl⟩ : ∃ q, k = q + 1 := ⟨k - 1, by omega⟩
      obtain ⟨b, hb, hbt⟩ := drop_byte s m (by omega)
      have hw : wrap64 ((m : Int) + 1) = ((m + 1 : Nat) : Int) := wn (n := s.size) (by omega) (by omega)
      simp only [spec_l2Cut.l0]
      rw [if_pos (by omega), if_pos (by omega), hbt]
      rw [hb, show cutL c (b :: s.data.toList.drop (m + 1)) = if b = c then some ([], s.data.toList.drop (m + 1)) else (cutL c (s.data.toList.drop (m + 1))).map (fun p => (b :: p.1, p.2)) from rfl] at he
      by_cases hc : b = c
      · rw [if_pos (u8_inj.2 hc), if_pos (by omega), hw, if_pos (by omega), if_pos (by omega)]
        rw [if_pos hc] at he
        unfold cutS
        rw [he]
        simp only [Option.map_some, List.append_nil, Int.toNat_natCast]
        rw [Lib.extract_eq, Lib.extract_eq]
        simp only [mkS, List.drop_zero, Nat.sub_zero, Int.toNat_natCast]
        rw [List.take_of_length_le (l := s.data.toList.drop (m + 1)) (by rw [List.length_drop, len_size]; omega)]
      · rw [if_neg (fun e => hc (u8_inj.1 e)), hw]
        rw [if_neg hc] at he
        have hl : m < s.data.toList.length := by rw [len_size]; omega
        have hg : b = s.data.toList[m] := by
          have := List.drop_eq_getElem_cons hl
          rw [hb] at this
          exact (List.cons.inj this).1
        refine ih k (m + 1) (by omega) (by omega) ?_ ?_
        · intro p hp
          rw [he] at hp
          obtain ⟨q, hq, rfl⟩ := Option.map_eq_some_iff.1 hp
          obtain ⟨q', _, rfl⟩ := Option.map_eq_some_iff.1 hq
          simp [len_size]; omega
        · rw [he, Option.map_map]
          congr 1
          funext p
          simp only [Function.comp, Prod.mk.injEq, and_true]
          rw [List.take_succ_eq_append_getElem hl, hg]
          simp
  have h0 := key s.size k 0 (by omega) hk (fun p _ => Nat.zero_le _) (by simp)
  unfold spec_l2Cut.f
  exact h0
/-- A list parted at each such byte. -/
def splitL (c : UInt8) : List UInt8 → List (List UInt8)
  | [] => [[]]
  | b :: l => if b = c then [] :: splitL c l else match splitL c l with
    | [] => [[b]]
    | h :: t => (b :: h) :: t
/-- What stands ahead is put ahead of the first part. -/
def glue (p : List UInt8) : List (List UInt8) → List (List UInt8)
  | [] => [p]
  | h :: t => (p ++ h) :: t
theorem splitL_ne (c : UInt8) : ∀ l, ∃ h t, splitL c l = h :: t
  | [] => ⟨[], [], rfl⟩
  | b :: l => by
    obtain ⟨h, t, e⟩ := splitL_ne c l
    unfold splitL
    by_cases hb : b = c
    · rw [if_pos hb]; exact ⟨_, _, rfl⟩
    · rw [if_neg hb, e]; exact ⟨_, _, rfl⟩
theorem splitL_eq (c : UInt8) (l : List UInt8) : splitL c (c :: l) = [] :: splitL c l := by rw [splitL, if_pos rfl]
theorem splitL_cons {b c : UInt8} (h : ¬ b = c) (l : List UInt8) : splitL c (b :: l) = glue [b] (splitL c l) := by
  obtain ⟨x, t, e⟩ := splitL_ne c l
  rw [splitL, if_neg h, e]
  rfl
theorem glue_nil {c : UInt8} {l : List UInt8} : glue [] (splitL c l) = splitL c l := by
  obtain ⟨x, t, e⟩ := splitL_ne c l
  rw [e]; rfl
theorem glue_glue (p q : List UInt8) {c : UInt8} {l : List UInt8} : glue p (glue q (splitL c l)) = glue (p ++ q) (splitL c l) := by
  obtain ⟨x, t, e⟩ := splitL_ne c l
  rw [e]; simp [glue]
theorem splitL_length (c : UInt8) : ∀ l : List UInt8, (splitL c l).length ≤ l.length + 1
  | [] => by simp [splitL]
  | b :: l => by
    have ih := splitL_length c l
    by_cases h : b = c
    · subst h; rw [splitL_eq]; simp; omega
    · obtain ⟨x, t, e⟩ := splitL_ne c l
      rw [splitL_cons h, e]
      rw [e] at ih
      simp [glue] at ih ⊢; omega
theorem splitL_part (c : UInt8) : ∀ (l : List UInt8) (p : List UInt8), p ∈ splitL c l → p.length ≤ l.length
  | [], p, h => by simp [splitL] at h; simp [h]
  | b :: l, p, h => by
    have ih := splitL_part c l
    by_cases hb : b = c
    · subst hb
      rw [splitL_eq] at h
      rcases List.mem_cons.1 h with rfl | h
      · simp
      · have := ih p h; simp; omega
    · obtain ⟨x, t, e⟩ := splitL_ne c l
      rw [splitL_cons hb, e] at h
      rcases List.mem_cons.1 h with rfl | h
      · have := ih x (by rw [e]; simp); simp; omega
      · have := ih p (by rw [e]; simp [h]); simp; omega
theorem splitL_cut (c : UInt8) : ∀ l : List UInt8, splitL c l = match cutL c l with
    | some p => p.1 :: splitL c p.2
    | none => [l]
  | [] => rfl
  | b :: l => by
    have ih := splitL_cut c l
    by_cases h : b = c
    · subst h; rw [splitL_eq]; simp [cutL]
    · rw [splitL_cons h, ih, show cutL c (b :: l) = (cutL c l).map (fun p => (b :: p.1, p.2)) by rw [cutL, if_neg h]]
      cases cutL c l <;> simp [glue]
def splitA (c : UInt8) (s : ByteArray) : List ByteArray := (splitL c s.data.toList).map mkS
theorem indexB_cut (c : UInt8) (s : ByteArray) : match cutL c s.data.toList with
    | some p => Lib.indexB s (⟨#[c]⟩ : ByteArray) = ((p.1.length : Nat) : Int)
    | none => Lib.indexB s (⟨#[c]⟩ : ByteArray) = -1 := by
  have h := indexByte_cut c s.data.toList
  show match cutL c s.data.toList with
    | some p => Lib.index s.data.toList [c] = ((p.1.length : Nat) : Int)
    | none => Lib.index s.data.toList [c] = -1
  rw [Lib.index_one]
  exact h
theorem libsplit (c : UInt8) : ∀ (n : Nat) (s : ByteArray), s.size ≤ n → Lib.splitB (⟨#[c]⟩ : ByteArray) 0 (Lib.countB s (⟨#[c]⟩ : ByteArray)) s = splitA c s := by
  intro n
  induction n with
  | zero =>
    intro s hs
    have h := indexB_cut c s
    have h0 : s.data.toList = [] := by apply List.eq_nil_of_length_eq_zero; rw [len_size]; omega
    rw [h0] at h
    simp only [cutL] at h
    rw [Lib.countB_miss s _ h, Lib.splitB_zero]
    unfold splitA
    rw [h0]
    simp only [splitL, List.map_cons, List.map_nil]
    rw [← h0, mkS_of]
  | succ n ih =>
    intro s hs
    have h := indexB_cut c s
    cases hc : cutL c s.data.toList with
    | none =>
      rw [hc] at h
      simp only at h
      rw [Lib.countB_miss s _ h, Lib.splitB_zero]
      unfold splitA
      rw [splitL_cut, hc]
      simp only [List.map_cons, List.map_nil]
      rw [mkS_of]
    | some p =>
      rw [hc] at h
      simp only at h
      obtain ⟨e, _⟩ := cutL_some hc
      have hsz : (⟨#[c]⟩ : ByteArray).size = 1 := rfl
      rw [Lib.countB_hit s _ p.1.length (by rw [hsz]; omega) h, Nat.add_comm 1, Lib.splitB_hit _ 0 _ s p.1.length h, hsz]
      have hl : s.size = p.1.length + 1 + p.2.length := by rw [← len_size, e]; simp; omega
      have e1 : s.extract 0 (p.1.length + 0) = mkS p.1 := s_ext (by rw [Lib.extract_data, mkS_list, e]; simp)
      have e2 : s.extract (p.1.length + 1) s.size = mkS p.2 := s_ext (by
        rw [Lib.extract_data, mkS_list, e, show p.1 ++ c :: p.2 = (p.1 ++ [c]) ++ p.2 by simp, List.drop_left' (by simp), List.take_of_length_le (by omega)])
      rw [e1, e2, ih (mkS p.2) (by rw [mkS_size]; omega)]
      unfold splitA
      rw [splitL_cut c s.data.toList, hc, mkS_list]
      rfl
theorem implSplit_at (s : ByteArray) (c : UInt8) (hs : s.size < 4294967281) : impl_Split.f s (c.toNat : Int) = some (splitA c s) := by
  have hc : strOfNums ([(c.toNat : Int)] : List Int) = (⟨#[c]⟩ : ByteArray) := by
    apply s_ext
    rw [strOfNums_data]
    simp
  unfold impl_Split.f strings_Split.f
  rw [hc, if_pos hs, if_pos (show 1 ≤ (⟨#[c]⟩ : ByteArray).size from Nat.le_refl 1), libsplit c s.size s (Nat.le_refl _)]
  rfl
theorem specSplit_at (s : ByteArray) (c : UInt8) (hs : s.size < 4294967281) (k : Nat) (hk : s.size + 2 < k) : spec_Split.f k s (c.toNat : Int) = some (splitA c s) := by
  have key : ∀ (d k m f : Nat) (out : List ByteArray), m + d = s.size → d + 2 < k → f ≤ m → out.length + d + 1 < 8796093022208 →
      spec_Split.l0 k s (c.toNat : Int) out (f : Int) (m : Int) = some (out ++ (glue ((s.data.toList.drop f).take (m - f)) (splitL c (s.data.toList.drop m))).map mkS) := by
    intro d
    induction d with
    | zero =>
      intro k m f out hd hk hf ho
      obtain ⟨k, rfl⟩ : ∃ q, k = q + 2 := ⟨k - 2, by omega⟩
      have hw : wrap64 ((m : Int) + 1) = ((m + 1 : Nat) : Int) := wn (n := m + 1) (by omega) (by omega)
      simp only [spec_Split.l0]
      rw [if_pos (show (m : Int) ≤ (s.size : Int) by omega), if_pos (show (m : Int) = (s.size : Int) by omega), if_pos (by omega), if_pos (by omega), if_pos (by omega), hw, if_neg (by omega)]
      rw [List.drop_of_length_le (i := m) (by rw [len_size]; omega)]
      simp only [splitL, glue, List.append_nil, List.map_cons, List.map_nil, Int.toNat_natCast]
      rw [Lib.extract_eq]
      rfl
    | succ d ih =>
      intro k m f out hd hk hf ho
      obtain ⟨k, rfl⟩ : ∃ q, k = q + 1 := ⟨k - 1, by omega⟩
      obtain ⟨b, hb, hbt⟩ := drop_byte s m (by omega)
      have hw : wrap64 ((m : Int) + 1) = ((m + 1 : Nat) : Int) := wn (n := s.size) (by omega) (by omega)
      have hl : m < s.data.toList.length := by rw [len_size]; omega
      have hg : s.data.toList[m] = b := by
        have := List.drop_eq_getElem_cons hl
        rw [hb] at this
        exact (List.cons.inj this).1.symm
      simp only [spec_Split.l0]
      rw [if_pos (show (m : Int) ≤ (s.size : Int) by omega), if_neg (show ¬ (m : Int) = (s.size : Int) by omega), if_pos (by omega), if_pos (by omega), hbt, hb]
      by_cases hc : b = c
      · subst hc
        rw [if_pos rfl, if_pos (by omega), if_pos (by omega), if_pos (by omega), hw, ih k (m + 1) (m + 1) _ (by omega) (by omega) (Nat.le_refl _) (by simp; omega), splitL_eq, Nat.sub_self, List.take_zero, glue_nil]
        simp only [glue, List.append_nil, List.map_cons, Int.toNat_natCast]
        rw [Lib.extract_eq]
        simp [mkS]
      · rw [if_neg (fun e => hc (u8_inj.1 e)), hw, ih k (m + 1) f _ (by omega) (by omega) (by omega) (by omega), splitL_cons hc, glue_glue]
        congr 4
        rw [show m + 1 - f = (m - f) + 1 by omega, List.take_succ_eq_append_getElem (by rw [List.length_drop]; omega), List.getElem_drop]
        congr 2
        rw [← hg]
        congr 1
        omega
  have h0 := key s.size k 0 0 [] (by omega) (by omega) (Nat.le_refl _) (by simp; omega)
  unfold spec_Split.f splitA
  simp only [Nat.sub_self, List.take_zero, List.drop_zero, glue_nil, List.nil_append] at h0
  exact h0
/-- A number's numeral. -/
def digS (n : Nat) : ByteArray := mkS (Lib.decDigits n)
theorem dig_isDigit (n : Nat) : ∀ b ∈ Lib.decDigits n, 48 ≤ b.toNat ∧ b.toNat ≤ 57 := by
  induction n using Nat.strongRecOn with
  | _ n ih =>
    intro b hb
    rw [Lib.decDigits] at hb
    by_cases h : n < 10
    · rw [dif_pos h] at hb
      obtain rfl := List.mem_singleton.1 hb
      rw [UInt8.toNat_ofNat']
      omega
    · rw [dif_neg h] at hb
      rcases List.mem_append.1 hb with hb | hb
      · exact ih (n / 10) (by omega) b hb
      · obtain rfl := List.mem_singleton.1 hb
        rw [UInt8.toNat_ofNat']
        omega
theorem dig_ne (n : Nat) (c : UInt8) (h : c.toNat < 48 ∨ 57 < c.toNat) : c ∉ Lib.decDigits n := fun hm => by
  have := dig_isDigit n c hm
  omega
theorem dig_len (j : Nat) : ∀ n, n < 10 ^ (j + 1) → (Lib.decDigits n).length ≤ j + 1 := by
  induction j with
  | zero => intro n h; rw [Lib.decDigits_one (by omega)]; simp
  | succ j ih =>
    intro n h
    rw [Lib.decDigits]
    by_cases h1 : n < 10
    · rw [dif_pos h1]; simp
    · rw [dif_neg h1]
      have := ih (n / 10) (by rw [Nat.pow_succ] at h; omega)
      simp only [List.length_append, List.length_singleton]; omega
theorem dig_pos (n : Nat) : 0 < (Lib.decDigits n).length := by
  rw [Lib.decDigits]
  split <;> simp
theorem implDigits_at (n : Nat) (h : n ≤ 9223372036854775807) : impl_Digits.f (n : Int) = some (digS n) := by
  unfold impl_Digits.f strconv_Itoa_205.f digS
  rw [if_pos (by omega), if_pos (by omega), Option.bind_some]
  unfold Lib.itoa
  rw [if_neg (by omega)]
  rfl
theorem specDigits_l : ∀ (j n k : Nat) (acc : ByteArray), n < 10 ^ j → n ≤ 9223372036854775807 → j < k → acc.size + j ≤ 1000 →
    spec_Digits.l0 k (n : Int) false acc = some (mkS ((if n = 0 then [] else Lib.decDigits n) ++ acc.data.toList)) := by
  intro j
  induction j with
  | zero =>
    intro n k acc h hn hk ha
    obtain ⟨k, rfl⟩ : ∃ q, k = q + 1 := ⟨k - 1, by omega⟩
    obtain rfl : n = 0 := by simpa using h
    simp only [spec_Digits.l0]
    simp [mkS_of]
  | succ j ih =>
    intro n k acc h hn hk ha
    obtain ⟨k, rfl⟩ : ∃ q, k = q + 1 := ⟨k - 1, by omega⟩
    simp only [spec_Digits.l0]
    by_cases h0 : n = 0
    · subst h0; simp [mkS_of]
    · have hm : Int.tmod (n : Int) 10 = ((n % 10 : Nat) : Int) := by rw [Int.tmod_eq_emod_of_nonneg (by omega)]; omega
      have hd : wrap64 (Int.tdiv (n : Int) 10) = ((n / 10 : Nat) : Int) := by
        rw [Int.tdiv_eq_ediv_of_nonneg (by omega)]
        unfold wrap64; omega
      have hw : wrap64 (48 + ((n % 10 : Nat) : Int)) % 256 = ((48 + n % 10 : Nat) : Int) := by unfold wrap64; omega
      rw [if_neg (by omega), hm, if_neg (by omega), Option.bind_some, hw, hd]
      have hs : (strOfNums [((48 + n % 10 : Nat) : Int)]).size = 1 := by rw [strOfNums_size]; rfl
      rw [if_pos (by rw [hs]; omega), ih (n / 10) k _ (by rw [Nat.pow_succ] at h; omega) (by omega) (by omega) (by rw [ByteArray.size_append, hs]; omega)]
      congr 2
      rw [if_neg h0]
      simp only [ByteArray.data_append, Array.toList_append, strOfNums_data, List.map_cons, List.map_nil, Int.toNat_natCast]
      by_cases h1 : n < 10
      · rw [if_pos (by omega), Lib.decDigits_one h1, Nat.mod_eq_of_lt h1]
        rfl
      · have e : Lib.decDigits n = Lib.decDigits (n / 10) ++ [UInt8.ofNat (48 + n % 10)] := by rw [Lib.decDigits, dif_neg h1]
        rw [if_neg (by omega), e]
        simp
theorem specDigits_at (n : Nat) (h : n < 10 ^ 20) (h' : n ≤ 9223372036854775807) (k : Nat) (hk : 20 < k) : spec_Digits.f k (n : Int) = some (digS n) := by
  unfold spec_Digits.f digS
  by_cases h0 : n = 0
  · subst h0
    rw [if_pos (show ((0 : Nat) : Int) = 0 from rfl), Lib.decDigits_one (by omega)]
    rfl
  · rw [if_neg (by omega), show decide ((n : Int) < 0) = false by simp, specDigits_l 20 n k _ h h' hk (by decide), if_neg h0]
    congr 2
    show Lib.decDigits n ++ [] = _
    simp
theorem num_w1 (n b : Int) (h0 : 0 ≤ n) (h1 : n < 1000000) (hb : 48 ≤ b) (hb2 : b ≤ 255) : wrap64 (wrap64 (wrap64 (10 * n) + wrap64 b) - 48) = 10 * n + (b - 48) := by
  have w1 : wrap64 (10 * n) = 10 * n := by unfold wrap64; omega
  have w2 : wrap64 b = b := by unfold wrap64; omega
  rw [w1, w2]
  have w3 : wrap64 (10 * n + b) = 10 * n + b := by unfold wrap64; omega
  rw [w3]
  unfold wrap64; omega
theorem num_w2 (n b : Int) (h0 : 0 ≤ n) (h1 : n < 1000000) (hb : 48 ≤ b) (hb2 : b ≤ 255) : wrap64 (wrap64 (10 * n) + (b - 48) % 256) = 10 * n + (b - 48) := by
  have w1 : wrap64 (10 * n) = 10 * n := by unfold wrap64; omega
  have w2 : (b - 48) % 256 = b - 48 := by omega
  rw [w1, w2]
  unfold wrap64; omega
/-- What both sides of Number tell. -/
theorem number_l (s : ByteArray) (h6 : s.size ≤ 6) : ∀ (d k m n : Nat), m + d = s.size → d + 25 < k → n < 10 ^ m →
    ∃ r : Int × Bool, spec_Number.l0 k s (n : Int) (m : Int) = some r ∧ impl_Number.l0 k s (n : Int) (m : Int) = some r ∧ ∃ q : Nat, r.1 = (q : Int) ∧ q < 1000000 ∧ (r.2 = true → s = digS q) := by
  intro d
  induction d with
  | zero =>
    intro k m n hd hk hn
    obtain ⟨k, rfl⟩ : ∃ q, k = q + 1 := ⟨k - 1, by omega⟩
    have hp : 10 ^ m ≤ 10 ^ 6 := Nat.pow_le_pow_right (by omega) (by omega)
    have hn6 : n < 1000000 := by omega
    have hs : spec_Number.l0 (k + 1) s (n : Int) (m : Int) = if (digS n).toList = s.toList then some ((n : Int), true) else some (0, false) := by
      simp only [spec_Number.l0]
      rw [if_neg (by omega), specDigits_at n (by omega) (by omega) k (by omega), Option.bind_some]
    have hi : impl_Number.l0 (k + 1) s (n : Int) (m : Int) = if (digS n).toList = s.toList then some ((n : Int), true) else some (0, false) := by
      simp only [impl_Number.l0]
      rw [if_neg (by omega), implDigits_at n (by omega), Option.bind_some]
    rw [hs, hi]
    by_cases h : (digS n).toList = s.toList
    · rw [if_pos h]
      refine ⟨_, rfl, rfl, n, rfl, hn6, fun _ => ?_⟩
      rw [Lib.toList_data, Lib.toList_data] at h
      exact (s_ext h).symm
    · rw [if_neg h]
      exact ⟨_, rfl, rfl, 0, rfl, by omega, fun e => by cases e⟩
  | succ d ih =>
    intro k m n hd hk hn
    obtain ⟨k, rfl⟩ : ∃ q, k = q + 1 := ⟨k - 1, by omega⟩
    have hp : 10 ^ m ≤ 10 ^ 6 := Nat.pow_le_pow_right (by omega) (by omega)
    have hn6 : (n : Int) < 1000000 := by omega
    obtain ⟨b, hb, hbt⟩ := drop_byte s m (by omega)
    have hw : wrap64 ((m : Int) + 1) = ((m + 1 : Nat) : Int) := wn (n := s.size) (by omega) (by omega)
    have hs : spec_Number.l0 (k + 1) s (n : Int) (m : Int) = if (b.toNat : Int) < 48 then some (0, false) else if (b.toNat : Int) > 57 then some (0, false) else spec_Number.l0 k s ((10 * n + (b.toNat - 48) : Nat) : Int) ((m + 1 : Nat) : Int) := by
      simp only [spec_Number.l0]
      rw [if_pos (by omega), if_pos (by omega), hbt, hw]
      by_cases h1 : (b.toNat : Int) < 48
      · rw [if_pos h1, if_pos h1]
      · have e1 : wrap64 (wrap64 (wrap64 (10 * (n : Int)) + wrap64 (b.toNat : Int)) - 48) = ((10 * n + (b.toNat - 48) : Nat) : Int) := by
          have := b.toNat_lt
          rw [num_w1 n b.toNat (by omega) hn6 (by omega) (by omega)]; omega
        rw [if_neg h1, if_neg h1, e1]
    have hi : impl_Number.l0 (k + 1) s (n : Int) (m : Int) = if (b.toNat : Int) < 48 then some (0, false) else if (b.toNat : Int) > 57 then some (0, false) else impl_Number.l0 k s ((10 * n + (b.toNat - 48) : Nat) : Int) ((m + 1 : Nat) : Int) := by
      simp only [impl_Number.l0]
      rw [if_pos (by omega), if_pos (by omega), hbt, hw]
      by_cases h1 : (b.toNat : Int) < 48
      · rw [if_pos h1, if_pos h1]
      · have e2 : wrap64 (wrap64 (10 * (n : Int)) + ((b.toNat : Int) - 48) % 256) = ((10 * n + (b.toNat - 48) : Nat) : Int) := by
          have := b.toNat_lt
          rw [num_w2 n b.toNat (by omega) hn6 (by omega) (by omega)]; omega
        rw [if_neg h1, if_neg h1, e2]
    rw [hs, hi]
    by_cases h1 : (b.toNat : Int) < 48
    · exact ⟨(0, false), by rw [if_pos h1], by rw [if_pos h1], 0, rfl, by omega, fun e => by cases e⟩
    · by_cases h2 : (b.toNat : Int) > 57
      · exact ⟨(0, false), by rw [if_neg h1, if_pos h2], by rw [if_neg h1, if_pos h2], 0, rfl, by omega, fun e => by cases e⟩
      · simp only [h1, h2, if_false]
        exact ih k (m + 1) _ (by omega) (by omega) (by rw [Nat.pow_succ]; omega)
theorem number_at (s : ByteArray) (k : Nat) (hk : 40 < k) : ∃ r : Int × Bool, spec_Number.f k s = some r ∧ impl_Number.f k s = some r ∧ ∃ q : Nat, r.1 = (q : Int) ∧ q < 1000000 ∧ (r.2 = true → s = digS q) := by
  unfold spec_Number.f impl_Number.f
  obtain ⟨k, rfl⟩ : ∃ q, k = q + 1 := ⟨k - 1, by omega⟩
  by_cases h1 : (s.size : Int) < 1
  · refine ⟨(0, false), ?_, ?_, 0, rfl, by omega, fun e => by cases e⟩
    · rw [if_pos h1]; simp [spec_Number.j0]
    · rw [if_pos h1]; simp [impl_Number.j0]
  · by_cases h2 : (s.size : Int) > 6
    · refine ⟨(0, false), ?_, ?_, 0, rfl, by omega, fun e => by cases e⟩
      · rw [if_neg h1]; simp only [spec_Number.j0]; rw [if_pos (decide_eq_true h2)]
      · rw [if_neg h1]; simp only [impl_Number.j0]; rw [if_pos (decide_eq_true h2)]
    · obtain ⟨r, e1, e2, e3⟩ := number_l s (by omega) s.size k 0 0 (by omega) (by omega) (by omega)
      refine ⟨r, ?_, ?_, e3⟩
      · rw [if_neg h1]; simp only [spec_Number.j0]; rw [if_neg (by simpa using h2)]; exact e1
      · rw [if_neg h1]; simp only [impl_Number.j0]; rw [if_neg (by simpa using h2)]; exact e2
def txB (a b c d : Nat) : Bool := decide ((a : Int) ≤ 3 ∧ (b : Int) ≤ 3 ∧ (c : Int) ≤ 1000 ∧ (d : Int) ≤ 99)
def txL (a b c d : Nat) : List UInt8 := Lib.decDigits a ++ 62 :: (Lib.decDigits b ++ 58 :: (Lib.decDigits c ++ 35 :: Lib.decDigits d))
theorem implTxOk_at (a b c d : Nat) : impl_TxOk.f (a : Int) (b : Int) (c : Int) (d : Int) = some (txB a b c d) := by
  unfold impl_TxOk.f impl_within.f txB
  rw [if_pos (by omega), if_pos (by omega), if_pos (by omega), if_pos (by omega)]
  by_cases h1 : (a : Int) ≤ 3 <;> by_cases h2 : (b : Int) ≤ 3 <;> by_cases h3 : (c : Int) ≤ 1000 <;> by_cases h4 : (d : Int) ≤ 99 <;> simp [h1, h2, h3, h4]
theorem specTxOk_at (a b c d : Nat) : spec_TxOk.f (a : Int) (b : Int) (c : Int) (d : Int) = some (txB a b c d) := implTxOk_at a b c d
theorem digS_size (n : Nat) (h : n < 1000000) : (digS n).size ≤ 6 := by
  unfold digS
  rw [mkS_size]
  exact dig_len 5 n h
theorem tx_join (a b c d : Nat) : ((((((digS a ++ (⟨#[62]⟩ : ByteArray)) ++ digS b) ++ (⟨#[58]⟩ : ByteArray)) ++ digS c) ++ (⟨#[35]⟩ : ByteArray)) ++ digS d) = mkS (txL a b c d) := by
  apply s_ext
  simp only [ByteArray.data_append, Array.toList_append, mkS_list, digS, txL]
  simp
theorem implTxText_at (a b c d : Nat) (ha : a < 1000000) (hb : b < 1000000) (hc : c < 1000000) (hd : d < 1000000) :
    impl_TxText.f (a : Int) (b : Int) (c : Int) (d : Int) = some (if txB a b c d = true then mkS (txL a b c d) else mkS []) := by
  have s1 := digS_size a ha
  have s2 := digS_size b hb
  have s3 := digS_size c hc
  have s4 := digS_size d hd
  have o1 : (⟨#[62]⟩ : ByteArray).size = 1 := rfl
  have o2 : (⟨#[58]⟩ : ByteArray).size = 1 := rfl
  have o3 : (⟨#[35]⟩ : ByteArray).size = 1 := rfl
  unfold impl_TxText.f
  rw [implTxOk_at, Option.bind_some]
  by_cases h : txB a b c d = true
  · rw [if_pos h, if_pos h, implDigits_at a (by omega), Option.bind_some, if_pos (by omega), implDigits_at b (by omega), Option.bind_some, if_pos (by simp only [ByteArray.size_append]; omega), if_pos (by simp only [ByteArray.size_append]; omega),
      implDigits_at c (by omega), Option.bind_some, if_pos (by simp only [ByteArray.size_append]; omega), if_pos (by simp only [ByteArray.size_append]; omega), implDigits_at d (by omega), Option.bind_some, if_pos (by simp only [ByteArray.size_append]; omega), tx_join]
  · rw [if_neg h, if_neg h]; rfl
theorem specTxText_at (a b c d : Nat) (ha : a < 1000000) (hb : b < 1000000) (hc : c < 1000000) (hd : d < 1000000) (k : Nat) (hk : 20 < k) :
    spec_TxText.f k (a : Int) (b : Int) (c : Int) (d : Int) = some (if txB a b c d = true then mkS (txL a b c d) else mkS []) := by
  have s1 := digS_size a ha
  have s2 := digS_size b hb
  have s3 := digS_size c hc
  have s4 := digS_size d hd
  have o1 : (⟨#[62]⟩ : ByteArray).size = 1 := rfl
  have o2 : (⟨#[58]⟩ : ByteArray).size = 1 := rfl
  have o3 : (⟨#[35]⟩ : ByteArray).size = 1 := rfl
  have p : (1000000 : Nat) ≤ 10 ^ 20 := by decide
  unfold spec_TxText.f
  rw [specTxOk_at, Option.bind_some]
  by_cases h : txB a b c d = true
  · rw [if_pos h, if_pos h, specDigits_at a (by omega) (by omega) k hk, Option.bind_some, if_pos (by omega), specDigits_at b (by omega) (by omega) k hk, Option.bind_some, if_pos (by simp only [ByteArray.size_append]; omega), if_pos (by simp only [ByteArray.size_append]; omega),
      specDigits_at c (by omega) (by omega) k hk, Option.bind_some, if_pos (by simp only [ByteArray.size_append]; omega), if_pos (by simp only [ByteArray.size_append]; omega), specDigits_at d (by omega) (by omega) k hk, Option.bind_some, if_pos (by simp only [ByteArray.size_append]; omega), tx_join]
  · rw [if_neg h, if_neg h]; rfl
/-- What is told of a text and four numbers. -/
def tell (s : ByteArray) (a b c d : Nat) : Int × Int × Int × Int × Bool := if txB a b c d = true ∧ txL a b c d = s.data.toList then ((a : Int), (b : Int), (c : Int), (d : Int), true) else (0, 0, 0, 0, false)
theorem tell_eq (s : ByteArray) (a b c d : Nat) (h : mkS (txL a b c d) = s) : txL a b c d = s.data.toList := by rw [← h, mkS_list]
theorem txL_chain (a b c d : Nat) : cutL 62 (txL a b c d) = some (Lib.decDigits a, Lib.decDigits b ++ 58 :: (Lib.decDigits c ++ 35 :: Lib.decDigits d)) ∧
    cutL 58 (Lib.decDigits b ++ 58 :: (Lib.decDigits c ++ 35 :: Lib.decDigits d)) = some (Lib.decDigits b, Lib.decDigits c ++ 35 :: Lib.decDigits d) ∧ cutL 35 (Lib.decDigits c ++ 35 :: Lib.decDigits d) = some (Lib.decDigits c, Lib.decDigits d) :=
  ⟨cutL_app (dig_ne a 62 (by decide)), cutL_app (dig_ne b 58 (by decide)), cutL_app (dig_ne c 35 (by decide))⟩
theorem implTxOf_core (s x1 x2 x3 y1 y2 y3 : ByteArray) (b1 b2 b3 : Bool) (k : Nat) (hk : 40 < k) (h1 : strings_Cut.f s (⟨#[62]⟩ : ByteArray) = some (x1, y1, b1)) (h2 : strings_Cut.f y1 (⟨#[58]⟩ : ByteArray) = some (x2, y2, b2)) (h3 : strings_Cut.f y2 (⟨#[35]⟩ : ByteArray) = some (x3, y3, b3))
    (a b c d : Nat) (ha : a < 1000000) (hb : b < 1000000) (hc : c < 1000000) (hd : d < 1000000) (m1 m2 m3 m4 : Bool)
    (n1 : impl_Number.f k x1 = some ((a : Int), m1)) (n2 : impl_Number.f k x2 = some ((b : Int), m2)) (n3 : impl_Number.f k x3 = some ((c : Int), m3)) (n4 : impl_Number.f k y3 = some ((d : Int), m4)) : impl_TxOf.f k s = some (tell s a b c d) := by
  unfold impl_TxOf.f tell
  rw [h1, Option.bind_some]; dsimp only
  rw [h2, Option.bind_some]; dsimp only
  rw [h3, Option.bind_some]; dsimp only
  rw [n1, Option.bind_some, n2, Option.bind_some, n3, Option.bind_some, n4, Option.bind_some]; dsimp only
  rw [implTxOk_at, Option.bind_some, implTxText_at a b c d ha hb hc hd]
  by_cases h : txB a b c d = true
  · rw [if_pos h, Option.bind_some, if_pos h, mkS_toList, Lib.toList_data]
    by_cases e : txL a b c d = s.data.toList
    · rw [if_pos e, if_pos ⟨h, e⟩]
    · rw [if_neg e, if_neg (fun x => e x.2)]
  · rw [if_neg h, if_neg (fun x => h x.1)]
theorem specTxOf_core (s x1 x2 x3 y1 y2 y3 : ByteArray) (b1 b2 b3 : Bool) (k : Nat) (hk : 40 < k) (h1 : spec_l2Cut.f k s 62 = some (x1, y1, b1)) (h2 : spec_l2Cut.f k y1 58 = some (x2, y2, b2)) (h3 : spec_l2Cut.f k y2 35 = some (x3, y3, b3))
    (a b c d : Nat) (ha : a < 1000000) (hb : b < 1000000) (hc : c < 1000000) (hd : d < 1000000) (m1 m2 m3 m4 : Bool)
    (n1 : spec_Number.f k x1 = some ((a : Int), m1)) (n2 : spec_Number.f k x2 = some ((b : Int), m2)) (n3 : spec_Number.f k x3 = some ((c : Int), m3)) (n4 : spec_Number.f k y3 = some ((d : Int), m4)) : spec_TxOf.f k s = some (tell s a b c d) := by
  unfold spec_TxOf.f tell
  rw [h1, Option.bind_some]; dsimp only
  rw [h2, Option.bind_some]; dsimp only
  rw [h3, Option.bind_some]; dsimp only
  rw [n1, Option.bind_some, n2, Option.bind_some, n3, Option.bind_some, n4, Option.bind_some]; dsimp only
  rw [specTxText_at a b c d ha hb hc hd k (by omega), Lib.toList_data]
  by_cases e0 : s.data.toList = []
  · rw [if_pos e0, if_neg]
    rintro ⟨_, x⟩
    rw [e0] at x
    have := dig_pos a
    simp [txL] at x
  · rw [if_neg e0, Option.bind_some]
    by_cases h : txB a b c d = true
    · rw [if_pos h, mkS_toList]
      by_cases e : txL a b c d = s.data.toList
      · rw [if_pos e, if_pos ⟨h, e⟩]
      · rw [if_neg e, if_neg (fun x => e x.2)]
    · rw [if_neg h, mkS_toList, if_neg (fun x => e0 x.symm), if_neg (fun x => h x.1)]
theorem num_of (x : ByteArray) (k : Nat) (hk : 40 < k) : ∃ (a : Nat) (m : Bool), a < 1000000 ∧ spec_Number.f k x = some ((a : Int), m) ∧ impl_Number.f k x = some ((a : Int), m) := by
  obtain ⟨⟨r, m⟩, e1, e2, q, rfl, hq, _⟩ := number_at x k hk
  exact ⟨q, m, hq, e1, e2⟩
/-- A text that lacks one of the three signs, in their order, is no payment's. -/
theorem tell_none (s : ByteArray) (h : ∀ p1 p2 p3, cutL 62 s.data.toList = some p1 → cutL 58 p1.2 = some p2 → cutL 35 p2.2 = some p3 → False) (a b c d : Nat) : tell s a b c d = (0, 0, 0, 0, false) := by
  unfold tell
  rw [if_neg]
  rintro ⟨_, e⟩
  obtain ⟨c1, c2, c3⟩ := txL_chain a b c d
  rw [e] at c1
  exact h _ _ _ c1 c2 c3
theorem txOf_at (s : ByteArray) (hs : s.size < 4294967281) (k : Nat) (hk : s.size + 41 < k) : ∃ r, spec_TxOf.f k s = some r ∧ impl_TxOf.f k s = some r := by
  have both : ∀ (x1 x2 x3 y1 y2 y3 x1' x2' x3' y1' y2' y3' : ByteArray) (b1 b2 b3 b1' b2' b3' : Bool),
      spec_l2Cut.f k s 62 = some (x1, y1, b1) → spec_l2Cut.f k y1 58 = some (x2, y2, b2) → spec_l2Cut.f k y2 35 = some (x3, y3, b3) →
      strings_Cut.f s (⟨#[62]⟩ : ByteArray) = some (x1', y1', b1') → strings_Cut.f y1' (⟨#[58]⟩ : ByteArray) = some (x2', y2', b2') → strings_Cut.f y2' (⟨#[35]⟩ : ByteArray) = some (x3', y3', b3') →
      ((∀ a b c d : Nat, tell s a b c d = (0, 0, 0, 0, false)) ∨ (x1 = x1' ∧ x2 = x2' ∧ x3 = x3' ∧ y3 = y3')) → ∃ r, spec_TxOf.f k s = some r ∧ impl_TxOf.f k s = some r := by
    intro x1 x2 x3 y1 y2 y3 x1' x2' x3' y1' y2' y3' b1 b2 b3 b1' b2' b3' h1 h2 h3 g1 g2 g3 hor
    rcases hor with ht | ⟨rfl, rfl, rfl, rfl⟩
    · obtain ⟨a, m1, ha, n1, _⟩ := num_of x1 k (by omega)
      obtain ⟨b, m2, hb, n2, _⟩ := num_of x2 k (by omega)
      obtain ⟨c, m3, hc, n3, _⟩ := num_of x3 k (by omega)
      obtain ⟨d, m4, hd, n4, _⟩ := num_of y3 k (by omega)
      obtain ⟨a', m1', ha', _, n1'⟩ := num_of x1' k (by omega)
      obtain ⟨b', m2', hb', _, n2'⟩ := num_of x2' k (by omega)
      obtain ⟨c', m3', hc', _, n3'⟩ := num_of x3' k (by omega)
      obtain ⟨d', m4', hd', _, n4'⟩ := num_of y3' k (by omega)
      refine ⟨(0, 0, 0, 0, false), ?_, ?_⟩
      · rw [specTxOf_core s x1 x2 x3 y1 y2 y3 b1 b2 b3 k (by omega) h1 h2 h3 a b c d ha hb hc hd m1 m2 m3 m4 n1 n2 n3 n4, ht]
      · rw [implTxOf_core s x1' x2' x3' y1' y2' y3' b1' b2' b3' k (by omega) g1 g2 g3 a' b' c' d' ha' hb' hc' hd' m1' m2' m3' m4' n1' n2' n3' n4', ht]
    · obtain ⟨a, m1, ha, n1, n1'⟩ := num_of x1 k (by omega)
      obtain ⟨b, m2, hb, n2, n2'⟩ := num_of x2 k (by omega)
      obtain ⟨c, m3, hc, n3, n3'⟩ := num_of x3 k (by omega)
      obtain ⟨d, m4, hd, n4, n4'⟩ := num_of y3 k (by omega)
      exact ⟨_, specTxOf_core s x1 x2 x3 y1 y2 y3 b1 b2 b3 k (by omega) h1 h2 h3 a b c d ha hb hc hd m1 m2 m3 m4 n1 n2 n3 n4, implTxOf_core s x1 x2 x3 y1' y2' y3 b1' b2' b3' k (by omega) g1 g2 g3 a b c d ha hb hc hd m1 m2 m3 m4 n1' n2' n3' n4'⟩
  have sz0 : (mkS []).size = 0 := rfl
  have sp : ∀ {c : UInt8} {l : List UInt8} {p : List UInt8 × List UInt8}, cutL c l = some p → (mkS p.1).size ≤ l.length ∧ (mkS p.2).size ≤ l.length := by
    intro c l p h
    obtain ⟨e, _⟩ := cutL_some h
    rw [mkS_size, mkS_size, e]
    simp; omega
  have cS : ∀ (x : ByteArray) (c : UInt8), (cutS x c).2.1.size ≤ x.size := by
    intro x c
    unfold cutS
    cases h : cutL c x.data.toList with
    | none => simp only; rw [sz0]; omega
    | some p => simp only; have := (sp h).2; rw [len_size] at this; exact this
  have cI : ∀ (x : ByteArray) (c : UInt8), (cutI x c).2.1.size ≤ x.size := by
    intro x c
    unfold cutI
    cases h : cutL c x.data.toList with
    | none => simp only; rw [sz0]; omega
    | some p => simp only; have := (sp h).2; rw [len_size] at this; exact this
  have k1 := cS s 62
  have k2 := cS (cutS s 62).2.1 58
  have i1 := cI s 62
  have i2 := cI (cutI s 62).2.1 58
  refine both _ _ _ _ _ _ _ _ _ _ _ _ _ _ _ _ _ _ (specCut_at s 62 hs k (by omega)) (specCut_at (cutS s 62).2.1 58 (by omega) k (by omega)) (specCut_at (cutS (cutS s 62).2.1 58).2.1 35 (by omega) k (by omega))
    (implCut_at s 62 hs) (implCut_at (cutI s 62).2.1 58 (by omega)) (implCut_at (cutI (cutI s 62).2.1 58).2.1 35 (by omega)) ?_
  by_cases hn : ∃ p1 p2 p3, cutL 62 s.data.toList = some p1 ∧ cutL 58 p1.2 = some p2 ∧ cutL 35 p2.2 = some p3
  rotate_left
  · exact Or.inl (tell_none s (fun p1 p2 p3 x1 x2 x3 => hn ⟨p1, p2, p3, x1, x2, x3⟩))
  · right
    obtain ⟨p1, p2, p3, e1, e2, e3⟩ := hn
    have a1 : cutS s 62 = (mkS p1.1, mkS p1.2, true) := by unfold cutS; rw [e1]
    have a2 : cutI s 62 = (mkS p1.1, mkS p1.2, true) := by unfold cutI; rw [e1]
    have a3 : cutS (mkS p1.2) 58 = (mkS p2.1, mkS p2.2, true) := by unfold cutS; rw [mkS_list, e2]
    have a4 : cutI (mkS p1.2) 58 = (mkS p2.1, mkS p2.2, true) := by unfold cutI; rw [mkS_list, e2]
    have a5 : cutS (mkS p2.2) 35 = (mkS p3.1, mkS p3.2, true) := by unfold cutS; rw [mkS_list, e3]
    have a6 : cutI (mkS p2.2) 35 = (mkS p3.1, mkS p3.2, true) := by unfold cutI; rw [mkS_list, e3]
    simp only [a1, a2, a3, a4, a5, a6, mkS_list, e1, e2, e3, and_self]
theorem rdOf_mem {α : Type} (d : α) (xs : List α) (m : Nat) (h : m < xs.length) : rdOf d xs (m : Int) ∈ xs := by
  unfold rdOf
  simp [List.getD_eq_getElem?_getD, List.getElem?_eq_getElem h]
theorem splitA_size (c : UInt8) (s : ByteArray) : ∀ p ∈ splitA c s, p.size ≤ s.size := by
  intro p hp
  unfold splitA at hp
  obtain ⟨l, hl, rfl⟩ := List.mem_map.1 hp
  rw [mkS_size, ← len_size]
  exact splitL_part c _ l hl
theorem splitA_length (c : UInt8) (s : ByteArray) : (splitA c s).length ≤ s.size + 1 := by
  unfold splitA
  rw [List.length_map, ← len_size]
  exact splitL_length c _
theorem txsOf_l (ps : List ByteArray) (hL : ps.length < 1000000000000) (B : Nat) (hB : B < 4294967281) (hp : ∀ p ∈ ps, p.size ≤ B) : ∀ (d k m : Nat) (out : List (S156)), m + d = ps.length → d + B + 42 < k → out.length + d < 4398046511104 →
    ∃ r, spec_TxsOf.l0 k out ps (m : Int) = some r ∧ impl_TxsOf.l0 k out ps (ps.length : Int) (m : Int) = some r ∧ r.1.length ≤ out.length + d := by
  intro d
  induction d with
  | zero =>
    intro k m out hd hk ho
    obtain ⟨k, rfl⟩ : ∃ q, k = q + 1 := ⟨k - 1, by omega⟩
    refine ⟨(out, true), ?_, ?_, Nat.le_refl _⟩
    · simp only [spec_TxsOf.l0]; rw [if_neg (by omega)]
    · simp only [impl_TxsOf.l0]; rw [if_neg (by omega)]
  | succ d ih =>
    intro k m out hd hk ho
    obtain ⟨k, rfl⟩ : ∃ q, k = q + 1 := ⟨k - 1, by omega⟩
    have hs := hp _ (rdOf_mem ByteArray.empty ps m (by omega))
    obtain ⟨⟨a, b, c, e, ok⟩, h1, h2⟩ := txOf_at (rdOf ByteArray.empty ps (m : Int)) (by omega) k (by omega)
    have hw : wrap64 ((m : Int) + 1) = ((m + 1 : Nat) : Int) := wn (n := ps.length) (by omega) (by omega)
    have e1 : spec_TxsOf.l0 (k + 1) out ps (m : Int) = if ok = true then spec_TxsOf.l0 k (out ++ [⟨a, b, c, e⟩]) ps ((m + 1 : Nat) : Int) else some ([], false) := by
      simp only [spec_TxsOf.l0]
      rw [if_pos (by omega), if_pos (by omega), h1, Option.bind_some, hw, if_pos (show out.length < 4398046511104 by omega)]
    have e2 : impl_TxsOf.l0 (k + 1) out ps (ps.length : Int) (m : Int) = if ok = true then impl_TxsOf.l0 k (out ++ [⟨a, b, c, e⟩]) ps (ps.length : Int) ((m + 1 : Nat) : Int) else some ([], false) := by
      simp only [impl_TxsOf.l0]
      rw [if_pos (show (m : Int) < (ps.length : Int) by omega), if_pos (by omega), if_pos (by omega), h2, Option.bind_some, hw, if_pos (show out.length < 4398046511104 by omega)]
    rw [e1, e2]
    by_cases h : ok = true
    · rw [if_pos h, if_pos h]
      obtain ⟨r, r1, r2, r3⟩ := ih k (m + 1) (out ++ [⟨a, b, c, e⟩]) (by omega) (by omega) (by simp; omega)
      exact ⟨r, r1, r2, by simp at r3; omega⟩
    · rw [if_neg h, if_neg h]
      exact ⟨([], false), rfl, rfl, by simp⟩
theorem txsOf_at (s : ByteArray) (hs : s.size < 100000000) (k : Nat) (hk : 2 * s.size + 50 < k) : ∃ r, spec_TxsOf.f k s = some r ∧ impl_TxsOf.f k s = some r ∧ r.1.length ≤ s.size + 1 := by
  unfold spec_TxsOf.f impl_TxsOf.f
  rw [Option.bind_some]
  by_cases h : s.toList = []
  · rw [if_pos h, if_pos h]; exact ⟨_, rfl, rfl, by simp⟩
  · have g1 := specSplit_at s 44 (by omega) k (by omega)
    have g2 := implSplit_at s 44 (by omega)
    rw [show ((44 : UInt8).toNat : Int) = 44 from rfl] at g1 g2
    have hl := splitA_length 44 s
    rw [if_neg h, if_neg h, g1, g2, Option.bind_some, Option.bind_some]
    obtain ⟨r, r1, r2, r3⟩ := txsOf_l (splitA 44 s) (by omega) s.size (by omega) (splitA_size 44 s) (splitA 44 s).length k 0 [] (by omega) (by omega) (by simp; omega)
    exact ⟨r, r1, r2, by simp at r3; omega⟩
theorem rdOf_drop (ps : List ByteArray) (m : Nat) : rdOf ByteArray.empty (ps.drop 1) (m : Int) = rdOf ByteArray.empty ps ((m + 1 : Nat) : Int) := by
  unfold rdOf
  simp [List.getD_eq_getElem?_getD, Nat.add_comm]
theorem cut_both (s : ByteArray) (c : UInt8) : ((cutS s c).2.2 = (cutI s c).2.2) ∧ ((cutS s c).2.2 = true → cutS s c = cutI s c) ∧ (cutS s c).1.size ≤ s.size ∧ (cutS s c).2.1.size ≤ s.size ∧ (cutI s c).1.size ≤ s.size ∧ (cutI s c).2.1.size ≤ s.size := by
  unfold cutS cutI
  cases h : cutL c s.data.toList with
  | none => exact ⟨rfl, (fun x => by cases x), Nat.zero_le _, Nat.zero_le _, Nat.le_refl _, Nat.zero_le _⟩
  | some p =>
    obtain ⟨e, _⟩ := cutL_some h
    have hl : s.size = p.1.length + 1 + p.2.length := by rw [← len_size, e]; simp; omega
    exact ⟨rfl, fun _ => rfl, by simp only [mkS_size]; omega, by simp only [mkS_size]; omega, by simp only [mkS_size]; omega, by simp only [mkS_size]; omega⟩
theorem steps_l (ps : List ByteArray) (hL : ps.length < 1000000000000) (B : Nat) (hB : B < 100000000) (hp : ∀ p ∈ ps, p.size ≤ B) : ∀ (d k m : Nat) (out : List (S163)) (last : Nat), m + 1 + d = ps.length → d + 2 * B + 60 < k → out.length + d < 4398046511104 → last < 1000000 → (∀ e ∈ out, (1 : Int) ≤ e.f0) →
    ∃ r, spec_Steps.l0 k [] out ps (last : Int) ((m + 1 : Nat) : Int) = some r ∧ impl_Steps.l0 k out (last : Int) (ps.drop 1) ((ps.drop 1).length : Int) (m : Int) = some r ∧ (r.2 = false → r.1 = []) ∧ r.1.length ≤ out.length + d ∧ (r.2 = true → r.1.length = out.length + d) ∧ ∀ e ∈ r.1, (1 : Int) ≤ e.f0 := by
  intro d
  induction d with
  | zero =>
    intro k m out last hd hk ho hlast ho1
    obtain ⟨k, rfl⟩ : ∃ q, k = q + 1 := ⟨k - 1, by omega⟩
    refine ⟨(out, true), ?_, ?_, (fun x => by cases x), Nat.le_refl _, fun _ => rfl, ho1⟩
    · simp only [spec_Steps.l0]; rw [if_neg (by omega)]
    · simp only [impl_Steps.l0]; rw [if_neg (by rw [List.length_drop]; omega)]
  | succ d ih =>
    intro k m out last hd hk ho hlast ho1
    obtain ⟨k, rfl⟩ : ∃ q, k = q + 1 := ⟨k - 1, by omega⟩
    have hs := hp _ (rdOf_mem ByteArray.empty ps (m + 1) (by omega))
    generalize hx : rdOf ByteArray.empty ps ((m + 1 : Nat) : Int) = x at hs
    obtain ⟨hok, hsame, z1, z2, z3, z4⟩ := cut_both x 124
    have g1 := specCut_at x 124 (by omega) k (by omega)
    have g2 := implCut_at x 124 (by omega)
    rw [show ((124 : UInt8).toNat : Int) = 124 from rfl] at g1
    obtain ⟨q1, m1, hq1, n1, n1'⟩ := num_of (cutS x 124).1 k (by omega)
    obtain ⟨q2, m2, hq2, n2, n2'⟩ := num_of (cutI x 124).1 k (by omega)
    obtain ⟨t1, v1, v1', w1⟩ := txsOf_at (cutS x 124).2.1 (by omega) k (by omega)
    obtain ⟨t2, v2, v2', w2⟩ := txsOf_at (cutI x 124).2.1 (by omega) k (by omega)
    have hlen : out.length < 4398046511104 := by omega
    obtain ⟨HW, HX, HY⟩ : Aside0 (wrap64 (((m + 1 : Nat) : Int) + 1) = ((m + 1 + 1 : Nat) : Int)) ∧ Aside0 (wrap64 ((m : Int) + 1) = ((m + 1 : Nat) : Int)) ∧ Aside0 (wrap64 ((last : Int) + 1) = (last : Int) + 1) := ⟨⟨wn (n := ps.length) (by omega) (by omega)⟩, ⟨wn (n := ps.length) (by omega) (by omega)⟩, ⟨by unfold wrap64; omega⟩⟩
    have hdl : (ps.drop 1).length = ps.length - 1 := by rw [List.length_drop]
    have e1 : spec_Steps.l0 (k + 1) [] out ps (last : Int) ((m + 1 : Nat) : Int) = if (cutS x 124).2.2 = true then (if m1 = true then (if t1.2 = true then (if (q1 : Int) ≤ (last : Int) then some ([], false) else (if (q1 : Int) > 60 then some ([], false) else (if (t1.1.length : Int) > 2 then some ([], false) else spec_Steps.l0 k [] (out ++ [⟨(q1 : Int), t1.1⟩]) ps (q1 : Int) ((m + 1 + 1 : Nat) : Int)))) else some ([], false)) else some ([], false)) else some ([], false) := by
      simp only [spec_Steps.l0]
      rw [if_pos (by omega), if_pos (by omega), hx, g1, Option.bind_some, n1, Option.bind_some, v1, Option.bind_some, HW.out, if_pos hlen]
    have e2 : impl_Steps.l0 (k + 1) out (last : Int) (ps.drop 1) ((ps.drop 1).length : Int) (m : Int) = if (cutI x 124).2.2 = true then (if m2 = true then (if t2.2 = true then (if (q2 : Int) ≥ (last : Int) + 1 ∧ (q2 : Int) ≤ 60 then (if (t2.1.length : Int) > 2 then some ([], false) else impl_Steps.l0 k (out ++ [⟨(q2 : Int), t2.1⟩]) (q2 : Int) (ps.drop 1) ((ps.drop 1).length : Int) ((m + 1 : Nat) : Int)) else some ([], false)) else some ([], false)) else some ([], false)) else some ([], false) := by
      simp only [impl_Steps.l0]
      rw [if_pos (by rw [hdl]; omega), if_pos (by omega), if_pos (by rw [hdl]; omega), rdOf_drop, hx, g2, Option.bind_some, n2', Option.bind_some, v2', Option.bind_some, HX.out, if_pos hlen, HY.out]
      unfold impl_within.f
      by_cases a1 : (q2 : Int) ≥ (last : Int) + 1
      · by_cases a2 : (q2 : Int) ≤ 60
        · rw [if_pos a1, Option.bind_some, if_pos (decide_eq_true a2), if_pos (show (q2 : Int) ≥ (last : Int) + 1 ∧ (q2 : Int) ≤ 60 from ⟨a1, a2⟩)]
        · rw [if_pos a1, Option.bind_some, if_neg (show ¬ (decide ((q2 : Int) ≤ 60) = true) by simpa using a2), if_neg (show ¬ ((q2 : Int) ≥ (last : Int) + 1 ∧ (q2 : Int) ≤ 60) from fun h => a2 h.2)]
      · rw [if_neg a1, Option.bind_some, if_neg (show ¬ (false = true) by decide), if_neg (show ¬ ((q2 : Int) ≥ (last : Int) + 1 ∧ (q2 : Int) ≤ 60) from fun h => a1 h.1)]
    rw [e1, e2, ← hok]
    have bad : ∃ r : List (S163) × Bool, some (([] : List (S163)), false) = some r ∧ some (([] : List (S163)), false) = some r ∧ (r.2 = false → r.1 = []) ∧ r.1.length ≤ out.length + (d + 1) ∧ (r.2 = true → r.1.length = out.length + (d + 1)) ∧ ∀ e ∈ r.1, (1 : Int) ≤ e.f0 := ⟨_, rfl, rfl, fun _ => rfl, by simp, (fun x => by cases x), by simp⟩
    by_cases c0 : (cutS x 124).2.2 = true
    · have es := hsame c0
      rw [← es] at n2' v2'
      obtain ⟨rfl, rfl⟩ : q1 = q2 ∧ m1 = m2 := by
        rw [n1'] at n2'
        simp only [Option.some.injEq, Prod.mk.injEq] at n2'
        exact ⟨by omega, n2'.2⟩
      obtain rfl : t1 = t2 := by
        rw [v1'] at v2'
        exact Option.some.inj v2'
      simp only [c0, if_true]
      by_cases c1 : m1 = true
      · simp only [c1, if_true]
        by_cases c2 : t1.2 = true
        · simp only [c2, if_true]
          by_cases c3 : (q1 : Int) ≤ (last : Int)
          · rw [if_pos c3, if_neg (by omega)]; exact bad
          · rw [if_neg c3]
            by_cases c4 : (q1 : Int) > 60
            · rw [if_pos c4, if_neg (by omega)]; exact bad
            · have c6 : (q1 : Int) ≥ (last : Int) + 1 ∧ (q1 : Int) ≤ 60 := ⟨by omega, by omega⟩
              rw [if_neg c4, if_pos c6]
              by_cases c5 : (t1.1.length : Int) > 2
              · rw [if_pos c5, if_pos c5]; exact bad
              · rw [if_neg c5, if_neg c5]
                have ho2 : ∀ e ∈ out ++ [(⟨(q1 : Int), t1.1⟩ : S163)], (1 : Int) ≤ e.f0 := by
                  intro e he
                  rcases List.mem_append.1 he with h | h
                  · exact ho1 e h
                  · rw [List.mem_singleton.1 h]
                    show (1 : Int) ≤ (q1 : Int)
                    omega
                obtain ⟨r, r1, r2, r3, r4, r5, r6⟩ := ih k (m + 1) (out ++ [⟨(q1 : Int), t1.1⟩]) q1 (by omega) (by omega) (by simp; omega) hq1 ho2
                exact ⟨r, r1, r2, r3, by simp at r4; omega, (fun h => by have := r5 h; simp at this; omega), r6⟩
        · simp only [c2, if_false]; exact bad
      · simp only [c1, if_false]; exact bad
    · simp only [c0, if_false]; exact bad
theorem steps_at (s : ByteArray) (hs : s.size < 100000000) (k : Nat) (hk : 3 * s.size + 80 < k) :
    ∃ r, spec_Steps.f k s = some r ∧ impl_Steps.f k s = some r ∧ (r.2 = false → r.1 = []) ∧ r.1.length ≤ s.size + 1 ∧ (r.2 = true → s.data.toList = [] ∨ ∃ l, s.data.toList = 47 :: l) ∧ (s.data.toList = [] → r = ([], true)) ∧ (r.2 = true → s.data.toList ≠ [] → 0 < r.1.length) ∧ ∀ e ∈ r.1, (1 : Int) ≤ e.f0 := by
  unfold spec_Steps.f impl_Steps.f
  rw [Option.bind_some, Option.bind_some, Lib.toList_data]
  by_cases h : s.data.toList = []
  · rw [if_pos h, if_pos h]; exact ⟨_, rfl, rfl, (fun x => by cases x), by simp, fun _ => Or.inl h, fun _ => rfl, fun _ x => absurd h x, by simp⟩
  · have g1 := specSplit_at s 47 (by omega) k (by omega)
    have g2 := implSplit_at s 47 (by omega)
    rw [show ((47 : UInt8).toNat : Int) = 47 from rfl] at g1 g2
    have hl := splitA_length 47 s
    have hp : 0 < (splitA 47 s).length := by
      obtain ⟨x, t, e⟩ := splitL_ne 47 s.data.toList
      unfold splitA; rw [e]; simp
    have hpi : 0 < ((splitA 47 s).length : Int) := by omega
    rw [if_neg h, if_neg h, g1, g2, Option.bind_some, Option.bind_some, if_pos hpi, if_pos hpi]
    obtain ⟨k, rfl⟩ : ∃ q, k = q + 1 := ⟨k - 1, by omega⟩
    have bad1 : ∀ t, spec_Steps.j0 (k + 1) [] [] t true = some ([], false) := fun t => by simp [spec_Steps.j0]
    have bad2 : ∀ t, impl_Steps.j0 (k + 1) t true = some ([], false) := fun t => by simp [impl_Steps.j0]
    by_cases h0 : (rdOf ByteArray.empty (splitA 47 s) 0).toList = []
    · have h47 : ∃ l, s.data.toList = 47 :: l := by
        unfold splitA rdOf at h0
        rw [splitL_cut] at h0
        cases hc : cutL 47 s.data.toList with
        | none => rw [hc] at h0; simp [mkS_toList] at h0; exact absurd h0 (by simpa using h)
        | some p =>
          rw [hc] at h0
          obtain ⟨e, _⟩ := cutL_some hc
          simp [mkS_toList] at h0
          rw [h0] at e
          exact ⟨p.2, by simpa using e⟩
      have h2 : 2 ≤ (splitA 47 s).length := by
        unfold splitA rdOf at h0
        unfold splitA
        rw [splitL_cut] at h0 ⊢
        cases hc : cutL 47 s.data.toList with
        | none => rw [hc] at h0; simp [mkS_toList] at h0; exact absurd h0 (by simpa using h)
        | some p =>
          obtain ⟨x, t, e⟩ := splitL_ne 47 p.2
          simp [e]
      rw [if_pos h0, if_pos h0]
      have hw : wrap64 (((splitA 47 s).length : Int) - 1) = ((splitA 47 s).length : Int) - 1 := by unfold wrap64; omega
      by_cases h31 : ((splitA 47 s).length : Int) > 31
      · rw [decide_eq_true h31, hw, decide_eq_true (show ((splitA 47 s).length : Int) - 1 > 30 by omega), bad1, bad2]
        exact ⟨_, rfl, rfl, fun _ => rfl, by simp, (fun x => by cases x), (fun x => absurd x h), (fun x => by cases x), by simp⟩
      · rw [decide_eq_false h31, hw, decide_eq_false (show ¬ ((splitA 47 s).length : Int) - 1 > 30 by omega)]
        obtain ⟨r, r1, r2, r3, r4, r5, r6⟩ := steps_l (splitA 47 s) (by omega) s.size hs (splitA_size 47 s) ((splitA 47 s).length - 1) k 0 [] 0 (by omega) (by omega) (by simp; omega) (by omega) (by simp)
        refine ⟨r, ?_, ?_, r3, by simp at r4; omega, (fun _ => Or.inr h47), (fun x => absurd x h), (fun x _ => by have := r5 x; simp at this; omega), r6⟩
        · simp only [spec_Steps.j0]
          rw [if_neg (by simp)]
          exact r1
        · simp only [impl_Steps.j0]
          rw [if_neg (by simp), if_pos (by omega), Option.bind_some]
          exact r2
    · rw [if_neg h0, if_neg h0, bad1, bad2]
      exact ⟨_, rfl, rfl, fun _ => rfl, by simp, (fun x => by cases x), (fun x => absurd x h), (fun x => by cases x), by simp⟩
theorem rdStep_mem (xs : List S163) (i : Int) (h0 : 0 ≤ i) (h : i < (xs.length : Int)) : rd_T163 xs i ∈ xs := by
  have h1 : i.toNat < xs.length := by omega
  unfold rd_T163
  simp [List.getD_eq_getElem?_getD, List.getElem?_eq_getElem h1]
/-- The view of a name, and whether it is one: both sides alike. -/
theorem viewOf_at (s : ByteArray) (hs : s.size < 100000000) (k : Nat) (hk : 3 * s.size + 80 < k) :
    ∃ v b, spec_ViewOf.f k s = some v ∧ impl_ViewOf.f k s = some v ∧ spec_NameOk.f k s = some b ∧ impl_NameOk.f k s = some b ∧ (b = true → s.data.toList ≠ [] → 1 ≤ v) ∧ (s.data.toList = [] → v = 0 ∧ b = true) := by
  obtain ⟨r, r1, r2, r3, r4, _, r5, r6, r7⟩ := steps_at s hs k hk
  unfold spec_ViewOf.f impl_ViewOf.f spec_NameOk.f impl_NameOk.f
  simp only [r1, r2, Option.bind_some]
  by_cases h : r.1 = []
  · refine ⟨0, r.2, ?_, ?_, rfl, rfl, ?_, ?_⟩
    · rw [h]; simp
    · rw [h]; simp
    · intro hb hne
      have := r6 hb hne
      rw [h] at this; simp at this
    · intro he
      rw [r5 he]; exact ⟨rfl, rfl⟩
  · have hp : 0 < r.1.length := List.length_pos_iff.2 h
    have hb : r.2 = true := by
      cases hb : r.2
      · exact absurd (r3 hb) h
      · rfl
    have w1 : wrap64 ((r.1.length : Int) - 1) = (r.1.length : Int) - 1 := by unfold wrap64; omega
    have c0 : ¬ (r.1.length : Int) = 0 := by omega
    have c1 : (0 : Int) ≤ (r.1.length : Int) - 1 := by omega
    have c2 : (r.1.length : Int) - 1 < (r.1.length : Int) := by omega
    refine ⟨(rd_T163 r.1 ((r.1.length : Int) - 1)).f0, r.2, ?_, ?_, rfl, rfl, ?_, ?_⟩
    · simp only [w1, hb, if_true, if_neg c0, if_pos c1, if_pos c2]
    · simp only [w1, if_neg c0, if_pos c1, if_pos c2]
    · intro _ _
      exact r7 _ (rdStep_mem _ _ c1 c2)
    · intro he
      exact absurd (congrArg Prod.fst (r5 he)) h
theorem setOk_l (n : Int) (l : List Int) (hn : l.length ≤ 9223372036854775807) : ∀ (d m : Nat), m + d = l.length →
    ∃ b, ∀ k, d < k → spec_SetOk.l0 k n l (m : Int) = some b ∧ impl_SetOk.l0 k n l l (l.length : Int) (m : Int) = some b := by
  intro d
  induction d with
  | zero =>
    intro m hd
    have hA : ¬ (m : Int) < (l.length : Int) := by omega
    refine ⟨true, fun k hk => ?_⟩
    obtain ⟨k, rfl⟩ : ∃ q, k = q + 1 := ⟨k - 1, by omega⟩
    exact ⟨by simp only [spec_SetOk.l0, if_neg hA], by simp only [impl_SetOk.l0, if_neg hA]⟩
  | succ d ih =>
    intro m hd
    have hA : (m : Int) < (l.length : Int) := by omega
    have hB : (0 : Int) ≤ (m : Int) := by omega
    have hw1 : wrap64 ((m : Int) - 1) = (m : Int) - 1 := by unfold wrap64; omega
    have hw2 : wrap64 ((m : Int) + 1) = ((m + 1 : Nat) : Int) := wn (n := l.length) (by omega) hn
    obtain ⟨b, hb⟩ := ih (m + 1) (by omega)
    have go : ∀ c : Bool, (∀ k, d < k → (spec_SetOk.l0 (k + 1) n l (m : Int) = some c ∧ impl_SetOk.l0 (k + 1) n l l (l.length : Int) (m : Int) = some c)) → ∃ b, ∀ k, d + 1 < k → spec_SetOk.l0 k n l (m : Int) = some b ∧ impl_SetOk.l0 k n l l (l.length : Int) (m : Int) = some b := by
      intro c h
      refine ⟨c, fun k hk => ?_⟩
      obtain ⟨k, rfl⟩ : ∃ q, k = q + 1 := ⟨k - 1, by omega⟩
      exact h k (by omega)
    by_cases a1 : rd l (m : Int) < 0
    · exact go false fun k hk => ⟨by simp only [spec_SetOk.l0, if_pos hA, if_pos hB, if_pos a1], by simp only [impl_SetOk.l0, if_pos hA, if_pos hB, if_pos a1]⟩
    · by_cases a2 : rd l (m : Int) ≥ n
      · exact go false fun k hk => ⟨by simp only [spec_SetOk.l0, if_pos hA, if_pos hB, if_neg a1, if_pos a2], by simp only [impl_SetOk.l0, if_pos hA, if_pos hB, if_neg a1, if_pos a2]⟩
      · by_cases a3 : (m : Int) > 0
        · have hC : (0 : Int) ≤ (m : Int) - 1 := by omega
          have hD : (m : Int) - 1 < (l.length : Int) := by omega
          by_cases a4 : rd l ((m : Int) - 1) ≥ rd l (m : Int)
          · exact go false fun k hk => ⟨by simp only [spec_SetOk.l0, hw1, if_pos hA, if_pos hB, if_neg a1, if_neg a2, if_pos a3, if_pos hC, if_pos hD, if_pos a4], by simp only [impl_SetOk.l0, hw1, if_pos hA, if_pos hB, if_neg a1, if_neg a2, if_pos a3, if_pos hC, if_pos hD, if_pos a4]⟩
          · exact go b fun k hk => ⟨by simp only [spec_SetOk.l0, hw1, hw2, if_pos hA, if_pos hB, if_neg a1, if_neg a2, if_pos a3, if_pos hC, if_pos hD, if_neg a4]; exact (hb k hk).1, by simp only [impl_SetOk.l0, hw1, hw2, if_pos hA, if_pos hB, if_neg a1, if_neg a2, if_pos a3, if_pos hC, if_pos hD, if_neg a4]; exact (hb k hk).2⟩
        · exact go b fun k hk => ⟨by simp only [spec_SetOk.l0, hw2, if_pos hA, if_pos hB, if_neg a1, if_neg a2, if_neg a3]; exact (hb k hk).1, by simp only [impl_SetOk.l0, hw2, if_pos hA, if_pos hB, if_neg a1, if_neg a2, if_neg a3]; exact (hb k hk).2⟩
theorem setOk_at (n : Int) (l : List Int) (hn : l.length ≤ 9223372036854775807) : ∃ b, ∀ k, l.length < k → spec_SetOk.f k n l = some b ∧ impl_SetOk.f k n l = some b :=
  setOk_l n l hn l.length 0 (by omega)
theorem wf64 {n : Int} (h : (Lit.int .i64 n).wf = true) : -9223372036854775808 ≤ n ∧ n ≤ 9223372036854775807 := by
  simp [Lit.wf, IntKind.min, IntKind.max, IntKind.bits, IntKind.signed] at h
  omega
def confB (a b : Int) : Bool := decide (4 ≤ a ∧ a ≤ 7 ∧ 1 ≤ b ∧ b ≤ 6)
theorem implConf_at (a b : Int) : impl_ConfOk.f a b = some (confB a b) := by
  unfold impl_ConfOk.f impl_within.f confB
  by_cases h : a ≥ 4 <;> by_cases h2 : a ≤ 7 <;> by_cases h3 : b ≥ 1 <;> simp [h, h2, h3] <;> omega
theorem specConf_at (a b : Int) : spec_ConfOk.f a b = some (confB a b) := implConf_at a b
/-- At which place of the order of a view a replica is; -1 where there is none. -/
def seatZ (a b v i : Int) : Int := if confB a b = true ∧ 0 ≤ v ∧ 0 ≤ i ∧ i < a then (i + a - v % a) % a else -1
/-- Who sits at a place. -/
def sitsZ (a b v s : Int) : Int := if confB a b = true ∧ 0 ≤ v ∧ 0 ≤ s ∧ s < a then (v % a + s) % a else -1
theorem confB_iff {a b : Int} (h : confB a b = true) : (a = 4 ∨ a = 5 ∨ a = 6 ∨ a = 7) ∧ 1 ≤ b ∧ b ≤ 6 := by
  unfold confB at h
  have := of_decide_eq_true h
  omega
theorem in_at (x lo hi : Int) : ∃ c, spec_l1In.f x lo hi = some c ∧ impl_within.f x lo hi = some c := by
  unfold spec_l1In.f impl_within.f
  by_cases h : x ≥ lo
  · exact ⟨_, by rw [if_pos h], by rw [if_pos h]⟩
  · exact ⟨_, by rw [if_neg h], by rw [if_neg h]⟩
theorem partOk_at (a b v : Int) (s : ByteArray) (l : List Int) (hs : s.size < 100000000) (hn : l.length < 100000000) (k : Nat) (hk : 3 * s.size + l.length + 90 < k) :
    ∃ r, spec_PartOk.f k a b v s l = some r ∧ impl_PartOk.f k a b v s l = some r := by
  obtain ⟨t, ht⟩ := setOk_at a l (by omega)
  obtain ⟨c, c1, c2⟩ := in_at v 1 60
  obtain ⟨w, o, v1, v2, o1, o2, hv, he⟩ := viewOf_at s hs k (by omega)
  obtain ⟨s1, s2⟩ := ht k (by omega)
  unfold spec_PartOk.f impl_PartOk.f
  rw [specConf_at, implConf_at]
  simp only [Option.bind_some, c1, c2, s1, s2, o1, o2, v1, v2]
  cases confB a b
  · exact ⟨false, by simp, by simp⟩
  · cases c
    · exact ⟨false, by simp, by simp⟩
    · cases t
      · refine ⟨false, by simp, ?_⟩
        by_cases hz : s.toList = []
        · simp [hz]
        · cases o <;> by_cases hw : w = v <;> simp [hz, hw]
      · by_cases hl : (l.length : Int) = 0
        · have e2 : decide ((l.length : Int) > 0) = false := decide_eq_false (by omega)
          refine ⟨false, by simp only [if_true, if_pos hl], ?_⟩
          simp only [if_true, e2]
          by_cases hz : s.toList = []
          · rw [if_pos hz]
          · rw [if_neg hz]
            cases o <;> by_cases hw : w = v <;> simp [hw]
        · have e2 : decide ((l.length : Int) > 0) = true := decide_eq_true (by omega)
          simp only [if_true, e2, if_neg hl]
          by_cases hz : s.toList = []
          · exact ⟨true, by rw [if_pos hz], by rw [if_pos hz]⟩
          · rw [if_neg hz, if_neg hz]
            cases o
            · exact ⟨false, by simp, by simp⟩
            · by_cases hw : w = v
              · exact ⟨true, by simp [hw], by simp [hw]⟩
              · exact ⟨false, by simp [hw], by simp [hw]⟩
theorem wsub {a n : Int} (h0 : 0 ≤ n) (h1 : n ≤ 9223372036854775807) (ha : 0 ≤ a ∧ a ≤ 1048576) : wrap64 (a - n) = a - n := by unfold wrap64; omega
theorem szIntS_at (xs : List Int) (a : Int) (hn : xs.length ≤ 9223372036854775807) (ha : 0 ≤ a ∧ a ≤ 1048576) :
    laws_szIntS.f xs a = some (if a - (xs.length : Int) < 0 then -1 else a - (xs.length : Int)) := by
  unfold laws_szIntS.f
  rw [wsub (by omega) (by omega) ha]
  split <;> rfl
theorem toIntS_l (xs : List Int) (hn : xs.length ≤ 9223372036854775807) : ∀ (d k : Nat) (out : List Int) (m : Nat), m + d = xs.length → out.length = xs.length → d < k →
    laws_toIntS.l0 k xs out (m : Int) = some (out.take m ++ xs.drop m) := by
  intro d
  induction d with
  | zero =>
    intro k out m hd hl hk
    obtain ⟨k, rfl⟩ : ∃ q, k = q + 1 := ⟨k - 1, by omega⟩
    simp only [laws_toIntS.l0]
    rw [if_neg (by omega), List.take_of_length_le (by omega), List.drop_of_length_le (by omega), List.append_nil]
  | succ d ih =>
    intro k out m hd hl hk
    obtain ⟨k, rfl⟩ : ∃ q, k = q + 1 := ⟨k - 1, by omega⟩
    simp only [laws_toIntS.l0]
    rw [if_pos (by omega), if_pos (by omega), if_pos (by omega), wn (n := xs.length) (by omega) hn, ih k _ (m + 1) (by omega) (by simpa using hl) (by omega), Int.toNat_natCast, set_take _ _ _ (by omega), drop_at xs m (by omega)]
    simp
theorem toIntS_at (xs : List Int) (hn : xs.length ≤ 35184372088832) (k : Nat) (hk : xs.length < k) : laws_toIntS.f k xs = some xs := by
  unfold laws_toIntS.f
  rw [if_pos (by omega), if_pos (by omega)]
  have h := toIntS_l xs (by omega) xs.length k (List.replicate ((xs.length : Int)).toNat 0) 0 (by omega) (by simp) hk
  simpa using h
theorem eqIntS_l (xs ys : List Int) (hl : ys.length = xs.length) (hn : xs.length ≤ 9223372036854775807) : ∀ (d k m : Nat), m + d = xs.length → d < k →
    laws_eqIntS.l0 k xs ys (m : Int) = some (decide (xs.drop m = ys.drop m)) := by
  intro d
  induction d with
  | zero =>
    intro k m hd hk
    obtain ⟨k, rfl⟩ : ∃ q, k = q + 1 := ⟨k - 1, by omega⟩
    simp only [laws_eqIntS.l0]
    rw [if_neg (by omega), List.drop_of_length_le (by omega), List.drop_of_length_le (by omega)]
    simp
  | succ d ih =>
    intro k m hd hk
    obtain ⟨k, rfl⟩ : ∃ q, k = q + 1 := ⟨k - 1, by omega⟩
    simp only [laws_eqIntS.l0]
    rw [if_pos (by omega), if_pos (by omega), if_pos (by omega), wn (n := xs.length) (by omega) hn, ih k (m + 1) (by omega) (by omega), drop_at xs m (by omega), drop_at ys m (by omega)]
    by_cases h : rd xs m = rd ys m <;> simp [h]
theorem eqIntS_at (xs ys : List Int) (hn : xs.length ≤ 9223372036854775807) (k : Nat) (hk : xs.length < k) : laws_eqIntS.f k xs ys = some (decide (xs = ys)) := by
  unfold laws_eqIntS.f
  by_cases h : (xs.length : Int) = (ys.length : Int)
  · rw [if_pos h]
    have := eqIntS_l xs ys (by omega) hn xs.length k 0 (by omega) hk
    simpa using this
  · rw [if_neg h]
    have : xs ≠ ys := fun e => h (by rw [e])
    simp [this]
theorem szPart_at (v : Int) (s : ByteArray) (l : List Int) (a : Int) (hs : s.size ≤ maxLen) (hn : l.length ≤ maxLen) (ha : 0 ≤ a ∧ a ≤ 1048576) :
    ∃ t, laws_szPart.f v s l a = some t ∧ (t < 0 ∨ (0 ≤ t ∧ t = a - (s.size : Int) - (l.length : Int))) := by
  unfold laws_szPart.f
  have h1 := len_ok hs
  have h2 := len_ok hn
  rw [wsub (by omega) (by omega) ha]
  by_cases h : a - (s.size : Int) < 0
  · exact ⟨_, by rw [if_pos h], .inl (by omega)⟩
  · rw [if_neg h, szIntS_at l _ h2 ⟨by omega, by omega⟩]
    by_cases h3 : a - (s.size : Int) - (l.length : Int) < 0
    · exact ⟨-1, by simp [h3], .inl (by omega)⟩
    · exact ⟨_, by simp only [if_neg h3, Option.bind_some], .inr ⟨by omega, rfl⟩⟩
theorem toPart_at (v : Int) (s : ByteArray) (l : List Int) (hn : l.length ≤ 35184372088832) (k : Nat) (hk : l.length < k) : laws_toPart.f k v s l = some (v, s, l) := by
  unfold laws_toPart.f
  rw [toIntS_at l hn k hk]; rfl
theorem eqPart_refl (v : Int) (s : ByteArray) (l : List Int) (hn : l.length ≤ 9223372036854775807) (k : Nat) (hk : l.length < k) : laws_eqPart.f k v s l v s l = some true := by
  unfold laws_eqPart.f
  rw [eqIntS_at l l hn k hk]; simp
theorem part_ok {x : S41} (h : ok41 x) : x.f1.size ≤ maxLen ∧ x.f2.length ≤ maxLen := ⟨h.2.1, h.2.2.1⟩
theorem rdL_mem (xs : List S41) (m : Nat) (h : m < xs.length) : rd_T41 xs (m : Int) ∈ xs := by
  unfold rd_T41
  simp [List.getD_eq_getElem?_getD, List.getElem?_eq_getElem h]
theorem dropL_at (xs : List S41) (m : Nat) (h : m < xs.length) : xs.drop m = rd_T41 xs (m : Int) :: xs.drop (m + 1) := by
  rw [List.drop_eq_getElem_cons h]
  simp [rd_T41, List.getD_eq_getElem?_getD, List.getElem?_eq_getElem h]
theorem rdP_mem (xs : List S48) (m : Nat) (h : m < xs.length) : rd_T48 xs (m : Int) ∈ xs := by
  unfold rd_T48
  simp [List.getD_eq_getElem?_getD, List.getElem?_eq_getElem h]
/-- What a part that was handed over is made into. -/
def cvP (x : S41) : S48 := ⟨x.f0, x.f1, x.f2⟩
/-- A part's sizes are small. -/
def fitP (x : S48) : Prop := x.f1.size ≤ 1048576 ∧ x.f2.length ≤ 1048576
theorem szPartS_l (xs : List S41) (hn : xs.length ≤ 9223372036854775807) (hx : ∀ x ∈ xs, ok41 x) : ∀ (d k m : Nat) (a : Int), m + d = xs.length → d < k → 0 ≤ a ∧ a ≤ 1048576 →
    ∃ t, laws_szPartS.l0 k xs a (m : Int) = some t ∧ (t < 0 ∨ (∀ x ∈ xs.drop m, fitP (cvP x))) := by
  intro d
  induction d with
  | zero =>
    intro k m a hd hk ha
    obtain ⟨k, rfl⟩ : ∃ q, k = q + 1 := ⟨k - 1, by omega⟩
    have hA : ¬ (m : Int) < (xs.length : Int) := by omega
    refine ⟨a, by simp only [laws_szPartS.l0, if_neg hA], Or.inr ?_⟩
    rw [List.drop_of_length_le (by omega)]
    intro x h; cases h
  | succ d ih =>
    intro k m a hd hk ha
    obtain ⟨k, rfl⟩ : ∃ q, k = q + 1 := ⟨k - 1, by omega⟩
    have hA : (m : Int) < (xs.length : Int) := by omega
    have hB : (0 : Int) ≤ (m : Int) := by omega
    have hw : wrap64 ((m : Int) + 1) = ((m + 1 : Nat) : Int) := wn (n := xs.length) (by omega) hn
    have ho := part_ok (hx _ (rdL_mem xs m (by omega)))
    obtain ⟨t, ht, h⟩ := szPart_at (rd_T41 xs (m : Int)).f0 (rd_T41 xs (m : Int)).f1 (rd_T41 xs (m : Int)).f2 a ho.1 ho.2 ha
    by_cases h0 : t < 0
    · exact ⟨-1, by simp only [laws_szPartS.l0, if_pos hA, if_pos hB, ht, Option.bind_some, if_pos h0], Or.inl (by omega)⟩
    · obtain ⟨t', ht', h'⟩ := ih k (m + 1) t (by omega) (by omega) (by omega)
      refine ⟨t', by simp only [laws_szPartS.l0, if_pos hA, if_pos hB, ht, Option.bind_some, if_neg h0, hw]; exact ht', ?_⟩
      rcases h' with h' | h'
      · exact Or.inl h'
      · refine Or.inr ?_
        rw [dropL_at xs m (by omega)]
        intro x hx'
        rcases List.mem_cons.1 hx' with rfl | hx'
        · unfold fitP cvP
          constructor
          · show (rd_T41 xs (m : Int)).f1.size ≤ 1048576
            omega
          · show (rd_T41 xs (m : Int)).f2.length ≤ 1048576
            omega
        · exact h' x hx'
theorem szPartS_at (xs : List S41) (hn : xs.length ≤ maxLen) (hx : ∀ x ∈ xs, ok41 x) (k : Nat) (hk : xs.length < k) :
    ∃ t, laws_szPartS.f k xs 1048576 = some t ∧ (t < 0 ∨ (xs.length ≤ 1048576 ∧ ∀ x ∈ xs, fitP (cvP x))) := by
  unfold laws_szPartS.f
  have h1 := len_ok hn
  rw [wsub (by omega) (by omega) (by omega)]
  by_cases h : (1048576 : Int) - (xs.length : Int) < 0
  · exact ⟨_, by rw [if_pos h], .inl (by omega)⟩
  · rw [if_neg h]
    obtain ⟨t, ht, h'⟩ := szPartS_l xs h1 hx xs.length k 0 (1048576 - (xs.length : Int)) (by omega) hk ⟨by omega, by omega⟩
    refine ⟨t, ht, ?_⟩
    rcases h' with h' | h'
    · exact .inl h'
    · rw [List.drop_zero] at h'
      exact .inr ⟨by omega, h'⟩
theorem toPartS_l (xs : List S41) (hn : xs.length ≤ 9223372036854775807) (hx : ∀ x ∈ xs, fitP (cvP x)) : ∀ (d k : Nat) (out : List S48) (m : Nat), m + d = xs.length → out.length = xs.length → d + 1048577 < k →
    laws_toPartS.l0 k xs out (m : Int) = some (out.take m ++ (xs.drop m).map cvP) := by
  intro d
  induction d with
  | zero =>
    intro k out m hd hl hk
    obtain ⟨k, rfl⟩ : ∃ q, k = q + 1 := ⟨k - 1, by omega⟩
    simp only [laws_toPartS.l0]
    rw [if_neg (by omega), List.take_of_length_le (by omega), List.drop_of_length_le (by omega), List.map_nil, List.append_nil]
  | succ d ih =>
    intro k out m hd hl hk
    obtain ⟨k, rfl⟩ : ∃ q, k = q + 1 := ⟨k - 1, by omega⟩
    have hf : (rd_T41 xs (m : Int)).f2.length ≤ 1048576 := (hx _ (rdL_mem xs m (by omega))).2
    simp only [laws_toPartS.l0]
    rw [if_pos (by omega), if_pos (by omega), toPart_at _ _ _ (by omega) k (by omega), Option.bind_some, if_pos (by omega), wn (n := xs.length) (by omega) hn, ih k _ (m + 1) (by omega) (by simpa using hl) (by omega), Int.toNat_natCast, set_take _ _ _ (by omega), dropL_at xs m (by omega)]
    simp [cvP]
theorem toPartS_at (xs : List S41) (hn : xs.length ≤ 1048576) (hx : ∀ x ∈ xs, fitP (cvP x)) (k : Nat) (hk : xs.length + 1048577 < k) : laws_toPartS.f k xs = some (xs.map cvP) := by
  unfold laws_toPartS.f
  rw [if_pos (by omega), if_pos (by omega)]
  have h := toPartS_l xs (by omega) hx xs.length k (List.replicate ((xs.length : Int)).toNat z48) 0 (by omega) (by simp) hk
  simpa using h
theorem eqPartS_l (xs : List S48) (hn : xs.length ≤ 9223372036854775807) (hx : ∀ x ∈ xs, fitP x) : ∀ (d k m : Nat), m + d = xs.length → d + 1048577 < k →
    laws_eqPartS.l0 k xs xs (m : Int) = some true := by
  intro d
  induction d with
  | zero =>
    intro k m hd hk
    obtain ⟨k, rfl⟩ : ∃ q, k = q + 1 := ⟨k - 1, by omega⟩
    simp only [laws_eqPartS.l0]
    rw [if_neg (by omega)]
  | succ d ih =>
    intro k m hd hk
    obtain ⟨k, rfl⟩ : ∃ q, k = q + 1 := ⟨k - 1, by omega⟩
    have hf : (rd_T48 xs (m : Int)).f2.length ≤ 1048576 := (hx _ (rdP_mem xs m (by omega))).2
    simp only [laws_eqPartS.l0]
    rw [if_pos (by omega), if_pos (by omega), if_pos (by omega), eqPart_refl _ _ _ (by omega) k (by omega), Option.bind_some, if_pos rfl, wn (n := xs.length) (by omega) hn, ih k (m + 1) (by omega) (by omega)]
theorem eqPartS_refl (xs : List S48) (hn : xs.length ≤ 1048576) (hx : ∀ x ∈ xs, fitP x) (k : Nat) (hk : xs.length + 1048577 < k) : laws_eqPartS.f k xs xs = some true := by
  unfold laws_eqPartS.f
  rw [if_pos rfl]
  exact eqPartS_l xs (by omega) hx xs.length k 0 (by omega) hk
theorem place_at (v : Int) (s : ByteArray) (l : List Int) (v' : Int) (s' : ByteArray) (l' : List Int) :
    ∃ c, impl_comparePlace.f v s l v' s' l' = some c ∧ spec_l10Before.f v s l v' s' l' = some (decide (c < 0)) := by
  have hn : ∀ x : Int, (x != x) = false := fun x => by simp
  have hs : ∀ x : List UInt8, (x != x) = false := fun x => by simp
  unfold impl_comparePlace.f spec_l10Before.f cmp_Compare_int.f cmp_Compare_string.f cmp_isNaN_int.f cmp_isNaN_string.f
  simp only [hn, hs, Option.bind_some, Bool.false_eq_true, if_false]
  by_cases h1 : v < v'
  · exact ⟨-1, by simp [h1], by simp [h1]⟩
  · by_cases h2 : v > v'
    · have h3 : ¬ v = v' := by omega
      exact ⟨1, by simp [h1, h2], by simp [h1, h3]⟩
    · have h3 : v = v' := by omega
      subst h3
      cases hb : Op.bytesLess s.toList s'.toList
      · cases hc : Op.bytesLess s'.toList s.toList
        · exact ⟨0, by simp, by simp⟩
        · exact ⟨1, by simp, by simp⟩
      · exact ⟨-1, by simp, by simp⟩
theorem tableOk_l (a b : Int) (xs : List S48) (hn : xs.length ≤ 9223372036854775807) (hx : ∀ x ∈ xs, fitP x) : ∀ (d k m : Nat), m + d = xs.length → d + 5000000 < k →
    ∃ r, spec_TableOk.l0 k xs (m : Int) a b = some r ∧ impl_TableOk.l0 k xs xs (xs.length : Int) (m : Int) a b = some r := by
  intro d
  induction d with
  | zero =>
    intro k m hd hk
    obtain ⟨k, rfl⟩ : ∃ q, k = q + 1 := ⟨k - 1, by omega⟩
    have hA : ¬ (m : Int) < (xs.length : Int) := by omega
    exact ⟨decide ((xs.length : Int) ≤ 20), by simp only [spec_TableOk.l0, if_neg hA], by simp only [impl_TableOk.l0, if_neg hA]⟩
  | succ d ih =>
    intro k m hd hk
    obtain ⟨k, rfl⟩ : ∃ q, k = q + 1 := ⟨k - 1, by omega⟩
    have hA : (m : Int) < (xs.length : Int) := by omega
    have hB : (0 : Int) ≤ (m : Int) := by omega
    have hw1 : wrap64 ((m : Int) - 1) = (m : Int) - 1 := by unfold wrap64; omega
    have hw : wrap64 ((m : Int) + 1) = ((m + 1 : Nat) : Int) := wn (n := xs.length) (by omega) hn
    obtain ⟨f1, f2⟩ := hx _ (rdP_mem xs m (by omega))
    obtain ⟨p, p1, p2⟩ := partOk_at a b (rd_T48 xs (m : Int)).f0 (rd_T48 xs (m : Int)).f1 (rd_T48 xs (m : Int)).f2 (by omega) (by omega) k (by omega)
    obtain ⟨r, r1, r2⟩ := ih k (m + 1) (by omega) (by omega)
    simp only [spec_TableOk.l0, impl_TableOk.l0, if_pos hA, if_pos hB, p1, p2, Option.bind_some, hw1, hw, r1, r2]
    cases p
    · exact ⟨false, rfl, rfl⟩
    · simp only [if_true]
      by_cases h3 : (m : Int) > 0
      · have hC : (0 : Int) ≤ (m : Int) - 1 := by omega
        have hD : (m : Int) - 1 < (xs.length : Int) := by omega
        obtain ⟨c, c1, c2⟩ := place_at (rd_T48 xs ((m : Int) - 1)).f0 (rd_T48 xs ((m : Int) - 1)).f1 (rd_T48 xs ((m : Int) - 1)).f2 (rd_T48 xs (m : Int)).f0 (rd_T48 xs (m : Int)).f1 (rd_T48 xs (m : Int)).f2
        simp only [if_pos h3, if_pos hC, if_pos hD, c1, c2, Option.bind_some]
        by_cases h4 : c < 0
        · have h5 : ¬ c ≥ 0 := by omega
          exact ⟨r, by rw [if_pos (decide_eq_true h4)], by rw [if_neg h5]⟩
        · have h5 : c ≥ 0 := by omega
          exact ⟨false, by rw [if_neg (by simpa using h5)], by rw [if_pos h5]⟩
      · simp only [if_neg h3]
        exact ⟨r, rfl, rfl⟩
theorem markIntS_l (n : Nat) (a : Int) (h0 : 0 ≤ a) (ha : a + (n : Int) ≤ 9223372036854775807) : ∀ (d k m : Nat) (xs : List Int), xs.length = n → m + d = n → d < k →
    laws_markIntS.l0 k xs (a + (m : Int)) (m : Int) = some (a + (n : Int), xs.take m ++ marks (a + (m : Int)) d) := by
  intro d
  induction d with
  | zero =>
    intro k m xs hx hd hk
    obtain ⟨k, rfl⟩ : ∃ q, k = q + 1 := ⟨k - 1, by omega⟩
    simp only [laws_markIntS.l0]
    rw [if_neg (by omega), List.take_of_length_le (by omega)]
    obtain rfl : m = n := by omega
    simp [marks]
  | succ d ih =>
    intro k m xs hx hd hk
    obtain ⟨k, rfl⟩ : ∃ q, k = q + 1 := ⟨k - 1, by omega⟩
    simp only [laws_markIntS.l0]
    rw [if_pos (by omega), if_pos (by omega), wn (n := n) (by omega) (by omega), wi h0 ha (by omega), ih k (m + 1) _ (by simpa using hx) (by omega) (by omega), Int.toNat_natCast, set_take _ _ _ (by omega), marks]
    rw [show a + ((m + 1 : Nat) : Int) = a + (m : Int) + 1 by omega]
    simp
theorem markIntS_at (xs : List Int) (a : Int) (h0 : 0 ≤ a) (ha : a + (xs.length : Int) ≤ 9223372036854775807) (k : Nat) (hk : xs.length < k) :
    laws_markIntS.f k xs a = some (a + (xs.length : Int), marks a xs.length) := by
  unfold laws_markIntS.f
  have := markIntS_l xs.length a h0 ha xs.length k 0 xs rfl (by omega) hk
  simpa using this
theorem dropP_at (xs : List S48) (m : Nat) (h : m < xs.length) : xs.drop m = rd_T48 xs (m : Int) :: xs.drop (m + 1) := by
  rw [List.drop_eq_getElem_cons h]
  simp [rd_T48, List.getD_eq_getElem?_getD, List.getElem?_eq_getElem h]
theorem markText_l : ∀ (d : Nat) (x : Int) (s : ByteArray), 0 ≤ x → x ≤ 4611686018427387904 → x < 10 ^ d → s.size + d ≤ 1000 → ∃ t, ∀ k, d < k → laws_markText.l0 k x s = some t := by
  intro d
  induction d with
  | zero =>
    intro x s h0 hm hx hs
    refine ⟨(⟨#[109]⟩ : ByteArray) ++ s, fun k hk => ?_⟩
    obtain ⟨k, rfl⟩ : ∃ q, k = q + 1 := ⟨k - 1, by omega⟩
    have hA : ¬ x > 0 := by
      have : x < 1 := by simpa using hx
      omega
    simp only [laws_markText.l0]
    rw [if_neg hA, if_pos (by omega)]
  | succ d ih =>
    intro x s h0 hm hx hs
    by_cases hp : x > 0
    · have hq : Int.tdiv x 10 = x / 10 := Int.tdiv_eq_ediv_of_nonneg h0
      have hlt : x / 10 < 10 ^ d := by
        rw [Int.pow_succ] at hx
        exact Int.ediv_lt_of_lt_mul (by decide) hx
      have h1 : (strOfNums [(wrap64 (48 + Int.tmod x 10)) % 256]).size = 1 := by rw [strOfNums_size]; rfl
      obtain ⟨t, ht⟩ := ih (wrap64 (Int.tdiv x 10)) (strOfNums [(wrap64 (48 + Int.tmod x 10)) % 256] ++ s) (by
        rw [hq]; unfold wrap64; omega) (by
        rw [hq]; unfold wrap64; omega) (by
        rw [hq]
        have : wrap64 (x / 10) = x / 10 := by unfold wrap64; omega
        rw [this]; exact hlt) (by rw [ByteArray.size_append, h1]; omega)
      refine ⟨t, fun k hk => ?_⟩
      obtain ⟨k, rfl⟩ : ∃ q, k = q + 1 := ⟨k - 1, by omega⟩
      simp only [laws_markText.l0]
      rw [if_pos hp, Option.bind_some, h1, if_pos (by omega)]
      exact ht k (by omega)
    · refine ⟨(⟨#[109]⟩ : ByteArray) ++ s, fun k hk => ?_⟩
      obtain ⟨k, rfl⟩ : ∃ q, k = q + 1 := ⟨k - 1, by omega⟩
      simp only [laws_markText.l0]
      rw [if_neg hp, if_pos (by omega)]
theorem markText_ex (a : Int) (h1 : 1 ≤ a) (ha : a ≤ 4611686018427387904) : ∃ t, ∀ k, 30 < k → laws_markText.f k a = some t := by
  obtain ⟨t, ht⟩ := markText_l 30 a (⟨#[]⟩ : ByteArray) (by omega) ha (by
    have : (4611686018427387904 : Int) < 10 ^ 30 := by decide
    omega) (by decide)
  refine ⟨t, fun k hk => ?_⟩
  unfold laws_markText.f
  rw [if_neg (by omega)]
  exact ht k hk
/-- What a number is written as. -/
def mtP (a : Int) : ByteArray := (laws_markText.f 31 a).getD ⟨#[]⟩
theorem markText_at (a : Int) (h1 : 1 ≤ a) (ha : a ≤ 4611686018427387904) (k : Nat) (hk : 30 < k) : laws_markText.f k a = some (mtP a) := by
  obtain ⟨t, ht⟩ := markText_ex a h1 ha
  have h2 := ht 31 (by decide)
  rw [ht k hk]
  unfold mtP
  rw [h2]; rfl
def endP : Int → List S48 → Int
  | a, [] => a
  | a, x :: xs => endP (a + 2 + (x.f2.length : Int)) xs
def markedP : Int → List S48 → List S48
  | _, [] => []
  | a, x :: xs => (⟨a, mtP (a + 1), marks (a + 2) x.f2.length⟩ : S48) :: markedP (a + 2 + (x.f2.length : Int)) xs
theorem markedP_len : ∀ (xs : List S48) (a : Int), (markedP a xs).length = xs.length
  | [], _ => rfl
  | x :: xs, a => by simp [markedP, markedP_len xs]
theorem endP_ge : ∀ (xs : List S48) (a : Int), a ≤ endP a xs
  | [], a => Int.le_refl a
  | x :: xs, a => by
    have := endP_ge xs (a + 2 + (x.f2.length : Int))
    unfold endP
    omega
theorem markPartS_l (n : Nat) (hn : n ≤ 1048576) : ∀ (d k m : Nat) (a : Int) (xs : List S48), xs.length = n → m + d = n → d + 1048700 < k → (∀ x ∈ xs.drop m, fitP x) → 1 ≤ a → a + 2000000 * (d : Int) ≤ 4611686018427387904 →
    laws_markPartS.l0 k xs a (m : Int) = some (endP a (xs.drop m), xs.take m ++ markedP a (xs.drop m)) := by
  intro d
  induction d with
  | zero =>
    intro k m a xs hx hd hk hf h1 ha
    obtain ⟨k, rfl⟩ : ∃ q, k = q + 1 := ⟨k - 1, by omega⟩
    simp only [laws_markPartS.l0]
    rw [if_neg (by omega), List.drop_of_length_le (by omega), List.take_of_length_le (by omega)]
    simp [endP, markedP]
  | succ d ih =>
    intro k m a xs hx hd hk hf h1 ha
    obtain ⟨k, rfl⟩ : ∃ q, k = q + 1 := ⟨k - 1, by omega⟩
    have hdr := dropP_at xs m (by omega)
    have hfm : fitP (rd_T48 xs (m : Int)) := hf _ (by rw [hdr]; exact List.mem_cons_self)
    have hl := hfm.2
    have w1 : wrap64 (a + 1) = a + 1 := by unfold wrap64; omega
    have w2 : wrap64 (a + 1 + 1) = a + 2 := by unfold wrap64; omega
    simp only [laws_markPartS.l0]
    rw [if_pos (by omega), if_pos (by omega), w1, markText_at (a + 1) (by omega) (by omega) k (by omega), Option.bind_some, w2, markIntS_at _ (a + 2) (by omega) (by omega) k (by omega), Option.bind_some, wn (n := n) (by omega) (by omega), Int.toNat_natCast]
    have hds : ∀ z : S48, (xs.set m z).drop (m + 1) = xs.drop (m + 1) := fun z => List.drop_set_of_lt (by omega)
    rw [ih k (m + 1) (a + 2 + ((rd_T48 xs (m : Int)).f2.length : Int)) _ (by simpa using hx) (by omega) (by omega) (by
      rw [hds]
      intro x h
      exact hf x (by rw [hdr]; exact List.mem_cons_of_mem _ h)) (by omega) (by omega), hds, set_take _ _ _ (by omega), hdr]
    simp only [endP, markedP, List.append_assoc, List.singleton_append]
theorem markPartS_at (xs : List S48) (hn : xs.length ≤ 1048576) (hf : ∀ x ∈ xs, fitP x) (k : Nat) (hk : xs.length + 1048700 < k) :
    laws_markPartS.f k xs 1 = some (endP 1 xs, markedP 1 xs) := by
  unfold laws_markPartS.f
  have := markPartS_l xs.length hn xs.length k 0 1 xs rfl (by omega) hk (by simpa using hf) (by omega) (by omega)
  simpa using this
theorem copyPart_at (x : S48) (h : fitP x) : spec_l10Copy.f x.f0 x.f1 x.f2 = some (x.f0, x.f1, x.f2) ∧ impl_copyPart.f x.f0 x.f1 x.f2 = some (x.f0, x.f1, x.f2) := by
  have h2 := h.2
  constructor
  · unfold spec_l10Copy.f
    rw [Option.bind_some, if_pos (by show (0 : Nat) + _ < _; omega)]; rfl
  · unfold impl_copyPart.f impl_copyInts.f
    rw [if_pos (by show (0 : Nat) + _ < _; omega), Option.bind_some]; rfl
theorem specSetHas_l (xs : List Int) (x : Int) (hn : xs.length ≤ 9223372036854775807) : ∀ (d k m : Nat), m + d = xs.length → d < k →
    spec_SetHas.l0 k xs x (m : Int) = some (decide (x ∈ xs.drop m)) := by
  intro d
  induction d with
  | zero =>
    intro k m hd hk
    obtain ⟨k, rfl⟩ : ∃ q, k = q + 1 := ⟨k - 1, by omega⟩
    simp only [spec_SetHas.l0]
    rw [if_neg (by omega), List.drop_of_length_le (by omega)]
    simp
  | succ d ih =>
    intro k m hd hk
    obtain ⟨k, rfl⟩ : ∃ q, k = q + 1 := ⟨k - 1, by omega⟩
    simp only [spec_SetHas.l0]
    rw [if_pos (by omega), if_pos (by omega), wn (n := xs.length) (by omega) hn, ih k (m + 1) (by omega) (by omega), drop_at xs m (by omega)]
    by_cases h : rd xs m = x
    · simp [h]
    · have h' : ¬ x = rd xs m := fun e => h e.symm
      simp [h, h']
theorem specSetHas_at (xs : List Int) (x : Int) (hn : xs.length ≤ 9223372036854775807) (k : Nat) (hk : xs.length < k) : spec_SetHas.f k xs x = some (decide (x ∈ xs)) := by
  have := specSetHas_l xs x hn xs.length k 0 (by omega) hk
  unfold spec_SetHas.f
  simpa using this
theorem slIndex_l (xs : List Int) (x : Int) (hn : xs.length ≤ 9223372036854775807) : ∀ (d k m : Nat), m + d = xs.length → d < k →
    ∃ r, slices_Index_int_int.l0 k xs x (xs.length : Int) (m : Int) = some r ∧ decide (r ≥ 0) = decide (x ∈ xs.drop m) := by
  intro d
  induction d with
  | zero =>
    intro k m hd hk
    obtain ⟨k, rfl⟩ : ∃ q, k = q + 1 := ⟨k - 1, by omega⟩
    refine ⟨-1, ?_, ?_⟩
    · simp only [slices_Index_int_int.l0]
      rw [if_neg (by omega)]
    · rw [List.drop_of_length_le (by omega)]; simp
  | succ d ih =>
    intro k m hd hk
    obtain ⟨k, rfl⟩ : ∃ q, k = q + 1 := ⟨k - 1, by omega⟩
    obtain ⟨r, hr, h2⟩ := ih k (m + 1) (by omega) (by omega)
    simp only [slices_Index_int_int.l0]
    rw [if_pos (by omega), if_pos (by omega), if_pos (by omega), wn (n := xs.length) (by omega) hn, hr, drop_at xs m (by omega)]
    by_cases h : x = rd xs m
    · exact ⟨m, by rw [if_pos h], by simp [h]⟩
    · exact ⟨r, by rw [if_neg h], by rw [h2]; simp [h]⟩
theorem implSetHas_at (xs : List Int) (x : Int) (hn : xs.length ≤ 9223372036854775807) (k : Nat) (hk : xs.length < k) : impl_SetHas.f k xs x = some (decide (x ∈ xs)) := by
  obtain ⟨r, hr, h2⟩ := slIndex_l xs x hn xs.length k 0 (by omega) hk
  unfold impl_SetHas.f slices_Contains_int_int.f slices_Index_int_int.f
  rw [show ((0 : Nat) : Int) = 0 from rfl] at hr
  rw [hr]
  simp only [Option.bind_some, h2, List.drop_zero]
def addOf (l : List Int) (x : Int) : List Int := if x ∈ l then l else l.take (impl_SetAdd.at_ l x) ++ x :: l.drop (impl_SetAdd.at_ l x)
theorem addOf_len (l : List Int) (x : Int) : (addOf l x).length ≤ l.length + 1 := by
  unfold addOf
  split
  · omega
  · rw [List.length_append, List.length_cons, List.length_take, List.length_drop]; omega
theorem implSetAdd_at (l : List Int) (x : Int) (hn : l.length ≤ 10000000) (k : Nat) (hk : l.length < k) : impl_SetAdd.f k l x = some (addOf l x) := by
  have c0 : ([] : List Int).length + l.length < 17592186044416 := by simp; omega
  unfold impl_SetAdd.f impl_copyInts.f addOf
  rw [implSetHas_at l x (by omega) k hk, Option.bind_some, if_pos c0, Option.bind_some, List.nil_append]
  by_cases h : x ∈ l
  · rw [if_pos (by simpa using h), if_pos h]
  · rw [if_neg (by simpa using h), if_neg h]
theorem specSetAdd_l (l : List Int) (x : Int) (hn : l.length ≤ 10000000) : ∀ (d k m : Nat), m + d = l.length → d < k →
    spec_SetAdd.l0 k l x (m : Int) = some (l.take (m + impl_SetAdd.at_ (l.drop m) x) ++ x :: l.drop (m + impl_SetAdd.at_ (l.drop m) x)) := by
  have fin : ∀ m : Nat, m ≤ l.length → ([] ++ l.take m).length < 17592186044416 ∧ (([] ++ l.take m) ++ [x]).length + (l.drop m).length < 17592186044416 := by
    intro m hm
    simp only [List.nil_append, List.length_append, List.length_take, List.length_drop, List.length_singleton]
    omega
  intro d
  induction d with
  | zero =>
    intro k m hd hk
    obtain ⟨k, rfl⟩ : ∃ q, k = q + 1 := ⟨k - 1, by omega⟩
    obtain ⟨f1, f2⟩ := fin m (by omega)
    have c1 : ¬ (m : Int) < (l.length : Int) := by omega
    have c2 : (0 : Int) ≤ (m : Int) := by omega
    have c3 : (m : Int) ≤ (l.length : Int) := by omega
    have c4 : ([] : List Int).length + (l.take m).length < 17592186044416 := by simpa using f1
    have c5 : impl_SetAdd.at_ (l.drop m) x = 0 := by
      rw [List.drop_of_length_le (by omega)]; rfl
    simp only [spec_SetAdd.l0, if_neg c1, Option.bind_some, if_pos c2, if_pos c3, Int.toNat_natCast, if_pos c4, if_pos f1, if_pos f2, c5, Nat.add_zero]
    simp
  | succ d ih =>
    intro k m hd hk
    obtain ⟨k, rfl⟩ : ∃ q, k = q + 1 := ⟨k - 1, by omega⟩
    obtain ⟨f1, f2⟩ := fin m (by omega)
    have hm : m < l.length := by omega
    have c1 : (m : Int) < (l.length : Int) := by omega
    have c2 : (0 : Int) ≤ (m : Int) := by omega
    have c3 : (m : Int) ≤ (l.length : Int) := by omega
    have c4 : ([] : List Int).length + (l.take m).length < 17592186044416 := by simpa using f1
    have r1 := ih k (m + 1) (by omega) (by omega)
    have hw : wrap64 ((m : Int) + 1) = ((m + 1 : Nat) : Int) := wn (n := l.length) (by omega) (by omega)
    have hr : rd l (m : Int) = l[m] := by simp [rd, List.getD_eq_getElem?_getD, List.getElem?_eq_getElem hm]
    simp only [spec_SetAdd.l0, if_pos c1, Option.bind_some, if_pos c2, if_pos c3, Int.toNat_natCast, if_pos c4, if_pos f1, if_pos f2, hw, r1, hr]
    have hdr : l.drop m = l[m] :: l.drop (m + 1) := List.drop_eq_getElem_cons hm
    by_cases hx : l[m] < x
    · have c5 : impl_SetAdd.at_ (l.drop m) x = impl_SetAdd.at_ (l.drop (m + 1)) x + 1 := by
        rw [hdr]
        unfold impl_SetAdd.at_
        rw [List.takeWhile_cons_of_pos (by simpa using hx)]; rfl
      have c6 : m + impl_SetAdd.at_ (l.drop m) x = m + 1 + impl_SetAdd.at_ (l.drop (m + 1)) x := by omega
      rw [if_pos hx, c6]
    · have c5 : impl_SetAdd.at_ (l.drop m) x = 0 := by
        rw [hdr]
        unfold impl_SetAdd.at_
        rw [List.takeWhile_cons_of_neg (by simpa using hx)]; rfl
      rw [if_neg hx, c5, Nat.add_zero]
      simp
theorem specSetAdd_at (l : List Int) (x : Int) (hn : l.length ≤ 10000000) (k : Nat) (hk : l.length < k) : spec_SetAdd.f k l x = some (addOf l x) := by
  have c0 : ([] : List Int).length + l.length < 17592186044416 := by simp; omega
  have h0 := specSetAdd_l l x hn l.length k 0 (by omega) hk
  have h0' : spec_SetAdd.l0 k l x 0 = some (l.take (impl_SetAdd.at_ l x) ++ x :: l.drop (impl_SetAdd.at_ l x)) := by simpa using h0
  unfold spec_SetAdd.f addOf
  rw [specSetHas_at l x (by omega) k hk, Option.bind_some]
  by_cases h : x ∈ l
  · rw [if_pos (by simpa using h), if_pos h, Option.bind_some, if_pos c0, List.nil_append]
  · rw [if_neg (by simpa using h), if_neg h, h0']
theorem specSetJoin_l1 (b : List Int) (hb : b.length ≤ 10000000) : ∀ (d k m : Nat) (o : List Int), m + d = b.length → o.length + d ≤ 10000000 → o.length + 2 * d + 1 < k →
    spec_SetJoin.l1 k b o (m : Int) = some ((b.drop m).foldl addOf o) := by
  intro d
  induction d with
  | zero =>
    intro k m o hd ho hk
    obtain ⟨k, rfl⟩ : ∃ q, k = q + 1 := ⟨k - 1, by omega⟩
    simp only [spec_SetJoin.l1]
    rw [if_neg (by omega), List.drop_of_length_le (by omega), List.foldl_nil]
  | succ d ih =>
    intro k m o hd ho hk
    obtain ⟨k, rfl⟩ : ∃ q, k = q + 1 := ⟨k - 1, by omega⟩
    have hl := addOf_len o (rd b (m : Int))
    have hw : wrap64 ((m : Int) + 1) = ((m + 1 : Nat) : Int) := wn (n := b.length) (by omega) (by omega)
    simp only [spec_SetJoin.l1]
    rw [if_pos (by omega), if_pos (by omega), specSetAdd_at o _ (by omega) k (by omega), Option.bind_some, hw, ih k (m + 1) _ (by omega) (by omega) (by omega), drop_at b m (by omega), List.foldl_cons]
theorem specSetJoin_l0 (a b : List Int) (ha : a.length ≤ 10000000) (hb : b.length ≤ 10000000) : ∀ (d k m : Nat) (o : List Int), m + d = a.length → o.length + d + b.length ≤ 10000000 → o.length + 2 * d + 2 * b.length + 5 < k →
    spec_SetJoin.l0 k a b o (m : Int) = some (b.foldl addOf ((a.drop m).foldl addOf o)) := by
  intro d
  induction d with
  | zero =>
    intro k m o hd ho hk
    obtain ⟨k, rfl⟩ : ∃ q, k = q + 1 := ⟨k - 1, by omega⟩
    have h1 := specSetJoin_l1 b hb b.length k 0 o (by omega) (by omega) (by omega)
    simp only [spec_SetJoin.l0]
    rw [if_neg (by omega), List.drop_of_length_le (by omega), List.foldl_nil]
    exact h1
  | succ d ih =>
    intro k m o hd ho hk
    obtain ⟨k, rfl⟩ : ∃ q, k = q + 1 := ⟨k - 1, by omega⟩
    have hl := addOf_len o (rd a (m : Int))
    have hw : wrap64 ((m : Int) + 1) = ((m + 1 : Nat) : Int) := wn (n := a.length) (by omega) (by omega)
    simp only [spec_SetJoin.l0]
    rw [if_pos (by omega), if_pos (by omega), specSetAdd_at o _ (by omega) k (by omega), Option.bind_some, hw, ih k (m + 1) _ (by omega) (by omega) (by omega), drop_at a m (by omega), List.foldl_cons]
theorem implSetJoin_l1 (b : List Int) (hb : b.length ≤ 10000000) : ∀ (d k m : Nat) (o : List Int), m + d = b.length → o.length + d ≤ 10000000 → o.length + 2 * d + 1 < k →
    impl_SetJoin.l1 k o b (b.length : Int) (m : Int) = some ((b.drop m).foldl addOf o) := by
  intro d
  induction d with
  | zero =>
    intro k m o hd ho hk
    obtain ⟨k, rfl⟩ : ∃ q, k = q + 1 := ⟨k - 1, by omega⟩
    simp only [impl_SetJoin.l1]
    rw [if_neg (by omega), List.drop_of_length_le (by omega), List.foldl_nil]
  | succ d ih =>
    intro k m o hd ho hk
    obtain ⟨k, rfl⟩ : ∃ q, k = q + 1 := ⟨k - 1, by omega⟩
    have hl := addOf_len o (rd b (m : Int))
    have hw : wrap64 ((m : Int) + 1) = ((m + 1 : Nat) : Int) := wn (n := b.length) (by omega) (by omega)
    simp only [impl_SetJoin.l1]
    rw [if_pos (by omega), if_pos (by omega), if_pos (by omega), implSetAdd_at o _ (by omega) k (by omega), Option.bind_some, hw, ih k (m + 1) _ (by omega) (by omega) (by omega), drop_at b m (by omega), List.foldl_cons]
theorem implSetJoin_l0 (a b : List Int) (ha : a.length ≤ 10000000) (hb : b.length ≤ 10000000) : ∀ (d k m : Nat) (o : List Int), m + d = a.length → o.length + d + b.length ≤ 10000000 → o.length + 2 * d + 2 * b.length + 5 < k →
    impl_SetJoin.l0 k b o a (a.length : Int) (m : Int) = some (b.foldl addOf ((a.drop m).foldl addOf o)) := by
  intro d
  induction d with
  | zero =>
    intro k m o hd ho hk
    obtain ⟨k, rfl⟩ : ∃ q, k = q + 1 := ⟨k - 1, by omega⟩
    have h1 := implSetJoin_l1 b hb b.length k 0 o (by omega) (by omega) (by omega)
    simp only [impl_SetJoin.l0]
    rw [if_neg (by omega), List.drop_of_length_le (by omega), List.foldl_nil]
    exact h1
  | succ d ih =>
    intro k m o hd ho hk
    obtain ⟨k, rfl⟩ : ∃ q, k = q + 1 := ⟨k - 1, by omega⟩
    have hl := addOf_len o (rd a (m : Int))
    have hw : wrap64 ((m : Int) + 1) = ((m + 1 : Nat) : Int) := wn (n := a.length) (by omega) (by omega)
    simp only [impl_SetJoin.l0]
    rw [if_pos (by omega), if_pos (by omega), if_pos (by omega), implSetAdd_at o _ (by omega) k (by omega), Option.bind_some, hw, ih k (m + 1) _ (by omega) (by omega) (by omega), drop_at a m (by omega), List.foldl_cons]
def joinOf (a b : List Int) : List Int := b.foldl addOf (a.foldl addOf [])
theorem foldAdd_len : ∀ (a o : List Int), (a.foldl addOf o).length ≤ o.length + a.length
  | [], o => by simp
  | x :: r, o => by
    have h1 := foldAdd_len r (addOf o x)
    have h2 := addOf_len o x
    simp only [List.foldl_cons, List.length_cons]
    omega
theorem joinOf_len (a b : List Int) : (joinOf a b).length ≤ a.length + b.length := by
  have h1 := foldAdd_len b (a.foldl addOf [])
  have h2 := foldAdd_len a []
  simp only [List.length_nil] at h2
  unfold joinOf
  omega
theorem specSetJoin_at (a b : List Int) (hn : a.length + b.length ≤ 10000000) (k : Nat) (hk : 2 * a.length + 2 * b.length + 5 < k) : spec_SetJoin.f k a b = some (joinOf a b) := by
  have h := specSetJoin_l0 a b (by omega) (by omega) a.length k 0 [] (by omega) (by simpa using hn) (by simpa using hk)
  exact h
theorem implSetJoin_at (a b : List Int) (hn : a.length + b.length ≤ 10000000) (k : Nat) (hk : 2 * a.length + 2 * b.length + 5 < k) : impl_SetJoin.f k a b = some (joinOf a b) := by
  have h := implSetJoin_l0 a b (by omega) (by omega) a.length k 0 [] (by omega) (by simpa using hn) (by simpa using hk)
  exact h
theorem mono_le {α : Type} {f : Nat → Option α} (h : ∀ k, LeO (f k) (f (k + 1))) {a : Nat} {x : α} (hx : f a = some x) : ∀ {b : Nat}, a ≤ b → f b = some x := by
  intro b
  induction b with
  | zero => intro hab; obtain rfl : a = 0 := by omega
            exact hx
  | succ b ih =>
    intro hab
    by_cases e : a = b + 1
    · subst e; exact hx
    · exact h b x (ih (by omega))
theorem bless_self (x : List UInt8) : Op.bytesLess x x = false := by have := lessGt x x; simpa using this.symm
theorem bless_eq (x y : List UInt8) (h1 : Op.bytesLess x y = false) (h2 : Op.bytesLess y x = false) : x = y := by have := lessGt x y; rw [h1, h2] at this; simpa using this
/-- How a part stands to another one: by view, then by name. -/
def cmpP (x p : S48) : Int := (impl_comparePlace.f x.f0 x.f1 x.f2 p.f0 p.f1 p.f2).getD 0
theorem cmpP_at (x p : S48) : impl_comparePlace.f x.f0 x.f1 x.f2 p.f0 p.f1 p.f2 = some (cmpP x p) ∧ spec_l10Before.f x.f0 x.f1 x.f2 p.f0 p.f1 p.f2 = some (decide (cmpP x p < 0)) := by
  obtain ⟨c, h1, h2⟩ := place_at x.f0 x.f1 x.f2 p.f0 p.f1 p.f2
  unfold cmpP
  rw [h1]
  exact ⟨rfl, h2⟩
theorem cmpP_zero (x p : S48) : cmpP x p = 0 ↔ x.f0 = p.f0 ∧ x.f1.toList = p.f1.toList := by
  have hn : ∀ x : Int, (x != x) = false := fun x => by simp
  have hs : ∀ x : List UInt8, (x != x) = false := fun x => by simp
  unfold cmpP impl_comparePlace.f cmp_Compare_int.f cmp_Compare_string.f cmp_isNaN_int.f cmp_isNaN_string.f
  simp only [hn, hs, Option.bind_some, Bool.false_eq_true, if_false]
  by_cases h1 : x.f0 < p.f0
  · have : x.f0 ≠ p.f0 := by omega
    simp [h1, this]
  · by_cases h2 : x.f0 > p.f0
    · have : x.f0 ≠ p.f0 := by omega
      simp [h1, h2, this]
    · have h3 : x.f0 = p.f0 := by omega
      simp only [h1, h2, h3, true_and, if_false]
      cases hb : Op.bytesLess x.f1.toList p.f1.toList
      · cases hc : Op.bytesLess p.f1.toList x.f1.toList
        · have e := bless_eq _ _ hb hc
          simp [e]
        · have : x.f1.toList ≠ p.f1.toList := by
            intro e; rw [e] at hc; rw [bless_self] at hc; cases hc
          simp [this]
      · have : x.f1.toList ≠ p.f1.toList := by
          intro e; rw [e] at hb; rw [bless_self] at hb; cases hb
        simp [this]
/-- Two parts of one place, joined. -/
def joinP (x p : S48) : S48 := ⟨x.f0, x.f1, joinOf x.f2 p.f2⟩
/-- A part put into a row of parts. -/
def addZ (p : S48) : List S48 → List S48
  | [] => [p]
  | x :: r => if cmpP x p < 0 then x :: addZ p r else if cmpP x p = 0 then joinP x p :: r else p :: x :: r
def posZ (p : S48) : List S48 → Nat
  | [] => 0
  | x :: r => if cmpP x p < 0 then posZ p r + 1 else 0
theorem posZ_le (p : S48) : ∀ xs, posZ p xs ≤ xs.length
  | [] => Nat.le_refl _
  | x :: r => by
    have := posZ_le p r
    unfold posZ
    split
    · simp; omega
    · exact Nat.zero_le _
theorem posZ_at (p : S48) : ∀ (xs : List S48) (h : posZ p xs < xs.length), ¬ cmpP xs[posZ p xs] p < 0
  | x :: r, h => by
    unfold posZ at h
    by_cases hc : cmpP x p < 0
    · rw [if_pos hc] at h
      have e : posZ p (x :: r) = posZ p r + 1 := by simp [posZ, hc]
      have := posZ_at p r (by simpa using h)
      simp only [e, List.getElem_cons_succ]
      exact this
    · have e : posZ p (x :: r) = 0 := by simp [posZ, hc]
      simp only [e, List.getElem_cons_zero]
      exact hc
theorem addZ_join (p : S48) : ∀ (xs : List S48) (h : posZ p xs < xs.length), cmpP xs[posZ p xs] p = 0 → addZ p xs = xs.set (posZ p xs) (joinP xs[posZ p xs] p)
  | x :: r, h, h0 => by
    by_cases hc : cmpP x p < 0
    · have e : posZ p (x :: r) = posZ p r + 1 := by simp [posZ, hc]
      have h' : posZ p r < r.length := by rw [e] at h; simpa using h
      simp only [e, List.getElem_cons_succ] at h0 ⊢
      rw [addZ, if_pos hc, addZ_join p r h' h0, List.set_cons_succ]
    · have e : posZ p (x :: r) = 0 := by simp [posZ, hc]
      simp only [e, List.getElem_cons_zero] at h0 ⊢
      rw [addZ, if_neg hc, if_pos h0, List.set_cons_zero]
theorem addZ_ins (p : S48) : ∀ (xs : List S48), (∀ h : posZ p xs < xs.length, cmpP xs[posZ p xs] p ≠ 0) → addZ p xs = xs.take (posZ p xs) ++ p :: xs.drop (posZ p xs)
  | [], _ => rfl
  | x :: r, h0 => by
    by_cases hc : cmpP x p < 0
    · have e : posZ p (x :: r) = posZ p r + 1 := by simp [posZ, hc]
      rw [e, addZ, if_pos hc, addZ_ins p r (fun h => by
        have := h0 (by rw [e]; simpa using h)
        simp only [e, List.getElem_cons_succ] at this
        exact this)]
      rfl
    · have e : posZ p (x :: r) = 0 := by simp [posZ, hc]
      have := h0 (by rw [e]; simp)
      simp only [e, List.getElem_cons_zero] at this
      rw [e, addZ, if_neg hc, if_neg this]
      rfl
theorem addZ_len (p : S48) : ∀ xs, (addZ p xs).length ≤ xs.length + 1
  | [] => Nat.le_refl _
  | x :: r => by
    have := addZ_len p r
    unfold addZ
    split
    · simp; omega
    · split
      · simp
      · simp
theorem addZ_mem (p : S48) : ∀ xs z, z ∈ addZ p xs → z = p ∨ z ∈ xs ∨ ∃ x ∈ xs, z = joinP x p
  | [], z, h => .inl (by simpa [addZ] using h)
  | x :: r, z, h => by
    unfold addZ at h
    split at h
    · rcases List.mem_cons.1 h with rfl | h
      · exact .inr (.inl List.mem_cons_self)
      · rcases addZ_mem p r z h with h | h | ⟨y, h1, h2⟩
        · exact .inl h
        · exact .inr (.inl (List.mem_cons_of_mem _ h))
        · exact .inr (.inr ⟨y, List.mem_cons_of_mem _ h1, h2⟩)
    · split at h
      · rcases List.mem_cons.1 h with rfl | h
        · exact .inr (.inr ⟨x, List.mem_cons_self, rfl⟩)
        · exact .inr (.inl (List.mem_cons_of_mem _ h))
      · rcases List.mem_cons.1 h with rfl | h
        · exact .inl rfl
        · exact .inr (.inl h)
/-- A part's sizes fit a join with p's. -/
def fitJ (p x : S48) : Prop := fitP x ∧ x.f2.length + p.f2.length ≤ 1048576
theorem joinP_at (x p : S48) (h : x.f2.length + p.f2.length ≤ 1048576) (k : Nat) (hk : 2100000 < k) :
    spec_PartJoin.f k x.f0 x.f1 x.f2 p.f0 p.f1 p.f2 = some (if cmpP x p = 0 then (x.f0, x.f1, joinOf x.f2 p.f2, true) else (0, (⟨#[]⟩ : ByteArray), ([] : List Int), false)) ∧
    impl_PartJoin.f k x.f0 x.f1 x.f2 p.f0 p.f1 p.f2 = some (if cmpP x p = 0 then (x.f0, x.f1, joinOf x.f2 p.f2, true) else (0, (⟨#[]⟩ : ByteArray), ([] : List Int), false)) := by
  have e5 := specSetJoin_at x.f2 p.f2 (by omega) k (by omega)
  have e6 := implSetJoin_at x.f2 p.f2 (by omega) k (by omega)
  have hz := cmpP_zero x p
  unfold spec_PartJoin.f impl_PartJoin.f
  by_cases h1 : x.f0 = p.f0
  · by_cases h2 : x.f1.toList = p.f1.toList
    · rw [if_pos h1, if_pos h2, if_pos h1, if_pos h2, e5, e6, if_pos (hz.2 ⟨h1, h2⟩)]
      exact ⟨rfl, rfl⟩
    · rw [if_pos h1, if_neg h2, if_pos h1, if_neg h2, if_neg (fun e => h2 (hz.1 e).2)]
      exact ⟨rfl, rfl⟩
  · rw [if_neg h1, if_neg h1, if_neg (fun e => h1 (hz.1 e).1)]
    exact ⟨rfl, rfl⟩
theorem copyTable_l (xs : List S48) (hn : xs.length ≤ 1048576) (hx : ∀ x ∈ xs, fitP x) : ∀ (d k m : Nat) (out : List S48), m + d = xs.length → d < k → out.length = m →
    spec_l10Table.l0 k xs out (m : Int) = some (out ++ xs.drop m) ∧ impl_copyTable.l0 k out xs (xs.length : Int) (m : Int) = some (out ++ xs.drop m) := by
  intro d
  induction d with
  | zero =>
    intro k m out hd hk ho
    obtain ⟨k, rfl⟩ : ∃ q, k = q + 1 := ⟨k - 1, by omega⟩
    have hA : ¬ (m : Int) < (xs.length : Int) := by omega
    rw [List.drop_of_length_le (by omega)]
    exact ⟨by simp [spec_l10Table.l0, hA], by simp [impl_copyTable.l0, hA]⟩
  | succ d ih =>
    intro k m out hd hk ho
    obtain ⟨k, rfl⟩ : ∃ q, k = q + 1 := ⟨k - 1, by omega⟩
    have hA : (m : Int) < (xs.length : Int) := by omega
    have hB : (0 : Int) ≤ (m : Int) := by omega
    have hw : wrap64 ((m : Int) + 1) = ((m + 1 : Nat) : Int) := wn (n := xs.length) (by omega) (by omega)
    have hf := hx _ (rdP_mem xs m (by omega))
    obtain ⟨c1, c2⟩ := copyPart_at _ hf
    have hL : out.length < 2932031007402 := by omega
    simp only [spec_l10Table.l0, impl_copyTable.l0, if_pos hA, if_pos hB, hw, c1, c2, Option.bind_some, if_pos hL]
    rw [dropP_at xs m (by omega)]
    obtain ⟨h1, h2⟩ := ih k (m + 1) (out ++ [rd_T48 xs (m : Int)]) (by omega) (by omega) (by simp; omega)
    constructor
    · refine Eq.trans h1 ?_
      simp
    · refine Eq.trans h2 ?_
      simp
theorem copyTable_at (xs : List S48) (hn : xs.length ≤ 1048576) (hx : ∀ x ∈ xs, fitP x) (k : Nat) (hk : xs.length < k) : spec_l10Table.f k xs = some xs ∧ impl_copyTable.f k xs = some xs := by
  obtain ⟨h1, h2⟩ := copyTable_l xs hn hx xs.length k 0 [] (by omega) hk rfl
  unfold spec_l10Table.f impl_copyTable.f
  exact ⟨by simpa using h1, by simpa using h2⟩
theorem rdP_get (xs : List S48) (m : Nat) (h : m < xs.length) : rd_T48 xs (m : Int) = xs[m] := by
  unfold rd_T48
  simp [List.getD_eq_getElem?_getD, List.getElem?_eq_getElem h]
/-- impl's search for the place. -/
theorem implPos_l (p : S48) (xs : List S48) (hn : xs.length ≤ 1048576) : ∀ (d k m : Nat), m + d = xs.length → d < k →
    impl_TableAdd.l0 k xs p.f0 p.f1 p.f2 (m : Int) = some ((m + posZ p (xs.drop m) : Nat) : Int) := by
  intro d
  induction d with
  | zero =>
    intro k m hd hk
    obtain ⟨k, rfl⟩ : ∃ q, k = q + 1 := ⟨k - 1, by omega⟩
    simp only [impl_TableAdd.l0]
    rw [if_neg (by omega), List.drop_of_length_le (by omega)]
    rfl
  | succ d ih =>
    intro k m hd hk
    obtain ⟨k, rfl⟩ : ∃ q, k = q + 1 := ⟨k - 1, by omega⟩
    have hw : wrap64 ((m : Int) + 1) = ((m + 1 : Nat) : Int) := wn (n := xs.length) (by omega) (by omega)
    obtain ⟨c1, _⟩ := cmpP_at (rd_T48 xs (m : Int)) p
    simp only [impl_TableAdd.l0]
    rw [if_pos (by omega), if_pos (by omega), c1, Option.bind_some, dropP_at xs m (by omega)]
    by_cases hc : cmpP (rd_T48 xs (m : Int)) p < 0
    · rw [if_pos hc, hw, ih k (m + 1) (by omega) (by omega), posZ, if_pos hc]
      congr 1
      omega
    · rw [if_neg hc, posZ, if_neg hc]
      rfl
theorem implPos_at (p : S48) (xs : List S48) (hn : xs.length ≤ 1048576) (k : Nat) (hk : xs.length < k) : impl_TableAdd.l0 k xs p.f0 p.f1 p.f2 0 = some ((posZ p xs : Nat) : Int) := by
  have := implPos_l p xs hn xs.length k 0 (by omega) hk
  simpa using this
/-- spec, behind the place: what is left is copied. -/
theorem specRest_l (a b : Int) (p : S48) (xs : List S48) (hn : xs.length ≤ 1048576) (hx : ∀ x ∈ xs, fitP x) : ∀ (d m : Nat) (out : List S48), m + d = xs.length → out.length ≤ m + 1 → ∀ k,
    spec_TableAdd.l0 (2 * d + 1 + k) xs out true (m : Int) a b p.f0 p.f1 p.f2 = spec_TableAdd.j2 k xs (out ++ xs.drop m) a b p.f0 p.f1 p.f2 := by
  intro d
  induction d with
  | zero =>
    intro m out hd ho k
    rw [show 2 * 0 + 1 + k = k + 1 by omega]
    simp only [spec_TableAdd.l0]
    rw [if_neg (by omega), List.drop_of_length_le (by omega)]
    simp
  | succ d ih =>
    intro m out hd ho k
    have hw : wrap64 ((m : Int) + 1) = ((m + 1 : Nat) : Int) := wn (n := xs.length) (by omega) (by omega)
    obtain ⟨c1, _⟩ := copyPart_at _ (hx _ (rdP_mem xs m (by omega)))
    rw [show 2 * (d + 1) + 1 + k = (2 * d + 1 + k) + 1 + 1 by omega]
    simp only [spec_TableAdd.l0]
    rw [if_pos (by omega), if_pos (by omega), c1, Option.bind_some, if_pos trivial]
    simp only [spec_TableAdd.j1]
    rw [if_neg (by decide), if_pos (by omega), hw, ih (m + 1) _ (by omega) (by simp; omega) k, dropP_at xs m (by omega)]
    simp
/-- spec's row, from place m on, nothing put yet. -/
theorem specAdd_l (a b : Int) (p : S48) (hp : fitP p) (xs : List S48) (hn : xs.length ≤ 1048576) (hx : ∀ x ∈ xs, fitJ p x) : ∀ (d m : Nat) (out : List S48), m + d = xs.length → out.length ≤ m → ∀ k, 2100010 < k → ∃ j, k ≤ j ∧
    spec_TableAdd.l0 (2 * d + 1 + k) xs out false (m : Int) a b p.f0 p.f1 p.f2 = spec_TableAdd.j2 j xs (out ++ addZ p (xs.drop m)) a b p.f0 p.f1 p.f2 := by
  obtain ⟨q1, _⟩ := copyPart_at _ hp
  intro d
  induction d with
  | zero =>
    intro m out hd ho k hk
    refine ⟨k, Nat.le_refl _, ?_⟩
    rw [show 2 * 0 + 1 + k = k + 1 by omega]
    simp only [spec_TableAdd.l0]
    rw [if_neg (by omega), if_neg (by decide), q1, Option.bind_some, if_pos (by omega), List.drop_of_length_le (by omega)]
    rfl
  | succ d ih =>
    intro m out hd ho k hk
    have hw : wrap64 ((m : Int) + 1) = ((m + 1 : Nat) : Int) := wn (n := xs.length) (by omega) (by omega)
    obtain ⟨hf, hj⟩ := hx _ (rdP_mem xs m (by omega))
    obtain ⟨c1, _⟩ := copyPart_at _ hf
    obtain ⟨_, b1⟩ := cmpP_at (rd_T48 xs (m : Int)) p
    rw [show 2 * (d + 1) + 1 + k = (2 * d + 1 + k) + 1 + 1 by omega]
    simp only [spec_TableAdd.l0]
    rw [if_pos (by omega), if_pos (by omega), c1, Option.bind_some, if_neg (by decide)]
    simp only
    rw [b1, Option.bind_some, dropP_at xs m (by omega)]
    by_cases hc : cmpP (rd_T48 xs (m : Int)) p < 0
    · rw [decide_eq_true hc, addZ, if_pos hc]
      simp only [spec_TableAdd.j1, Bool.not_true]
      rw [if_neg (by decide), if_pos (by omega), hw]
      obtain ⟨j, h1, h2⟩ := ih (m + 1) (out ++ [rd_T48 xs (m : Int)]) (by omega) (by simp; omega) k hk
      refine ⟨j, h1, ?_⟩
      refine Eq.trans h2 ?_
      simp
    · rw [decide_eq_false hc, addZ, if_neg hc]
      simp only [spec_TableAdd.j1, Bool.not_false]
      obtain ⟨e1, _⟩ := joinP_at (rd_T48 xs (m : Int)) p hj (2 * d + 1 + k) (by omega)
      rw [if_pos trivial, e1, Option.bind_some]
      by_cases h0 : cmpP (rd_T48 xs (m : Int)) p = 0
      · rw [if_pos h0, if_pos h0]
        simp only [if_true]
        rw [if_pos (by omega), hw, specRest_l a b p xs hn (fun x h => (hx x h).1) d (m + 1) _ (by omega) (by simp; omega) k]
        refine ⟨k, Nat.le_refl _, ?_⟩
        simp [joinP]
      · rw [if_neg h0, if_neg h0]
        simp only
        rw [if_neg (by decide), q1, Option.bind_some, if_pos (by omega), Option.bind_some, if_pos (by simp; omega), hw, specRest_l a b p xs hn (fun x h => (hx x h).1) d (m + 1) _ (by omega) (by simp; omega) k]
        refine ⟨k, Nat.le_refl _, ?_⟩
        simp
theorem tableOk_len (a b : Int) (xs : List S48) : ∀ (k : Nat) (m : Int), impl_TableOk.l0 k xs xs (xs.length : Int) m a b = some true → xs.length ≤ 20 := by
  intro k
  induction k with
  | zero => intro m h; simp [impl_TableOk.l0] at h
  | succ k ih =>
    intro m h
    simp only [impl_TableOk.l0] at h
    by_cases h1 : m < (xs.length : Int)
    · rw [if_pos h1] at h
      by_cases h2 : 0 ≤ m
      · rw [if_pos h2, if_pos h1] at h
        obtain ⟨q, _, h⟩ := Option.bind_eq_some_iff.mp h
        cases q
        · exact absurd h (by simp)
        · rw [if_pos rfl] at h
          by_cases h3 : m > 0
          · rw [if_pos h3] at h
            by_cases h4 : 0 ≤ wrap64 (m - 1)
            · rw [if_pos h4] at h
              by_cases h5 : wrap64 (m - 1) < (xs.length : Int)
              · rw [if_pos h5] at h
                obtain ⟨c, _, h⟩ := Option.bind_eq_some_iff.mp h
                by_cases h6 : c ≥ 0
                · rw [if_pos h6] at h
                  exact absurd h (by simp)
                · rw [if_neg h6] at h
                  exact ih _ h
              · rw [if_neg h5] at h
                exact absurd h (by simp)
            · rw [if_neg h4] at h
              exact absurd h (by simp)
          · rw [if_neg h3] at h
            exact ih _ h
      · rw [if_neg h2] at h
        exact absurd h (by simp)
    · rw [if_neg h1] at h
      have h2 := of_decide_eq_true (Option.some.inj h)
      omega
/-- Both TableAdds. -/
theorem tableAdd_at (a b : Int) (p : S48) (hp : fitP p) (xs : List S48) (hn : xs.length ≤ 1048576) (hx : ∀ x ∈ xs, fitJ p x) (k : Nat) (hk : 10000000 < k) :
    ∃ (zs : List S48) (o : Bool), spec_TableAdd.f k a b xs p.f0 p.f1 p.f2 = some (zs, o) ∧ impl_TableAdd.f k a b xs p.f0 p.f1 p.f2 = some (zs, o) ∧ (zs = xs ∧ o = false ∨ zs = addZ p xs ∧ o = true ∧ zs.length ≤ 20) := by
  have hf : ∀ x ∈ xs, fitP x := fun x h => (hx x h).1
  have hzf : ∀ z ∈ addZ p xs, fitP z := by
    intro z hz
    rcases addZ_mem p xs z hz with rfl | h | ⟨x, h, rfl⟩
    · exact hp
    · exact hf z h
    · obtain ⟨⟨f1, f2⟩, f3⟩ := hx x h
      have := joinOf_len x.f2 p.f2
      exact ⟨f1, by show (joinOf x.f2 p.f2).length ≤ _; omega⟩
  have hzl := addZ_len p xs
  obtain ⟨q1, q2⟩ := partOk_at a b p.f0 p.f1 p.f2 (by have := hp.1; omega) (by have := hp.2; omega) k (by have := hp.1; have := hp.2; omega)
  obtain ⟨q2, q3⟩ := q2
  obtain ⟨_, y2⟩ := copyPart_at _ hp
  obtain ⟨t1, t2⟩ := copyTable_at xs (by omega) hf k (by omega)
  obtain ⟨r, r1, r2⟩ := tableOk_l a b (addZ p xs) (by omega) hzf (addZ p xs).length k 0 (by omega) (by omega)
  have r2' : impl_TableOk.f k a b (addZ p xs) = some r := r2
  have i1 := implPos_at p xs (by omega) k (by omega)
  obtain ⟨j, hj, e⟩ := specAdd_l a b p hp xs (by omega) hx xs.length 0 [] (by omega) (by simp) (k - (2 * xs.length + 1)) (by omega)
  rw [show 2 * xs.length + 1 + (k - (2 * xs.length + 1)) = k by omega] at e
  have e' : spec_TableAdd.f k a b xs p.f0 p.f1 p.f2 = spec_TableAdd.j2 j xs (addZ p xs) a b p.f0 p.f1 p.f2 := by
    unfold spec_TableAdd.f
    refine Eq.trans e ?_
    simp
  obtain ⟨j, rfl⟩ : ∃ q, j = q + 1 := ⟨j - 1, by omega⟩
  obtain ⟨s, s1, s2⟩ := tableOk_l a b (addZ p xs) (by omega) hzf (addZ p xs).length j 0 (by omega) (by omega)
  have s1' : spec_TableOk.f j a b (addZ p xs) = some s := s1
  obtain ⟨q4, q5, q6⟩ := partOk_at a b p.f0 p.f1 p.f2 (by have := hp.1; omega) (by have := hp.2; omega) j (by have := hp.1; have := hp.2; omega)
  obtain ⟨t3, _⟩ := copyTable_at xs (by omega) hf j (by omega)
  have hrs : r = s := by
    rcases Nat.le_total k j with h | h
    · have := mono_le (fun k => impl_TableOk.mono a b (addZ p xs) k) r2' h
      have s2' : impl_TableOk.f j a b (addZ p xs) = some s := s2
      exact Option.some.inj (this.symm.trans s2')
    · have s2' : impl_TableOk.f j a b (addZ p xs) = some s := s2
      have := mono_le (fun k => impl_TableOk.mono a b (addZ p xs) k) s2' h
      exact Option.some.inj (r2'.symm.trans this)
  have hq : q1 = q4 := by
    rcases Nat.le_total k j with h | h
    · exact Option.some.inj ((mono_le (fun k => impl_PartOk.mono a b p.f0 p.f1 p.f2 k) q3 h).symm.trans q6)
    · exact Option.some.inj (q3.symm.trans (mono_le (fun k => impl_PartOk.mono a b p.f0 p.f1 p.f2 k) q6 h))
  subst hrs
  subst hq
  rw [e']
  simp only [spec_TableAdd.j2, s1', q5, t3, Option.bind_some]
  have hfin : impl_TableAdd.fin k a b xs (addZ p xs) = some (if r = true then (addZ p xs, true) else (xs, false)) := by
    unfold impl_TableAdd.fin
    rw [r2', Option.bind_some, t2, Option.bind_some]
    cases r <;> rfl
  have hadd : q1 = true → impl_TableAdd.f k a b xs p.f0 p.f1 p.f2 = some (if r = true then (addZ p xs, true) else (xs, false)) := by
    intro hq1
    unfold impl_TableAdd.f
    rw [q3, hq1, Option.bind_some, if_pos rfl, t2, Option.bind_some, i1, Option.bind_some]
    have hple := posZ_le p xs
    have ins : (∀ h : posZ p xs < xs.length, cmpP xs[posZ p xs] p ≠ 0) → ((impl_copyPart.f p.f0 p.f1 p.f2).bind fun y => (if xs.length < 2932031007402 then (impl_TableAdd.fin k a b xs (xs.take ((posZ p xs : Nat) : Int).toNat ++ (⟨y.1, y.2.1, y.2.2⟩ : S48) :: xs.drop ((posZ p xs : Nat) : Int).toNat)) else (none))) = some (if r = true then (addZ p xs, true) else (xs, false)) := by
      intro h
      rw [y2, Option.bind_some, if_pos (by omega), Int.toNat_natCast]
      have := addZ_ins p xs h
      rw [← hfin, this]
    by_cases hl : posZ p xs < xs.length
    · have eg := rdP_get xs (posZ p xs) hl
      obtain ⟨c1, _⟩ := cmpP_at xs[posZ p xs] p
      obtain ⟨_, hjj⟩ := hx _ (List.getElem_mem hl)
      rw [if_pos (by omega), if_pos (by omega), eg, c1, Option.bind_some]
      by_cases h0 : cmpP xs[posZ p xs] p = 0
      · obtain ⟨_, m2⟩ := joinP_at xs[posZ p xs] p hjj k (by omega)
        rw [if_pos h0, m2, Option.bind_some, if_pos h0, Int.toNat_natCast]
        have := addZ_join p xs hl h0
        rw [← hfin, this]
        rfl
      · rw [if_neg h0]
        exact ins (fun _ => h0)
    · rw [if_neg (by omega)]
      exact ins (fun h => absurd h hl)
  cases hq1 : q1
  · have hi : impl_TableAdd.f k a b xs p.f0 p.f1 p.f2 = some (xs, false) := by
      unfold impl_TableAdd.f
      rw [q3, hq1, Option.bind_some, if_neg (by decide), t2]
      rfl
    refine ⟨xs, false, ?_, hi, .inl ⟨rfl, rfl⟩⟩
    cases r <;> simp
  · rw [hadd hq1]
    cases r
    · exact ⟨xs, false, by simp, by simp, .inl ⟨rfl, rfl⟩⟩
    · exact ⟨addZ p xs, true, by simp, by simp, .inr ⟨rfl, rfl, tableOk_len a b (addZ p xs) k _ r2⟩⟩
theorem heldIntS_l (xs : List Int) (a : Int) (h0 : 0 ≤ a) (ha : a + (xs.length : Int) ≤ 9223372036854775807) : ∀ (d k m : Nat), m + d = xs.length → xs.drop m = marks (a + (m : Int)) d → d < k →
    laws_heldIntS.l0 k xs (a + (m : Int)) (m : Int) = some (a + (xs.length : Int)) := by
  intro d
  induction d with
  | zero =>
    intro k m hd hx hk
    obtain ⟨k, rfl⟩ : ∃ q, k = q + 1 := ⟨k - 1, by omega⟩
    simp only [laws_heldIntS.l0]
    rw [if_neg (by omega)]
    obtain rfl : m = xs.length := by omega
    rfl
  | succ d ih =>
    intro k m hd hx hk
    obtain ⟨k, rfl⟩ : ∃ q, k = q + 1 := ⟨k - 1, by omega⟩
    rw [drop_at xs m (by omega), marks] at hx
    obtain ⟨h1, h2⟩ := List.cons.inj hx
    simp only [laws_heldIntS.l0]
    rw [if_pos (by omega), if_pos (by omega), if_pos h1, wn (n := xs.length) (by omega) (by omega), wi h0 ha (by omega), ih k (m + 1) (by omega) (by rw [h2]; congr 1; omega) (by omega)]
theorem heldIntS_at (n : Nat) (a : Int) (h0 : 0 ≤ a) (ha : a + (n : Int) ≤ 9223372036854775807) (k : Nat) (hk : n < k) : laws_heldIntS.f k (marks a n) a = some (a + (n : Int)) := by
  unfold laws_heldIntS.f
  have hl := marks_length n a
  have := heldIntS_l (marks a n) a h0 (by omega) n k 0 (by omega) (by simp) hk
  rw [hl] at this
  simpa using this
theorem heldPartS_l (zs : List S48) (hn : zs.length ≤ 1048576) : ∀ (d k m : Nat) (a : Int) (ys : List S48), ys.length = d → zs.drop m = markedP a ys → m + d = zs.length → d + 1048700 < k → (∀ x ∈ ys, fitP x) → 1 ≤ a → a + 2000000 * (d : Int) ≤ 4611686018427387904 →
    laws_heldPartS.l0 k zs a (m : Int) = some (endP a ys) := by
  intro d
  induction d with
  | zero =>
    intro k m a ys hy hz hd hk hf h1 ha
    obtain ⟨k, rfl⟩ : ∃ q, k = q + 1 := ⟨k - 1, by omega⟩
    obtain rfl : ys = [] := List.length_eq_zero_iff.1 hy
    simp only [laws_heldPartS.l0]
    rw [if_neg (by omega)]
    rfl
  | succ d ih =>
    intro k m a ys hy hz hd hk hf h1 ha
    obtain ⟨k, rfl⟩ : ∃ q, k = q + 1 := ⟨k - 1, by omega⟩
    cases ys with
    | nil => simp at hy
    | cons y ys =>
      have hfy := (hf y List.mem_cons_self).2
      rw [dropP_at zs m (by omega), markedP] at hz
      obtain ⟨z1, z2⟩ := List.cons.inj hz
      have w1 : wrap64 (a + 1) = a + 1 := by unfold wrap64; omega
      have w2 : wrap64 (a + 1 + 1) = a + 2 := by unfold wrap64; omega
      have hend : ¬ a + 2 + (y.f2.length : Int) < 0 := by omega
      simp only [laws_heldPartS.l0]
      rw [if_pos (by omega), if_pos (by omega), z1]
      simp only [if_true]
      rw [w1, markText_at (a + 1) (by omega) (by omega) k (by omega), Option.bind_some, if_pos rfl, w2, heldIntS_at _ (a + 2) (by omega) (by omega) k (by omega), Option.bind_some, if_neg hend, wn (n := zs.length) (by omega) (by omega)]
      rw [ih k (m + 1) _ ys (by simpa using hy) z2 (by omega) (by omega) (fun x h => hf x (List.mem_cons_of_mem _ h)) (by omega) (by omega)]
      rfl
theorem heldPartS_at (ys : List S48) (hn : ys.length ≤ 1048576) (hf : ∀ x ∈ ys, fitP x) (k : Nat) (hk : ys.length + 1048700 < k) :
    laws_heldPartS.f k (markedP 1 ys) 1 = some (endP 1 ys) := by
  unfold laws_heldPartS.f
  have hl := markedP_len ys 1
  exact heldPartS_l (markedP 1 ys) (by omega) ys.length k 0 1 ys rfl (by simp) (by omega) hk hf (by omega) (by omega)
theorem szPartS_l2 (xs : List S41) (hn : xs.length ≤ 9223372036854775807) (hx : ∀ x ∈ xs, ok41 x) : ∀ (d k m : Nat) (a : Int), m + d = xs.length → d < k → 0 ≤ a ∧ a ≤ 1048576 →
    ∃ t, laws_szPartS.l0 k xs a (m : Int) = some t ∧ (t < 0 ∨ (0 ≤ t ∧ t ≤ a ∧ ∀ x ∈ xs.drop m, fitP (cvP x) ∧ t + (x.f2.length : Int) ≤ a)) := by
  intro d
  induction d with
  | zero =>
    intro k m a hd hk ha
    obtain ⟨k, rfl⟩ : ∃ q, k = q + 1 := ⟨k - 1, by omega⟩
    have hA : ¬ (m : Int) < (xs.length : Int) := by omega
    refine ⟨a, by simp only [laws_szPartS.l0, if_neg hA], Or.inr ⟨ha.1, Int.le_refl _, ?_⟩⟩
    rw [List.drop_of_length_le (by omega)]
    intro x h; cases h
  | succ d ih =>
    intro k m a hd hk ha
    obtain ⟨k, rfl⟩ : ∃ q, k = q + 1 := ⟨k - 1, by omega⟩
    have hA : (m : Int) < (xs.length : Int) := by omega
    have hB : (0 : Int) ≤ (m : Int) := by omega
    have hw : wrap64 ((m : Int) + 1) = ((m + 1 : Nat) : Int) := wn (n := xs.length) (by omega) hn
    have ho := part_ok (hx _ (rdL_mem xs m (by omega)))
    obtain ⟨t, ht, h⟩ := szPart_at (rd_T41 xs (m : Int)).f0 (rd_T41 xs (m : Int)).f1 (rd_T41 xs (m : Int)).f2 a ho.1 ho.2 ha
    by_cases h0 : t < 0
    · exact ⟨-1, by simp only [laws_szPartS.l0, if_pos hA, if_pos hB, ht, Option.bind_some, if_pos h0], Or.inl (by omega)⟩
    · obtain ⟨t', ht', h'⟩ := ih k (m + 1) t (by omega) (by omega) (by omega)
      refine ⟨t', by simp only [laws_szPartS.l0, if_pos hA, if_pos hB, ht, Option.bind_some, if_neg h0, hw]; exact ht', ?_⟩
      rcases h' with h' | ⟨g1, g2, h'⟩
      · exact Or.inl h'
      · refine Or.inr ⟨g1, by omega, ?_⟩
        rw [dropL_at xs m (by omega)]
        intro x hx'
        rcases List.mem_cons.1 hx' with rfl | hx'
        · refine ⟨⟨?_, ?_⟩, by omega⟩
          · show (rd_T41 xs (m : Int)).f1.size ≤ 1048576
            omega
          · show (rd_T41 xs (m : Int)).f2.length ≤ 1048576
            omega
        · obtain ⟨q1, q2⟩ := h' x hx'
          exact ⟨q1, by omega⟩
theorem szPartS_at2 (xs : List S41) (hn : xs.length ≤ maxLen) (hx : ∀ x ∈ xs, ok41 x) (k : Nat) (hk : xs.length < k) :
    ∃ t, laws_szPartS.f k xs 1048576 = some t ∧ (t < 0 ∨ (0 ≤ t ∧ t + (xs.length : Int) ≤ 1048576 ∧ ∀ x ∈ xs, fitP (cvP x) ∧ t + (x.f2.length : Int) ≤ 1048576)) := by
  unfold laws_szPartS.f
  have h1 := len_ok hn
  rw [wsub (by omega) (by omega) (by omega)]
  by_cases h : (1048576 : Int) - (xs.length : Int) < 0
  · exact ⟨_, by rw [if_pos h], .inl (by omega)⟩
  · rw [if_neg h]
    obtain ⟨t, ht, h'⟩ := szPartS_l2 xs h1 hx xs.length k 0 (1048576 - (xs.length : Int)) (by omega) hk ⟨by omega, by omega⟩
    refine ⟨t, ht, ?_⟩
    rcases h' with h' | ⟨g1, g2, h'⟩
    · exact .inl h'
    · rw [List.drop_zero] at h'
      refine .inr ⟨g1, by omega, fun x hx => ?_⟩
      obtain ⟨q1, q2⟩ := h' x hx
      exact ⟨q1, by omega⟩
theorem markPart_at (v : Int) (s : ByteArray) (l : List Int) (a : Int) (h0 : 0 ≤ a) (ha : a + (l.length : Int) ≤ 9223372036854775807) (k : Nat) (hk : l.length < k) :
    laws_markPart.f k v s l a = some (a + (l.length : Int), marks a l.length) := by
  unfold laws_markPart.f
  rw [markIntS_at l a h0 ha k hk]; rfl
theorem endP_le : ∀ (xs : List S48) (a : Int), (∀ x ∈ xs, fitP x) → endP a xs ≤ a + 2000000 * (xs.length : Int)
  | [], a, _ => by simp [endP]
  | x :: xs, a, h => by
    have := endP_le xs (a + 2 + (x.f2.length : Int)) (fun y hy => h y (List.mem_cons_of_mem _ hy))
    have h2 := (h x List.mem_cons_self).2
    unfold endP
    simp only [List.length_cons]
    omega
theorem Pure.FnExactTableAdd : StatFnExactTableAdd := by
  intro a b xs v s l _ _ hx _ hs hl
  obtain ⟨k, hk⟩ : ∃ k, xs.length + 20000000 < k := ⟨_, Nat.lt_succ_self _⟩
  refine ⟨k, ?_⟩
  unfold laws_FnExactTableAdd.f
  obtain ⟨t, ht, h⟩ := szPartS_at2 xs hx.1 hx.2 k (by omega)
  by_cases h0 : t < 0
  · simp [ht, h0]
  obtain ⟨g1, g2, g3⟩ : 0 ≤ t ∧ t + (xs.length : Int) ≤ 1048576 ∧ ∀ x ∈ xs, fitP (cvP x) ∧ t + (x.f2.length : Int) ≤ 1048576 := by
    rcases h with h | h
    · exact absurd h h0
    · exact h
  obtain ⟨t', ht', h'⟩ := szPart_at v s l t hs hl.1 ⟨g1, by omega⟩
  by_cases h0' : t' < 0
  · simp [ht, h0, ht', h0']
  have hp1 : s.size ≤ 1048576 := by omega
  have hp2 : (l.length : Int) ≤ t := by omega
  have hpf : fitP (⟨v, s, l⟩ : S48) := ⟨hp1, by show l.length ≤ 1048576; omega⟩
  have hg : ∀ x ∈ xs.map cvP, fitP x := by
    intro x hm
    obtain ⟨y, hy, rfl⟩ := List.mem_map.1 hm
    exact (g3 y hy).1
  have hj : ∀ x ∈ xs.map cvP, fitJ (⟨v, s, l⟩ : S48) x := by
    intro x hm
    obtain ⟨y, hy, rfl⟩ := List.mem_map.1 hm
    obtain ⟨q1, q2⟩ := g3 y hy
    exact ⟨q1, by show y.f2.length + l.length ≤ 1048576; omega⟩
  have hln : (xs.map cvP).length = xs.length := List.length_map _
  have hmore : 1048576 < xs.length + 1 → False ∨ xs.length = 1048576 := fun _ => .inr (by omega)
  have e1 := toPartS_at xs (by omega) (fun x h => (g3 x h).1) k (by omega)
  have e1p := toPart_at v s l (by omega) k (by omega)
  have e2 := eqPartS_refl (xs.map cvP) (by omega) hg k (by omega)
  have e2p := eqPart_refl v s l (by omega) k (by omega)
  obtain ⟨zs, o, s1, s2, hz⟩ := tableAdd_at a b (⟨v, s, l⟩ : S48) hpf (xs.map cvP) (by omega) hj k (by omega)
  have s1' : spec_TableAdd.f k a b (xs.map cvP) v s l = some (zs, o) := s1
  have s2' : impl_TableAdd.f k a b (xs.map cvP) v s l = some (zs, o) := s2
  have hzl : zs.length ≤ 1048576 := by
    rcases hz with ⟨rfl, _⟩ | ⟨_, _, h⟩
    · omega
    · omega
  have hzf : ∀ x ∈ zs, fitP x := by
    rcases hz with ⟨rfl, _⟩ | ⟨rfl, _, _⟩
    · exact hg
    · intro z hz
      rcases addZ_mem _ _ z hz with rfl | h | ⟨x, h, rfl⟩
      · exact hpf
      · exact hg z h
      · obtain ⟨⟨f1, f2⟩, f3⟩ := hj x h
        have := joinOf_len x.f2 l
        exact ⟨f1, by show (joinOf x.f2 l).length ≤ _; have f3' : x.f2.length + l.length ≤ 1048576 := f3; omega⟩
  have e3 := markPartS_at (xs.map cvP) (by omega) hg k (by omega)
  have b0 := endP_ge (xs.map cvP) 1
  have b9 := endP_le (xs.map cvP) 1 hg
  have e3p := markPart_at v s l (endP 1 (xs.map cvP)) (by omega) (by omega) k (by omega)
  have e4 := eqPartS_refl zs hzl hzf k (by omega)
  have e5 := markPartS_at zs hzl hzf k (by omega)
  have e6 := heldPartS_at zs hzl hzf k (by omega)
  have b1 : ¬ endP 1 (xs.map cvP) + (l.length : Int) < 0 := by omega
  have b2 : ¬ endP 1 zs < 0 := by have := endP_ge zs 1; omega
  have no : (o != o) = false := by cases o <;> rfl
  have tc : laws_toConf.f a b = some (a, b) := rfl
  simp only [ht, ht', Option.bind_some, if_neg h0, if_neg h0', tc, e1, e1p, s1', s2', e4, no, Bool.false_eq_true, if_false, e2, e2p, e3, e3p, if_neg b1, e5, e6, if_neg b2, if_true]
end Go.Proofs.YtdmjhgogljhfkaaGreatDoor.PFnExactTableAdd
