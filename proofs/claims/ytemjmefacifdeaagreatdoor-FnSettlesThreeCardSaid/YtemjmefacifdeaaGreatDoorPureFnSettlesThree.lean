/- The law FnSettlesThree over bytes: whatever the code, behind the third block of a chain without gaps the first is settled, and so on. No condition but the code's kind. -/
import Derived.Test.YtemjmefacifdeaaGreatDoorStatFnSettlesThree
namespace Go.Proofs.YtemjmefacifdeaaGreatDoor.PFnSettlesThree
open Go.RowKit Go.Proofs.YtemjmefacifdeaaGreatDoorW.PrintWords Go.Proofs.YtemjmefacifdeaaGreatDoorW.PrintLast
set_option linter.unusedVariables false
set_option linter.unusedSimpArgs false
theorem wn {m n : Nat} (h : m < n) (hn : n ≤ 9223372036854775807) : wrap64 ((m : Int) + 1) = ((m + 1 : Nat) : Int) := by unfold wrap64; omega
theorem wi {a : Int} {n : Nat} (h0 : 0 ≤ a) (h : a + (n : Int) ≤ 9223372036854775807) : ∀ {m : Nat}, m < n → wrap64 (a + (m : Int) + 1) = a + ((m + 1 : Nat) : Int) := by
  intro m hm
  unfold wrap64
  omega
theorem len_ok {n : Nat} (h : n ≤ maxLen) : n ≤ 9223372036854775807 := by unfold maxLen at h; omega
theorem set_take {α : Type} (l : List α) (n : Nat) (x : α) (h : n < l.length) : (l.set n x).take (n + 1) = l.take n ++ [x] := by
  rw [List.take_succ_eq_append_getElem (by simpa using h), List.take_set_of_le (Nat.le_refl _)]
  simp
theorem drop_at (l : List Int) (n : Nat) (h : n < l.length) : l.drop n = rd l (n : Int) :: l.drop (n + 1) := by
  rw [List.drop_eq_getElem_cons h]
  simp [rd, List.getD_eq_getElem?_getD, List.getElem?_eq_getElem h]
/-- n numbers that follow each other, from a on. -/
def marks (a : Int) : Nat → List Int
  | 0 => []
  | n + 1 => a :: marks (a + 1) n
theorem marks_length : ∀ (n : Nat) (a : Int), (marks a n).length = n
  | 0, _ => rfl
  | n + 1, a => by simp [marks, marks_length n]
/-- A text out of its bytes. -/
def mkS (l : List UInt8) : ByteArray := ⟨l.toArray⟩
theorem mkS_list (l : List UInt8) : (mkS l).data.toList = l := by simp [mkS]
theorem mkS_toList (l : List UInt8) : (mkS l).toList = l := by rw [Lib.toList_data, mkS_list]
theorem mkS_size (l : List UInt8) : (mkS l).size = l.length := by simp [mkS, ByteArray.size]
theorem mkS_of (s : ByteArray) : mkS s.data.toList = s := by
  obtain ⟨⟨l⟩⟩ := s
  rfl
theorem len_size (s : ByteArray) : s.data.toList.length = s.size := by
  obtain ⟨⟨l⟩⟩ := s
  rfl
theorem s_ext {s t : ByteArray} (h : s.data.toList = t.data.toList) : s = t := by rw [← mkS_of s, ← mkS_of t, h]
theorem bt_nat (s : ByteArray) (m : Nat) (h : m < s.size) : bt s (m : Int) = ((s.data.toList[m]'(by rw [len_size]; exact h)).toNat : Int) := by
  unfold bt
  rw [dif_pos (show ((m : Int)).toNat < s.size by simpa using h)]
  simp only [Int.toNat_natCast]
  rfl
theorem drop_byte (s : ByteArray) (m : Nat) (h : m < s.size) : ∃ b : UInt8, s.data.toList.drop m = b :: s.data.toList.drop (m + 1) ∧ bt s (m : Int) = (b.toNat : Int) :=
  ⟨s.data.toList[m]'(by rw [len_size]; exact h), List.drop_eq_getElem_cons (by rw [len_size]; exact h), bt_nat s m h⟩
theorem u8_inj {a b : UInt8} : (a.toNat : Int) = (b.toNat : Int) ↔ a = b := by
  constructor
  · intro h; exact UInt8.toNat_inj.1 (by omega)
  · rintro rfl; rfl
/-- A list cut at the first such byte. -/
def cutL (c : UInt8) : List UInt8 → Option (List UInt8 × List UInt8)
  | [] => none
  | b :: l => if b = c then some ([], l) else (cutL c l).map fun p => (b :: p.1, p.2)
theorem cutL_some {c : UInt8} : ∀ {l : List UInt8} {p : List UInt8 × List UInt8}, cutL c l = some p → l = p.1 ++ c :: p.2 ∧ c ∉ p.1
  | [], _, h => by simp [cutL] at h
  | b :: l, p, h => by
    unfold cutL at h
    by_cases hb : b = c
    · rw [if_pos hb] at h
      obtain rfl := Option.some.inj h
      exact ⟨by simp [hb], by simp⟩
    · rw [if_neg hb] at h
      obtain ⟨q, hq, rfl⟩ := Option.map_eq_some_iff.1 h
      obtain ⟨e, hn⟩ := cutL_some hq
      exact ⟨by simp [← e], by simp [hn, Ne.symm hb]⟩
theorem cutL_none {c : UInt8} : ∀ {l : List UInt8}, cutL c l = none → c ∉ l
  | [], _ => by simp
  | b :: l, h => by
    unfold cutL at h
    by_cases hb : b = c
    · rw [if_pos hb] at h; cases h
    · rw [if_neg hb, Option.map_eq_none_iff] at h
      simp [cutL_none h, Ne.symm hb]
theorem cutL_app {c : UInt8} {l r : List UInt8} (h : c ∉ l) : cutL c (l ++ c :: r) = some (l, r) := by
  induction l with
  | nil => simp [cutL]
  | cons b l ih =>
    have hb : ¬ b = c := fun e => h (by simp [e])
    simp only [List.cons_append]
    unfold cutL
    rw [if_neg hb, ih (fun hm => h (List.mem_cons_of_mem _ hm))]
    rfl
theorem indexByte_cut (c : UInt8) : ∀ l : List UInt8, match cutL c l with
    | some p => Lib.indexByte l c = (p.1.length : Int)
    | none => Lib.indexByte l c = -1
  | [] => rfl
  | b :: l => by
    have ih := indexByte_cut c l
    unfold cutL Lib.indexByte
    by_cases hb : b = c
    · simp [hb]
    · rw [if_neg hb, if_neg (by simpa using hb)]
      cases hc : cutL c l with
      | none => rw [hc] at ih; simp at ih; simp [ih]
      | some p =>
        rw [hc] at ih
        simp only [Option.map_some] at ih ⊢
        rw [ih, if_neg (by simp)]
        simp
theorem libcut (c : UInt8) (l : List UInt8) : Lib.cut l [c] = match cutL c l with
    | some p => (p.1, p.2, true)
    | none => (l, [], false) := by
  have h := indexByte_cut c l
  unfold Lib.cut
  rw [Lib.index_one]
  cases hc : cutL c l with
  | none => rw [hc] at h; simp only at h; simp [h]
  | some p =>
    rw [hc] at h
    simp only at h
    obtain ⟨e, _⟩ := cutL_some hc
    rw [h, if_pos (by omega)]
    simp only [Int.toNat_natCast, List.length_singleton, Prod.mk.injEq, and_true]
    constructor
    · rw [e]; simp
    · rw [e, show p.1 ++ c :: p.2 = (p.1 ++ [c]) ++ p.2 by simp, List.drop_left' (by simp)]
def cutI (s : ByteArray) (c : UInt8) : ByteArray × ByteArray × Bool := match cutL c s.data.toList with
  | some p => (mkS p.1, mkS p.2, true)
  | none => (s, mkS [], false)
def cutS (s : ByteArray) (c : UInt8) : ByteArray × ByteArray × Bool := match cutL c s.data.toList with
  | some p => (mkS p.1, mkS p.2, true)
  | none => (mkS [], mkS [], false)
theorem implCut_at (s : ByteArray) (c : UInt8) (hs : s.size < 4294967281) : strings_Cut.f s (⟨#[c]⟩ : ByteArray) = some (cutI s c) := by
  unfold strings_Cut.f cutI
  rw [if_pos hs, show (⟨#[c]⟩ : ByteArray).data.toList = [c] from rfl, libcut]
  cases cutL c s.data.toList with
  | some p => rfl
  | none => simp [mkS]
theorem specCut_at (s : ByteArray) (c : UInt8) (hs : s.size < 4294967281) (k : Nat) (hk : s.size < k) : spec_l2Cut.f k s (c.toNat : Int) = some (cutS s c) := by
  have key : ∀ (d k m : Nat), m + d = s.size → d < k → (∀ p, cutL c s.data.toList = some p → m ≤ p.1.length) → cutL c s.data.toList = (cutL c (s.data.toList.drop m)).map (fun p => (s.data.toList.take m ++ p.1, p.2)) →
      spec_l2Cut.l0 k s (c.toNat : Int) (m : Int) = some (cutS s c) := by
    intro d
    induction d with
    | zero =>
      intro k m hd hk hm he
      obtain ⟨k, rfl⟩ : ∃ q, k = q + 1 := ⟨k - 1, by omega⟩
      simp only [spec_l2Cut.l0]
      rw [if_neg (by omega)]
      rw [List.drop_of_length_le (by rw [len_size]; omega)] at he
      unfold cutS
      rw [he]
      rfl
    | succ d ih =>
      intro k m hd hk hm he
      obtain ⟨k, rfl⟩ : ∃ q, k = q + 1 := ⟨k - 1, by omega⟩
      obtain ⟨b, hb, hbt⟩ := drop_byte s m (by omega)
      have hw : wrap64 ((m : Int) + 1) = ((m + 1 : Nat) : Int) := wn (n := s.size) (by omega) (by omega)
      simp only [spec_l2Cut.l0]
      rw [if_pos (by omega), if_pos (by omega), hbt]
      rw [hb, show cutL c (b :: s.data.toList.drop (m + 1)) = if b = c then some ([], s.data.toList.drop (m + 1)) else (cutL c (s.data.toList.drop (m + 1))).map (fun p => (b :: p.1, p.2)) from rfl] at he
      by_cases hc : b = c
      · rw [if_pos (u8_inj.2 hc), if_pos (by omega), hw, if_pos (by omega), if_pos (by omega)]
        rw [if_pos hc] at he
        unfold cutS
        rw [he]
        simp only [Option.map_some, List.append_nil, Int.toNat_natCast]
        rw [Lib.extract_eq, Lib.extract_eq]
        simp only [mkS, List.drop_zero, Nat.sub_zero, Int.toNat_natCast]
        rw [List.take_of_length_le (l := s.data.toList.drop (m + 1)) (by rw [List.length_drop, len_size]; omega)]
      · rw [if_neg (fun e => hc (u8_inj.1 e)), hw]
        rw [if_neg hc] at he
        have hl : m < s.data.toList.length := by rw [len_size]; omega
        have hg : b = s.data.toList[m] := by
          have := List.drop_eq_getElem_cons hl
          rw [hb] at this
          exact (List.cons.inj this).1
        refine ih k (m + 1) (by omega) (by omega) ?_ ?_
        · intro p hp
          rw [he] at hp
          obtain ⟨q, hq, rfl⟩ := Option.map_eq_some_iff.1 hp
          obtain ⟨q', _, rfl⟩ := Option.map_eq_some_iff.1 hq
          simp [len_size]; omega
        · rw [he, Option.map_map]
          congr 1
          funext p
          simp only [Function.comp, Prod.mk.injEq, and_true]
          rw [List.take_succ_eq_append_getElem hl, hg]
          simp
  have h0 := key s.size k 0 (by omega) hk (fun p _ => Nat.zero_le _) (by simp)
  unfold spec_l2Cut.f
  exact h0
/-- A list parted at each such byte. -/
def splitL (c : UInt8) : List UInt8 → List (List UInt8)
  | [] => [[]]
  | b :: l => if b = c then [] :: splitL c l else match splitL c l with
    | [] => [[b]]
    | h :: t => (b :: h) :: t
/-- What stands ahead is put ahead of the first part. -/
def glue (p : List UInt8) : List (List UInt8) → List (List UInt8)
  | [] => [p]
  | h :: t => (p ++ h) :: t
theorem splitL_ne (c : UInt8) : ∀ l, ∃ h t, splitL c l = h :: t
  | [] => ⟨[], [], rfl⟩
  | b :: l => by
    obtain ⟨h, t, e⟩ := splitL_ne c l
    unfold splitL
    by_cases hb : b = c
    · rw [if_pos hb]; exact ⟨_, _, rfl⟩
    · rw [if_neg hb, e]; exact ⟨_, _, rfl⟩
theorem splitL_eq (c : UInt8) (l : List UInt8) : splitL c (c :: l) = [] :: splitL c l := by rw [splitL, if_pos rfl]
theorem splitL_cons {b c : UInt8} (h : ¬ b = c) (l : List UInt8) : splitL c (b :: l) = glue [b] (splitL c l) := by
  obtain ⟨x, t, e⟩ := splitL_ne c l
  rw [splitL, if_neg h, e]
  rfl
theorem glue_nil {c : UInt8} {l : List UInt8} : glue [] (splitL c l) = splitL c l := by
  obtain ⟨x, t, e⟩ := splitL_ne c l
  rw [e]; rfl
theorem glue_glue (p q : List UInt8) {c : UInt8} {l : List UInt8} : glue p (glue q (splitL c l)) = glue (p ++ q) (splitL c l) := by
  obtain ⟨x, t, e⟩ := splitL_ne c l
  rw [e]; simp [glue]
theorem splitL_length (c : UInt8) : ∀ l : List UInt8, (splitL c l).length ≤ l.length + 1
  | [] => by simp [splitL]
  | b :: l => by
    have ih := splitL_length c l
    by_cases h : b = c
    · subst h; rw [splitL_eq]; simp; omega
    · obtain ⟨x, t, e⟩ := splitL_ne c l
      rw [splitL_cons h, e]
      rw [e] at ih
      simp [glue] at ih ⊢; omega
theorem splitL_part (c : UInt8) : ∀ (l : List UInt8) (p : List UInt8), p ∈ splitL c l → p.length ≤ l.length
  | [], p, h => by simp [splitL] at h; simp [h]
  | b :: l, p, h => by
    have ih := splitL_part c l
    by_cases hb : b = c
    · subst hb
      rw [splitL_eq] at h
      rcases List.mem_cons.1 h with rfl | h
      · simp
      · have := ih p h; simp; omega
    · obtain ⟨x, t, e⟩ := splitL_ne c l
      rw [splitL_cons hb, e] at h
      rcases List.mem_cons.1 h with rfl | h
      · have := ih x (by rw [e]; simp); simp; omega
      · have := ih p (by rw [e]; simp [h]); simp; omega
theorem splitL_cut (c : UInt8) : ∀ l : List UInt8, splitL c l = match cutL c l with
    | some p => p.1 :: splitL c p.2
    | none => [l]
  | [] => rfl
  | b :: l => by
    have ih := splitL_cut c l
    by_cases h : b = c
    · subst h; rw [splitL_eq]; simp [cutL]
    · rw [splitL_cons h, ih, show cutL c (b :: l) = (cutL c l).map (fun p => (b :: p.1, p.2)) by rw [cutL, if_neg h]]
      cases cutL c l <;> simp [glue]
def splitA (c : UInt8) (s : ByteArray) : List ByteArray := (splitL c s.data.toList).map mkS
theorem indexB_cut (c : UInt8) (s : ByteArray) : match cutL c s.data.toList with
    | some p => Lib.indexB s (⟨#[c]⟩ : ByteArray) = ((p.1.length : Nat) : Int)
    | none => Lib.indexB s (⟨#[c]⟩ : ByteArray) = -1 := by
  have h := indexByte_cut c s.data.toList
  show match cutL c s.data.toList with
    | some p => Lib.index s.data.toList [c] = ((p.1.length : Nat) : Int)
    | none => Lib.index s.data.toList [c] = -1
  rw [Lib.index_one]
  exact h
theorem libsplit (c : UInt8) : ∀ (n : Nat) (s : ByteArray), s.size ≤ n → Lib.splitB (⟨#[c]⟩ : ByteArray) 0 (Lib.countB s (⟨#[c]⟩ : ByteArray)) s = splitA c s := by
  intro n
  induction n with
  | zero =>
    intro s hs
    have h := indexB_cut c s
    have h0 : s.data.toList = [] := by apply List.eq_nil_of_length_eq_zero; rw [len_size]; omega
    rw [h0] at h
    simp only [cutL] at h
    rw [Lib.countB_miss s _ h, Lib.splitB_zero]
    unfold splitA
    rw [h0]
    simp only [splitL, List.map_cons, List.map_nil]
    rw [← h0, mkS_of]
  | succ n ih =>
    intro s hs
    have h := indexB_cut c s
    cases hc : cutL c s.data.toList with
    | none =>
      rw [hc] at h
      simp only at h
      rw [Lib.countB_miss s _ h, Lib.splitB_zero]
      unfold splitA
      rw [splitL_cut, hc]
      simp only [List.map_cons, List.map_nil]
      rw [mkS_of]
    | some p =>
      rw [hc] at h
      simp only at h
      obtain ⟨e, _⟩ := cutL_some hc
      have hsz : (⟨#[c]⟩ : ByteArray).size = 1 := rfl
      rw [Lib.countB_hit s _ p.1.length (by rw [hsz]; omega) h, Nat.add_comm 1, Lib.splitB_hit _ 0 _ s p.1.length h, hsz]
      have hl : s.size = p.1.length + 1 + p.2.length := by rw [← len_size, e]; simp; omega
      have e1 : s.extract 0 (p.1.length + 0) = mkS p.1 := s_ext (by rw [Lib.extract_data, mkS_list, e]; simp)
      have e2 : s.extract (p.1.length + 1) s.size = mkS p.2 := s_ext (by
        rw [Lib.extract_data, mkS_list, e, show p.1 ++ c :: p.2 = (p.1 ++ [c]) ++ p.2 by simp, List.drop_left' (by simp), List.take_of_length_le (by omega)])
      rw [e1, e2, ih (mkS p.2) (by rw [mkS_size]; omega)]
      unfold splitA
      rw [splitL_cut c s.data.toList, hc, mkS_list]
      rfl
theorem implSplit_at (s : ByteArray) (c : UInt8) (hs : s.size < 4294967281) : impl_Split.f s (c.toNat : Int) = some (splitA c s) := by
  have hc : strOfNums ([(c.toNat : Int)] : List Int) = (⟨#[c]⟩ : ByteArray) := by
    apply s_ext
    rw [strOfNums_data]
    simp
  unfold impl_Split.f strings_Split.f
  rw [hc, if_pos hs, if_pos (show 1 ≤ (⟨#[c]⟩ : ByteArray).size from Nat.le_refl 1), libsplit c s.size s (Nat.le_refl _)]
  rfl
theorem specSplit_at (s : ByteArray) (c : UInt8) (hs : s.size < 4294967281) (k : Nat) (hk : s.size + 2 < k) : spec_Split.f k s (c.toNat : Int) = some (splitA c s) := by
  have key : ∀ (d k m f : Nat) (out : List ByteArray), m + d = s.size → d + 2 < k → f ≤ m → out.length + d + 1 < 8796093022208 →
      spec_Split.l0 k s (c.toNat : Int) out (f : Int) (m : Int) = some (out ++ (glue ((s.data.toList.drop f).take (m - f)) (splitL c (s.data.toList.drop m))).map mkS) := by
    intro d
    induction d with
    | zero =>
      intro k m f out hd hk hf ho
      obtain ⟨k, rfl⟩ : ∃ q, k = q + 2 := ⟨k - 2, by omega⟩
      have hw : wrap64 ((m : Int) + 1) = ((m + 1 : Nat) : Int) := wn (n := m + 1) (by omega) (by omega)
      simp only [spec_Split.l0]
      rw [if_pos (show (m : Int) ≤ (s.size : Int) by omega), if_pos (show (m : Int) = (s.size : Int) by omega), if_pos (by omega), if_pos (by omega), if_pos (by omega), hw, if_neg (by omega)]
      rw [List.drop_of_length_le (i := m) (by rw [len_size]; omega)]
      simp only [splitL, glue, List.append_nil, List.map_cons, List.map_nil, Int.toNat_natCast]
      rw [Lib.extract_eq]
      rfl
    | succ d ih =>
      intro k m f out hd hk hf ho
      obtain ⟨k, rfl⟩ : ∃ q, k = q + 1 := ⟨k - 1, by omega⟩
      obtain ⟨b, hb, hbt⟩ := drop_byte s m (by omega)
      have hw : wrap64 ((m : Int) + 1) = ((m + 1 : Nat) : Int) := wn (n := s.size) (by omega) (by omega)
      have hl : m < s.data.toList.length := by rw [len_size]; omega
      have hg : s.data.toList[m] = b := by
        have := List.drop_eq_getElem_cons hl
        rw [hb] at this
        exact (List.cons.inj this).1.symm
      simp only [spec_Split.l0]
      rw [if_pos (show (m : Int) ≤ (s.size : Int) by omega), if_neg (show ¬ (m : Int) = (s.size : Int) by omega), if_pos (by omega), if_pos (by omega), hbt, hb]
      by_cases hc : b = c
      · subst hc
        rw [if_pos rfl, if_pos (by omega), if_pos (by omega), if_pos (by omega), hw, ih k (m + 1) (m + 1) _ (by omega) (by omega) (Nat.le_refl _) (by simp; omega), splitL_eq, Nat.sub_self, List.take_zero, glue_nil]
        simp only [glue, List.append_nil, List.map_cons, Int.toNat_natCast]
        rw [Lib.extract_eq]
        simp [mkS]
      · rw [if_neg (fun e => hc (u8_inj.1 e)), hw, ih k (m + 1) f _ (by omega) (by omega) (by omega) (by omega), splitL_cons hc, glue_glue]
        congr 4
        rw [show m + 1 - f = (m - f) + 1 by omega, List.take_succ_eq_append_getElem (by rw [List.length_drop]; omega), List.getElem_drop]
        congr 2
        rw [← hg]
        congr 1
        omega
  have h0 := key s.size k 0 0 [] (by omega) (by omega) (Nat.le_refl _) (by simp; omega)
  unfold spec_Split.f splitA
  simp only [Nat.sub_self, List.take_zero, List.drop_zero, glue_nil, List.nil_append] at h0
  exact h0
/-- A number's numeral. -/
def digS (n : Nat) : ByteArray := mkS (Lib.decDigits n)
theorem dig_isDigit (n : Nat) : ∀ b ∈ Lib.decDigits n, 48 ≤ b.toNat ∧ b.toNat ≤ 57 := by
  induction n using Nat.strongRecOn with
  | _ n ih =>
    intro b hb
    rw [Lib.decDigits] at hb
    by_cases h : n < 10
    · rw [dif_pos h] at hb
      obtain rfl := List.mem_singleton.1 hb
      rw [UInt8.toNat_ofNat']
      omega
    · rw [dif_neg h] at hb
      rcases List.mem_append.1 hb with hb | hb
      · exact ih (n / 10) (by omega) b hb
      · obtain rfl := List.mem_singleton.1 hb
        rw [UInt8.toNat_ofNat']
        omega
theorem dig_ne (n : Nat) (c : UInt8) (h : c.toNat < 48 ∨ 57 < c.toNat) : c ∉ Lib.decDigits n := fun hm => by
  have := dig_isDigit n c hm
  omega
theorem dig_len (j : Nat) : ∀ n, n < 10 ^ (j + 1) → (Lib.decDigits n).length ≤ j + 1 := by
  induction j with
  | zero => intro n h; rw [Lib.decDigits_one (by omega)]; simp
  | succ j ih =>
    intro n h
    rw [Lib.decDigits]
    by_cases h1 : n < 10
    · rw [dif_pos h1]; simp
    · rw [dif_neg h1]
      have := ih (n / 10) (by rw [Nat.pow_succ] at h; omega)
      simp only [List.length_append, List.length_singleton]; omega
theorem dig_pos (n : Nat) : 0 < (Lib.decDigits n).length := by
  rw [Lib.decDigits]
  split <;> simp
theorem implDigits_at (n : Nat) (h : n ≤ 9223372036854775807) : impl_Digits.f (n : Int) = some (digS n) := by
  unfold impl_Digits.f strconv_Itoa_134.f digS
  rw [if_pos (by omega), if_pos (by omega), Option.bind_some]
  unfold Lib.itoa
  rw [if_neg (by omega)]
  rfl
theorem specDigits_l : ∀ (j n k : Nat) (acc : ByteArray), n < 10 ^ j → n ≤ 9223372036854775807 → j < k → acc.size + j ≤ 1000 →
    spec_Digits.l0 k (n : Int) false acc = some (mkS ((if n = 0 then [] else Lib.decDigits n) ++ acc.data.toList)) := by
  intro j
  induction j with
  | zero =>
    intro n k acc h hn hk ha
    obtain ⟨k, rfl⟩ : ∃ q, k = q + 1 := ⟨k - 1, by omega⟩
    obtain rfl : n = 0 := by simpa using h
    simp only [spec_Digits.l0]
    simp [mkS_of]
  | succ j ih =>
    intro n k acc h hn hk ha
    obtain ⟨k, rfl⟩ : ∃ q, k = q + 1 := ⟨k - 1, by omega⟩
    simp only [spec_Digits.l0]
    by_cases h0 : n = 0
    · subst h0; simp [mkS_of]
    · have hm : Int.tmod (n : Int) 10 = ((n % 10 : Nat) : Int) := by rw [Int.tmod_eq_emod_of_nonneg (by omega)]; omega
      have hd : wrap64 (Int.tdiv (n : Int) 10) = ((n / 10 : Nat) : Int) := by
        rw [Int.tdiv_eq_ediv_of_nonneg (by omega)]
        unfold wrap64; omega
      have hw : wrap64 (48 + ((n % 10 : Nat) : Int)) % 256 = ((48 + n % 10 : Nat) : Int) := by unfold wrap64; omega
      rw [if_neg (by omega), hm, if_neg (by omega), Option.bind_some, hw, hd]
      have hs : (strOfNums [((48 + n % 10 : Nat) : Int)]).size = 1 := by rw [strOfNums_size]; rfl
      rw [if_pos (by rw [hs]; omega), ih (n / 10) k _ (by rw [Nat.pow_succ] at h; omega) (by omega) (by omega) (by rw [ByteArray.size_append, hs]; omega)]
      congr 2
      rw [if_neg h0]
      simp only [ByteArray.data_append, Array.toList_append, strOfNums_data, List.map_cons, List.map_nil, Int.toNat_natCast]
      by_cases h1 : n < 10
      · rw [if_pos (by omega), Lib.decDigits_one h1, Nat.mod_eq_of_lt h1]
        rfl
      · have e : Lib.decDigits n = Lib.decDigits (n / 10) ++ [UInt8.ofNat (48 + n % 10)] := by rw [Lib.decDigits, dif_neg h1]
        rw [if_neg (by omega), e]
        simp
theorem specDigits_at (n : Nat) (h : n < 10 ^ 20) (h' : n ≤ 9223372036854775807) (k : Nat) (hk : 20 < k) : spec_Digits.f k (n : Int) = some (digS n) := by
  unfold spec_Digits.f digS
  by_cases h0 : n = 0
  · subst h0
    rw [if_pos (show ((0 : Nat) : Int) = 0 from rfl), Lib.decDigits_one (by omega)]
    rfl
  · rw [if_neg (by omega), show decide ((n : Int) < 0) = false by simp, specDigits_l 20 n k _ h h' hk (by decide), if_neg h0]
    congr 2
    show Lib.decDigits n ++ [] = _
    simp
theorem num_w1 (n b : Int) (h0 : 0 ≤ n) (h1 : n < 1000000) (hb : 48 ≤ b) (hb2 : b ≤ 255) : wrap64 (wrap64 (wrap64 (10 * n) + wrap64 b) - 48) = 10 * n + (b - 48) := by
  have w1 : wrap64 (10 * n) = 10 * n := by unfold wrap64; omega
  have w2 : wrap64 b = b := by unfold wrap64; omega
  rw [w1, w2]
  have w3 : wrap64 (10 * n + b) = 10 * n + b := by unfold wrap64; omega
  rw [w3]
  unfold wrap64; omega
theorem num_w2 (n b : Int) (h0 : 0 ≤ n) (h1 : n < 1000000) (hb : 48 ≤ b) (hb2 : b ≤ 255) : wrap64 (wrap64 (10 * n) + (b - 48) % 256) = 10 * n + (b - 48) := by
  have w1 : wrap64 (10 * n) = 10 * n := by unfold wrap64; omega
  have w2 : (b - 48) % 256 = b - 48 := by omega
  rw [w1, w2]
  unfold wrap64; omega
/-- What both sides of Number tell. -/
theorem number_l (s : ByteArray) (h6 : s.size ≤ 6) : ∀ (d k m n : Nat), m + d = s.size → d + 25 < k → n < 10 ^ m →
    ∃ r : Int × Bool, spec_Number.l0 k s (n : Int) (m : Int) = some r ∧ impl_Number.l0 k s (n : Int) (m : Int) = some r ∧ ∃ q : Nat, r.1 = (q : Int) ∧ q < 1000000 ∧ (r.2 = true → s = digS q) := by
  intro d
  induction d with
  | zero =>
    intro k m n hd hk hn
    obtain ⟨k, rfl⟩ : ∃ q, k = q + 1 := ⟨k - 1, by omega⟩
    have hp : 10 ^ m ≤ 10 ^ 6 := Nat.pow_le_pow_right (by omega) (by omega)
    have hn6 : n < 1000000 := by omega
    have hs : spec_Number.l0 (k + 1) s (n : Int) (m : Int) = if (digS n).toList = s.toList then some ((n : Int), true) else some (0, false) := by
      simp only [spec_Number.l0]
      rw [if_neg (by omega), specDigits_at n (by omega) (by omega) k (by omega), Option.bind_some]
    have hi : impl_Number.l0 (k + 1) s (n : Int) (m : Int) = if (digS n).toList = s.toList then some ((n : Int), true) else some (0, false) := by
      simp only [impl_Number.l0]
      rw [if_neg (by omega), implDigits_at n (by omega), Option.bind_some]
    rw [hs, hi]
    by_cases h : (digS n).toList = s.toList
    · rw [if_pos h]
      refine ⟨_, rfl, rfl, n, rfl, hn6, fun _ => ?_⟩
      rw [Lib.toList_data, Lib.toList_data] at h
      exact (s_ext h).symm
    · rw [if_neg h]
      exact ⟨_, rfl, rfl, 0, rfl, by omega, fun e => by cases e⟩
  | succ d ih =>
    intro k m n hd hk hn
    obtain ⟨k, rfl⟩ : ∃ q, k = q + 1 := ⟨k - 1, by omega⟩
    have hp : 10 ^ m ≤ 10 ^ 6 := Nat.pow_le_pow_right (by omega) (by omega)
    have hn6 : (n : Int) < 1000000 := by omega
    obtain ⟨b, hb, hbt⟩ := drop_byte s m (by omega)
    have hw : wrap64 ((m : Int) + 1) = ((m + 1 : Nat) : Int) := wn (n := s.size) (by omega) (by omega)
    have hs : spec_Number.l0 (k + 1) s (n : Int) (m : Int) = if (b.toNat : Int) < 48 then some (0, false) else if (b.toNat : Int) > 57 then some (0, false) else spec_Number.l0 k s ((10 * n + (b.toNat - 48) : Nat) : Int) ((m + 1 : Nat) : Int) := by
      simp only [spec_Number.l0]
      rw [if_pos (by omega), if_pos (by omega), hbt, hw]
      by_cases h1 : (b.toNat : Int) < 48
      · rw [if_pos h1, if_pos h1]
      · have e1 : wrap64 (wrap64 (wrap64 (10 * (n : Int)) + wrap64 (b.toNat : Int)) - 48) = ((10 * n + (b.toNat - 48) : Nat) : Int) := by
          have := b.toNat_lt
          rw [num_w1 n b.toNat (by omega) hn6 (by omega) (by omega)]; omega
        rw [if_neg h1, if_neg h1, e1]
    have hi : impl_Number.l0 (k + 1) s (n : Int) (m : Int) = if (b.toNat : Int) < 48 then some (0, false) else if (b.toNat : Int) > 57 then some (0, false) else impl_Number.l0 k s ((10 * n + (b.toNat - 48) : Nat) : Int) ((m + 1 : Nat) : Int) := by
      simp only [impl_Number.l0]
      rw [if_pos (by omega), if_pos (by omega), hbt, hw]
      by_cases h1 : (b.toNat : Int) < 48
      · rw [if_pos h1, if_pos h1]
      · have e2 : wrap64 (wrap64 (10 * (n : Int)) + ((b.toNat : Int) - 48) % 256) = ((10 * n + (b.toNat - 48) : Nat) : Int) := by
          have := b.toNat_lt
          rw [num_w2 n b.toNat (by omega) hn6 (by omega) (by omega)]; omega
        rw [if_neg h1, if_neg h1, e2]
    rw [hs, hi]
    by_cases h1 : (b.toNat : Int) < 48
    · exact ⟨(0, false), by rw [if_pos h1], by rw [if_pos h1], 0, rfl, by omega, fun e => by cases e⟩
    · by_cases h2 : (b.toNat : Int) > 57
      · exact ⟨(0, false), by rw [if_neg h1, if_pos h2], by rw [if_neg h1, if_pos h2], 0, rfl, by omega, fun e => by cases e⟩
      · simp only [h1, h2, if_false]
        exact ih k (m + 1) _ (by omega) (by omega) (by rw [Nat.pow_succ]; omega)
theorem number_at (s : ByteArray) (k : Nat) (hk : 40 < k) : ∃ r : Int × Bool, spec_Number.f k s = some r ∧ impl_Number.f k s = some r ∧ ∃ q : Nat, r.1 = (q : Int) ∧ q < 1000000 ∧ (r.2 = true → s = digS q) := by
  unfold spec_Number.f impl_Number.f
  obtain ⟨k, rfl⟩ : ∃ q, k = q + 1 := ⟨k - 1, by omega⟩
  by_cases h1 : (s.size : Int) < 1
  · refine ⟨(0, false), ?_, ?_, 0, rfl, by omega, fun e => by cases e⟩
    · rw [if_pos h1]; simp [spec_Number.j0]
    · rw [if_pos h1]; simp [impl_Number.j0]
  · by_cases h2 : (s.size : Int) > 6
    · refine ⟨(0, false), ?_, ?_, 0, rfl, by omega, fun e => by cases e⟩
      · rw [if_neg h1]; simp only [spec_Number.j0]; rw [if_pos (decide_eq_true h2)]
      · rw [if_neg h1]; simp only [impl_Number.j0]; rw [if_pos (decide_eq_true h2)]
    · obtain ⟨r, e1, e2, e3⟩ := number_l s (by omega) s.size k 0 0 (by omega) (by omega) (by omega)
      refine ⟨r, ?_, ?_, e3⟩
      · rw [if_neg h1]; simp only [spec_Number.j0]; rw [if_neg (by simpa using h2)]; exact e1
      · rw [if_neg h1]; simp only [impl_Number.j0]; rw [if_neg (by simpa using h2)]; exact e2
def txB (a b c d : Nat) : Bool := decide ((a : Int) ≤ 3 ∧ (b : Int) ≤ 3 ∧ (c : Int) ≤ 1000 ∧ (d : Int) ≤ 99)
def txL (a b c d : Nat) : List UInt8 := Lib.decDigits a ++ 62 :: (Lib.decDigits b ++ 58 :: (Lib.decDigits c ++ 35 :: Lib.decDigits d))
theorem implTxOk_at (a b c d : Nat) : impl_TxOk.f (a : Int) (b : Int) (c : Int) (d : Int) = some (txB a b c d) := by
  unfold impl_TxOk.f impl_within.f txB
  rw [if_pos (by omega), if_pos (by omega), if_pos (by omega), if_pos (by omega)]
  by_cases h1 : (a : Int) ≤ 3 <;> by_cases h2 : (b : Int) ≤ 3 <;> by_cases h3 : (c : Int) ≤ 1000 <;> by_cases h4 : (d : Int) ≤ 99 <;> simp [h1, h2, h3, h4]
theorem specTxOk_at (a b c d : Nat) : spec_TxOk.f (a : Int) (b : Int) (c : Int) (d : Int) = some (txB a b c d) := implTxOk_at a b c d
theorem digS_size (n : Nat) (h : n < 1000000) : (digS n).size ≤ 6 := by
  unfold digS
  rw [mkS_size]
  exact dig_len 5 n h
theorem tx_join (a b c d : Nat) : ((((((digS a ++ (⟨#[62]⟩ : ByteArray)) ++ digS b) ++ (⟨#[58]⟩ : ByteArray)) ++ digS c) ++ (⟨#[35]⟩ : ByteArray)) ++ digS d) = mkS (txL a b c d) := by
  apply s_ext
  simp only [ByteArray.data_append, Array.toList_append, mkS_list, digS, txL]
  simp
theorem implTxText_at (a b c d : Nat) (ha : a < 1000000) (hb : b < 1000000) (hc : c < 1000000) (hd : d < 1000000) :
    impl_TxText.f (a : Int) (b : Int) (c : Int) (d : Int) = some (if txB a b c d = true then mkS (txL a b c d) else mkS []) := by
  have s1 := digS_size a ha
  have s2 := digS_size b hb
  have s3 := digS_size c hc
  have s4 := digS_size d hd
  have o1 : (⟨#[62]⟩ : ByteArray).size = 1 := rfl
  have o2 : (⟨#[58]⟩ : ByteArray).size = 1 := rfl
  have o3 : (⟨#[35]⟩ : ByteArray).size = 1 := rfl
  unfold impl_TxText.f
  rw [implTxOk_at, Option.bind_some]
  by_cases h : txB a b c d = true
  · rw [if_pos h, if_pos h, implDigits_at a (by omega), Option.bind_some, if_pos (by omega), implDigits_at b (by omega), Option.bind_some, if_pos (by simp only [ByteArray.size_append]; omega), if_pos (by simp only [ByteArray.size_append]; omega),
      implDigits_at c (by omega), Option.bind_some, if_pos (by simp only [ByteArray.size_append]; omega), if_pos (by simp only [ByteArray.size_append]; omega), implDigits_at d (by omega), Option.bind_some, if_pos (by simp only [ByteArray.size_append]; omega), tx_join]
  · rw [if_neg h, if_neg h]; rfl
theorem specTxText_at (a b c d : Nat) (ha : a < 1000000) (hb : b < 1000000) (hc : c < 1000000) (hd : d < 1000000) (k : Nat) (hk : 20 < k) :
    spec_TxText.f k (a : Int) (b : Int) (c : Int) (d : Int) = some (if txB a b c d = true then mkS (txL a b c d) else mkS []) := by
  have s1 := digS_size a ha
  have s2 := digS_size b hb
  have s3 := digS_size c hc
  have s4 := digS_size d hd
  have o1 : (⟨#[62]⟩ : ByteArray).size = 1 := rfl
  have o2 : (⟨#[58]⟩ : ByteArray).size = 1 := rfl
  have o3 : (⟨#[35]⟩ : ByteArray).size = 1 := rfl
  have p : (1000000 : Nat) ≤ 10 ^ 20 := by decide
  unfold spec_TxText.f
  rw [specTxOk_at, Option.bind_some]
  by_cases h : txB a b c d = true
  · rw [if_pos h, if_pos h, specDigits_at a (by omega) (by omega) k hk, Option.bind_some, if_pos (by omega), specDigits_at b (by omega) (by omega) k hk, Option.bind_some, if_pos (by simp only [ByteArray.size_append]; omega), if_pos (by simp only [ByteArray.size_append]; omega),
      specDigits_at c (by omega) (by omega) k hk, Option.bind_some, if_pos (by simp only [ByteArray.size_append]; omega), if_pos (by simp only [ByteArray.size_append]; omega), specDigits_at d (by omega) (by omega) k hk, Option.bind_some, if_pos (by simp only [ByteArray.size_append]; omega), tx_join]
  · rw [if_neg h, if_neg h]; rfl
/-- What is told of a text and four numbers. -/
def tell (s : ByteArray) (a b c d : Nat) : Int × Int × Int × Int × Bool := if txB a b c d = true ∧ txL a b c d = s.data.toList then ((a : Int), (b : Int), (c : Int), (d : Int), true) else (0, 0, 0, 0, false)
theorem tell_eq (s : ByteArray) (a b c d : Nat) (h : mkS (txL a b c d) = s) : txL a b c d = s.data.toList := by rw [← h, mkS_list]
theorem txL_chain (a b c d : Nat) : cutL 62 (txL a b c d) = some (Lib.decDigits a, Lib.decDigits b ++ 58 :: (Lib.decDigits c ++ 35 :: Lib.decDigits d)) ∧
    cutL 58 (Lib.decDigits b ++ 58 :: (Lib.decDigits c ++ 35 :: Lib.decDigits d)) = some (Lib.decDigits b, Lib.decDigits c ++ 35 :: Lib.decDigits d) ∧ cutL 35 (Lib.decDigits c ++ 35 :: Lib.decDigits d) = some (Lib.decDigits c, Lib.decDigits d) :=
  ⟨cutL_app (dig_ne a 62 (by decide)), cutL_app (dig_ne b 58 (by decide)), cutL_app (dig_ne c 35 (by decide))⟩
theorem implTxOf_core (s x1 x2 x3 y1 y2 y3 : ByteArray) (b1 b2 b3 : Bool) (k : Nat) (hk : 40 < k) (h1 : strings_Cut.f s (⟨#[62]⟩ : ByteArray) = some (x1, y1, b1)) (h2 : strings_Cut.f y1 (⟨#[58]⟩ : ByteArray) = some (x2, y2, b2)) (h3 : strings_Cut.f y2 (⟨#[35]⟩ : ByteArray) = some (x3, y3, b3))
    (a b c d : Nat) (ha : a < 1000000) (hb : b < 1000000) (hc : c < 1000000) (hd : d < 1000000) (m1 m2 m3 m4 : Bool)
    (n1 : impl_Number.f k x1 = some ((a : Int), m1)) (n2 : impl_Number.f k x2 = some ((b : Int), m2)) (n3 : impl_Number.f k x3 = some ((c : Int), m3)) (n4 : impl_Number.f k y3 = some ((d : Int), m4)) : impl_TxOf.f k s = some (tell s a b c d) := by
  unfold impl_TxOf.f tell
  rw [h1, Option.bind_some]; dsimp only
  rw [h2, Option.bind_some]; dsimp only
  rw [h3, Option.bind_some]; dsimp only
  rw [n1, Option.bind_some, n2, Option.bind_some, n3, Option.bind_some, n4, Option.bind_some]; dsimp only
  rw [implTxOk_at, Option.bind_some, implTxText_at a b c d ha hb hc hd]
  by_cases h : txB a b c d = true
  · rw [if_pos h, Option.bind_some, if_pos h, mkS_toList, Lib.toList_data]
    by_cases e : txL a b c d = s.data.toList
    · rw [if_pos e, if_pos ⟨h, e⟩]
    · rw [if_neg e, if_neg (fun x => e x.2)]
  · rw [if_neg h, if_neg (fun x => h x.1)]
theorem specTxOf_core (s x1 x2 x3 y1 y2 y3 : ByteArray) (b1 b2 b3 : Bool) (k : Nat) (hk : 40 < k) (h1 : spec_l2Cut.f k s 62 = some (x1, y1, b1)) (h2 : spec_l2Cut.f k y1 58 = some (x2, y2, b2)) (h3 : spec_l2Cut.f k y2 35 = some (x3, y3, b3))
    (a b c d : Nat) (ha : a < 1000000) (hb : b < 1000000) (hc : c < 1000000) (hd : d < 1000000) (m1 m2 m3 m4 : Bool)
    (n1 : spec_Number.f k x1 = some ((a : Int), m1)) (n2 : spec_Number.f k x2 = some ((b : Int), m2)) (n3 : spec_Number.f k x3 = some ((c : Int), m3)) (n4 : spec_Number.f k y3 = some ((d : Int), m4)) : spec_TxOf.f k s = some (tell s a b c d) := by
  unfold spec_TxOf.f tell
  rw [h1, Option.bind_some]; dsimp only
  rw [h2, Option.bind_some]; dsimp only
  rw [h3, Option.bind_some]; dsimp only
  rw [n1, Option.bind_some, n2, Option.bind_some, n3, Option.bind_some, n4, Option.bind_some]; dsimp only
  rw [specTxText_at a b c d ha hb hc hd k (by omega), Lib.toList_data]
  by_cases e0 : s.data.toList = []
  · rw [if_pos e0, if_neg]
    rintro ⟨_, x⟩
    rw [e0] at x
    have := dig_pos a
    simp [txL] at x
  · rw [if_neg e0, Option.bind_some]
    by_cases h : txB a b c d = true
    · rw [if_pos h, mkS_toList]
      by_cases e : txL a b c d = s.data.toList
      · rw [if_pos e, if_pos ⟨h, e⟩]
      · rw [if_neg e, if_neg (fun x => e x.2)]
    · rw [if_neg h, mkS_toList, if_neg (fun x => e0 x.symm), if_neg (fun x => h x.1)]
theorem num_of (x : ByteArray) (k : Nat) (hk : 40 < k) : ∃ (a : Nat) (m : Bool), a < 1000000 ∧ spec_Number.f k x = some ((a : Int), m) ∧ impl_Number.f k x = some ((a : Int), m) := by
  obtain ⟨⟨r, m⟩, e1, e2, q, rfl, hq, _⟩ := number_at x k hk
  exact ⟨q, m, hq, e1, e2⟩
/-- A text that lacks one of the three signs, in their order, is no payment's. -/
theorem tell_none (s : ByteArray) (h : ∀ p1 p2 p3, cutL 62 s.data.toList = some p1 → cutL 58 p1.2 = some p2 → cutL 35 p2.2 = some p3 → False) (a b c d : Nat) : tell s a b c d = (0, 0, 0, 0, false) := by
  unfold tell
  rw [if_neg]
  rintro ⟨_, e⟩
  obtain ⟨c1, c2, c3⟩ := txL_chain a b c d
  rw [e] at c1
  exact h _ _ _ c1 c2 c3
theorem txOf_at (s : ByteArray) (hs : s.size < 4294967281) (k : Nat) (hk : s.size + 41 < k) : ∃ r, spec_TxOf.f k s = some r ∧ impl_TxOf.f k s = some r := by
  have both : ∀ (x1 x2 x3 y1 y2 y3 x1' x2' x3' y1' y2' y3' : ByteArray) (b1 b2 b3 b1' b2' b3' : Bool),
      spec_l2Cut.f k s 62 = some (x1, y1, b1) → spec_l2Cut.f k y1 58 = some (x2, y2, b2) → spec_l2Cut.f k y2 35 = some (x3, y3, b3) →
      strings_Cut.f s (⟨#[62]⟩ : ByteArray) = some (x1', y1', b1') → strings_Cut.f y1' (⟨#[58]⟩ : ByteArray) = some (x2', y2', b2') → strings_Cut.f y2' (⟨#[35]⟩ : ByteArray) = some (x3', y3', b3') →
      ((∀ a b c d : Nat, tell s a b c d = (0, 0, 0, 0, false)) ∨ (x1 = x1' ∧ x2 = x2' ∧ x3 = x3' ∧ y3 = y3')) → ∃ r, spec_TxOf.f k s = some r ∧ impl_TxOf.f k s = some r := by
    intro x1 x2 x3 y1 y2 y3 x1' x2' x3' y1' y2' y3' b1 b2 b3 b1' b2' b3' h1 h2 h3 g1 g2 g3 hor
    rcases hor with ht | ⟨rfl, rfl, rfl, rfl⟩
    · obtain ⟨a, m1, ha, n1, _⟩ := num_of x1 k (by omega)
      obtain ⟨b, m2, hb, n2, _⟩ := num_of x2 k (by omega)
      obtain ⟨c, m3, hc, n3, _⟩ := num_of x3 k (by omega)
      obtain ⟨d, m4, hd, n4, _⟩ := num_of y3 k (by omega)
      obtain ⟨a', m1', ha', _, n1'⟩ := num_of x1' k (by omega)
      obtain ⟨b', m2', hb', _, n2'⟩ := num_of x2' k (by omega)
      obtain ⟨c', m3', hc', _, n3'⟩ := num_of x3' k (by omega)
      obtain ⟨d', m4', hd', _, n4'⟩ := num_of y3' k (by omega)
      refine ⟨(0, 0, 0, 0, false), ?_, ?_⟩
      · rw [specTxOf_core s x1 x2 x3 y1 y2 y3 b1 b2 b3 k (by omega) h1 h2 h3 a b c d ha hb hc hd m1 m2 m3 m4 n1 n2 n3 n4, ht]
      · rw [implTxOf_core s x1' x2' x3' y1' y2' y3' b1' b2' b3' k (by omega) g1 g2 g3 a' b' c' d' ha' hb' hc' hd' m1' m2' m3' m4' n1' n2' n3' n4', ht]
    · obtain ⟨a, m1, ha, n1, n1'⟩ := num_of x1 k (by omega)
      obtain ⟨b, m2, hb, n2, n2'⟩ := num_of x2 k (by omega)
      obtain ⟨c, m3, hc, n3, n3'⟩ := num_of x3 k (by omega)
      obtain ⟨d, m4, hd, n4, n4'⟩ := num_of y3 k (by omega)
      exact ⟨_, specTxOf_core s x1 x2 x3 y1 y2 y3 b1 b2 b3 k (by omega) h1 h2 h3 a b c d ha hb hc hd m1 m2 m3 m4 n1 n2 n3 n4, implTxOf_core s x1 x2 x3 y1' y2' y3 b1' b2' b3' k (by omega) g1 g2 g3 a b c d ha hb hc hd m1 m2 m3 m4 n1' n2' n3' n4'⟩
  have sz0 : (mkS []).size = 0 := rfl
  have sp : ∀ {c : UInt8} {l : List UInt8} {p : List UInt8 × List UInt8}, cutL c l = some p → (mkS p.1).size ≤ l.length ∧ (mkS p.2).size ≤ l.length := by
    intro c l p h
    obtain ⟨e, _⟩ := cutL_some h
    rw [mkS_size, mkS_size, e]
    simp; omega
  have cS : ∀ (x : ByteArray) (c : UInt8), (cutS x c).2.1.size ≤ x.size := by
    intro x c
    unfold cutS
    cases h : cutL c x.data.toList with
    | none => simp only; rw [sz0]; omega
    | some p => simp only; have := (sp h).2; rw [len_size] at this; exact this
  have cI : ∀ (x : ByteArray) (c : UInt8), (cutI x c).2.1.size ≤ x.size := by
    intro x c
    unfold cutI
    cases h : cutL c x.data.toList with
    | none => simp only; rw [sz0]; omega
    | some p => simp only; have := (sp h).2; rw [len_size] at this; exact this
  have k1 := cS s 62
  have k2 := cS (cutS s 62).2.1 58
  have i1 := cI s 62
  have i2 := cI (cutI s 62).2.1 58
  refine both _ _ _ _ _ _ _ _ _ _ _ _ _ _ _ _ _ _ (specCut_at s 62 hs k (by omega)) (specCut_at (cutS s 62).2.1 58 (by omega) k (by omega)) (specCut_at (cutS (cutS s 62).2.1 58).2.1 35 (by omega) k (by omega))
    (implCut_at s 62 hs) (implCut_at (cutI s 62).2.1 58 (by omega)) (implCut_at (cutI (cutI s 62).2.1 58).2.1 35 (by omega)) ?_
  by_cases hn : ∃ p1 p2 p3, cutL 62 s.data.toList = some p1 ∧ cutL 58 p1.2 = some p2 ∧ cutL 35 p2.2 = some p3
  rotate_left
  · exact Or.inl (tell_none s (fun p1 p2 p3 x1 x2 x3 => hn ⟨p1, p2, p3, x1, x2, x3⟩))
  · right
    obtain ⟨p1, p2, p3, e1, e2, e3⟩ := hn
    have a1 : cutS s 62 = (mkS p1.1, mkS p1.2, true) := by unfold cutS; rw [e1]
    have a2 : cutI s 62 = (mkS p1.1, mkS p1.2, true) := by unfold cutI; rw [e1]
    have a3 : cutS (mkS p1.2) 58 = (mkS p2.1, mkS p2.2, true) := by unfold cutS; rw [mkS_list, e2]
    have a4 : cutI (mkS p1.2) 58 = (mkS p2.1, mkS p2.2, true) := by unfold cutI; rw [mkS_list, e2]
    have a5 : cutS (mkS p2.2) 35 = (mkS p3.1, mkS p3.2, true) := by unfold cutS; rw [mkS_list, e3]
    have a6 : cutI (mkS p2.2) 35 = (mkS p3.1, mkS p3.2, true) := by unfold cutI; rw [mkS_list, e3]
    simp only [a1, a2, a3, a4, a5, a6, mkS_list, e1, e2, e3, and_self]
theorem rdOf_mem {α : Type} (d : α) (xs : List α) (m : Nat) (h : m < xs.length) : rdOf d xs (m : Int) ∈ xs := by
  unfold rdOf
  simp [List.getD_eq_getElem?_getD, List.getElem?_eq_getElem h]
theorem splitA_size (c : UInt8) (s : ByteArray) : ∀ p ∈ splitA c s, p.size ≤ s.size := by
  intro p hp
  unfold splitA at hp
  obtain ⟨l, hl, rfl⟩ := List.mem_map.1 hp
  rw [mkS_size, ← len_size]
  exact splitL_part c _ l hl
theorem splitA_length (c : UInt8) (s : ByteArray) : (splitA c s).length ≤ s.size + 1 := by
  unfold splitA
  rw [List.length_map, ← len_size]
  exact splitL_length c _
theorem txsOf_l (ps : List ByteArray) (hL : ps.length < 1000000000000) (B : Nat) (hB : B < 4294967281) (hp : ∀ p ∈ ps, p.size ≤ B) : ∀ (d k m : Nat) (out : List (S99)), m + d = ps.length → d + B + 42 < k → out.length + d < 4398046511104 →
    ∃ r, spec_TxsOf.l0 k out ps (m : Int) = some r ∧ impl_TxsOf.l0 k out ps (ps.length : Int) (m : Int) = some r ∧ r.1.length ≤ out.length + d := by
  intro d
  induction d with
  | zero =>
    intro k m out hd hk ho
    obtain ⟨k, rfl⟩ : ∃ q, k = q + 1 := ⟨k - 1, by omega⟩
    refine ⟨(out, true), ?_, ?_, Nat.le_refl _⟩
    · simp only [spec_TxsOf.l0]; rw [if_neg (by omega)]
    · simp only [impl_TxsOf.l0]; rw [if_neg (by omega)]
  | succ d ih =>
    intro k m out hd hk ho
    obtain ⟨k, rfl⟩ : ∃ q, k = q + 1 := ⟨k - 1, by omega⟩
    have hs := hp _ (rdOf_mem ByteArray.empty ps m (by omega))
    obtain ⟨⟨a, b, c, e, ok⟩, h1, h2⟩ := txOf_at (rdOf ByteArray.empty ps (m : Int)) (by omega) k (by omega)
    have hw : wrap64 ((m : Int) + 1) = ((m + 1 : Nat) : Int) := wn (n := ps.length) (by omega) (by omega)
    have e1 : spec_TxsOf.l0 (k + 1) out ps (m : Int) = if ok = true then spec_TxsOf.l0 k (out ++ [⟨a, b, c, e⟩]) ps ((m + 1 : Nat) : Int) else some ([], false) := by
      simp only [spec_TxsOf.l0]
      rw [if_pos (by omega), if_pos (by omega), h1, Option.bind_some, hw, if_pos (show out.length < 4398046511104 by omega)]
    have e2 : impl_TxsOf.l0 (k + 1) out ps (ps.length : Int) (m : Int) = if ok = true then impl_TxsOf.l0 k (out ++ [⟨a, b, c, e⟩]) ps (ps.length : Int) ((m + 1 : Nat) : Int) else some ([], false) := by
      simp only [impl_TxsOf.l0]
      rw [if_pos (show (m : Int) < (ps.length : Int) by omega), if_pos (by omega), if_pos (by omega), h2, Option.bind_some, hw, if_pos (show out.length < 4398046511104 by omega)]
    rw [e1, e2]
    by_cases h : ok = true
    · rw [if_pos h, if_pos h]
      obtain ⟨r, r1, r2, r3⟩ := ih k (m + 1) (out ++ [⟨a, b, c, e⟩]) (by omega) (by omega) (by simp; omega)
      exact ⟨r, r1, r2, by simp at r3; omega⟩
    · rw [if_neg h, if_neg h]
      exact ⟨([], false), rfl, rfl, by simp⟩
theorem txsOf_at (s : ByteArray) (hs : s.size < 100000000) (k : Nat) (hk : 2 * s.size + 50 < k) : ∃ r, spec_TxsOf.f k s = some r ∧ impl_TxsOf.f k s = some r ∧ r.1.length ≤ s.size + 1 := by
  unfold spec_TxsOf.f impl_TxsOf.f
  rw [Option.bind_some]
  by_cases h : s.toList = []
  · rw [if_pos h, if_pos h]; exact ⟨_, rfl, rfl, by simp⟩
  · have g1 := specSplit_at s 44 (by omega) k (by omega)
    have g2 := implSplit_at s 44 (by omega)
    rw [show ((44 : UInt8).toNat : Int) = 44 from rfl] at g1 g2
    have hl := splitA_length 44 s
    rw [if_neg h, if_neg h, g1, g2, Option.bind_some, Option.bind_some]
    obtain ⟨r, r1, r2, r3⟩ := txsOf_l (splitA 44 s) (by omega) s.size (by omega) (splitA_size 44 s) (splitA 44 s).length k 0 [] (by omega) (by omega) (by simp; omega)
    exact ⟨r, r1, r2, by simp at r3; omega⟩
theorem rdOf_drop (ps : List ByteArray) (m : Nat) : rdOf ByteArray.empty (ps.drop 1) (m : Int) = rdOf ByteArray.empty ps ((m + 1 : Nat) : Int) := by
  unfold rdOf
  simp [List.getD_eq_getElem?_getD, Nat.add_comm]
theorem cut_both (s : ByteArray) (c : UInt8) : ((cutS s c).2.2 = (cutI s c).2.2) ∧ ((cutS s c).2.2 = true → cutS s c = cutI s c) ∧ (cutS s c).1.size ≤ s.size ∧ (cutS s c).2.1.size ≤ s.size ∧ (cutI s c).1.size ≤ s.size ∧ (cutI s c).2.1.size ≤ s.size := by
  unfold cutS cutI
  cases h : cutL c s.data.toList with
  | none => exact ⟨rfl, (fun x => by cases x), Nat.zero_le _, Nat.zero_le _, Nat.le_refl _, Nat.zero_le _⟩
  | some p =>
    obtain ⟨e, _⟩ := cutL_some h
    have hl : s.size = p.1.length + 1 + p.2.length := by rw [← len_size, e]; simp; omega
    exact ⟨rfl, fun _ => rfl, by simp only [mkS_size]; omega, by simp only [mkS_size]; omega, by simp only [mkS_size]; omega, by simp only [mkS_size]; omega⟩
theorem steps_l (ps : List ByteArray) (hL : ps.length < 1000000000000) (B : Nat) (hB : B < 100000000) (hp : ∀ p ∈ ps, p.size ≤ B) : ∀ (d k m : Nat) (out : List (S112)) (last : Nat), m + 1 + d = ps.length → d + 2 * B + 60 < k → out.length + d < 4398046511104 → last < 1000000 → (∀ e ∈ out, (1 : Int) ≤ e.f0) →
    ∃ r, spec_Steps.l0 k [] out ps (last : Int) ((m + 1 : Nat) : Int) = some r ∧ impl_Steps.l0 k out (last : Int) (ps.drop 1) ((ps.drop 1).length : Int) (m : Int) = some r ∧ (r.2 = false → r.1 = []) ∧ r.1.length ≤ out.length + d ∧ (r.2 = true → r.1.length = out.length + d) ∧ ∀ e ∈ r.1, (1 : Int) ≤ e.f0 := by
  intro d
  induction d with
  | zero =>
    intro k m out last hd hk ho hlast ho1
    obtain ⟨k, rfl⟩ : ∃ q, k = q + 1 := ⟨k - 1, by omega⟩
    refine ⟨(out, true), ?_, ?_, (fun x => by cases x), Nat.le_refl _, fun _ => rfl, ho1⟩
    · simp only [spec_Steps.l0]; rw [if_neg (by omega)]
    · simp only [impl_Steps.l0]; rw [if_neg (by rw [List.length_drop]; omega)]
  | succ d ih =>
    intro k m out last hd hk ho hlast ho1
    obtain ⟨k, rfl⟩ : ∃ q, k = q + 1 := ⟨k - 1, by omega⟩
    have hs := hp _ (rdOf_mem ByteArray.empty ps (m + 1) (by omega))
    generalize hx : rdOf ByteArray.empty ps ((m + 1 : Nat) : Int) = x at hs
    obtain ⟨hok, hsame, z1, z2, z3, z4⟩ := cut_both x 124
    have g1 := specCut_at x 124 (by omega) k (by omega)
    have g2 := implCut_at x 124 (by omega)
    rw [show ((124 : UInt8).toNat : Int) = 124 from rfl] at g1
    obtain ⟨q1, m1, hq1, n1, n1'⟩ := num_of (cutS x 124).1 k (by omega)
    obtain ⟨q2, m2, hq2, n2, n2'⟩ := num_of (cutI x 124).1 k (by omega)
    obtain ⟨t1, v1, v1', w1⟩ := txsOf_at (cutS x 124).2.1 (by omega) k (by omega)
    obtain ⟨t2, v2, v2', w2⟩ := txsOf_at (cutI x 124).2.1 (by omega) k (by omega)
    have hlen : out.length < 4398046511104 := by omega
    obtain ⟨HW, HX, HY⟩ : Aside0 (wrap64 (((m + 1 : Nat) : Int) + 1) = ((m + 1 + 1 : Nat) : Int)) ∧ Aside0 (wrap64 ((m : Int) + 1) = ((m + 1 : Nat) : Int)) ∧ Aside0 (wrap64 ((last : Int) + 1) = (last : Int) + 1) := ⟨⟨wn (n := ps.length) (by omega) (by omega)⟩, ⟨wn (n := ps.length) (by omega) (by omega)⟩, ⟨by unfold wrap64; omega⟩⟩
    have hdl : (ps.drop 1).length = ps.length - 1 := by rw [List.length_drop]
    have e1 : spec_Steps.l0 (k + 1) [] out ps (last : Int) ((m + 1 : Nat) : Int) = if (cutS x 124).2.2 = true then (if m1 = true then (if t1.2 = true then (if (q1 : Int) ≤ (last : Int) then some ([], false) else (if (q1 : Int) > 60 then some ([], false) else (if (t1.1.length : Int) > 2 then some ([], false) else spec_Steps.l0 k [] (out ++ [⟨(q1 : Int), t1.1⟩]) ps (q1 : Int) ((m + 1 + 1 : Nat) : Int)))) else some ([], false)) else some ([], false)) else some ([], false) := by
      simp only [spec_Steps.l0]
      rw [if_pos (by omega), if_pos (by omega), hx, g1, Option.bind_some, n1, Option.bind_some, v1, Option.bind_some, HW.out, if_pos hlen]
    have e2 : impl_Steps.l0 (k + 1) out (last : Int) (ps.drop 1) ((ps.drop 1).length : Int) (m : Int) = if (cutI x 124).2.2 = true then (if m2 = true then (if t2.2 = true then (if (q2 : Int) ≥ (last : Int) + 1 ∧ (q2 : Int) ≤ 60 then (if (t2.1.length : Int) > 2 then some ([], false) else impl_Steps.l0 k (out ++ [⟨(q2 : Int), t2.1⟩]) (q2 : Int) (ps.drop 1) ((ps.drop 1).length : Int) ((m + 1 : Nat) : Int)) else some ([], false)) else some ([], false)) else some ([], false)) else some ([], false) := by
      simp only [impl_Steps.l0]
      rw [if_pos (by rw [hdl]; omega), if_pos (by omega), if_pos (by rw [hdl]; omega), rdOf_drop, hx, g2, Option.bind_some, n2', Option.bind_some, v2', Option.bind_some, HX.out, if_pos hlen, HY.out]
      unfold impl_within.f
      by_cases a1 : (q2 : Int) ≥ (last : Int) + 1
      · by_cases a2 : (q2 : Int) ≤ 60
        · rw [if_pos a1, Option.bind_some, if_pos (decide_eq_true a2), if_pos (show (q2 : Int) ≥ (last : Int) + 1 ∧ (q2 : Int) ≤ 60 from ⟨a1, a2⟩)]
        · rw [if_pos a1, Option.bind_some, if_neg (show ¬ (decide ((q2 : Int) ≤ 60) = true) by simpa using a2), if_neg (show ¬ ((q2 : Int) ≥ (last : Int) + 1 ∧ (q2 : Int) ≤ 60) from fun h => a2 h.2)]
      · rw [if_neg a1, Option.bind_some, if_neg (show ¬ (false = true) by decide), if_neg (show ¬ ((q2 : Int) ≥ (last : Int) + 1 ∧ (q2 : Int) ≤ 60) from fun h => a1 h.1)]
    rw [e1, e2, ← hok]
    have bad : ∃ r : List (S112) × Bool, some (([] : List (S112)), false) = some r ∧ some (([] : List (S112)), false) = some r ∧ (r.2 = false → r.1 = []) ∧ r.1.length ≤ out.length + (d + 1) ∧ (r.2 = true → r.1.length = out.length + (d + 1)) ∧ ∀ e ∈ r.1, (1 : Int) ≤ e.f0 := ⟨_, rfl, rfl, fun _ => rfl, by simp, (fun x => by cases x), by simp⟩
    by_cases c0 : (cutS x 124).2.2 = true
    · have es := hsame c0
      rw [← es] at n2' v2'
      obtain ⟨rfl, rfl⟩ : q1 = q2 ∧ m1 = m2 := by
        rw [n1'] at n2'
        simp only [Option.some.injEq, Prod.mk.injEq] at n2'
        exact ⟨by omega, n2'.2⟩
      obtain rfl : t1 = t2 := by
        rw [v1'] at v2'
        exact Option.some.inj v2'
      simp only [c0, if_true]
      by_cases c1 : m1 = true
      · simp only [c1, if_true]
        by_cases c2 : t1.2 = true
        · simp only [c2, if_true]
          by_cases c3 : (q1 : Int) ≤ (last : Int)
          · rw [if_pos c3, if_neg (by omega)]; exact bad
          · rw [if_neg c3]
            by_cases c4 : (q1 : Int) > 60
            · rw [if_pos c4, if_neg (by omega)]; exact bad
            · have c6 : (q1 : Int) ≥ (last : Int) + 1 ∧ (q1 : Int) ≤ 60 := ⟨by omega, by omega⟩
              rw [if_neg c4, if_pos c6]
              by_cases c5 : (t1.1.length : Int) > 2
              · rw [if_pos c5, if_pos c5]; exact bad
              · rw [if_neg c5, if_neg c5]
                have ho2 : ∀ e ∈ out ++ [(⟨(q1 : Int), t1.1⟩ : S112)], (1 : Int) ≤ e.f0 := by
                  intro e he
                  rcases List.mem_append.1 he with h | h
                  · exact ho1 e h
                  · rw [List.mem_singleton.1 h]
                    show (1 : Int) ≤ (q1 : Int)
                    omega
                obtain ⟨r, r1, r2, r3, r4, r5, r6⟩ := ih k (m + 1) (out ++ [⟨(q1 : Int), t1.1⟩]) q1 (by omega) (by omega) (by simp; omega) hq1 ho2
                exact ⟨r, r1, r2, r3, by simp at r4; omega, (fun h => by have := r5 h; simp at this; omega), r6⟩
        · simp only [c2, if_false]; exact bad
      · simp only [c1, if_false]; exact bad
    · simp only [c0, if_false]; exact bad
theorem steps_at (s : ByteArray) (hs : s.size < 100000000) (k : Nat) (hk : 3 * s.size + 80 < k) :
    ∃ r, spec_Steps.f k s = some r ∧ impl_Steps.f k s = some r ∧ (r.2 = false → r.1 = []) ∧ r.1.length ≤ s.size + 1 ∧ (r.2 = true → s.data.toList = [] ∨ ∃ l, s.data.toList = 47 :: l) ∧ (s.data.toList = [] → r = ([], true)) ∧ (r.2 = true → s.data.toList ≠ [] → 0 < r.1.length) ∧ ∀ e ∈ r.1, (1 : Int) ≤ e.f0 := by
  unfold spec_Steps.f impl_Steps.f
  rw [Option.bind_some, Option.bind_some, Lib.toList_data]
  by_cases h : s.data.toList = []
  · rw [if_pos h, if_pos h]; exact ⟨_, rfl, rfl, (fun x => by cases x), by simp, fun _ => Or.inl h, fun _ => rfl, fun _ x => absurd h x, by simp⟩
  · have g1 := specSplit_at s 47 (by omega) k (by omega)
    have g2 := implSplit_at s 47 (by omega)
    rw [show ((47 : UInt8).toNat : Int) = 47 from rfl] at g1 g2
    have hl := splitA_length 47 s
    have hp : 0 < (splitA 47 s).length := by
      obtain ⟨x, t, e⟩ := splitL_ne 47 s.data.toList
      unfold splitA; rw [e]; simp
    have hpi : 0 < ((splitA 47 s).length : Int) := by omega
    rw [if_neg h, if_neg h, g1, g2, Option.bind_some, Option.bind_some, if_pos hpi, if_pos hpi]
    obtain ⟨k, rfl⟩ : ∃ q, k = q + 1 := ⟨k - 1, by omega⟩
    have bad1 : ∀ t, spec_Steps.j0 (k + 1) [] [] t true = some ([], false) := fun t => by simp [spec_Steps.j0]
    have bad2 : ∀ t, impl_Steps.j0 (k + 1) t true = some ([], false) := fun t => by simp [impl_Steps.j0]
    by_cases h0 : (rdOf ByteArray.empty (splitA 47 s) 0).toList = []
    · have h47 : ∃ l, s.data.toList = 47 :: l := by
        unfold splitA rdOf at h0
        rw [splitL_cut] at h0
        cases hc : cutL 47 s.data.toList with
        | none => rw [hc] at h0; simp [mkS_toList] at h0; exact absurd h0 (by simpa using h)
        | some p =>
          rw [hc] at h0
          obtain ⟨e, _⟩ := cutL_some hc
          simp [mkS_toList] at h0
          rw [h0] at e
          exact ⟨p.2, by simpa using e⟩
      have h2 : 2 ≤ (splitA 47 s).length := by
        unfold splitA rdOf at h0
        unfold splitA
        rw [splitL_cut] at h0 ⊢
        cases hc : cutL 47 s.data.toList with
        | none => rw [hc] at h0; simp [mkS_toList] at h0; exact absurd h0 (by simpa using h)
        | some p =>
          obtain ⟨x, t, e⟩ := splitL_ne 47 p.2
          simp [e]
      rw [if_pos h0, if_pos h0]
      have hw : wrap64 (((splitA 47 s).length : Int) - 1) = ((splitA 47 s).length : Int) - 1 := by unfold wrap64; omega
      by_cases h31 : ((splitA 47 s).length : Int) > 31
      · rw [decide_eq_true h31, hw, decide_eq_true (show ((splitA 47 s).length : Int) - 1 > 30 by omega), bad1, bad2]
        exact ⟨_, rfl, rfl, fun _ => rfl, by simp, (fun x => by cases x), (fun x => absurd x h), (fun x => by cases x), by simp⟩
      · rw [decide_eq_false h31, hw, decide_eq_false (show ¬ ((splitA 47 s).length : Int) - 1 > 30 by omega)]
        obtain ⟨r, r1, r2, r3, r4, r5, r6⟩ := steps_l (splitA 47 s) (by omega) s.size hs (splitA_size 47 s) ((splitA 47 s).length - 1) k 0 [] 0 (by omega) (by omega) (by simp; omega) (by omega) (by simp)
        refine ⟨r, ?_, ?_, r3, by simp at r4; omega, (fun _ => Or.inr h47), (fun x => absurd x h), (fun x _ => by have := r5 x; simp at this; omega), r6⟩
        · simp only [spec_Steps.j0]
          rw [if_neg (by simp)]
          exact r1
        · simp only [impl_Steps.j0]
          rw [if_neg (by simp), if_pos (by omega), Option.bind_some]
          exact r2
    · rw [if_neg h0, if_neg h0, bad1, bad2]
      exact ⟨_, rfl, rfl, fun _ => rfl, by simp, (fun x => by cases x), (fun x => absurd x h), (fun x => by cases x), by simp⟩
theorem rdStep_mem (xs : List S112) (i : Int) (h0 : 0 ≤ i) (h : i < (xs.length : Int)) : rd_T112 xs i ∈ xs := by
  have h1 : i.toNat < xs.length := by omega
  unfold rd_T112
  simp [List.getD_eq_getElem?_getD, List.getElem?_eq_getElem h1]
/-- The view of a name, and whether it is one: both sides alike. -/
theorem viewOf_at (s : ByteArray) (hs : s.size < 100000000) (k : Nat) (hk : 3 * s.size + 80 < k) :
    ∃ v b, spec_ViewOf.f k s = some v ∧ impl_ViewOf.f k s = some v ∧ spec_NameOk.f k s = some b ∧ impl_NameOk.f k s = some b ∧ (b = true → s.data.toList ≠ [] → 1 ≤ v) ∧ (s.data.toList = [] → v = 0 ∧ b = true) := by
  obtain ⟨r, r1, r2, r3, r4, _, r5, r6, r7⟩ := steps_at s hs k hk
  unfold spec_ViewOf.f impl_ViewOf.f spec_NameOk.f impl_NameOk.f
  simp only [r1, r2, Option.bind_some]
  by_cases h : r.1 = []
  · refine ⟨0, r.2, ?_, ?_, rfl, rfl, ?_, ?_⟩
    · rw [h]; simp
    · rw [h]; simp
    · intro hb hne
      have := r6 hb hne
      rw [h] at this; simp at this
    · intro he
      rw [r5 he]; exact ⟨rfl, rfl⟩
  · have hp : 0 < r.1.length := List.length_pos_iff.2 h
    have hb : r.2 = true := by
      cases hb : r.2
      · exact absurd (r3 hb) h
      · rfl
    have w1 : wrap64 ((r.1.length : Int) - 1) = (r.1.length : Int) - 1 := by unfold wrap64; omega
    have c0 : ¬ (r.1.length : Int) = 0 := by omega
    have c1 : (0 : Int) ≤ (r.1.length : Int) - 1 := by omega
    have c2 : (r.1.length : Int) - 1 < (r.1.length : Int) := by omega
    refine ⟨(rd_T112 r.1 ((r.1.length : Int) - 1)).f0, r.2, ?_, ?_, rfl, rfl, ?_, ?_⟩
    · simp only [w1, hb, if_true, if_neg c0, if_pos c1, if_pos c2]
    · simp only [w1, if_neg c0, if_pos c1, if_pos c2]
    · intro _ _
      exact r7 _ (rdStep_mem _ _ c1 c2)
    · intro he
      exact absurd (congrArg Prod.fst (r5 he)) h
theorem mono_le {α : Type} {f : Nat → Option α} (h : ∀ k, LeO (f k) (f (k + 1))) {a : Nat} {x : α} (hx : f a = some x) : ∀ {b : Nat}, a ≤ b → f b = some x := by
  intro b
  induction b with
  | zero => intro hab; obtain rfl : a = 0 := by omega
            exact hx
  | succ b ih =>
    intro hab
    by_cases e : a = b + 1
    · subst e; exact hx
    · exact h b x (ih (by omega))
theorem num_ex (s : ByteArray) : ∃ r : Int × Bool, ∀ k, 40 < k → spec_Number.f k s = some r := by
  obtain ⟨r, h, _⟩ := number_at s 41 (by omega)
  exact ⟨r, fun k hk => mono_le (fun k => spec_Number.mono s k) h (by omega)⟩
noncomputable def numV (s : ByteArray) : Int × Bool := Classical.choose (num_ex s)
theorem numV_at (s : ByteArray) (k : Nat) (hk : 40 < k) : spec_Number.f k s = some (numV s) := Classical.choose_spec (num_ex s) k hk
theorem txs_ex (s : ByteArray) (hs : s.size < 100000000) : ∃ r, ∀ k, 2 * s.size + 50 < k → spec_TxsOf.f k s = some r := by
  obtain ⟨r, h, _⟩ := txsOf_at s hs (2 * s.size + 51) (by omega)
  exact ⟨r, fun k hk => mono_le (fun k => spec_TxsOf.mono s k) h (by omega)⟩
noncomputable def txsV (s : ByteArray) : List S99 × Bool := if h : s.size < 100000000 then Classical.choose (txs_ex s h) else ([], false)
theorem txsV_at (s : ByteArray) (hs : s.size < 100000000) (k : Nat) (hk : 2 * s.size + 50 < k) : spec_TxsOf.f k s = some (txsV s) := by
  unfold txsV
  rw [dif_pos hs]
  exact Classical.choose_spec (txs_ex s hs) k hk
theorem steps_ex (s : ByteArray) (hs : s.size < 100000000) : ∃ r, ∀ k, 3 * s.size + 80 < k → spec_Steps.f k s = some r ∧ impl_Steps.f k s = some r := by
  obtain ⟨r, h, h', _⟩ := steps_at s hs (3 * s.size + 81) (by omega)
  exact ⟨r, fun k hk => ⟨mono_le (fun k => spec_Steps.mono s k) h (by omega), mono_le (fun k => impl_Steps.mono s k) h' (by omega)⟩⟩
/-- The steps of a name, and whether it is one. -/
noncomputable def stepsV (s : ByteArray) : List S112 × Bool := if h : s.size < 100000000 then Classical.choose (steps_ex s h) else ([], false)
theorem stepsV_at (s : ByteArray) (hs : s.size < 100000000) (k : Nat) (hk : 3 * s.size + 80 < k) : spec_Steps.f k s = some (stepsV s) ∧ impl_Steps.f k s = some (stepsV s) := by
  unfold stepsV
  rw [dif_pos hs]
  exact Classical.choose_spec (steps_ex s hs) k hk
/-- One part of a name behind a view. -/
noncomputable def stepQ (q : ByteArray) (last : Int) : Option S112 :=
  if (cutS q 124).2.2 = true ∧ (numV (cutS q 124).1).2 = true ∧ (txsV (cutS q 124).2.1).2 = true ∧ last < (numV (cutS q 124).1).1 ∧ (numV (cutS q 124).1).1 ≤ 60 ∧ ((txsV (cutS q 124).2.1).1.length : Int) ≤ 2 then some ⟨(numV (cutS q 124).1).1, (txsV (cutS q 124).2.1).1⟩ else none
noncomputable def walkP : List ByteArray → List S112 → Int → List S112 × Bool
  | [], out, _ => (out, true)
  | p :: ps, out, last => match stepQ p last with
    | some x => walkP ps (out ++ [x]) x.f0
    | none => ([], false)
theorem walk_l (ps : List ByteArray) (hL : ps.length < 1000000000000) (B : Nat) (hB : B < 100000000) (hp : ∀ p ∈ ps, p.size ≤ B) : ∀ (d k m : Nat) (out : List (S112)) (last : Int), m + 1 + d = ps.length → d + 2 * B + 60 < k → out.length + d < 4398046511104 →
    spec_Steps.l0 k [] out ps last ((m + 1 : Nat) : Int) = some (walkP (ps.drop (m + 1)) out last) := by
  intro d
  induction d with
  | zero =>
    intro k m out last hd hk ho
    obtain ⟨k, rfl⟩ : ∃ q, k = q + 1 := ⟨k - 1, by omega⟩
    simp only [spec_Steps.l0]
    rw [if_neg (by omega), List.drop_of_length_le (by omega)]
    rfl
  | succ d ih =>
    intro k m out last hd hk ho
    obtain ⟨k, rfl⟩ : ∃ q, k = q + 1 := ⟨k - 1, by omega⟩
    have hs := hp _ (rdOf_mem ByteArray.empty ps (m + 1) (by omega))
    have hdr : ps.drop (m + 1) = rdOf ByteArray.empty ps ((m + 1 : Nat) : Int) :: ps.drop (m + 1 + 1) := by
      rw [List.drop_eq_getElem_cons (show m + 1 < ps.length by omega)]
      simp [rdOf, List.getD_eq_getElem?_getD, List.getElem?_eq_getElem (show m + 1 < ps.length by omega)]
    generalize hx : rdOf ByteArray.empty ps ((m + 1 : Nat) : Int) = x at hs hdr
    obtain ⟨_, _, z1, z2, _, _⟩ := cut_both x 124
    have g1 := specCut_at x 124 (by omega) k (by omega)
    rw [show ((124 : UInt8).toNat : Int) = 124 from rfl] at g1
    have n1 := numV_at (cutS x 124).1 k (by omega)
    have v1 := txsV_at (cutS x 124).2.1 (by omega) k (by omega)
    have hlen : out.length < 4398046511104 := by omega
    obtain ⟨HW⟩ : Aside0 (wrap64 (((m + 1 : Nat) : Int) + 1) = ((m + 1 + 1 : Nat) : Int)) := ⟨wn (n := ps.length) (by omega) (by omega)⟩
    have HW' := Aside0.mk HW
    clear HW
    have e1 : spec_Steps.l0 (k + 1) [] out ps last ((m + 1 : Nat) : Int) = if (cutS x 124).2.2 = true then (if (numV (cutS x 124).1).2 = true then (if (txsV (cutS x 124).2.1).2 = true then (if (numV (cutS x 124).1).1 ≤ last then some ([], false) else (if (numV (cutS x 124).1).1 > 60 then some ([], false) else (if ((txsV (cutS x 124).2.1).1.length : Int) > 2 then some ([], false) else spec_Steps.l0 k [] (out ++ [⟨(numV (cutS x 124).1).1, (txsV (cutS x 124).2.1).1⟩]) ps (numV (cutS x 124).1).1 ((m + 1 + 1 : Nat) : Int)))) else some ([], false)) else some ([], false)) else some ([], false) := by
      simp only [spec_Steps.l0]
      rw [if_pos (by omega), if_pos (by omega), hx, g1, Option.bind_some, n1, Option.bind_some, v1, Option.bind_some, HW'.out, if_pos hlen]
    rw [e1, hdr]
    unfold walkP stepQ
    by_cases c0 : (cutS x 124).2.2 = true
    · by_cases c1 : (numV (cutS x 124).1).2 = true
      · by_cases c2 : (txsV (cutS x 124).2.1).2 = true
        · by_cases c3 : (numV (cutS x 124).1).1 ≤ last
          · rw [if_pos c0, if_pos c1, if_pos c2, if_pos c3, if_neg (fun h => by have := h.2.2.2.1; omega)]
          · by_cases c4 : (numV (cutS x 124).1).1 > 60
            · rw [if_pos c0, if_pos c1, if_pos c2, if_neg c3, if_pos c4, if_neg (fun h => by have := h.2.2.2.2.1; omega)]
            · by_cases c5 : ((txsV (cutS x 124).2.1).1.length : Int) > 2
              · rw [if_pos c0, if_pos c1, if_pos c2, if_neg c3, if_neg c4, if_pos c5, if_neg (fun h => by have := h.2.2.2.2.2; omega)]
              · rw [if_pos c0, if_pos c1, if_pos c2, if_neg c3, if_neg c4, if_neg c5, if_pos ⟨c0, c1, c2, by omega, by omega, by omega⟩]
                exact ih k (m + 1) _ _ (by omega) (by omega) (by simp; omega)
        · rw [if_pos c0, if_pos c1, if_neg c2, if_neg (fun h => c2 h.2.2.1)]
      · rw [if_pos c0, if_neg c1, if_neg (fun h => c1 h.2.1)]
    · rw [if_neg c0, if_neg (fun h => c0 h.1)]
/-- What the steps of a name are. -/
theorem stepsV_eq (s : ByteArray) (hs : s.size < 100000000) : stepsV s = if s.data.toList = [] then ([], true) else if (rdOf ByteArray.empty (splitA 47 s) 0).data.toList = [] ∧ (splitA 47 s).length ≤ 31 then walkP ((splitA 47 s).drop 1) [] 0 else ([], false) := by
  have h := (stepsV_at s hs (3 * s.size + 100) (by omega)).1
  generalize hk : 3 * s.size + 100 = k at h
  unfold spec_Steps.f at h
  rw [Option.bind_some, Option.bind_some, Lib.toList_data] at h
  by_cases h1 : s.data.toList = []
  · rw [if_pos h1] at h ⊢
    exact (Option.some.inj h).symm
  · have g1 := specSplit_at s 47 (by omega) k (by omega)
    rw [show ((47 : UInt8).toNat : Int) = 47 from rfl] at g1
    have hl := splitA_length 47 s
    have hp : 0 < (splitA 47 s).length := by
      obtain ⟨x, t, e⟩ := splitL_ne 47 s.data.toList
      unfold splitA; rw [e]; simp
    have hpi : 0 < ((splitA 47 s).length : Int) := by omega
    obtain ⟨k, rfl⟩ : ∃ q, k = q + 1 := ⟨k - 1, by omega⟩
    have bad1 : ∀ t, spec_Steps.j0 (k + 1) [] [] t true = some ([], false) := fun t => by simp [spec_Steps.j0]
    rw [if_neg h1, g1, Option.bind_some, if_pos hpi, Lib.toList_data] at h
    rw [if_neg h1]
    by_cases h0 : (rdOf ByteArray.empty (splitA 47 s) 0).data.toList = []
    · rw [if_pos h0] at h
      by_cases h31 : ((splitA 47 s).length : Int) > 31
      · rw [decide_eq_true h31, bad1] at h
        rw [if_neg (fun x => by have := x.2; omega)]
        exact (Option.some.inj h).symm
      · rw [decide_eq_false h31] at h
        simp only [spec_Steps.j0] at h
        rw [if_neg (by simp)] at h
        have hw := walk_l (splitA 47 s) (by omega) s.size hs (splitA_size 47 s) ((splitA 47 s).length - 1) k 0 [] 0 (by omega) (by omega) (by simp; omega)
        rw [if_pos ⟨h0, by omega⟩]
        have e : spec_Steps.l0 k [] [] (splitA 47 s) 0 1 = some (walkP ((splitA 47 s).drop 1) [] 0) := hw
        rw [e] at h
        exact (Option.some.inj h).symm
    · rw [if_neg h0, bad1] at h
      rw [if_neg (fun x => h0 x.1)]
      exact (Option.some.inj h).symm
theorem splitL_app (c : UInt8) : ∀ (a b : List UInt8), splitL c (a ++ c :: b) = splitL c a ++ splitL c b
  | [], b => by rw [List.nil_append, splitL_eq]; rfl
  | x :: a, b => by
    have ih := splitL_app c a b
    rw [List.cons_append]
    by_cases h : x = c
    · subst h
      rw [splitL_eq, splitL_eq, ih]; rfl
    · rw [splitL_cons h, splitL_cons h, ih]
      obtain ⟨y, t, e⟩ := splitL_ne c a
      rw [e]; rfl
theorem cutL_out {c : UInt8} : ∀ {q : List UInt8}, c ∉ q → cutL c q = none
  | [], _ => rfl
  | x :: q, h => by
    have hx : ¬ x = c := fun e => h (by simp [e])
    unfold cutL
    rw [if_neg hx, cutL_out (fun hm => h (List.mem_cons_of_mem _ hm))]
    rfl
theorem splitL_one {c : UInt8} {q : List UInt8} (h : c ∉ q) : splitL c q = [q] := by
  rw [splitL_cut, cutL_out h]
def lastV (l : List S112) : Int := match l.getLast? with
  | some x => x.f0
  | none => 0
theorem lastV_snoc (l : List S112) (x : S112) : lastV (l ++ [x]) = x.f0 := by
  unfold lastV
  simp
/-- A part more at the end. -/
theorem walkP_snoc (q : ByteArray) : ∀ (t : List ByteArray) (out : List S112) (last : Int), last = lastV out →
    walkP (t ++ [q]) out last = if (walkP t out last).2 = true then (match stepQ q (lastV (walkP t out last).1) with | some x => ((walkP t out last).1 ++ [x], true) | none => ([], false)) else ([], false)
  | [], out, last, hl => by
    simp only [List.nil_append, walkP, if_true]
    rw [hl]
  | p :: t, out, last, hl => by
    rw [List.cons_append]
    unfold walkP
    cases h : stepQ p last with
    | none => simp
    | some x =>
      simp only
      exact walkP_snoc q t (out ++ [x]) x.f0 (lastV_snoc out x).symm
theorem walkP_len : ∀ (t : List ByteArray) (out : List S112) (last : Int), (walkP t out last).2 = true → (walkP t out last).1.length = out.length + t.length
  | [], out, last, _ => rfl
  | p :: t, out, last, h => by
    unfold walkP at h ⊢
    cases hs : stepQ p last with
    | none => rw [hs] at h; simp at h
    | some x =>
      rw [hs] at h
      simp only at h ⊢
      rw [walkP_len t _ _ h, List.length_append, List.length_cons, List.length_cons, List.length_nil]
      omega
/-- A name with a part more. -/
theorem steps_join (s up q : ByteArray) (hs : s.size < 100000000) (hq : (47 : UInt8) ∉ q.data.toList) (e : s.data.toList = up.data.toList ++ 47 :: q.data.toList) :
    stepsV s = if (stepsV up).2 = true ∧ (stepsV up).1.length < 30 then (match stepQ q (lastV (stepsV up).1) with | some x => ((stepsV up).1 ++ [x], true) | none => ([], false)) else ([], false) := by
  have hz : s.size = up.size + 1 + q.size := by rw [← len_size, e, ← len_size, ← len_size]; simp; omega
  have hne : ¬ s.data.toList = [] := by rw [e]; simp
  have hp : splitA 47 s = splitA 47 up ++ [q] := by
    unfold splitA
    rw [e, splitL_app, splitL_one hq, List.map_append]
    simp [mkS_of]
  obtain ⟨y, t, ey⟩ := splitL_ne 47 up.data.toList
  have eu : splitA 47 up = mkS y :: t.map mkS := by unfold splitA; rw [ey]; rfl
  rw [stepsV_eq s hs, if_neg hne, hp, eu, stepsV_eq up (by omega), eu]
  have r1 : rdOf ByteArray.empty (mkS y :: t.map mkS ++ [q]) 0 = mkS y := by simp [rdOf]
  have r2 : rdOf ByteArray.empty (mkS y :: t.map mkS) 0 = mkS y := by simp [rdOf]
  have d1 : (mkS y :: t.map mkS ++ [q]).drop 1 = t.map mkS ++ [q] := rfl
  have d2 : (mkS y :: t.map mkS).drop 1 = t.map mkS := rfl
  have n1 : (mkS y :: t.map mkS ++ [q]).length = t.length + 2 := by simp
  have n2 : (mkS y :: t.map mkS).length = t.length + 1 := by simp
  rw [r1, r2, d1, d2, n1, n2, mkS_list, walkP_snoc q _ [] 0 rfl]
  by_cases hup : up.data.toList = []
  · have e1 : y = [] ∧ t = [] := by rw [hup] at ey; simpa [splitL, eq_comm] using ey
    obtain ⟨rfl, rfl⟩ := e1
    rw [if_pos hup]
    simp [walkP]
  · rw [if_neg hup]
    by_cases hy : y = []
    · subst hy
      by_cases h31 : t.length + 1 ≤ 31
      · rw [if_pos (show ([] : List UInt8) = [] ∧ t.length + 1 ≤ 31 from ⟨rfl, h31⟩)]
        have hlen := walkP_len (t.map mkS) [] 0
        rw [List.length_map, List.length_nil, Nat.zero_add] at hlen
        generalize walkP (t.map mkS) [] 0 = W at hlen
        by_cases hok : W.2 = true
        · have hl := hlen hok
          by_cases h30 : t.length + 2 ≤ 31
          · rw [if_pos (show ([] : List UInt8) = [] ∧ t.length + 2 ≤ 31 from ⟨rfl, h30⟩), if_pos hok, if_pos (show W.2 = true ∧ W.1.length < 30 from ⟨hok, by omega⟩)]
          · rw [if_neg (show ¬ (([] : List UInt8) = [] ∧ t.length + 2 ≤ 31) from fun x => h30 x.2), if_neg (show ¬ (W.2 = true ∧ W.1.length < 30) from fun x => by have := x.2; omega)]
        · rw [if_neg (show ¬ (W.2 = true ∧ W.1.length < 30) from fun x => hok x.1), if_neg hok]
          split <;> rfl
      · rw [if_neg (show ¬ (([] : List UInt8) = [] ∧ t.length + 2 ≤ 31) from fun x => by have := x.2; omega), if_neg (show ¬ (([] : List UInt8) = [] ∧ t.length + 1 ≤ 31) from fun x => h31 x.2)]
        simp
    · rw [if_neg (show ¬ (y = [] ∧ t.length + 2 ≤ 31) from fun x => hy x.1), if_neg (show ¬ (y = [] ∧ t.length + 1 ≤ 31) from fun x => hy x.1)]
      simp
def valL (l : List UInt8) (n : Nat) : Nat := l.foldl (fun n b => 10 * n + (b.toNat - 48)) n
theorem valL_dig (n : Nat) : valL (Lib.decDigits n) 0 = n := by
  induction n using Nat.strongRecOn with
  | _ n ih =>
    rw [Lib.decDigits]
    by_cases h : n < 10
    · rw [dif_pos h]
      simp only [valL, List.foldl_cons, List.foldl_nil, UInt8.toNat_ofNat']
      omega
    · rw [dif_neg h]
      have := ih (n / 10) (by omega)
      unfold valL at this ⊢
      rw [List.foldl_append, this]
      simp only [List.foldl_cons, List.foldl_nil, UInt8.toNat_ofNat']
      omega
theorem number_dig_l (s : ByteArray) (h6 : s.size ≤ 6) (hdg : ∀ b ∈ s.data.toList, 48 ≤ b.toNat ∧ b.toNat ≤ 57) : ∀ (d k m n : Nat), m + d = s.size → d + 25 < k → n < 10 ^ m → digS (valL (s.data.toList.drop m) n) = s →
    spec_Number.l0 k s (n : Int) (m : Int) = some (((valL (s.data.toList.drop m) n : Nat) : Int), true) := by
  intro d
  induction d with
  | zero =>
    intro k m n hd hk hn hv
    obtain ⟨k, rfl⟩ : ∃ q, k = q + 1 := ⟨k - 1, by omega⟩
    have hp : 10 ^ m ≤ 10 ^ 6 := Nat.pow_le_pow_right (by omega) (by omega)
    have hdr : s.data.toList.drop m = [] := List.drop_of_length_le (by rw [len_size]; omega)
    rw [hdr] at hv ⊢
    have hv' : digS n = s := hv
    simp only [spec_Number.l0]
    rw [if_neg (by omega), specDigits_at n (by omega) (by omega) k (by omega), Option.bind_some, hv', if_pos rfl]
    rfl
  | succ d ih =>
    intro k m n hd hk hn hv
    obtain ⟨k, rfl⟩ : ∃ q, k = q + 1 := ⟨k - 1, by omega⟩
    have hp : 10 ^ m ≤ 10 ^ 6 := Nat.pow_le_pow_right (by omega) (by omega)
    have hn6 : (n : Int) < 1000000 := by omega
    obtain ⟨b, hb, hbt⟩ := drop_byte s m (by omega)
    have hbm : b ∈ s.data.toList := List.mem_of_mem_drop (by rw [hb]; simp)
    obtain ⟨b1, b2⟩ := hdg b hbm
    have hw : wrap64 ((m : Int) + 1) = ((m + 1 : Nat) : Int) := wn (n := s.size) (by omega) (by omega)
    have e1 : wrap64 (wrap64 (wrap64 (10 * (n : Int)) + wrap64 (b.toNat : Int)) - 48) = ((10 * n + (b.toNat - 48) : Nat) : Int) := by
      have := b.toNat_lt
      rw [num_w1 n b.toNat (by omega) hn6 (by omega) (by omega)]; omega
    rw [hb] at hv ⊢
    have hv' : digS (valL (s.data.toList.drop (m + 1)) (10 * n + (b.toNat - 48))) = s := hv
    simp only [spec_Number.l0]
    rw [if_pos (by omega), if_pos (by omega), hbt, hw, if_neg (by omega), if_neg (by omega), e1]
    exact ih k (m + 1) _ (by omega) (by omega) (by rw [Nat.pow_succ]; omega) hv'
theorem num_dig (n : Nat) (h : n < 1000000) : numV (digS n) = ((n : Int), true) := by
  have h1 := numV_at (digS n) 50 (by omega)
  have hs := digS_size n h
  have hp : 0 < (digS n).size := by unfold digS; rw [mkS_size]; exact dig_pos n
  unfold spec_Number.f at h1
  rw [if_neg (by omega)] at h1
  simp only [spec_Number.j0] at h1
  have hl : (digS n).data.toList = Lib.decDigits n := by unfold digS; rw [mkS_list]
  have h2 := number_dig_l (digS n) hs (by rw [hl]; exact dig_isDigit n) (digS n).size 49 0 0 (by omega) (by omega) (by omega) (by rw [List.drop_zero, hl, valL_dig])
  rw [List.drop_zero, hl, valL_dig] at h2
  have h3 : ¬ decide (((digS n).size : Int) > 6) = true := by
    intro h; have := of_decide_eq_true h; omega
  rw [if_neg h3] at h1
  have h4 : spec_Number.l0 49 (digS n) 0 0 = some ((n : Int), true) := h2
  rw [h4] at h1
  exact (Option.some.inj h1).symm
/-- A step as it is written: a view, a bar, transactions. -/
theorem cut_step (n : Nat) (t : ByteArray) (q : ByteArray) (e : q.data.toList = Lib.decDigits n ++ 124 :: t.data.toList) : cutS q 124 = (digS n, t, true) := by
  unfold cutS
  rw [e, cutL_app (dig_ne n 124 (by decide))]
  simp only [digS, mkS_of]
theorem stepQ_dig (n : Nat) (h : n < 1000000) (t q : ByteArray) (e : q.data.toList = Lib.decDigits n ++ 124 :: t.data.toList) (last : Int) :
    stepQ q last = if (txsV t).2 = true ∧ last < (n : Int) ∧ (n : Int) ≤ 60 ∧ ((txsV t).1.length : Int) ≤ 2 then some ⟨(n : Int), (txsV t).1⟩ else none := by
  unfold stepQ
  rw [cut_step n t q e]
  simp only [num_dig n h]
  by_cases c : (txsV t).2 = true ∧ last < (n : Int) ∧ (n : Int) ≤ 60 ∧ ((txsV t).1.length : Int) ≤ 2
  · rw [if_pos c, if_pos ⟨trivial, trivial, c⟩]
  · rw [if_neg c, if_neg (fun x => c x.2.2)]
/-- No transactions are written as nothing. -/
theorem txsV_nil (t : ByteArray) (h : t.data.toList = []) : txsV t = ([], true) := by
  have hz : t.size = 0 := by rw [← len_size, h]; rfl
  have h1 := txsV_at t (by omega) (2 * t.size + 51) (by omega)
  unfold spec_TxsOf.f at h1
  rw [Option.bind_some, Lib.toList_data, if_pos h] at h1
  exact (Option.some.inj h1).symm
theorem txs_len_l (ps : List ByteArray) (hL : ps.length < 1000000000000) (B : Nat) (hB : B < 4294967281) (hp : ∀ p ∈ ps, p.size ≤ B) : ∀ (d k m : Nat) (out : List (S99)), m + d = ps.length → d + B + 42 < k → out.length + d < 4398046511104 →
    ∃ r, spec_TxsOf.l0 k out ps (m : Int) = some r ∧ (r.2 = true → r.1.length = out.length + d) := by
  intro d
  induction d with
  | zero =>
    intro k m out hd hk ho
    obtain ⟨k, rfl⟩ : ∃ q, k = q + 1 := ⟨k - 1, by omega⟩
    refine ⟨(out, true), ?_, fun _ => rfl⟩
    simp only [spec_TxsOf.l0]; rw [if_neg (by omega)]
  | succ d ih =>
    intro k m out hd hk ho
    obtain ⟨k, rfl⟩ : ∃ q, k = q + 1 := ⟨k - 1, by omega⟩
    have hs := hp _ (rdOf_mem ByteArray.empty ps m (by omega))
    obtain ⟨⟨a, b, c, e, ok⟩, h1, h2⟩ := txOf_at (rdOf ByteArray.empty ps (m : Int)) (by omega) k (by omega)
    have hw : wrap64 ((m : Int) + 1) = ((m + 1 : Nat) : Int) := wn (n := ps.length) (by omega) (by omega)
    have e1 : spec_TxsOf.l0 (k + 1) out ps (m : Int) = if ok = true then spec_TxsOf.l0 k (out ++ [⟨a, b, c, e⟩]) ps ((m + 1 : Nat) : Int) else some ([], false) := by
      simp only [spec_TxsOf.l0]
      rw [if_pos (by omega), if_pos (by omega), h1, Option.bind_some, hw, if_pos (show out.length < 4398046511104 by omega)]
    rw [e1]
    by_cases h : ok = true
    · rw [if_pos h]
      obtain ⟨r, r1, r2⟩ := ih k (m + 1) (out ++ [⟨a, b, c, e⟩]) (by omega) (by omega) (by simp; omega)
      exact ⟨r, r1, fun x => by have := r2 x; simp at this; omega⟩
    · rw [if_neg h]
      exact ⟨([], false), rfl, fun x => by cases x⟩
theorem txsV_len (t : ByteArray) (ht : t.size < 100000000) (hne : ¬ t.data.toList = []) (h : (txsV t).2 = true) : (txsV t).1.length = (splitL 44 t.data.toList).length := by
  have h1 := txsV_at t ht (2 * t.size + 51) (by omega)
  unfold spec_TxsOf.f at h1
  have g1 := specSplit_at t 44 (by omega) (2 * t.size + 51) (by omega)
  rw [show ((44 : UInt8).toNat : Int) = 44 from rfl] at g1
  have hl := splitA_length 44 t
  rw [Option.bind_some, Lib.toList_data, if_neg hne, g1, Option.bind_some] at h1
  obtain ⟨r, r1, r2⟩ := txs_len_l (splitA 44 t) (by omega) t.size (by omega) (splitA_size 44 t) (splitA 44 t).length (2 * t.size + 51) 0 [] (by omega) (by omega) (by simp; omega)
  have r1' : spec_TxsOf.l0 (2 * t.size + 51) [] (splitA 44 t) 0 = some r := r1
  rw [r1'] at h1
  obtain rfl := Option.some.inj h1
  have := r2 h
  rw [this]
  unfold splitA
  simp
theorem join_cons (x y : List UInt8) (t : List (List UInt8)) (c : UInt8) : Lib.join (x :: y :: t) [c] = x ++ c :: Lib.join (y :: t) [c] := by
  simp [Lib.join, List.intercalate, List.intersperse]
theorem split_join (c : UInt8) : ∀ xs : List (List UInt8), xs ≠ [] → (∀ x ∈ xs, c ∉ x) → splitL c (Lib.join xs [c]) = xs
  | [], h, _ => absurd rfl h
  | [x], _, h => by
    rw [show Lib.join [x] [c] = x by simp [Lib.join, List.intercalate, List.intersperse]]
    exact splitL_one (h x (by simp))
  | x :: y :: t, _, h => by
    rw [join_cons, splitL_app, splitL_one (h x (by simp)), split_join c (y :: t) (by simp) (fun z hz => h z (List.mem_cons_of_mem _ hz))]
    rfl
theorem join_out (c d : UInt8) (hcd : d ≠ c) : ∀ xs : List (List UInt8), (∀ x ∈ xs, d ∉ x) → d ∉ Lib.join xs [c]
  | [], _ => by simp [Lib.join, List.intercalate, List.intersperse]
  | [x], h => by
    rw [show Lib.join [x] [c] = x by simp [Lib.join, List.intercalate, List.intersperse]]
    exact h x (by simp)
  | x :: y :: t, h => by
    rw [join_cons]
    intro hm
    rcases List.mem_append.1 hm with hm | hm
    · exact h x (by simp) hm
    · rcases List.mem_cons.1 hm with hm | hm
      · exact hcd hm
      · exact join_out c d hcd (y :: t) (fun z hz => h z (List.mem_cons_of_mem _ hz)) hm
/-- No such byte stands in a transaction's text. -/
theorem txL_out (a b c d : Nat) (x : UInt8) (h : x.toNat < 48 ∨ 57 < x.toNat) (h1 : x ≠ 62) (h2 : x ≠ 58) (h3 : x ≠ 35) : x ∉ txL a b c d := by
  unfold txL
  intro hm
  rcases List.mem_append.1 hm with hm | hm
  · exact dig_ne a x h hm
  · rcases List.mem_cons.1 hm with hm | hm
    · exact h1 hm
    · rcases List.mem_append.1 hm with hm | hm
      · exact dig_ne b x h hm
      · rcases List.mem_cons.1 hm with hm | hm
        · exact h2 hm
        · rcases List.mem_append.1 hm with hm | hm
          · exact dig_ne c x h hm
          · rcases List.mem_cons.1 hm with hm | hm
            · exact h3 hm
            · exact dig_ne d x h hm
theorem itoa_out (n : Int) (x : UInt8) (h : x.toNat < 48 ∨ 57 < x.toNat) (h1 : x ≠ 45) : x ∉ Lib.itoa n := by
  unfold Lib.itoa
  split
  · intro hm
    rcases List.mem_cons.1 hm with hm | hm
    · exact h1 hm
    · exact dig_ne _ x h hm
  · exact dig_ne _ x h
theorem hnz {n : Nat} (h : ¬ n = 0) : ¬ -(n : Int) = 0 := by omega
theorem digN_w1 (d : Nat) (h : d < 10) : wrap64 (48 + wrap64 (-(-(d : Int)))) % 256 = ((48 + d : Nat) : Int) := by
  have e1 : wrap64 (-(-(d : Int))) = (d : Int) := by unfold wrap64; omega
  rw [e1]
  unfold wrap64
  omega
theorem digN_w2 (d : Nat) (h : ¬ -(d : Int) < 0) : wrap64 (48 + -(d : Int)) % 256 = ((48 + d : Nat) : Int) := by
  obtain rfl : d = 0 := by omega
  have e : wrap64 (48 + -((0 : Nat) : Int)) = 48 := by unfold wrap64; omega
  rw [e]
  rfl
theorem specDigits_lN : ∀ (j n k : Nat) (acc : ByteArray), n < 10 ^ j → n ≤ 9223372036854775808 → j < k → acc.size + j ≤ 1000 →
    spec_Digits.l0 k (-(n : Int)) true acc = some (mkS (45 :: ((if n = 0 then [] else Lib.decDigits n) ++ acc.data.toList))) := by
  intro j
  induction j with
  | zero =>
    intro n k acc h hn hk ha
    obtain ⟨k, rfl⟩ : ∃ q, k = q + 1 := ⟨k - 1, by omega⟩
    obtain rfl : n = 0 := by simpa using h
    simp only [spec_Digits.l0]
    rw [if_pos (by omega)]
    simp only [if_true]
    rw [if_pos (by omega)]
    congr 1
  | succ j ih =>
    intro n k acc h hn hk ha
    obtain ⟨k, rfl⟩ : ∃ q, k = q + 1 := ⟨k - 1, by omega⟩
    simp only [spec_Digits.l0]
    by_cases h0 : n = 0
    · subst h0
      rw [if_pos (by omega)]
      simp only [if_true]
      rw [if_pos (by omega)]
      congr 1
    · have hm : Int.tmod (-(n : Int)) 10 = -((n % 10 : Nat) : Int) := by rw [Int.neg_tmod, Int.tmod_eq_emod_of_nonneg (by omega)]; omega
      have hd : wrap64 (Int.tdiv (-(n : Int)) 10) = -((n / 10 : Nat) : Int) := by
        rw [Int.neg_tdiv, Int.tdiv_eq_ediv_of_nonneg (by omega)]
        unfold wrap64; omega
      have hs : (strOfNums [((48 + n % 10 : Nat) : Int)]).size = 1 := by rw [strOfNums_size]; rfl
      have key : (if (strOfNums [((48 + n % 10 : Nat) : Int)]).size + acc.size ≤ 9223372036854775807 then spec_Digits.l0 k (-((n / 10 : Nat) : Int)) true (strOfNums [((48 + n % 10 : Nat) : Int)] ++ acc) else none) = some (mkS (45 :: ((if n = 0 then [] else Lib.decDigits n) ++ acc.data.toList))) := by
        rw [if_pos (by rw [hs]; omega), ih (n / 10) k _ (by rw [Nat.pow_succ] at h; omega) (by omega) (by omega) (by rw [ByteArray.size_append, hs]; omega)]
        congr 3
        rw [if_neg h0]
        simp only [ByteArray.data_append, Array.toList_append, strOfNums_data, List.map_cons, List.map_nil, Int.toNat_natCast]
        by_cases h1 : n < 10
        · rw [if_pos (by omega), Lib.decDigits_one h1, Nat.mod_eq_of_lt h1]
          rfl
        · have e : Lib.decDigits n = Lib.decDigits (n / 10) ++ [UInt8.ofNat (48 + n % 10)] := by rw [Lib.decDigits, dif_neg h1]
          rw [if_neg (by omega), e]
          simp
      have hne : ¬ -(n : Int) = 0 := hnz h0
      have hmod : n % 10 < 10 := Nat.mod_lt _ (by decide)
      rw [if_neg hne, hm, hd]
      by_cases h2 : -((n % 10 : Nat) : Int) < 0
      · rw [if_pos h2, Option.bind_some, digN_w1 (n % 10) hmod]
        exact key
      · rw [if_neg h2, Option.bind_some, digN_w2 (n % 10) h2]
        exact key
/-- A number's numeral, whatever the number. -/
def itoaS (n : Int) : ByteArray := mkS (Lib.itoa n)
theorem digits_any (n : Int) (h0 : -9223372036854775808 ≤ n) (h1 : n ≤ 9223372036854775807) (k : Nat) (hk : 22 < k) : spec_Digits.f k n = some (itoaS n) ∧ impl_Digits.f n = some (itoaS n) := by
  by_cases h : n < 0
  · obtain ⟨m, rfl⟩ : ∃ m : Nat, n = -(m : Int) := ⟨n.natAbs, by omega⟩
    have hi : itoaS (-(m : Int)) = mkS (45 :: Lib.decDigits m) := by
      unfold itoaS Lib.itoa
      rw [if_pos h]
      simp
    constructor
    · unfold spec_Digits.f
      rw [if_neg (by omega), decide_eq_true h, specDigits_lN 20 m k _ (by omega) (by omega) (by omega) (by decide), if_neg (by omega), hi]
      congr 3
      show Lib.decDigits m ++ [] = _
      simp
    · unfold impl_Digits.f strconv_Itoa_134.f
      rw [if_pos (by omega), if_pos (by omega), Option.bind_some]
      rfl
  · obtain ⟨m, rfl⟩ : ∃ m : Nat, n = (m : Int) := ⟨n.toNat, by omega⟩
    have hi : itoaS (m : Int) = digS m := by
      unfold itoaS Lib.itoa digS
      rw [if_neg h]
      rfl
    rw [hi]
    exact ⟨specDigits_at m (by omega) (by omega) k (by omega), implDigits_at m (by omega)⟩
theorem specMax_at (a b : Int) : spec_l1Max.f a b = some (if a > b then a else b) := by
  unfold spec_l1Max.f
  by_cases h : a > b
  · rw [if_pos h, if_pos h]
  · rw [if_neg h, if_neg h]
/-- The last such byte's place, looked for from a place downwards. -/
theorem last_l (s : ByteArray) (hs : s.size < 100000000) : ∀ (m k : Nat), m ≤ s.size → m + 1 < k →
    (∃ j : Nat, j < m ∧ bytealg_LastIndexByteString.l0 k s 47 ((m : Int) - 1) = some (j : Int) ∧ spec_UpOf.l0 k s (m : Int) = some (s.extract 0 j) ∧ bt s (j : Int) = 47 ∧ ∀ i : Nat, j < i → i < m → bt s (i : Int) ≠ 47) ∨
    ((∀ i : Nat, i < m → bt s (i : Int) ≠ 47) ∧ bytealg_LastIndexByteString.l0 k s 47 ((m : Int) - 1) = some (-1) ∧ spec_UpOf.l0 k s (m : Int) = some (s.extract 0 0)) := by
  intro m
  induction m with
  | zero =>
    intro k hm hk
    obtain ⟨k, rfl⟩ : ∃ q, k = q + 1 := ⟨k - 1, by omega⟩
    refine Or.inr ⟨fun i hi => by omega, ?_, ?_⟩
    · simp only [bytealg_LastIndexByteString.l0]; rw [if_neg (by omega)]
    · simp only [spec_UpOf.l0]
      have hw : wrap64 (((0 : Nat) : Int) - 1) = -1 := by unfold wrap64; omega
      rw [if_neg (by omega), hw, specMax_at, Option.bind_some, if_neg (show ¬ ((-1 : Int) > 0) by decide), if_pos (by omega), if_pos (by omega)]
      rfl
  | succ m ih =>
    intro k hm hk
    obtain ⟨k, rfl⟩ : ∃ q, k = q + 1 := ⟨k - 1, by omega⟩
    have hw : wrap64 (((m + 1 : Nat) : Int) - 1) = (m : Int) := by unfold wrap64; omega
    have hw2 : wrap64 ((m : Int) - 1) = (m : Int) - 1 := by unfold wrap64; omega
    have e0 : ((m + 1 : Nat) : Int) - 1 = (m : Int) := by omega
    have e1 : bytealg_LastIndexByteString.l0 (k + 1) s 47 (((m + 1 : Nat) : Int) - 1) = if bt s (m : Int) = 47 then some (m : Int) else bytealg_LastIndexByteString.l0 k s 47 ((m : Int) - 1) := by
      rw [e0]
      simp only [bytealg_LastIndexByteString.l0]
      rw [if_pos (show (m : Int) ≥ 0 by omega), if_pos (show (0 : Int) ≤ (m : Int) by omega), if_pos (show (m : Int) < (s.size : Int) by omega), hw2]
    have e2 : spec_UpOf.l0 (k + 1) s ((m + 1 : Nat) : Int) = if bt s (m : Int) = 47 then some (s.extract 0 m) else spec_UpOf.l0 k s (m : Int) := by
      simp only [spec_UpOf.l0]
      rw [if_pos (show ((m + 1 : Nat) : Int) > 0 by omega), hw, if_pos (show (0 : Int) ≤ (m : Int) by omega), if_pos (show (m : Int) < (s.size : Int) by omega), specMax_at, Option.bind_some]
      have hx : (if (m : Int) > 0 then (m : Int) else 0) = (m : Int) := by split <;> omega
      rw [hx, if_pos (show (0 : Int) ≤ (m : Int) by omega), if_pos (show (m : Int) ≤ (s.size : Int) by omega)]
      rfl
    rw [e1, e2]
    by_cases h : bt s (m : Int) = 47
    · rw [if_pos h, if_pos h]
      exact Or.inl ⟨m, by omega, rfl, rfl, h, fun i h1 h2 => by omega⟩
    · rw [if_neg h, if_neg h]
      rcases ih k (by omega) (by omega) with ⟨j, hj, r1, r2, r3, r4⟩ | ⟨hn, r1, r2⟩
      · refine Or.inl ⟨j, by omega, r1, r2, r3, fun i h1 h2 => ?_⟩
        by_cases him : i = m
        · rw [him]; exact h
        · exact r4 i h1 (by omega)
      · refine Or.inr ⟨fun i hi => ?_, r1, r2⟩
        by_cases him : i = m
        · rw [him]; exact h
        · exact hn i (by omega)
theorem upOf_at (s : ByteArray) (hs : s.size < 100000000) (k : Nat) (hk : 3 * s.size + 80 < k) : ∃ r, spec_UpOf.f k s = some r ∧ impl_UpOf.f k s = some r ∧ r.size ≤ s.size := by
  obtain ⟨r, r1, r2, _, _, h47, _⟩ := steps_at s hs k hk
  unfold spec_UpOf.f impl_UpOf.f spec_NameOk.f impl_NameOk.f
  simp only [r1, r2, Option.bind_some]
  by_cases h : r.2 = true
  · rw [if_pos h, if_pos h, Lib.toList_data]
    have ez : s.extract 0 0 = (⟨#[]⟩ : ByteArray) := s_ext (by rw [Lib.extract_data]; simp)
    by_cases h0 : s.data.toList = []
    · rw [if_pos h0]
      have hz : s.size = 0 := by rw [← len_size, h0]; rfl
      refine ⟨(⟨#[]⟩ : ByteArray), ?_, rfl, Nat.zero_le _⟩
      rcases last_l s hs s.size k (Nat.le_refl _) (by omega) with ⟨j, hj, _⟩ | ⟨_, _, q2⟩
      · omega
      · rw [q2, ez]
    · rw [if_neg h0]
      obtain ⟨l, hl⟩ : ∃ l, s.data.toList = 47 :: l := by
        rcases h47 h with x | x
        · exact absurd x h0
        · exact x
      have hp : 0 < s.size := by rw [← len_size, hl]; simp
      have hb0 : bt s ((0 : Nat) : Int) = 47 := by
        obtain ⟨b, hb, hbt⟩ := drop_byte s 0 hp
        rw [List.drop_zero, hl] at hb
        rw [hbt, ← (List.cons.inj hb).1]
        rfl
      have hw : wrap64 ((s.size : Int) - 1) = (s.size : Int) - 1 := by unfold wrap64; omega
      unfold strings_LastIndexByte.f bytealg_LastIndexByteString.f
      rw [hw]
      rcases last_l s hs s.size k (Nat.le_refl _) (by omega) with ⟨j, hj, q1, q2, _⟩ | ⟨hn, _, _⟩
      · refine ⟨s.extract 0 j, q2, ?_, by rw [ByteArray.size_extract]; omega⟩
        rw [q1, Option.bind_some, Option.bind_some, if_pos (show (0 : Int) ≤ (j : Int) by omega), if_pos (show (j : Int) ≤ (s.size : Int) by omega)]
        rfl
      · exact absurd hb0 (hn 0 hp)
  · rw [if_neg h, if_neg h]
    exact ⟨_, rfl, rfl, Nat.zero_le _⟩
theorem viewV_at (s : ByteArray) (hs : s.size < 100000000) (k : Nat) (hk : 3 * s.size + 80 < k) : spec_ViewOf.f k s = some (lastV (stepsV s).1) ∧ impl_ViewOf.f k s = some (lastV (stepsV s).1) ∧ spec_NameOk.f k s = some (stepsV s).2 ∧ impl_NameOk.f k s = some (stepsV s).2 := by
  obtain ⟨r, r1, r2, r3, r4, _⟩ := steps_at s hs k hk
  obtain ⟨h1, h2⟩ := stepsV_at s hs k hk
  obtain rfl : stepsV s = r := Option.some.inj (h1.symm.trans r1)
  unfold spec_ViewOf.f impl_ViewOf.f spec_NameOk.f impl_NameOk.f
  simp only [h1, h2, Option.bind_some]
  generalize stepsV s = r at r3 r4
  by_cases h : r.1 = []
  · rw [h]
    refine ⟨?_, ?_, trivial, trivial⟩
    · simp [lastV]
    · simp [lastV]
  · have hp : 0 < r.1.length := List.length_pos_iff.2 h
    have hb : r.2 = true := by
      cases hb : r.2
      · exact absurd (r3 hb) h
      · rfl
    have w1 : wrap64 ((r.1.length : Int) - 1) = (r.1.length : Int) - 1 := by unfold wrap64; omega
    have c0 : ¬ (r.1.length : Int) = 0 := by omega
    have c1 : (0 : Int) ≤ (r.1.length : Int) - 1 := by omega
    have c2 : (r.1.length : Int) - 1 < (r.1.length : Int) := by omega
    have e : (rd_T112 r.1 ((r.1.length : Int) - 1)).f0 = lastV r.1 := by
      unfold rd_T112 lastV
      rw [List.getLast?_eq_getElem?, show ((r.1.length : Int) - 1).toNat = r.1.length - 1 by omega, List.getD_eq_getElem?_getD, List.getElem?_eq_getElem (by omega)]
      rfl
    refine ⟨?_, ?_, trivial, trivial⟩
    · simp only [w1, hb, if_true, if_neg c0, if_pos c1, if_pos c2, e]
    · simp only [w1, if_neg c0, if_pos c1, if_pos c2, e]
/-- What stands ahead of a name's last part. -/
theorem upOf_join (s up q : ByteArray) (hs : s.size < 100000000) (hq : (47 : UInt8) ∉ q.data.toList) (e : s.data.toList = up.data.toList ++ 47 :: q.data.toList) (hok : (stepsV s).2 = true) (k : Nat) (hk : 3 * s.size + 80 < k) :
    spec_UpOf.f k s = some up ∧ impl_UpOf.f k s = some up := by
  obtain ⟨_, _, o1, o2⟩ := viewV_at s hs k hk
  have hz : s.size = up.size + 1 + q.size := by rw [← len_size, e, ← len_size, ← len_size]; simp; omega
  have hup : up.data.toList.length = up.size := len_size up
  have b0 : bt s (up.size : Int) = 47 := by
    rw [bt_nat s up.size (by omega)]
    have : s.data.toList[up.size]'(by rw [len_size]; omega) = 47 := by
      rw [List.getElem_of_eq e, List.getElem_append_right (by omega)]
      simp [hup]
    rw [this]; rfl
  have b1 : ∀ i : Nat, up.size < i → i < s.size → bt s (i : Int) ≠ 47 := by
    intro i h1 h2 h
    rw [bt_nat s i h2] at h
    have h3 : s.data.toList[i]'(by rw [len_size]; exact h2) = 47 := u8_inj.1 (h.trans rfl)
    rw [List.getElem_of_eq e, List.getElem_append_right (by omega)] at h3
    have h4 : i - up.data.toList.length = (i - up.size - 1) + 1 := by omega
    simp only [h4, List.getElem_cons_succ] at h3
    exact hq (h3 ▸ List.getElem_mem _)
  have hne : ¬ s.data.toList = [] := by rw [e]; simp
  have hw : wrap64 ((s.size : Int) - 1) = (s.size : Int) - 1 := by unfold wrap64; omega
  rcases last_l s hs s.size k (Nat.le_refl _) (by omega) with ⟨j, hj, q1, q2, q3, q4⟩ | ⟨hn, _, _⟩
  · have hju : j = up.size := by
      by_cases h1 : j < up.size
      · exact absurd b0 (q4 up.size h1 (by omega))
      · by_cases h2 : up.size < j
        · exact absurd q3 (b1 j h2 hj)
        · omega
    subst hju
    have ex : s.extract 0 up.size = up := s_ext (by rw [Lib.extract_data, e, ← hup]; simp)
    rw [ex] at q2
    unfold spec_UpOf.f impl_UpOf.f strings_LastIndexByte.f bytealg_LastIndexByteString.f
    rw [o1, o2, Option.bind_some, Option.bind_some, hok, if_pos rfl, if_pos rfl, Lib.toList_data, if_neg hne, hw, q1, Option.bind_some, Option.bind_some]
    refine ⟨q2, ?_⟩
    rw [if_pos (show (0 : Int) ≤ (up.size : Int) by omega), if_pos (show (up.size : Int) ≤ (s.size : Int) by omega)]
    rw [Int.toNat_natCast, ex]
  · exact absurd b0 (hn up.size (by omega))
theorem within_z (x lo hi : Int) : impl_within.f x lo hi = some (decide (lo ≤ x ∧ x ≤ hi)) := by
  unfold impl_within.f
  by_cases h : x ≥ lo
  · rw [if_pos h]; congr 1; by_cases h2 : x ≤ hi <;> simp [h2] <;> omega
  · rw [if_neg h]; congr 1; symm; exact decide_eq_false (fun x => h x.1)
/-- A transaction is in its bounds. -/
def okZ (x : S99) : Bool := decide (0 ≤ x.f0 ∧ x.f0 ≤ 3) && (decide (0 ≤ x.f1 ∧ x.f1 ≤ 3) && (decide (0 ≤ x.f2 ∧ x.f2 ≤ 1000) && decide (0 ≤ x.f3 ∧ x.f3 ≤ 99)))
theorem implOkZ (x : S99) : impl_TxOk.f x.f0 x.f1 x.f2 x.f3 = some (okZ x) := by
  unfold impl_TxOk.f okZ
  rw [within_z, within_z, within_z, within_z]
  cases decide (0 ≤ x.f0 ∧ x.f0 ≤ 3) <;> cases decide (0 ≤ x.f1 ∧ x.f1 ≤ 3) <;> cases decide (0 ≤ x.f2 ∧ x.f2 ≤ 1000) <;> cases decide (0 ≤ x.f3 ∧ x.f3 ≤ 99) <;> rfl
theorem specOkZ (x : S99) : spec_TxOk.f x.f0 x.f1 x.f2 x.f3 = some (okZ x) := implOkZ x
def txZ (x : S99) : List UInt8 := txL x.f0.toNat x.f1.toNat x.f2.toNat x.f3.toNat
theorem okZ_iff {x : S99} (h : okZ x = true) : (0 ≤ x.f0 ∧ x.f0 ≤ 3) ∧ (0 ≤ x.f1 ∧ x.f1 ≤ 3) ∧ (0 ≤ x.f2 ∧ x.f2 ≤ 1000) ∧ (0 ≤ x.f3 ∧ x.f3 ≤ 99) := by
  unfold okZ at h
  simp only [Bool.and_eq_true, decide_eq_true_eq] at h
  exact h
theorem okZ_txB {x : S99} (h : okZ x = true) : txB x.f0.toNat x.f1.toNat x.f2.toNat x.f3.toNat = true := by
  have := okZ_iff h
  unfold txB
  exact decide_eq_true (by omega)
theorem txText_z (x : S99) (h : okZ x = true) (k : Nat) (hk : 20 < k) : spec_TxText.f k x.f0 x.f1 x.f2 x.f3 = some (mkS (txZ x)) ∧ impl_TxText.f x.f0 x.f1 x.f2 x.f3 = some (mkS (txZ x)) := by
  have hb := okZ_txB h
  have hz := okZ_iff h
  obtain ⟨a, ea⟩ : ∃ a : Nat, x.f0 = (a : Int) := ⟨x.f0.toNat, by omega⟩
  obtain ⟨b, eb⟩ : ∃ a : Nat, x.f1 = (a : Int) := ⟨x.f1.toNat, by omega⟩
  obtain ⟨c, ec⟩ : ∃ a : Nat, x.f2 = (a : Int) := ⟨x.f2.toNat, by omega⟩
  obtain ⟨d, ed⟩ : ∃ a : Nat, x.f3 = (a : Int) := ⟨x.f3.toNat, by omega⟩
  unfold txZ
  rw [ea, eb, ec, ed] at hb ⊢
  simp only [Int.toNat_natCast] at hb ⊢
  rw [specTxText_at a b c d (by omega) (by omega) (by omega) (by omega) k hk, implTxText_at a b c d (by omega) (by omega) (by omega) (by omega), if_pos hb]
  exact ⟨rfl, rfl⟩
theorem txZ_len (x : S99) (h : okZ x = true) : 1 ≤ (txZ x).length ∧ (txZ x).length ≤ 28 := by
  have hz := okZ_iff h
  have h1 := dig_len 5 x.f0.toNat (by omega)
  have h2 := dig_len 5 x.f1.toNat (by omega)
  have h3 := dig_len 5 x.f2.toNat (by omega)
  have h4 := dig_len 5 x.f3.toNat (by omega)
  unfold txZ txL
  simp only [List.length_append, List.length_cons]
  omega
theorem rdTx_mem (xs : List S99) (m : Nat) (h : m < xs.length) : rd_T99 xs (m : Int) ∈ xs := by
  unfold rd_T99
  simp [List.getD_eq_getElem?_getD, List.getElem?_eq_getElem h]
theorem dropTx_at (xs : List S99) (m : Nat) (h : m < xs.length) : xs.drop m = rd_T99 xs (m : Int) :: xs.drop (m + 1) := by
  rw [List.drop_eq_getElem_cons h]
  simp [rd_T99, List.getD_eq_getElem?_getD, List.getElem?_eq_getElem h]
theorem takeTx_at (xs : List S99) (m : Nat) (h : m < xs.length) : xs.take (m + 1) = xs.take m ++ [rd_T99 xs (m : Int)] := by
  rw [List.take_succ_eq_append_getElem h]
  simp [rd_T99, List.getD_eq_getElem?_getD, List.getElem?_eq_getElem h]
theorem join_snoc (c : UInt8) (y : List UInt8) : ∀ xs : List (List UInt8), xs ≠ [] → Lib.join (xs ++ [y]) [c] = Lib.join xs [c] ++ c :: y
  | [], h => absurd rfl h
  | [x], _ => by rw [List.singleton_append, join_cons]; simp [Lib.join, List.intercalate, List.intersperse]
  | x :: z :: t, _ => by
    rw [List.cons_append, List.cons_append, join_cons, join_cons, ← List.cons_append, join_snoc c y (z :: t) (by simp)]
    simp
/-- The texts of transactions, joined. -/
def txsZ (l : List S99) : List UInt8 := Lib.join (l.map txZ) [44]
theorem txsZ_len : ∀ l : List S99, (∀ x ∈ l, okZ x = true) → (txsZ l).length ≤ 29 * l.length
  | [], _ => by simp [txsZ, Lib.join, List.intercalate, List.intersperse]
  | [x], h => by
    have := txZ_len x (h x (by simp))
    rw [show txsZ [x] = txZ x by simp [txsZ, Lib.join, List.intercalate, List.intersperse]]
    simp; omega
  | x :: y :: t, h => by
    have h1 := txZ_len x (h x (by simp))
    have h2 := txsZ_len (y :: t) (fun z hz => h z (List.mem_cons_of_mem _ hz))
    have e : txsZ (x :: y :: t) = txZ x ++ 44 :: txsZ (y :: t) := by
      unfold txsZ
      rw [List.map_cons, List.map_cons, join_cons]
    rw [e, List.length_append, List.length_cons, List.length_cons]
    omega
theorem txsZ_snoc (l : List S99) (x : S99) (h : l ≠ []) : txsZ (l ++ [x]) = txsZ l ++ 44 :: txZ x := by
  unfold txsZ
  rw [List.map_append]
  exact join_snoc 44 (txZ x) (l.map txZ) (by simpa using h)
theorem txsZ_one (x : S99) : txsZ [x] = txZ x := by simp [txsZ, Lib.join, List.intercalate, List.intersperse]
theorem itoa_len (n : Int) (h0 : -9223372036854775808 ≤ n) (h1 : n ≤ 9223372036854775807) : (Lib.itoa n).length ≤ 21 := by
  have p : (10 : Nat) ^ (19 + 1) = 100000000000000000000 := by decide
  unfold Lib.itoa
  split
  · have := dig_len 19 n.natAbs (by rw [p]; omega)
    simp; omega
  · have := dig_len 19 n.toNat (by rw [p]; omega)
    omega
/-- A name's text: what it stands on, a view, transactions. -/
def nameZ (up : ByteArray) (v : Int) (l : List S99) : ByteArray := (((up ++ (⟨#[47]⟩ : ByteArray)) ++ itoaS v) ++ (⟨#[124]⟩ : ByteArray)) ++ mkS (txsZ l)
def partZ (v : Int) (l : List S99) : ByteArray := mkS (Lib.itoa v ++ 124 :: txsZ l)
theorem nameZ_list (up : ByteArray) (v : Int) (l : List S99) : (nameZ up v l).data.toList = up.data.toList ++ 47 :: (partZ v l).data.toList := by
  unfold nameZ partZ itoaS
  simp only [ByteArray.data_append, Array.toList_append, mkS_list]
  simp
theorem nameZ_size (up : ByteArray) (v : Int) (l : List S99) (h0 : -9223372036854775808 ≤ v) (h1 : v ≤ 9223372036854775807) (hx : ∀ x ∈ l, okZ x = true) : (nameZ up v l).size ≤ up.size + 23 + 29 * l.length := by
  have h2 := itoa_len v h0 h1
  have h3 := txsZ_len l hx
  rw [← len_size, nameZ_list, List.length_append, List.length_cons, len_size]
  unfold partZ
  rw [mkS_list, List.length_append, List.length_cons]
  omega
theorem txZ_out (x : S99) (c : UInt8) (h : c.toNat < 48 ∨ 57 < c.toNat) (h1 : c ≠ 62) (h2 : c ≠ 58) (h3 : c ≠ 35) : c ∉ txZ x := txL_out _ _ _ _ c h h1 h2 h3
theorem partZ_out (v : Int) (l : List S99) : (47 : UInt8) ∉ (partZ v l).data.toList := by
  unfold partZ
  rw [mkS_list]
  intro hm
  rcases List.mem_append.1 hm with hm | hm
  · exact itoa_out v 47 (by decide) (by decide) hm
  · rcases List.mem_cons.1 hm with hm | hm
    · exact absurd hm (by decide)
    · refine join_out 44 47 (by decide) _ ?_ hm
      intro x hx
      obtain ⟨y, _, rfl⟩ := List.mem_map.1 hx
      exact txZ_out y 47 (by decide) (by decide) (by decide) (by decide)
theorem cut_part (v : Int) (l : List S99) : cutS (partZ v l) 124 = (itoaS v, mkS (txsZ l), true) := by
  unfold cutS partZ
  rw [mkS_list, cutL_app (itoa_out v 124 (by decide) (by decide))]
  rfl
theorem txs_split (l : List S99) (h : l ≠ []) : splitL 44 (txsZ l) = l.map txZ := by
  unfold txsZ
  refine split_join 44 (l.map txZ) (by simpa using h) ?_
  intro x hx
  obtain ⟨y, _, rfl⟩ := List.mem_map.1 hx
  exact txZ_out y 44 (by decide) (by decide) (by decide) (by decide)
/-- A name with more than two transactions in its last part is none. -/
theorem name_long (up : ByteArray) (v : Int) (l : List S99) (hs : (nameZ up v l).size < 100000000) (hl : 2 < l.length) : (stepsV (nameZ up v l)).2 = false := by
  rw [steps_join (nameZ up v l) up (partZ v l) hs (partZ_out v l) (nameZ_list up v l)]
  have hq : ∀ last, stepQ (partZ v l) last = none := by
    intro last
    unfold stepQ
    rw [cut_part]
    refine if_neg ?_
    rintro ⟨_, _, h2, _, _, h5⟩
    have hne : l ≠ [] := by intro e; rw [e] at hl; simp at hl
    have hsz : (mkS (txsZ l)).size ≤ (nameZ up v l).size := by
      rw [mkS_size, ← len_size, nameZ_list]
      unfold partZ
      rw [mkS_list]
      simp
      omega
    have hsp := txs_split l hne
    have hn : ¬ (mkS (txsZ l)).data.toList = [] := by
      rw [mkS_list]
      intro e
      rw [e] at hsp
      have := congrArg List.length hsp
      simp [splitL] at this
      omega
    have h6 := txsV_len (mkS (txsZ l)) (by omega) hn h2
    rw [mkS_list, hsp, List.length_map] at h6
    have h7 : ((txsV (mkS (txsZ l))).1.length : Int) ≤ 2 := h5
    omega
  rw [hq]
  split <;> rfl
theorem extends_at (s t : ByteArray) (hs : s.size < 100000000) (ht : t.size < 100000000) (k : Nat) (hk : 3 * s.size + 3 * t.size + 80 < k) : ∃ b, spec_Extends.f k s t = some b ∧ impl_Extends.f k s t = some b := by
  obtain ⟨_, o, _, _, o1, o2, _⟩ := viewOf_at s hs k (by omega)
  obtain ⟨_, p, _, _, p1, p2, _⟩ := viewOf_at t ht k (by omega)
  unfold spec_Extends.f impl_Extends.f
  simp only [o1, o2, p1, p2, Option.bind_some]
  cases o
  · exact ⟨false, rfl, rfl⟩
  · cases p
    · exact ⟨false, rfl, rfl⟩
    · simp only [if_true]
      unfold strings_HasPrefix.f stringslite_HasPrefix.f
      have c0 : (0 : Int) ≤ (t.size : Int) := by omega
      by_cases h : (t.size : Int) > (s.size : Int)
      · have h2 : ¬ (s.size : Int) ≥ (t.size : Int) := by omega
        exact ⟨false, by rw [if_pos h], by rw [if_neg h2]; rfl⟩
      · have h2 : (s.size : Int) ≥ (t.size : Int) := by omega
        have h3 : (t.size : Int) ≤ (s.size : Int) := by omega
        simp only [if_neg h, if_pos c0, if_pos h2, if_pos h3, Option.bind_some]
        by_cases e : (s.extract 0 ((t.size : Int)).toNat).toList = t.toList
        · have e2 : ((s.extract 0 ((t.size : Int)).toNat).toList == t.toList) = true := beq_iff_eq.2 e
          rw [if_pos e, e2, if_pos rfl]
          by_cases q : (s.size : Int) = (t.size : Int)
          · exact ⟨true, by rw [if_pos q], by rw [if_pos q]⟩
          · have q2 : (t.size : Int) < (s.size : Int) := by omega
            exact ⟨_, by rw [if_neg q, if_pos q2], by rw [if_neg q, if_pos q2]⟩
        · have e2 : ((s.extract 0 ((t.size : Int)).toNat).toList == t.toList) = false := beq_eq_false_iff_ne.2 e
          rw [if_neg e, e2]
          exact ⟨false, rfl, rfl⟩
theorem setOk_l (n : Int) (l : List Int) (hn : l.length ≤ 9223372036854775807) : ∀ (d m : Nat), m + d = l.length →
    ∃ b, ∀ k, d < k → spec_SetOk.l0 k n l (m : Int) = some b ∧ impl_SetOk.l0 k n l l (l.length : Int) (m : Int) = some b := by
  intro d
  induction d with
  | zero =>
    intro m hd
    have hA : ¬ (m : Int) < (l.length : Int) := by omega
    refine ⟨true, fun k hk => ?_⟩
    obtain ⟨k, rfl⟩ : ∃ q, k = q + 1 := ⟨k - 1, by omega⟩
    exact ⟨by simp only [spec_SetOk.l0, if_neg hA], by simp only [impl_SetOk.l0, if_neg hA]⟩
  | succ d ih =>
    intro m hd
    have hA : (m : Int) < (l.length : Int) := by omega
    have hB : (0 : Int) ≤ (m : Int) := by omega
    have hw1 : wrap64 ((m : Int) - 1) = (m : Int) - 1 := by unfold wrap64; omega
    have hw2 : wrap64 ((m : Int) + 1) = ((m + 1 : Nat) : Int) := wn (n := l.length) (by omega) hn
    obtain ⟨b, hb⟩ := ih (m + 1) (by omega)
    have go : ∀ c : Bool, (∀ k, d < k → (spec_SetOk.l0 (k + 1) n l (m : Int) = some c ∧ impl_SetOk.l0 (k + 1) n l l (l.length : Int) (m : Int) = some c)) → ∃ b, ∀ k, d + 1 < k → spec_SetOk.l0 k n l (m : Int) = some b ∧ impl_SetOk.l0 k n l l (l.length : Int) (m : Int) = some b := by
      intro c h
      refine ⟨c, fun k hk => ?_⟩
      obtain ⟨k, rfl⟩ : ∃ q, k = q + 1 := ⟨k - 1, by omega⟩
      exact h k (by omega)
    by_cases a1 : rd l (m : Int) < 0
    · exact go false fun k hk => ⟨by simp only [spec_SetOk.l0, if_pos hA, if_pos hB, if_pos a1], by simp only [impl_SetOk.l0, if_pos hA, if_pos hB, if_pos a1]⟩
    · by_cases a2 : rd l (m : Int) ≥ n
      · exact go false fun k hk => ⟨by simp only [spec_SetOk.l0, if_pos hA, if_pos hB, if_neg a1, if_pos a2], by simp only [impl_SetOk.l0, if_pos hA, if_pos hB, if_neg a1, if_pos a2]⟩
      · by_cases a3 : (m : Int) > 0
        · have hC : (0 : Int) ≤ (m : Int) - 1 := by omega
          have hD : (m : Int) - 1 < (l.length : Int) := by omega
          by_cases a4 : rd l ((m : Int) - 1) ≥ rd l (m : Int)
          · exact go false fun k hk => ⟨by simp only [spec_SetOk.l0, hw1, if_pos hA, if_pos hB, if_neg a1, if_neg a2, if_pos a3, if_pos hC, if_pos hD, if_pos a4], by simp only [impl_SetOk.l0, hw1, if_pos hA, if_pos hB, if_neg a1, if_neg a2, if_pos a3, if_pos hC, if_pos hD, if_pos a4]⟩
          · exact go b fun k hk => ⟨by simp only [spec_SetOk.l0, hw1, hw2, if_pos hA, if_pos hB, if_neg a1, if_neg a2, if_pos a3, if_pos hC, if_pos hD, if_neg a4]; exact (hb k hk).1, by simp only [impl_SetOk.l0, hw1, hw2, if_pos hA, if_pos hB, if_neg a1, if_neg a2, if_pos a3, if_pos hC, if_pos hD, if_neg a4]; exact (hb k hk).2⟩
        · exact go b fun k hk => ⟨by simp only [spec_SetOk.l0, hw2, if_pos hA, if_pos hB, if_neg a1, if_neg a2, if_neg a3]; exact (hb k hk).1, by simp only [impl_SetOk.l0, hw2, if_pos hA, if_pos hB, if_neg a1, if_neg a2, if_neg a3]; exact (hb k hk).2⟩
theorem setOk_at (n : Int) (l : List Int) (hn : l.length ≤ 9223372036854775807) : ∃ b, ∀ k, l.length < k → spec_SetOk.f k n l = some b ∧ impl_SetOk.f k n l = some b :=
  setOk_l n l hn l.length 0 (by omega)
theorem wf64 {n : Int} (h : (Lit.int .i64 n).wf = true) : -9223372036854775808 ≤ n ∧ n ≤ 9223372036854775807 := by
  simp [Lit.wf, IntKind.min, IntKind.max, IntKind.bits, IntKind.signed] at h
  omega
def confB (a b : Int) : Bool := decide (4 ≤ a ∧ a ≤ 7 ∧ 1 ≤ b ∧ b ≤ 6)
theorem implConf_at (a b : Int) : impl_ConfOk.f a b = some (confB a b) := by
  unfold impl_ConfOk.f impl_within.f confB
  by_cases h : a ≥ 4 <;> by_cases h2 : a ≤ 7 <;> by_cases h3 : b ≥ 1 <;> simp [h, h2, h3] <;> omega
theorem specConf_at (a b : Int) : spec_ConfOk.f a b = some (confB a b) := implConf_at a b
/-- At which place of the order of a view a replica is; -1 where there is none. -/
def seatZ (a b v i : Int) : Int := if confB a b = true ∧ 0 ≤ v ∧ 0 ≤ i ∧ i < a then (i + a - v % a) % a else -1
/-- Who sits at a place. -/
def sitsZ (a b v s : Int) : Int := if confB a b = true ∧ 0 ≤ v ∧ 0 ≤ s ∧ s < a then (v % a + s) % a else -1
theorem confB_iff {a b : Int} (h : confB a b = true) : (a = 4 ∨ a = 5 ∨ a = 6 ∨ a = 7) ∧ 1 ≤ b ∧ b ≤ 6 := by
  unfold confB at h
  have := of_decide_eq_true h
  omega
theorem slEqual_l (xs ys : List Int) (hl : ys.length = xs.length) (hn : xs.length ≤ 9223372036854775807) : ∀ (d k m : Nat), m + d = xs.length → d < k →
    slices_Equal_int_int.l0 k xs ys (xs.length : Int) (m : Int) = some (decide (xs.drop m = ys.drop m)) := by
  intro d
  induction d with
  | zero =>
    intro k m hd hk
    obtain ⟨k, rfl⟩ : ∃ q, k = q + 1 := ⟨k - 1, by omega⟩
    simp only [slices_Equal_int_int.l0]
    rw [if_neg (by omega), List.drop_of_length_le (by omega), List.drop_of_length_le (by omega)]
    simp
  | succ d ih =>
    intro k m hd hk
    obtain ⟨k, rfl⟩ : ∃ q, k = q + 1 := ⟨k - 1, by omega⟩
    simp only [slices_Equal_int_int.l0]
    rw [if_pos (by omega), if_pos (by omega), if_pos (by omega), if_pos (by omega), wn (n := xs.length) (by omega) hn, ih k (m + 1) (by omega) (by omega), drop_at xs m (by omega), drop_at ys m (by omega)]
    by_cases h : rd xs m = rd ys m <;> simp [h]
theorem slEqual_at (xs ys : List Int) (hn : xs.length ≤ 9223372036854775807) (k : Nat) (hk : xs.length < k) : slices_Equal_int_int.f k xs ys = some (decide (xs = ys)) := by
  unfold slices_Equal_int_int.f
  by_cases h : (xs.length : Int) = (ys.length : Int)
  · rw [if_pos h]
    have := slEqual_l xs ys (by omega) hn xs.length k 0 (by omega) hk
    simpa using this
  · rw [if_neg h]
    have : xs ≠ ys := fun e => h (by rw [e])
    simp [this]
/-- Two certificates are alike. -/
def qcB (v : Int) (s : ByteArray) (l : List Int) (v' : Int) (s' : ByteArray) (l' : List Int) : Bool := decide (v = v' ∧ s.toList = s'.toList ∧ l = l')
theorem implQcSame_at (v : Int) (s : ByteArray) (l : List Int) (v' : Int) (s' : ByteArray) (l' : List Int) (hn : l.length ≤ 9223372036854775807) (k : Nat) (hk : 2 * l.length + 1 < k) :
    impl_QcSame.f k v s l v' s' l' = some (qcB v s l v' s' l') := by
  unfold impl_QcSame.f qcB
  rw [slEqual_at l l' hn k (by omega)]
  by_cases h1 : v = v' <;> by_cases h2 : s.toList = s'.toList <;> simp [h1, h2]
theorem quorum_at (a b : Int) : ∃ q, spec_Quorum.f a b = some q ∧ impl_Quorum.f a b = some q := by
  unfold spec_Quorum.f impl_Quorum.f impl_Faults.f
  rw [specConf_at, implConf_at]
  cases confB a b <;> simp
theorem qcOk_at (a b v : Int) (s : ByteArray) (l : List Int) (hs : s.size < 100000000) (hn : l.length < 100000000) (k : Nat) (hk : 3 * s.size + 2 * l.length + 90 < k) :
    ∃ r, spec_QcOk.f k a b v s l = some r ∧ impl_QcOk.f k a b v s l = some r := by
  obtain ⟨w, o, v1, v2, o1, o2, hv, he⟩ := viewOf_at s hs k (by omega)
  obtain ⟨t, ht⟩ := setOk_at a l (by omega)
  obtain ⟨q, q1, q2⟩ := quorum_at a b
  unfold spec_QcOk.f impl_QcOk.f impl_QcFirst.f
  rw [specConf_at, implConf_at]
  obtain ⟨k, rfl⟩ : ∃ q, k = q + 1 := ⟨k - 1, by omega⟩
  have hf : ∀ x0 x1 x2 x3 x4, spec_QcOk.j0 (k + 1) true x0 x1 x2 x3 x4 = some false := by intros; simp [spec_QcOk.j0]
  have hk2 : 2 * l.length + 1 < k + 1 := by omega
  cases hc : confB a b
  · exact ⟨false, by simp [hf], by simp⟩
  · simp only [Option.bind_some, if_true, o1, o2, v1, v2, implQcSame_at _ _ _ _ _ _ (show l.length ≤ 9223372036854775807 by omega) (k + 1) hk2]
    by_cases hz : s.data.toList = []
    · obtain ⟨rfl, rfl⟩ := he hz
      simp only [if_true]
      by_cases hv0 : v = 0
      · subst hv0
        have e1 : ((0 : Int) != 0) = false := by decide
        rw [e1]
        refine ⟨(l.length : Int) == 0, ?_, ?_⟩
        · simp only [spec_QcOk.j0, Lib.toList_data]
          rw [if_neg (by decide), if_pos hz]
        · have e2 : qcB 0 s l 0 (⟨#[]⟩ : ByteArray) [] = ((l.length : Int) == 0) := by
            unfold qcB
            rw [Lib.toList_data, Lib.toList_data, hz]
            cases l with
            | nil => rfl
            | cons x y => simp; omega
          rw [e2]
          cases hl : ((l.length : Int) == 0)
          · simp
          · simp
      · have e1 : ((0 : Int) != v) = true := by simpa using Ne.symm hv0
        have e2 : qcB v s l 0 (⟨#[]⟩ : ByteArray) [] = false := by unfold qcB; simp [hv0]
        rw [e1, e2]
        exact ⟨false, hf _ _ _ _ _, by simp [hv0]⟩
    · have e2 : qcB v s l 0 (⟨#[]⟩ : ByteArray) [] = false := by
        unfold qcB
        rw [Lib.toList_data, Lib.toList_data]
        exact decide_eq_false (fun h => hz h.2.1)
      rw [e2]
      cases o
      · exact ⟨false, by simp [hf], by simp⟩
      · have hw := hv rfl hz
        simp only [if_true]
        by_cases hwv : w = v
        · subst hwv
          have e1 : (w != w) = false := by simp
          rw [e1]
          refine ⟨if t = true then decide ((l.length : Int) ≥ q) else false, ?_, ?_⟩
          · simp only [spec_QcOk.j0, Lib.toList_data]
            rw [if_neg (by decide), if_neg hz]
            rw [(ht k (by omega)).1, Option.bind_some, q1]
            cases t <;> simp
          · have h1 : w ≥ 1 := hw
            simp only [if_pos h1, (ht (k + 1) (by omega)).2, q2, Option.bind_some, if_true]
            cases t <;> simp
        · have e1 : (w != v) = true := by simpa using hwv
          rw [e1]
          refine ⟨false, hf _ _ _ _ _, ?_⟩
          have h2 : ¬ v = w := fun e => hwv e.symm
          simp [h2]
theorem in_at (x lo hi : Int) : ∃ c, spec_l1In.f x lo hi = some c ∧ impl_within.f x lo hi = some c := by
  unfold spec_l1In.f impl_within.f
  by_cases h : x ≥ lo
  · exact ⟨_, by rw [if_pos h], by rw [if_pos h]⟩
  · exact ⟨_, by rw [if_neg h], by rw [if_neg h]⟩
theorem safeOk_at (a b x y v : Int) (s : ByteArray) (l : List Int) (d : ByteArray) (hs : s.size < 100000000) (hn : l.length < 100000000) (hd : d.size < 100000000) (k : Nat) (hk : 3 * s.size + 2 * l.length + 3 * d.size + 90 < k) :
    ∃ r, spec_SafeOk.f k a b x y v s l d = some r ∧ impl_SafeOk.f k a b x y v s l d = some r := by
  obtain ⟨c, c1, c2⟩ := in_at x 0 60
  obtain ⟨e, e1, e2⟩ := in_at y 0 60
  obtain ⟨q, q1, q2⟩ := qcOk_at a b v s l hs hn k (by omega)
  obtain ⟨w, o, v1, v2, o1, o2, hv, he⟩ := viewOf_at d hd k (by omega)
  unfold spec_SafeOk.f impl_SafeOk.f
  simp only [c1, c2, e1, e2, q1, q2, o1, o2, Option.bind_some]
  cases c <;> cases e <;> cases q <;> exact ⟨_, rfl, rfl⟩
theorem settles_j (s : ByteArray) (hs : s.size < 100000000) (b : Bool) (k : Nat) (hk : 3 * s.size + 90 < k) : ∃ r, spec_Settles.j0 k s b = some r ∧ impl_Settles.j0 k s b = some r ∧ r.1.size ≤ s.size := by
  obtain ⟨k, rfl⟩ : ∃ q, k = q + 1 := ⟨k - 1, by omega⟩
  simp only [spec_Settles.j0, impl_Settles.j0]
  cases b
  · obtain ⟨u, u1, u2, u3⟩ := upOf_at s hs k (by omega)
    obtain ⟨v, v1, v2, v3⟩ := upOf_at u (by omega) k (by omega)
    refine ⟨(v, true), ?_, ?_, by show v.size ≤ s.size; omega⟩
    · rw [if_neg (by decide), u1, Option.bind_some, v1, Option.bind_some]
    · rw [if_neg (by decide), u2, Option.bind_some, v2, Option.bind_some]
  · exact ⟨((⟨#[]⟩ : ByteArray), false), by simp, by simp, Nat.zero_le _⟩
theorem settles_at (s : ByteArray) (hs : s.size < 100000000) (k : Nat) (hk : 3 * s.size + 90 < k) : ∃ r, spec_Settles.f k s = some r ∧ impl_Settles.f k s = some r ∧ r.1.size ≤ s.size := by
  obtain ⟨r, r1, r2, r3, r4, _⟩ := steps_at s hs k (by omega)
  obtain ⟨t, t1, t2, t3⟩ := settles_j s hs true k hk
  unfold spec_Settles.f impl_Settles.f
  rw [r1, r2, Option.bind_some, Option.bind_some]
  by_cases h : r.2 = true
  · rw [if_pos h]
    by_cases h3 : (r.1.length : Int) < 3
    · exact ⟨t, by rw [if_pos h3]; exact t1, by rw [if_pos h3]; exact t2, t3⟩
    · have w1 : wrap64 ((r.1.length : Int) - 1) = (r.1.length : Int) - 1 := by unfold wrap64; omega
      have w2 : wrap64 ((r.1.length : Int) - 2) = (r.1.length : Int) - 2 := by unfold wrap64; omega
      have w3 : wrap64 ((r.1.length : Int) - 3) = (r.1.length : Int) - 3 := by unfold wrap64; omega
      have c1 : (0 : Int) ≤ (r.1.length : Int) - 1 := by omega
      have c2 : (r.1.length : Int) - 1 < (r.1.length : Int) := by omega
      have c3 : (0 : Int) ≤ (r.1.length : Int) - 2 := by omega
      have c4 : (r.1.length : Int) - 2 < (r.1.length : Int) := by omega
      have c5 : (0 : Int) ≤ (r.1.length : Int) - 3 := by omega
      have c6 : (r.1.length : Int) - 3 < (r.1.length : Int) := by omega
      simp only [w1, w2, w3, if_neg h3, if_pos c1, if_pos c2, if_pos c3, if_pos c4, if_pos c5, if_pos c6]
      split
      · exact settles_j s hs _ k hk
      · exact ⟨t, t1, t2, t3⟩
  · have hf : r.2 = false := by simpa using h
    rw [if_neg h, r3 hf, if_pos (by simp)]
    exact ⟨t, t1, t2, t3⟩
theorem implCopyQc_at (v : Int) (s : ByteArray) (l : List Int) (hn : l.length < 17592186044416) : impl_copyQc.f v s l = some (v, s, l) := by
  unfold impl_copyQc.f impl_copyInts.f
  rw [if_pos (by simpa using hn)]; rfl
theorem specCopyQc_at (v : Int) (s : ByteArray) (l : List Int) (hn : l.length < 17592186044416) : spec_l7Copy.f v s l = some (v, s, l) := by
  unfold spec_l7Copy.f
  rw [Option.bind_some, if_pos (by simpa using hn)]; rfl
theorem specQcLater_at (v : Int) (s : ByteArray) (l : List Int) (v' : Int) (s' : ByteArray) (l' : List Int) (hn : l.length < 17592186044416) (hn' : l'.length < 17592186044416) :
    spec_QcLater.f v s l v' s' l' = some (if v > v' then (v, s, l) else (v', s', l')) := by
  unfold spec_QcLater.f
  rw [specCopyQc_at v s l hn, specCopyQc_at v' s' l' hn']
  split <;> rfl
theorem implQcLater_at (v : Int) (s : ByteArray) (l : List Int) (v' : Int) (s' : ByteArray) (l' : List Int) (hn : l.length < 17592186044416) (hn' : l'.length < 17592186044416) :
    impl_QcLater.f v s l v' s' l' = some (if v > v' then (v, s, l) else (v', s', l')) := by
  unfold impl_QcLater.f
  rw [implCopyQc_at v s l hn, implCopyQc_at v' s' l' hn']
  split <;> rfl
theorem see_at (a b x y v : Int) (s : ByteArray) (l : List Int) (d : ByteArray) (v' : Int) (s' : ByteArray) (l' : List Int) (hs : s.size < 100000000) (hn : l.length < 100000000) (hd : d.size < 100000000) (hs' : s'.size < 100000000) (hn' : l'.length < 100000000) (k : Nat) (hk : 3 * s.size + 2 * l.length + 3 * d.size + 6 * s'.size + 2 * l'.length + 100 < k) :
    ∃ y2 v2 s2 l2 d2, spec_See.f k a b x y v s l d v' s' l' = some (x, y2, v2, s2, l2, d2) ∧ impl_See.f k a b x y v s l d v' s' l' = some (x, y2, v2, s2, l2, d2) ∧ (l2 = l ∨ l2 = l') ∧ (s2 = s ∨ s2 = s') ∧ (d2 = d ∨ d2.size ≤ s'.size) := by
  obtain ⟨p, p1, p2⟩ := safeOk_at a b x y v s l d hs hn hd k (by omega)
  obtain ⟨q, q1, q2⟩ := qcOk_at a b v' s' l' hs' hn' k (by omega)
  obtain ⟨k, rfl⟩ : ∃ q, k = q + 1 := ⟨k - 1, by omega⟩
  obtain ⟨u, u1, u2, u3⟩ := upOf_at s' hs' k (by omega)
  obtain ⟨w, _, w1, w2, _⟩ := viewOf_at u (by omega) k (by omega)
  obtain ⟨t, t1, t2, t3⟩ := settles_at s' hs' k (by omega)
  obtain ⟨e, e1, e2⟩ := extends_at t.1 d (by omega) hd k (by omega)
  have c1 : spec_l11Copy.f x y v s l d = some (x, y, v, s, l, d) := by unfold spec_l11Copy.f; rw [specCopyQc_at v s l (by omega)]; rfl
  have c2 : impl_copySafe.f x y v s l d = some (x, y, v, s, l, d) := by unfold impl_copySafe.f; rw [implCopyQc_at v s l (by omega)]; rfl
  have f1 := specQcLater_at v' s' l' v s l (by omega) (by omega)
  have f2 := implQcLater_at v' s' l' v s l (by omega) (by omega)
  have g1 : ∀ z, spec_l1Max.f y z = some (mx y z) := by
    intro z
    unfold spec_l1Max.f mx
    by_cases h : y > z
    · rw [if_pos h]; simp; omega
    · rw [if_neg h]; simp; omega
  have bad1 : ∀ x0 x1 x2 x3 x4 x5 x6 x7 x8, spec_See.j0 (k + 1) true x0 x1 x2 x3 x4 x5 x6 x7 x8 x y v s l d = some (x, y, v, s, l, d) := by intros; simp [spec_See.j0]
  have bad2 : ∀ x0 x1 x2 x3 x4 x5 x6 x7 x8, impl_See.j0 (k + 1) true x0 x1 x2 x3 x4 x5 x6 x7 x8 x y v s l d = some (x, y, v, s, l, d) := by intros; simp [impl_See.j0]
  unfold spec_See.f impl_See.f
  simp only [c1, c2, p1, p2, q1, q2, Option.bind_some]
  cases p
  · exact ⟨y, v, s, l, d, bad1 x y v s l d v' s' l', bad2 x y v s l d v' s' l', Or.inl rfl, Or.inl rfl, Or.inl rfl⟩
  · simp only [if_true]
    cases q
    · exact ⟨y, v, s, l, d, bad1 x y v s l d v' s' l', bad2 x y v s l d v' s' l', Or.inl rfl, Or.inl rfl, Or.inl rfl⟩
    · have key : ∀ (v2 : Int) (s2 : ByteArray) (l2 : List Int), (l2 = l ∨ l2 = l') → (s2 = s ∨ s2 = s') → (if v' > v then (v', s', l') else (v, s, l)) = (v2, s2, l2) → ∃ y2 v2 s2 l2 d2, spec_See.j0 (k + 1) (!true) x y v s l d v' s' l' x y v s l d = some (x, y2, v2, s2, l2, d2) ∧ impl_See.j0 (k + 1) (!true) x y v s l d v' s' l' x y v s l d = some (x, y2, v2, s2, l2, d2) ∧ (l2 = l ∨ l2 = l') ∧ (s2 = s ∨ s2 = s') ∧ (d2 = d ∨ d2.size ≤ s'.size) := by
        intro v2 s2 l2 hl hs2 he
        rw [he] at f1 f2
        refine ⟨mx y w, v2, s2, l2, if t.2 = true then (if e = true then t.1 else d) else d, ?_, ?_, hl, hs2, ?_⟩
        · simp only [spec_See.j0, f1, u1, w1, g1, t1, e1, Option.bind_some, Bool.not_true, Bool.false_eq_true, if_false]
          cases t.2
          · simp
          · cases e <;> simp
        · simp only [impl_See.j0, f2, u2, w2, t2, e2, Option.bind_some, Bool.not_true, Bool.false_eq_true, if_false]
          cases t.2
          · simp
          · cases e <;> simp
        · by_cases h : t.2 = true
          · rw [if_pos h]
            by_cases h2 : e = true
            · rw [if_pos h2]; exact Or.inr t3
            · rw [if_neg h2]; exact Or.inl rfl
          · rw [if_neg h]; exact Or.inl rfl
      by_cases hv : v' > v
      · exact key v' s' l' (Or.inr rfl) (Or.inr rfl) (if_pos hv)
      · exact key v s l (Or.inl rfl) (Or.inl rfl) (if_neg hv)
/-- Names that stand on each other, their views g apart, from v on. -/
def nm (v g : Nat) : Nat → ByteArray
  | 0 => (⟨#[]⟩ : ByteArray)
  | i + 1 => nameZ (nm v g i) ((v + g * (i + 1) : Nat) : Int) []
def stL (v g : Nat) : Nat → List S112
  | 0 => []
  | i + 1 => stL v g i ++ [⟨((v + g * (i + 1) : Nat) : Int), []⟩]
theorem stL_len (v g : Nat) : ∀ i, (stL v g i).length = i
  | 0 => rfl
  | i + 1 => by simp [stL, stL_len v g i]
/-- A name's view. -/
def vw (v g : Nat) : Nat → Int
  | 0 => 0
  | i + 1 => ((v + g * (i + 1) : Nat) : Int)
theorem lastV_stL (v g : Nat) : ∀ i, lastV (stL v g i) = vw v g i
  | 0 => rfl
  | i + 1 => lastV_snoc _ _
theorem txsZ_nil : txsZ [] = [] := by simp [txsZ, Lib.join, List.intercalate, List.intersperse]
theorem vw_le (v g : Nat) (hv : v ≤ 6) (hg : g = 1 ∨ g = 2) : ∀ i, i ≤ 8 → v + g * i ≤ 22 := by
  intro i hi
  rcases hg with rfl | rfl <;> omega
theorem nm_size (v g : Nat) (hv : v ≤ 6) (hg : g = 1 ∨ g = 2) : ∀ i, i ≤ 8 → (nm v g i).size ≤ 23 * i
  | 0, _ => Nat.zero_le _
  | i + 1, hi => by
    have h := nm_size v g hv hg i (by omega)
    have h2 := vw_le v g hv hg (i + 1) hi
    have h3 := nameZ_size (nm v g i) ((v + g * (i + 1) : Nat) : Int) [] (by omega) (by omega) (by simp)
    have h4 : (nm v g (i + 1)).size ≤ (nm v g i).size + 23 + 29 * 0 := h3
    omega
theorem part_list (n : Nat) : (partZ (n : Int) []).data.toList = Lib.decDigits n ++ 124 :: (mkS []).data.toList := by
  unfold partZ
  rw [mkS_list, mkS_list, txsZ_nil]
  unfold Lib.itoa
  rw [if_neg (by omega)]
  rfl
theorem nm_steps (v g : Nat) (hv : v ≤ 6) (hg : g = 1 ∨ g = 2) : ∀ i, i ≤ 8 → stepsV (nm v g i) = (stL v g i, true)
  | 0, _ => by
    have h : (nm v g 0).size = 0 := rfl
    have hl : (nm v g 0).data.toList = [] := by show (⟨#[]⟩ : ByteArray).data.toList = []; simp
    rw [stepsV_eq _ (by omega), if_pos hl]
    rfl
  | i + 1, hi => by
    have ih := nm_steps v g hv hg i (by omega)
    have hs := nm_size v g hv hg (i + 1) hi
    have h2 := vw_le v g hv hg (i + 1) hi
    have e : nm v g (i + 1) = nameZ (nm v g i) ((v + g * (i + 1) : Nat) : Int) [] := rfl
    rw [steps_join (nm v g (i + 1)) (nm v g i) (partZ ((v + g * (i + 1) : Nat) : Int) []) (by omega) (partZ_out _ _) (by rw [e]; exact nameZ_list _ _ _), ih]
    have hlt : lastV (stL v g i) < ((v + g * (i + 1) : Nat) : Int) := by
      rw [lastV_stL]
      cases i with
      | zero => show (0 : Int) < _; rcases hg with rfl | rfl <;> omega
      | succ j => show ((v + g * (j + 1) : Nat) : Int) < _; rcases hg with rfl | rfl <;> omega
    rw [if_pos ⟨rfl, by rw [stL_len]; omega⟩, stepQ_dig (v + g * (i + 1)) (by omega) (mkS []) _ (part_list _), txsV_nil (mkS []) (mkS_list []), if_pos ⟨rfl, hlt, by omega, by simp⟩]
    rfl
theorem nm_ne (v g i : Nat) : ¬ (nm v g (i + 1)).data.toList = [] := by
  show ¬ (nameZ (nm v g i) ((v + g * (i + 1) : Nat) : Int) []).data.toList = []
  rw [nameZ_list]
  simp
theorem nm_vals (v g : Nat) (hv : v ≤ 6) (hg : g = 1 ∨ g = 2) (i : Nat) (hi : i ≤ 8) (k : Nat) (hk : 10000 < k) :
    impl_ViewOf.f k (nm v g i) = some (vw v g i) ∧ impl_NameOk.f k (nm v g i) = some true := by
  have hs := nm_size v g hv hg i hi
  obtain ⟨_, h1, _, h2⟩ := viewV_at (nm v g i) (by omega) k (by omega)
  rw [nm_steps v g hv hg i hi, lastV_stL] at h1
  rw [nm_steps v g hv hg i hi] at h2
  exact ⟨h1, h2⟩
theorem nm_up (v g : Nat) (hv : v ≤ 6) (hg : g = 1 ∨ g = 2) (i : Nat) (hi : i < 8) (k : Nat) (hk : 10000 < k) : impl_UpOf.f k (nm v g (i + 1)) = some (nm v g i) := by
  have hs := nm_size v g hv hg (i + 1) hi
  exact (upOf_join (nm v g (i + 1)) (nm v g i) _ (by omega) (partZ_out _ _) (nameZ_list _ _ _) (by rw [nm_steps v g hv hg (i + 1) hi]) k (by omega)).2
theorem nm_up0 (v g : Nat) (hv : v ≤ 6) (hg : g = 1 ∨ g = 2) (k : Nat) (hk : 10000 < k) : impl_UpOf.f k (nm v g 0) = some (nm v g 0) := by
  unfold impl_UpOf.f
  have hl : (nm v g 0).toList = [] := by rw [Lib.toList_data]; show (⟨#[]⟩ : ByteArray).data.toList = []; simp
  rw [(nm_vals v g hv hg 0 (by omega) k hk).2, Option.bind_some, if_pos rfl, if_pos hl]
  rfl
/-- impl.NameOf of no transactions. -/
theorem implNameOf_nil (up : ByteArray) (n : Nat) (hn : n ≤ 1000) (hup : up.size ≤ 1000) (k : Nat) (hk : 10000 < k) : impl_NameOf.f k up (n : Int) [] = some (if (stepsV (nameZ up (n : Int) [])).2 = true then nameZ up (n : Int) [] else (⟨#[]⟩ : ByteArray)) := by
  have hsz := nameZ_size up (n : Int) [] (by omega) (by omega) (by simp)
  have hs : (nameZ up (n : Int) []).size < 100000000 := by simp at hsz; omega
  have hi := itoa_len (n : Int) (by omega) (by omega)
  obtain ⟨k, rfl⟩ : ∃ q, k = q + 1 := ⟨k - 1, by omega⟩
  obtain ⟨_, d2⟩ := digits_any (n : Int) (by omega) (by omega) k (by omega)
  obtain ⟨_, _, _, n2⟩ := viewV_at (nameZ up (n : Int) []) hs k (by simp at hsz; omega)
  have o1 : (⟨#[47]⟩ : ByteArray).size = 1 := rfl
  have o2 : (⟨#[124]⟩ : ByteArray).size = 1 := rfl
  have o3 : (itoaS (n : Int)).size = (Lib.itoa (n : Int)).length := mkS_size _
  have o4 : (mkS (txsZ [])).size = 0 := by rw [mkS_size, txsZ_nil]; rfl
  have t2 : impl_TxsText.f k [] = some (mkS (txsZ [])) := by
    obtain ⟨k, rfl⟩ : ∃ q, k = q + 1 := ⟨k - 1, by omega⟩
    unfold impl_TxsText.f
    simp only [impl_TxsText.l0]
    rw [if_neg (by simp)]
    unfold strings_Join.f
    rw [if_pos (by simp), txsZ_nil]
    rfl
  have c1 : up.size + 1 ≤ 9223372036854775807 := by omega
  have c2 : (up ++ (⟨#[47]⟩ : ByteArray)).size + (itoaS (n : Int)).size ≤ 9223372036854775807 := by rw [ByteArray.size_append]; omega
  have c3 : ((up ++ (⟨#[47]⟩ : ByteArray)) ++ itoaS (n : Int)).size + 1 ≤ 9223372036854775807 := by rw [ByteArray.size_append, ByteArray.size_append]; omega
  have c4 : (((up ++ (⟨#[47]⟩ : ByteArray)) ++ itoaS (n : Int)) ++ (⟨#[124]⟩ : ByteArray)).size + (mkS (txsZ [])).size ≤ 9223372036854775807 := by rw [ByteArray.size_append, ByteArray.size_append, ByteArray.size_append]; omega
  have hN : (((up ++ (⟨#[47]⟩ : ByteArray)) ++ itoaS (n : Int)) ++ (⟨#[124]⟩ : ByteArray)) ++ mkS (txsZ []) = nameZ up (n : Int) [] := rfl
  unfold impl_NameOf.f
  simp only [impl_NameOf.l0]
  rw [if_neg (by simp), if_pos c1, d2, Option.bind_some, if_pos c2, if_pos c3, t2, Option.bind_some, if_pos c4, hN, if_neg (by simp), n2, Option.bind_some]
  by_cases h : (stepsV (nameZ up (n : Int) [])).2 = true
  · rw [if_pos h, if_pos h]
  · rw [if_neg h, if_neg h]
/-- Who: all of them. -/
def whoL (n : Nat) : List Int := (List.range n).map fun i : Nat => ((i : Nat) : Int)
theorem who_ok (n f : Nat) (hn : n = 4 ∨ n = 5 ∨ n = 6 ∨ n = 7) (hf : 1 ≤ f ∧ f ≤ 6) (k : Nat) (hk : 20 < k) :
    impl_SetOk.f k (n : Int) (whoL n) = some true ∧ ∃ q, impl_Quorum.f (n : Int) (f : Int) = some q ∧ q ≤ ((whoL n).length : Int) := by
  obtain ⟨k, rfl⟩ : ∃ q, k = q + 10 := ⟨k - 10, by omega⟩
  have hc : confB (n : Int) (f : Int) = true := by
    unfold confB
    exact decide_eq_true (by omega)
  constructor
  · rcases hn with rfl | rfl | rfl | rfl <;> simp [impl_SetOk.f, impl_SetOk.l0, whoL, List.range, List.range.loop, rd, wrap64]
  · unfold impl_Quorum.f impl_Faults.f
    rw [implConf_at, hc]
    rcases hn with rfl | rfl | rfl | rfl <;> exact ⟨_, rfl, by simp [whoL, wrap64]⟩
/-- A certificate of the chain. -/
def qw (n i : Nat) : List Int := if i = 0 then [] else whoL n
theorem qw_len (n i : Nat) (hn : n = 4 ∨ n = 5 ∨ n = 6 ∨ n = 7) : (qw n i).length ≤ 7 := by
  unfold qw whoL
  split
  · simp
  · simp; omega
theorem qc_ok (v g : Nat) (hv : v ≤ 6) (hg : g = 1 ∨ g = 2) (n f : Nat) (hn : n = 4 ∨ n = 5 ∨ n = 6 ∨ n = 7) (hf : 1 ≤ f ∧ f ≤ 6) (i : Nat) (hi : i ≤ 8) (k : Nat) (hk : 10000 < k) :
    impl_QcOk.f k (n : Int) (f : Int) (vw v g i) (nm v g i) (qw n i) = some true := by
  have hc : confB (n : Int) (f : Int) = true := by
    unfold confB
    exact decide_eq_true (by omega)
  have hl := qw_len n i hn
  obtain ⟨h1, h2⟩ := nm_vals v g hv hg i hi k hk
  obtain ⟨s1, q, s2, s3⟩ := who_ok n f hn hf k (by omega)
  unfold impl_QcOk.f impl_QcFirst.f
  rw [implConf_at, hc]
  simp only [Option.bind_some, if_true, implQcSame_at _ _ _ _ _ _ (show (qw n i).length ≤ 9223372036854775807 by omega) k (by omega)]
  cases i with
  | zero =>
    have e : qcB (vw v g 0) (nm v g 0) (qw n 0) 0 (⟨#[]⟩ : ByteArray) [] = true := by
      unfold qcB
      exact decide_eq_true ⟨rfl, rfl, rfl⟩
    rw [e]
    rfl
  | succ j =>
    have e : qcB (vw v g (j + 1)) (nm v g (j + 1)) (qw n (j + 1)) 0 (⟨#[]⟩ : ByteArray) [] = false := by
      unfold qcB
      refine decide_eq_false (fun h => nm_ne v g j ?_)
      rw [← Lib.toList_data, h.2.1, Lib.toList_data]
    have e2 : vw v g (j + 1) ≥ 1 := by
      show ((v + g * (j + 1) : Nat) : Int) ≥ 1
      rcases hg with rfl | rfl <;> omega
    have e3 : qw n (j + 1) = whoL n := rfl
    rw [e, h2, h1, e3, s1, s2]
    simp only [Option.bind_some, if_true, if_pos e2, Bool.false_eq_true, if_false]
    rw [decide_eq_true (show ((whoL n).length : Int) ≥ q from s3)]
theorem bn_val (v g : Nat) (hv : v ≤ 6) (hg : g = 1 ∨ g = 2) (n f : Nat) (hn : n = 4 ∨ n = 5 ∨ n = 6 ∨ n = 7) (hf : 1 ≤ f ∧ f ≤ 6) (i : Nat) (hi : i < 8) (k : Nat) (hk : 20000 < k) :
    impl_BlockNew.f k (n : Int) (f : Int) (vw v g i) (nm v g i) (qw n i) ((v + g * (i + 1) : Nat) : Int) [] = some (nm v g (i + 1), vw v g i, nm v g i, qw n i, true) := by
  have hl := qw_len n i hn
  have hs := nm_size v g hv hg i (by omega)
  have h2 := vw_le v g hv hg (i + 1) (by omega)
  have hN := implNameOf_nil (nm v g i) (v + g * (i + 1)) (by omega) (by omega) k (by omega)
  have hst := nm_steps v g hv hg (i + 1) (by omega)
  have e : nameZ (nm v g i) ((v + g * (i + 1) : Nat) : Int) [] = nm v g (i + 1) := rfl
  rw [e, hst, if_pos rfl] at hN
  have hq := qc_ok v g hv hg n f hn hf i (by omega) k (by omega)
  obtain ⟨w1, w2⟩ := nm_vals v g hv hg (i + 1) (by omega) k (by omega)
  have hu := nm_up v g hv hg i hi k (by omega)
  have hne : ¬ (nm v g (i + 1)).toList = [] := by rw [Lib.toList_data]; exact nm_ne v g i
  unfold impl_BlockNew.f impl_BlockOk.f
  simp only [hN, implCopyQc_at (vw v g i) (nm v g i) (qw n i) (by omega), Option.bind_some, hq, if_true, if_neg hne, w2, hu, w1]
  have e2 : ((nm v g i).toList == (nm v g i).toList) = true := by simp
  have e3 : vw v g (i + 1) = ((v + g * (i + 1) : Nat) : Int) := rfl
  rw [e2, e3, if_pos rfl, if_pos rfl]
theorem stL_get (v g : Nat) : ∀ i j, j < i → rd_T112 (stL v g i) (j : Int) = ⟨((v + g * (j + 1) : Nat) : Int), []⟩
  | 0, j, h => absurd h (Nat.not_lt_zero _)
  | i + 1, j, h => by
    unfold rd_T112
    rw [List.getD_eq_getElem?_getD, Int.toNat_natCast]
    show ((stL v g i ++ [⟨((v + g * (i + 1) : Nat) : Int), []⟩])[j]?).getD _ = _
    by_cases hj : j < i
    · have ih := stL_get v g i j hj
      unfold rd_T112 at ih
      rw [List.getD_eq_getElem?_getD, Int.toNat_natCast] at ih
      rw [List.getElem?_append_left (by rw [stL_len]; exact hj)]
      exact ih
    · obtain rfl : j = i := by omega
      rw [List.getElem?_append_right (by rw [stL_len]; omega), stL_len]
      simp
theorem w1_ (n : Nat) (h : n ≤ 1000) : wrap64 ((n : Int) + 1) = ((n + 1 : Nat) : Int) := by unfold wrap64; omega
theorem wm_ (m c : Nat) (h : m ≤ 1000) (hc : c ≤ 3) : wrap64 (((m + 3 : Nat) : Int) - (c : Int)) = ((m + 3 - c : Nat) : Int) := by unfold wrap64; omega
theorem settles_val (v g : Nat) (hv : v ≤ 6) (hg : g = 1 ∨ g = 2) (i : Nat) (hi : i ≤ 8) (k : Nat) (hk : 20000 < k) :
    impl_Settles.f k (nm v g i) = some (if g = 1 ∧ 3 ≤ i then (nm v g (i - 2), true) else ((⟨#[]⟩ : ByteArray), false)) := by
  have hs := nm_size v g hv hg i hi
  have h1 := (stepsV_at (nm v g i) (by omega) k (by omega)).2
  rw [nm_steps v g hv hg i hi] at h1
  have hlen := stL_len v g i
  have jt : impl_Settles.j0 k (nm v g i) true = some ((⟨#[]⟩ : ByteArray), false) := by
    obtain ⟨k, rfl⟩ : ∃ q, k = q + 1 := ⟨k - 1, by omega⟩
    simp [impl_Settles.j0]
  unfold impl_Settles.f
  rw [h1, Option.bind_some]
  dsimp only
  rw [hlen]
  by_cases h3 : i < 3
  · rw [if_pos (by omega), jt, if_neg (fun h => by have := h.2; omega)]
  · obtain ⟨m, rfl⟩ : ∃ m, i = m + 3 := ⟨i - 3, by omega⟩
    have b2 : v + g * (m + 1 + 1) ≤ 22 := by rcases hg with rfl | rfl <;> omega
    have b3 : v + g * (m + 1) ≤ 22 := by rcases hg with rfl | rfl <;> omega
    have b4 : v + g * (m + 1 + 1) ≤ 1000 := by omega
    have b5 : v + g * (m + 1) ≤ 1000 := by omega
    have b6 : m ≤ 1000 := by omega
    have c0 : ¬ ((m + 3 : Nat) : Int) < 3 := by omega
    have c1 : (0 : Int) ≤ ((m + 2 : Nat) : Int) := by omega
    have c2 : ((m + 2 : Nat) : Int) < ((m + 3 : Nat) : Int) := by omega
    have c3 : (0 : Int) ≤ ((m + 1 : Nat) : Int) := by omega
    have c4 : ((m + 1 : Nat) : Int) < ((m + 3 : Nat) : Int) := by omega
    have c5 : (0 : Int) ≤ (m : Int) := by omega
    have c6 : (m : Int) < ((m + 3 : Nat) : Int) := by omega
    have g1 := stL_get v g (m + 3) (m + 2) (by omega)
    have g2 := stL_get v g (m + 3) (m + 1) (by omega)
    have g3 := stL_get v g (m + 3) m (by omega)
    have hA1 : ((v + 1 * (m + 2 + 1) : Nat) : Int) = ((v + 1 * (m + 1 + 1) + 1 : Nat) : Int) := by omega
    have hA2 : ¬ ((v + 2 * (m + 2 + 1) : Nat) : Int) = ((v + 2 * (m + 1 + 1) + 1 : Nat) : Int) := by omega
    have hB : (((v + 1 * (m + 1 + 1) : Nat) : Int) != ((v + 1 * (m + 1) + 1 : Nat) : Int)) = false := by
      rw [bne_eq_false_iff_eq]; omega
    have h33 : 3 ≤ m + 3 := by omega
    have u1 := fun k hk => nm_up v 1 hv (Or.inl rfl) (m + 2) (by omega) k hk
    have u2 := fun k hk => nm_up v 1 hv (Or.inl rfl) (m + 1) (by omega) k hk
    obtain ⟨k, rfl⟩ : ∃ q, k = q + 1 := ⟨k - 1, by omega⟩
    have hk3 : 10000 < k := by omega
    clear hk h1 hlen h3 hs hi
    have e1 := wm_ m 1 b6 (by decide)
    have e2 := wm_ m 2 b6 (by decide)
    have e3 := wm_ m 3 b6 (by decide)
    rw [show ((1 : Nat) : Int) = 1 from rfl, show m + 3 - 1 = m + 2 from rfl] at e1
    rw [show ((2 : Nat) : Int) = 2 from rfl, show m + 3 - 2 = m + 1 from rfl] at e2
    rw [show ((3 : Nat) : Int) = 3 from rfl, show m + 3 - 3 = m from rfl] at e3
    have f1 := w1_ (v + g * (m + 1 + 1)) b4
    have f2 := w1_ (v + g * (m + 1)) b5
    rw [if_neg c0, e1, if_pos c1, if_pos c2, e2, if_pos c3, if_pos c4, g1, g2, e3]
    dsimp only
    rw [f1]
    rcases hg with rfl | rfl
    · rw [if_pos hA1, if_pos c5, if_pos c6, g3]
      dsimp only
      rw [f2, hB]
      simp only [impl_Settles.j0]
      rw [if_neg (by decide), show m + 3 = m + 2 + 1 from rfl, u1 k hk3, Option.bind_some, u2 k hk3, Option.bind_some, if_pos ⟨trivial, h33⟩]
      rfl
    · rw [if_neg hA2, jt, if_neg (fun h => absurd h.1 (by decide))]
theorem ext_val (s t : ByteArray) (q : List UInt8) (e : s.data.toList = t.data.toList ++ q) (hq : q = [] ∨ ∃ r, q = 47 :: r) (k : Nat) (h1 : impl_NameOk.f k s = some true) (h2 : impl_NameOk.f k t = some true) : impl_Extends.f k s t = some true := by
  have hz : s.size = t.size + q.length := by rw [← len_size, e, List.length_append, len_size]
  unfold impl_Extends.f strings_HasPrefix.f stringslite_HasPrefix.f
  have c0 : (0 : Int) ≤ (t.size : Int) := by omega
  have c1 : (s.size : Int) ≥ (t.size : Int) := by omega
  have c2 : (t.size : Int) ≤ (s.size : Int) := by omega
  have e2 : ((s.extract 0 ((t.size : Int)).toNat).toList == t.toList) = true := by
    rw [beq_iff_eq, Lib.toList_data, Lib.toList_data, Lib.extract_data, e, Int.toNat_natCast, List.drop_zero, Nat.sub_zero, ← len_size t, List.take_left]
  simp only [h1, h2, Option.bind_some, if_true, if_pos c1, if_pos c0, if_pos c2, e2]
  rcases hq with rfl | ⟨r, rfl⟩
  · have hs : (s.size : Int) = (t.size : Int) := by simp at hz; omega
    rw [if_pos hs]
  · have hs : ¬ (s.size : Int) = (t.size : Int) := by simp at hz; omega
    have hs2 : (t.size : Int) < (s.size : Int) := by simp at hz; omega
    have hb : bt s (t.size : Int) = 47 := by
      rw [bt_nat s t.size (by omega)]
      have : s.data.toList[t.size]'(by rw [len_size]; omega) = 47 := by
        rw [List.getElem_of_eq e, List.getElem_append_right (by rw [len_size]; omega)]
        simp [len_size]
      rw [this]; rfl
    rw [if_neg hs, if_pos hs2, hb]
    rfl
theorem nm_ext (v g : Nat) (hv : v ≤ 6) (hg : g = 1 ∨ g = 2) (i : Nat) (hi : i < 8) (k : Nat) (hk : 20000 < k) : impl_Extends.f k (nm v g (i + 1)) (nm v g i) = some true :=
  ext_val _ _ _ (nameZ_list (nm v g i) _ []) (Or.inr ⟨_, rfl⟩) k (nm_vals v g hv hg (i + 1) (by omega) k (by omega)).2 (nm_vals v g hv hg i (by omega) k (by omega)).2
theorem nm_self (v g : Nat) (hv : v ≤ 6) (hg : g = 1 ∨ g = 2) (i : Nat) (hi : i ≤ 8) (k : Nat) (hk : 20000 < k) : impl_Extends.f k (nm v g i) (nm v g i) = some true :=
  ext_val _ _ [] (by simp) (Or.inl rfl) k (nm_vals v g hv hg i hi k (by omega)).2 (nm_vals v g hv hg i hi k (by omega)).2
theorem see_val (a b x y v : Int) (s : ByteArray) (l : List Int) (d : ByteArray) (v' : Int) (s' : ByteArray) (l' : List Int) (hn : l.length < 1000000) (hn' : l'.length < 1000000) (k : Nat)
    (hp : impl_SafeOk.f (k + 1) a b x y v s l d = some true) (hq : impl_QcOk.f (k + 1) a b v' s' l' = some true) (u : ByteArray) (w : Int) (t : ByteArray × Bool) (d2 : ByteArray)
    (hu : impl_UpOf.f k s' = some u) (hw : impl_ViewOf.f k u = some w) (ht : impl_Settles.f k s' = some t) (he : (t.2 = true ∧ impl_Extends.f k t.1 d = some true ∧ d2 = t.1) ∨ (t.2 = false ∧ d2 = d)) (v2 : Int) (s2 : ByteArray) (l2 : List Int)
    (h2 : (if v' > v then (v', s', l') else (v, s, l)) = (v2, s2, l2)) : impl_See.f (k + 1) a b x y v s l d v' s' l' = some (x, mx y w, v2, s2, l2, d2) := by
  have c2 : impl_copySafe.f x y v s l d = some (x, y, v, s, l, d) := by unfold impl_copySafe.f; rw [implCopyQc_at v s l (by omega)]; rfl
  have f2 := implQcLater_at v' s' l' v s l (by omega) (by omega)
  rw [h2] at f2
  unfold impl_See.f
  simp only [c2, hp, hq, Option.bind_some, if_true, impl_See.j0, f2, hu, hw, ht, Bool.not_true, Bool.false_eq_true, if_false]
  rcases he with ⟨e1, e2, rfl⟩ | ⟨e1, rfl⟩
  · rw [e1, if_pos rfl, e2, Option.bind_some, if_pos rfl]
  · rw [e1, if_neg (by decide)]
/-- What is done. -/
def dn (v g i : Nat) : ByteArray := if g = 1 then nm v g (i - 2) else nm v g 0
theorem vw_le2 (v g : Nat) (hv : v ≤ 6) (hg : g = 1 ∨ g = 2) (i : Nat) (hi : i ≤ 8) : 0 ≤ vw v g i ∧ vw v g i ≤ 22 := by
  cases i with
  | zero => exact ⟨Int.le_refl _, by show (0 : Int) ≤ 22; omega⟩
  | succ j =>
    have := vw_le v g hv hg (j + 1) hi
    show 0 ≤ ((v + g * (j + 1) : Nat) : Int) ∧ ((v + g * (j + 1) : Nat) : Int) ≤ 22
    omega
theorem vw_mono (v g : Nat) (hg : g = 1 ∨ g = 2) (i : Nat) : vw v g (i - 1) ≤ vw v g i ∧ vw v g i < vw v g (i + 1) := by
  cases i with
  | zero =>
    constructor
    · exact Int.le_refl _
    · show (0 : Int) < ((v + g * (0 + 1) : Nat) : Int)
      rcases hg with rfl | rfl <;> omega
  | succ j =>
    constructor
    · cases j with
      | zero => show (0 : Int) ≤ ((v + g * (0 + 1) : Nat) : Int); omega
      | succ m => show ((v + g * (m + 1) : Nat) : Int) ≤ ((v + g * (m + 1 + 1) : Nat) : Int); rcases hg with rfl | rfl <;> omega
    · show ((v + g * (j + 1) : Nat) : Int) < ((v + g * (j + 1 + 1) : Nat) : Int)
      rcases hg with rfl | rfl <;> omega
theorem safe_ok (v g : Nat) (hv : v ≤ 6) (hg : g = 1 ∨ g = 2) (n f : Nat) (hn : n = 4 ∨ n = 5 ∨ n = 6 ∨ n = 7) (hf : 1 ≤ f ∧ f ≤ 6) (i : Nat) (hi : i ≤ 8) (k : Nat) (hk : 20000 < k) :
    impl_SafeOk.f k (n : Int) (f : Int) 0 (vw v g (i - 1)) (vw v g i) (nm v g i) (qw n i) (dn v g i) = some true := by
  have h1 := qc_ok v g hv hg n f hn hf i hi k (by omega)
  have h2 := vw_le2 v g hv hg (i - 1) (by omega)
  have h3 : impl_NameOk.f k (dn v g i) = some true := by
    unfold dn
    split
    · exact (nm_vals v g hv hg (i - 2) (by omega) k (by omega)).2
    · exact (nm_vals v g hv hg 0 (by omega) k (by omega)).2
  unfold impl_SafeOk.f
  rw [within_z, within_z, decide_eq_true (show (0 : Int) ≤ 0 ∧ (0 : Int) ≤ 60 by omega), decide_eq_true (show 0 ≤ vw v g (i - 1) ∧ vw v g (i - 1) ≤ 60 by omega)]
  simp only [Option.bind_some, if_true, h1, h3]
theorem mx_ge (a b : Int) (h : a ≤ b) : mx a b = b := by unfold mx; simp; omega
theorem see_next (v g : Nat) (hv : v ≤ 6) (hg : g = 1 ∨ g = 2) (n f : Nat) (hn : n = 4 ∨ n = 5 ∨ n = 6 ∨ n = 7) (hf : 1 ≤ f ∧ f ≤ 6) (i : Nat) (hi : i < 8) (k : Nat) (hk : 30000 < k) :
    impl_See.f k (n : Int) (f : Int) 0 (vw v g (i - 1)) (vw v g i) (nm v g i) (qw n i) (dn v g i) (vw v g (i + 1)) (nm v g (i + 1)) (qw n (i + 1)) = some (0, vw v g i, vw v g (i + 1), nm v g (i + 1), qw n (i + 1), dn v g (i + 1)) := by
  obtain ⟨k, rfl⟩ : ∃ q, k = q + 1 := ⟨k - 1, by omega⟩
  have hl := qw_len n i hn
  have hl2 := qw_len n (i + 1) hn
  have hm := vw_mono v g hg i
  have hst := settles_val v g hv hg (i + 1) (by omega) k (by omega)
  have hr := see_val (n : Int) (f : Int) 0 (vw v g (i - 1)) (vw v g i) (nm v g i) (qw n i) (dn v g i) (vw v g (i + 1)) (nm v g (i + 1)) (qw n (i + 1)) (by omega) (by omega) k (safe_ok v g hv hg n f hn hf i (by omega) (k + 1) (by omega)) (qc_ok v g hv hg n f hn hf (i + 1) (by omega) (k + 1) (by omega)) (nm v g i) (vw v g i) _ (dn v g (i + 1)) (nm_up v g hv hg i hi k (by omega)) (nm_vals v g hv hg i (by omega) k (by omega)).1 hst ?_ _ _ _ (if_pos hm.2)
  · rw [mx_ge _ _ hm.1] at hr
    exact hr
  · by_cases hc : g = 1 ∧ 3 ≤ i + 1
    · left
      rw [if_pos hc]
      obtain ⟨rfl, h3⟩ := hc
      obtain ⟨m, rfl⟩ : ∃ m, i = m + 2 := ⟨i - 2, by omega⟩
      refine ⟨rfl, ?_, rfl⟩
      show impl_Extends.f k (nm v 1 (m + 1)) (nm v 1 m) = some true
      exact nm_ext v 1 hv hg m (by omega) k (by omega)
    · right
      rw [if_neg hc]
      refine ⟨rfl, ?_⟩
      unfold dn
      by_cases h1 : g = 1
      · rw [if_pos h1, if_pos h1]
        have : i + 1 < 3 := by
          rcases Nat.lt_or_ge (i + 1) 3 with h | h
          · exact h
          · exact absurd ⟨h1, h⟩ hc
        rw [show i + 1 - 2 = 0 by omega, show i - 2 = 0 by omega]
      · rw [if_neg h1, if_neg h1]
theorem see_self (v g : Nat) (hv : v ≤ 6) (hg : g = 1 ∨ g = 2) (n f : Nat) (hn : n = 4 ∨ n = 5 ∨ n = 6 ∨ n = 7) (hf : 1 ≤ f ∧ f ≤ 6) (i : Nat) (hi : i < 8) (k : Nat) (hk : 30000 < k) :
    impl_See.f k (n : Int) (f : Int) 0 (vw v g i) (vw v g (i + 1)) (nm v g (i + 1)) (qw n (i + 1)) (dn v g (i + 1)) (vw v g (i + 1)) (nm v g (i + 1)) (qw n (i + 1)) = some (0, vw v g i, vw v g (i + 1), nm v g (i + 1), qw n (i + 1), dn v g (i + 1)) := by
  obtain ⟨k, rfl⟩ : ∃ q, k = q + 1 := ⟨k - 1, by omega⟩
  have hl2 := qw_len n (i + 1) hn
  have hst := settles_val v g hv hg (i + 1) (by omega) k (by omega)
  have hr := see_val (n : Int) (f : Int) 0 (vw v g i) (vw v g (i + 1)) (nm v g (i + 1)) (qw n (i + 1)) (dn v g (i + 1)) (vw v g (i + 1)) (nm v g (i + 1)) (qw n (i + 1)) (by omega) (by omega) k (safe_ok v g hv hg n f hn hf (i + 1) (by omega) (k + 1) (by omega)) (qc_ok v g hv hg n f hn hf (i + 1) (by omega) (k + 1) (by omega)) (nm v g i) (vw v g i) _ (dn v g (i + 1)) (nm_up v g hv hg i hi k (by omega)) (nm_vals v g hv hg i (by omega) k (by omega)).1 hst ?_ _ _ _ (if_neg (by omega))
  · rw [mx_ge _ _ (Int.le_refl _)] at hr
    exact hr
  · by_cases hc : g = 1 ∧ 3 ≤ i + 1
    · left
      rw [if_pos hc]
      obtain ⟨rfl, h3⟩ := hc
      refine ⟨rfl, ?_, rfl⟩
      show impl_Extends.f k (nm v 1 (i + 1 - 2)) (nm v 1 (i + 1 - 2)) = some true
      exact nm_self v 1 hv hg (i + 1 - 2) (by omega) k (by omega)
    · right
      rw [if_neg hc]
      exact ⟨rfl, rfl⟩
theorem wf8 {n : Int} (h : (Lit.int .u8 n).wf = true) : 0 ≤ n ∧ n ≤ 255 := by
  simp [Lit.wf, IntKind.min, IntKind.max, IntKind.bits, IntKind.signed] at h
  omega
theorem at_val (l : List Int) (hl : ∀ a ∈ l, (Lit.int .u8 a).wf = true) (hn : l.length ≤ 1048576) (i : Nat) (hi : i ≤ 100) : ∃ t : Nat, laws_at.f l (i : Int) = some (t : Int) ∧ t ≤ 255 := by
  unfold laws_at.f
  by_cases h : (i : Int) < (l.length : Int)
  · have hm : rd l (i : Int) ∈ l := by
      have h2 : i < l.length := by omega
      simp [rd, List.getD_eq_getElem?_getD, List.getElem?_eq_getElem h2]
    obtain ⟨h1, h2⟩ := wf8 (hl _ hm)
    rw [if_pos h, if_pos (by omega)]
    generalize rd l (i : Int) = x at h1 h2
    exact ⟨x.toNat, by congr 1; unfold wrap64; omega, by omega⟩
  · rw [if_neg h]
    have e1 : wrap64 ((i : Int) * 7) = (i : Int) * 7 := by unfold wrap64; omega
    rw [e1]
    clear e1
    have e2 : wrap64 ((i : Int) * 7 + (l.length : Int)) = ((i * 7 + l.length : Nat) : Int) := by unfold wrap64; omega
    rw [e2, Int.tmod_eq_emod_of_nonneg (by clear e2; omega)]
    clear e2
    exact ⟨(i * 7 + l.length) % 256, by congr 1, by omega⟩
theorem tm_ (c t m : Nat) (hc : c ≤ 10) (ht : t ≤ 255) (hm : 0 < m) (hm2 : m ≤ 10) : wrap64 ((c : Int) + Int.tmod (t : Int) (m : Int)) = ((c + t % m : Nat) : Int) := by
  have h : t % m < m := Nat.mod_lt _ hm
  rw [Int.tmod_eq_emod_of_nonneg (by omega)]
  have e : (t : Int) % (m : Int) = ((t % m : Nat) : Int) := by omega
  rw [e]
  clear e
  generalize t % m = q at h
  unfold wrap64
  omega
theorem three_who (n : Nat) (hn : n = 4 ∨ n = 5 ∨ n = 6 ∨ n = 7) (k : Nat) (x3 x7 y a b c : Int) (s : ByteArray) (l : List Int) (d : ByteArray) (v : Int) (t : ByteArray) (m : List Int) :
    ∃ k', k ≤ k' ∧ laws_FnSettlesThree.l0 (k + 8) x3 x7 [] 0 (n : Int) y a b c s l d v t m = laws_FnSettlesThree.l1 k' x3 x7 (whoL n) [] 0 (n : Int) y a b c s l d v t m := by
  rcases hn with rfl | rfl | rfl | rfl
  · exact ⟨k + 3, by omega, by simp [laws_FnSettlesThree.l0, whoL, List.range, List.range.loop, wrap64]⟩
  · exact ⟨k + 2, by omega, by simp [laws_FnSettlesThree.l0, whoL, List.range, List.range.loop, wrap64]⟩
  · exact ⟨k + 1, by omega, by simp [laws_FnSettlesThree.l0, whoL, List.range, List.range.loop, wrap64]⟩
  · exact ⟨k, by omega, by simp [laws_FnSettlesThree.l0, whoL, List.range, List.range.loop, wrap64]⟩
theorem nms_get (v : Nat) (i j : Nat) (h : j < i) : rdOf ByteArray.empty ((List.range i).map fun m => nm v 1 (m + 1)) (j : Int) = nm v 1 (j + 1) := by
  unfold rdOf
  rw [List.getD_eq_getElem?_getD, Int.toNat_natCast, List.getElem?_map, List.getElem?_range h]
  rfl
theorem three_l (v : Nat) (hv : v ≤ 6) (n f r : Nat) (hn : n = 4 ∨ n = 5 ∨ n = 6 ∨ n = 7) (hf : 1 ≤ f ∧ f ≤ 6) (hr : 3 ≤ r ∧ r ≤ 7) : ∀ (d k i : Nat), i + d = r → 100000 + d < k →
    laws_FnSettlesThree.l1 k (r : Int) ((v + 1 * i : Nat) : Int) (whoL n) ((List.range i).map fun m => nm v 1 (m + 1)) (i : Int) (n : Int) (f : Int) 0 (vw v 1 (i - 1)) (vw v 1 i) (nm v 1 i) (qw n i) (dn v 1 i) (vw v 1 i) (nm v 1 i) (qw n i) = some true := by
  intro d
  induction d with
  | zero =>
    intro k i hd hk
    obtain ⟨k, rfl⟩ : ∃ q, k = q + 1 := ⟨k - 1, by omega⟩
    obtain ⟨j, rfl⟩ : ∃ j, i = j + 1 := ⟨i - 1, by omega⟩
    have hs := nm_size v 1 hv (Or.inl rfl) (j + 1) (by omega)
    have hs0 : (dn v 1 (j + 1)).size ≤ 23 * 8 := by
      have := nm_size v 1 hv (Or.inl rfl) (j + 1 - 2) (by omega)
      show (nm v 1 (j + 1 - 2)).size ≤ 23 * 8
      omega
    have hq := qw_len n (j + 1) hn
    have h1 := see_self v 1 hv (Or.inl rfl) n f hn hf j (by omega) k (by omega)
    obtain ⟨y2, v2, s2, l2, d2, e1, e2, _⟩ := see_at (n : Int) (f : Int) 0 (vw v 1 j) (vw v 1 (j + 1)) (nm v 1 (j + 1)) (qw n (j + 1)) (dn v 1 (j + 1)) (vw v 1 (j + 1)) (nm v 1 (j + 1)) (qw n (j + 1)) (by omega) (by omega) (by omega) (by omega) (by omega) k (by omega)
    rw [h1] at e2
    have e3 := Option.some.inj e2
    rw [← e3] at e1
    have hqb := implQcSame_at (vw v 1 (j + 1)) (nm v 1 (j + 1)) (qw n (j + 1)) (vw v 1 (j + 1)) (nm v 1 (j + 1)) (qw n (j + 1)) (by omega) k (by omega)
    have hqt : qcB (vw v 1 (j + 1)) (nm v 1 (j + 1)) (qw n (j + 1)) (vw v 1 (j + 1)) (nm v 1 (j + 1)) (qw n (j + 1)) = true := by unfold qcB; exact decide_eq_true ⟨rfl, rfl, rfl⟩
    have hir : ¬ ((j + 1 : Nat) : Int) < (r : Int) := by omega
    have hlk : vw v 1 j = ((v + 1 * j : Nat) : Int) := by
      obtain ⟨m, rfl⟩ : ∃ m, j = m + 1 := ⟨j - 1, by omega⟩
      rfl
    have hww : wrap64 (((v + 1 * (j + 1) : Nat) : Int) - 1) = ((v + 1 * j : Nat) : Int) := by unfold wrap64; omega
    simp only [laws_FnSettlesThree.l1]
    rw [if_neg hir, show j + 1 - 1 = j from rfl, e1, Option.bind_some]
    dsimp only
    unfold impl_SafeSame.f
    rw [if_pos rfl, if_pos rfl, hqb, hqt, Option.bind_some, if_pos rfl, Option.bind_some, if_pos (by simp), hlk, hww]
    simp
  | succ d ih =>
    intro k i hd hk
    obtain ⟨k, rfl⟩ : ∃ q, k = q + 1 := ⟨k - 1, by omega⟩
    have h1 := bn_val v 1 hv (Or.inl rfl) n f hn hf i (by omega) k (by omega)
    have h2 := see_next v 1 hv (Or.inl rfl) n f hn hf i (by omega) k (by omega)
    have h3 := ih k (i + 1) (by omega) (by omega)
    have hir : (i : Int) < (r : Int) := by omega
    have hnl : ((List.range i).map fun m => nm v 1 (m + 1)).length < 8796093022208 := by rw [List.length_map, List.length_range]; omega
    have hi8 : i < 8 := by omega
    have hrg : ((List.range i).map fun m => nm v 1 (m + 1)) ++ [nm v 1 (i + 1)] = (List.range (i + 1)).map fun m => nm v 1 (m + 1) := by rw [List.range_succ, List.map_append]; rfl
    have hgl : (((List.range (i + 1)).map fun m => nm v 1 (m + 1)).length : Int) = ((i + 1 : Nat) : Int) := by rw [List.length_map, List.length_range]
    have hw1 : wrap64 (((v + 1 * i : Nat) : Int) + 1) = ((v + 1 * (i + 1) : Nat) : Int) := by unfold wrap64; omega
    have hw2 : wrap64 ((i : Int) + 1) = ((i + 1 : Nat) : Int) := by clear hw1; unfold wrap64; omega
    have hvw : vw v 1 (i + 1) = ((v + 1 * (i + 1) : Nat) : Int) := rfl
    have hqw : qw n (i + 1) = whoL n := rfl
    have hdn : dn v 1 (i + 1) = nm v 1 (i + 1 - 2) := rfl
    simp only [laws_FnSettlesThree.l1]
    rw [if_pos hir, hw1, h1, Option.bind_some]
    dsimp only
    rw [if_pos rfl, if_pos hnl, Option.bind_some, hrg, ← hvw, ← hqw, h2, Option.bind_some]
    dsimp only
    by_cases h2i : (i : Int) ≥ 2
    · obtain ⟨m, rfl⟩ : ∃ m, i = m + 2 := ⟨i - 2, by clear hw1 hw2; omega⟩
      have hw3 : wrap64 (((m + 2 : Nat) : Int) - 2) = ((m : Nat) : Int) := by clear hw1 hw2; unfold wrap64; omega
      have c1 : (0 : Int) ≤ ((m : Nat) : Int) := by clear hw1 hw2 hw3; omega
      have c2 : ((m : Nat) : Int) < ((m + 2 + 1 : Nat) : Int) := by clear hw1 hw2 hw3; omega
      have hmi : m < m + 2 + 1 := by clear hw1 hw2 hw3; omega
      rw [if_pos h2i, hw3, if_pos c1, hgl, if_pos c2, nms_get v (m + 2 + 1) m hmi, if_pos (show (dn v 1 (m + 2 + 1)).toList = (nm v 1 (m + 1)).toList from rfl), if_pos rfl, hw2]
      exact h3
    · have hz : (dn v 1 (i + 1)).toList = [] := by
        have h0 : i + 1 - 2 = 0 := by clear hw1 hw2; omega
        rw [hdn, h0, Lib.toList_data]
        show (⟨#[]⟩ : ByteArray).data.toList = []
        simp
      rw [if_neg h2i, if_pos hz, if_pos rfl, hw2]
      exact h3
theorem Pure.FnSettlesThree : StatFnSettlesThree := by
  intro l hl
  obtain ⟨k, hk⟩ : ∃ k, 200000 < k := ⟨_, Nat.lt_succ_self _⟩
  obtain ⟨k, rfl⟩ : ∃ q, k = q + 8 := ⟨k - 8, by omega⟩
  refine ⟨k + 8, ?_⟩
  unfold laws_FnSettlesThree.f laws_big.f
  rw [Option.bind_some]
  by_cases hb : (l.length : Int) > 1048576
  · rw [decide_eq_true hb, if_pos rfl]
  · rw [decide_eq_false hb, if_neg (by decide)]
    obtain ⟨t0, a0, b0⟩ := at_val l hl.2 (by omega) 0 (by omega)
    obtain ⟨t1, a1, b1⟩ := at_val l hl.2 (by omega) 1 (by omega)
    obtain ⟨t2, a2, b2⟩ := at_val l hl.2 (by omega) 2 (by omega)
    obtain ⟨t3, a3, b3⟩ := at_val l hl.2 (by omega) 3 (by omega)
    have hm0 : t0 % 5 < 5 := Nat.mod_lt _ (by decide)
    have hm1 : t1 % 4 < 4 := Nat.mod_lt _ (by decide)
    have hm2 : t2 % 3 < 3 := Nat.mod_lt _ (by decide)
    have hm3 : t3 % 7 < 7 := Nat.mod_lt _ (by decide)
    have hn4 : 4 + t1 % 4 = 4 ∨ 4 + t1 % 4 = 5 ∨ 4 + t1 % 4 = 6 ∨ 4 + t1 % 4 = 7 := by omega
    have e3 : Int.tmod (t3 : Int) 7 = ((t3 % 7 : Nat) : Int) := by rw [Int.tmod_eq_emod_of_nonneg (by omega)]; omega
    have w0 := tm_ 3 t0 5 (by omega) b0 (by omega) (by omega)
    have w1 := tm_ 4 t1 4 (by omega) b1 (by omega) (by omega)
    have w2 := tm_ 1 t2 3 (by omega) b2 (by omega) (by omega)
    have a0' : laws_at.f l 0 = some (t0 : Int) := a0
    have a1' : laws_at.f l 1 = some (t1 : Int) := a1
    have a2' : laws_at.f l 2 = some (t2 : Int) := a2
    have a3' : laws_at.f l 3 = some (t3 : Int) := a3
    have w0' : wrap64 (3 + Int.tmod (t0 : Int) 5) = ((3 + t0 % 5 : Nat) : Int) := w0
    have w1' : wrap64 (4 + Int.tmod (t1 : Int) 4) = ((4 + t1 % 4 : Nat) : Int) := w1
    have w2' : wrap64 (1 + Int.tmod (t2 : Int) 3) = ((1 + t2 % 3 : Nat) : Int) := w2
    unfold impl_SafeNew.f impl_QcFirst.f
    rw [a0', Option.bind_some, a1', Option.bind_some, a2', Option.bind_some, Option.bind_some, Option.bind_some, a3', Option.bind_some, w0', w1', w2', e3]
    clear w0 w1 w2 w0' w1' w2' e3
    obtain ⟨k', hk', e⟩ := three_who (4 + t1 % 4) hn4 k ((3 + t0 % 5 : Nat) : Int) ((t3 % 7 : Nat) : Int) ((1 + t2 % 3 : Nat) : Int) 0 0 0 (⟨#[]⟩ : ByteArray) [] (⟨#[]⟩ : ByteArray) 0 (⟨#[]⟩ : ByteArray) []
    rw [e]
    have h := three_l (t3 % 7) (by omega) (4 + t1 % 4) (1 + t2 % 3) (3 + t0 % 5) hn4 (by omega) (by omega) (3 + t0 % 5) k' 0 (by omega) (by omega)
    exact h
end Go.Proofs.YtemjmefacifdeaaGreatDoor.PFnSettlesThree
