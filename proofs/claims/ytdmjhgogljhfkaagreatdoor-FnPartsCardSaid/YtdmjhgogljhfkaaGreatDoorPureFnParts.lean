/- The law FnParts over bytes: parts that are joined in either order are the same, and what is put into a drawn table is got, joined; both sides of each function come to one. No condition but the code's kind. -/
import Derived.Test.YtdmjhgogljhfkaaGreatDoorStatFnParts
namespace Go.Proofs.YtdmjhgogljhfkaaGreatDoor.PFnParts
open Go.RowKit Go.Proofs.YtdmjhgogljhfkaaGreatDoorW.PrintWords Go.Proofs.YtdmjhgogljhfkaaGreatDoorW.PrintLast
set_option linter.unusedVariables false
set_option linter.unusedSimpArgs false
theorem wn {m n : Nat} (h : m < n) (hn : n ≤ 9223372036854775807) : wrap64 ((m : Int) + 1) = ((m + 1 : Nat) : Int) := by unfold wrap64; omega
theorem drop_at (l : List Int) (n : Nat) (h : n < l.length) : l.drop n = rd l (n : Int) :: l.drop (n + 1) := by
 rw [List.drop_eq_getElem_cons h]
 simp [rd, List.getD_eq_getElem?_getD, List.getElem?_eq_getElem h]
def mkS (l : List UInt8) : ByteArray := ⟨l.toArray⟩
theorem mkS_list (l : List UInt8) : (mkS l).data.toList = l := by simp [mkS]
theorem mkS_toList (l : List UInt8) : (mkS l).toList = l := by rw [Lib.toList_data, mkS_list]
theorem mkS_size (l : List UInt8) : (mkS l).size = l.length := by simp [mkS, ByteArray.size]
theorem mkS_of (s : ByteArray) : mkS s.data.toList = s := by
 obtain ⟨⟨l⟩⟩ := s
 rfl
theorem len_size (s : ByteArray) : s.data.toList.length = s.size := by
 obtain ⟨⟨l⟩⟩ := s
 rfl
theorem s_ext {s t : ByteArray} (h : s.data.toList = t.data.toList) : s = t := by rw [← mkS_of s, ← mkS_of t, h]
theorem bt_nat (s : ByteArray) (m : Nat) (h : m < s.size) : bt s (m : Int) = ((s.data.toList[m]'(by rw [len_size]; exact h)).toNat : Int) := by
 unfold bt
 rw [dif_pos (show ((m : Int)).toNat < s.size by simpa using h)]
 simp only [Int.toNat_natCast]
 rfl
theorem drop_byte (s : ByteArray) (m : Nat) (h : m < s.size) : ∃ b : UInt8, s.data.toList.drop m = b :: s.data.toList.drop (m + 1) ∧ bt s (m : Int) = (b.toNat : Int) :=
 ⟨s.data.toList[m]'(by rw [len_size]; exact h), List.drop_eq_getElem_cons (by rw [len_size]; exact h), bt_nat s m h⟩
theorem u8_inj {a b : UInt8} : (a.toNat : Int) = (b.toNat : Int) ↔ a = b := by
 constructor
 ·
  intro h; exact UInt8.toNat_inj.1 (by omega)
 ·
  rintro rfl; rfl
def cutL (c : UInt8) : List UInt8 → Option (List UInt8 × List UInt8)
 | [] => none
 | b :: l => if b = c then some ([], l) else (cutL c l).map fun p => (b :: p.1, p.2)
theorem cutL_some {c : UInt8} : ∀ {l : List UInt8} {p : List UInt8 × List UInt8}, cutL c l = some p → l = p.1 ++ c :: p.2 ∧ c ∉ p.1
 | [], _, h => by simp [cutL] at h
 | b :: l, p, h => by
  unfold cutL at h
  by_cases hb : b = c
  ·
   rw [if_pos hb] at h
   obtain rfl := Option.some.inj h
   exact ⟨by simp [hb], by simp⟩
  ·
   rw [if_neg hb] at h
   obtain ⟨q, hq, rfl⟩ := Option.map_eq_some_iff.1 h
   obtain ⟨e, hn⟩ := cutL_some hq
   exact ⟨by simp [← e], by simp [hn, Ne.symm hb]⟩
theorem cutL_app {c : UInt8} {l r : List UInt8} (h : c ∉ l) : cutL c (l ++ c :: r) = some (l, r) := by
 induction l with
 | nil => simp [cutL]
 | cons b l ih =>
  have hb : ¬ b = c := fun e => h (by simp [e])
  simp only [List.cons_append]
  unfold cutL
  rw [if_neg hb, ih (fun hm => h (List.mem_cons_of_mem _ hm))]
  rfl
theorem indexByte_cut (c : UInt8) : ∀ l : List UInt8, match cutL c l with
  | some p => Lib.indexByte l c = (p.1.length : Int)
  | none => Lib.indexByte l c = -1
 | [] => rfl
 | b :: l => by
  have ih := indexByte_cut c l
  unfold cutL Lib.indexByte
  by_cases hb : b = c
  ·
   simp [hb]
  ·
   rw [if_neg hb, if_neg (by simpa using hb)]
   cases hc : cutL c l with
   | none => rw [hc] at ih; simp at ih; simp [ih]
   | some p =>
    rw [hc] at ih
    simp only [Option.map_some] at ih ⊢
    rw [ih, if_neg (by simp)]
    simp
theorem libcut (c : UInt8) (l : List UInt8) : Lib.cut l [c] = match cutL c l with
  | some p => (p.1, p.2, true)
  | none => (l, [], false) := by
 have h := indexByte_cut c l
 unfold Lib.cut
 rw [Lib.index_one]
 cases hc : cutL c l with
 | none => rw [hc] at h; simp only at h; simp [h]
 | some p =>
  rw [hc] at h
  simp only at h
  obtain ⟨e, _⟩ := cutL_some hc
  rw [h, if_pos (by omega)]
  simp only [Int.toNat_natCast, List.length_singleton, Prod.mk.injEq, and_true]
  constructor
  ·
   rw [e]; simp
  ·
   rw [e, show p.1 ++ c :: p.2 = (p.1 ++ [c]) ++ p.2 by simp, List.drop_left' (by simp)]
def cutI (s : ByteArray) (c : UInt8) : ByteArray × ByteArray × Bool := match cutL c s.data.toList with
 | some p => (mkS p.1, mkS p.2, true)
 | none => (s, mkS [], false)
def cutS (s : ByteArray) (c : UInt8) : ByteArray × ByteArray × Bool := match cutL c s.data.toList with
 | some p => (mkS p.1, mkS p.2, true)
 | none => (mkS [], mkS [], false)
theorem implCut_at (s : ByteArray) (c : UInt8) (hs : s.size < 4294967281) : strings_Cut.f s (⟨#[c]⟩ : ByteArray) = some (cutI s c) := by
 unfold strings_Cut.f cutI
 rw [if_pos hs, show (⟨#[c]⟩ : ByteArray).data.toList = [c] from rfl, libcut]
 cases cutL c s.data.toList with
 | some p => rfl
 | none => simp [mkS]
theorem specCut_at (s : ByteArray) (c : UInt8) (hs : s.size < 4294967281) (k : Nat) (hk : s.size < k) : spec_l2Cut.f k s (c.toNat : Int) = some (cutS s c) := by
 have key : ∀ (d k m : Nat), m + d = s.size → d < k → (∀ p, cutL c s.data.toList = some p → m ≤ p.1.length) → cutL c s.data.toList = (cutL c (s.data.toList.drop m)).map (fun p => (s.data.toList.take m ++ p.1, p.2)) →
   spec_l2Cut.l0 k s (c.toNat : Int) (m : Int) = some (cutS s c) := by
  intro d
  induction d with
  | zero =>
   intro k m hd hk hm he
   obtain ⟨k, rfl⟩ : ∃ q, k = q + 1 := ⟨k - 1, by omega⟩
   simp only [spec_l2Cut.l0]
   rw [if_neg (by omega)]
   rw [List.drop_of_length_le (by rw [len_size]; omega)] at he
   unfold cutS
   rw [he]
   rfl
  | succ d ih =>
   intro k m hd hk hm he
   obtain ⟨k, rfl⟩ : ∃ q, k = q + 1 := ⟨k - 1, by omega⟩
   obtain ⟨b, hb, hbt⟩ := drop_byte s m (by omega)
   have hw : wrap64 ((m : Int) + 1) = ((m + 1 : Nat) : Int) := wn (n := s.size) (by omega) (by omega)
   simp only [spec_l2Cut.l0]
   rw [if_pos (by omega), if_pos (by omega), hbt]
   rw [hb, show cutL c (b :: s.data.toList.drop (m + 1)) = if b = c then some ([], s.data.toList.drop (m + 1)) else (cutL c (s.data.toList.drop (m + 1))).map (fun p => (b :: p.1, p.2)) from rfl] at he
   by_cases hc : b = c
   ·
    rw [if_pos (u8_inj.2 hc), if_pos (by omega), hw, if_pos (by omega), if_pos (by omega)]
    rw [if_pos hc] at he
    unfold cutS
    rw [he]
    simp only [Option.map_some, List.append_nil, Int.toNat_natCast]
    rw [Lib.extract_eq, Lib.extract_eq]
    simp only [mkS, List.drop_zero, Nat.sub_zero, Int.toNat_natCast]
    rw [List.take_of_length_le (l := s.data.toList.drop (m + 1)) (by rw [List.length_drop, len_size]; omega)]
   ·
    rw [if_neg (fun e => hc (u8_inj.1 e)), hw]
    rw [if_neg hc] at he
    have hl : m < s.data.toList.length := by rw [len_size]; omega
    have hg : b = s.data.toList[m] := by
     have := List.drop_eq_getElem_cons hl
     rw [hb] at this
     exact (List.cons.inj this).1
    refine ih k (m + 1) (by omega) (by omega) ?_ ?_
    ·
     intro p hp
     rw [he] at hp
     obtain ⟨q, hq, rfl⟩ := Option.map_eq_some_iff.1 hp
     obtain ⟨q', _, rfl⟩ := Option.map_eq_some_iff.1 hq
     simp [len_size]; omega
    ·
     rw [he, Option.map_map]
     congr 1
     funext p
     simp only [Function.comp, Prod.mk.injEq, and_true]
     rw [List.take_succ_eq_append_getElem hl, hg]
     simp
 have h0 := key s.size k 0 (by omega) hk (fun p _ => Nat.zero_le _) (by simp)
 unfold spec_l2Cut.f
 exact h0
def splitL (c : UInt8) : List UInt8 → List (List UInt8)
 | [] => [[]]
 | b :: l => if b = c then [] :: splitL c l else match splitL c l with
  | [] => [[b]]
  | h :: t => (b :: h) :: t
def glue (p : List UInt8) : List (List UInt8) → List (List UInt8)
 | [] => [p]
 | h :: t => (p ++ h) :: t
theorem splitL_ne (c : UInt8) : ∀ l, ∃ h t, splitL c l = h :: t
 | [] => ⟨[], [], rfl⟩
 | b :: l => by
  obtain ⟨h, t, e⟩ := splitL_ne c l
  unfold splitL
  by_cases hb : b = c
  ·
   rw [if_pos hb]; exact ⟨_, _, rfl⟩
  ·
   rw [if_neg hb, e]; exact ⟨_, _, rfl⟩
theorem splitL_eq (c : UInt8) (l : List UInt8) : splitL c (c :: l) = [] :: splitL c l := by rw [splitL, if_pos rfl]
theorem splitL_cons {b c : UInt8} (h : ¬ b = c) (l : List UInt8) : splitL c (b :: l) = glue [b] (splitL c l) := by
 obtain ⟨x, t, e⟩ := splitL_ne c l
 rw [splitL, if_neg h, e]
 rfl
theorem glue_nil {c : UInt8} {l : List UInt8} : glue [] (splitL c l) = splitL c l := by
 obtain ⟨x, t, e⟩ := splitL_ne c l
 rw [e]; rfl
theorem glue_glue (p q : List UInt8) {c : UInt8} {l : List UInt8} : glue p (glue q (splitL c l)) = glue (p ++ q) (splitL c l) := by
 obtain ⟨x, t, e⟩ := splitL_ne c l
 rw [e]; simp [glue]
theorem splitL_length (c : UInt8) : ∀ l : List UInt8, (splitL c l).length ≤ l.length + 1
 | [] => by simp [splitL]
 | b :: l => by
  have ih := splitL_length c l
  by_cases h : b = c
  ·
   subst h; rw [splitL_eq]; simp; omega
  ·
   obtain ⟨x, t, e⟩ := splitL_ne c l
   rw [splitL_cons h, e]
   rw [e] at ih
   simp [glue] at ih ⊢; omega
theorem splitL_part (c : UInt8) : ∀ (l : List UInt8) (p : List UInt8), p ∈ splitL c l → p.length ≤ l.length
 | [], p, h => by simp [splitL] at h; simp [h]
 | b :: l, p, h => by
  have ih := splitL_part c l
  by_cases hb : b = c
  ·
   subst hb
   rw [splitL_eq] at h
   rcases List.mem_cons.1 h with rfl | h
   ·
    simp
   ·
    have := ih p h; simp; omega
  ·
   obtain ⟨x, t, e⟩ := splitL_ne c l
   rw [splitL_cons hb, e] at h
   rcases List.mem_cons.1 h with rfl | h
   ·
    have := ih x (by rw [e]; simp); simp; omega
   ·
    have := ih p (by rw [e]; simp [h]); simp; omega
theorem splitL_cut (c : UInt8) : ∀ l : List UInt8, splitL c l = match cutL c l with
  | some p => p.1 :: splitL c p.2
  | none => [l]
 | [] => rfl
 | b :: l => by
  have ih := splitL_cut c l
  by_cases h : b = c
  ·
   subst h; rw [splitL_eq]; simp [cutL]
  ·
   rw [splitL_cons h, ih, show cutL c (b :: l) = (cutL c l).map (fun p => (b :: p.1, p.2)) by rw [cutL, if_neg h]]
   cases cutL c l <;> simp [glue]
def splitA (c : UInt8) (s : ByteArray) : List ByteArray := (splitL c s.data.toList).map mkS
theorem indexB_cut (c : UInt8) (s : ByteArray) : match cutL c s.data.toList with
  | some p => Lib.indexB s (⟨#[c]⟩ : ByteArray) = ((p.1.length : Nat) : Int)
  | none => Lib.indexB s (⟨#[c]⟩ : ByteArray) = -1 := by
 have h := indexByte_cut c s.data.toList
 show match cutL c s.data.toList with
  | some p => Lib.index s.data.toList [c] = ((p.1.length : Nat) : Int)
  | none => Lib.index s.data.toList [c] = -1
 rw [Lib.index_one]
 exact h
theorem libsplit (c : UInt8) : ∀ (n : Nat) (s : ByteArray), s.size ≤ n → Lib.splitB (⟨#[c]⟩ : ByteArray) 0 (Lib.countB s (⟨#[c]⟩ : ByteArray)) s = splitA c s := by
 intro n
 induction n with
 | zero =>
  intro s hs
  have h := indexB_cut c s
  have h0 : s.data.toList = [] := by apply List.eq_nil_of_length_eq_zero; rw [len_size]; omega
  rw [h0] at h
  simp only [cutL] at h
  rw [Lib.countB_miss s _ h, Lib.splitB_zero]
  unfold splitA
  rw [h0]
  simp only [splitL, List.map_cons, List.map_nil]
  rw [← h0, mkS_of]
 | succ n ih =>
  intro s hs
  have h := indexB_cut c s
  cases hc : cutL c s.data.toList with
  | none =>
   rw [hc] at h
   simp only at h
   rw [Lib.countB_miss s _ h, Lib.splitB_zero]
   unfold splitA
   rw [splitL_cut, hc]
   simp only [List.map_cons, List.map_nil]
   rw [mkS_of]
  | some p =>
   rw [hc] at h
   simp only at h
   obtain ⟨e, _⟩ := cutL_some hc
   have hsz : (⟨#[c]⟩ : ByteArray).size = 1 := rfl
   rw [Lib.countB_hit s _ p.1.length (by rw [hsz]; omega) h, Nat.add_comm 1, Lib.splitB_hit _ 0 _ s p.1.length h, hsz]
   have hl : s.size = p.1.length + 1 + p.2.length := by rw [← len_size, e]; simp; omega
   have e1 : s.extract 0 (p.1.length + 0) = mkS p.1 := s_ext (by rw [Lib.extract_data, mkS_list, e]; simp)
   have e2 : s.extract (p.1.length + 1) s.size = mkS p.2 := s_ext (by
    rw [Lib.extract_data, mkS_list, e, show p.1 ++ c :: p.2 = (p.1 ++ [c]) ++ p.2 by simp, List.drop_left' (by simp), List.take_of_length_le (by omega)])
   rw [e1, e2, ih (mkS p.2) (by rw [mkS_size]; omega)]
   unfold splitA
   rw [splitL_cut c s.data.toList, hc, mkS_list]
   rfl
theorem implSplit_at (s : ByteArray) (c : UInt8) (hs : s.size < 4294967281) : impl_Split.f s (c.toNat : Int) = some (splitA c s) := by
 have hc : strOfNums ([(c.toNat : Int)] : List Int) = (⟨#[c]⟩ : ByteArray) := by
  apply s_ext
  rw [strOfNums_data]
  simp
 unfold impl_Split.f strings_Split.f
 rw [hc, if_pos hs, if_pos (show 1 ≤ (⟨#[c]⟩ : ByteArray).size from Nat.le_refl 1), libsplit c s.size s (Nat.le_refl _)]
 rfl
theorem specSplit_at (s : ByteArray) (c : UInt8) (hs : s.size < 4294967281) (k : Nat) (hk : s.size + 2 < k) : spec_Split.f k s (c.toNat : Int) = some (splitA c s) := by
 have key : ∀ (d k m f : Nat) (out : List ByteArray), m + d = s.size → d + 2 < k → f ≤ m → out.length + d + 1 < 8796093022208 →
   spec_Split.l0 k s (c.toNat : Int) out (f : Int) (m : Int) = some (out ++ (glue ((s.data.toList.drop f).take (m - f)) (splitL c (s.data.toList.drop m))).map mkS) := by
  intro d
  induction d with
  | zero =>
   intro k m f out hd hk hf ho
   obtain ⟨k, rfl⟩ : ∃ q, k = q + 2 := ⟨k - 2, by omega⟩
   have hw : wrap64 ((m : Int) + 1) = ((m + 1 : Nat) : Int) := wn (n := m + 1) (by omega) (by omega)
   simp only [spec_Split.l0]
   rw [if_pos (show (m : Int) ≤ (s.size : Int) by omega), if_pos (show (m : Int) = (s.size : Int) by omega), if_pos (by omega), if_pos (by omega), if_pos (by omega), hw, if_neg (by omega)]
   rw [List.drop_of_length_le (i := m) (by rw [len_size]; omega)]
   simp only [splitL, glue, List.append_nil, List.map_cons, List.map_nil, Int.toNat_natCast]
   rw [Lib.extract_eq]
   rfl
  | succ d ih =>
   intro k m f out hd hk hf ho
   obtain ⟨k, rfl⟩ : ∃ q, k = q + 1 := ⟨k - 1, by omega⟩
   obtain ⟨b, hb, hbt⟩ := drop_byte s m (by omega)
   have hw : wrap64 ((m : Int) + 1) = ((m + 1 : Nat) : Int) := wn (n := s.size) (by omega) (by omega)
   have hl : m < s.data.toList.length := by rw [len_size]; omega
   have hg : s.data.toList[m] = b := by
    have := List.drop_eq_getElem_cons hl
    rw [hb] at this
    exact (List.cons.inj this).1.symm
   simp only [spec_Split.l0]
   rw [if_pos (show (m : Int) ≤ (s.size : Int) by omega), if_neg (show ¬ (m : Int) = (s.size : Int) by omega), if_pos (by omega), if_pos (by omega), hbt, hb]
   by_cases hc : b = c
   ·
    subst hc
    rw [if_pos rfl, if_pos (by omega), if_pos (by omega), if_pos (by omega), hw, ih k (m + 1) (m + 1) _ (by omega) (by omega) (Nat.le_refl _) (by simp; omega), splitL_eq, Nat.sub_self, List.take_zero, glue_nil]
    simp only [glue, List.append_nil, List.map_cons, Int.toNat_natCast]
    rw [Lib.extract_eq]
    simp [mkS]
   ·
    rw [if_neg (fun e => hc (u8_inj.1 e)), hw, ih k (m + 1) f _ (by omega) (by omega) (by omega) (by omega), splitL_cons hc, glue_glue]
    congr 4
    rw [show m + 1 - f = (m - f) + 1 by omega, List.take_succ_eq_append_getElem (by rw [List.length_drop]; omega), List.getElem_drop]
    congr 2
    rw [← hg]
    congr 1
    omega
 have h0 := key s.size k 0 0 [] (by omega) (by omega) (Nat.le_refl _) (by simp; omega)
 unfold spec_Split.f splitA
 simp only [Nat.sub_self, List.take_zero, List.drop_zero, glue_nil, List.nil_append] at h0
 exact h0
def digS (n : Nat) : ByteArray := mkS (Lib.decDigits n)
theorem dig_isDigit (n : Nat) : ∀ b ∈ Lib.decDigits n, 48 ≤ b.toNat ∧ b.toNat ≤ 57 := by
 induction n using Nat.strongRecOn with
 | _ n ih =>
  intro b hb
  rw [Lib.decDigits] at hb
  by_cases h : n < 10
  ·
   rw [dif_pos h] at hb
   obtain rfl := List.mem_singleton.1 hb
   rw [UInt8.toNat_ofNat']
   omega
  ·
   rw [dif_neg h] at hb
   rcases List.mem_append.1 hb with hb | hb
   ·
    exact ih (n / 10) (by omega) b hb
   ·
    obtain rfl := List.mem_singleton.1 hb
    rw [UInt8.toNat_ofNat']
    omega
theorem dig_ne (n : Nat) (c : UInt8) (h : c.toNat < 48 ∨ 57 < c.toNat) : c ∉ Lib.decDigits n := fun hm => by
 have := dig_isDigit n c hm
 omega
theorem dig_len (j : Nat) : ∀ n, n < 10 ^ (j + 1) → (Lib.decDigits n).length ≤ j + 1 := by
 induction j with
 | zero => intro n h; rw [Lib.decDigits_one (by omega)]; simp
 | succ j ih =>
  intro n h
  rw [Lib.decDigits]
  by_cases h1 : n < 10
  ·
   rw [dif_pos h1]; simp
  ·
   rw [dif_neg h1]
   have := ih (n / 10) (by rw [Nat.pow_succ] at h; omega)
   simp only [List.length_append, List.length_singleton]; omega
theorem dig_pos (n : Nat) : 0 < (Lib.decDigits n).length := by
 rw [Lib.decDigits]
 split <;> simp
theorem implDigits_at (n : Nat) (h : n ≤ 9223372036854775807) : impl_Digits.f (n : Int) = some (digS n) := by
 unfold impl_Digits.f strconv_Itoa_205.f digS
 rw [if_pos (by omega), if_pos (by omega), Option.bind_some]
 unfold Lib.itoa
 rw [if_neg (by omega)]
 rfl
theorem specDigits_l : ∀ (j n k : Nat) (acc : ByteArray), n < 10 ^ j → n ≤ 9223372036854775807 → j < k → acc.size + j ≤ 1000 →
  spec_Digits.l0 k (n : Int) false acc = some (mkS ((if n = 0 then [] else Lib.decDigits n) ++ acc.data.toList)) := by
 intro j
 induction j with
 | zero =>
  intro n k acc h hn hk ha
  obtain ⟨k, rfl⟩ : ∃ q, k = q + 1 := ⟨k - 1, by omega⟩
  obtain rfl : n = 0 := by simpa using h
  simp only [spec_Digits.l0]
  simp [mkS_of]
 | succ j ih =>
  intro n k acc h hn hk ha
  obtain ⟨k, rfl⟩ : ∃ q, k = q + 1 := ⟨k - 1, by omega⟩
  simp only [spec_Digits.l0]
  by_cases h0 : n = 0
  ·
   subst h0; simp [mkS_of]
  ·
   have hm : Int.tmod (n : Int) 10 = ((n % 10 : Nat) : Int) := by rw [Int.tmod_eq_emod_of_nonneg (by omega)]; omega
   have hd : wrap64 (Int.tdiv (n : Int) 10) = ((n / 10 : Nat) : Int) := by
    rw [Int.tdiv_eq_ediv_of_nonneg (by omega)]
    unfold wrap64; omega
   have hw : wrap64 (48 + ((n % 10 : Nat) : Int)) % 256 = ((48 + n % 10 : Nat) : Int) := by unfold wrap64; omega
   rw [if_neg (by omega), hm, if_neg (by omega), Option.bind_some, hw, hd]
   have hs : (strOfNums [((48 + n % 10 : Nat) : Int)]).size = 1 := by rw [strOfNums_size]; rfl
   rw [if_pos (by rw [hs]; omega), ih (n / 10) k _ (by rw [Nat.pow_succ] at h; omega) (by omega) (by omega) (by rw [ByteArray.size_append, hs]; omega)]
   congr 2
   rw [if_neg h0]
   simp only [ByteArray.data_append, Array.toList_append, strOfNums_data, List.map_cons, List.map_nil, Int.toNat_natCast]
   by_cases h1 : n < 10
   ·
    rw [if_pos (by omega), Lib.decDigits_one h1, Nat.mod_eq_of_lt h1]
    rfl
   ·
    have e : Lib.decDigits n = Lib.decDigits (n / 10) ++ [UInt8.ofNat (48 + n % 10)] := by rw [Lib.decDigits, dif_neg h1]
    rw [if_neg (by omega), e]
    simp
theorem specDigits_at (n : Nat) (h : n < 10 ^ 20) (h' : n ≤ 9223372036854775807) (k : Nat) (hk : 20 < k) : spec_Digits.f k (n : Int) = some (digS n) := by
 unfold spec_Digits.f digS
 by_cases h0 : n = 0
 ·
  subst h0
  rw [if_pos (show ((0 : Nat) : Int) = 0 from rfl), Lib.decDigits_one (by omega)]
  rfl
 ·
  rw [if_neg (by omega), show decide ((n : Int) < 0) = false by simp, specDigits_l 20 n k _ h h' hk (by decide), if_neg h0]
  congr 2
  show Lib.decDigits n ++ [] = _
  simp
theorem num_w1 (n b : Int) (h0 : 0 ≤ n) (h1 : n < 1000000) (hb : 48 ≤ b) (hb2 : b ≤ 255) : wrap64 (wrap64 (wrap64 (10 * n) + wrap64 b) - 48) = 10 * n + (b - 48) := by
 have w1 : wrap64 (10 * n) = 10 * n := by unfold wrap64; omega
 have w2 : wrap64 b = b := by unfold wrap64; omega
 rw [w1, w2]
 have w3 : wrap64 (10 * n + b) = 10 * n + b := by unfold wrap64; omega
 rw [w3]
 unfold wrap64; omega
theorem num_w2 (n b : Int) (h0 : 0 ≤ n) (h1 : n < 1000000) (hb : 48 ≤ b) (hb2 : b ≤ 255) : wrap64 (wrap64 (10 * n) + (b - 48) % 256) = 10 * n + (b - 48) := by
 have w1 : wrap64 (10 * n) = 10 * n := by unfold wrap64; omega
 have w2 : (b - 48) % 256 = b - 48 := by omega
 rw [w1, w2]
 unfold wrap64; omega
theorem number_l (s : ByteArray) (h6 : s.size ≤ 6) : ∀ (d k m n : Nat), m + d = s.size → d + 25 < k → n < 10 ^ m →
  ∃ r : Int × Bool, spec_Number.l0 k s (n : Int) (m : Int) = some r ∧ impl_Number.l0 k s (n : Int) (m : Int) = some r ∧ ∃ q : Nat, r.1 = (q : Int) ∧ q < 1000000 ∧ (r.2 = true → s = digS q) := by
 intro d
 induction d with
 | zero =>
  intro k m n hd hk hn
  obtain ⟨k, rfl⟩ : ∃ q, k = q + 1 := ⟨k - 1, by omega⟩
  have hp : 10 ^ m ≤ 10 ^ 6 := Nat.pow_le_pow_right (by omega) (by omega)
  have hn6 : n < 1000000 := by omega
  have hs : spec_Number.l0 (k + 1) s (n : Int) (m : Int) = if (digS n).toList = s.toList then some ((n : Int), true) else some (0, false) := by
   simp only [spec_Number.l0]
   rw [if_neg (by omega), specDigits_at n (by omega) (by omega) k (by omega), Option.bind_some]
  have hi : impl_Number.l0 (k + 1) s (n : Int) (m : Int) = if (digS n).toList = s.toList then some ((n : Int), true) else some (0, false) := by
   simp only [impl_Number.l0]
   rw [if_neg (by omega), implDigits_at n (by omega), Option.bind_some]
  rw [hs, hi]
  by_cases h : (digS n).toList = s.toList
  ·
   rw [if_pos h]
   refine ⟨_, rfl, rfl, n, rfl, hn6, fun _ => ?_⟩
   rw [Lib.toList_data, Lib.toList_data] at h
   exact (s_ext h).symm
  ·
   rw [if_neg h]
   exact ⟨_, rfl, rfl, 0, rfl, by omega, fun e => by cases e⟩
 | succ d ih =>
  intro k m n hd hk hn
  obtain ⟨k, rfl⟩ : ∃ q, k = q + 1 := ⟨k - 1, by omega⟩
  have hp : 10 ^ m ≤ 10 ^ 6 := Nat.pow_le_pow_right (by omega) (by omega)
  have hn6 : (n : Int) < 1000000 := by omega
  obtain ⟨b, hb, hbt⟩ := drop_byte s m (by omega)
  have hw : wrap64 ((m : Int) + 1) = ((m + 1 : Nat) : Int) := wn (n := s.size) (by omega) (by omega)
  have hs : spec_Number.l0 (k + 1) s (n : Int) (m : Int) = if (b.toNat : Int) < 48 then some (0, false) else if (b.toNat : Int) > 57 then some (0, false) else spec_Number.l0 k s ((10 * n + (b.toNat - 48) : Nat) : Int) ((m + 1 : Nat) : Int) := by
   simp only [spec_Number.l0]
   rw [if_pos (by omega), if_pos (by omega), hbt, hw]
   by_cases h1 : (b.toNat : Int) < 48
   ·
    rw [if_pos h1, if_pos h1]
   ·
    have e1 : wrap64 (wrap64 (wrap64 (10 * (n : Int)) + wrap64 (b.toNat : Int)) - 48) = ((10 * n + (b.toNat - 48) : Nat) : Int) := by
     have := b.toNat_lt
     rw [num_w1 n b.toNat (by omega) hn6 (by omega) (by omega)]; omega
    rw [if_neg h1, if_neg h1, e1]
  have hi : impl_Number.l0 (k + 1) s (n : Int) (m : Int) = if (b.toNat : Int) < 48 then some (0, false) else if (b.toNat : Int) > 57 then some (0, false) else impl_Number.l0 k s ((10 * n + (b.toNat - 48) : Nat) : Int) ((m + 1 : Nat) : Int) := by
   simp only [impl_Number.l0]
   rw [if_pos (by omega), if_pos (by omega), hbt, hw]
   by_cases h1 : (b.toNat : Int) < 48
   ·
    rw [if_pos h1, if_pos h1]
   ·
    have e2 : wrap64 (wrap64 (10 * (n : Int)) + ((b.toNat : Int) - 48) % 256) = ((10 * n + (b.toNat - 48) : Nat) : Int) := by
     have := b.toNat_lt
     rw [num_w2 n b.toNat (by omega) hn6 (by omega) (by omega)]; omega
    rw [if_neg h1, if_neg h1, e2]
  rw [hs, hi]
  by_cases h1 : (b.toNat : Int) < 48
  ·
   exact ⟨(0, false), by rw [if_pos h1], by rw [if_pos h1], 0, rfl, by omega, fun e => by cases e⟩
  ·
   by_cases h2 : (b.toNat : Int) > 57
   ·
    exact ⟨(0, false), by rw [if_neg h1, if_pos h2], by rw [if_neg h1, if_pos h2], 0, rfl, by omega, fun e => by cases e⟩
   ·
    simp only [h1, h2, if_false]
    exact ih k (m + 1) _ (by omega) (by omega) (by rw [Nat.pow_succ]; omega)
theorem number_at (s : ByteArray) (k : Nat) (hk : 40 < k) : ∃ r : Int × Bool, spec_Number.f k s = some r ∧ impl_Number.f k s = some r ∧ ∃ q : Nat, r.1 = (q : Int) ∧ q < 1000000 ∧ (r.2 = true → s = digS q) := by
 unfold spec_Number.f impl_Number.f
 obtain ⟨k, rfl⟩ : ∃ q, k = q + 1 := ⟨k - 1, by omega⟩
 by_cases h1 : (s.size : Int) < 1
 ·
  refine ⟨(0, false), ?_, ?_, 0, rfl, by omega, fun e => by cases e⟩
  ·
   first | (rw [if_pos h1]; done) | (rw [if_pos h1]; simp [spec_Number.j0])
  ·
   first | (rw [if_pos h1]; done) | (rw [if_pos h1]; simp [impl_Number.j0])
 ·
  by_cases h2 : (s.size : Int) > 6
  ·
   refine ⟨(0, false), ?_, ?_, 0, rfl, by omega, fun e => by cases e⟩
   ·
    first | (rw [if_neg h1, if_pos h2]; done) | (rw [if_neg h1]; simp only [spec_Number.j0]; rw [if_pos (decide_eq_true h2)])
   ·
    first | (rw [if_neg h1, if_pos h2]; done) | (rw [if_neg h1]; simp only [impl_Number.j0]; rw [if_pos (decide_eq_true h2)])
  ·
   first
   | (obtain ⟨r, e1, e2, e3⟩ := number_l s (by omega) s.size (k + 1) 0 0 (by omega) (by omega) (by omega); exact ⟨r, by rw [if_neg h1, if_neg h2]; exact e1, by rw [if_neg h1, if_neg h2]; exact e2, e3⟩)
   | (obtain ⟨r, e1, e2, e3⟩ := number_l s (by omega) s.size k 0 0 (by omega) (by omega) (by omega); exact ⟨r, by rw [if_neg h1]; simp only [spec_Number.j0]; rw [if_neg (by simpa using h2)]; exact e1, by rw [if_neg h1]; simp only [impl_Number.j0]; rw [if_neg (by simpa using h2)]; exact e2, e3⟩) | (rw [if_neg h1]; simp only [impl_Number.j0]; rw [if_neg (by simpa using h2)]; exact e2)
def txB (a b c d : Nat) : Bool := decide ((a : Int) ≤ 3 ∧ (b : Int) ≤ 3 ∧ (c : Int) ≤ 1000 ∧ (d : Int) ≤ 99)
def txL (a b c d : Nat) : List UInt8 := Lib.decDigits a ++ 62 :: (Lib.decDigits b ++ 58 :: (Lib.decDigits c ++ 35 :: Lib.decDigits d))
theorem implTxOk_at (a b c d : Nat) : impl_TxOk.f (a : Int) (b : Int) (c : Int) (d : Int) = some (txB a b c d) := by
 unfold impl_TxOk.f impl_within.f txB
 rw [if_pos (by omega), if_pos (by omega), if_pos (by omega), if_pos (by omega)]
 by_cases h1 : (a : Int) ≤ 3 <;> by_cases h2 : (b : Int) ≤ 3 <;> by_cases h3 : (c : Int) ≤ 1000 <;> by_cases h4 : (d : Int) ≤ 99 <;> simp [h1, h2, h3, h4]
theorem specTxOk_at (a b c d : Nat) : spec_TxOk.f (a : Int) (b : Int) (c : Int) (d : Int) = some (txB a b c d) := implTxOk_at a b c d
theorem digS_size (n : Nat) (h : n < 1000000) : (digS n).size ≤ 6 := by
 unfold digS
 rw [mkS_size]
 exact dig_len 5 n h
theorem tx_join (a b c d : Nat) : ((((((digS a ++ (⟨#[62]⟩ : ByteArray)) ++ digS b) ++ (⟨#[58]⟩ : ByteArray)) ++ digS c) ++ (⟨#[35]⟩ : ByteArray)) ++ digS d) = mkS (txL a b c d) := by
 apply s_ext
 simp only [ByteArray.data_append, Array.toList_append, mkS_list, digS, txL]
 simp
theorem implTxText_at (a b c d : Nat) (ha : a < 1000000) (hb : b < 1000000) (hc : c < 1000000) (hd : d < 1000000) :
  impl_TxText.f (a : Int) (b : Int) (c : Int) (d : Int) = some (if txB a b c d = true then mkS (txL a b c d) else mkS []) := by
 have s1 := digS_size a ha
 have s2 := digS_size b hb
 have s3 := digS_size c hc
 have s4 := digS_size d hd
 have o1 : (⟨#[62]⟩ : ByteArray).size = 1 := rfl
 have o2 : (⟨#[58]⟩ : ByteArray).size = 1 := rfl
 have o3 : (⟨#[35]⟩ : ByteArray).size = 1 := rfl
 unfold impl_TxText.f
 rw [implTxOk_at, Option.bind_some]
 by_cases h : txB a b c d = true
 ·
  rw [if_pos h, if_pos h, implDigits_at a (by omega), Option.bind_some, if_pos (by omega), implDigits_at b (by omega), Option.bind_some, if_pos (by simp only [ByteArray.size_append]; omega), if_pos (by simp only [ByteArray.size_append]; omega),
   implDigits_at c (by omega), Option.bind_some, if_pos (by simp only [ByteArray.size_append]; omega), if_pos (by simp only [ByteArray.size_append]; omega), implDigits_at d (by omega), Option.bind_some, if_pos (by simp only [ByteArray.size_append]; omega), tx_join]
 ·
  rw [if_neg h, if_neg h]; rfl
theorem specTxText_at (a b c d : Nat) (ha : a < 1000000) (hb : b < 1000000) (hc : c < 1000000) (hd : d < 1000000) (k : Nat) (hk : 20 < k) :
  spec_TxText.f k (a : Int) (b : Int) (c : Int) (d : Int) = some (if txB a b c d = true then mkS (txL a b c d) else mkS []) := by
 have s1 := digS_size a ha
 have s2 := digS_size b hb
 have s3 := digS_size c hc
 have s4 := digS_size d hd
 have o1 : (⟨#[62]⟩ : ByteArray).size = 1 := rfl
 have o2 : (⟨#[58]⟩ : ByteArray).size = 1 := rfl
 have o3 : (⟨#[35]⟩ : ByteArray).size = 1 := rfl
 have p : (1000000 : Nat) ≤ 10 ^ 20 := by decide
 unfold spec_TxText.f
 rw [specTxOk_at, Option.bind_some]
 by_cases h : txB a b c d = true
 ·
  rw [if_pos h, if_pos h, specDigits_at a (by omega) (by omega) k hk, Option.bind_some, if_pos (by omega), specDigits_at b (by omega) (by omega) k hk, Option.bind_some, if_pos (by simp only [ByteArray.size_append]; omega), if_pos (by simp only [ByteArray.size_append]; omega),
   specDigits_at c (by omega) (by omega) k hk, Option.bind_some, if_pos (by simp only [ByteArray.size_append]; omega), if_pos (by simp only [ByteArray.size_append]; omega), specDigits_at d (by omega) (by omega) k hk, Option.bind_some, if_pos (by simp only [ByteArray.size_append]; omega), tx_join]
 ·
  rw [if_neg h, if_neg h]; rfl
def tell (s : ByteArray) (a b c d : Nat) : Int × Int × Int × Int × Bool := if txB a b c d = true ∧ txL a b c d = s.data.toList then ((a : Int), (b : Int), (c : Int), (d : Int), true) else (0, 0, 0, 0, false)
theorem txL_chain (a b c d : Nat) : cutL 62 (txL a b c d) = some (Lib.decDigits a, Lib.decDigits b ++ 58 :: (Lib.decDigits c ++ 35 :: Lib.decDigits d)) ∧
  cutL 58 (Lib.decDigits b ++ 58 :: (Lib.decDigits c ++ 35 :: Lib.decDigits d)) = some (Lib.decDigits b, Lib.decDigits c ++ 35 :: Lib.decDigits d) ∧ cutL 35 (Lib.decDigits c ++ 35 :: Lib.decDigits d) = some (Lib.decDigits c, Lib.decDigits d) :=
 ⟨cutL_app (dig_ne a 62 (by decide)), cutL_app (dig_ne b 58 (by decide)), cutL_app (dig_ne c 35 (by decide))⟩
theorem implTxOf_core (s x1 x2 x3 y1 y2 y3 : ByteArray) (b1 b2 b3 : Bool) (k : Nat) (hk : 40 < k) (h1 : strings_Cut.f s (⟨#[62]⟩ : ByteArray) = some (x1, y1, b1)) (h2 : strings_Cut.f y1 (⟨#[58]⟩ : ByteArray) = some (x2, y2, b2)) (h3 : strings_Cut.f y2 (⟨#[35]⟩ : ByteArray) = some (x3, y3, b3))
  (a b c d : Nat) (ha : a < 1000000) (hb : b < 1000000) (hc : c < 1000000) (hd : d < 1000000) (m1 m2 m3 m4 : Bool)
  (n1 : impl_Number.f k x1 = some ((a : Int), m1)) (n2 : impl_Number.f k x2 = some ((b : Int), m2)) (n3 : impl_Number.f k x3 = some ((c : Int), m3)) (n4 : impl_Number.f k y3 = some ((d : Int), m4)) : impl_TxOf.f k s = some (tell s a b c d) := by
 unfold impl_TxOf.f tell
 rw [h1, Option.bind_some]; dsimp only
 rw [h2, Option.bind_some]; dsimp only
 rw [h3, Option.bind_some]; dsimp only
 rw [n1, Option.bind_some, n2, Option.bind_some, n3, Option.bind_some, n4, Option.bind_some]; dsimp only
 rw [implTxOk_at, Option.bind_some, implTxText_at a b c d ha hb hc hd]
 by_cases h : txB a b c d = true
 ·
  rw [if_pos h, Option.bind_some, if_pos h, mkS_toList, Lib.toList_data]
  by_cases e : txL a b c d = s.data.toList
  ·
   rw [if_pos e, if_pos ⟨h, e⟩]
  ·
   rw [if_neg e, if_neg (fun x => e x.2)]
 ·
  rw [if_neg h, if_neg (fun x => h x.1)]
theorem specTxOf_core (s x1 x2 x3 y1 y2 y3 : ByteArray) (b1 b2 b3 : Bool) (k : Nat) (hk : 40 < k) (h1 : spec_l2Cut.f k s 62 = some (x1, y1, b1)) (h2 : spec_l2Cut.f k y1 58 = some (x2, y2, b2)) (h3 : spec_l2Cut.f k y2 35 = some (x3, y3, b3))
  (a b c d : Nat) (ha : a < 1000000) (hb : b < 1000000) (hc : c < 1000000) (hd : d < 1000000) (m1 m2 m3 m4 : Bool)
  (n1 : spec_Number.f k x1 = some ((a : Int), m1)) (n2 : spec_Number.f k x2 = some ((b : Int), m2)) (n3 : spec_Number.f k x3 = some ((c : Int), m3)) (n4 : spec_Number.f k y3 = some ((d : Int), m4)) : spec_TxOf.f k s = some (tell s a b c d) := by
 unfold spec_TxOf.f tell
 rw [h1, Option.bind_some]; dsimp only
 rw [h2, Option.bind_some]; dsimp only
 rw [h3, Option.bind_some]; dsimp only
 rw [n1, Option.bind_some, n2, Option.bind_some, n3, Option.bind_some, n4, Option.bind_some]; dsimp only
 rw [specTxText_at a b c d ha hb hc hd k (by omega), Lib.toList_data]
 by_cases e0 : s.data.toList = []
 ·
  rw [if_pos e0, if_neg]
  rintro ⟨_, x⟩
  rw [e0] at x
  have := dig_pos a
  simp [txL] at x
 ·
  rw [if_neg e0, Option.bind_some]
  by_cases h : txB a b c d = true
  ·
   rw [if_pos h, mkS_toList]
   by_cases e : txL a b c d = s.data.toList
   ·
    rw [if_pos e, if_pos ⟨h, e⟩]
   ·
    rw [if_neg e, if_neg (fun x => e x.2)]
  ·
   rw [if_neg h, mkS_toList, if_neg (fun x => e0 x.symm), if_neg (fun x => h x.1)]
theorem num_of (x : ByteArray) (k : Nat) (hk : 40 < k) : ∃ (a : Nat) (m : Bool), a < 1000000 ∧ spec_Number.f k x = some ((a : Int), m) ∧ impl_Number.f k x = some ((a : Int), m) := by
 obtain ⟨⟨r, m⟩, e1, e2, q, rfl, hq, _⟩ := number_at x k hk
 exact ⟨q, m, hq, e1, e2⟩
theorem tell_none (s : ByteArray) (h : ∀ p1 p2 p3, cutL 62 s.data.toList = some p1 → cutL 58 p1.2 = some p2 → cutL 35 p2.2 = some p3 → False) (a b c d : Nat) : tell s a b c d = (0, 0, 0, 0, false) := by
 unfold tell
 rw [if_neg]
 rintro ⟨_, e⟩
 obtain ⟨c1, c2, c3⟩ := txL_chain a b c d
 rw [e] at c1
 exact h _ _ _ c1 c2 c3
theorem txOf_at (s : ByteArray) (hs : s.size < 4294967281) (k : Nat) (hk : s.size + 41 < k) : ∃ r, spec_TxOf.f k s = some r ∧ impl_TxOf.f k s = some r := by
 have both : ∀ (x1 x2 x3 y1 y2 y3 x1' x2' x3' y1' y2' y3' : ByteArray) (b1 b2 b3 b1' b2' b3' : Bool),
   spec_l2Cut.f k s 62 = some (x1, y1, b1) → spec_l2Cut.f k y1 58 = some (x2, y2, b2) → spec_l2Cut.f k y2 35 = some (x3, y3, b3) →
   strings_Cut.f s (⟨#[62]⟩ : ByteArray) = some (x1', y1', b1') → strings_Cut.f y1' (⟨#[58]⟩ : ByteArray) = some (x2', y2', b2') → strings_Cut.f y2' (⟨#[35]⟩ : ByteArray) = some (x3', y3', b3') →
   ((∀ a b c d : Nat, tell s a b c d = (0, 0, 0, 0, false)) ∨ (x1 = x1' ∧ x2 = x2' ∧ x3 = x3' ∧ y3 = y3')) → ∃ r, spec_TxOf.f k s = some r ∧ impl_TxOf.f k s = some r := by
  intro x1 x2 x3 y1 y2 y3 x1' x2' x3' y1' y2' y3' b1 b2 b3 b1' b2' b3' h1 h2 h3 g1 g2 g3 hor
  rcases hor with ht | ⟨rfl, rfl, rfl, rfl⟩
  ·
   obtain ⟨a, m1, ha, n1, _⟩ := num_of x1 k (by omega)
   obtain ⟨b, m2, hb, n2, _⟩ := num_of x2 k (by omega)
   obtain ⟨c, m3, hc, n3, _⟩ := num_of x3 k (by omega)
   obtain ⟨d, m4, hd, n4, _⟩ := num_of y3 k (by omega)
   obtain ⟨a', m1', ha', _, n1'⟩ := num_of x1' k (by omega)
   obtain ⟨b', m2', hb', _, n2'⟩ := num_of x2' k (by omega)
   obtain ⟨c', m3', hc', _, n3'⟩ := num_of x3' k (by omega)
   obtain ⟨d', m4', hd', _, n4'⟩ := num_of y3' k (by omega)
   refine ⟨(0, 0, 0, 0, false), ?_, ?_⟩
   ·
    rw [specTxOf_core s x1 x2 x3 y1 y2 y3 b1 b2 b3 k (by omega) h1 h2 h3 a b c d ha hb hc hd m1 m2 m3 m4 n1 n2 n3 n4, ht]
   ·
    rw [implTxOf_core s x1' x2' x3' y1' y2' y3' b1' b2' b3' k (by omega) g1 g2 g3 a' b' c' d' ha' hb' hc' hd' m1' m2' m3' m4' n1' n2' n3' n4', ht]
  ·
   obtain ⟨a, m1, ha, n1, n1'⟩ := num_of x1 k (by omega)
   obtain ⟨b, m2, hb, n2, n2'⟩ := num_of x2 k (by omega)
   obtain ⟨c, m3, hc, n3, n3'⟩ := num_of x3 k (by omega)
   obtain ⟨d, m4, hd, n4, n4'⟩ := num_of y3 k (by omega)
   exact ⟨_, specTxOf_core s x1 x2 x3 y1 y2 y3 b1 b2 b3 k (by omega) h1 h2 h3 a b c d ha hb hc hd m1 m2 m3 m4 n1 n2 n3 n4, implTxOf_core s x1 x2 x3 y1' y2' y3 b1' b2' b3' k (by omega) g1 g2 g3 a b c d ha hb hc hd m1 m2 m3 m4 n1' n2' n3' n4'⟩
 have sz0 : (mkS []).size = 0 := rfl
 have sp : ∀ {c : UInt8} {l : List UInt8} {p : List UInt8 × List UInt8}, cutL c l = some p → (mkS p.1).size ≤ l.length ∧ (mkS p.2).size ≤ l.length := by
  intro c l p h
  obtain ⟨e, _⟩ := cutL_some h
  rw [mkS_size, mkS_size, e]
  simp; omega
 have cS : ∀ (x : ByteArray) (c : UInt8), (cutS x c).2.1.size ≤ x.size := by
  intro x c
  unfold cutS
  cases h : cutL c x.data.toList with
  | none => simp only; rw [sz0]; omega
  | some p => simp only; have := (sp h).2; rw [len_size] at this; exact this
 have cI : ∀ (x : ByteArray) (c : UInt8), (cutI x c).2.1.size ≤ x.size := by
  intro x c
  unfold cutI
  cases h : cutL c x.data.toList with
  | none => simp only; rw [sz0]; omega
  | some p => simp only; have := (sp h).2; rw [len_size] at this; exact this
 have k1 := cS s 62
 have k2 := cS (cutS s 62).2.1 58
 have i1 := cI s 62
 have i2 := cI (cutI s 62).2.1 58
 refine both _ _ _ _ _ _ _ _ _ _ _ _ _ _ _ _ _ _ (specCut_at s 62 hs k (by omega)) (specCut_at (cutS s 62).2.1 58 (by omega) k (by omega)) (specCut_at (cutS (cutS s 62).2.1 58).2.1 35 (by omega) k (by omega))
  (implCut_at s 62 hs) (implCut_at (cutI s 62).2.1 58 (by omega)) (implCut_at (cutI (cutI s 62).2.1 58).2.1 35 (by omega)) ?_
 by_cases hn : ∃ p1 p2 p3, cutL 62 s.data.toList = some p1 ∧ cutL 58 p1.2 = some p2 ∧ cutL 35 p2.2 = some p3
 rotate_left
 ·
  exact Or.inl (tell_none s (fun p1 p2 p3 x1 x2 x3 => hn ⟨p1, p2, p3, x1, x2, x3⟩))
 ·
  right
  obtain ⟨p1, p2, p3, e1, e2, e3⟩ := hn
  have a1 : cutS s 62 = (mkS p1.1, mkS p1.2, true) := by unfold cutS; rw [e1]
  have a2 : cutI s 62 = (mkS p1.1, mkS p1.2, true) := by unfold cutI; rw [e1]
  have a3 : cutS (mkS p1.2) 58 = (mkS p2.1, mkS p2.2, true) := by unfold cutS; rw [mkS_list, e2]
  have a4 : cutI (mkS p1.2) 58 = (mkS p2.1, mkS p2.2, true) := by unfold cutI; rw [mkS_list, e2]
  have a5 : cutS (mkS p2.2) 35 = (mkS p3.1, mkS p3.2, true) := by unfold cutS; rw [mkS_list, e3]
  have a6 : cutI (mkS p2.2) 35 = (mkS p3.1, mkS p3.2, true) := by unfold cutI; rw [mkS_list, e3]
  simp only [a1, a2, a3, a4, a5, a6, mkS_list, e1, e2, e3, and_self]
theorem rdOf_mem {α : Type} (d : α) (xs : List α) (m : Nat) (h : m < xs.length) : rdOf d xs (m : Int) ∈ xs := by
 unfold rdOf
 simp [List.getD_eq_getElem?_getD, List.getElem?_eq_getElem h]
theorem splitA_size (c : UInt8) (s : ByteArray) : ∀ p ∈ splitA c s, p.size ≤ s.size := by
 intro p hp
 unfold splitA at hp
 obtain ⟨l, hl, rfl⟩ := List.mem_map.1 hp
 rw [mkS_size, ← len_size]
 exact splitL_part c _ l hl
theorem splitA_length (c : UInt8) (s : ByteArray) : (splitA c s).length ≤ s.size + 1 := by
 unfold splitA
 rw [List.length_map, ← len_size]
 exact splitL_length c _
theorem txsOf_l (ps : List ByteArray) (hL : ps.length < 1000000000000) (B : Nat) (hB : B < 4294967281) (hp : ∀ p ∈ ps, p.size ≤ B) : ∀ (d k m : Nat) (out : List (S156)), m + d = ps.length → d + B + 42 < k → out.length + d < 4398046511104 →
  ∃ r, spec_TxsOf.l0 k out ps (m : Int) = some r ∧ impl_TxsOf.l0 k out ps (ps.length : Int) (m : Int) = some r ∧ r.1.length ≤ out.length + d := by
 intro d
 induction d with
 | zero =>
  intro k m out hd hk ho
  obtain ⟨k, rfl⟩ : ∃ q, k = q + 1 := ⟨k - 1, by omega⟩
  refine ⟨(out, true), ?_, ?_, Nat.le_refl _⟩
  ·
   simp only [spec_TxsOf.l0]; rw [if_neg (by omega)]
  ·
   simp only [impl_TxsOf.l0]; rw [if_neg (by omega)]
 | succ d ih =>
  intro k m out hd hk ho
  obtain ⟨k, rfl⟩ : ∃ q, k = q + 1 := ⟨k - 1, by omega⟩
  have hs := hp _ (rdOf_mem ByteArray.empty ps m (by omega))
  obtain ⟨⟨a, b, c, e, ok⟩, h1, h2⟩ := txOf_at (rdOf ByteArray.empty ps (m : Int)) (by omega) k (by omega)
  have hw : wrap64 ((m : Int) + 1) = ((m + 1 : Nat) : Int) := wn (n := ps.length) (by omega) (by omega)
  have e1 : spec_TxsOf.l0 (k + 1) out ps (m : Int) = if ok = true then spec_TxsOf.l0 k (out ++ [⟨a, b, c, e⟩]) ps ((m + 1 : Nat) : Int) else some ([], false) := by
   simp only [spec_TxsOf.l0]
   rw [if_pos (by omega), if_pos (by omega), h1, Option.bind_some, hw, if_pos (show out.length < 4398046511104 by omega)]
  have e2 : impl_TxsOf.l0 (k + 1) out ps (ps.length : Int) (m : Int) = if ok = true then impl_TxsOf.l0 k (out ++ [⟨a, b, c, e⟩]) ps (ps.length : Int) ((m + 1 : Nat) : Int) else some ([], false) := by
   simp only [impl_TxsOf.l0]
   rw [if_pos (show (m : Int) < (ps.length : Int) by omega), if_pos (by omega), if_pos (by omega), h2, Option.bind_some, hw, if_pos (show out.length < 4398046511104 by omega)]
  rw [e1, e2]
  by_cases h : ok = true
  ·
   rw [if_pos h, if_pos h]
   obtain ⟨r, r1, r2, r3⟩ := ih k (m + 1) (out ++ [⟨a, b, c, e⟩]) (by omega) (by omega) (by simp; omega)
   exact ⟨r, r1, r2, by simp at r3; omega⟩
  ·
   rw [if_neg h, if_neg h]
   exact ⟨([], false), rfl, rfl, by simp⟩
theorem txsOf_at (s : ByteArray) (hs : s.size < 100000000) (k : Nat) (hk : 2 * s.size + 50 < k) : ∃ r, spec_TxsOf.f k s = some r ∧ impl_TxsOf.f k s = some r ∧ r.1.length ≤ s.size + 1 := by
 unfold spec_TxsOf.f impl_TxsOf.f
 rw [Option.bind_some]
 by_cases h : s.toList = []
 ·
  rw [if_pos h, if_pos h]; exact ⟨_, rfl, rfl, by simp⟩
 ·
  have g1 := specSplit_at s 44 (by omega) k (by omega)
  have g2 := implSplit_at s 44 (by omega)
  rw [show ((44 : UInt8).toNat : Int) = 44 from rfl] at g1 g2
  have hl := splitA_length 44 s
  rw [if_neg h, if_neg h, g1, g2, Option.bind_some, Option.bind_some]
  obtain ⟨r, r1, r2, r3⟩ := txsOf_l (splitA 44 s) (by omega) s.size (by omega) (splitA_size 44 s) (splitA 44 s).length k 0 [] (by omega) (by omega) (by simp; omega)
  exact ⟨r, r1, r2, by simp at r3; omega⟩
theorem rdOf_drop (ps : List ByteArray) (m : Nat) : rdOf ByteArray.empty (ps.drop 1) (m : Int) = rdOf ByteArray.empty ps ((m + 1 : Nat) : Int) := by
 unfold rdOf
 simp [List.getD_eq_getElem?_getD, Nat.add_comm]
theorem cut_both (s : ByteArray) (c : UInt8) : ((cutS s c).2.2 = (cutI s c).2.2) ∧ ((cutS s c).2.2 = true → cutS s c = cutI s c) ∧ (cutS s c).1.size ≤ s.size ∧ (cutS s c).2.1.size ≤ s.size ∧ (cutI s c).1.size ≤ s.size ∧ (cutI s c).2.1.size ≤ s.size := by
 unfold cutS cutI
 cases h : cutL c s.data.toList with
 | none => exact ⟨rfl, (fun x => by cases x), Nat.zero_le _, Nat.zero_le _, Nat.le_refl _, Nat.zero_le _⟩
 | some p =>
  obtain ⟨e, _⟩ := cutL_some h
  have hl : s.size = p.1.length + 1 + p.2.length := by rw [← len_size, e]; simp; omega
  exact ⟨rfl, fun _ => rfl, by simp only [mkS_size]; omega, by simp only [mkS_size]; omega, by simp only [mkS_size]; omega, by simp only [mkS_size]; omega⟩
theorem steps_l (ps : List ByteArray) (hL : ps.length < 1000000000000) (B : Nat) (hB : B < 100000000) (hp : ∀ p ∈ ps, p.size ≤ B) : ∀ (d k m : Nat) (out : List (S163)) (last : Nat), m + 1 + d = ps.length → d + 2 * B + 60 < k → out.length + d < 4398046511104 → last < 1000000 → (∀ e ∈ out, (1 : Int) ≤ e.f0) →
  ∃ r, spec_Steps.l0 k [] out ps (last : Int) ((m + 1 : Nat) : Int) = some r ∧ impl_Steps.l0 k out (last : Int) (ps.drop 1) ((ps.drop 1).length : Int) (m : Int) = some r ∧ (r.2 = false → r.1 = []) ∧ r.1.length ≤ out.length + d ∧ (r.2 = true → r.1.length = out.length + d) ∧ ∀ e ∈ r.1, (1 : Int) ≤ e.f0 := by
 intro d
 induction d with
 | zero =>
  intro k m out last hd hk ho hlast ho1
  obtain ⟨k, rfl⟩ : ∃ q, k = q + 1 := ⟨k - 1, by omega⟩
  refine ⟨(out, true), ?_, ?_, (fun x => by cases x), Nat.le_refl _, fun _ => rfl, ho1⟩
  ·
   simp only [spec_Steps.l0]; rw [if_neg (by omega)]
  ·
   simp only [impl_Steps.l0]; rw [if_neg (by rw [List.length_drop]; omega)]
 | succ d ih =>
  intro k m out last hd hk ho hlast ho1
  obtain ⟨k, rfl⟩ : ∃ q, k = q + 1 := ⟨k - 1, by omega⟩
  have hs := hp _ (rdOf_mem ByteArray.empty ps (m + 1) (by omega))
  generalize hx : rdOf ByteArray.empty ps ((m + 1 : Nat) : Int) = x at hs
  obtain ⟨hok, hsame, z1, z2, z3, z4⟩ := cut_both x 124
  have g1 := specCut_at x 124 (by omega) k (by omega)
  have g2 := implCut_at x 124 (by omega)
  rw [show ((124 : UInt8).toNat : Int) = 124 from rfl] at g1
  obtain ⟨q1, m1, hq1, n1, n1'⟩ := num_of (cutS x 124).1 k (by omega)
  obtain ⟨q2, m2, hq2, n2, n2'⟩ := num_of (cutI x 124).1 k (by omega)
  obtain ⟨t1, v1, v1', w1⟩ := txsOf_at (cutS x 124).2.1 (by omega) k (by omega)
  obtain ⟨t2, v2, v2', w2⟩ := txsOf_at (cutI x 124).2.1 (by omega) k (by omega)
  have hlen : out.length < 4398046511104 := by omega
  obtain ⟨HW, HX, HY⟩ : Aside0 (wrap64 (((m + 1 : Nat) : Int) + 1) = ((m + 1 + 1 : Nat) : Int)) ∧ Aside0 (wrap64 ((m : Int) + 1) = ((m + 1 : Nat) : Int)) ∧ Aside0 (wrap64 ((last : Int) + 1) = (last : Int) + 1) := ⟨⟨wn (n := ps.length) (by omega) (by omega)⟩, ⟨wn (n := ps.length) (by omega) (by omega)⟩, ⟨by unfold wrap64; omega⟩⟩
  have hdl : (ps.drop 1).length = ps.length - 1 := by rw [List.length_drop]
  have e1 : spec_Steps.l0 (k + 1) [] out ps (last : Int) ((m + 1 : Nat) : Int) = if (cutS x 124).2.2 = true then (if m1 = true then (if t1.2 = true then (if (q1 : Int) ≤ (last : Int) then some ([], false) else (if (q1 : Int) > 60 then some ([], false) else (if (t1.1.length : Int) > 2 then some ([], false) else spec_Steps.l0 k [] (out ++ [⟨(q1 : Int), t1.1⟩]) ps (q1 : Int) ((m + 1 + 1 : Nat) : Int)))) else some ([], false)) else some ([], false)) else some ([], false) := by
   simp only [spec_Steps.l0]
   rw [if_pos (by omega), if_pos (by omega), hx, g1, Option.bind_some, n1, Option.bind_some, v1, Option.bind_some, HW.out, if_pos hlen]
  have e2 : impl_Steps.l0 (k + 1) out (last : Int) (ps.drop 1) ((ps.drop 1).length : Int) (m : Int) = if (cutI x 124).2.2 = true then (if m2 = true then (if t2.2 = true then (if (q2 : Int) ≥ (last : Int) + 1 ∧ (q2 : Int) ≤ 60 then (if (t2.1.length : Int) > 2 then some ([], false) else impl_Steps.l0 k (out ++ [⟨(q2 : Int), t2.1⟩]) (q2 : Int) (ps.drop 1) ((ps.drop 1).length : Int) ((m + 1 : Nat) : Int)) else some ([], false)) else some ([], false)) else some ([], false)) else some ([], false) := by
   simp only [impl_Steps.l0]
   rw [if_pos (by rw [hdl]; omega), if_pos (by omega), if_pos (by rw [hdl]; omega), rdOf_drop, hx, g2, Option.bind_some, n2', Option.bind_some, v2', Option.bind_some, HX.out, if_pos hlen, HY.out]
   unfold impl_within.f
   by_cases a1 : (q2 : Int) ≥ (last : Int) + 1
   ·
    by_cases a2 : (q2 : Int) ≤ 60
    ·
     rw [if_pos a1, Option.bind_some, if_pos (decide_eq_true a2), if_pos (show (q2 : Int) ≥ (last : Int) + 1 ∧ (q2 : Int) ≤ 60 from ⟨a1, a2⟩)]
    ·
     rw [if_pos a1, Option.bind_some, if_neg (show ¬ (decide ((q2 : Int) ≤ 60) = true) by simpa using a2), if_neg (show ¬ ((q2 : Int) ≥ (last : Int) + 1 ∧ (q2 : Int) ≤ 60) from fun h => a2 h.2)]
   ·
    rw [if_neg a1, Option.bind_some, if_neg (show ¬ (false = true) by decide), if_neg (show ¬ ((q2 : Int) ≥ (last : Int) + 1 ∧ (q2 : Int) ≤ 60) from fun h => a1 h.1)]
  rw [e1, e2, ← hok]
  have bad : ∃ r : List (S163) × Bool, some (([] : List (S163)), false) = some r ∧ some (([] : List (S163)), false) = some r ∧ (r.2 = false → r.1 = []) ∧ r.1.length ≤ out.length + (d + 1) ∧ (r.2 = true → r.1.length = out.length + (d + 1)) ∧ ∀ e ∈ r.1, (1 : Int) ≤ e.f0 := ⟨_, rfl, rfl, fun _ => rfl, by simp, (fun x => by cases x), by simp⟩
  by_cases c0 : (cutS x 124).2.2 = true
  ·
   have es := hsame c0
   rw [← es] at n2' v2'
   obtain ⟨rfl, rfl⟩ : q1 = q2 ∧ m1 = m2 := by
    rw [n1'] at n2'
    simp only [Option.some.injEq, Prod.mk.injEq] at n2'
    exact ⟨by omega, n2'.2⟩
   obtain rfl : t1 = t2 := by
    rw [v1'] at v2'
    exact Option.some.inj v2'
   simp only [c0, if_true]
   by_cases c1 : m1 = true
   ·
    simp only [c1, if_true]
    by_cases c2 : t1.2 = true
    ·
     simp only [c2, if_true]
     by_cases c3 : (q1 : Int) ≤ (last : Int)
     ·
      rw [if_pos c3, if_neg (by omega)]; exact bad
     ·
      rw [if_neg c3]
      by_cases c4 : (q1 : Int) > 60
      ·
       rw [if_pos c4, if_neg (by omega)]; exact bad
      ·
       have c6 : (q1 : Int) ≥ (last : Int) + 1 ∧ (q1 : Int) ≤ 60 := ⟨by omega, by omega⟩
       rw [if_neg c4, if_pos c6]
       by_cases c5 : (t1.1.length : Int) > 2
       ·
        rw [if_pos c5, if_pos c5]; exact bad
       ·
        rw [if_neg c5, if_neg c5]
        have ho2 : ∀ e ∈ out ++ [(⟨(q1 : Int), t1.1⟩ : S163)], (1 : Int) ≤ e.f0 := by
         intro e he
         rcases List.mem_append.1 he with h | h
         ·
          exact ho1 e h
         ·
          rw [List.mem_singleton.1 h]
          show (1 : Int) ≤ (q1 : Int)
          omega
        obtain ⟨r, r1, r2, r3, r4, r5, r6⟩ := ih k (m + 1) (out ++ [⟨(q1 : Int), t1.1⟩]) q1 (by omega) (by omega) (by simp; omega) hq1 ho2
        exact ⟨r, r1, r2, r3, by simp at r4; omega, (fun h => by have := r5 h; simp at this; omega), r6⟩
    ·
     simp only [c2, if_false]; exact bad
   ·
    simp only [c1, if_false]; exact bad
  ·
   simp only [c0, if_false]; exact bad
theorem steps_at (s : ByteArray) (hs : s.size < 100000000) (k : Nat) (hk : 3 * s.size + 80 < k) :
  ∃ r, spec_Steps.f k s = some r ∧ impl_Steps.f k s = some r ∧ (r.2 = false → r.1 = []) ∧ r.1.length ≤ s.size + 1 ∧ (r.2 = true → s.data.toList = [] ∨ ∃ l, s.data.toList = 47 :: l) ∧ (s.data.toList = [] → r = ([], true)) ∧ (r.2 = true → s.data.toList ≠ [] → 0 < r.1.length) ∧ ∀ e ∈ r.1, (1 : Int) ≤ e.f0 := by
 unfold spec_Steps.f impl_Steps.f
 rw [Option.bind_some, Option.bind_some, Lib.toList_data]
 by_cases h : s.data.toList = []
 ·
  rw [if_pos h, if_pos h]; exact ⟨_, rfl, rfl, (fun x => by cases x), by simp, fun _ => Or.inl h, fun _ => rfl, fun _ x => absurd h x, by simp⟩
 ·
  have g1 := specSplit_at s 47 (by omega) k (by omega)
  have g2 := implSplit_at s 47 (by omega)
  rw [show ((47 : UInt8).toNat : Int) = 47 from rfl] at g1 g2
  have hl := splitA_length 47 s
  have hp : 0 < (splitA 47 s).length := by
   obtain ⟨x, t, e⟩ := splitL_ne 47 s.data.toList
   unfold splitA; rw [e]; simp
  have hpi : 0 < ((splitA 47 s).length : Int) := by omega
  rw [if_neg h, if_neg h, g1, g2, Option.bind_some, Option.bind_some, if_pos hpi, if_pos hpi]
  obtain ⟨k, rfl⟩ : ∃ q, k = q + 1 := ⟨k - 1, by omega⟩
  have bad1 : ∀ t, spec_Steps.j0 (k + 1) [] [] t true = some ([], false) := fun t => by simp [spec_Steps.j0]
  have bad2 : ∀ t, impl_Steps.j0 (k + 1) t true = some ([], false) := fun t => by simp [impl_Steps.j0]
  by_cases h0 : (rdOf ByteArray.empty (splitA 47 s) 0).toList = []
  ·
   have h47 : ∃ l, s.data.toList = 47 :: l := by
    unfold splitA rdOf at h0
    rw [splitL_cut] at h0
    cases hc : cutL 47 s.data.toList with
    | none => rw [hc] at h0; simp [mkS_toList] at h0; exact absurd h0 (by simpa using h)
    | some p =>
     rw [hc] at h0
     obtain ⟨e, _⟩ := cutL_some hc
     simp [mkS_toList] at h0
     rw [h0] at e
     exact ⟨p.2, by simpa using e⟩
   have h2 : 2 ≤ (splitA 47 s).length := by
    unfold splitA rdOf at h0
    unfold splitA
    rw [splitL_cut] at h0 ⊢
    cases hc : cutL 47 s.data.toList with
    | none => rw [hc] at h0; simp [mkS_toList] at h0; exact absurd h0 (by simpa using h)
    | some p =>
     obtain ⟨x, t, e⟩ := splitL_ne 47 p.2
     simp [e]
   rw [if_pos h0, if_pos h0]
   have hw : wrap64 (((splitA 47 s).length : Int) - 1) = ((splitA 47 s).length : Int) - 1 := by unfold wrap64; omega
   by_cases h31 : ((splitA 47 s).length : Int) > 31
   ·
    rw [decide_eq_true h31, hw, decide_eq_true (show ((splitA 47 s).length : Int) - 1 > 30 by omega), bad1, bad2]
    exact ⟨_, rfl, rfl, fun _ => rfl, by simp, (fun x => by cases x), (fun x => absurd x h), (fun x => by cases x), by simp⟩
   ·
    rw [decide_eq_false h31, hw, decide_eq_false (show ¬ ((splitA 47 s).length : Int) - 1 > 30 by omega)]
    obtain ⟨r, r1, r2, r3, r4, r5, r6⟩ := steps_l (splitA 47 s) (by omega) s.size hs (splitA_size 47 s) ((splitA 47 s).length - 1) k 0 [] 0 (by omega) (by omega) (by simp; omega) (by omega) (by simp)
    refine ⟨r, ?_, ?_, r3, by simp at r4; omega, (fun _ => Or.inr h47), (fun x => absurd x h), (fun x _ => by have := r5 x; simp at this; omega), r6⟩
    ·
     simp only [spec_Steps.j0]
     rw [if_neg (by simp)]
     exact r1
    ·
     simp only [impl_Steps.j0]
     rw [if_neg (by simp), if_pos (by omega), Option.bind_some]
     exact r2
  ·
   rw [if_neg h0, if_neg h0, bad1, bad2]
   exact ⟨_, rfl, rfl, fun _ => rfl, by simp, (fun x => by cases x), (fun x => absurd x h), (fun x => by cases x), by simp⟩
theorem rdStep_mem (xs : List S163) (i : Int) (h0 : 0 ≤ i) (h : i < (xs.length : Int)) : rd_T163 xs i ∈ xs := by
 have h1 : i.toNat < xs.length := by omega
 unfold rd_T163
 simp [List.getD_eq_getElem?_getD, List.getElem?_eq_getElem h1]
theorem viewOf_at (s : ByteArray) (hs : s.size < 100000000) (k : Nat) (hk : 3 * s.size + 80 < k) :
  ∃ v b, spec_ViewOf.f k s = some v ∧ impl_ViewOf.f k s = some v ∧ spec_NameOk.f k s = some b ∧ impl_NameOk.f k s = some b ∧ (b = true → s.data.toList ≠ [] → 1 ≤ v) ∧ (s.data.toList = [] → v = 0 ∧ b = true) := by
 obtain ⟨r, r1, r2, r3, r4, _, r5, r6, r7⟩ := steps_at s hs k hk
 unfold spec_ViewOf.f impl_ViewOf.f spec_NameOk.f impl_NameOk.f
 simp only [r1, r2, Option.bind_some]
 by_cases h : r.1 = []
 ·
  refine ⟨0, r.2, ?_, ?_, rfl, rfl, ?_, ?_⟩
  ·
   rw [h]; simp
  ·
   rw [h]; simp
  ·
   intro hb hne
   have := r6 hb hne
   rw [h] at this; simp at this
  ·
   intro he
   rw [r5 he]; exact ⟨rfl, rfl⟩
 ·
  have hp : 0 < r.1.length := List.length_pos_iff.2 h
  have hb : r.2 = true := by
   cases hb : r.2
   ·
    exact absurd (r3 hb) h
   ·
    rfl
  have w1 : wrap64 ((r.1.length : Int) - 1) = (r.1.length : Int) - 1 := by unfold wrap64; omega
  have c0 : ¬ (r.1.length : Int) = 0 := by omega
  have c1 : (0 : Int) ≤ (r.1.length : Int) - 1 := by omega
  have c2 : (r.1.length : Int) - 1 < (r.1.length : Int) := by omega
  refine ⟨(rd_T163 r.1 ((r.1.length : Int) - 1)).f0, r.2, ?_, ?_, rfl, rfl, ?_, ?_⟩
  ·
   simp only [w1, hb, if_true, if_neg c0, if_pos c1, if_pos c2]
  ·
   simp only [w1, if_neg c0, if_pos c1, if_pos c2]
  ·
   intro _ _
   exact r7 _ (rdStep_mem _ _ c1 c2)
  ·
   intro he
   exact absurd (congrArg Prod.fst (r5 he)) h
theorem mono_le {α : Type} {f : Nat → Option α} (h : ∀ k, LeO (f k) (f (k + 1))) {a : Nat} {x : α} (hx : f a = some x) : ∀ {b : Nat}, a ≤ b → f b = some x := by
 intro b
 induction b with
 | zero =>
  intro hab
  obtain rfl : a = 0 := by omega
  exact hx
 | succ b ih =>
  intro hab
  by_cases e : a = b + 1
  ·
   subst e; exact hx
  ·
   exact h b x (ih (by omega))
theorem steps_ex (s : ByteArray) (hs : s.size < 100000000) : ∃ r, ∀ k, 3 * s.size + 80 < k → spec_Steps.f k s = some r ∧ impl_Steps.f k s = some r := by
 obtain ⟨r, h, h', _⟩ := steps_at s hs (3 * s.size + 81) (by omega)
 exact ⟨r, fun k hk => ⟨mono_le (fun k => spec_Steps.mono s k) h (by omega), mono_le (fun k => impl_Steps.mono s k) h' (by omega)⟩⟩
noncomputable def stepsV (s : ByteArray) : List S163 × Bool := if h : s.size < 100000000 then Classical.choose (steps_ex s h) else ([], false)
theorem stepsV_at (s : ByteArray) (hs : s.size < 100000000) (k : Nat) (hk : 3 * s.size + 80 < k) : spec_Steps.f k s = some (stepsV s) ∧ impl_Steps.f k s = some (stepsV s) := by
 unfold stepsV
 rw [dif_pos hs]
 exact Classical.choose_spec (steps_ex s hs) k hk
def lastV (l : List S163) : Int := match l.getLast? with
 | some x => x.f0
 | none => 0
theorem viewV_at (s : ByteArray) (hs : s.size < 100000000) (k : Nat) (hk : 3 * s.size + 80 < k) : spec_ViewOf.f k s = some (lastV (stepsV s).1) ∧ impl_ViewOf.f k s = some (lastV (stepsV s).1) ∧ spec_NameOk.f k s = some (stepsV s).2 ∧ impl_NameOk.f k s = some (stepsV s).2 := by
 obtain ⟨r, r1, r2, r3, r4, _⟩ := steps_at s hs k hk
 obtain ⟨h1, h2⟩ := stepsV_at s hs k hk
 obtain rfl : stepsV s = r := Option.some.inj (h1.symm.trans r1)
 unfold spec_ViewOf.f impl_ViewOf.f spec_NameOk.f impl_NameOk.f
 simp only [h1, h2, Option.bind_some]
 generalize stepsV s = r at r3 r4
 by_cases h : r.1 = []
 ·
  rw [h]
  refine ⟨?_, ?_, trivial, trivial⟩
  ·
   simp [lastV]
  ·
   simp [lastV]
 ·
  have hp : 0 < r.1.length := List.length_pos_iff.2 h
  have hb : r.2 = true := by
   cases hb : r.2
   ·
    exact absurd (r3 hb) h
   ·
    rfl
  have w1 : wrap64 ((r.1.length : Int) - 1) = (r.1.length : Int) - 1 := by unfold wrap64; omega
  have c0 : ¬ (r.1.length : Int) = 0 := by omega
  have c1 : (0 : Int) ≤ (r.1.length : Int) - 1 := by omega
  have c2 : (r.1.length : Int) - 1 < (r.1.length : Int) := by omega
  have e : (rd_T163 r.1 ((r.1.length : Int) - 1)).f0 = lastV r.1 := by
   unfold rd_T163 lastV
   rw [List.getLast?_eq_getElem?, show ((r.1.length : Int) - 1).toNat = r.1.length - 1 by omega, List.getD_eq_getElem?_getD, List.getElem?_eq_getElem (by omega)]
   rfl
  refine ⟨?_, ?_, trivial, trivial⟩
  ·
   simp only [w1, hb, if_true, if_neg c0, if_pos c1, if_pos c2, e]
  ·
   simp only [w1, if_neg c0, if_pos c1, if_pos c2, e]
theorem nameOk_ex (s : ByteArray) (hs : s.size < 100000000) (k : Nat) (hk : 3 * s.size + 80 < k) : ∃ b, spec_NameOk.f k s = some b := ⟨_, (viewV_at s hs k hk).2.2.1⟩
theorem viewOf_ex (s : ByteArray) (hs : s.size < 100000000) (k : Nat) (hk : 3 * s.size + 80 < k) : ∃ v, spec_ViewOf.f k s = some v := ⟨_, (viewV_at s hs k hk).1⟩
theorem setHas_ex (l : List Int) (x : Int) (hn : l.length ≤ 1000000) (k : Nat) (hk : l.length < k) : ∃ b, spec_SetHas.f k l x = some b := by
 have key : ∀ (d k m : Nat), m + d = l.length → d < k → ∃ b, spec_SetHas.l0 k l x (m : Int) = some b := by
  intro d
  induction d with
  | zero =>
   intro k m hd hk
   obtain ⟨k, rfl⟩ : ∃ q, k = q + 1 := ⟨k - 1, by omega⟩
   simp only [spec_SetHas.l0]
   rw [if_neg (by omega)]; exact ⟨_, rfl⟩
  | succ d ih =>
   intro k m hd hk
   obtain ⟨k, rfl⟩ : ∃ q, k = q + 1 := ⟨k - 1, by omega⟩
   simp only [spec_SetHas.l0]
   rw [if_pos (by omega), if_pos (by omega), wn (n := l.length) (by omega) (by omega)]
   split
   ·
    exact ⟨_, rfl⟩
   ·
    exact ih k (m + 1) (by omega) (by omega)
 exact key l.length k 0 (by omega) hk
theorem setAdd_ex (l : List Int) (x : Int) (hn : l.length ≤ 1000000) (k : Nat) (hk : l.length < k) : ∃ r, spec_SetAdd.f k l x = some r ∧ r.length ≤ l.length + 1 := by
 have fin : ∀ m : Nat, m ≤ l.length → ([] ++ l.take m).length < 17592186044416 ∧ (([] ++ l.take m) ++ [x]).length + (l.drop m).length < 17592186044416 ∧ ((([] ++ l.take m) ++ [x]) ++ l.drop m).length ≤ l.length + 1 := by
  intro m hm
  simp only [List.nil_append, List.length_append, List.length_take, List.length_drop, List.length_singleton]
  omega
 have key : ∀ (d k m : Nat), m + d = l.length → d < k → ∃ r, spec_SetAdd.l0 k l x (m : Int) = some r ∧ r.length ≤ l.length + 1 := by
  intro d
  induction d with
  | zero =>
   intro k m hd hk
   obtain ⟨k, rfl⟩ : ∃ q, k = q + 1 := ⟨k - 1, by omega⟩
   obtain ⟨f1, f2, f3⟩ := fin m (by omega)
   have c1 : ¬ (m : Int) < (l.length : Int) := by omega
   have c2 : (0 : Int) ≤ (m : Int) := by omega
   have c3 : (m : Int) ≤ (l.length : Int) := by omega
   have c4 : ([] : List Int).length + (l.take m).length < 17592186044416 := by simpa using f1
   simp only [spec_SetAdd.l0, if_neg c1, Option.bind_some, if_pos c2, if_pos c3, Int.toNat_natCast, if_pos c4, if_pos f1, if_pos f2]
   exact ⟨_, rfl, f3⟩
  | succ d ih =>
   intro k m hd hk
   obtain ⟨k, rfl⟩ : ∃ q, k = q + 1 := ⟨k - 1, by omega⟩
   obtain ⟨f1, f2, f3⟩ := fin m (by omega)
   have c1 : (m : Int) < (l.length : Int) := by omega
   have c2 : (0 : Int) ≤ (m : Int) := by omega
   have c3 : (m : Int) ≤ (l.length : Int) := by omega
   have c4 : ([] : List Int).length + (l.take m).length < 17592186044416 := by simpa using f1
   obtain ⟨r, r1, r2⟩ := ih k (m + 1) (by omega) (by omega)
   have hw : wrap64 ((m : Int) + 1) = ((m + 1 : Nat) : Int) := wn (n := l.length) (by omega) (by omega)
   simp only [spec_SetAdd.l0, if_pos c1, Option.bind_some, if_pos c2, if_pos c3, Int.toNat_natCast, if_pos c4, if_pos f1, if_pos f2, hw, r1]
   split
   ·
    exact ⟨r, rfl, r2⟩
   ·
    exact ⟨_, rfl, f3⟩
 obtain ⟨b, hb⟩ := setHas_ex l x hn k hk
 obtain ⟨r, r1, r2⟩ := key l.length k 0 (by omega) hk
 have c0 : ([] : List Int).length + l.length < 17592186044416 := by simp; omega
 have r1' : spec_SetAdd.l0 k l x 0 = some r := r1
 unfold spec_SetAdd.f
 simp only [hb, Option.bind_some, if_pos c0, r1']
 cases b
 ·
  exact ⟨r, rfl, r2⟩
 ·
  exact ⟨_, rfl, by simp⟩
theorem and255 (n : Int) : Go.bits .and .i64 n 255 = n % 256 := by
 have h255 : (BitVec.ofInt 64 255).toNat = 2 ^ 8 - 1 := by decide
 have key : (BitVec.ofInt 64 n &&& BitVec.ofInt 64 255).toNat = (n % ((2 ^ 64 : Nat) : Int)).toNat % 2 ^ 8 := by
  rw [BitVec.toNat_and, BitVec.toNat_ofInt, h255, Nat.and_two_pow_sub_one_eq_mod]
 show IntKind.i64.wrap ((BitVec.ofInt 64 n &&& BitVec.ofInt 64 255).toNat : Nat) = n % 256
 rw [key, IntKind.wrap_i64]
 omega
theorem l1Byte_at (s : List Int) (hn : s.length ≤ 9223372036854775807) (i h : Int) (hi : 0 ≤ i ∧ i ≤ s.length) :
  ∃ x i' h', spec_l1Byte.f s i h = some (x, i', h') ∧ 0 ≤ x ∧ x ≤ 255 ∧ 0 ≤ i' ∧ i' ≤ s.length := by
 unfold spec_l1Byte.f
 by_cases h1 : i < (s.length : Int)
 ·
  rw [if_pos h1, if_pos hi.1]
  refine ⟨_, _, _, rfl, ?_, ?_, ?_, ?_⟩
  ·
   rw [and255]; omega
  ·
   rw [and255]; omega
  ·
   unfold wrap64; omega
  ·
   unfold wrap64; omega
 ·
  rw [if_neg h1]
  refine ⟨_, _, _, rfl, ?_, ?_, hi.1, hi.2⟩
  ·
   rw [and255]; omega
  ·
   rw [and255]; omega
theorem l1Below_at (s : List Int) (hn : s.length ≤ 9223372036854775807) (i h n : Int) (hi : 0 ≤ i ∧ i ≤ s.length) (h0 : 0 < n) (h1 : n ≤ 256) :
  ∃ x i' h', spec_l1Below.f s i h n = some (x, i', h') ∧ 0 ≤ x ∧ x < n ∧ 0 ≤ i' ∧ i' ≤ s.length := by
 obtain ⟨x, i', h', e, x0, x1, i0, i1⟩ := l1Byte_at s hn i h hi
 unfold spec_l1Below.f
 rw [if_neg (by omega), if_pos h1, e, Option.bind_some, if_neg (by omega)]
 refine ⟨_, _, _, rfl, ?_, ?_, i0, i1⟩
 ·
  exact Int.tmod_nonneg _ x0
 ·
  exact Int.tmod_lt_of_pos _ h0
theorem l1PickInt_at (s : List Int) (hn : s.length ≤ 9223372036854775807) (i h : Int) (hi : 0 ≤ i ∧ i ≤ s.length) (l : List Int) (h0 : 0 < l.length) (h1 : l.length ≤ 256) :
  ∃ x i' h', spec_l1PickInt.f s i h l = some (x, i', h') ∧ x ∈ l ∧ 0 ≤ i' ∧ i' ≤ s.length := by
 obtain ⟨x, i', h', e, x0, x1, i0, i1⟩ := l1Below_at s hn i h l.length hi (by omega) (by omega)
 unfold spec_l1PickInt.f
 rw [e, Option.bind_some, if_pos x0, if_pos x1]
 refine ⟨_, _, _, rfl, ?_, i0, i1⟩
 obtain ⟨n, rfl⟩ := Int.eq_ofNat_of_zero_le x0
 have : n < l.length := by omega
 simp [rd, List.getD_eq_getElem?_getD, List.getElem?_eq_getElem this]
theorem l1New_at (l : List Int) (hn : l.length ≤ 9223372036854775807) (k : Nat) (hk : 4001 < k) : ∃ h, spec_l1New.f k l = some (l, 0, h) := by
 have key : ∀ (d k m : Nat) (h : Int), m + d = 4000 → d < k → ∃ h', spec_l1New.l0 k l h (m : Int) = some (l, 0, h') := by
  intro d
  induction d with
  | zero =>
   intro k m h hd hk
   obtain ⟨k, rfl⟩ : ∃ q, k = q + 1 := ⟨k - 1, by omega⟩
   simp only [spec_l1New.l0]
   rw [if_neg (show ¬ ((m : Int) < 4000) by omega)]
   exact ⟨h, by simp⟩
  | succ d ih =>
   intro k m h hd hk
   obtain ⟨k, rfl⟩ : ∃ q, k = q + 1 := ⟨k - 1, by omega⟩
   simp only [spec_l1New.l0]
   by_cases h1 : (m : Int) < (l.length : Int)
   ·
    rw [if_pos h1, if_pos (by omega), if_pos (by omega), wn (n := l.length) (by omega) hn]
    exact ih k (m + 1) _ (by omega) (by omega)
   ·
    rw [if_neg h1]; exact ⟨h, rfl⟩
 obtain ⟨h, e⟩ := key 4000 k 0 _ (by omega) (by omega)
 exact ⟨h, e⟩
theorem l7DrawConf_at (s : List Int) (hn : s.length ≤ 9223372036854775807) (i h : Int) (hi : 0 ≤ i ∧ i ≤ s.length) :
  ∃ a b i' h', spec_l7DrawConf.f s i h = some (a, b, i', h') ∧ 4 ≤ a ∧ a ≤ 7 ∧ 1 ≤ b ∧ b ≤ 3 ∧ 0 ≤ i' ∧ i' ≤ s.length := by
 obtain ⟨x, i1, h1, e1, x0, x1, p1⟩ := l1Below_at s hn i h 4 hi (by omega) (by omega)
 obtain ⟨y, i2, h2, e2, y0, y1, p2⟩ := l1Below_at s hn i1 h1 3 p1 (by omega) (by omega)
 unfold spec_l7DrawConf.f
 rw [e1, Option.bind_some]; dsimp only
 rw [e2, Option.bind_some]; dsimp only
 refine ⟨_, _, _, _, rfl, ?_, ?_, ?_, ?_, p2.1, p2.2⟩ <;> (unfold wrap64; omega)
def Cu (c : List Int) (i : Int) : Prop := 0 ≤ i ∧ i ≤ (c.length : Int)
theorem below_ex (c : List Int) (hn : c.length ≤ 9223372036854775807) (i h n : Int) (hi : Cu c i) (h0 : 0 < n) (h1 : n ≤ 20000) :
  ∃ x i' h', spec_l1Below.f c i h n = some (x, i', h') ∧ (0 ≤ x ∧ x < n) ∧ Cu c i' := by
 by_cases h2 : n ≤ 256
 ·
  obtain ⟨x, i', h', e, x0, x1, y0, y1⟩ := l1Below_at c hn i h n hi h0 h2
  exact ⟨x, i', h', e, ⟨x0, x1⟩, y0, y1⟩
 ·
  obtain ⟨x, i1, h1', e1, a0, a1, p1⟩ := l1Byte_at c hn i h hi
  obtain ⟨y, i2, h2', e2, b0, b1, p2⟩ := l1Byte_at c hn i1 h1' p1
  obtain ⟨z, i3, h3', e3, c0, c1, p3⟩ := l1Byte_at c hn i2 h2' p2
  obtain ⟨w, i4, h4', e4, d0, d1, p4⟩ := l1Byte_at c hn i3 h3' p3
  unfold spec_l1Below.f
  rw [if_neg (by omega), if_neg h2, e1, Option.bind_some, e2, Option.bind_some, e3, Option.bind_some, e4, Option.bind_some, if_neg (by omega)]
  have q1 : wrap64 (x * 16777216) = x * 16777216 := by unfold wrap64; omega
  have q2 : wrap64 (y * 65536) = y * 65536 := by clear q1; unfold wrap64; omega
  have q3 : wrap64 (z * 256) = z * 256 := by clear q1 q2; unfold wrap64; omega
  have q4 : wrap64 (x * 16777216 + y * 65536) = x * 16777216 + y * 65536 := by clear q1 q2 q3; unfold wrap64; omega
  have q5 : wrap64 (x * 16777216 + y * 65536 + z * 256) = x * 16777216 + y * 65536 + z * 256 := by clear q1 q2 q3 q4; unfold wrap64; omega
  have q6 : wrap64 (x * 16777216 + y * 65536 + z * 256 + w) = x * 16777216 + y * 65536 + z * 256 + w := by clear q1 q2 q3 q4 q5; unfold wrap64; omega
  have hnn : 0 ≤ x * 16777216 + y * 65536 + z * 256 + w := by clear q1 q2 q3 q4 q5 q6; omega
  dsimp only
  rw [q1, q2, q4, q3, q5, q6]
  exact ⟨_, _, _, rfl, ⟨Int.tmod_nonneg _ hnn, Int.tmod_lt_of_pos _ h0⟩, p4⟩
theorem once_ex (c : List Int) (hn : c.length ≤ 9223372036854775807) (i h n : Int) (hi : Cu c i) (h0 : 0 < n) (h1 : n ≤ 20000) : ∃ b i' h', spec_l1Once.f c i h n = some (b, i', h') ∧ Cu c i' := by
 obtain ⟨x, i', h', e, _, p⟩ := below_ex c hn i h n hi h0 h1
 unfold spec_l1Once.f
 rw [e]; exact ⟨_, _, _, rfl, p⟩
theorem pickInt_ex (c : List Int) (hn : c.length ≤ 9223372036854775807) (i h : Int) (hi : Cu c i) (l : List Int) (h0 : 0 < l.length) (h1 : l.length ≤ 256) : ∃ x i' h', spec_l1PickInt.f c i h l = some (x, i', h') ∧ x ∈ l ∧ Cu c i' := by
 obtain ⟨x, i', h', e, m, p⟩ := l1PickInt_at c hn i h hi l h0 h1
 exact ⟨x, i', h', e, m, p⟩
theorem pick_ex (c : List Int) (hn : c.length ≤ 9223372036854775807) (i h : Int) (hi : Cu c i) (l : List ByteArray) (h0 : 0 < l.length) (h1 : l.length ≤ 256) (hz : ∀ x ∈ l, x.size = 1) : ∃ x i' h', spec_l1Pick.f c i h l = some (x, i', h') ∧ x.size = 1 ∧ Cu c i' := by
 obtain ⟨x, i', h', e, ⟨x0, x1⟩, p⟩ := below_ex c hn i h l.length hi (by omega) (by omega)
 unfold spec_l1Pick.f
 rw [e, Option.bind_some, if_pos x0, if_pos x1]
 refine ⟨_, _, _, rfl, ?_, p⟩
 obtain ⟨m, rfl⟩ := Int.eq_ofNat_of_zero_le x0
 exact hz _ (rdOf_mem ByteArray.empty l m (by omega))
def okT (x : S156) : Prop := (0 ≤ x.f0 ∧ x.f0 ≤ 3) ∧ (0 ≤ x.f1 ∧ x.f1 ≤ 3) ∧ (0 ≤ x.f2 ∧ x.f2 ≤ 1000) ∧ (0 ≤ x.f3 ∧ x.f3 ≤ 99)
theorem drawRight_ex (c : List Int) (hn : c.length ≤ 9223372036854775807) (i h : Int) (hi : Cu c i) : ∃ x y z w i' h', spec_l2DrawRight.f c i h = some (x, y, z, w, i', h') ∧ okT ⟨x, y, z, w⟩ ∧ Cu c i' := by
 obtain ⟨x, i1, h1, e1, ⟨a0, a1⟩, p1⟩ := below_ex c hn i h 4 hi (by omega) (by omega)
 obtain ⟨y, i2, h2, e2, ⟨b0, b1⟩, p2⟩ := below_ex c hn i1 h1 4 p1 (by omega) (by omega)
 obtain ⟨z, i3, h3, e3, hz, p3⟩ := pickInt_ex c hn i2 h2 p2 [0, 5, 60, 100, 1000] (by simp) (by simp)
 obtain ⟨w, i4, h4, e4, ⟨d0, d1⟩, p4⟩ := below_ex c hn i3 h3 3 p3 (by omega) (by omega)
 unfold spec_l2DrawRight.f
 rw [e1, Option.bind_some]; dsimp only
 rw [e2, Option.bind_some]; dsimp only
 rw [e3, Option.bind_some]; dsimp only
 rw [e4, Option.bind_some]
 refine ⟨x, y, z, w, i4, h4, rfl, ⟨⟨a0, by show x ≤ 3; omega⟩, ⟨b0, by show y ≤ 3; omega⟩, ?_, ⟨d0, by show w ≤ 99; omega⟩⟩, p4⟩
 show 0 ≤ z ∧ z ≤ 1000
 simp at hz; omega
theorem rdT_mem (xs : List S156) (m : Nat) (h : m < xs.length) : rd_T156 xs (m : Int) ∈ xs := by
 unfold rd_T156
 simp [List.getD_eq_getElem?_getD, List.getElem?_eq_getElem h]
theorem txText_ex (x : S156) (h : okT x) (k : Nat) (hk : 20 < k) : ∃ t, spec_TxText.f k x.f0 x.f1 x.f2 x.f3 = some t ∧ t.size ≤ 30 ∧ spec_TxOk.f x.f0 x.f1 x.f2 x.f3 = some true := by
 obtain ⟨h1, h2, h3, h4⟩ := h
 obtain ⟨a, ea⟩ : ∃ a : Nat, x.f0 = (a : Int) := ⟨x.f0.toNat, by omega⟩
 obtain ⟨b, eb⟩ : ∃ a : Nat, x.f1 = (a : Int) := ⟨x.f1.toNat, by omega⟩
 obtain ⟨c, ec⟩ : ∃ a : Nat, x.f2 = (a : Int) := ⟨x.f2.toNat, by omega⟩
 obtain ⟨d, ed⟩ : ∃ a : Nat, x.f3 = (a : Int) := ⟨x.f3.toNat, by omega⟩
 have hb : txB a b c d = true := by unfold txB; exact decide_eq_true (by omega)
 have h5 := dig_len 5 a (by omega)
 have h6 := dig_len 5 b (by omega)
 have h7 := dig_len 5 c (by omega)
 have h8 := dig_len 5 d (by omega)
 rw [ea, eb, ec, ed, specTxText_at a b c d (by omega) (by omega) (by omega) (by omega) k hk, specTxOk_at, if_pos hb, hb]
 refine ⟨_, rfl, ?_, rfl⟩
 rw [mkS_size]
 unfold txL
 simp only [List.length_append, List.length_cons]
 omega
theorem txsText_ex (l : List S156) (hn : l.length ≤ 100) (hx : ∀ x ∈ l, okT x) (k : Nat) (hk : 200 < k) : ∃ t, spec_TxsText.f k l = some t ∧ t.size ≤ 31 * l.length := by
 have key : ∀ (d k m : Nat) (out : ByteArray), m + d = l.length → d + 25 < k → out.size ≤ 31 * m → ∃ t, spec_TxsText.l0 k l out (m : Int) = some t ∧ t.size ≤ 31 * l.length := by
  intro d
  induction d with
  | zero =>
   intro k m out hd hk ho
   obtain ⟨k, rfl⟩ : ∃ q, k = q + 1 := ⟨k - 1, by omega⟩
   simp only [spec_TxsText.l0]
   rw [if_neg (by omega)]; exact ⟨_, rfl, by omega⟩
  | succ d ih =>
   intro k m out hd hk ho
   obtain ⟨k, rfl⟩ : ∃ q, k = q + 1 := ⟨k - 1, by omega⟩
   obtain ⟨t, t1, t2, t3⟩ := txText_ex _ (hx _ (rdT_mem l m (by omega))) k (by omega)
   have o1 : (⟨#[44]⟩ : ByteArray).size = 1 := rfl
   simp only [spec_TxsText.l0]
   rw [if_pos (by omega), if_pos (by omega), t3, Option.bind_some, if_pos rfl, t1]
   have hw : wrap64 ((m : Int) + 1) = ((m + 1 : Nat) : Int) := wn (n := l.length) (by omega) (by omega)
   by_cases h0 : (m : Int) > 0
   ·
    rw [if_pos h0, if_pos (by clear hw; omega), Option.bind_some, if_pos (by clear hw; rw [ByteArray.size_append]; omega), hw]
    exact ih k (m + 1) _ (by clear hw; omega) (by clear hw; omega) (by clear hw; rw [ByteArray.size_append, ByteArray.size_append]; omega)
   ·
    rw [if_neg h0, Option.bind_some, if_pos (by clear hw; omega), hw]
    exact ih k (m + 1) _ (by clear hw; omega) (by clear hw; omega) (by clear hw; rw [ByteArray.size_append]; omega)
 exact key l.length k 0 (⟨#[]⟩ : ByteArray) (by omega) (by omega) (Nat.zero_le _)
theorem nameOf_ex (up : ByteArray) (v : Nat) (l : List S156) (hup : up.size ≤ 5000) (hv : v ≤ 1000) (hn : l.length ≤ 10) (hx : ∀ x ∈ l, okT x) (k : Nat) (hk : 40000 < k) : ∃ r, spec_NameOf.f k up (v : Int) l = some r ∧ r.size ≤ up.size + 400 := by
 have key : ∀ (d k m : Nat), m + d = l.length → d + 30000 < k → ∃ r, spec_NameOf.l0 k up (v : Int) l (m : Int) = some r ∧ r.size ≤ up.size + 400 := by
  intro d
  induction d with
  | zero =>
   intro k m hd hk
   obtain ⟨k, rfl⟩ : ∃ q, k = q + 1 := ⟨k - 1, by omega⟩
   obtain ⟨t, t1, t2⟩ := txsText_ex l (by omega) hx k (by omega)
   have d1 := specDigits_at v (by omega) (by omega) k (by omega)
   have d2 := digS_size v (by omega)
   have o1 : (⟨#[47]⟩ : ByteArray).size = 1 := rfl
   have o2 : (⟨#[124]⟩ : ByteArray).size = 1 := rfl
   have hsz : ((((up ++ (⟨#[47]⟩ : ByteArray)) ++ digS v) ++ (⟨#[124]⟩ : ByteArray)) ++ t).size ≤ up.size + 400 := by
    rw [ByteArray.size_append, ByteArray.size_append, ByteArray.size_append, ByteArray.size_append]; omega
   obtain ⟨b, hb⟩ := nameOk_ex ((((up ++ (⟨#[47]⟩ : ByteArray)) ++ digS v) ++ (⟨#[124]⟩ : ByteArray)) ++ t) (by omega) k (by omega)
   simp only [spec_NameOf.l0]
   rw [if_neg (by omega), if_pos (by omega), d1, Option.bind_some, if_pos (by rw [ByteArray.size_append]; omega), if_pos (by rw [ByteArray.size_append, ByteArray.size_append]; omega), t1, Option.bind_some, if_pos (by rw [ByteArray.size_append, ByteArray.size_append, ByteArray.size_append]; omega), hb, Option.bind_some]
   cases b
   ·
    exact ⟨_, by rw [if_neg (by decide)], Nat.zero_le _⟩
   ·
    exact ⟨_, by rw [if_pos rfl], hsz⟩
  | succ d ih =>
   intro k m hd hk
   obtain ⟨k, rfl⟩ : ∃ q, k = q + 1 := ⟨k - 1, by omega⟩
   obtain ⟨t, _, _, t3⟩ := txText_ex _ (hx _ (rdT_mem l m (by omega))) 21 (by omega)
   simp only [spec_NameOf.l0]
   rw [if_pos (by omega), if_pos (by omega), t3, Option.bind_some, if_pos rfl, wn (n := l.length) (by omega) (by omega)]
   exact ih k (m + 1) (by omega) (by omega)
 exact key l.length k 0 (by omega) (by omega)
theorem l5Right_ex (c : List Int) (hn : c.length ≤ 9223372036854775807) (i h : Int) (hi : Cu c i) (k : Nat) (hk : 50000 < k) : ∃ r i' h', spec_l5DrawRight.f k c i h = some (r, i', h') ∧ r.size ≤ 3000 ∧ Cu c i' := by
 have inner : ∀ (e k j : Nat) (s : ByteArray) (v x : Nat) (list : List S156) (i h : Int), j + e = 3 → 41000 + e < k → s.size ≤ 5000 → v ≤ 1000 → x ≤ 10 → list.length ≤ j → (∀ y ∈ list, okT y) → Cu c i →
   (∀ (k' : Nat) (t : ByteArray) (i h : Int), k ≤ k' + e + 2 → t.size ≤ s.size + 400 → Cu c i → ∃ r i' h', spec_l5DrawRight.l0 k' t (v : Int) ((x + 1 : Nat) : Int) c i h = some (r, i', h') ∧ r.size ≤ 3000 ∧ Cu c i') →
   ∃ r i' h', spec_l5DrawRight.l1 k s (v : Int) (x : Int) list (j : Int) c i h = some (r, i', h') ∧ r.size ≤ 3000 ∧ Cu c i' := by
  intro e
  induction e with
  | zero =>
   intro k j s v x list i h hd hk hs hv hx hl hf hi hc
   obtain ⟨k, rfl⟩ : ∃ q, k = q + 1 := ⟨k - 1, by omega⟩
   obtain ⟨b, i1, h1, e1, ⟨b0, b1⟩, p1⟩ := below_ex c hn i h 3 hi (by omega) (by omega)
   obtain ⟨t, t1, t2⟩ := nameOf_ex s v list (by omega) hv (by omega) hf k (by omega)
   simp only [spec_l5DrawRight.l1]
   rw [e1, Option.bind_some]; dsimp only
   rw [if_neg (by omega), t1, Option.bind_some, wn (m := x) (n := 100) (by omega) (by omega)]
   exact hc k t i1 h1 (by omega) t2 p1
  | succ e ih =>
   intro k j s v x list i h hd hk hs hv hx hl hf hi hc
   obtain ⟨k, rfl⟩ : ∃ q, k = q + 1 := ⟨k - 1, by omega⟩
   obtain ⟨b, i1, h1, e1, ⟨b0, b1⟩, p1⟩ := below_ex c hn i h 3 hi (by omega) (by omega)
   obtain ⟨t, t1, t2⟩ := nameOf_ex s v list (by omega) hv (by omega) hf k (by omega)
   obtain ⟨q0, q1, q2, q3, i2, h2, e2, ok, p2⟩ := drawRight_ex c hn i1 h1 p1
   simp only [spec_l5DrawRight.l1]
   rw [e1, Option.bind_some]; dsimp only
   by_cases hlt : (j : Int) < b
   ·
    rw [if_pos hlt, e2, Option.bind_some, if_pos (by omega), wn (m := j) (n := 100) (by omega) (by omega)]
    refine ih k (j + 1) s v x _ i2 h2 (by omega) (by omega) hs hv hx (by simp; omega) ?_ p2 (fun k' t i h h1 h2 h3 => hc k' t i h (by omega) h2 h3)
    intro y hy
    rcases List.mem_append.1 hy with hy | hy
    ·
     exact hf y hy
    ·
     rw [List.mem_singleton.1 hy]; exact ok
   ·
    rw [if_neg hlt, t1, Option.bind_some, wn (m := x) (n := 100) (by omega) (by omega)]
    exact hc k t i1 h1 (by omega) t2 p1
 have outer : ∀ (d k x : Nat) (s : ByteArray) (v : Nat) (i h : Int), x + d = 6 → 42000 + 10 * d < k → s.size ≤ 400 * x → v ≤ 2 * x → Cu c i → ∃ r i' h', spec_l5DrawRight.l0 k s (v : Int) (x : Int) c i h = some (r, i', h') ∧ r.size ≤ 3000 ∧ Cu c i' := by
  intro d
  induction d with
  | zero =>
   intro k x s v i h hd hk hs hv hi
   obtain ⟨k, rfl⟩ : ∃ q, k = q + 1 := ⟨k - 1, by omega⟩
   obtain ⟨b, i1, h1, e1, ⟨b0, b1⟩, p1⟩ := below_ex c hn i h 6 hi (by omega) (by omega)
   simp only [spec_l5DrawRight.l0]
   rw [e1, Option.bind_some]; dsimp only
   rw [if_neg (by omega)]
   exact ⟨_, _, _, rfl, by omega, p1⟩
  | succ d ih =>
   intro k x s v i h hd hk hs hv hi
   obtain ⟨k, rfl⟩ : ∃ q, k = q + 1 := ⟨k - 1, by omega⟩
   obtain ⟨b, i1, h1, e1, ⟨b0, b1⟩, p1⟩ := below_ex c hn i h 6 hi (by omega) (by omega)
   obtain ⟨y, i2, h2, e2, ⟨y0, y1⟩, p2⟩ := below_ex c hn i1 h1 4 p1 (by omega) (by omega)
   simp only [spec_l5DrawRight.l0]
   rw [e1, Option.bind_some]; dsimp only
   by_cases hlt : (x : Int) < b
   ·
    obtain ⟨z, ez, hz⟩ : ∃ z : Nat, wrap64 (wrap64 ((v : Int) + 1) + wrap64 (Int.tdiv y 3)) = (z : Int) ∧ z ≤ 2 * (x + 1) := by
     have hy : Int.tdiv y 3 = y / 3 := Int.tdiv_eq_ediv_of_nonneg y0
     rw [hy]
     refine ⟨v + 1 + (y / 3).toNat, ?_, by omega⟩
     have w1 : wrap64 ((v : Int) + 1) = (v : Int) + 1 := by clear hy; unfold wrap64; omega
     have w2 : wrap64 (y / 3) = y / 3 := by clear hy w1; unfold wrap64; omega
     rw [w1, w2]
     clear w1 w2 hy
     unfold wrap64
     omega
    rw [if_pos hlt, e2, Option.bind_some]; dsimp only
    rw [ez]
    refine inner 3 k 0 s z x [] i2 h2 (by omega) (by clear ez; omega) (by clear ez; omega) (by clear ez; omega) (by clear ez; omega) (by simp) (by simp) p2 ?_
    intro k' t i h g1 g2 g3
    exact ih k' (x + 1) t z i h (by clear ez; omega) (by clear ez; omega) (by clear ez; omega) hz g3
   ·
    rw [if_neg hlt]
    exact ⟨_, _, _, rfl, by omega, p1⟩
 unfold spec_l5DrawRight.f
 exact outer 6 k 0 (⟨#[]⟩ : ByteArray) 0 i h (by omega) (by omega) (Nat.zero_le _) (by omega) hi
theorem dent_ex (c : List Int) (hn : c.length ≤ 9223372036854775807) (i h : Int) (hi : Cu c i) (s : ByteArray) (hs : s.size ≤ 9000) : ∃ r i' h', spec_l2Dent.f c i h s = some (r, i', h') ∧ r.size ≤ s.size + 1 ∧ Cu c i' := by
 have hw : wrap64 ((s.size : Int) + 1) = (s.size : Int) + 1 := by unfold wrap64; omega
 obtain ⟨x, i1, h1, e1, ⟨a0, a1⟩, p1⟩ := below_ex c hn i h ((s.size : Int) + 1) hi (by clear hw; omega) (by clear hw; omega)
 obtain ⟨y, i2, h2, e2, ⟨b0, b1⟩, p2⟩ := below_ex c hn i1 h1 5 p1 (by omega) (by omega)
 obtain ⟨t, i3, h3, e3, ht, p3⟩ := pick_ex c hn i2 h2 p2 [(⟨#[48]⟩ : ByteArray), (⟨#[44]⟩ : ByteArray), (⟨#[62]⟩ : ByteArray), (⟨#[47]⟩ : ByteArray), (⟨#[124]⟩ : ByteArray), (⟨#[120]⟩ : ByteArray), (⟨#[49]⟩ : ByteArray)] (by simp) (by simp) (by
  intro x hx
  simp only [List.mem_cons, List.not_mem_nil, or_false] at hx
  rcases hx with rfl | rfl | rfl | rfl | rfl | rfl | rfl <;> rfl)
 have c1 : x ≤ (s.size : Int) := by clear hw; omega
 have z1 : (s.extract 0 x.toNat).size ≤ s.size := by rw [ByteArray.size_extract]; clear hw; omega
 have z2 : (s.extract 0 x.toNat).size + (s.extract x.toNat s.size).size ≤ s.size := by rw [ByteArray.size_extract, ByteArray.size_extract]; clear hw; omega
 unfold spec_l2Dent.f
 rw [hw]
 clear hw
 rw [e1, Option.bind_some]; dsimp only
 rw [e2, Option.bind_some]; dsimp only
 by_cases h0 : y = 0
 ·
  rw [if_pos h0, if_pos a0, if_pos c1]
  exact ⟨_, _, _, rfl, by omega, p2⟩
 ·
  rw [if_neg h0]
  by_cases h1 : y = 1
  ·
   rw [if_pos h1, if_pos a0, if_pos c1, e3, Option.bind_some]; dsimp only
   rw [if_pos (by omega), if_pos (by rw [ByteArray.size_append]; omega)]
   refine ⟨_, _, _, rfl, ?_, p3⟩
   rw [ByteArray.size_append, ByteArray.size_append]; omega
  ·
   rw [if_neg h1]
   exact ⟨_, _, _, rfl, by omega, p2⟩
theorem l5Draw_ex (c : List Int) (hn : c.length ≤ 9223372036854775807) (i h : Int) (hi : Cu c i) (k : Nat) (hk : 50100 < k) : ∃ r i' h', spec_l5Draw.f k c i h = some (r, i', h') ∧ r.size ≤ 4000 ∧ Cu c i' := by
 have key : ∀ (d k x : Nat) (s : ByteArray) (i h : Int), x + d = 32 → d + 50 < k → s.size ≤ 10 * x → Cu c i → ∃ r i' h', spec_l5Draw.l0 k s (x : Int) c i h = some (r, i', h') ∧ r.size ≤ 4000 ∧ Cu c i' := by
  intro d
  induction d with
  | zero =>
   intro k x s i h hd hk hs hi
   obtain ⟨k, rfl⟩ : ∃ q, k = q + 1 := ⟨k - 1, by omega⟩
   obtain ⟨b, i1, h1, e1, ⟨b0, b1⟩, p1⟩ := below_ex c hn i h 2 hi (by omega) (by omega)
   have hw : wrap64 (30 + b) = 30 + b := by unfold wrap64; omega
   simp only [spec_l5Draw.l0]
   rw [e1, Option.bind_some]; dsimp only
   rw [hw]
   clear hw
   rw [if_neg (by omega)]
   exact ⟨_, _, _, rfl, by omega, p1⟩
  | succ d ih =>
   intro k x s i h hd hk hs hi
   obtain ⟨k, rfl⟩ : ∃ q, k = q + 1 := ⟨k - 1, by omega⟩
   obtain ⟨b, i1, h1, e1, ⟨b0, b1⟩, p1⟩ := below_ex c hn i h 2 hi (by omega) (by omega)
   have d1 := specDigits_at x (by omega) (by omega) k (by omega)
   have d2 := digS_size x (by omega)
   have o1 : (⟨#[47]⟩ : ByteArray).size = 1 := rfl
   have o2 : (⟨#[124]⟩ : ByteArray).size = 1 := rfl
   have hw : wrap64 (30 + b) = 30 + b := by unfold wrap64; omega
   simp only [spec_l5Draw.l0]
   rw [e1, Option.bind_some]; dsimp only
   rw [hw]
   clear hw
   by_cases hlt : (x : Int) ≤ 30 + b
   ·
    rw [if_pos hlt, if_pos (by omega), d1, Option.bind_some, if_pos (by rw [ByteArray.size_append]; omega), if_pos (by rw [ByteArray.size_append, ByteArray.size_append]; omega), wn (m := x) (n := 100) (by omega) (by omega)]
    exact ih k (x + 1) _ i1 h1 (by omega) (by omega) (by rw [ByteArray.size_append, ByteArray.size_append, ByteArray.size_append]; omega) p1
   ·
    rw [if_neg hlt]
    exact ⟨_, _, _, rfl, by omega, p1⟩
 obtain ⟨b, i1, h1, e1, p1⟩ := once_ex c hn i h 20 hi (by omega) (by omega)
 unfold spec_l5Draw.f
 rw [e1, Option.bind_some]; dsimp only
 cases b
 ·
  rw [if_neg (by decide)]
  obtain ⟨r, i2, h2, e2, r2, p2⟩ := l5Right_ex c hn i1 h1 p1 k (by omega)
  obtain ⟨t, i3, h3, e3, r3, p3⟩ := dent_ex c hn i2 h2 p2 r (by omega)
  rw [e2, Option.bind_some]; dsimp only
  rw [e3, Option.bind_some]
  exact ⟨t, i3, h3, rfl, by omega, p3⟩
 ·
  rw [if_pos rfl]
  exact key 31 k 1 (⟨#[]⟩ : ByteArray) i1 h1 (by omega) (by omega) (Nat.zero_le _) p1
theorem l6Set_ex (c : List Int) (hn : c.length ≤ 9223372036854775807) (i h n : Int) (hi : Cu c i) (h0 : 0 < n) (h1 : n ≤ 256) (k : Nat) (hk : 200 < k) : ∃ r i' h', spec_l6DrawSet.f k c i h n = some (r, i', h') ∧ r.length ≤ 20 ∧ Cu c i' := by
 have key : ∀ (d k x : Nat) (s : List Int) (i h : Int), x + d = 8 → d + 50 < k → s.length ≤ x → Cu c i → ∃ r i' h', spec_l6DrawSet.l0 k n s (x : Int) c i h = some (r, i', h') ∧ r.length ≤ 20 ∧ Cu c i' := by
  have fin : ∀ (s : List Int) (i h : Int), s.length ≤ 8 → Cu c i → ∃ r i' h', (spec_l1Once.f c i h 12).bind (fun bt458 => (if bt458.1 = true then ((spec_l1PickInt.f c bt458.2.1 bt458.2.2 (([(-1), 0, 3, 9] : List Int))).bind fun bt464 => (if s.length < 17592186044416 then (some ((s ++ [bt464.1]), bt464.2.1, bt464.2.2)) else (none))) else (some (s, bt458.2.1, bt458.2.2)))) = some (r, i', h') ∧ r.length ≤ 20 ∧ Cu c i' := by
   intro s i h hs hi
   obtain ⟨b, i1, h1, e1, p1⟩ := once_ex c hn i h 12 hi (by omega) (by omega)
   obtain ⟨y, i2, h2, e2, _, p2⟩ := pickInt_ex c hn i1 h1 p1 [(-1), 0, 3, 9] (by simp) (by simp)
   rw [e1, Option.bind_some]; dsimp only
   cases b
   ·
    rw [if_neg (by decide)]; exact ⟨_, _, _, rfl, by omega, p1⟩
   ·
    rw [if_pos rfl, e2, Option.bind_some, if_pos (by omega)]; exact ⟨_, _, _, rfl, by simp; omega, p2⟩
  intro d
  induction d with
  | zero =>
   intro k x s i h hd hk hs hi
   obtain ⟨k, rfl⟩ : ∃ q, k = q + 1 := ⟨k - 1, by omega⟩
   obtain ⟨b, i1, h1, e1, ⟨b0, b1⟩, p1⟩ := below_ex c hn i h 8 hi (by omega) (by omega)
   simp only [spec_l6DrawSet.l0]
   rw [e1, Option.bind_some]; dsimp only
   rw [if_neg (by omega)]
   exact fin s i1 h1 (by omega) p1
  | succ d ih =>
   intro k x s i h hd hk hs hi
   obtain ⟨k, rfl⟩ : ∃ q, k = q + 1 := ⟨k - 1, by omega⟩
   obtain ⟨b, i1, h1', e1, ⟨b0, b1⟩, p1⟩ := below_ex c hn i h 8 hi (by omega) (by omega)
   obtain ⟨y, i2, h2, e2, _, p2⟩ := below_ex c hn i1 h1' n p1 h0 (by omega)
   obtain ⟨r, r1, r2⟩ := setAdd_ex s y (by omega) k (by omega)
   simp only [spec_l6DrawSet.l0]
   rw [e1, Option.bind_some]; dsimp only
   by_cases hlt : (x : Int) < b
   ·
    rw [if_pos hlt, e2, Option.bind_some]; dsimp only
    rw [r1, Option.bind_some, wn (m := x) (n := 100) (by omega) (by omega)]
    exact ih k (x + 1) r i2 h2 (by omega) (by omega) (by omega) p2
   ·
    rw [if_neg hlt]
    exact fin s i1 h1' (by omega) p1
 unfold spec_l6DrawSet.f
 exact key 8 k 0 [] i h (by omega) (by omega) (by simp) hi
theorem l7OfT_ex (c : List Int) (hn : c.length ≤ 9223372036854775807) (i h : Int) (hi : Cu c i) (n : Nat) (hn7 : n ≤ 10) (b : Int) (s : ByteArray) (hs : s.size ≤ 5000) (k : Nat) (hk : 20000 < k) : ∃ v l i' h', spec_l7DrawOf.f k c i h (n : Int) b s = some (v, s, l, i', h') ∧ l.length ≤ 10 ∧ Cu c i' := by
 have key : ∀ (v : Int) (d k x : Nat) (l : List Int) (i h : Int), x + d = n → d + 50 < k → l.length ≤ x → Cu c i → ∃ r i' h', spec_l7DrawOf.l0 k (x : Int) c i h (n : Int) b v s l = some (v, s, r, i', h') ∧ r.length ≤ 10 ∧ Cu c i' := by
  intro v d
  induction d with
  | zero =>
   intro k x l i h hd hk hl hi
   obtain ⟨k, rfl⟩ : ∃ q, k = q + 1 := ⟨k - 1, by omega⟩
   obtain ⟨o, i1, h1, e1, p1⟩ := once_ex c hn i h 2 hi (by omega) (by omega)
   simp only [spec_l7DrawOf.l0]
   rw [if_neg (by omega), e1, Option.bind_some]; dsimp only
   cases o
   ·
    rw [if_neg (by decide)]; exact ⟨_, _, _, rfl, by omega, p1⟩
   ·
    rw [if_pos rfl]
    by_cases h0 : (l.length : Int) > 0
    ·
     obtain ⟨y, i2, h2, e2, ⟨y0, y1⟩, p2⟩ := below_ex c hn i1 h1 l.length p1 (by omega) (by omega)
     have c1 : y ≤ (l.length:Int) := by omega
     have c2 : 0 ≤ y + 1 := by omega
     have c3 : y + 1 ≤ (l.length : Int) := by omega
     have c4 : ([] : List Int).length + (l.take y.toNat).length < 17592186044416 := by simp; omega
     have c5 : (([] : List Int) ++ l.take y.toNat).length + (l.drop (y+1).toNat).length < 17592186044416 := by simp; omega
     have c6 : (([] : List Int) ++ l.take y.toNat ++ l.drop (y+1).toNat).length ≤ 10 := by simp; omega
     have hw : wrap64 (y + 1) = y + 1 := by clear c4 c5 c6; unfold wrap64; omega
     rw [if_pos h0, e2, Option.bind_some, Option.bind_some]
     simp only [hw, if_pos y0, if_pos c1, Option.bind_some, if_pos c4, if_pos c2, if_pos c3, if_pos c5]
     exact ⟨_, _, _, rfl, c6, p2⟩
    ·
     rw [if_neg h0]; exact ⟨_, _, _, rfl, by omega, p1⟩
  | succ d ih =>
   intro k x l i h hd hk hl hi
   obtain ⟨k, rfl⟩ : ∃ q, k = q + 1 := ⟨k - 1, by omega⟩
   simp only [spec_l7DrawOf.l0]
   rw [if_pos (by omega), if_pos (by omega), wn (m := x) (n := 100) (by omega) (by omega)]
   exact ih k (x + 1) _ i h (by omega) (by omega) (by simp; omega) hi
 obtain ⟨v, v1⟩ := viewOf_ex s (by omega) k (by omega)
 unfold spec_l7DrawOf.f
 rw [v1, Option.bind_some]
 split
 ·
  exact ⟨_, _, _, _, rfl, by simp, hi⟩
 ·
  obtain ⟨r, i', h', e, x⟩ := key v n k 0 [] i h (by omega) (by omega) (by simp) hi
  exact ⟨v, r, i', h', e, x⟩
theorem l7DrawT_ex (c : List Int) (hn : c.length ≤ 9223372036854775807) (i h : Int) (hi : Cu c i) (n : Nat) (hn7 : n ≤ 10) (b : Int) (k : Nat) (hk : 60000 < k) : ∃ v s l i' h', spec_l7Draw.f k c i h (n : Int) b = some (v, s, l, i', h') ∧ s.size ≤ 4000 ∧ l.length ≤ 20 ∧ Cu c i' := by
 obtain ⟨s, i1, h1, e1, s1, p1⟩ := l5Right_ex c hn i h hi k (by omega)
 obtain ⟨v, l, i2, h2, e2, l2, p2⟩ := l7OfT_ex c hn i1 h1 p1 n hn7 b s (by omega) k (by omega)
 obtain ⟨y, i3, h3, e3, _, p3⟩ := below_ex c hn i2 h2 12 p2 (by omega) (by omega)
 obtain ⟨q, i4, h4, e4, q4, p4⟩ := l6Set_ex c hn i3 h3 7 p3 (by omega) (by omega) k (by omega)
 obtain ⟨t, i5, h5, e5, t5, p5⟩ := l5Draw_ex c hn i3 h3 p3 k (by omega)
 unfold spec_l7Draw.f
 rw [e1, Option.bind_some]; dsimp only
 rw [e2, Option.bind_some]; dsimp only
 rw [e3, Option.bind_some]; dsimp only
 split
 ·
  exact ⟨_, _, _, _, _, rfl, by omega, by omega, p3⟩
 ·
  split
  ·
   rw [e4]; exact ⟨_, _, _, _, _, rfl, by omega, by omega, p4⟩
  ·
   split
   ·
    rw [e5]; exact ⟨_, _, _, _, _, rfl, by omega, by omega, p5⟩
   ·
    exact ⟨_, _, _, _, _, rfl, by omega, by omega, p3⟩
theorem l10RightT_ex (c : List Int) (hn : c.length ≤ 9223372036854775807) (i h a b : Int) (hi : Cu c i) (ha : a ≤ 256) (k : Nat) (hk : 60000 < k) : ∃ v s l i' h', spec_l10DrawRight.f k c i h a b = some (v, s, l, i', h') ∧ s.size ≤ 4000 ∧ l.length ≤ 20 ∧ Cu c i' := by
 have loop : ∀ (d k x : Nat) (v : Int) (s : ByteArray) (l : List Int) (i h : Int), x + d = 7 → d + 50 < k → s.size ≤ 4000 → l.length ≤ x → Cu c i → ∃ v' s' l' i' h', spec_l10DrawRight.l0 k (x : Int) c i h a b v s l = some (v', s', l', i', h') ∧ s'.size ≤ 4000 ∧ l'.length ≤ 20 ∧ Cu c i' := by
  intro d
  induction d with
  | zero =>
   intro k x v s l i h hd hk hs hl hi
   obtain ⟨k, rfl⟩ : ∃ q, k = q + 1 := ⟨k - 1, by omega⟩
   obtain ⟨y, i1, h1, e1, ⟨b0, b1⟩, p1⟩ := below_ex c hn i h 7 hi (by omega) (by omega)
   have hw : wrap64 (1 + y) = 1 + y := by unfold wrap64; omega
   simp only [spec_l10DrawRight.l0]
   rw [e1, Option.bind_some]; dsimp only
   rw [hw]
   clear hw
   rw [if_neg (by omega)]
   exact ⟨_, _, _, _, _, rfl, hs, by omega, p1⟩
  | succ d ih =>
   intro k x v s l i h hd hk hs hl hi
   obtain ⟨k, rfl⟩ : ∃ q, k = q + 1 := ⟨k - 1, by omega⟩
   obtain ⟨y, i1, h1, e1, ⟨b0, b1⟩, p1⟩ := below_ex c hn i h 7 hi (by omega) (by omega)
   have hmx : ∃ m, spec_l1Max.f a 4 = some m ∧ 0 < m ∧ m ≤ 256 := by
    unfold spec_l1Max.f
    split
    ·
     exact ⟨_, rfl, by omega, by omega⟩
    ·
     exact ⟨_, rfl, by omega, by omega⟩
   obtain ⟨m, m1, m2, m3⟩ := hmx
   obtain ⟨z, i2, h2, e2, _, p2⟩ := below_ex c hn i1 h1 m p1 m2 (by omega)
   obtain ⟨r, r1, r2⟩ := setAdd_ex l z (by omega) k (by omega)
   have hw : wrap64 (1 + y) = 1 + y := by unfold wrap64; omega
   simp only [spec_l10DrawRight.l0]
   rw [e1, Option.bind_some]; dsimp only
   rw [hw]
   clear hw
   by_cases hlt : (x : Int) < 1 + y
   ·
    rw [if_pos hlt, m1, Option.bind_some, e2, Option.bind_some]; dsimp only
    rw [r1, Option.bind_some, wn (m := x) (n := 100) (by omega) (by omega)]
    exact ih k (x + 1) v s r i2 h2 (by omega) (by omega) hs (by omega) p2
   ·
    rw [if_neg hlt]
    exact ⟨_, _, _, _, _, rfl, hs, by omega, p1⟩
 have j1 : ∀ (k : Nat) (v : Int) (s : ByteArray) (i h : Int), 100 < k → s.size ≤ 4000 → Cu c i → ∃ v' s' l' i' h', spec_l10DrawRight.j1 k c i h a b v s = some (v', s', l', i', h') ∧ s'.size ≤ 4000 ∧ l'.length ≤ 20 ∧ Cu c i' := by
  intro k v s i h hk hs hi
  obtain ⟨k, rfl⟩ : ∃ q, k = q + 1 := ⟨k - 1, by omega⟩
  simp only [spec_l10DrawRight.j1]
  exact loop 7 k 0 v s [] i h (by omega) (by omega) hs (by simp) hi
 have j0 : ∀ (k : Nat) (q : Bool) (v : Int) (s : ByteArray) (i h : Int), 200 < k → s.size ≤ 4000 → Cu c i → ∃ v' s' l' i' h', spec_l10DrawRight.j0 k q c i h a b v s = some (v', s', l', i', h') ∧ s'.size ≤ 4000 ∧ l'.length ≤ 20 ∧ Cu c i' := by
  intro k q v s i h hk hs hi
  obtain ⟨k, rfl⟩ : ∃ q, k = q + 1 := ⟨k - 1, by omega⟩
  simp only [spec_l10DrawRight.j0]
  cases q
  ·
   rw [if_neg (by decide)]
   exact j1 k v s i h (by omega) hs hi
  ·
   obtain ⟨y, i1, h1, e1, _, p1⟩ := below_ex c hn i h 4 hi (by omega) (by omega)
   rw [if_pos rfl, e1, Option.bind_some]
   exact j1 k _ _ i1 h1 (by omega) (Nat.zero_le _) p1
 obtain ⟨s, i1, h1, e1, s1, p1⟩ := l5Right_ex c hn i h hi k (by omega)
 obtain ⟨w, hw⟩ := viewOf_ex s (by omega) k (by omega)
 obtain ⟨q, i2, h2, e2, p2⟩ := once_ex c hn i1 h1 4 p1 (by omega) (by omega)
 unfold spec_l10DrawRight.f
 rw [e1, Option.bind_some]; dsimp only
 rw [hw, Option.bind_some, e2, Option.bind_some]; dsimp only
 cases q
 ·
  rw [if_neg (by decide)]
  exact j0 k _ _ _ _ _ (by omega) (by omega) p2
 ·
  rw [if_pos rfl]
  exact j0 k _ _ _ _ _ (by omega) (by omega) p2
theorem l10DrawT_ex (c : List Int) (hn : c.length ≤ 9223372036854775807) (i h a b : Int) (hi : Cu c i) (ha : a ≤ 256) (k : Nat) (hk : 60000 < k) : ∃ v s l i' h', spec_l10Draw.f k c i h a b = some (v, s, l, i', h') ∧ s.size ≤ 4000 ∧ l.length ≤ 20 ∧ Cu c i' := by
 obtain ⟨v, s, l, i1, h1, e1, s1, l1, p1⟩ := l10RightT_ex c hn i h a b hi ha k hk
 obtain ⟨y, i2, h2, e2, _, p2⟩ := below_ex c hn i1 h1 10 p1 (by omega) (by omega)
 obtain ⟨z, i3, h3, e3, _, p3⟩ := pickInt_ex c hn i2 h2 p2 [(-1), 0, 60, 61] (by simp) (by simp)
 obtain ⟨m, i4, h4, e4, m4, p4⟩ := l6Set_ex c hn i2 h2 7 p2 (by omega) (by omega) k (by omega)
 obtain ⟨t, i5, h5, e5, t5, p5⟩ := l5Draw_ex c hn i2 h2 p2 k (by omega)
 unfold spec_l10Draw.f
 rw [e1, Option.bind_some]; dsimp only
 rw [e2, Option.bind_some]; dsimp only
 split
 ·
  rw [e3]; exact ⟨_, _, _, _, _, rfl, s1, l1, p3⟩
 ·
  split
  ·
   rw [e4]; exact ⟨_, _, _, _, _, rfl, s1, m4, p4⟩
  ·
   split
   ·
    rw [e5]; exact ⟨_, _, _, _, _, rfl, t5, l1, p5⟩
   ·
    exact ⟨_, _, _, _, _, rfl, s1, l1, p2⟩
theorem setOk_l (n : Int) (l : List Int) (hn : l.length ≤ 9223372036854775807) : ∀ (d m : Nat), m + d = l.length →
  ∃ b, ∀ k, d < k → spec_SetOk.l0 k n l (m : Int) = some b ∧ impl_SetOk.l0 k n l l (l.length : Int) (m : Int) = some b := by
 intro d
 induction d with
 | zero =>
  intro m hd
  have hA : ¬ (m : Int) < (l.length : Int) := by omega
  refine ⟨true, fun k hk => ?_⟩
  obtain ⟨k, rfl⟩ : ∃ q, k = q + 1 := ⟨k - 1, by omega⟩
  exact ⟨by simp only [spec_SetOk.l0, if_neg hA], by simp only [impl_SetOk.l0, if_neg hA]⟩
 | succ d ih =>
  intro m hd
  have hA : (m : Int) < (l.length : Int) := by omega
  have hB : (0 : Int) ≤ (m : Int) := by omega
  have hw1 : wrap64 ((m : Int) - 1) = (m : Int) - 1 := by unfold wrap64; omega
  have hw2 : wrap64 ((m : Int) + 1) = ((m + 1 : Nat) : Int) := wn (n := l.length) (by omega) hn
  obtain ⟨b, hb⟩ := ih (m + 1) (by omega)
  have go : ∀ c : Bool, (∀ k, d < k → (spec_SetOk.l0 (k + 1) n l (m : Int) = some c ∧ impl_SetOk.l0 (k + 1) n l l (l.length : Int) (m : Int) = some c)) → ∃ b, ∀ k, d + 1 < k → spec_SetOk.l0 k n l (m : Int) = some b ∧ impl_SetOk.l0 k n l l (l.length : Int) (m : Int) = some b := by
   intro c h
   refine ⟨c, fun k hk => ?_⟩
   obtain ⟨k, rfl⟩ : ∃ q, k = q + 1 := ⟨k - 1, by omega⟩
   exact h k (by omega)
  by_cases a1 : rd l (m : Int) < 0
  ·
   exact go false fun k hk => ⟨by simp only [spec_SetOk.l0, if_pos hA, if_pos hB, if_pos a1], by simp only [impl_SetOk.l0, if_pos hA, if_pos hB, if_pos a1]⟩
  ·
   by_cases a2 : rd l (m : Int) ≥ n
   ·
    exact go false fun k hk => ⟨by simp only [spec_SetOk.l0, if_pos hA, if_pos hB, if_neg a1, if_pos a2], by simp only [impl_SetOk.l0, if_pos hA, if_pos hB, if_neg a1, if_pos a2]⟩
   ·
    by_cases a3 : (m : Int) > 0
    ·
     have hC : (0 : Int) ≤ (m : Int) - 1 := by omega
     have hD : (m : Int) - 1 < (l.length : Int) := by omega
     by_cases a4 : rd l ((m : Int) - 1) ≥ rd l (m : Int)
     ·
      exact go false fun k hk => ⟨by simp only [spec_SetOk.l0, hw1, if_pos hA, if_pos hB, if_neg a1, if_neg a2, if_pos a3, if_pos hC, if_pos hD, if_pos a4], by simp only [impl_SetOk.l0, hw1, if_pos hA, if_pos hB, if_neg a1, if_neg a2, if_pos a3, if_pos hC, if_pos hD, if_pos a4]⟩
     ·
      exact go b fun k hk => ⟨by simp only [spec_SetOk.l0, hw1, hw2, if_pos hA, if_pos hB, if_neg a1, if_neg a2, if_pos a3, if_pos hC, if_pos hD, if_neg a4]; exact (hb k hk).1, by simp only [impl_SetOk.l0, hw1, hw2, if_pos hA, if_pos hB, if_neg a1, if_neg a2, if_pos a3, if_pos hC, if_pos hD, if_neg a4]; exact (hb k hk).2⟩
    ·
     exact go b fun k hk => ⟨by simp only [spec_SetOk.l0, hw2, if_pos hA, if_pos hB, if_neg a1, if_neg a2, if_neg a3]; exact (hb k hk).1, by simp only [impl_SetOk.l0, hw2, if_pos hA, if_pos hB, if_neg a1, if_neg a2, if_neg a3]; exact (hb k hk).2⟩
theorem setOk_at (n : Int) (l : List Int) (hn : l.length ≤ 9223372036854775807) : ∃ b, ∀ k, l.length < k → spec_SetOk.f k n l = some b ∧ impl_SetOk.f k n l = some b :=
 setOk_l n l hn l.length 0 (by omega)
def confB (a b : Int) : Bool := decide (4 ≤ a ∧ a ≤ 7 ∧ 1 ≤ b ∧ b ≤ 6)
theorem implConf_at (a b : Int) : impl_ConfOk.f a b = some (confB a b) := by
 unfold impl_ConfOk.f impl_within.f confB
 by_cases h : a ≥ 4 <;> by_cases h2 : a ≤ 7 <;> by_cases h3 : b ≥ 1 <;> simp [h, h2, h3] <;> omega
theorem specConf_at (a b : Int) : spec_ConfOk.f a b = some (confB a b) := implConf_at a b
theorem in_at (x lo hi : Int) : ∃ c, spec_l1In.f x lo hi = some c ∧ impl_within.f x lo hi = some c := by
 unfold spec_l1In.f impl_within.f
 by_cases h : x ≥ lo
 ·
  exact ⟨_, by rw [if_pos h], by rw [if_pos h]⟩
 ·
  exact ⟨_, by rw [if_neg h], by rw [if_neg h]⟩
theorem partOk_at (a b v : Int) (s : ByteArray) (l : List Int) (hs : s.size < 100000000) (hn : l.length < 100000000) (k : Nat) (hk : 3 * s.size + l.length + 90 < k) :
  ∃ r, spec_PartOk.f k a b v s l = some r ∧ impl_PartOk.f k a b v s l = some r := by
 obtain ⟨t, ht⟩ := setOk_at a l (by omega)
 obtain ⟨c, c1, c2⟩ := in_at v 1 60
 obtain ⟨w, o, v1, v2, o1, o2, hv, he⟩ := viewOf_at s hs k (by omega)
 obtain ⟨s1, s2⟩ := ht k (by omega)
 unfold spec_PartOk.f impl_PartOk.f
 rw [specConf_at, implConf_at]
 simp only [Option.bind_some, c1, c2, s1, s2, o1, o2, v1, v2]
 cases confB a b
 ·
  exact ⟨false, by simp, by simp⟩
 ·
  cases c
  ·
   exact ⟨false, by simp, by simp⟩
  ·
   cases t
   ·
    refine ⟨false, by simp, ?_⟩
    by_cases hz : s.toList = []
    ·
     simp [hz]
    ·
     cases o <;> by_cases hw : w = v <;> simp [hz, hw]
   ·
    by_cases hl : (l.length : Int) = 0
    ·
     have e2 : decide ((l.length : Int) > 0) = false := decide_eq_false (by omega)
     refine ⟨false, by simp only [if_true, if_pos hl], ?_⟩
     simp only [if_true, e2]
     by_cases hz : s.toList = []
     ·
      rw [if_pos hz]
     ·
      rw [if_neg hz]
      cases o <;> by_cases hw : w = v <;> simp [hw]
    ·
     have e2 : decide ((l.length : Int) > 0) = true := decide_eq_true (by omega)
     simp only [if_true, e2, if_neg hl]
     by_cases hz : s.toList = []
     ·
      exact ⟨true, by rw [if_pos hz], by rw [if_pos hz]⟩
     ·
      rw [if_neg hz, if_neg hz]
      cases o
      ·
       exact ⟨false, by simp, by simp⟩
      ·
       by_cases hw : w = v
       ·
        exact ⟨true, by simp [hw], by simp [hw]⟩
       ·
        exact ⟨false, by simp [hw], by simp [hw]⟩
theorem rdP_mem (xs : List S48) (m : Nat) (h : m < xs.length) : rd_T48 xs (m : Int) ∈ xs := by
 unfold rd_T48
 simp [List.getD_eq_getElem?_getD, List.getElem?_eq_getElem h]
def fitP (x : S48) : Prop := x.f1.size ≤ 1048576 ∧ x.f2.length ≤ 1048576
theorem dropP_at (xs : List S48) (m : Nat) (h : m < xs.length) : xs.drop m = rd_T48 xs (m : Int) :: xs.drop (m + 1) := by
 rw [List.drop_eq_getElem_cons h]
 simp [rd_T48, List.getD_eq_getElem?_getD, List.getElem?_eq_getElem h]
theorem place_at (v : Int) (s : ByteArray) (l : List Int) (v' : Int) (s' : ByteArray) (l' : List Int) :
  ∃ c, impl_comparePlace.f v s l v' s' l' = some c ∧ spec_l10Before.f v s l v' s' l' = some (decide (c < 0)) := by
 have hn : ∀ x : Int, (x != x) = false := fun x => by simp
 have hs : ∀ x : List UInt8, (x != x) = false := fun x => by simp
 unfold impl_comparePlace.f spec_l10Before.f cmp_Compare_int.f cmp_Compare_string.f cmp_isNaN_int.f cmp_isNaN_string.f
 simp only [hn, hs, Option.bind_some, Bool.false_eq_true, if_false]
 by_cases h1 : v < v'
 ·
  exact ⟨-1, by simp [h1], by simp [h1]⟩
 ·
  by_cases h2 : v > v'
  ·
   have h3 : ¬ v = v' := by omega
   exact ⟨1, by simp [h1, h2], by simp [h1, h3]⟩
  ·
   have h3 : v = v' := by omega
   subst h3
   cases hb : Op.bytesLess s.toList s'.toList
   ·
    cases hc : Op.bytesLess s'.toList s.toList
    ·
     exact ⟨0, by simp, by simp⟩
    ·
     exact ⟨1, by simp, by simp⟩
   ·
    exact ⟨-1, by simp, by simp⟩
theorem tableOk_l (a b : Int) (xs : List S48) (hn : xs.length ≤ 9223372036854775807) (hx : ∀ x ∈ xs, fitP x) : ∀ (d k m : Nat), m + d = xs.length → d + 5000000 < k →
  ∃ r, spec_TableOk.l0 k xs (m : Int) a b = some r ∧ impl_TableOk.l0 k xs xs (xs.length : Int) (m : Int) a b = some r := by
 intro d
 induction d with
 | zero =>
  intro k m hd hk
  obtain ⟨k, rfl⟩ : ∃ q, k = q + 1 := ⟨k - 1, by omega⟩
  have hA : ¬ (m : Int) < (xs.length : Int) := by omega
  exact ⟨decide ((xs.length : Int) ≤ 20), by simp only [spec_TableOk.l0, if_neg hA], by simp only [impl_TableOk.l0, if_neg hA]⟩
 | succ d ih =>
  intro k m hd hk
  obtain ⟨k, rfl⟩ : ∃ q, k = q + 1 := ⟨k - 1, by omega⟩
  have hA : (m : Int) < (xs.length : Int) := by omega
  have hB : (0 : Int) ≤ (m : Int) := by omega
  have hw1 : wrap64 ((m : Int) - 1) = (m : Int) - 1 := by unfold wrap64; omega
  have hw : wrap64 ((m : Int) + 1) = ((m + 1 : Nat) : Int) := wn (n := xs.length) (by omega) hn
  obtain ⟨f1, f2⟩ := hx _ (rdP_mem xs m (by omega))
  obtain ⟨p, p1, p2⟩ := partOk_at a b (rd_T48 xs (m : Int)).f0 (rd_T48 xs (m : Int)).f1 (rd_T48 xs (m : Int)).f2 (by omega) (by omega) k (by omega)
  obtain ⟨r, r1, r2⟩ := ih k (m + 1) (by omega) (by omega)
  simp only [spec_TableOk.l0, impl_TableOk.l0, if_pos hA, if_pos hB, p1, p2, Option.bind_some, hw1, hw, r1, r2]
  cases p
  ·
   exact ⟨false, rfl, rfl⟩
  ·
   simp only [if_true]
   by_cases h3 : (m : Int) > 0
   ·
    have hC : (0 : Int) ≤ (m : Int) - 1 := by omega
    have hD : (m : Int) - 1 < (xs.length : Int) := by omega
    obtain ⟨c, c1, c2⟩ := place_at (rd_T48 xs ((m : Int) - 1)).f0 (rd_T48 xs ((m : Int) - 1)).f1 (rd_T48 xs ((m : Int) - 1)).f2 (rd_T48 xs (m : Int)).f0 (rd_T48 xs (m : Int)).f1 (rd_T48 xs (m : Int)).f2
    simp only [if_pos h3, if_pos hC, if_pos hD, c1, c2, Option.bind_some]
    by_cases h4 : c < 0
    ·
     have h5 : ¬ c ≥ 0 := by omega
     exact ⟨r, by rw [if_pos (decide_eq_true h4)], by rw [if_neg h5]⟩
    ·
     have h5 : c ≥ 0 := by omega
     exact ⟨false, by rw [if_neg (by simpa using h5)], by rw [if_pos h5]⟩
   ·
    simp only [if_neg h3]
    exact ⟨r, rfl, rfl⟩
theorem copyPart_at (x : S48) (h : fitP x) : spec_l10Copy.f x.f0 x.f1 x.f2 = some (x.f0, x.f1, x.f2) ∧ impl_copyPart.f x.f0 x.f1 x.f2 = some (x.f0, x.f1, x.f2) := by
 have h2 := h.2
 constructor
 ·
  unfold spec_l10Copy.f
  rw [Option.bind_some, if_pos (by show (0 : Nat) + _ < _; omega)]; rfl
 ·
  unfold impl_copyPart.f impl_copyInts.f
  rw [if_pos (by show (0 : Nat) + _ < _; omega), Option.bind_some]; rfl
theorem specSetHas_l (xs : List Int) (x : Int) (hn : xs.length ≤ 9223372036854775807) : ∀ (d k m : Nat), m + d = xs.length → d < k →
  spec_SetHas.l0 k xs x (m : Int) = some (decide (x ∈ xs.drop m)) := by
 intro d
 induction d with
 | zero =>
  intro k m hd hk
  obtain ⟨k, rfl⟩ : ∃ q, k = q + 1 := ⟨k - 1, by omega⟩
  simp only [spec_SetHas.l0]
  rw [if_neg (by omega), List.drop_of_length_le (by omega)]
  simp
 | succ d ih =>
  intro k m hd hk
  obtain ⟨k, rfl⟩ : ∃ q, k = q + 1 := ⟨k - 1, by omega⟩
  simp only [spec_SetHas.l0]
  rw [if_pos (by omega), if_pos (by omega), wn (n := xs.length) (by omega) hn, ih k (m + 1) (by omega) (by omega), drop_at xs m (by omega)]
  by_cases h : rd xs m = x
  ·
   simp [h]
  ·
   have h' : ¬ x = rd xs m := fun e => h e.symm
   simp [h, h']
theorem specSetHas_at (xs : List Int) (x : Int) (hn : xs.length ≤ 9223372036854775807) (k : Nat) (hk : xs.length < k) : spec_SetHas.f k xs x = some (decide (x ∈ xs)) := by
 have := specSetHas_l xs x hn xs.length k 0 (by omega) hk
 unfold spec_SetHas.f
 simpa using this
theorem slIndex_l (xs : List Int) (x : Int) (hn : xs.length ≤ 9223372036854775807) : ∀ (d k m : Nat), m + d = xs.length → d < k →
  ∃ r, slices_Index_int_int.l0 k xs x (xs.length : Int) (m : Int) = some r ∧ decide (r ≥ 0) = decide (x ∈ xs.drop m) := by
 intro d
 induction d with
 | zero =>
  intro k m hd hk
  obtain ⟨k, rfl⟩ : ∃ q, k = q + 1 := ⟨k - 1, by omega⟩
  refine ⟨-1, ?_, ?_⟩
  ·
   simp only [slices_Index_int_int.l0]
   rw [if_neg (by omega)]
  ·
   rw [List.drop_of_length_le (by omega)]; simp
 | succ d ih =>
  intro k m hd hk
  obtain ⟨k, rfl⟩ : ∃ q, k = q + 1 := ⟨k - 1, by omega⟩
  obtain ⟨r, hr, h2⟩ := ih k (m + 1) (by omega) (by omega)
  simp only [slices_Index_int_int.l0]
  rw [if_pos (by omega), if_pos (by omega), if_pos (by omega), wn (n := xs.length) (by omega) hn, hr, drop_at xs m (by omega)]
  by_cases h : x = rd xs m
  ·
   exact ⟨m, by rw [if_pos h], by simp [h]⟩
  ·
   exact ⟨r, by rw [if_neg h], by rw [h2]; simp [h]⟩
theorem implSetHas_at (xs : List Int) (x : Int) (hn : xs.length ≤ 9223372036854775807) (k : Nat) (hk : xs.length < k) : impl_SetHas.f k xs x = some (decide (x ∈ xs)) := by
 obtain ⟨r, hr, h2⟩ := slIndex_l xs x hn xs.length k 0 (by omega) hk
 unfold impl_SetHas.f slices_Contains_int_int.f slices_Index_int_int.f
 rw [show ((0 : Nat) : Int) = 0 from rfl] at hr
 rw [hr]
 simp only [Option.bind_some, h2, List.drop_zero]
def addOf (l : List Int) (x : Int) : List Int := if x ∈ l then l else l.take (impl_SetAdd.at_ l x) ++ x :: l.drop (impl_SetAdd.at_ l x)
theorem addOf_len (l : List Int) (x : Int) : (addOf l x).length ≤ l.length + 1 := by
 unfold addOf
 split
 ·
  omega
 ·
  rw [List.length_append, List.length_cons, List.length_take, List.length_drop]; omega
theorem implSetAdd_at (l : List Int) (x : Int) (hn : l.length ≤ 10000000) (k : Nat) (hk : l.length < k) : impl_SetAdd.f k l x = some (addOf l x) := by
 have c0 : ([] : List Int).length + l.length < 17592186044416 := by simp; omega
 unfold impl_SetAdd.f impl_copyInts.f addOf
 rw [implSetHas_at l x (by omega) k hk, Option.bind_some, if_pos c0, Option.bind_some, List.nil_append]
 by_cases h : x ∈ l
 ·
  rw [if_pos (by simpa using h), if_pos h]
 ·
  rw [if_neg (by simpa using h), if_neg h]
theorem specSetAdd_l (l : List Int) (x : Int) (hn : l.length ≤ 10000000) : ∀ (d k m : Nat), m + d = l.length → d < k →
  spec_SetAdd.l0 k l x (m : Int) = some (l.take (m + impl_SetAdd.at_ (l.drop m) x) ++ x :: l.drop (m + impl_SetAdd.at_ (l.drop m) x)) := by
 have fin : ∀ m : Nat, m ≤ l.length → ([] ++ l.take m).length < 17592186044416 ∧ (([] ++ l.take m) ++ [x]).length + (l.drop m).length < 17592186044416 := by
  intro m hm
  simp only [List.nil_append, List.length_append, List.length_take, List.length_drop, List.length_singleton]
  omega
 intro d
 induction d with
 | zero =>
  intro k m hd hk
  obtain ⟨k, rfl⟩ : ∃ q, k = q + 1 := ⟨k - 1, by omega⟩
  obtain ⟨f1, f2⟩ := fin m (by omega)
  have c1 : ¬ (m : Int) < (l.length : Int) := by omega
  have c2 : (0 : Int) ≤ (m : Int) := by omega
  have c3 : (m : Int) ≤ (l.length : Int) := by omega
  have c4 : ([] : List Int).length + (l.take m).length < 17592186044416 := by simpa using f1
  have c5 : impl_SetAdd.at_ (l.drop m) x = 0 := by
   rw [List.drop_of_length_le (by omega)]; rfl
  simp only [spec_SetAdd.l0, if_neg c1, Option.bind_some, if_pos c2, if_pos c3, Int.toNat_natCast, if_pos c4, if_pos f1, if_pos f2, c5, Nat.add_zero]
  simp
 | succ d ih =>
  intro k m hd hk
  obtain ⟨k, rfl⟩ : ∃ q, k = q + 1 := ⟨k - 1, by omega⟩
  obtain ⟨f1, f2⟩ := fin m (by omega)
  have hm : m < l.length := by omega
  have c1 : (m : Int) < (l.length : Int) := by omega
  have c2 : (0 : Int) ≤ (m : Int) := by omega
  have c3 : (m : Int) ≤ (l.length : Int) := by omega
  have c4 : ([] : List Int).length + (l.take m).length < 17592186044416 := by simpa using f1
  have r1 := ih k (m + 1) (by omega) (by omega)
  have hw : wrap64 ((m : Int) + 1) = ((m + 1 : Nat) : Int) := wn (n := l.length) (by omega) (by omega)
  have hr : rd l (m : Int) = l[m] := by simp [rd, List.getD_eq_getElem?_getD, List.getElem?_eq_getElem hm]
  simp only [spec_SetAdd.l0, if_pos c1, Option.bind_some, if_pos c2, if_pos c3, Int.toNat_natCast, if_pos c4, if_pos f1, if_pos f2, hw, r1, hr]
  have hdr : l.drop m = l[m] :: l.drop (m + 1) := List.drop_eq_getElem_cons hm
  by_cases hx : l[m] < x
  ·
   have c5 : impl_SetAdd.at_ (l.drop m) x = impl_SetAdd.at_ (l.drop (m + 1)) x + 1 := by
    rw [hdr]
    unfold impl_SetAdd.at_
    rw [List.takeWhile_cons_of_pos (by simpa using hx)]; rfl
   have c6 : m + impl_SetAdd.at_ (l.drop m) x = m + 1 + impl_SetAdd.at_ (l.drop (m + 1)) x := by omega
   rw [if_pos hx, c6]
  ·
   have c5 : impl_SetAdd.at_ (l.drop m) x = 0 := by
    rw [hdr]
    unfold impl_SetAdd.at_
    rw [List.takeWhile_cons_of_neg (by simpa using hx)]; rfl
   rw [if_neg hx, c5, Nat.add_zero]
   simp
theorem specSetAdd_at (l : List Int) (x : Int) (hn : l.length ≤ 10000000) (k : Nat) (hk : l.length < k) : spec_SetAdd.f k l x = some (addOf l x) := by
 have c0 : ([] : List Int).length + l.length < 17592186044416 := by simp; omega
 have h0 := specSetAdd_l l x hn l.length k 0 (by omega) hk
 have h0' : spec_SetAdd.l0 k l x 0 = some (l.take (impl_SetAdd.at_ l x) ++ x :: l.drop (impl_SetAdd.at_ l x)) := by simpa using h0
 unfold spec_SetAdd.f addOf
 rw [specSetHas_at l x (by omega) k hk, Option.bind_some]
 by_cases h : x ∈ l
 ·
  rw [if_pos (by simpa using h), if_pos h, Option.bind_some, if_pos c0, List.nil_append]
 ·
  rw [if_neg (by simpa using h), if_neg h, h0']
theorem specSetJoin_l1 (b : List Int) (hb : b.length ≤ 10000000) : ∀ (d k m : Nat) (o : List Int), m + d = b.length → o.length + d ≤ 10000000 → o.length + 2 * d + 1 < k →
  spec_SetJoin.l1 k b o (m : Int) = some ((b.drop m).foldl addOf o) := by
 intro d
 induction d with
 | zero =>
  intro k m o hd ho hk
  obtain ⟨k, rfl⟩ : ∃ q, k = q + 1 := ⟨k - 1, by omega⟩
  simp only [spec_SetJoin.l1]
  rw [if_neg (by omega), List.drop_of_length_le (by omega), List.foldl_nil]
 | succ d ih =>
  intro k m o hd ho hk
  obtain ⟨k, rfl⟩ : ∃ q, k = q + 1 := ⟨k - 1, by omega⟩
  have hl := addOf_len o (rd b (m : Int))
  have hw : wrap64 ((m : Int) + 1) = ((m + 1 : Nat) : Int) := wn (n := b.length) (by omega) (by omega)
  simp only [spec_SetJoin.l1]
  rw [if_pos (by omega), if_pos (by omega), specSetAdd_at o _ (by omega) k (by omega), Option.bind_some, hw, ih k (m + 1) _ (by omega) (by omega) (by omega), drop_at b m (by omega), List.foldl_cons]
theorem specSetJoin_l0 (a b : List Int) (ha : a.length ≤ 10000000) (hb : b.length ≤ 10000000) : ∀ (d k m : Nat) (o : List Int), m + d = a.length → o.length + d + b.length ≤ 10000000 → o.length + 2 * d + 2 * b.length + 5 < k →
  spec_SetJoin.l0 k a b o (m : Int) = some (b.foldl addOf ((a.drop m).foldl addOf o)) := by
 intro d
 induction d with
 | zero =>
  intro k m o hd ho hk
  obtain ⟨k, rfl⟩ : ∃ q, k = q + 1 := ⟨k - 1, by omega⟩
  have h1 := specSetJoin_l1 b hb b.length k 0 o (by omega) (by omega) (by omega)
  simp only [spec_SetJoin.l0]
  rw [if_neg (by omega), List.drop_of_length_le (by omega), List.foldl_nil]
  exact h1
 | succ d ih =>
  intro k m o hd ho hk
  obtain ⟨k, rfl⟩ : ∃ q, k = q + 1 := ⟨k - 1, by omega⟩
  have hl := addOf_len o (rd a (m : Int))
  have hw : wrap64 ((m : Int) + 1) = ((m + 1 : Nat) : Int) := wn (n := a.length) (by omega) (by omega)
  simp only [spec_SetJoin.l0]
  rw [if_pos (by omega), if_pos (by omega), specSetAdd_at o _ (by omega) k (by omega), Option.bind_some, hw, ih k (m + 1) _ (by omega) (by omega) (by omega), drop_at a m (by omega), List.foldl_cons]
theorem implSetJoin_l1 (b : List Int) (hb : b.length ≤ 10000000) : ∀ (d k m : Nat) (o : List Int), m + d = b.length → o.length + d ≤ 10000000 → o.length + 2 * d + 1 < k →
  impl_SetJoin.l1 k o b (b.length : Int) (m : Int) = some ((b.drop m).foldl addOf o) := by
 intro d
 induction d with
 | zero =>
  intro k m o hd ho hk
  obtain ⟨k, rfl⟩ : ∃ q, k = q + 1 := ⟨k - 1, by omega⟩
  simp only [impl_SetJoin.l1]
  rw [if_neg (by omega), List.drop_of_length_le (by omega), List.foldl_nil]
 | succ d ih =>
  intro k m o hd ho hk
  obtain ⟨k, rfl⟩ : ∃ q, k = q + 1 := ⟨k - 1, by omega⟩
  have hl := addOf_len o (rd b (m : Int))
  have hw : wrap64 ((m : Int) + 1) = ((m + 1 : Nat) : Int) := wn (n := b.length) (by omega) (by omega)
  simp only [impl_SetJoin.l1]
  rw [if_pos (by omega), if_pos (by omega), if_pos (by omega), implSetAdd_at o _ (by omega) k (by omega), Option.bind_some, hw, ih k (m + 1) _ (by omega) (by omega) (by omega), drop_at b m (by omega), List.foldl_cons]
theorem implSetJoin_l0 (a b : List Int) (ha : a.length ≤ 10000000) (hb : b.length ≤ 10000000) : ∀ (d k m : Nat) (o : List Int), m + d = a.length → o.length + d + b.length ≤ 10000000 → o.length + 2 * d + 2 * b.length + 5 < k →
  impl_SetJoin.l0 k b o a (a.length : Int) (m : Int) = some (b.foldl addOf ((a.drop m).foldl addOf o)) := by
 intro d
 induction d with
 | zero =>
  intro k m o hd ho hk
  obtain ⟨k, rfl⟩ : ∃ q, k = q + 1 := ⟨k - 1, by omega⟩
  have h1 := implSetJoin_l1 b hb b.length k 0 o (by omega) (by omega) (by omega)
  simp only [impl_SetJoin.l0]
  rw [if_neg (by omega), List.drop_of_length_le (by omega), List.foldl_nil]
  exact h1
 | succ d ih =>
  intro k m o hd ho hk
  obtain ⟨k, rfl⟩ : ∃ q, k = q + 1 := ⟨k - 1, by omega⟩
  have hl := addOf_len o (rd a (m : Int))
  have hw : wrap64 ((m : Int) + 1) = ((m + 1 : Nat) : Int) := wn (n := a.length) (by omega) (by omega)
  simp only [impl_SetJoin.l0]
  rw [if_pos (by omega), if_pos (by omega), if_pos (by omega), implSetAdd_at o _ (by omega) k (by omega), Option.bind_some, hw, ih k (m + 1) _ (by omega) (by omega) (by omega), drop_at a m (by omega), List.foldl_cons]
def joinOf (a b : List Int) : List Int := b.foldl addOf (a.foldl addOf [])
theorem foldAdd_len : ∀ (a o : List Int), (a.foldl addOf o).length ≤ o.length + a.length
 | [], o => by simp
 | x :: r, o => by
  have h1 := foldAdd_len r (addOf o x)
  have h2 := addOf_len o x
  simp only [List.foldl_cons, List.length_cons]
  omega
theorem joinOf_len (a b : List Int) : (joinOf a b).length ≤ a.length + b.length := by
 have h1 := foldAdd_len b (a.foldl addOf [])
 have h2 := foldAdd_len a []
 simp only [List.length_nil] at h2
 unfold joinOf
 omega
theorem specSetJoin_at (a b : List Int) (hn : a.length + b.length ≤ 10000000) (k : Nat) (hk : 2 * a.length + 2 * b.length + 5 < k) : spec_SetJoin.f k a b = some (joinOf a b) := by
 have h := specSetJoin_l0 a b (by omega) (by omega) a.length k 0 [] (by omega) (by simpa using hn) (by simpa using hk)
 exact h
theorem implSetJoin_at (a b : List Int) (hn : a.length + b.length ≤ 10000000) (k : Nat) (hk : 2 * a.length + 2 * b.length + 5 < k) : impl_SetJoin.f k a b = some (joinOf a b) := by
 have h := implSetJoin_l0 a b (by omega) (by omega) a.length k 0 [] (by omega) (by simpa using hn) (by simpa using hk)
 exact h
theorem bless_self (x : List UInt8) : Op.bytesLess x x = false := by have := lessGt x x; simpa using this.symm
theorem bless_eq (x y : List UInt8) (h1 : Op.bytesLess x y = false) (h2 : Op.bytesLess y x = false) : x = y := by have := lessGt x y; rw [h1, h2] at this; simpa using this
def cmpP (x p : S48) : Int := (impl_comparePlace.f x.f0 x.f1 x.f2 p.f0 p.f1 p.f2).getD 0
theorem cmpP_at (x p : S48) : impl_comparePlace.f x.f0 x.f1 x.f2 p.f0 p.f1 p.f2 = some (cmpP x p) ∧ spec_l10Before.f x.f0 x.f1 x.f2 p.f0 p.f1 p.f2 = some (decide (cmpP x p < 0)) := by
 obtain ⟨c, h1, h2⟩ := place_at x.f0 x.f1 x.f2 p.f0 p.f1 p.f2
 unfold cmpP
 rw [h1]
 exact ⟨rfl, h2⟩
theorem cmpP_zero (x p : S48) : cmpP x p = 0 ↔ x.f0 = p.f0 ∧ x.f1.toList = p.f1.toList := by
 have hn : ∀ x : Int, (x != x) = false := fun x => by simp
 have hs : ∀ x : List UInt8, (x != x) = false := fun x => by simp
 unfold cmpP impl_comparePlace.f cmp_Compare_int.f cmp_Compare_string.f cmp_isNaN_int.f cmp_isNaN_string.f
 simp only [hn, hs, Option.bind_some, Bool.false_eq_true, if_false]
 by_cases h1 : x.f0 < p.f0
 ·
  have : x.f0 ≠ p.f0 := by omega
  simp [h1, this]
 ·
  by_cases h2 : x.f0 > p.f0
  ·
   have : x.f0 ≠ p.f0 := by omega
   simp [h1, h2, this]
  ·
   have h3 : x.f0 = p.f0 := by omega
   simp only [h1, h2, h3, true_and, if_false]
   cases hb : Op.bytesLess x.f1.toList p.f1.toList
   ·
    cases hc : Op.bytesLess p.f1.toList x.f1.toList
    ·
     have e := bless_eq _ _ hb hc
     simp [e]
    ·
     have : x.f1.toList ≠ p.f1.toList := by
      intro e; rw [e] at hc; rw [bless_self] at hc; cases hc
     simp [this]
   ·
    have : x.f1.toList ≠ p.f1.toList := by
     intro e; rw [e] at hb; rw [bless_self] at hb; cases hb
    simp [this]
def joinP (x p : S48) : S48 := ⟨x.f0, x.f1, joinOf x.f2 p.f2⟩
def addZ (p : S48) : List S48 → List S48
 | [] => [p]
 | x :: r => if cmpP x p < 0 then x :: addZ p r else if cmpP x p = 0 then joinP x p :: r else p :: x :: r
def posZ (p : S48) : List S48 → Nat
 | [] => 0
 | x :: r => if cmpP x p < 0 then posZ p r + 1 else 0
theorem posZ_le (p : S48) : ∀ xs, posZ p xs ≤ xs.length
 | [] => Nat.le_refl _
 | x :: r => by
  have := posZ_le p r
  unfold posZ
  split
  ·
   simp; omega
  ·
   exact Nat.zero_le _
theorem addZ_join (p : S48) : ∀ (xs : List S48) (h : posZ p xs < xs.length), cmpP xs[posZ p xs] p = 0 → addZ p xs = xs.set (posZ p xs) (joinP xs[posZ p xs] p)
 | x :: r, h, h0 => by
  by_cases hc : cmpP x p < 0
  ·
   have e : posZ p (x :: r) = posZ p r + 1 := by simp [posZ, hc]
   have h' : posZ p r < r.length := by rw [e] at h; simpa using h
   simp only [e, List.getElem_cons_succ] at h0 ⊢
   rw [addZ, if_pos hc, addZ_join p r h' h0, List.set_cons_succ]
  ·
   have e : posZ p (x :: r) = 0 := by simp [posZ, hc]
   simp only [e, List.getElem_cons_zero] at h0 ⊢
   rw [addZ, if_neg hc, if_pos h0, List.set_cons_zero]
theorem addZ_ins (p : S48) : ∀ (xs : List S48), (∀ h : posZ p xs < xs.length, cmpP xs[posZ p xs] p ≠ 0) → addZ p xs = xs.take (posZ p xs) ++ p :: xs.drop (posZ p xs)
 | [], _ => rfl
 | x :: r, h0 => by
  by_cases hc : cmpP x p < 0
  ·
   have e : posZ p (x :: r) = posZ p r + 1 := by simp [posZ, hc]
   rw [e, addZ, if_pos hc, addZ_ins p r (fun h => by
    have := h0 (by rw [e]; simpa using h)
    simp only [e, List.getElem_cons_succ] at this
    exact this)]
   rfl
  ·
   have e : posZ p (x :: r) = 0 := by simp [posZ, hc]
   have := h0 (by rw [e]; simp)
   simp only [e, List.getElem_cons_zero] at this
   rw [e, addZ, if_neg hc, if_neg this]
   rfl
theorem addZ_len (p : S48) : ∀ xs, (addZ p xs).length ≤ xs.length + 1
 | [] => Nat.le_refl _
 | x :: r => by
  have := addZ_len p r
  unfold addZ
  split
  ·
   simp; omega
  ·
   split
   ·
    simp
   ·
    simp
theorem addZ_mem (p : S48) : ∀ xs z, z ∈ addZ p xs → z = p ∨ z ∈ xs ∨ ∃ x ∈ xs, z = joinP x p
 | [], z, h => .inl (by simpa [addZ] using h)
 | x :: r, z, h => by
  unfold addZ at h
  split at h
  ·
   rcases List.mem_cons.1 h with rfl | h
   ·
    exact .inr (.inl List.mem_cons_self)
   ·
    rcases addZ_mem p r z h with h | h | ⟨y, h1, h2⟩
    ·
     exact .inl h
    ·
     exact .inr (.inl (List.mem_cons_of_mem _ h))
    ·
     exact .inr (.inr ⟨y, List.mem_cons_of_mem _ h1, h2⟩)
  ·
   split at h
   ·
    rcases List.mem_cons.1 h with rfl | h
    ·
     exact .inr (.inr ⟨x, List.mem_cons_self, rfl⟩)
    ·
     exact .inr (.inl (List.mem_cons_of_mem _ h))
   ·
    rcases List.mem_cons.1 h with rfl | h
    ·
     exact .inl rfl
    ·
     exact .inr (.inl h)
def fitJ (p x : S48) : Prop := fitP x ∧ x.f2.length + p.f2.length ≤ 1048576
theorem joinP_at (x p : S48) (h : x.f2.length + p.f2.length ≤ 1048576) (k : Nat) (hk : 2100000 < k) :
  spec_PartJoin.f k x.f0 x.f1 x.f2 p.f0 p.f1 p.f2 = some (if cmpP x p = 0 then (x.f0, x.f1, joinOf x.f2 p.f2, true) else (0, (⟨#[]⟩ : ByteArray), ([] : List Int), false)) ∧
  impl_PartJoin.f k x.f0 x.f1 x.f2 p.f0 p.f1 p.f2 = some (if cmpP x p = 0 then (x.f0, x.f1, joinOf x.f2 p.f2, true) else (0, (⟨#[]⟩ : ByteArray), ([] : List Int), false)) := by
 have e5 := specSetJoin_at x.f2 p.f2 (by omega) k (by omega)
 have e6 := implSetJoin_at x.f2 p.f2 (by omega) k (by omega)
 have hz := cmpP_zero x p
 unfold spec_PartJoin.f impl_PartJoin.f
 by_cases h1 : x.f0 = p.f0
 ·
  by_cases h2 : x.f1.toList = p.f1.toList
  ·
   rw [if_pos h1, if_pos h2, if_pos h1, if_pos h2, e5, e6, if_pos (hz.2 ⟨h1, h2⟩)]
   exact ⟨rfl, rfl⟩
  ·
   rw [if_pos h1, if_neg h2, if_pos h1, if_neg h2, if_neg (fun e => h2 (hz.1 e).2)]
   exact ⟨rfl, rfl⟩
 ·
  rw [if_neg h1, if_neg h1, if_neg (fun e => h1 (hz.1 e).1)]
  exact ⟨rfl, rfl⟩
theorem copyTable_l (xs : List S48) (hn : xs.length ≤ 1048576) (hx : ∀ x ∈ xs, fitP x) : ∀ (d k m : Nat) (out : List S48), m + d = xs.length → d < k → out.length = m →
  spec_l10Table.l0 k xs out (m : Int) = some (out ++ xs.drop m) ∧ impl_copyTable.l0 k out xs (xs.length : Int) (m : Int) = some (out ++ xs.drop m) := by
 intro d
 induction d with
 | zero =>
  intro k m out hd hk ho
  obtain ⟨k, rfl⟩ : ∃ q, k = q + 1 := ⟨k - 1, by omega⟩
  have hA : ¬ (m : Int) < (xs.length : Int) := by omega
  rw [List.drop_of_length_le (by omega)]
  exact ⟨by simp [spec_l10Table.l0, hA], by simp [impl_copyTable.l0, hA]⟩
 | succ d ih =>
  intro k m out hd hk ho
  obtain ⟨k, rfl⟩ : ∃ q, k = q + 1 := ⟨k - 1, by omega⟩
  have hA : (m : Int) < (xs.length : Int) := by omega
  have hB : (0 : Int) ≤ (m : Int) := by omega
  have hw : wrap64 ((m : Int) + 1) = ((m + 1 : Nat) : Int) := wn (n := xs.length) (by omega) (by omega)
  have hf := hx _ (rdP_mem xs m (by omega))
  obtain ⟨c1, c2⟩ := copyPart_at _ hf
  have hL : out.length < 2932031007402 := by omega
  simp only [spec_l10Table.l0, impl_copyTable.l0, if_pos hA, if_pos hB, hw, c1, c2, Option.bind_some, if_pos hL]
  rw [dropP_at xs m (by omega)]
  obtain ⟨h1, h2⟩ := ih k (m + 1) (out ++ [rd_T48 xs (m : Int)]) (by omega) (by omega) (by simp; omega)
  constructor
  ·
   refine Eq.trans h1 ?_
   simp
  ·
   refine Eq.trans h2 ?_
   simp
theorem copyTable_at (xs : List S48) (hn : xs.length ≤ 1048576) (hx : ∀ x ∈ xs, fitP x) (k : Nat) (hk : xs.length < k) : spec_l10Table.f k xs = some xs ∧ impl_copyTable.f k xs = some xs := by
 obtain ⟨h1, h2⟩ := copyTable_l xs hn hx xs.length k 0 [] (by omega) hk rfl
 unfold spec_l10Table.f impl_copyTable.f
 exact ⟨by simpa using h1, by simpa using h2⟩
theorem rdP_get (xs : List S48) (m : Nat) (h : m < xs.length) : rd_T48 xs (m : Int) = xs[m] := by
 unfold rd_T48
 simp [List.getD_eq_getElem?_getD, List.getElem?_eq_getElem h]
theorem implPos_l (p : S48) (xs : List S48) (hn : xs.length ≤ 1048576) : ∀ (d k m : Nat), m + d = xs.length → d < k →
  impl_TableAdd.l0 k xs p.f0 p.f1 p.f2 (m : Int) = some ((m + posZ p (xs.drop m) : Nat) : Int) := by
 intro d
 induction d with
 | zero =>
  intro k m hd hk
  obtain ⟨k, rfl⟩ : ∃ q, k = q + 1 := ⟨k - 1, by omega⟩
  simp only [impl_TableAdd.l0]
  rw [if_neg (by omega), List.drop_of_length_le (by omega)]
  rfl
 | succ d ih =>
  intro k m hd hk
  obtain ⟨k, rfl⟩ : ∃ q, k = q + 1 := ⟨k - 1, by omega⟩
  have hw : wrap64 ((m : Int) + 1) = ((m + 1 : Nat) : Int) := wn (n := xs.length) (by omega) (by omega)
  obtain ⟨c1, _⟩ := cmpP_at (rd_T48 xs (m : Int)) p
  simp only [impl_TableAdd.l0]
  rw [if_pos (by omega), if_pos (by omega), c1, Option.bind_some, dropP_at xs m (by omega)]
  by_cases hc : cmpP (rd_T48 xs (m : Int)) p < 0
  ·
   rw [if_pos hc, hw, ih k (m + 1) (by omega) (by omega), posZ, if_pos hc]
   congr 1
   omega
  ·
   rw [if_neg hc, posZ, if_neg hc]
   rfl
theorem implPos_at (p : S48) (xs : List S48) (hn : xs.length ≤ 1048576) (k : Nat) (hk : xs.length < k) : impl_TableAdd.l0 k xs p.f0 p.f1 p.f2 0 = some ((posZ p xs : Nat) : Int) := by
 have := implPos_l p xs hn xs.length k 0 (by omega) hk
 simpa using this
theorem partOk_fix (a b v : Int) (s : ByteArray) (l : List Int) (hs : s.size < 100000000) (hn : l.length < 100000000) : ∃ r, ∀ k, 3 * s.size + l.length + 90 < k → spec_PartOk.f k a b v s l = some r ∧ impl_PartOk.f k a b v s l = some r := by
 obtain ⟨r, r1, r2⟩ := partOk_at a b v s l hs hn (3 * s.size + l.length + 91) (by omega)
 refine ⟨r, fun k hk => ?_⟩
 obtain ⟨t, t1, t2⟩ := partOk_at a b v s l hs hn k hk
 have h := mono_le (fun k => impl_PartOk.mono a b v s l k) r2 (show 3 * s.size + l.length + 91 ≤ k by omega)
 obtain rfl : t = r := Option.some.inj (t2.symm.trans h)
 exact ⟨t1, t2⟩
theorem tableOk_fix (a b : Int) (xs : List S48) (hn : xs.length ≤ 1048577) (hx : ∀ x ∈ xs, fitP x) : ∃ r, ∀ k, 6100000 < k → spec_TableOk.f k a b xs = some r ∧ impl_TableOk.f k a b xs = some r := by
 have q : ∀ k, 6100000 < k → ∃ r, spec_TableOk.f k a b xs = some r ∧ impl_TableOk.f k a b xs = some r := fun k hk => tableOk_l a b xs (by omega) hx xs.length k 0 (by omega) (by omega)
 obtain ⟨r, r1, r2⟩ := q 6100001 (by omega)
 refine ⟨r, fun k hk => ?_⟩
 obtain ⟨t, t1, t2⟩ := q k hk
 have h := mono_le (fun k => impl_TableOk.mono a b xs k) r2 (show 6100001 ≤ k by omega)
 obtain rfl : t = r := Option.some.inj (t2.symm.trans h)
 exact ⟨t1, t2⟩
def addR (xs zs : List S48) (r q : Bool) : List S48 × Bool := if r = true then (if q = true then (zs, true) else (xs, false)) else (xs, false)
theorem specEnd (a b : Int) (p : S48) (xs zs : List S48) (r q : Bool) (k : Nat) (h1 : spec_TableOk.f k a b zs = some r) (h2 : spec_PartOk.f k a b p.f0 p.f1 p.f2 = some q) (h3 : spec_l10Table.f k xs = some xs) :
  ((spec_TableOk.f k a b zs).bind fun t335 => if t335 = true then ((spec_PartOk.f k a b p.f0 p.f1 p.f2).bind fun t336 => if t336 = true then (some (zs, true)) else ((spec_l10Table.f k xs).bind fun t337 => some (t337, false))) else ((spec_l10Table.f k xs).bind fun t340 => some (t340, false))) = some (addR xs zs r q) := by
 rw [h1, h2, h3]
 cases r <;> cases q <;> rfl
theorem specRest_l (a b : Int) (p : S48) (xs : List S48) (hn : xs.length ≤ 1048576) (hx : ∀ x ∈ xs, fitP x) (zs : List S48) (r q : Bool) (K : Nat) (hR : ∀ k, K < k → spec_TableOk.f k a b zs = some r) (hQ : ∀ k, K < k → spec_PartOk.f k a b p.f0 p.f1 p.f2 = some q) (hT : ∀ k, K < k → spec_l10Table.f k xs = some xs) : ∀ (d m : Nat) (out : List S48), m + d = xs.length → out.length ≤ m + 1 → out ++ xs.drop m = zs → ∀ k, K + d + 1 < k →
  spec_TableAdd.l0 k xs out true (m : Int) a b p.f0 p.f1 p.f2 = some (addR xs zs r q) := by
 intro d
 induction d with
 | zero =>
  intro m out hd ho he k hk
  obtain ⟨k, rfl⟩ : ∃ q, k = q + 1 := ⟨k - 1, by omega⟩
  rw [List.drop_of_length_le (by omega), List.append_nil] at he
  subst he
  simp only [spec_TableAdd.l0]
  rw [if_neg (by omega), if_pos trivial]
  exact specEnd a b p xs out r q k (hR k (by omega)) (hQ k (by omega)) (hT k (by omega))
 | succ d ih =>
  intro m out hd ho he k hk
  obtain ⟨k, rfl⟩ : ∃ q, k = q + 1 := ⟨k - 1, by omega⟩
  have hw : wrap64 ((m : Int) + 1) = ((m + 1 : Nat) : Int) := wn (n := xs.length) (by omega) (by omega)
  obtain ⟨c1, _⟩ := copyPart_at _ (hx _ (rdP_mem xs m (by omega)))
  simp only [spec_TableAdd.l0]
  rw [if_pos (by omega), if_pos (by omega), c1, Option.bind_some, if_pos trivial, if_pos (by omega), hw]
  refine ih (m + 1) _ (by omega) (by simp; omega) ?_ k (by omega)
  rw [← he, dropP_at xs m (by omega)]
  simp
theorem specAdd_l (a b : Int) (p : S48) (hp : fitP p) (xs : List S48) (hn : xs.length ≤ 1048576) (hx : ∀ x ∈ xs, fitJ p x) (zs : List S48) (r q : Bool) (K : Nat) (hK : 2100000 < K) (hR : ∀ k, K < k → spec_TableOk.f k a b zs = some r) (hQ : ∀ k, K < k → spec_PartOk.f k a b p.f0 p.f1 p.f2 = some q) (hT : ∀ k, K < k → spec_l10Table.f k xs = some xs) : ∀ (d m : Nat) (out : List S48), m + d = xs.length → out.length ≤ m → out ++ addZ p (xs.drop m) = zs → ∀ k, K + d + 1 < k →
  spec_TableAdd.l0 k xs out false (m : Int) a b p.f0 p.f1 p.f2 = some (addR xs zs r q) := by
 obtain ⟨q1, _⟩ := copyPart_at _ hp
 intro d
 induction d with
 | zero =>
  intro m out hd ho he k hk
  obtain ⟨k, rfl⟩ : ∃ q, k = q + 1 := ⟨k - 1, by omega⟩
  rw [List.drop_of_length_le (by omega), addZ] at he
  subst he
  simp only [spec_TableAdd.l0]
  rw [if_neg (by omega), if_neg (by decide), q1, Option.bind_some, if_pos (by omega), Option.bind_some]
  exact specEnd a b p xs (out ++ [p]) r q k (hR k (by omega)) (hQ k (by omega)) (hT k (by omega))
 | succ d ih =>
  intro m out hd ho he k hk
  obtain ⟨k, rfl⟩ : ∃ q, k = q + 1 := ⟨k - 1, by omega⟩
  have hw : wrap64 ((m : Int) + 1) = ((m + 1 : Nat) : Int) := wn (n := xs.length) (by omega) (by omega)
  obtain ⟨hf, hj⟩ := hx _ (rdP_mem xs m (by omega))
  obtain ⟨c1, _⟩ := copyPart_at _ hf
  obtain ⟨_, b1⟩ := cmpP_at (rd_T48 xs (m : Int)) p
  rw [dropP_at xs m (by omega)] at he
  simp only [spec_TableAdd.l0]
  rw [if_pos (by omega), if_pos (by omega), c1, Option.bind_some, if_neg (by decide)]
  simp only
  rw [b1, Option.bind_some]
  by_cases hc : cmpP (rd_T48 xs (m : Int)) p < 0
  ·
   rw [addZ, if_pos hc] at he
   rw [if_pos (decide_eq_true hc), if_pos (by omega), hw]
   refine ih (m + 1) _ (by omega) (by simp; omega) ?_ k (by omega)
   rw [← he]
   simp
  ·
   rw [addZ, if_neg hc] at he
   rw [if_neg (by simpa using hc)]
   obtain ⟨e1, _⟩ := joinP_at (rd_T48 xs (m : Int)) p hj k (by omega)
   rw [e1, Option.bind_some]
   by_cases h0 : cmpP (rd_T48 xs (m : Int)) p = 0
   ·
    rw [if_pos h0] at he
    rw [if_pos h0]
    simp only [if_true]
    rw [if_pos (by omega), hw]
    refine specRest_l a b p xs hn (fun x h => (hx x h).1) zs r q K hR hQ hT d (m + 1) _ (by omega) (by simp; omega) ?_ k (by omega)
    rw [← he]
    simp [joinP]
   ·
    rw [if_neg h0] at he
    rw [if_neg h0]
    simp only
    rw [if_neg (by decide), q1, Option.bind_some, if_pos (by omega), Option.bind_some, if_pos (by simp; omega), hw]
    refine specRest_l a b p xs hn (fun x h => (hx x h).1) zs r q K hR hQ hT d (m + 1) _ (by omega) (by simp; omega) ?_ k (by omega)
    rw [← he]
    simp
theorem tableOk_len (a b : Int) (xs : List S48) : ∀ (k : Nat) (m : Int), impl_TableOk.l0 k xs xs (xs.length : Int) m a b = some true → xs.length ≤ 20 := by
 intro k
 induction k with
 | zero => intro m h; simp [impl_TableOk.l0] at h
 | succ k ih =>
  intro m h
  simp only [impl_TableOk.l0] at h
  by_cases h1 : m < (xs.length : Int)
  ·
   rw [if_pos h1] at h
   by_cases h2 : 0 ≤ m
   ·
    rw [if_pos h2, if_pos h1] at h
    obtain ⟨q, _, h⟩ := Option.bind_eq_some_iff.mp h
    cases q
    ·
     exact absurd h (by simp)
    ·
     rw [if_pos rfl] at h
     by_cases h3 : m > 0
     ·
      rw [if_pos h3] at h
      by_cases h4 : 0 ≤ wrap64 (m - 1)
      ·
       rw [if_pos h4] at h
       by_cases h5 : wrap64 (m - 1) < (xs.length : Int)
       ·
        rw [if_pos h5] at h
        obtain ⟨c, _, h⟩ := Option.bind_eq_some_iff.mp h
        by_cases h6 : c ≥ 0
        ·
         rw [if_pos h6] at h
         exact absurd h (by simp)
        ·
         rw [if_neg h6] at h
         exact ih _ h
       ·
        rw [if_neg h5] at h
        exact absurd h (by simp)
      ·
       rw [if_neg h4] at h
       exact absurd h (by simp)
     ·
      rw [if_neg h3] at h
      exact ih _ h
   ·
    rw [if_neg h2] at h
    exact absurd h (by simp)
  ·
   rw [if_neg h1] at h
   have h2 := of_decide_eq_true (Option.some.inj h)
   omega
theorem tableAdd_at (a b : Int) (p : S48) (hp : fitP p) (xs : List S48) (hn : xs.length ≤ 1048576) (hx : ∀ x ∈ xs, fitJ p x) (k : Nat) (hk : 10000000 < k) :
  ∃ (zs : List S48) (o : Bool), spec_TableAdd.f k a b xs p.f0 p.f1 p.f2 = some (zs, o) ∧ impl_TableAdd.f k a b xs p.f0 p.f1 p.f2 = some (zs, o) ∧ (zs = xs ∧ o = false ∨ zs = addZ p xs ∧ o = true ∧ zs.length ≤ 20 ∧ impl_TableOk.f k a b zs = some true) := by
 have hf : ∀ x ∈ xs, fitP x := fun x h => (hx x h).1
 have hzf : ∀ z ∈ addZ p xs, fitP z := by
  intro z hz
  rcases addZ_mem p xs z hz with rfl | h | ⟨x, h, rfl⟩
  ·
   exact hp
  ·
   exact hf z h
  ·
   obtain ⟨⟨f1, f2⟩, f3⟩ := hx x h
   have := joinOf_len x.f2 p.f2
   exact ⟨f1, by show (joinOf x.f2 p.f2).length ≤ _; omega⟩
 have hzl := addZ_len p xs
 obtain ⟨q1, q2⟩ := partOk_at a b p.f0 p.f1 p.f2 (by have := hp.1; omega) (by have := hp.2; omega) k (by have := hp.1; have := hp.2; omega)
 obtain ⟨q2, q3⟩ := q2
 obtain ⟨_, y2⟩ := copyPart_at _ hp
 obtain ⟨t1, t2⟩ := copyTable_at xs (by omega) hf k (by omega)
 obtain ⟨r, hR⟩ := tableOk_fix a b (addZ p xs) (by omega) hzf
 obtain ⟨q, hQ⟩ := partOk_fix a b p.f0 p.f1 p.f2 (by have := hp.1; omega) (by have := hp.2; omega)
 obtain rfl : q1 = q := Option.some.inj (q3.symm.trans (hQ k (by have := hp.1; have := hp.2; omega)).2)
 have r2' := (hR k (by omega)).2
 have r2 : impl_TableOk.l0 k (addZ p xs) (addZ p xs) ((addZ p xs).length : Int) 0 a b = some r := r2'
 have i1 := implPos_at p xs (by omega) k (by omega)
 have hb1 := hp.1
 have hb2 := hp.2
 have e : spec_TableAdd.l0 k xs [] false ((0 : Nat) : Int) a b p.f0 p.f1 p.f2 = some (addR xs (addZ p xs) r q1) :=
  specAdd_l a b p hp xs (by omega) hx (addZ p xs) r q1 6200000 (by omega) (fun k hk => (hR k (by omega)).1) (fun k hk => (hQ k (by omega)).1) (fun k hk => (copyTable_at xs (by omega) hf k (by omega)).1) xs.length 0 [] (by omega) (by simp) (by simp) k (by omega)
 have e' : spec_TableAdd.f k a b xs p.f0 p.f1 p.f2 = some (addR xs (addZ p xs) r q1) := by
  unfold spec_TableAdd.f
  exact e
 rw [e']
 have hfin : impl_TableAdd.fin k a b xs (addZ p xs) = some (if r = true then (addZ p xs, true) else (xs, false)) := by
  unfold impl_TableAdd.fin
  rw [r2', Option.bind_some, t2, Option.bind_some]
  cases r <;> rfl
 have hadd : q1 = true → impl_TableAdd.f k a b xs p.f0 p.f1 p.f2 = some (if r = true then (addZ p xs, true) else (xs, false)) := by
  intro hq1
  unfold impl_TableAdd.f
  rw [q3, hq1, Option.bind_some, if_pos rfl, t2, Option.bind_some, i1, Option.bind_some]
  have hple := posZ_le p xs
  have ins : (∀ h : posZ p xs < xs.length, cmpP xs[posZ p xs] p ≠ 0) → ((impl_copyPart.f p.f0 p.f1 p.f2).bind fun y => (if xs.length < 2932031007402 then (impl_TableAdd.fin k a b xs (xs.take ((posZ p xs : Nat) : Int).toNat ++ (⟨y.1, y.2.1, y.2.2⟩ : S48) :: xs.drop ((posZ p xs : Nat) : Int).toNat)) else (none))) = some (if r = true then (addZ p xs, true) else (xs, false)) := by
   intro h
   rw [y2, Option.bind_some, if_pos (by omega), Int.toNat_natCast]
   have := addZ_ins p xs h
   rw [← hfin, this]
  by_cases hl : posZ p xs < xs.length
  ·
   have eg := rdP_get xs (posZ p xs) hl
   obtain ⟨c1, _⟩ := cmpP_at xs[posZ p xs] p
   obtain ⟨_, hjj⟩ := hx _ (List.getElem_mem hl)
   rw [if_pos (by omega), if_pos (by omega), eg, c1, Option.bind_some]
   by_cases h0 : cmpP xs[posZ p xs] p = 0
   ·
    obtain ⟨_, m2⟩ := joinP_at xs[posZ p xs] p hjj k (by omega)
    rw [if_pos h0, m2, Option.bind_some, if_pos h0, Int.toNat_natCast]
    have := addZ_join p xs hl h0
    rw [← hfin, this]
    rfl
   ·
    rw [if_neg h0]
    exact ins (fun _ => h0)
  ·
   rw [if_neg (by omega)]
   exact ins (fun h => absurd h hl)
 cases hq1 : q1
 ·
  have hi : impl_TableAdd.f k a b xs p.f0 p.f1 p.f2 = some (xs, false) := by
   unfold impl_TableAdd.f
   rw [q3, hq1, Option.bind_some, if_neg (by decide), t2]
   rfl
  refine ⟨xs, false, ?_, hi, .inl ⟨rfl, rfl⟩⟩
  cases r <;> simp [addR]
 ·
  rw [hadd hq1]
  cases r
  ·
   exact ⟨xs, false, by simp [addR], by simp, .inl ⟨rfl, rfl⟩⟩
  ·
   exact ⟨addZ p xs, true, by simp [addR], by simp, .inr ⟨rfl, rfl, tableOk_len a b (addZ p xs) k _ r2, r2'⟩⟩
theorem partTab_ex (c : List Int) (hn : c.length ≤ 9223372036854775807) (i h a b : Int) (hi : Cu c i) (ha : a ≤ 256) (k : Nat) (hk : 20000000 < k) : ∃ r i' h', spec_l10DrawTable.f k c i h a b = some (r, i', h') ∧ r.length ≤ 50 ∧ (∀ x ∈ r, x.f1.size ≤ 5000 ∧ x.f2.length ≤ 1000) ∧ Cu c i' := by
 have key : ∀ (d k x : Nat) (xs : List S48) (i h : Int), x + d = 5 → 11000000 + d < k → xs.length ≤ x → (∀ y ∈ xs, y.f1.size ≤ 5000 ∧ y.f2.length ≤ 100 * x) → Cu c i → ∃ r i' h', spec_l10DrawTable.l0 k xs (x : Int) c i h a b = some (r, i', h') ∧ r.length ≤ 50 ∧ (∀ y ∈ r, y.f1.size ≤ 5000 ∧ y.f2.length ≤ 1000) ∧ Cu c i' := by
  have fin : ∀ (k : Nat) (xs : List S48) (i h : Int), 60000 < k → xs.length ≤ 5 → (∀ y ∈ xs, y.f1.size ≤ 5000 ∧ y.f2.length ≤ 500) → Cu c i → ∃ r i' h', (spec_l1Once.f c i h 8).bind (fun bt544 => (if bt544.1 = true then ((spec_l10Draw.f k c bt544.2.1 bt544.2.2 a b).bind fun bt547 => (if xs.length < 2932031007402 then (some ((xs ++ [(⟨bt547.1, bt547.2.1, bt547.2.2.1⟩ : S48)]), bt547.2.2.2.1, bt547.2.2.2.2)) else (none))) else (some (xs, bt544.2.1, bt544.2.2)))) = some (r, i', h') ∧ r.length ≤ 50 ∧ (∀ y ∈ r, y.f1.size ≤ 5000 ∧ y.f2.length ≤ 1000) ∧ Cu c i' := by
   intro k xs i h hk hx hf hi
   have hf2 : ∀ y ∈ xs, y.f1.size ≤ 5000 ∧ y.f2.length ≤ 1000 := fun y hy => ⟨(hf y hy).1, by have := (hf y hy).2; omega⟩
   obtain ⟨q, i1, h1, e1, p1⟩ := once_ex c hn i h 8 hi (by omega) (by omega)
   obtain ⟨v, s, l, i2, h2, e2, s2, l2, p2⟩ := l10DrawT_ex c hn i1 h1 a b p1 ha k hk
   rw [e1, Option.bind_some]; dsimp only
   cases q
   ·
    rw [if_neg (by decide)]; exact ⟨_, _, _, rfl, by omega, hf2, p1⟩
   ·
    rw [if_pos rfl, e2, Option.bind_some, if_pos (by omega)]
    refine ⟨_, _, _, rfl, by simp; omega, ?_, p2⟩
    intro y hy
    rcases List.mem_append.1 hy with hy | hy
    ·
     exact hf2 y hy
    ·
     rw [List.mem_singleton.1 hy]; exact ⟨by show s.size ≤ 5000; omega, by show l.length ≤ 1000; omega⟩
  intro d
  induction d with
  | zero =>
   intro k x xs i h hd hk hx hf hi
   obtain ⟨k, rfl⟩ : ∃ q, k = q + 1 := ⟨k - 1, by omega⟩
   obtain ⟨y, i1, h1, e1, ⟨b0, b1⟩, p1⟩ := below_ex c hn i h 5 hi (by omega) (by omega)
   simp only [spec_l10DrawTable.l0]
   rw [e1, Option.bind_some]; dsimp only
   rw [if_neg (by omega)]
   exact fin k xs i1 h1 (by omega) (by omega) (fun z hz => ⟨(hf z hz).1, by have := (hf z hz).2; omega⟩) p1
  | succ d ih =>
   intro k x xs i h hd hk hx hf hi
   obtain ⟨k, rfl⟩ : ∃ q, k = q + 1 := ⟨k - 1, by omega⟩
   obtain ⟨y, i1, h1, e1, ⟨b0, b1⟩, p1⟩ := below_ex c hn i h 5 hi (by omega) (by omega)
   simp only [spec_l10DrawTable.l0]
   rw [e1, Option.bind_some]; dsimp only
   by_cases hlt : (x : Int) < y
   ·
    obtain ⟨v, s, l, i2, h2, e2, s2, l2, p2⟩ := l10RightT_ex c hn i1 h1 a b p1 ha k (by omega)
    have hx5 : x ≤ 5 := by omega
    obtain ⟨r, q, r1, _, r3⟩ := tableAdd_at a b (⟨v, s, l⟩ : S48) ⟨by show s.size ≤ 1048576; omega, by show l.length ≤ 1048576; omega⟩ xs (by omega) (fun z hz => ⟨⟨by have := (hf z hz).1; omega, by have := (hf z hz).2; omega⟩, by have := (hf z hz).2; show z.f2.length + l.length ≤ 1048576; omega⟩) k (by omega)
    have r1' : spec_TableAdd.f k a b xs v s l = some (r, q) := r1
    have hr : r.length ≤ x + 1 ∧ ∀ z ∈ r, z.f1.size ≤ 5000 ∧ z.f2.length ≤ 100 * (x + 1) := by
     rcases r3 with ⟨rfl, _⟩ | ⟨rfl, _⟩
     ·
      exact ⟨by omega, fun z hz => ⟨(hf z hz).1, by have := (hf z hz).2; omega⟩⟩
     ·
      have hl := addZ_len (⟨v, s, l⟩ : S48) xs
      refine ⟨by omega, fun z hz => ?_⟩
      rcases addZ_mem _ xs z hz with rfl | hz | ⟨y, hy, rfl⟩
      ·
       exact ⟨by show s.size ≤ 5000; omega, by show l.length ≤ _; omega⟩
      ·
       exact ⟨(hf z hz).1, by have := (hf z hz).2; omega⟩
      ·
       have hj := joinOf_len y.f2 l
       have := (hf y hy).2
       exact ⟨(hf y hy).1, by show (joinOf y.f2 l).length ≤ _; omega⟩
    rw [if_pos hlt, e2, Option.bind_some]; dsimp only
    rw [r1', Option.bind_some, wn (m := x) (n := 100) (by omega) (by omega)]
    exact ih k (x + 1) r i2 h2 (by omega) (by omega) (by omega) hr.2 p2
   ·
    rw [if_neg hlt]
    exact fin k xs i1 h1 (by omega) (by omega) (fun z hz => ⟨(hf z hz).1, by have := (hf z hz).2; omega⟩) p1
 unfold spec_l10DrawTable.f
 exact key 5 k 0 [] i h (by omega) (by omega) (by simp) (by simp) hi
theorem bent_ex (c : List Int) (hn : c.length ≤ 9223372036854775807) (i h : Int) (hi : Cu c i) : ∃ a b i' h', spec_l7DrawBent.f c i h = some (a, b, i', h') ∧ a ≤ 256 ∧ Cu c i' := by
 obtain ⟨a, b, i1, h1, e1, a0, a1, _, _, p1⟩ := l7DrawConf_at c hn i h hi
 obtain ⟨y, i2, h2, e2, _, p2⟩ := below_ex c hn i1 h1 12 p1 (by omega) (by omega)
 obtain ⟨z, i3, h3, e3, z3, p3⟩ := pickInt_ex c hn i2 h2 p2 [0, 3, 8, (-1)] (by simp) (by simp)
 obtain ⟨u, i4, h4, e4, _, p4⟩ := pickInt_ex c hn i2 h2 p2 [0, 6, 7] (by simp) (by simp)
 have hz : z ≤ 256 := by simp at z3; omega
 unfold spec_l7DrawBent.f
 rw [e1, Option.bind_some]; dsimp only
 rw [e2, Option.bind_some]; dsimp only
 split
 ·
  rw [e3, Option.bind_some]; exact ⟨_, _, _, _, rfl, hz, p3⟩
 ·
  split
  ·
   rw [e4, Option.bind_some]; exact ⟨_, _, _, _, rfl, by omega, p4⟩
  ·
   exact ⟨_, _, _, _, rfl, by omega, p2⟩
theorem dJoin_ex (l : List Int) (hn : l.length ≤ 9223372036854775807) (k : Nat) (hk : 20000000 < k) : ∃ v s m v' s' m', spec_DrawPartJoin.f k l = some (v, s, m, v', s', m') ∧ s.size ≤ 4000 ∧ m.length ≤ 20 ∧ s'.size ≤ 4000 ∧ m'.length ≤ 20 := by
 obtain ⟨h, e0⟩ := l1New_at l hn k (by omega)
 obtain ⟨a, b, i1, h1, e1, a0, a1, _, _, p1⟩ := l7DrawConf_at l hn 0 h ⟨by omega, by omega⟩
 obtain ⟨v, s, m, i2, h2, e2, s2, m2, p2⟩ := l10DrawT_ex l hn i1 h1 a b p1 (by omega) k (by omega)
 obtain ⟨v', s', m', i3, h3, e3, s3, m3, p3⟩ := l10DrawT_ex l hn i2 h2 a b p2 (by omega) k (by omega)
 obtain ⟨q, i4, h4, e4, p4⟩ := once_ex l hn i3 h3 2 p3 (by omega) (by omega)
 unfold spec_DrawPartJoin.f
 rw [e0, Option.bind_some]; dsimp only
 rw [e1, Option.bind_some]; dsimp only
 rw [e2, Option.bind_some]; dsimp only
 rw [e3, Option.bind_some]; dsimp only
 rw [e4, Option.bind_some]; dsimp only
 split
 ·
  exact ⟨_, _, _, _, _, _, rfl, s2, m2, s2, m3⟩
 ·
  exact ⟨_, _, _, _, _, _, rfl, s2, m2, s3, m3⟩
theorem dAdd_ex (l : List Int) (hn : l.length ≤ 9223372036854775807) (k : Nat) (hk : 20000000 < k) : ∃ a b xs v s m, spec_DrawTableAdd.f k l = some (a, b, xs, v, s, m) ∧ xs.length ≤ 50 ∧ (∀ x ∈ xs, x.f1.size ≤ 5000 ∧ x.f2.length ≤ 1000) ∧ s.size ≤ 5000 ∧ m.length ≤ 20 := by
 obtain ⟨h, e0⟩ := l1New_at l hn k (by omega)
 obtain ⟨a, b, i1, h1, e1, a0, a1, _, _, p1⟩ := l7DrawConf_at l hn 0 h ⟨by omega, by omega⟩
 obtain ⟨xs, i2, h2, e2, r1, r2, p2⟩ := partTab_ex l hn i1 h1 a b p1 (by omega) k (by omega)
 unfold spec_DrawTableAdd.f
 rw [e0, Option.bind_some]; dsimp only
 rw [e1, Option.bind_some]; dsimp only
 rw [e2, Option.bind_some]; dsimp only
 have fin : ∀ (i h : Int), Cu l i → ∃ a' b' ys v s m, ((spec_l10Draw.f k l i h a b).bind fun bt790 => (some (a, b, xs, bt790.1, bt790.2.1, bt790.2.2.1))) = some (a', b', ys, v, s, m) ∧ ys.length ≤ 50 ∧ (∀ x ∈ ys, x.f1.size ≤ 5000 ∧ x.f2.length ≤ 1000) ∧ s.size ≤ 5000 ∧ m.length ≤ 20 := by
  intro i h hi
  obtain ⟨v, s, m, i3, h3, e3, s3, m3, p3⟩ := l10DrawT_ex l hn i h a b hi (by omega) k (by omega)
  rw [e3, Option.bind_some]
  exact ⟨_, _, _, _, _, _, rfl, r1, r2, Nat.le_trans s3 (by decide), m3⟩
 by_cases hx : (xs.length : Int) > 0
 ·
  rw [if_pos hx]
  obtain ⟨q, i3, h3, e3, p3⟩ := once_ex l hn i2 h2 3 p2 (by omega) (by omega)
  rw [e3, Option.bind_some]; dsimp only
  cases q
  ·
   rw [if_neg (by decide)]
   exact fin i3 h3 p3
  ·
   obtain ⟨y, i4, h4, e4, ⟨y0, y1⟩, p4⟩ := below_ex l hn i3 h3 xs.length p3 hx (by omega)
   obtain ⟨z, i5, h5, e5, _, p5⟩ := below_ex l hn i4 h4 4 p4 (by omega) (by omega)
   obtain ⟨m, rfl⟩ : ∃ m : Nat, y = (m : Int) := ⟨y.toNat, by omega⟩
   have hm := r2 _ (rdP_mem xs m (by omega))
   obtain ⟨c1, _⟩ := copyPart_at (rd_T48 xs (m : Int)) ⟨by omega, by omega⟩
   rw [if_pos rfl, e4, Option.bind_some]; dsimp only
   rw [if_pos y0, if_pos (by omega), c1, Option.bind_some]; dsimp only
   rw [e5, Option.bind_some]
   exact ⟨_, _, _, _, _, _, rfl, r1, r2, hm.1, by simp⟩
 ·
  rw [if_neg hx]
  exact fin i2 h2 p2
theorem dQc_ex (l : List Int) (hn : l.length ≤ 9223372036854775807) (k : Nat) (hk : 20000000 < k) : ∃ a b v s m, spec_DrawPartQc.f k l = some (a, b, v, s, m) ∧ s.size ≤ 5000 ∧ m.length ≤ 20 := by
 obtain ⟨h, e0⟩ := l1New_at l hn k (by omega)
 obtain ⟨a, b, i1, h1, e1, a0, a1, _, _, p1⟩ := l7DrawConf_at l hn 0 h ⟨by omega, by omega⟩
 obtain ⟨q, i2, h2, e2, p2⟩ := once_ex l hn i1 h1 2 p1 (by omega) (by omega)
 obtain ⟨n, rfl⟩ : ∃ n : Nat, a = (n : Int) := ⟨a.toNat, by omega⟩
 unfold spec_DrawPartQc.f
 rw [e0, Option.bind_some]; dsimp only
 rw [e1, Option.bind_some]; dsimp only
 rw [e2, Option.bind_some]; dsimp only
 cases q
 ·
  obtain ⟨v, s, m, i3, h3, e3, s3, m3, p3⟩ := l10DrawT_ex l hn i2 h2 n b p2 (by omega) k (by omega)
  rw [if_neg (by decide), e3, Option.bind_some]
  exact ⟨_, _, _, _, _, rfl, Nat.le_trans s3 (by decide), m3⟩
 ·
  obtain ⟨v, s, m, i3, h3, e3, s3, m3, p3⟩ := l7DrawT_ex l hn i2 h2 p2 n (by omega) b k (by omega)
  rw [if_pos rfl, e3, Option.bind_some]
  exact ⟨_, _, _, _, _, rfl, Nat.le_trans s3 (by decide), m3⟩
theorem dGet_ex (l : List Int) (hn : l.length ≤ 9223372036854775807) (k : Nat) (hk : 20000000 < k) : ∃ xs v s, spec_DrawTableGet.f k l = some (xs, v, s) ∧ xs.length ≤ 50 ∧ (∀ x ∈ xs, x.f1.size ≤ 5000 ∧ x.f2.length ≤ 1000) ∧ s.size ≤ 5000 := by
 obtain ⟨h, e0⟩ := l1New_at l hn k (by omega)
 obtain ⟨a, b, i1, h1, e1, a0, a1, _, _, p1⟩ := l7DrawConf_at l hn 0 h ⟨by omega, by omega⟩
 obtain ⟨xs, i2, h2, e2, r1, r2, p2⟩ := partTab_ex l hn i1 h1 a b p1 (by omega) k (by omega)
 unfold spec_DrawTableGet.f
 rw [e0, Option.bind_some]; dsimp only
 rw [e1, Option.bind_some]; dsimp only
 rw [e2, Option.bind_some]; dsimp only
 have fin : ∀ (i h : Int), Cu l i → ∃ ys v s, ((spec_l1Below.f l i h 5).bind fun bt967 => ((spec_l5DrawRight.f k l bt967.2.1 bt967.2.2).bind fun bt970 => (some (xs, bt967.1, bt970.1)))) = some (ys, v, s) ∧ ys.length ≤ 50 ∧ (∀ x ∈ ys, x.f1.size ≤ 5000 ∧ x.f2.length ≤ 1000) ∧ s.size ≤ 5000 := by
  intro i h hi
  obtain ⟨y, i3, h3, e3, _, p3⟩ := below_ex l hn i h 5 hi (by omega) (by omega)
  obtain ⟨s, i4, h4, e4, s4, p4⟩ := l5Right_ex l hn i3 h3 p3 k (by omega)
  rw [e3, Option.bind_some]; dsimp only
  rw [e4, Option.bind_some]
  exact ⟨_, _, _, rfl, r1, r2, Nat.le_trans s4 (by decide)⟩
 by_cases hx : (xs.length : Int) > 0
 ·
  rw [if_pos hx]
  obtain ⟨q, i3, h3, e3, p3⟩ := once_ex l hn i2 h2 2 p2 (by omega) (by omega)
  rw [e3, Option.bind_some]; dsimp only
  cases q
  ·
   rw [if_neg (by decide)]
   exact fin i3 h3 p3
  ·
   obtain ⟨y, i4, h4, e4, ⟨y0, y1⟩, p4⟩ := below_ex l hn i3 h3 xs.length p3 hx (by omega)
   obtain ⟨m, rfl⟩ : ∃ m : Nat, y = (m : Int) := ⟨y.toNat, by omega⟩
   have hm := r2 _ (rdP_mem xs m (by omega))
   rw [if_pos rfl, e4, Option.bind_some]; dsimp only
   rw [if_pos y0, if_pos (by omega)]
   exact ⟨_, _, _, rfl, r1, r2, hm.1⟩
 ·
  rw [if_neg hx]
  exact fin i2 h2 p2
theorem dDrop_ex (l : List Int) (hn : l.length ≤ 9223372036854775807) (k : Nat) (hk : 20000000 < k) : ∃ xs v, spec_DrawTableDrop.f k l = some (xs, v) ∧ xs.length ≤ 50 ∧ (∀ x ∈ xs, x.f1.size ≤ 5000 ∧ x.f2.length ≤ 1000) := by
 obtain ⟨h, e0⟩ := l1New_at l hn k (by omega)
 obtain ⟨a, b, i1, h1, e1, a0, a1, _, _, p1⟩ := l7DrawConf_at l hn 0 h ⟨by omega, by omega⟩
 obtain ⟨xs, i2, h2, e2, r1, r2, p2⟩ := partTab_ex l hn i1 h1 a b p1 (by omega) k (by omega)
 obtain ⟨v, i3, h3, e3, _, p3⟩ := below_ex l hn i2 h2 6 p2 (by omega) (by omega)
 unfold spec_DrawTableDrop.f
 rw [e0, Option.bind_some]; dsimp only
 rw [e1, Option.bind_some]; dsimp only
 rw [e2, Option.bind_some]; dsimp only
 rw [e3, Option.bind_some]
 exact ⟨_, _, rfl, r1, r2⟩
theorem dTOk_ex (l : List Int) (hn : l.length ≤ 9223372036854775807) (k : Nat) (hk : 20000000 < k) : ∃ a b xs, spec_DrawTableOk.f k l = some (a, b, xs) ∧ xs.length ≤ 50 ∧ (∀ x ∈ xs, x.f1.size ≤ 5000 ∧ x.f2.length ≤ 1000) := by
 obtain ⟨h, e0⟩ := l1New_at l hn k (by omega)
 obtain ⟨a, b, i1, h1, e1, a0, a1, _, _, p1⟩ := l7DrawConf_at l hn 0 h ⟨by omega, by omega⟩
 obtain ⟨xs, i2, h2, e2, r1, r2, p2⟩ := partTab_ex l hn i1 h1 a b p1 (by omega) k (by omega)
 unfold spec_DrawTableOk.f
 rw [e0, Option.bind_some]; dsimp only
 rw [e1, Option.bind_some]; dsimp only
 rw [e2, Option.bind_some]
 exact ⟨_, _, _, rfl, r1, r2⟩
theorem dPOk_ex (l : List Int) (hn : l.length ≤ 9223372036854775807) (k : Nat) (hk : 20000000 < k) : ∃ a b v s m, spec_DrawPartOk.f k l = some (a, b, v, s, m) ∧ s.size ≤ 5000 ∧ m.length ≤ 20 := by
 obtain ⟨h, e0⟩ := l1New_at l hn k (by omega)
 obtain ⟨a, b, i1, h1, e1, a0, p1⟩ := bent_ex l hn 0 h ⟨by omega, by omega⟩
 obtain ⟨v, s, m, i3, h3, e3, s3, m3, p3⟩ := l10DrawT_ex l hn i1 h1 a b p1 a0 k (by omega)
 unfold spec_DrawPartOk.f
 rw [e0, Option.bind_some]; dsimp only
 rw [e1, Option.bind_some]; dsimp only
 rw [e3, Option.bind_some]
 exact ⟨_, _, _, _, _, rfl, Nat.le_trans s3 (by decide), m3⟩
theorem slEqual_l (xs ys : List Int) (hl : ys.length = xs.length) (hn : xs.length ≤ 9223372036854775807) : ∀ (d k m : Nat), m + d = xs.length → d < k →
  slices_Equal_int_int.l0 k xs ys (xs.length : Int) (m : Int) = some (decide (xs.drop m = ys.drop m)) := by
 intro d
 induction d with
 | zero =>
  intro k m hd hk
  obtain ⟨k, rfl⟩ : ∃ q, k = q + 1 := ⟨k - 1, by omega⟩
  simp only [slices_Equal_int_int.l0]
  rw [if_neg (by omega), List.drop_of_length_le (by omega), List.drop_of_length_le (by omega)]
  simp
 | succ d ih =>
  intro k m hd hk
  obtain ⟨k, rfl⟩ : ∃ q, k = q + 1 := ⟨k - 1, by omega⟩
  simp only [slices_Equal_int_int.l0]
  rw [if_pos (by omega), if_pos (by omega), if_pos (by omega), if_pos (by omega), wn (n := xs.length) (by omega) hn, ih k (m + 1) (by omega) (by omega), drop_at xs m (by omega), drop_at ys m (by omega)]
  by_cases h : rd xs m = rd ys m <;> simp [h]
theorem slEqual_at (xs ys : List Int) (hn : xs.length ≤ 9223372036854775807) (k : Nat) (hk : xs.length < k) : slices_Equal_int_int.f k xs ys = some (decide (xs = ys)) := by
 unfold slices_Equal_int_int.f
 by_cases h : (xs.length : Int) = (ys.length : Int)
 ·
  rw [if_pos h]
  have := slEqual_l xs ys (by omega) hn xs.length k 0 (by omega) hk
  simpa using this
 ·
  rw [if_neg h]
  have : xs ≠ ys := fun e => h (by rw [e])
  simp [this]
def qcB (v : Int) (s : ByteArray) (l : List Int) (v' : Int) (s' : ByteArray) (l' : List Int) : Bool := decide (v = v' ∧ s.toList = s'.toList ∧ l = l')
theorem implQcSame_at (v : Int) (s : ByteArray) (l : List Int) (v' : Int) (s' : ByteArray) (l' : List Int) (hn : l.length ≤ 9223372036854775807) (k : Nat) (hk : 2 * l.length + 1 < k) :
  impl_QcSame.f k v s l v' s' l' = some (qcB v s l v' s' l') := by
 unfold impl_QcSame.f qcB
 rw [slEqual_at l l' hn k (by omega)]
 by_cases h1 : v = v' <;> by_cases h2 : s.toList = s'.toList <;> simp [h1, h2]
theorem quorum_at (a b : Int) : ∃ q, spec_Quorum.f a b = some q ∧ impl_Quorum.f a b = some q := by
 unfold spec_Quorum.f impl_Quorum.f impl_Faults.f
 rw [specConf_at, implConf_at]
 cases confB a b <;> simp
theorem qcOk_at (a b v : Int) (s : ByteArray) (l : List Int) (hs : s.size < 100000000) (hn : l.length < 100000000) (k : Nat) (hk : 3 * s.size + 2 * l.length + 90 < k) :
  ∃ r, spec_QcOk.f k a b v s l = some r ∧ impl_QcOk.f k a b v s l = some r := by
 obtain ⟨w, o, v1, v2, o1, o2, hv, he⟩ := viewOf_at s hs k (by omega)
 obtain ⟨t, ht⟩ := setOk_at a l (by omega)
 obtain ⟨q, q1, q2⟩ := quorum_at a b
 unfold spec_QcOk.f impl_QcOk.f impl_QcFirst.f
 rw [specConf_at, implConf_at]
 have hk2 : 2 * l.length + 1 < k := by omega
 cases hc : confB a b
 ·
  exact ⟨false, by simp, by simp⟩
 ·
  simp only [Option.bind_some, if_true, o1, o2, v1, v2, implQcSame_at _ _ _ _ _ _ (show l.length ≤ 9223372036854775807 by omega) k hk2]
  by_cases hz : s.data.toList = []
  ·
   obtain ⟨rfl, rfl⟩ := he hz
   simp only [if_true]
   by_cases hv0 : v = 0
   ·
    subst hv0
    refine ⟨(l.length : Int) == 0, ?_, ?_⟩
    ·
     rw [if_pos rfl, Lib.toList_data, if_pos hz]
    ·
     have e2 : qcB 0 s l 0 (⟨#[]⟩ : ByteArray) [] = ((l.length : Int) == 0) := by
      unfold qcB
      rw [Lib.toList_data, Lib.toList_data, hz]
      cases l with
      | nil => rfl
      | cons x y => simp; omega
     rw [e2]
     cases hl : ((l.length : Int) == 0)
     ·
      simp
     ·
      simp
   ·
    have e2 : qcB v s l 0 (⟨#[]⟩ : ByteArray) [] = false := by unfold qcB; simp [hv0]
    rw [e2]
    exact ⟨false, by rw [if_neg (Ne.symm hv0)], by simp [hv0]⟩
  ·
   have e2 : qcB v s l 0 (⟨#[]⟩ : ByteArray) [] = false := by
    unfold qcB
    rw [Lib.toList_data, Lib.toList_data]
    exact decide_eq_false (fun h => hz h.2.1)
   rw [e2]
   cases o
   ·
    exact ⟨false, by simp, by simp⟩
   ·
    have hw := hv rfl hz
    simp only [if_true]
    by_cases hwv : w = v
    ·
     subst hwv
     refine ⟨if t = true then decide ((l.length : Int) ≥ q) else false, ?_, ?_⟩
     ·
      rw [if_pos rfl, Lib.toList_data, if_neg hz, (ht k (by omega)).1, Option.bind_some, q1]
      cases t <;> simp
     ·
      have h1 : w ≥ 1 := hw
      simp only [if_pos h1, (ht k (by omega)).2, q2, Option.bind_some, if_true]
      cases t <;> simp
    ·
     refine ⟨false, by rw [if_neg hwv], ?_⟩
     have h2 : ¬ v = w := fun e => hwv e.symm
     simp [h2]
theorem implCopyQc_at (v : Int) (s : ByteArray) (l : List Int) (hn : l.length < 17592186044416) : impl_copyQc.f v s l = some (v, s, l) := by
 unfold impl_copyQc.f impl_copyInts.f
 rw [if_pos (by simpa using hn)]; rfl
theorem qcOk_view (a b v : Int) (s : ByteArray) (l : List Int) (hs : s.size < 100000000) (k : Nat) (hk : 3 * s.size + 90 < k) (h : spec_QcOk.f k a b v s l = some true) :
  (s.data.toList = [] → v = 0) ∧ (s.data.toList ≠ [] → 1 ≤ v) := by
 obtain ⟨w, o, v1, v2, o1, o2, hv, he⟩ := viewOf_at s hs k (by omega)
 unfold spec_QcOk.f at h
 rw [specConf_at] at h
 cases hc : confB a b
 ·
  rw [hc] at h; simp at h
 ·
  rw [hc] at h
  simp only [Option.bind_some, if_true, o1, v1] at h
  cases o
  ·
   simp at h
  ·
   simp only [if_true] at h
   by_cases hw : w = v
   ·
    subst hw
    exact ⟨fun hz => (he hz).1, fun hz => hv rfl hz⟩
   ·
    rw [if_neg hw] at h
    simp at h
theorem partQc_at (a b v : Int) (s : ByteArray) (l : List Int) (hs : s.size < 100000000) (hn : l.length < 100000000) (k : Nat) (hk : 3 * s.size + 2 * l.length + 90 < k) :
  ∃ v' s' l' o, spec_PartQc.f k a b v s l = some (v', s', l', o) ∧ impl_PartQc.f k a b v s l = some (v', s', l', o) ∧ l'.length ≤ l.length ∧ (o = true → impl_QcOk.f k a b v' s' l' = some true) := by
 obtain ⟨r, r1, r2⟩ := qcOk_at a b v s l hs hn k hk
 unfold spec_PartQc.f impl_PartQc.f
 rw [implCopyQc_at v s l (by omega)]
 simp only [Option.bind_some, List.nil_append, List.length_nil, Nat.zero_add]
 rw [if_pos (show l.length < 17592186044416 by omega), r1, r2, Option.bind_some, Option.bind_some, Lib.toList_data]
 cases r
 ·
  refine ⟨0, (⟨#[]⟩ : ByteArray), [], false, ?_, by simp, Nat.zero_le _, fun h => by cases h⟩
  by_cases hz : s.data.toList = []
  ·
   rw [if_pos hz]
  ·
   rw [if_neg hz]; simp
 ·
  obtain ⟨h0, h1⟩ := qcOk_view a b v s l hs k (by omega) r1
  by_cases hz : s.data.toList = []
  ·
   rw [if_pos hz, if_pos rfl, if_pos (h0 hz)]
   exact ⟨0, (⟨#[]⟩ : ByteArray), [], false, rfl, rfl, Nat.zero_le _, fun h => by cases h⟩
  ·
   have hv := h1 hz
   rw [if_neg hz, if_pos rfl, if_pos rfl, if_neg (by omega)]
   exact ⟨v, s, l, true, rfl, rfl, Nat.le_refl _, fun _ => r2⟩
theorem sameInts_refl (xs : List Int) (hn : xs.length ≤ 9223372036854775807) (k : Nat) (hk : xs.length < k) : laws_sameInts.f k xs xs = some true := by
 have key : ∀ (d k m : Nat), m + d = xs.length → d < k → laws_sameInts.l0 k xs xs (m : Int) = some true := by
  intro d
  induction d with
  | zero =>
   intro k m hd hk
   obtain ⟨k, rfl⟩ : ∃ q, k = q + 1 := ⟨k - 1, by omega⟩
   simp only [laws_sameInts.l0]
   rw [if_neg (by omega)]
  | succ d ih =>
   intro k m hd hk
   obtain ⟨k, rfl⟩ : ∃ q, k = q + 1 := ⟨k - 1, by omega⟩
   simp only [laws_sameInts.l0]
   rw [if_pos (by omega), if_pos (by omega), if_pos (by omega), if_pos trivial, wn (n := xs.length) (by omega) hn]
   exact ih k (m + 1) (by omega) (by omega)
 unfold laws_sameInts.f
 rw [if_pos rfl]
 exact key xs.length k 0 (by omega) hk
theorem implCommon_all (xs ys : List Int) (hx : xs.length ≤ 9223372036854775807) (hy : ys.length ≤ 9223372036854775807) (h : ∀ x ∈ xs, x ∈ ys) (k : Nat) (hk : xs.length + ys.length + 1 < k) :
  impl_Common.f k xs ys = some (xs.length : Int) := by
 have key : ∀ (d k m : Nat), m + d = xs.length → d + ys.length + 1 < k → impl_Common.l0 k ys (m : Int) xs (xs.length : Int) (m : Int) = some (xs.length : Int) := by
  intro d
  induction d with
  | zero =>
   intro k m hd hk
   obtain ⟨k, rfl⟩ : ∃ q, k = q + 1 := ⟨k - 1, by omega⟩
   simp only [impl_Common.l0]
   rw [if_neg (by omega), show m = xs.length by omega]
  | succ d ih =>
   intro k m hd hk
   obtain ⟨k, rfl⟩ : ∃ q, k = q + 1 := ⟨k - 1, by omega⟩
   have hm : rd xs (m : Int) ∈ xs := by
    have hm : m < xs.length := by omega
    simp [rd, List.getD_eq_getElem?_getD, List.getElem?_eq_getElem hm]
   simp only [impl_Common.l0]
   rw [if_pos (by omega), if_pos (by omega), if_pos (by omega), implSetHas_at ys _ hy k (by omega), Option.bind_some, if_pos (decide_eq_true (h _ hm)), wn (n := xs.length) (by omega) hx]
   exact ih k (m + 1) (by omega) (by omega)
 unfold impl_Common.f
 exact key xs.length k 0 (by omega) (by omega)
def insZ (x : Int) : List Int → List Int
 | [] => [x]
 | y :: r => if y < x then y :: insZ x r else x :: y :: r
theorem insZ_at (x : Int) : ∀ o : List Int, o.take (impl_SetAdd.at_ o x) ++ x :: o.drop (impl_SetAdd.at_ o x) = insZ x o
 | [] => rfl
 | y :: r => by
  by_cases h : y < x
  ·
   have e : impl_SetAdd.at_ (y :: r) x = impl_SetAdd.at_ r x + 1 := by unfold impl_SetAdd.at_; simp [h]
   rw [e, insZ, if_pos h, ← insZ_at x r]
   rfl
  ·
   have e : impl_SetAdd.at_ (y :: r) x = 0 := by unfold impl_SetAdd.at_; simp [h]
   rw [e, insZ, if_neg h]
   rfl
theorem mem_insZ (x y : Int) : ∀ o : List Int, y ∈ insZ x o ↔ y = x ∨ y ∈ o
 | [] => by simp [insZ]
 | z :: r => by
  unfold insZ
  by_cases h : z < x
  ·
   rw [if_pos h, List.mem_cons, mem_insZ x y r, List.mem_cons]
   constructor
   ·
    rintro (h | h | h)
    ·
     exact .inr (.inl h)
    ·
     exact .inl h
    ·
     exact .inr (.inr h)
   ·
    rintro (h | h | h)
    ·
     exact .inr (.inl h)
    ·
     exact .inl h
    ·
     exact .inr (.inr h)
  ·
   rw [if_neg h, List.mem_cons]
theorem insZ_sorted (x : Int) : ∀ o : List Int, o.Pairwise (· < ·) → x ∉ o → (insZ x o).Pairwise (· < ·)
 | [], _, _ => by simp [insZ]
 | z :: r, h, hx => by
  obtain ⟨h1, h2⟩ := List.pairwise_cons.1 h
  have hz : x ≠ z := fun e => hx (e ▸ List.mem_cons_self)
  unfold insZ
  by_cases hl : z < x
  ·
   rw [if_pos hl]
   refine List.pairwise_cons.2 ⟨fun y hy => ?_, insZ_sorted x r h2 (fun h => hx (List.mem_cons_of_mem _ h))⟩
   rcases (mem_insZ x y r).1 hy with rfl | hy
   ·
    exact hl
   ·
    exact h1 y hy
  ·
   rw [if_neg hl]
   refine List.pairwise_cons.2 ⟨fun y hy => ?_, h⟩
   rcases List.mem_cons.1 hy with rfl | hy
   ·
    omega
   ·
    have := h1 y hy
    omega
theorem mem_addOf (x y : Int) (o : List Int) : y ∈ addOf o x ↔ y = x ∨ y ∈ o := by
 unfold addOf
 by_cases h : x ∈ o
 ·
  rw [if_pos h]
  exact ⟨.inr, fun h2 => h2.elim (fun e => e ▸ h) id⟩
 ·
  rw [if_neg h, insZ_at, mem_insZ]
theorem addOf_sorted (x : Int) (o : List Int) (ho : o.Pairwise (· < ·)) : (addOf o x).Pairwise (· < ·) := by
 unfold addOf
 by_cases h : x ∈ o
 ·
  rw [if_pos h]; exact ho
 ·
  rw [if_neg h, insZ_at]; exact insZ_sorted x o ho h
theorem mem_foldAdd (y : Int) : ∀ a o : List Int, y ∈ a.foldl addOf o ↔ y ∈ a ∨ y ∈ o
 | [], o => by simp
 | x :: a, o => by
  rw [List.foldl_cons, mem_foldAdd y a, mem_addOf, List.mem_cons]
  constructor
  ·
   rintro (h | h | h)
   ·
    exact .inl (.inr h)
   ·
    exact .inl (.inl h)
   ·
    exact .inr h
  ·
   rintro ((h | h) | h)
   ·
    exact .inr (.inl h)
   ·
    exact .inl h
   ·
    exact .inr (.inr h)
theorem foldAdd_sorted : ∀ a o : List Int, o.Pairwise (· < ·) → (a.foldl addOf o).Pairwise (· < ·)
 | [], _, h => h
 | x :: a, o, h => foldAdd_sorted a _ (addOf_sorted x o h)
theorem mem_joinOf (y : Int) (a b : List Int) : y ∈ joinOf a b ↔ y ∈ a ∨ y ∈ b := by
 unfold joinOf
 rw [mem_foldAdd, mem_foldAdd]
 simp only [List.not_mem_nil, or_false]
 exact or_comm
theorem sorted_ext : ∀ a b : List Int, a.Pairwise (· < ·) → b.Pairwise (· < ·) → (∀ y, y ∈ a ↔ y ∈ b) → a = b
 | [], [], _, _, _ => rfl
 | [], y :: b, _, _, h => absurd ((h y).2 List.mem_cons_self) (by simp)
 | x :: a, [], _, _, h => absurd ((h x).1 List.mem_cons_self) (by simp)
 | x :: a, y :: b, ha, hb, h => by
  obtain ⟨a1, a2⟩ := List.pairwise_cons.1 ha
  obtain ⟨b1, b2⟩ := List.pairwise_cons.1 hb
  have e : x = y := by
   rcases List.mem_cons.1 ((h x).1 List.mem_cons_self) with e | e
   ·
    exact e
   ·
    rcases List.mem_cons.1 ((h y).2 List.mem_cons_self) with e2 | e2
    ·
     exact e2.symm
    ·
     have := b1 x e; have := a1 y e2; omega
  subst e
  rw [sorted_ext a b a2 b2 (fun z => ?_)]
  constructor
  ·
   intro hz
   have := a1 z hz
   rcases List.mem_cons.1 ((h z).1 (List.mem_cons_of_mem _ hz)) with e | e
   ·
    omega
   ·
    exact e
  ·
   intro hz
   have := b1 z hz
   rcases List.mem_cons.1 ((h z).2 (List.mem_cons_of_mem _ hz)) with e | e
   ·
    omega
   ·
    exact e
theorem joinOf_comm (a b : List Int) : joinOf a b = joinOf b a :=
 sorted_ext _ _ (foldAdd_sorted b _ (foldAdd_sorted a [] List.Pairwise.nil)) (foldAdd_sorted a _ (foldAdd_sorted b [] List.Pairwise.nil)) (fun y => by
  rw [mem_joinOf, mem_joinOf]
  exact or_comm)
theorem tableGet_l (xs : List S48) (hn : xs.length ≤ 1048576) (hx : ∀ x ∈ xs, fitP x) (v : Int) (s : ByteArray) : ∀ (d k m : Nat), m + d = xs.length → d < k →
  ∃ (a : Int) (b : ByteArray) (c : List Int), c.length ≤ 1048576 ∧ spec_TableGet.l0 k xs v s (m : Int) = some (a, b, c) ∧ impl_TableGet.l0 k v s xs (xs.length : Int) (m : Int) = some (a, b, c) := by
 intro d
 induction d with
 | zero =>
  intro k m hd hk
  obtain ⟨k, rfl⟩ : ∃ q, k = q + 1 := ⟨k - 1, by omega⟩
  have hA : ¬ (m : Int) < (xs.length : Int) := by omega
  exact ⟨v, s, [], by decide, by simp only [spec_TableGet.l0, if_neg hA], by simp only [impl_TableGet.l0, if_neg hA]⟩
 | succ d ih =>
  intro k m hd hk
  obtain ⟨k, rfl⟩ : ∃ q, k = q + 1 := ⟨k - 1, by omega⟩
  have hA : (m : Int) < (xs.length : Int) := by omega
  have hB : (0 : Int) ≤ (m : Int) := by omega
  have hw : wrap64 ((m : Int) + 1) = ((m + 1 : Nat) : Int) := wn (n := xs.length) (by omega) (by omega)
  have hf := hx _ (rdP_mem xs m (by omega))
  obtain ⟨c1, c2⟩ := copyPart_at _ hf
  obtain ⟨a, b, c, h1, h2, h3⟩ := ih k (m + 1) (by omega) (by omega)
  simp only [spec_TableGet.l0, impl_TableGet.l0, if_pos hA, if_pos hB, hw, c1, c2, h2, h3, Option.bind_some]
  by_cases e1 : (rd_T48 xs (m : Int)).f0 = v
  ·
   by_cases e2 : (rd_T48 xs (m : Int)).f1.toList = s.toList
   ·
    simp only [if_pos e1, if_pos e2]
    exact ⟨_, _, _, hf.2, rfl, rfl⟩
   ·
    simp only [if_pos e1, if_neg e2]
    exact ⟨a, b, c, h1, rfl, rfl⟩
  ·
   simp only [if_neg e1]
   exact ⟨a, b, c, h1, rfl, rfl⟩
theorem tableDrop_l (xs : List S48) (hn : xs.length ≤ 1048576) (hx : ∀ x ∈ xs, fitP x) (v : Int) : ∀ (d k m : Nat) (out : List S48), m + d = xs.length → d < k → out.length ≤ m →
  spec_TableDrop.l0 k xs v out (m : Int) = some (out ++ (xs.drop m).filter (fun x => decide (x.f0 ≥ v))) ∧ impl_TableDrop.l0 k v out xs (xs.length : Int) (m : Int) = some (out ++ (xs.drop m).filter (fun x => decide (x.f0 ≥ v))) := by
 intro d
 induction d with
 | zero =>
  intro k m out hd hk ho
  obtain ⟨k, rfl⟩ : ∃ q, k = q + 1 := ⟨k - 1, by omega⟩
  have hA : ¬ (m : Int) < (xs.length : Int) := by omega
  rw [List.drop_of_length_le (by omega)]
  exact ⟨by simp [spec_TableDrop.l0, hA], by simp [impl_TableDrop.l0, hA]⟩
 | succ d ih =>
  intro k m out hd hk ho
  obtain ⟨k, rfl⟩ : ∃ q, k = q + 1 := ⟨k - 1, by omega⟩
  have hA : (m : Int) < (xs.length : Int) := by omega
  have hB : (0 : Int) ≤ (m : Int) := by omega
  have hw : wrap64 ((m : Int) + 1) = ((m + 1 : Nat) : Int) := wn (n := xs.length) (by omega) (by omega)
  have hf := hx _ (rdP_mem xs m (by omega))
  obtain ⟨c1, c2⟩ := copyPart_at _ hf
  have hL : out.length < 2932031007402 := by omega
  simp only [spec_TableDrop.l0, impl_TableDrop.l0, if_pos hA, if_pos hB, hw, c1, c2, Option.bind_some, if_pos hL]
  rw [dropP_at xs m (by omega)]
  by_cases e1 : (rd_T48 xs (m : Int)).f0 ≥ v
  ·
   obtain ⟨h1, h2⟩ := ih k (m + 1) (out ++ [rd_T48 xs (m : Int)]) (by omega) (by omega) (by simp; omega)
   simp only [if_pos e1]
   rw [List.filter_cons_of_pos (by simpa using e1)]
   constructor
   ·
    refine Eq.trans h1 ?_
    simp
   ·
    refine Eq.trans h2 ?_
    simp
  ·
   obtain ⟨h1, h2⟩ := ih k (m + 1) out (by omega) (by omega) (by omega)
   simp only [if_neg e1]
   rw [List.filter_cons_of_neg (by simpa using e1)]
   exact ⟨h1, h2⟩
theorem samePartG (v : Int) (s : ByteArray) (l : List Int) (v' : Int) (s' : ByteArray) (hv : v = v') (hs : s.toList = s'.toList) (hl : l.length ≤ 2000000) (k : Nat) (hk : 2000000 < k) : laws_samePart.f k v s l v' s' l = some true := by
 have h := sameInts_refl l (by omega) k (by omega)
 unfold laws_samePart.f
 rw [if_pos hv, if_pos hs, h, Option.bind_some]
theorem sameTable_refl (xs : List S48) (hl : xs.length ≤ 1000) (hx : ∀ x ∈ xs, x.f2.length ≤ 2000000) (k : Nat) (hk : 3000000 < k) : laws_sameTable.f k xs xs = some true := by
 have key : ∀ (d k m : Nat), m + d = xs.length → 2100000 + d < k → laws_sameTable.l0 k xs xs (m : Int) = some true := by
  intro d
  induction d with
  | zero =>
   intro k m hd hk
   obtain ⟨k, rfl⟩ : ∃ q, k = q + 1 := ⟨k - 1, by omega⟩
   simp only [laws_sameTable.l0]
   rw [if_neg (by omega)]
  | succ d ih =>
   intro k m hd hk
   obtain ⟨k, rfl⟩ : ∃ q, k = q + 1 := ⟨k - 1, by omega⟩
   simp only [laws_sameTable.l0]
   rw [if_pos (by omega), if_pos (by omega), if_pos (by omega), samePartG _ _ _ _ _ rfl rfl (hx _ (rdP_mem xs m (by omega))) k (by omega), Option.bind_some, if_pos rfl, wn (n := xs.length) (by omega) (by omega)]
   exact ih k (m + 1) (by omega) (by omega)
 unfold laws_sameTable.f
 rw [if_pos rfl]
 exact key xs.length k 0 (by omega) (by omega)
def getZ (v : Int) (s : List UInt8) : List S48 → Option S48
 | [] => none
 | x :: r => if x.f0 = v ∧ x.f1.toList = s then some x else getZ v s r
theorem getZ_mem (v : Int) (s : List UInt8) : ∀ (xs : List S48) (z : S48), getZ v s xs = some z → z ∈ xs
 | [], z, h => by cases h
 | x :: r, z, h => by
  unfold getZ at h
  by_cases c : x.f0 = v ∧ x.f1.toList = s
  ·
   rw [if_pos c] at h; cases h; exact List.mem_cons_self
  ·
   rw [if_neg c] at h; exact List.mem_cons_of_mem _ (getZ_mem v s r z h)
theorem getZ_add (p : S48) : ∀ xs : List S48, ∃ z, getZ p.f0 p.f1.toList (addZ p xs) = some z ∧ ∀ y ∈ p.f2, y ∈ z.f2
 | [] => ⟨p, by unfold addZ getZ; rw [if_pos ⟨rfl, rfl⟩], fun _ h => h⟩
 | x :: r => by
  unfold addZ
  by_cases h : cmpP x p < 0
  ·
   obtain ⟨z, z1, z2⟩ := getZ_add p r
   have hn : ¬ (x.f0 = p.f0 ∧ x.f1.toList = p.f1.toList) := fun e => by have := (cmpP_zero x p).2 e; omega
   refine ⟨z, ?_, z2⟩
   rw [if_pos h, getZ, if_neg hn]
   exact z1
  ·
   rw [if_neg h]
   by_cases h0 : cmpP x p = 0
   ·
    rw [if_pos h0]
    refine ⟨joinP x p, ?_, fun y hy => (mem_joinOf y x.f2 p.f2).2 (.inr hy)⟩
    have he := (cmpP_zero x p).1 h0
    rw [getZ]
    exact if_pos he
   ·
    rw [if_neg h0]
    exact ⟨p, by rw [getZ, if_pos ⟨rfl, rfl⟩], fun _ h => h⟩
theorem implGet_l (xs : List S48) (hn : xs.length ≤ 1048576) (hx : ∀ x ∈ xs, fitP x) (v : Int) (s : ByteArray) (z : S48) : ∀ (d k m : Nat), m + d = xs.length → d < k → getZ v s.toList (xs.drop m) = some z →
  impl_TableGet.l0 k v s xs (xs.length : Int) (m : Int) = some (z.f0, z.f1, z.f2) := by
 intro d
 induction d with
 | zero =>
  intro k m hd hk h
  rw [List.drop_of_length_le (by omega)] at h
  cases h
 | succ d ih =>
  intro k m hd hk h
  obtain ⟨k, rfl⟩ : ∃ q, k = q + 1 := ⟨k - 1, by omega⟩
  have hA : (m : Int) < (xs.length : Int) := by omega
  have hB : (0 : Int) ≤ (m : Int) := by omega
  have hw : wrap64 ((m : Int) + 1) = ((m + 1 : Nat) : Int) := wn (n := xs.length) (by omega) (by omega)
  have hf := hx _ (rdP_mem xs m (by omega))
  obtain ⟨_, c2⟩ := copyPart_at _ hf
  rw [dropP_at xs m (by omega), getZ] at h
  simp only [impl_TableGet.l0, if_pos hA, if_pos hB, hw, c2, Option.bind_some]
  by_cases e1 : (rd_T48 xs (m : Int)).f0 = v
  ·
   by_cases e2 : (rd_T48 xs (m : Int)).f1.toList = s.toList
   ·
    rw [if_pos ⟨e1, e2⟩] at h
    obtain rfl := Option.some.inj h
    rw [if_pos e1, if_pos e2]
   ·
    rw [if_neg (fun e => e2 e.2)] at h
    rw [if_pos e1, if_neg e2]
    exact ih k (m + 1) (by omega) (by omega) h
  ·
   rw [if_neg (fun e => e1 e.1)] at h
   rw [if_neg e1]
   exact ih k (m + 1) (by omega) (by omega) h
theorem partJoin_at2 (v : Int) (s : ByteArray) (l : List Int) (v' : Int) (s' : ByteArray) (l' : List Int) (hl : l.length ≤ 20) (hl' : l'.length ≤ 20) (k : Nat) (hk : 3000000 < k) :
  ∃ a b c o, impl_PartJoin.f k v s l v' s' l' = some (a, b, c, o) ∧ spec_PartJoin.f k v s l v' s' l' = some (a, b, c, o) ∧ c.length ≤ 40 ∧
   (o = true → ∃ a' b', impl_PartJoin.f k v' s' l' v s l = some (a', b', c, true) ∧ laws_samePart.f k a' b' c a b c = some true) := by
 have hj := joinOf_len l l'
 have e5 := specSetJoin_at l l' (by omega) k (by omega)
 have e6 := implSetJoin_at l l' (by omega) k (by omega)
 have e7 := implSetJoin_at l' l (by omega) k (by omega)
 rw [joinOf_comm l' l] at e7
 by_cases hv : v = v'
 ·
  by_cases hs2 : s.toList = s'.toList
  ·
   refine ⟨v, s, joinOf l l', true, ?_, ?_, by omega, fun _ => ⟨v', s', ?_, samePartG _ _ _ _ _ hv.symm hs2.symm (by omega) k (by omega)⟩⟩
   ·
    unfold impl_PartJoin.f
    rw [if_pos hv, if_pos hs2, e6]; rfl
   ·
    unfold spec_PartJoin.f
    rw [if_pos hv, if_pos hs2, e5]; rfl
   ·
    unfold impl_PartJoin.f
    rw [if_pos hv.symm, if_pos hs2.symm, e7]; rfl
  ·
   refine ⟨0, (⟨#[]⟩ : ByteArray), [], false, ?_, ?_, by simp, fun h => by cases h⟩
   ·
    simp [impl_PartJoin.f, hs2, e6]
   ·
    simp [spec_PartJoin.f, hs2, e5]
 ·
  refine ⟨0, (⟨#[]⟩ : ByteArray), [], false, ?_, ?_, by simp, fun h => by cases h⟩
  ·
   simp [impl_PartJoin.f, hv, e6]
  ·
   simp [spec_PartJoin.f, hv, e5]
theorem Pure.FnParts : StatFnParts := by
 intro l hl
 obtain ⟨k, hk⟩ : ∃ k, 30000000 < k := ⟨_, Nat.lt_succ_self _⟩
 refine ⟨k, ?_⟩
 unfold laws_FnParts.f laws_big.f
 rw [Option.bind_some]
 by_cases hb : (l.length : Int) > 1048576
 ·
  rw [decide_eq_true hb, if_pos rfl]
 rw [decide_eq_false hb, if_neg (by decide)]
 have hln : l.length ≤ 9223372036854775807 := by omega
 have hk2 : 20000000 < k := by omega
 obtain ⟨v1, s1, m1, v2, s2, m2, d1, a1, a2, a3, a4⟩ := dJoin_ex l hln k hk2
 obtain ⟨jv, js, jl, jo, p1, p2, p3, p4⟩ := partJoin_at2 v1 s1 m1 v2 s2 m2 a2 a4 k (by omega)
 have p5 := samePartG jv js jl jv js rfl rfl (by omega) k (by omega)
 obtain ⟨b1, w1⟩ := setOk_at 7 m1 (by omega)
 obtain ⟨b2, w2⟩ := setOk_at 7 m2 (by omega)
 have w1' := (w1 k (by omega)).2
 have w2' := (w2 k (by omega)).2
 obtain ⟨a, b, xs, v3, s3, m3, d2, x1, x2, x3, x4⟩ := dAdd_ex l hln k hk2
 have hpf : fitP (⟨v3, s3, m3⟩ : S48) := ⟨by show s3.size ≤ 1048576; omega, by show m3.length ≤ 1048576; omega⟩
 have hxj : ∀ x ∈ xs, fitJ (⟨v3, s3, m3⟩ : S48) x := fun x hx => ⟨⟨by have := (x2 x hx).1; omega, by have := (x2 x hx).2; omega⟩, by have := (x2 x hx).2; show x.f2.length + m3.length ≤ 1048576; omega⟩
 obtain ⟨zs, o, t1, t2, t3⟩ := tableAdd_at a b (⟨v3, s3, m3⟩ : S48) hpf xs (by omega) hxj k (by omega)
 have t1' : spec_TableAdd.f k a b xs v3 s3 m3 = some (zs, o) := t1
 have t2' : impl_TableAdd.f k a b xs v3 s3 m3 = some (zs, o) := t2
 have hzf : zs.length ≤ 51 ∧ ∀ z ∈ zs, fitP z := by
  rcases t3 with ⟨rfl, _⟩ | ⟨rfl, _⟩
  ·
   exact ⟨by omega, fun z hz => (hxj z hz).1⟩
  ·
   have := addZ_len (⟨v3, s3, m3⟩ : S48) xs
   refine ⟨by omega, fun z hz => ?_⟩
   rcases addZ_mem _ xs z hz with rfl | hz | ⟨y, hy, rfl⟩
   ·
    exact hpf
   ·
    exact (hxj z hz).1
   ·
    obtain ⟨⟨f1, f2⟩, f3⟩ := hxj y hy
    have hj := joinOf_len y.f2 m3
    exact ⟨f1, by show (joinOf y.f2 m3).length ≤ _; have f3' : y.f2.length + m3.length ≤ 1048576 := f3; omega⟩
 have t4 := sameTable_refl zs (by omega) (fun z hz => by have := (hzf.2 z hz).2; omega) k (by omega)
 obtain ⟨c, d, v4, s4, m4, d3, y3, y4⟩ := dQc_ex l hln k hk2
 obtain ⟨qv, qs, ql, qo, q2, q1, q3, q4⟩ := partQc_at c d v4 s4 m4 (by omega) (by omega) k (by omega)
 have q5 : impl_QcSame.f k qv qs ql qv qs ql = some true := by
  rw [implQcSame_at _ _ _ _ _ _ (show ql.length ≤ 9223372036854775807 by omega) k (by omega)]
  unfold qcB
  simp
 obtain ⟨ys, v5, s5, d4, u1, u2, u3⟩ := dGet_ex l hln k hk2
 obtain ⟨ga, gb, gc, g1, g2, g3⟩ := tableGet_l ys (by omega) (fun x hx => ⟨by have := (u2 x hx).1; omega, by have := (u2 x hx).2; omega⟩) v5 s5 ys.length k 0 (by omega) (by omega)
 have g2' : spec_TableGet.f k ys v5 s5 = some (ga, gb, gc) := g2
 have g3' : impl_TableGet.f k ys v5 s5 = some (ga, gb, gc) := g3
 have g4 := samePartG ga gb gc ga gb rfl rfl (by omega) k (by omega)
 obtain ⟨ws, v6, d5, r1, r2⟩ := dDrop_ex l hln k hk2
 obtain ⟨h1, h2⟩ := tableDrop_l ws (by omega) (fun x hx => ⟨by have := (r2 x hx).1; omega, by have := (r2 x hx).2; omega⟩) v6 ws.length k 0 [] (by omega) (by omega) (by simp)
 obtain ⟨fs, hfs⟩ : ∃ fs, fs = ws.filter (fun x => decide (x.f0 ≥ v6)) := ⟨_, rfl⟩
 rw [List.drop_zero, List.nil_append, ← hfs] at h1 h2
 have h1' : spec_TableDrop.f k ws v6 = some fs := h1
 have h2' : impl_TableDrop.f k ws v6 = some fs := h2
 have h3 : fs.length ≤ 50 := by rw [hfs]; exact Nat.le_trans (List.length_filter_le _ _) r1
 have h4 := sameTable_refl fs (by omega) (fun z hz => by rw [hfs] at hz; have := (r2 z (List.mem_filter.1 hz).1).2; omega) k (by omega)
 obtain ⟨e, f, us, d6, i1, i2⟩ := dTOk_ex l hln k hk2
 obtain ⟨r6, i3⟩ := tableOk_fix e f us (by omega) (fun x hx => ⟨by have := (i2 x hx).1; omega, by have := (i2 x hx).2; omega⟩)
 obtain ⟨i4, i5⟩ := i3 k (by omega)
 obtain ⟨g, h, v7, s7, m7, d7, n1, n2⟩ := dPOk_ex l hln k hk2
 obtain ⟨r7, n3, n4⟩ := partOk_at g h v7 s7 m7 (by omega) (by omega) k (by omega)
 have hP : (if o = true then ((impl_TableGet.f k zs v3 s3).bind fun y => ((impl_TableOk.f k a b zs).bind fun t => (if t = true then ((impl_Common.f k m3 y.2.2).bind fun t' => (some (t' == (m3.length : Int)))) else (some false)))) else ((laws_sameTable.f k zs xs).bind fun t => (some t))) = some true := by
  rcases t3 with ⟨rfl, rfl⟩ | ⟨hz, rfl, _, hok⟩
  ·
   rw [if_neg (by decide), t4]; rfl
  ·
   obtain ⟨z, z1, z2⟩ := getZ_add (⟨v3, s3, m3⟩ : S48) xs
   rw [← hz] at z1
   have zf := hzf.2 z (getZ_mem _ _ zs z z1)
   have zg : impl_TableGet.f k zs v3 s3 = some (z.f0, z.f1, z.f2) := implGet_l zs (by omega) hzf.2 v3 s3 z zs.length k 0 (by omega) (by omega) z1
   have zc := implCommon_all m3 z.f2 (by omega) (by have := zf.2; omega) z2 k (by have := zf.2; omega)
   rw [if_pos rfl, zg, Option.bind_some, hok, Option.bind_some, if_pos rfl, zc, Option.bind_some]
   simp
 have nb : ∀ x : Bool, (x != x) = false := fun x => by cases x <;> rfl
 simp only [d1, p1, p2, d2, t1', t2', d3, q1, q2, d4, d5, d6, d7, Option.bind_some, nb, Bool.false_eq_true, if_false, p5, t4, q5, g2', g3', g4, h1', h2', h4, i4, i5, n3, n4, if_true, w1', w2', hP]
 cases qo
 ·
  cases jo
  ·
   simp
  ·
   obtain ⟨a', b', c1, c2⟩ := p4 rfl
   cases b1 <;> cases b2 <;> simp [c1, c2]
 ·
  have hq := q4 rfl
  cases jo
  ·
   simp [hq]
  ·
   obtain ⟨a', b', c1, c2⟩ := p4 rfl
   cases b1 <;> cases b2 <;> simp [hq, c1, c2]
end Go.Proofs.YtdmjhgogljhfkaaGreatDoor.PFnParts
