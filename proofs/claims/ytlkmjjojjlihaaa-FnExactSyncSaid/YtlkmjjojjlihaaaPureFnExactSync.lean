/- The law FnExactSync over numbers and lists of bytes: both sides of Sync come to one disk, whose bytes are its own. No condition. -/
import Derived.Test.YtlkmjjojjlihaaaStatFnExactSync
namespace Go.Proofs.Ytlkmjjojjlihaaa.PFnExactSync
open Go.RowKit Go.Proofs.YtlkmjjojjlihaaaW.PrintWords Go.Proofs.YtlkmjjojjlihaaaW.PrintLast
set_option linter.unusedVariables false
set_option linter.unusedSimpArgs false
theorem wn {m n : Nat} (h : m < n) (hn : n ≤ 9223372036854775807) : wrap64 ((m : Int) + 1) = ((m + 1 : Nat) : Int) := by unfold wrap64; omega
theorem wi {a : Int} {n : Nat} (h0 : 0 ≤ a) (h : a + (n : Int) ≤ 9223372036854775807) : ∀ {m : Nat}, m < n → wrap64 (a + (m : Int) + 1) = a + ((m + 1 : Nat) : Int) := by
  intro m hm
  unfold wrap64
  omega
theorem len_ok {n : Nat} (h : n ≤ maxLen) : n ≤ 9223372036854775807 := by unfold maxLen at h; omega
theorem set_take {α : Type} (l : List α) (n : Nat) (x : α) (h : n < l.length) : (l.set n x).take (n + 1) = l.take n ++ [x] := by
  rw [List.take_succ_eq_append_getElem (by simpa using h), List.take_set_of_le (Nat.le_refl _)]
  simp
theorem drop_at (l : List Int) (n : Nat) (h : n < l.length) : l.drop n = rd l (n : Int) :: l.drop (n + 1) := by
  rw [List.drop_eq_getElem_cons h]
  simp [rd, List.getD_eq_getElem?_getD, List.getElem?_eq_getElem h]
/-- n numbers that follow each other, from a on. -/
def marks (a : Int) : Nat → List Int
  | 0 => []
  | n + 1 => a :: marks (a + 1) n
theorem marks_length : ∀ (n : Nat) (a : Int), (marks a n).length = n
  | 0, _ => rfl
  | n + 1, a => by simp [marks, marks_length n]
theorem toByteS_l (xs : List Int) (hn : xs.length ≤ 9223372036854775807) : ∀ (d k : Nat) (out : List Int) (m : Nat), m + d = xs.length → out.length = xs.length → d < k →
    laws_toByteS.l0 k xs out (m : Int) = some (out.take m ++ xs.drop m) := by
  intro d
  induction d with
  | zero =>
    intro k out m hd hl hk
    obtain ⟨k, rfl⟩ : ∃ q, k = q + 1 := ⟨k - 1, by omega⟩
    simp only [laws_toByteS.l0]
    rw [if_neg (by omega), List.take_of_length_le (by omega), List.drop_of_length_le (by omega), List.append_nil]
  | succ d ih =>
    intro k out m hd hl hk
    obtain ⟨k, rfl⟩ : ∃ q, k = q + 1 := ⟨k - 1, by omega⟩
    simp only [laws_toByteS.l0]
    rw [if_pos (by omega), if_pos (by omega), if_pos (by omega), wn (n := xs.length) (by omega) hn, ih k _ (m + 1) (by omega) (by simpa using hl) (by omega), Int.toNat_natCast, set_take _ _ _ (by omega), drop_at xs m (by omega)]
    simp
theorem toByteS_at (xs : List Int) (hn : xs.length ≤ 281474976710656) (k : Nat) (hk : xs.length < k) : laws_toByteS.f k xs = some xs := by
  unfold laws_toByteS.f
  rw [if_pos (by omega), if_pos (by omega)]
  have h := toByteS_l xs (by omega) xs.length k (List.replicate ((xs.length : Int)).toNat 0) 0 (by omega) (by simp) hk
  simpa using h
theorem eqByteS_l (xs ys : List Int) (hl : ys.length = xs.length) (hn : xs.length ≤ 9223372036854775807) : ∀ (d k m : Nat), m + d = xs.length → d < k →
    laws_eqByteS.l0 k xs ys (m : Int) = some (decide (xs.drop m = ys.drop m)) := by
  intro d
  induction d with
  | zero =>
    intro k m hd hk
    obtain ⟨k, rfl⟩ : ∃ q, k = q + 1 := ⟨k - 1, by omega⟩
    simp only [laws_eqByteS.l0]
    rw [if_neg (by omega), List.drop_of_length_le (by omega), List.drop_of_length_le (by omega)]
    simp
  | succ d ih =>
    intro k m hd hk
    obtain ⟨k, rfl⟩ : ∃ q, k = q + 1 := ⟨k - 1, by omega⟩
    simp only [laws_eqByteS.l0]
    rw [if_pos (by omega), if_pos (by omega), if_pos (by omega), wn (n := xs.length) (by omega) hn, ih k (m + 1) (by omega) (by omega), drop_at xs m (by omega), drop_at ys m (by omega)]
    by_cases h : rd xs m = rd ys m <;> simp [h]
theorem eqByteS_at (xs ys : List Int) (hn : xs.length ≤ 9223372036854775807) (k : Nat) (hk : xs.length < k) : laws_eqByteS.f k xs ys = some (decide (xs = ys)) := by
  unfold laws_eqByteS.f
  by_cases h : (xs.length : Int) = (ys.length : Int)
  · rw [if_pos h]
    have := eqByteS_l xs ys (by omega) hn xs.length k 0 (by omega) hk
    simpa using this
  · rw [if_neg h]
    have : xs ≠ ys := fun e => h (by rw [e])
    simp [this]
theorem wsub {a n : Int} (h0 : 0 ≤ n) (h1 : n ≤ 9223372036854775807) (ha : 0 ≤ a ∧ a ≤ 1048576) : wrap64 (a - n) = a - n := by unfold wrap64; omega
theorem szByteS_at (xs : List Int) (a : Int) (hn : xs.length ≤ 9223372036854775807) (ha : 0 ≤ a ∧ a ≤ 1048576) :
    laws_szByteS.f xs a = some (if a - (xs.length : Int) < 0 then -1 else a - (xs.length : Int)) := by
  unfold laws_szByteS.f
  rw [wsub (by omega) (by omega) ha]
  split <;> rfl
def marksB (a : Int) : Nat → List Int
  | 0 => []
  | n + 1 => a % 256 :: marksB (a + 1) n
theorem marksB_length : ∀ (n : Nat) (a : Int), (marksB a n).length = n
  | 0, _ => rfl
  | n + 1, a => by simp [marksB, marksB_length n]
theorem markByteS_l (n : Nat) (a : Int) (h0 : 0 ≤ a) (ha : a + (n : Int) ≤ 9223372036854775807) : ∀ (d k m : Nat) (xs : List Int), xs.length = n → m + d = n → d < k →
    laws_markByteS.l0 k xs (a + (m : Int)) (m : Int) = some (a + (n : Int), xs.take m ++ marksB (a + (m : Int)) d) := by
  intro d
  induction d with
  | zero =>
    intro k m xs hx hd hk
    obtain ⟨k, rfl⟩ : ∃ q, k = q + 1 := ⟨k - 1, by omega⟩
    simp only [laws_markByteS.l0]
    rw [if_neg (by omega), List.take_of_length_le (by omega)]
    obtain rfl : m = n := by omega
    simp [marksB]
  | succ d ih =>
    intro k m xs hx hd hk
    obtain ⟨k, rfl⟩ : ∃ q, k = q + 1 := ⟨k - 1, by omega⟩
    simp only [laws_markByteS.l0]
    rw [if_pos (by omega), if_pos (by omega), wn (n := n) (by omega) (by omega), wi h0 ha (by omega), ih k (m + 1) _ (by simpa using hx) (by omega) (by omega), Int.toNat_natCast, set_take _ _ _ (by omega), marksB]
    rw [show a + ((m + 1 : Nat) : Int) = a + (m : Int) + 1 by omega]
    simp
theorem markByteS_at (xs : List Int) (a : Int) (h0 : 0 ≤ a) (ha : a + (xs.length : Int) ≤ 9223372036854775807) (k : Nat) (hk : xs.length < k) :
    laws_markByteS.f k xs a = some (a + (xs.length : Int), marksB a xs.length) := by
  unfold laws_markByteS.f
  have := markByteS_l xs.length a h0 ha xs.length k 0 xs rfl (by omega) hk
  simpa using this
theorem heldByteS_l (xs : List Int) (a : Int) (h0 : 0 ≤ a) (ha : a + (xs.length : Int) ≤ 9223372036854775807) : ∀ (d k m : Nat), m + d = xs.length → xs.drop m = marksB (a + (m : Int)) d → d < k →
    laws_heldByteS.l0 k xs (a + (m : Int)) (m : Int) = some (a + (xs.length : Int)) := by
  intro d
  induction d with
  | zero =>
    intro k m hd hx hk
    obtain ⟨k, rfl⟩ : ∃ q, k = q + 1 := ⟨k - 1, by omega⟩
    simp only [laws_heldByteS.l0]
    rw [if_neg (by omega)]
    obtain rfl : m = xs.length := by omega
    rfl
  | succ d ih =>
    intro k m hd hx hk
    obtain ⟨k, rfl⟩ : ∃ q, k = q + 1 := ⟨k - 1, by omega⟩
    rw [drop_at xs m (by omega), marksB] at hx
    obtain ⟨h1, h2⟩ := List.cons.inj hx
    simp only [laws_heldByteS.l0]
    rw [if_pos (by omega), if_pos (by omega), if_pos h1, wn (n := xs.length) (by omega) (by omega), wi h0 ha (by omega), ih k (m + 1) (by omega) (by rw [h2]; congr 1; omega) (by omega)]
theorem heldByteS_at (n : Nat) (a : Int) (h0 : 0 ≤ a) (ha : a + (n : Int) ≤ 9223372036854775807) (k : Nat) (hk : n < k) : laws_heldByteS.f k (marksB a n) a = some (a + (n : Int)) := by
  unfold laws_heldByteS.f
  have hl := marksB_length n a
  have := heldByteS_l (marksB a n) a h0 (by omega) n k 0 (by omega) (by simp) hk
  rw [hl] at this
  simpa using this
theorem diskOk_some (xs : List Int) (s : Int) : ∃ r, impl_DiskOk.f xs s = some r := by
  unfold impl_DiskOk.f impl_within.f
  by_cases h : (xs.length : Int) ≤ 100000 <;> by_cases h2 : s ≥ 0 <;> simp [h, h2]
theorem diskOk_same (xs : List Int) (s : Int) : spec_DiskOk.f xs s = impl_DiskOk.f xs s := rfl
theorem sync_at (xs : List Int) (s : Int) (hn : xs.length < 140737488355328) : ∃ q, impl_Sync.f xs s = some (xs, q) ∧ spec_Sync.f xs s = some (xs, q) := by
  obtain ⟨r, hr⟩ := diskOk_some xs s
  refine ⟨if r = true then (xs.length : Int) else s, ?_, ?_⟩
  · unfold impl_Sync.f impl_copyDisk.f
    rw [if_pos (by simpa using hn)]
    simp only [Option.bind_some, hr, List.nil_append]
    cases r <;> simp
  · unfold spec_Sync.f spec_l13Copy.f
    simp only [Option.bind_some, diskOk_same, hr]
    rw [if_pos (by simpa using hn)]
    cases r <;> simp
theorem Pure.FnExactSync : StatFnExactSync := by
  intro xs s hx hs
  have hn := len_ok hx.1
  refine ⟨xs.length + 1, ?_⟩
  unfold laws_FnExactSync.f laws_szDisk.f
  rw [szByteS_at xs 1048576 hn (by omega)]
  by_cases h : 1048576 - (xs.length : Int) < 0
  · simp [h]
  · have hb : ¬ (1048576 : Int) < (xs.length : Int) := by omega
    have h1 := toByteS_at xs (by omega) (xs.length + 1) (by omega)
    have h2 := eqByteS_at xs xs hn (xs.length + 1) (by omega)
    have h3 := markByteS_at xs 1 (by omega) (by omega) (xs.length + 1) (by omega)
    have h4 := heldByteS_at xs.length 1 (by omega) (by omega) (xs.length + 1) (by omega)
    obtain ⟨q, h5, h6⟩ := sync_at xs s (by omega)
    have h7 : ¬ 1 + (xs.length : Int) < 0 := by omega
    simp [h, hb, laws_toDisk.f, laws_eqDisk.f, laws_markDisk.f, laws_heldDisk.f, h1, h2, h3, h4, h5, h6, h7]
end Go.Proofs.Ytlkmjjojjlihaaa.PFnExactSync
