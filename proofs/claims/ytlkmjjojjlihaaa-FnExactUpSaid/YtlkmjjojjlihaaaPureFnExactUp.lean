/- The law FnExactUp over numbers: both sides of Up come to one number. No condition. -/
import Derived.Test.YtlkmjjojjlihaaaStatFnExactUp
namespace Go.Proofs.Ytlkmjjojjlihaaa.PFnExactUp
open Go.RowKit Go.Proofs.YtlkmjjojjlihaaaW.PrintWords Go.Proofs.YtlkmjjojjlihaaaW.PrintLast
set_option linter.unusedVariables false
set_option linter.unusedSimpArgs false
theorem wf64 {n : Int} (h : (Lit.int .i64 n).wf = true) : -9223372036854775808 ≤ n ∧ n ≤ 9223372036854775807 := by
  simp [Lit.wf, IntKind.min, IntKind.max, IntKind.bits, IntKind.signed] at h
  omega
def confB (a b : Int) : Bool := decide (4 ≤ a ∧ a ≤ 7 ∧ 1 ≤ b ∧ b ≤ 6)
theorem implConf_at (a b : Int) : impl_ConfOk.f a b = some (confB a b) := by
  unfold impl_ConfOk.f impl_within.f confB
  by_cases h : a ≥ 4 <;> by_cases h2 : a ≤ 7 <;> by_cases h3 : b ≥ 1 <;> simp [h, h2, h3] <;> omega
theorem specConf_at (a b : Int) : spec_ConfOk.f a b = some (confB a b) := implConf_at a b
/-- At which place of the order of a view a replica is; -1 where there is none. -/
def seatZ (a b v i : Int) : Int := if confB a b = true ∧ 0 ≤ v ∧ 0 ≤ i ∧ i < a then (i + a - v % a) % a else -1
/-- Who sits at a place. -/
def sitsZ (a b v s : Int) : Int := if confB a b = true ∧ 0 ≤ v ∧ 0 ≤ s ∧ s < a then (v % a + s) % a else -1
theorem confB_iff {a b : Int} (h : confB a b = true) : (a = 4 ∨ a = 5 ∨ a = 6 ∨ a = 7) ∧ 1 ≤ b ∧ b ≤ 6 := by
  unfold confB at h
  have := of_decide_eq_true h
  omega
theorem specSeat_at (a b v i : Int) (hi : -9223372036854775808 ≤ i ∧ i ≤ 9223372036854775807) : spec_Seat.f a b v i = some (seatZ a b v i) := by
  unfold spec_Seat.f spec_l1In.f seatZ
  rw [specConf_at, Option.bind_some]
  by_cases hc : confB a b = true
  · obtain ⟨ha, hb⟩ := confB_iff hc
    rw [if_pos hc]
    by_cases hv : v < 0
    · rw [if_pos hv, if_neg (by omega)]
    · rw [if_neg hv]
      have hw : wrap64 (a - 1) = a - 1 := by unfold wrap64; omega
      rw [hw]
      by_cases h0 : i ≥ 0
      · rw [if_pos h0, Option.bind_some]
        by_cases h1 : i ≤ a - 1
        · rw [if_pos (decide_eq_true h1), if_neg (by omega), if_pos ⟨hc, by omega, by omega, by omega⟩]
          rw [Int.tmod_eq_emod_of_nonneg (by omega : 0 ≤ v)]
          have hm0 := Int.emod_nonneg v (show a ≠ 0 by omega)
          have hm1 := Int.emod_lt_of_pos v (show 0 < a by omega)
          have e1 : wrap64 (i + a) = i + a := by unfold wrap64; omega
          have e2 : wrap64 (i + a - v % a) = i + a - v % a := by unfold wrap64; omega
          rw [e1, e2, Int.tmod_eq_emod_of_nonneg (by omega)]
        · rw [if_neg (by simp [h1]), if_neg (by omega)]
      · rw [if_neg h0, Option.bind_some, if_neg (by simp), if_neg (by omega)]
  · rw [if_neg hc, if_neg (fun h => hc h.1)]
theorem implSeat_at (a b v i : Int) (hi : -9223372036854775808 ≤ i ∧ i ≤ 9223372036854775807) : impl_Seat.f a b v i = some (seatZ a b v i) := by
  unfold impl_Seat.f impl_within.f seatZ
  rw [implConf_at, Option.bind_some]
  by_cases hc : confB a b = true
  · obtain ⟨ha, hb⟩ := confB_iff hc
    rw [if_pos hc]
    by_cases hv : v < 0
    · rw [if_pos hv, if_neg (by omega)]
    · rw [if_neg hv]
      have hw : wrap64 (a - 1) = a - 1 := by unfold wrap64; omega
      rw [hw]
      by_cases h0 : i ≥ 0
      · rw [if_pos h0, Option.bind_some]
        by_cases h1 : i ≤ a - 1
        · rw [if_pos (decide_eq_true h1), if_neg (by omega), if_pos ⟨hc, by omega, by omega, by omega⟩]
          rw [Int.tmod_eq_emod_of_nonneg (by omega : 0 ≤ v)]
          have hm0 := Int.emod_nonneg v (show a ≠ 0 by omega)
          have hm1 := Int.emod_lt_of_pos v (show 0 < a by omega)
          have e1 : wrap64 (i - v % a) = i - v % a := by unfold wrap64; omega
          have e2 : wrap64 (i - v % a + a) = i + a - v % a := by unfold wrap64; omega
          rw [e1, e2, Int.tmod_eq_emod_of_nonneg (by omega)]
        · rw [if_neg (by simp [h1]), if_neg (by omega)]
      · rw [if_neg h0, Option.bind_some, if_neg (by simp), if_neg (by omega)]
  · rw [if_neg hc, if_neg (fun h => hc h.1)]
theorem specSits_at (a b v i : Int) : spec_Sits.f a b v i = some (sitsZ a b v i) := by
  unfold spec_Sits.f spec_l1In.f sitsZ
  rw [specConf_at, Option.bind_some]
  by_cases hc : confB a b = true
  · obtain ⟨ha, hb⟩ := confB_iff hc
    rw [if_pos hc]
    by_cases hv : v < 0
    · rw [if_pos hv, if_neg (by omega)]
    · rw [if_neg hv]
      have hw : wrap64 (a - 1) = a - 1 := by unfold wrap64; omega
      rw [hw]
      by_cases h0 : i ≥ 0
      · rw [if_pos h0, Option.bind_some]
        by_cases h1 : i ≤ a - 1
        · rw [if_pos (decide_eq_true h1), if_neg (by omega), if_pos ⟨hc, by omega, by omega, by omega⟩]
          rw [Int.tmod_eq_emod_of_nonneg (by omega : 0 ≤ v)]
          have hm0 := Int.emod_nonneg v (show a ≠ 0 by omega)
          have hm1 := Int.emod_lt_of_pos v (show 0 < a by omega)
          have e1 : wrap64 (v % a + i) = v % a + i := by unfold wrap64; omega
          rw [e1, Int.tmod_eq_emod_of_nonneg (by omega)]
        · rw [if_neg (by simp [h1]), if_neg (by omega)]
      · rw [if_neg h0, Option.bind_some, if_neg (by simp), if_neg (by omega)]
  · rw [if_neg hc, if_neg (fun h => hc h.1)]
theorem implSits_at (a b v i : Int) : impl_Sits.f a b v i = some (sitsZ a b v i) := specSits_at a b v i
theorem seatZ_bd {a b v i : Int} : -1 ≤ seatZ a b v i ∧ (0 ≤ seatZ a b v i → confB a b = true ∧ 0 ≤ v ∧ 0 ≤ i ∧ i < a ∧ seatZ a b v i < a) := by
  unfold seatZ
  split
  · rename_i h
    obtain ⟨ha, _⟩ := confB_iff h.1
    have h1 := Int.emod_nonneg (i + a - v % a) (show a ≠ 0 by omega)
    have h2 := Int.emod_lt_of_pos (i + a - v % a) (show 0 < a by omega)
    exact ⟨by omega, fun _ => ⟨h.1, h.2.1, h.2.2.1, h.2.2.2, h2⟩⟩
  · exact ⟨by omega, fun h => by omega⟩
theorem sitsZ_bd {a b v i : Int} : -1 ≤ sitsZ a b v i ∧ sitsZ a b v i < 7 ∧ (0 ≤ sitsZ a b v i → sitsZ a b v i < a) := by
  unfold sitsZ
  split
  · rename_i h
    obtain ⟨ha, _⟩ := confB_iff h.1
    have h1 := Int.emod_nonneg (v % a + i) (show a ≠ 0 by omega)
    have h2 := Int.emod_lt_of_pos (v % a + i) (show 0 < a by omega)
    exact ⟨by omega, by omega, fun _ => h2⟩
  · exact ⟨by omega, by omega, fun h => by omega⟩
/-- To whom a replica hands; -1 of the root, and where there is none. -/
def upZ (a b v i : Int) : Int := if seatZ a b v i ≤ 0 then -1 else sitsZ a b v ((seatZ a b v i - 1) / b)
theorem up_div {b s : Int} (hb : 1 ≤ b ∧ b ≤ 6) (hs : 0 < s ∧ s < 7) : wrap64 (Int.tdiv (wrap64 (s - 1)) b) = (s - 1) / b := by
  have e1 : wrap64 (s - 1) = s - 1 := by unfold wrap64; omega
  have h0 : 0 ≤ (s - 1) / b := Int.ediv_nonneg (by omega) (by omega)
  have h1 : (s - 1) / b ≤ s - 1 := Int.ediv_le_self _ (by omega)
  rw [e1, Int.tdiv_eq_ediv_of_nonneg (by omega)]
  unfold wrap64
  omega
theorem specUp_at (a b v i : Int) (hi : -9223372036854775808 ≤ i ∧ i ≤ 9223372036854775807) : spec_Up.f a b v i = some (upZ a b v i) := by
  unfold spec_Up.f upZ
  rw [specSeat_at a b v i hi, Option.bind_some]
  by_cases h : seatZ a b v i ≤ 0
  · rw [if_pos h, if_pos h]
  · obtain ⟨_, h2⟩ := seatZ_bd (a := a) (b := b) (v := v) (i := i)
    obtain ⟨hc, _, _, _, h3⟩ := h2 (by omega)
    obtain ⟨ha, hb⟩ := confB_iff hc
    rw [if_neg h, if_neg h, if_neg (by omega), up_div hb ⟨by omega, by omega⟩, specSits_at, Option.bind_some]
theorem implUp_at (a b v i : Int) (hi : -9223372036854775808 ≤ i ∧ i ≤ 9223372036854775807) : impl_Up.f a b v i = some (upZ a b v i) := by
  unfold impl_Up.f upZ
  rw [implSeat_at a b v i hi, Option.bind_some]
  by_cases h : seatZ a b v i ≤ 0
  · rw [if_pos (by omega), if_pos h]
  · obtain ⟨_, h2⟩ := seatZ_bd (a := a) (b := b) (v := v) (i := i)
    obtain ⟨hc, _, _, _, h3⟩ := h2 (by omega)
    obtain ⟨ha, hb⟩ := confB_iff hc
    rw [if_neg (by omega), if_neg h, if_neg (by omega), up_div hb ⟨by omega, by omega⟩, implSits_at, Option.bind_some]
theorem Pure.FnExactUp : StatFnExactUp := by
  intro a b v i _ _ _ hi
  unfold laws_FnExactUp.f
  simp [laws_toConf.f, specUp_at a b v i (wf64 hi), implUp_at a b v i (wf64 hi)]
end Go.Proofs.Ytlkmjjojjlihaaa.PFnExactUp
