/- The law FnExactSits over numbers: both sides of Sits come to one number. No condition. -/
import Derived.Test.YtlkmjjojjlihaaaStatFnExactSits
namespace Go.Proofs.Ytlkmjjojjlihaaa.PFnExactSits
open Go.RowKit Go.Proofs.YtlkmjjojjlihaaaW.PrintWords Go.Proofs.YtlkmjjojjlihaaaW.PrintLast
set_option linter.unusedVariables false
set_option linter.unusedSimpArgs false
theorem wf64 {n : Int} (h : (Lit.int .i64 n).wf = true) : -9223372036854775808 ≤ n ∧ n ≤ 9223372036854775807 := by
  simp [Lit.wf, IntKind.min, IntKind.max, IntKind.bits, IntKind.signed] at h
  omega
def confB (a b : Int) : Bool := decide (4 ≤ a ∧ a ≤ 7 ∧ 1 ≤ b ∧ b ≤ 6)
theorem implConf_at (a b : Int) : impl_ConfOk.f a b = some (confB a b) := by
  unfold impl_ConfOk.f impl_within.f confB
  by_cases h : a ≥ 4 <;> by_cases h2 : a ≤ 7 <;> by_cases h3 : b ≥ 1 <;> simp [h, h2, h3] <;> omega
theorem specConf_at (a b : Int) : spec_ConfOk.f a b = some (confB a b) := implConf_at a b
/-- At which place of the order of a view a replica is; -1 where there is none. -/
def seatZ (a b v i : Int) : Int := if confB a b = true ∧ 0 ≤ v ∧ 0 ≤ i ∧ i < a then (i + a - v % a) % a else -1
/-- Who sits at a place. -/
def sitsZ (a b v s : Int) : Int := if confB a b = true ∧ 0 ≤ v ∧ 0 ≤ s ∧ s < a then (v % a + s) % a else -1
theorem confB_iff {a b : Int} (h : confB a b = true) : (a = 4 ∨ a = 5 ∨ a = 6 ∨ a = 7) ∧ 1 ≤ b ∧ b ≤ 6 := by
  unfold confB at h
  have := of_decide_eq_true h
  omega
theorem specSits_at (a b v i : Int) : spec_Sits.f a b v i = some (sitsZ a b v i) := by
  unfold spec_Sits.f spec_l1In.f sitsZ
  rw [specConf_at, Option.bind_some]
  by_cases hc : confB a b = true
  · obtain ⟨ha, hb⟩ := confB_iff hc
    rw [if_pos hc]
    by_cases hv : v < 0
    · rw [if_pos hv, if_neg (by omega)]
    · rw [if_neg hv]
      have hw : wrap64 (a - 1) = a - 1 := by unfold wrap64; omega
      rw [hw]
      by_cases h0 : i ≥ 0
      · rw [if_pos h0, Option.bind_some]
        by_cases h1 : i ≤ a - 1
        · rw [if_pos (decide_eq_true h1), if_neg (by omega), if_pos ⟨hc, by omega, by omega, by omega⟩]
          rw [Int.tmod_eq_emod_of_nonneg (by omega : 0 ≤ v)]
          have hm0 := Int.emod_nonneg v (show a ≠ 0 by omega)
          have hm1 := Int.emod_lt_of_pos v (show 0 < a by omega)
          have e1 : wrap64 (v % a + i) = v % a + i := by unfold wrap64; omega
          rw [e1, Int.tmod_eq_emod_of_nonneg (by omega)]
        · rw [if_neg (by simp [h1]), if_neg (by omega)]
      · rw [if_neg h0, Option.bind_some, if_neg (by simp), if_neg (by omega)]
  · rw [if_neg hc, if_neg (fun h => hc h.1)]
theorem implSits_at (a b v i : Int) : impl_Sits.f a b v i = some (sitsZ a b v i) := specSits_at a b v i
theorem Pure.FnExactSits : StatFnExactSits := by
  intro a b v i _ _ _ hi
  unfold laws_FnExactSits.f
  simp [laws_toConf.f, specSits_at a b v i, implSits_at a b v i]
end Go.Proofs.Ytlkmjjojjlihaaa.PFnExactSits
