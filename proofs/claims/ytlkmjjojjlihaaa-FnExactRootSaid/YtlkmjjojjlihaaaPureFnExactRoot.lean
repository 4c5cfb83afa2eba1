/- The law FnExactRoot over numbers: both sides of Root are one function. No condition. -/
import Derived.Test.YtlkmjjojjlihaaaStatFnExactRoot
namespace Go.Proofs.Ytlkmjjojjlihaaa.PFnExactRoot
theorem conf_same (a b : Int) : spec_ConfOk.f a b = impl_ConfOk.f a b := rfl
theorem root_same (a b v : Int) : spec_Root.f a b v = impl_Root.f a b v := rfl
theorem conf_some (a b : Int) : ∃ r, impl_ConfOk.f a b = some r ∧ (r = true → 4 ≤ a) := by
  unfold impl_ConfOk.f impl_within.f
  by_cases h : a ≥ 4 <;> by_cases h2 : a ≤ 7 <;> by_cases h3 : b ≥ 1 <;> simp [h, h2, h3] <;> omega
theorem root_some (a b v : Int) : ∃ r, impl_Root.f a b v = some r := by
  obtain ⟨r, hr, h4⟩ := conf_some a b
  unfold impl_Root.f
  rw [hr]
  cases r with
  | false => exact ⟨_, by simp; rfl⟩
  | true =>
    have := h4 rfl
    by_cases h : v < 0
    · exact ⟨_, by simp [h]; rfl⟩
    · have h0 : ¬ a = 0 := by omega
      exact ⟨_, by simp [h, h0]; rfl⟩
theorem Pure.FnExactRoot : StatFnExactRoot := by
  intro a b v _ _ _
  obtain ⟨r, hr⟩ := root_some a b v
  unfold laws_FnExactRoot.f
  simp [laws_toConf.f, root_same, hr]
end Go.Proofs.Ytlkmjjojjlihaaa.PFnExactRoot
