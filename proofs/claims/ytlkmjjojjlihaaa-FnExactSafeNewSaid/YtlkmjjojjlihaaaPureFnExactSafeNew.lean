/- The law FnExactSafeNew over numbers and lists: it comes to true by reckoning. No condition. -/
import Derived.Test.YtlkmjjojjlihaaaStatFnExactSafeNew
namespace Go.Proofs.Ytlkmjjojjlihaaa.PFnExactSafeNew
theorem Pure.FnExactSafeNew : StatFnExactSafeNew := ⟨3, by decide +kernel⟩
end Go.Proofs.Ytlkmjjojjlihaaa.PFnExactSafeNew
