/- The pure statement of the law FnExactSafeNew: over numbers, strings and lists alone. Each number is one of its kind, each length at most the greatest int. -/
import Derived.Test.YtlkmjjojjlihaaaPFnExactSafeNewx1
namespace Go.Proofs.Ytlkmjjojjlihaaa.PFnExactSafeNew
open Go.RowKit Go.Proofs.YtlkmjjojjlihaaaW.PrintWords Go.Proofs.YtlkmjjojjlihaaaW.PrintLast
def StatFnExactSafeNew : Prop := ∃ k, laws_FnExactSafeNew.f k  = some true
end Go.Proofs.Ytlkmjjojjlihaaa.PFnExactSafeNew
