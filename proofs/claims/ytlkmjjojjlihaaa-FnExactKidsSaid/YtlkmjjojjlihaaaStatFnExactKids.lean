/- The pure statement of the law FnExactKids: over numbers, strings and lists alone. Each number is one of its kind, each length at most the greatest int. -/
import Derived.Test.YtlkmjjojjlihaaaPFnExactKidsx3
namespace Go.Proofs.Ytlkmjjojjlihaaa.PFnExactKids
open Go.RowKit Go.Proofs.YtlkmjjojjlihaaaW.PrintWords Go.Proofs.YtlkmjjojjlihaaaW.PrintLast
def StatFnExactKids : Prop := ∀ (a0_0 : Int) (a0_1 : Int) (a1 : Int) (a2 : Int), (Lit.int .i64 a0_0).wf = true → (Lit.int .i64 a0_1).wf = true → (Lit.int .i64 a1).wf = true → (Lit.int .i64 a2).wf = true → ∃ k, laws_FnExactKids.f k a0_0 a0_1 a1 a2 = some true
end Go.Proofs.Ytlkmjjojjlihaaa.PFnExactKids
