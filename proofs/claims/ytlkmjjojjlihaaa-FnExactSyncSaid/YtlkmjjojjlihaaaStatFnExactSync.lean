/- The pure statement of the law FnExactSync: over numbers, strings and lists alone. Each number is one of its kind, each length at most the greatest int. -/
import Derived.Test.YtlkmjjojjlihaaaPFnExactSyncx2
namespace Go.Proofs.Ytlkmjjojjlihaaa.PFnExactSync
open Go.RowKit Go.Proofs.YtlkmjjojjlihaaaW.PrintWords Go.Proofs.YtlkmjjojjlihaaaW.PrintLast
def StatFnExactSync : Prop := ∀ (l0_0 : (List Int)) (a0_1 : Int), (l0_0.length ≤ maxLen ∧ ∀ a ∈ l0_0, (Lit.int .u8 a).wf = true) → (Lit.int .i64 a0_1).wf = true → ∃ k, laws_FnExactSync.f k l0_0 a0_1 = some true
end Go.Proofs.Ytlkmjjojjlihaaa.PFnExactSync
