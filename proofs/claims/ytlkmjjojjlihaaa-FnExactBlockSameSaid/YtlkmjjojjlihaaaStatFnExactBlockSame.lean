/- The pure statement of the law FnExactBlockSame: over numbers, strings and lists alone. Each number is one of its kind, each length at most the greatest int. -/
import Derived.Test.YtlkmjjojjlihaaaPFnExactBlockSamex3
namespace Go.Proofs.Ytlkmjjojjlihaaa.PFnExactBlockSame
open Go.RowKit Go.Proofs.YtlkmjjojjlihaaaW.PrintWords Go.Proofs.YtlkmjjojjlihaaaW.PrintLast
def StatFnExactBlockSame : Prop := ∀ (a0_0 : ByteArray) (a0_1 : Int) (a0_2 : ByteArray) (l0_3 : (List Int)) (a1_0 : ByteArray) (a1_1 : Int) (a1_2 : ByteArray) (l1_3 : (List Int)), a0_0.size ≤ maxLen → (Lit.int .i64 a0_1).wf = true → a0_2.size ≤ maxLen → (l0_3.length ≤ maxLen ∧ ∀ a ∈ l0_3, (Lit.int .i64 a).wf = true) → a1_0.size ≤ maxLen → (Lit.int .i64 a1_1).wf = true → a1_2.size ≤ maxLen → (l1_3.length ≤ maxLen ∧ ∀ a ∈ l1_3, (Lit.int .i64 a).wf = true) → ∃ k, laws_FnExactBlockSame.f k a0_0 a0_1 a0_2 l0_3 a1_0 a1_1 a1_2 l1_3 = some true
end Go.Proofs.Ytlkmjjojjlihaaa.PFnExactBlockSame
