/- The pure statement of the law FnExactPartJoin: over numbers, strings and lists alone. Each number is one of its kind, each length at most the greatest int. -/
import Derived.Test.YtemjmefacifdeaaPFnExactPartJoinx5
namespace Go.Proofs.Ytemjmefacifdeaa.PFnExactPartJoin
open Go.RowKit Go.Proofs.YtemjmefacifdeaaW.PrintWords Go.Proofs.YtemjmefacifdeaaW.PrintLast
def StatFnExactPartJoin : Prop := ∀ (a0_0 : Int) (a0_1 : ByteArray) (l0_2 : (List Int)) (a1_0 : Int) (a1_1 : ByteArray) (l1_2 : (List Int)), (Lit.int .i64 a0_0).wf = true → a0_1.size ≤ maxLen → (l0_2.length ≤ maxLen ∧ ∀ a ∈ l0_2, (Lit.int .i64 a).wf = true) → (Lit.int .i64 a1_0).wf = true → a1_1.size ≤ maxLen → (l1_2.length ≤ maxLen ∧ ∀ a ∈ l1_2, (Lit.int .i64 a).wf = true) → ∃ k, laws_FnExactPartJoin.f k a0_0 a0_1 l0_2 a1_0 a1_1 l1_2 = some true
end Go.Proofs.Ytemjmefacifdeaa.PFnExactPartJoin
