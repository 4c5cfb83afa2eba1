/- The pure statement of the law FnDropsBelow: over numbers, strings and lists alone. Each number is one of its kind, each length at most the greatest int. -/
import Derived.Test.YtemjmefacifdeaaPFnDropsBelowx13
namespace Go.Proofs.Ytemjmefacifdeaa.PFnDropsBelow
open Go.RowKit Go.Proofs.YtemjmefacifdeaaW.PrintWords Go.Proofs.YtemjmefacifdeaaW.PrintLast
def StatFnDropsBelow : Prop := ∀ (l0 : (List Int)), (l0.length ≤ maxLen ∧ ∀ a ∈ l0, (Lit.int .u8 a).wf = true) → ∃ k, laws_FnDropsBelow.f k l0 = some true
end Go.Proofs.Ytemjmefacifdeaa.PFnDropsBelow
