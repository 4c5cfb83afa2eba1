/- The pure statement of the law FnGapsSettleNothing: over numbers, strings and lists alone. Each number is one of its kind, each length at most the greatest int. -/
import Derived.Test.YtemjmefacifdeaaGreatDoorPFnGapsSettleNothingx18
namespace Go.Proofs.YtemjmefacifdeaaGreatDoor.PFnGapsSettleNothing
open Go.RowKit Go.Proofs.YtemjmefacifdeaaGreatDoorW.PrintWords Go.Proofs.YtemjmefacifdeaaGreatDoorW.PrintLast
def StatFnGapsSettleNothing : Prop := ∀ (l0 : (List Int)), (l0.length ≤ maxLen ∧ ∀ a ∈ l0, (Lit.int .u8 a).wf = true) → ∃ k, laws_FnGapsSettleNothing.f k l0 = some true
end Go.Proofs.YtemjmefacifdeaaGreatDoor.PFnGapsSettleNothing
