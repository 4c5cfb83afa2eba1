/- The pure statement of the law FnEitherOrder: over numbers, strings and lists alone. Each number is one of its kind, each length at most the greatest int. -/
import Derived.Test.YtemjmefacifdeaaGreatDoorPFnEitherOrderx15
namespace Go.Proofs.YtemjmefacifdeaaGreatDoor.PFnEitherOrder
open Go.RowKit Go.Proofs.YtemjmefacifdeaaGreatDoorW.PrintWords Go.Proofs.YtemjmefacifdeaaGreatDoorW.PrintLast
def StatFnEitherOrder : Prop := ∀ (l0 : (List Int)), (l0.length ≤ maxLen ∧ ∀ a ∈ l0, (Lit.int .u8 a).wf = true) → ∃ k, laws_FnEitherOrder.f k l0 = some true
end Go.Proofs.YtemjmefacifdeaaGreatDoor.PFnEitherOrder
