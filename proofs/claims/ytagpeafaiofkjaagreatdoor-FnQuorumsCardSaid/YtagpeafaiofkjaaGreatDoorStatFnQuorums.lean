/- The pure statement of the law FnQuorums: over numbers, strings and lists alone. Each number is one of its kind, each length at most the greatest int. -/
import Derived.Test.YtagpeafaiofkjaaGreatDoorPFnQuorumsx14
namespace Go.Proofs.YtagpeafaiofkjaaGreatDoor.PFnQuorums
open Go.RowKit Go.Proofs.YtagpeafaiofkjaaGreatDoorW.PrintWords Go.Proofs.YtagpeafaiofkjaaGreatDoorW.PrintLast
def StatFnQuorums : Prop := ∀ (l0 : (List Int)), (l0.length ≤ maxLen ∧ ∀ a ∈ l0, (Lit.int .u8 a).wf = true) → ∃ k, laws_FnQuorums.f k l0 = some true
end Go.Proofs.YtagpeafaiofkjaaGreatDoor.PFnQuorums
