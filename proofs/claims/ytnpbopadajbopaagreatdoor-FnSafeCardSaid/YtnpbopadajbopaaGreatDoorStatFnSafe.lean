/- The pure statement of the law FnSafe: over numbers, strings and lists alone. Each number is one of its kind, each length at most the greatest int. -/
import Derived.Test.YtnpbopadajbopaaGreatDoorPFnSafex17
namespace Go.Proofs.YtnpbopadajbopaaGreatDoor.PFnSafe
open Go.RowKit Go.Proofs.YtnpbopadajbopaaGreatDoorW.PrintWords Go.Proofs.YtnpbopadajbopaaGreatDoorW.PrintLast
def StatFnSafe : Prop := ∀ (l0 : (List Int)), (l0.length ≤ maxLen ∧ ∀ a ∈ l0, (Lit.int .u8 a).wf = true) → ∃ k, laws_FnSafe.f k l0 = some true
end Go.Proofs.YtnpbopadajbopaaGreatDoor.PFnSafe
