/- The pure statement of the law FnTooFew: over numbers, strings and lists alone. Each number is one of its kind, each length at most the greatest int. -/
import Derived.Test.YtnpbopadajbopaaDoorPFnTooFewx11
namespace Go.Proofs.YtnpbopadajbopaaDoor.PFnTooFew
open Go.RowKit Go.Proofs.YtnpbopadajbopaaDoorW.PrintWords Go.Proofs.YtnpbopadajbopaaDoorW.PrintLast
def StatFnTooFew : Prop := ∀ (l0 : (List Int)), (l0.length ≤ maxLen ∧ ∀ a ∈ l0, (Lit.int .u8 a).wf = true) → ∃ k, laws_FnTooFew.f k l0 = some true
end Go.Proofs.YtnpbopadajbopaaDoor.PFnTooFew
