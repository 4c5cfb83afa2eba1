/- The pure statement of the law FnExactTableDrop: over numbers, strings and lists alone. Each number is one of its kind, each length at most the greatest int. -/
import Derived.Test.YtnpbopadajbopaaPFnExactTableDropx4
namespace Go.Proofs.Ytnpbopadajbopaa.PFnExactTableDrop
open Go.RowKit Go.Proofs.YtnpbopadajbopaaW.PrintWords Go.Proofs.YtnpbopadajbopaaW.PrintLast
def ok38 (x : S38) : Prop := ((Lit.int .i64 x.f0).wf = true ∧ (x.f1.size ≤ maxLen ∧ (x.f2.length ≤ maxLen ∧ ∀ a ∈ x.f2, (Lit.int .i64 a).wf = true)))
def StatFnExactTableDrop : Prop := ∀ (l0 : (List S38)) (a1 : Int), (l0.length ≤ maxLen ∧ ∀ a ∈ l0, ok38 a) → (Lit.int .i64 a1).wf = true → ∃ k, laws_FnExactTableDrop.f k l0 a1 = some true
end Go.Proofs.Ytnpbopadajbopaa.PFnExactTableDrop
