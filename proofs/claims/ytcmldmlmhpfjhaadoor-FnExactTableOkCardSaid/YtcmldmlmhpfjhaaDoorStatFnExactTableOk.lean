/- The pure statement of the law FnExactTableOk: over numbers, strings and lists alone. Each number is one of its kind, each length at most the greatest int. -/
import Derived.Test.YtcmldmlmhpfjhaaDoorPFnExactTableOkx12
namespace Go.Proofs.YtcmldmlmhpfjhaaDoor.PFnExactTableOk
open Go.RowKit Go.Proofs.YtcmldmlmhpfjhaaDoorW.PrintWords Go.Proofs.YtcmldmlmhpfjhaaDoorW.PrintLast
def ok29 (x : S29) : Prop := ((Lit.int .i64 x.f0).wf = true ∧ (x.f1.size ≤ maxLen ∧ (x.f2.length ≤ maxLen ∧ ∀ a ∈ x.f2, (Lit.int .i64 a).wf = true)))
def StatFnExactTableOk : Prop := ∀ (a0_0 : Int) (a0_1 : Int) (l1 : (List S29)), (Lit.int .i64 a0_0).wf = true → (Lit.int .i64 a0_1).wf = true → (l1.length ≤ maxLen ∧ ∀ a ∈ l1, ok29 a) → ∃ k, laws_FnExactTableOk.f k a0_0 a0_1 l1 = some true
end Go.Proofs.YtcmldmlmhpfjhaaDoor.PFnExactTableOk
