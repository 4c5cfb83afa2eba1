/- The pure statement of the law FnExactBlockOk: over numbers, strings and lists alone. Each number is one of its kind, each length at most the greatest int. -/
import Derived.Test.YtcmldmlmhpfjhaaDoorPFnExactBlockOkx14
namespace Go.Proofs.YtcmldmlmhpfjhaaDoor.PFnExactBlockOk
open Go.RowKit Go.Proofs.YtcmldmlmhpfjhaaDoorW.PrintWords Go.Proofs.YtcmldmlmhpfjhaaDoorW.PrintLast
def StatFnExactBlockOk : Prop := ∀ (a0_0 : Int) (a0_1 : Int) (a1_0 : ByteArray) (a1_1 : Int) (a1_2 : ByteArray) (l1_3 : (List Int)), (Lit.int .i64 a0_0).wf = true → (Lit.int .i64 a0_1).wf = true → a1_0.size ≤ maxLen → (Lit.int .i64 a1_1).wf = true → a1_2.size ≤ maxLen → (l1_3.length ≤ maxLen ∧ ∀ a ∈ l1_3, (Lit.int .i64 a).wf = true) → ∃ k, laws_FnExactBlockOk.f k a0_0 a0_1 a1_0 a1_1 a1_2 l1_3 = some true
end Go.Proofs.YtcmldmlmhpfjhaaDoor.PFnExactBlockOk
