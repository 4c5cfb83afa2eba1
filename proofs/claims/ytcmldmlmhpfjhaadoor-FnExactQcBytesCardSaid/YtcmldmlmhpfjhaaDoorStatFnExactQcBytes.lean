/- The pure statement of the law FnExactQcBytes: over numbers, strings and lists alone. Each number is one of its kind, each length at most the greatest int. -/
import Derived.Test.YtcmldmlmhpfjhaaDoorPFnExactQcBytesx13
namespace Go.Proofs.YtcmldmlmhpfjhaaDoor.PFnExactQcBytes
open Go.RowKit Go.Proofs.YtcmldmlmhpfjhaaDoorW.PrintWords Go.Proofs.YtcmldmlmhpfjhaaDoorW.PrintLast
def StatFnExactQcBytes : Prop := ∀ (a0_0 : Int) (a0_1 : Int) (a1_0 : Int) (a1_1 : ByteArray) (l1_2 : (List Int)), (Lit.int .i64 a0_0).wf = true → (Lit.int .i64 a0_1).wf = true → (Lit.int .i64 a1_0).wf = true → a1_1.size ≤ maxLen → (l1_2.length ≤ maxLen ∧ ∀ a ∈ l1_2, (Lit.int .i64 a).wf = true) → ∃ k, laws_FnExactQcBytes.f k a0_0 a0_1 a1_0 a1_1 l1_2 = some true
end Go.Proofs.YtcmldmlmhpfjhaaDoor.PFnExactQcBytes
