/- The pure statement of the law FnExactSafeBytes: over numbers, strings and lists alone. Each number is one of its kind, each length at most the greatest int. -/
import Derived.Test.YtcmldmlmhpfjhaaDoorPFnExactSafeBytesx14
namespace Go.Proofs.YtcmldmlmhpfjhaaDoor.PFnExactSafeBytes
open Go.RowKit Go.Proofs.YtcmldmlmhpfjhaaDoorW.PrintWords Go.Proofs.YtcmldmlmhpfjhaaDoorW.PrintLast
def StatFnExactSafeBytes : Prop := ∀ (a0_0 : Int) (a0_1 : Int) (a1_0 : Int) (a1_1 : Int) (a1_2 : Int) (a1_3 : ByteArray) (l1_4 : (List Int)) (a1_5 : ByteArray), (Lit.int .i64 a0_0).wf = true → (Lit.int .i64 a0_1).wf = true → (Lit.int .i64 a1_0).wf = true → (Lit.int .i64 a1_1).wf = true → (Lit.int .i64 a1_2).wf = true → a1_3.size ≤ maxLen → (l1_4.length ≤ maxLen ∧ ∀ a ∈ l1_4, (Lit.int .i64 a).wf = true) → a1_5.size ≤ maxLen → ∃ k, laws_FnExactSafeBytes.f k a0_0 a0_1 a1_0 a1_1 a1_2 a1_3 l1_4 a1_5 = some true
end Go.Proofs.YtcmldmlmhpfjhaaDoor.PFnExactSafeBytes
