/- The pure statement of the law FnExactSettles: over numbers, strings and lists alone. Each number is one of its kind, each length at most the greatest int. -/
import Derived.Test.YtcmldmlmhpfjhaaDoorPFnExactSettlesx7
namespace Go.Proofs.YtcmldmlmhpfjhaaDoor.PFnExactSettles
open Go.RowKit Go.Proofs.YtcmldmlmhpfjhaaDoorW.PrintWords Go.Proofs.YtcmldmlmhpfjhaaDoorW.PrintLast
def StatFnExactSettles : Prop := ∀ (a0 : ByteArray), a0.size ≤ maxLen → ∃ k, laws_FnExactSettles.f k a0 = some true
end Go.Proofs.YtcmldmlmhpfjhaaDoor.PFnExactSettles
