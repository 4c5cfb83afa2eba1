/- The pure statement of the law FnExactUnder: over numbers, strings and lists alone. Each number is one of its kind, each length at most the greatest int. -/
import Derived.Test.YtjbkdffimfbdnaaPFnExactUnderx3
namespace Go.Proofs.Ytjbkdffimfbdnaa.PFnExactUnder
open Go.RowKit Go.Proofs.YtjbkdffimfbdnaaW.PrintWords Go.Proofs.YtjbkdffimfbdnaaW.PrintLast
def StatFnExactUnder : Prop := ∀ (a0_0 : Int) (a0_1 : Int) (a1 : Int) (a2 : Int), (Lit.int .i64 a0_0).wf = true → (Lit.int .i64 a0_1).wf = true → (Lit.int .i64 a1).wf = true → (Lit.int .i64 a2).wf = true → ∃ k, laws_FnExactUnder.f k a0_0 a0_1 a1 a2 = some true
end Go.Proofs.Ytjbkdffimfbdnaa.PFnExactUnder
