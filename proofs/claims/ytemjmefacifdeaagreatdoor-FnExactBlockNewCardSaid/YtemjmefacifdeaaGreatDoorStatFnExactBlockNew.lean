/- The pure statement of the law FnExactBlockNew: over numbers, strings and lists alone. Each number is one of its kind, each length at most the greatest int. -/
import Derived.Test.YtemjmefacifdeaaGreatDoorPFnExactBlockNewx19
namespace Go.Proofs.YtemjmefacifdeaaGreatDoor.PFnExactBlockNew
open Go.RowKit Go.Proofs.YtemjmefacifdeaaGreatDoorW.PrintWords Go.Proofs.YtemjmefacifdeaaGreatDoorW.PrintLast
def ok101 (x : S101) : Prop := ((Lit.int .i64 x.f0).wf = true ∧ ((Lit.int .i64 x.f1).wf = true ∧ ((Lit.int .i64 x.f2).wf = true ∧ (Lit.int .i64 x.f3).wf = true)))
def StatFnExactBlockNew : Prop := ∀ (a0_0 : Int) (a0_1 : Int) (a1_0 : Int) (a1_1 : ByteArray) (l1_2 : (List Int)) (a2 : Int) (l3 : (List S101)), (Lit.int .i64 a0_0).wf = true → (Lit.int .i64 a0_1).wf = true → (Lit.int .i64 a1_0).wf = true → a1_1.size ≤ maxLen → (l1_2.length ≤ maxLen ∧ ∀ a ∈ l1_2, (Lit.int .i64 a).wf = true) → (Lit.int .i64 a2).wf = true → (l3.length ≤ maxLen ∧ ∀ a ∈ l3, ok101 a) → ∃ k, laws_FnExactBlockNew.f k a0_0 a0_1 a1_0 a1_1 l1_2 a2 l3 = some true
end Go.Proofs.YtemjmefacifdeaaGreatDoor.PFnExactBlockNew
