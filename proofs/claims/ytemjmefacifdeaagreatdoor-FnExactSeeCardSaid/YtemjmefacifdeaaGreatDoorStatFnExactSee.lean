/- The pure statement of the law FnExactSee: over numbers, strings and lists alone. Each number is one of its kind, each length at most the greatest int. -/
import Derived.Test.YtemjmefacifdeaaGreatDoorPFnExactSeex17
namespace Go.Proofs.YtemjmefacifdeaaGreatDoor.PFnExactSee
open Go.RowKit Go.Proofs.YtemjmefacifdeaaGreatDoorW.PrintWords Go.Proofs.YtemjmefacifdeaaGreatDoorW.PrintLast
def StatFnExactSee : Prop := ∀ (a0_0 : Int) (a0_1 : Int) (a1_0 : Int) (a1_1 : Int) (a1_2 : Int) (a1_3 : ByteArray) (l1_4 : (List Int)) (a1_5 : ByteArray) (a2_0 : Int) (a2_1 : ByteArray) (l2_2 : (List Int)), (Lit.int .i64 a0_0).wf = true → (Lit.int .i64 a0_1).wf = true → (Lit.int .i64 a1_0).wf = true → (Lit.int .i64 a1_1).wf = true → (Lit.int .i64 a1_2).wf = true → a1_3.size ≤ maxLen → (l1_4.length ≤ maxLen ∧ ∀ a ∈ l1_4, (Lit.int .i64 a).wf = true) → a1_5.size ≤ maxLen → (Lit.int .i64 a2_0).wf = true → a2_1.size ≤ maxLen → (l2_2.length ≤ maxLen ∧ ∀ a ∈ l2_2, (Lit.int .i64 a).wf = true) → ∃ k, laws_FnExactSee.f k a0_0 a0_1 a1_0 a1_1 a1_2 a1_3 l1_4 a1_5 a2_0 a2_1 l2_2 = some true
end Go.Proofs.YtemjmefacifdeaaGreatDoor.PFnExactSee
