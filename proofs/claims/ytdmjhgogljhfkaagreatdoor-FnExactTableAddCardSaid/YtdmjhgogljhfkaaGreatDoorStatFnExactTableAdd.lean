/- The pure statement of the law FnExactTableAdd: over numbers, strings and lists alone. Each number is one of its kind, each length at most the greatest int. -/
import Derived.Test.YtdmjhgogljhfkaaGreatDoorPFnExactTableAddx16
namespace Go.Proofs.YtdmjhgogljhfkaaGreatDoor.PFnExactTableAdd
open Go.RowKit Go.Proofs.YtdmjhgogljhfkaaGreatDoorW.PrintWords Go.Proofs.YtdmjhgogljhfkaaGreatDoorW.PrintLast
def ok41 (x : S41) : Prop := ((Lit.int .i64 x.f0).wf = true ∧ (x.f1.size ≤ maxLen ∧ (x.f2.length ≤ maxLen ∧ ∀ a ∈ x.f2, (Lit.int .i64 a).wf = true)))
def StatFnExactTableAdd : Prop := ∀ (a0_0 : Int) (a0_1 : Int) (l1 : (List S41)) (a2_0 : Int) (a2_1 : ByteArray) (l2_2 : (List Int)), (Lit.int .i64 a0_0).wf = true → (Lit.int .i64 a0_1).wf = true → (l1.length ≤ maxLen ∧ ∀ a ∈ l1, ok41 a) → (Lit.int .i64 a2_0).wf = true → a2_1.size ≤ maxLen → (l2_2.length ≤ maxLen ∧ ∀ a ∈ l2_2, (Lit.int .i64 a).wf = true) → ∃ k, laws_FnExactTableAdd.f k a0_0 a0_1 l1 a2_0 a2_1 l2_2 = some true
end Go.Proofs.YtdmjhgogljhfkaaGreatDoor.PFnExactTableAdd
