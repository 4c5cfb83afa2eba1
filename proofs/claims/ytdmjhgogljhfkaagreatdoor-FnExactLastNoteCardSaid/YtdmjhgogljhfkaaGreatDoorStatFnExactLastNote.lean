/- The pure statement of the law FnExactLastNote: over numbers, strings and lists alone. Each number is one of its kind, each length at most the greatest int. -/
import Derived.Test.YtdmjhgogljhfkaaGreatDoorPFnExactLastNotex13
namespace Go.Proofs.YtdmjhgogljhfkaaGreatDoor.PFnExactLastNote
open Go.RowKit Go.Proofs.YtdmjhgogljhfkaaGreatDoorW.PrintWords Go.Proofs.YtdmjhgogljhfkaaGreatDoorW.PrintLast
def StatFnExactLastNote : Prop := ∀ (a0_0 : Int) (a0_1 : Int) (l1 : (List Int)), (Lit.int .i64 a0_0).wf = true → (Lit.int .i64 a0_1).wf = true → (l1.length ≤ maxLen ∧ ∀ a ∈ l1, (Lit.int .u8 a).wf = true) → ∃ k, laws_FnExactLastNote.f k a0_0 a0_1 l1 = some true
end Go.Proofs.YtdmjhgogljhfkaaGreatDoor.PFnExactLastNote
