/- The pure statement of the law FnNotes: over numbers, strings and lists alone. Each number is one of its kind, each length at most the greatest int. -/
import Derived.Test.YtdmjhgogljhfkaaGreatDoorPFnNotesx20
namespace Go.Proofs.YtdmjhgogljhfkaaGreatDoor.PFnNotes
open Go.RowKit Go.Proofs.YtdmjhgogljhfkaaGreatDoorW.PrintWords Go.Proofs.YtdmjhgogljhfkaaGreatDoorW.PrintLast
def StatFnNotes : Prop := ∀ (l0 : (List Int)), (l0.length ≤ maxLen ∧ ∀ a ∈ l0, (Lit.int .u8 a).wf = true) → ∃ k, laws_FnNotes.f k l0 = some true
end Go.Proofs.YtdmjhgogljhfkaaGreatDoor.PFnNotes
