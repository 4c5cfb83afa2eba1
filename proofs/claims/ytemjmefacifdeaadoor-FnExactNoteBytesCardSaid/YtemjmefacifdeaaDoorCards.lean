/-
  DERIVED. GIVEN WITH THE SEED: THE CARDS: each row of YtemjmefacifdeaaDoorRows.lean that lists a variable, with what it lists TIED to the program's text (the seventh form; the later family's looks); each row that meets fmt, with fmt's text TOLD by the authors' own Lean function (tested against real Go, not proved from fmt's source: count such statements apart). THE CARD IS WHAT COUNTS. Prove the row's statement (the work); the ties are given (YtemjmefacifdeaaDoorTie.lean); close each card by the builder's one call (the guide's Derived/Test/ToyasCard.lean, 'card_holds'). Laid BY PROGRAM, IN A SANDBOX (cutbox-door.mjs). By AI agents, Wed Nov 11 2026. No macro, syntax, notation, axiom, sorry.
-/
import Derived.Test.YtemjmefacifdeaaDoorRows
import GoSem.ClaimSeven
namespace Go.Proofs.YtemjmefacifdeaaDoor
namespace Rows

/-- THE TIED CARD OF 'laws.FnExactNoteBytes'. -/
def fnExactNoteBytesCard : Claim7 := { stood := { row := fnExactNoteBytesRow, standIns := [], harness := (true, "7aaa921c1a408c0ad77e4fef0531d0e2a0f0666f5e8d032528b0aed5fab9757d"), looks := false }, kinds := [], alts := [], laidByText := true, laidKinds := [.data, .data, .data, .data, .pinned], laidTests := true, laidLooks := .later }
def FnExactNoteBytesCardSaid : Prop := Claim7.holds Tryd.pinned (.plain (OpenSpec.ofChange fnExactNoteBytesSpec)) fnExactNoteBytesCard

/-- THE SECOND FORM's CARD OF 'laws.FnExactNoteBytes'. -/
def fnExactNoteBytesUptoCard : Claim7 := { stood := { row := fnExactNoteBytesUptoRow, standIns := [], harness := (true, "7aaa921c1a408c0ad77e4fef0531d0e2a0f0666f5e8d032528b0aed5fab9757d"), looks := false }, kinds := [], alts := [], laidByText := true, laidKinds := [.data, .data, .data, .data, .pinned], laidTests := true, laidLooks := .later }
def FnExactNoteBytesUptoCardSaid : Prop := Claim7.holds Tryd.pinned (.plain (OpenSpec.upto fnExactNoteBytesSpec)) fnExactNoteBytesUptoCard
end Rows
end Go.Proofs.YtemjmefacifdeaaDoor
