/-
  DERIVED. GIVEN WITH THE SEED: THE CARDS: each row of YtagpeafaiofkjaaGreatDoorRows.lean that lists a variable, with what it lists TIED to the program's text (the seventh form; the later family's looks); each row that meets fmt, with fmt's text TOLD by the authors' own Lean function (tested against real Go, not proved from fmt's source: count such statements apart). THE CARD IS WHAT COUNTS. Prove the row's statement (the work); the ties are given (YtagpeafaiofkjaaGreatDoorTie.lean); close each card by the builder's one call (the guide's Derived/Test/ToyasCard.lean, 'card_holds'). Laid BY PROGRAM, IN A SANDBOX (cutbox-door.mjs). By AI agents, Wed Nov 11 2026. No macro, syntax, notation, axiom, sorry.
-/
import Derived.Test.YtagpeafaiofkjaaGreatDoorRows
import GoSem.ClaimSeven
namespace Go.Proofs.YtagpeafaiofkjaaGreatDoor
namespace Rows

/-- THE TIED CARD OF 'laws.FnQuorums'. -/
def fnQuorumsCard : Claim7 := { stood := { row := fnQuorumsRow, standIns := [], harness := (true, "4510d40e9a26ac9ee0dd7ffd06a5636d701d646f423d61dc81f916c93a278a8c"), looks := false }, kinds := [], alts := [], laidByText := true, laidKinds := [.data, .data, .data, .data, .pinned], laidTests := true, laidLooks := .later }
def FnQuorumsCardSaid : Prop := Claim7.holds Tryz.pinned (.plain (OpenSpec.ofChange fnQuorumsSpec)) fnQuorumsCard

/-- THE SECOND FORM's CARD OF 'laws.FnQuorums'. -/
def fnQuorumsUptoCard : Claim7 := { stood := { row := fnQuorumsUptoRow, standIns := [], harness := (true, "4510d40e9a26ac9ee0dd7ffd06a5636d701d646f423d61dc81f916c93a278a8c"), looks := false }, kinds := [], alts := [], laidByText := true, laidKinds := [.data, .data, .data, .data, .pinned], laidTests := true, laidLooks := .later }
def FnQuorumsUptoCardSaid : Prop := Claim7.holds Tryz.pinned (.plain (OpenSpec.upto fnQuorumsSpec)) fnQuorumsUptoCard
end Rows
end Go.Proofs.YtagpeafaiofkjaaGreatDoor
