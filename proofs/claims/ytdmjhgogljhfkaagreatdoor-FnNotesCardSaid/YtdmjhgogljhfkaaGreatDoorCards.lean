/-
  DERIVED. GIVEN WITH THE SEED: THE CARDS: each row of YtdmjhgogljhfkaaGreatDoorRows.lean that lists a variable, with what it lists TIED to the program's text (the seventh form; the later family's looks); each row that meets fmt, with fmt's text TOLD by the authors' own Lean function (tested against real Go, not proved from fmt's source: count such statements apart). THE CARD IS WHAT COUNTS. Prove the row's statement (the work); the ties are given (YtdmjhgogljhfkaaGreatDoorTie.lean); close each card by the builder's one call (the guide's Derived/Test/ToyasCard.lean, 'card_holds'). Laid BY PROGRAM, IN A SANDBOX (cutbox-door.mjs). By AI agents, Wed Nov 11 2026. No macro, syntax, notation, axiom, sorry.
-/
import Derived.Test.YtdmjhgogljhfkaaGreatDoorRows
import GoSem.ClaimSeven
namespace Go.Proofs.YtdmjhgogljhfkaaGreatDoor
namespace Rows

/-- THE TIED CARD OF 'laws.FnExactLastNote'. -/
def fnExactLastNoteCard : Claim7 := { stood := { row := fnExactLastNoteRow, standIns := [], harness := (true, "c39a31c85f7840ba4fe30e1002af9fc42052ddd24c74d5def4ff1b0ebe60a57c"), looks := false }, kinds := [], alts := [], laidByText := true, laidKinds := [.data, .data, .data, .data, .pinned], laidTests := true, laidLooks := .later }
def FnExactLastNoteCardSaid : Prop := Claim7.holds Tryz.pinned (.plain (OpenSpec.ofChange fnExactLastNoteSpec)) fnExactLastNoteCard

/-- THE TIED CARD OF 'laws.FnExactTableAdd'. -/
def fnExactTableAddCard : Claim7 := { stood := { row := fnExactTableAddRow, standIns := [], harness := (true, "c39a31c85f7840ba4fe30e1002af9fc42052ddd24c74d5def4ff1b0ebe60a57c"), looks := false }, kinds := [], alts := [], laidByText := true, laidKinds := [.data, .data, .data, .data, .pinned], laidTests := true, laidLooks := .later }
def FnExactTableAddCardSaid : Prop := Claim7.holds Tryz.pinned (.plain (OpenSpec.ofChange fnExactTableAddSpec)) fnExactTableAddCard

/-- THE TIED CARD OF 'laws.FnParts'. -/
def fnPartsCard : Claim7 := { stood := { row := fnPartsRow, standIns := [], harness := (true, "c39a31c85f7840ba4fe30e1002af9fc42052ddd24c74d5def4ff1b0ebe60a57c"), looks := false }, kinds := [], alts := [], laidByText := true, laidKinds := [.data, .data, .data, .data, .pinned], laidTests := true, laidLooks := .later }
def FnPartsCardSaid : Prop := Claim7.holds Tryz.pinned (.plain (OpenSpec.ofChange fnPartsSpec)) fnPartsCard

/-- THE TIED CARD OF 'laws.FnNotes'. -/
def fnNotesCard : Claim7 := { stood := { row := fnNotesRow, standIns := [], harness := (true, "c39a31c85f7840ba4fe30e1002af9fc42052ddd24c74d5def4ff1b0ebe60a57c"), looks := false }, kinds := [], alts := [], laidByText := true, laidKinds := [.data, .data, .data, .data, .pinned], laidTests := true, laidLooks := .later }
def FnNotesCardSaid : Prop := Claim7.holds Tryz.pinned (.plain (OpenSpec.ofChange fnNotesSpec)) fnNotesCard

/-- THE SECOND FORM's CARD OF 'laws.FnExactLastNote'. -/
def fnExactLastNoteUptoCard : Claim7 := { stood := { row := fnExactLastNoteUptoRow, standIns := [], harness := (true, "c39a31c85f7840ba4fe30e1002af9fc42052ddd24c74d5def4ff1b0ebe60a57c"), looks := false }, kinds := [], alts := [], laidByText := true, laidKinds := [.data, .data, .data, .data, .pinned], laidTests := true, laidLooks := .later }
def FnExactLastNoteUptoCardSaid : Prop := Claim7.holds Tryz.pinned (.plain (OpenSpec.upto fnExactLastNoteSpec)) fnExactLastNoteUptoCard

/-- THE SECOND FORM's CARD OF 'laws.FnExactTableAdd'. -/
def fnExactTableAddUptoCard : Claim7 := { stood := { row := fnExactTableAddUptoRow, standIns := [], harness := (true, "c39a31c85f7840ba4fe30e1002af9fc42052ddd24c74d5def4ff1b0ebe60a57c"), looks := false }, kinds := [], alts := [], laidByText := true, laidKinds := [.data, .data, .data, .data, .pinned], laidTests := true, laidLooks := .later }
def FnExactTableAddUptoCardSaid : Prop := Claim7.holds Tryz.pinned (.plain (OpenSpec.upto fnExactTableAddSpec)) fnExactTableAddUptoCard

/-- THE SECOND FORM's CARD OF 'laws.FnParts'. -/
def fnPartsUptoCard : Claim7 := { stood := { row := fnPartsUptoRow, standIns := [], harness := (true, "c39a31c85f7840ba4fe30e1002af9fc42052ddd24c74d5def4ff1b0ebe60a57c"), looks := false }, kinds := [], alts := [], laidByText := true, laidKinds := [.data, .data, .data, .data, .pinned], laidTests := true, laidLooks := .later }
def FnPartsUptoCardSaid : Prop := Claim7.holds Tryz.pinned (.plain (OpenSpec.upto fnPartsSpec)) fnPartsUptoCard

/-- THE SECOND FORM's CARD OF 'laws.FnNotes'. -/
def fnNotesUptoCard : Claim7 := { stood := { row := fnNotesUptoRow, standIns := [], harness := (true, "c39a31c85f7840ba4fe30e1002af9fc42052ddd24c74d5def4ff1b0ebe60a57c"), looks := false }, kinds := [], alts := [], laidByText := true, laidKinds := [.data, .data, .data, .data, .pinned], laidTests := true, laidLooks := .later }
def FnNotesUptoCardSaid : Prop := Claim7.holds Tryz.pinned (.plain (OpenSpec.upto fnNotesSpec)) fnNotesUptoCard
end Rows
end Go.Proofs.YtdmjhgogljhfkaaGreatDoor
