/-
  DERIVED. GIVEN WITH THE SEED: THE CARDS: each row of YtnpbopadajbopaaGreatDoorRows.lean that lists a variable, with what it lists TIED to the program's text (the seventh form; the later family's looks); each row that meets fmt, with fmt's text TOLD by the authors' own Lean function (tested against real Go, not proved from fmt's source: count such statements apart). THE CARD IS WHAT COUNTS. Prove the row's statement (the work); the ties are given (YtnpbopadajbopaaGreatDoorTie.lean); close each card by the builder's one call (the guide's Derived/Test/ToyasCard.lean, 'card_holds'). Laid BY PROGRAM, IN A SANDBOX (cutbox-door.mjs). By AI agents, Wed Nov 11 2026. No macro, syntax, notation, axiom, sorry.
-/
import Derived.Test.YtnpbopadajbopaaGreatDoorRows
import GoSem.ClaimSeven
namespace Go.Proofs.YtnpbopadajbopaaGreatDoor
namespace Rows

/-- THE TIED CARD OF 'laws.FnExactLastNote'. -/
def fnExactLastNoteCard : Claim7 := { stood := { row := fnExactLastNoteRow, standIns := [], harness := (true, "ec49d4196823505a02015b209dd00638eb8e1cd45246de61b2b09cf7758e02cc"), looks := false }, kinds := [], alts := [], laidByText := true, laidKinds := [.data, .data, .data, .data, .pinned], laidTests := true, laidLooks := .later }
def FnExactLastNoteCardSaid : Prop := Claim7.holds Tryz.pinned (.plain (OpenSpec.ofChange fnExactLastNoteSpec)) fnExactLastNoteCard

/-- THE TIED CARD OF 'laws.FnExactTableAdd'. -/
def fnExactTableAddCard : Claim7 := { stood := { row := fnExactTableAddRow, standIns := [], harness := (true, "ec49d4196823505a02015b209dd00638eb8e1cd45246de61b2b09cf7758e02cc"), looks := false }, kinds := [], alts := [], laidByText := true, laidKinds := [.data, .data, .data, .data, .pinned], laidTests := true, laidLooks := .later }
def FnExactTableAddCardSaid : Prop := Claim7.holds Tryz.pinned (.plain (OpenSpec.ofChange fnExactTableAddSpec)) fnExactTableAddCard

/-- THE TIED CARD OF 'laws.FnSafe'. -/
def fnSafeCard : Claim7 := { stood := { row := fnSafeRow, standIns := [], harness := (true, "ec49d4196823505a02015b209dd00638eb8e1cd45246de61b2b09cf7758e02cc"), looks := false }, kinds := [], alts := [], laidByText := true, laidKinds := [.data, .data, .data, .data, .pinned], laidTests := true, laidLooks := .later }
def FnSafeCardSaid : Prop := Claim7.holds Tryz.pinned (.plain (OpenSpec.ofChange fnSafeSpec)) fnSafeCard

/-- THE TIED CARD OF 'laws.FnParts'. -/
def fnPartsCard : Claim7 := { stood := { row := fnPartsRow, standIns := [], harness := (true, "ec49d4196823505a02015b209dd00638eb8e1cd45246de61b2b09cf7758e02cc"), looks := false }, kinds := [], alts := [], laidByText := true, laidKinds := [.data, .data, .data, .data, .pinned], laidTests := true, laidLooks := .later }
def FnPartsCardSaid : Prop := Claim7.holds Tryz.pinned (.plain (OpenSpec.ofChange fnPartsSpec)) fnPartsCard

/-- THE TIED CARD OF 'laws.FnBlocks'. -/
def fnBlocksCard : Claim7 := { stood := { row := fnBlocksRow, standIns := [], harness := (true, "ec49d4196823505a02015b209dd00638eb8e1cd45246de61b2b09cf7758e02cc"), looks := false }, kinds := [], alts := [], laidByText := true, laidKinds := [.data, .data, .data, .data, .pinned], laidTests := true, laidLooks := .later }
def FnBlocksCardSaid : Prop := Claim7.holds Tryz.pinned (.plain (OpenSpec.ofChange fnBlocksSpec)) fnBlocksCard

/-- THE TIED CARD OF 'laws.FnNotes'. -/
def fnNotesCard : Claim7 := { stood := { row := fnNotesRow, standIns := [], harness := (true, "ec49d4196823505a02015b209dd00638eb8e1cd45246de61b2b09cf7758e02cc"), looks := false }, kinds := [], alts := [], laidByText := true, laidKinds := [.data, .data, .data, .data, .pinned], laidTests := true, laidLooks := .later }
def FnNotesCardSaid : Prop := Claim7.holds Tryz.pinned (.plain (OpenSpec.ofChange fnNotesSpec)) fnNotesCard

/-- THE SECOND FORM's CARD OF 'laws.FnExactLastNote'. -/
def fnExactLastNoteUptoCard : Claim7 := { stood := { row := fnExactLastNoteUptoRow, standIns := [], harness := (true, "ec49d4196823505a02015b209dd00638eb8e1cd45246de61b2b09cf7758e02cc"), looks := false }, kinds := [], alts := [], laidByText := true, laidKinds := [.data, .data, .data, .data, .pinned], laidTests := true, laidLooks := .later }
def FnExactLastNoteUptoCardSaid : Prop := Claim7.holds Tryz.pinned (.plain (OpenSpec.upto fnExactLastNoteSpec)) fnExactLastNoteUptoCard

/-- THE SECOND FORM's CARD OF 'laws.FnExactTableAdd'. -/
def fnExactTableAddUptoCard : Claim7 := { stood := { row := fnExactTableAddUptoRow, standIns := [], harness := (true, "ec49d4196823505a02015b209dd00638eb8e1cd45246de61b2b09cf7758e02cc"), looks := false }, kinds := [], alts := [], laidByText := true, laidKinds := [.data, .data, .data, .data, .pinned], laidTests := true, laidLooks := .later }
def FnExactTableAddUptoCardSaid : Prop := Claim7.holds Tryz.pinned (.plain (OpenSpec.upto fnExactTableAddSpec)) fnExactTableAddUptoCard

/-- THE SECOND FORM's CARD OF 'laws.FnSafe'. -/
def fnSafeUptoCard : Claim7 := { stood := { row := fnSafeUptoRow, standIns := [], harness := (true, "ec49d4196823505a02015b209dd00638eb8e1cd45246de61b2b09cf7758e02cc"), looks := false }, kinds := [], alts := [], laidByText := true, laidKinds := [.data, .data, .data, .data, .pinned], laidTests := true, laidLooks := .later }
def FnSafeUptoCardSaid : Prop := Claim7.holds Tryz.pinned (.plain (OpenSpec.upto fnSafeSpec)) fnSafeUptoCard

/-- THE SECOND FORM's CARD OF 'laws.FnParts'. -/
def fnPartsUptoCard : Claim7 := { stood := { row := fnPartsUptoRow, standIns := [], harness := (true, "ec49d4196823505a02015b209dd00638eb8e1cd45246de61b2b09cf7758e02cc"), looks := false }, kinds := [], alts := [], laidByText := true, laidKinds := [.data, .data, .data, .data, .pinned], laidTests := true, laidLooks := .later }
def FnPartsUptoCardSaid : Prop := Claim7.holds Tryz.pinned (.plain (OpenSpec.upto fnPartsSpec)) fnPartsUptoCard

/-- THE SECOND FORM's CARD OF 'laws.FnBlocks'. -/
def fnBlocksUptoCard : Claim7 := { stood := { row := fnBlocksUptoRow, standIns := [], harness := (true, "ec49d4196823505a02015b209dd00638eb8e1cd45246de61b2b09cf7758e02cc"), looks := false }, kinds := [], alts := [], laidByText := true, laidKinds := [.data, .data, .data, .data, .pinned], laidTests := true, laidLooks := .later }
def FnBlocksUptoCardSaid : Prop := Claim7.holds Tryz.pinned (.plain (OpenSpec.upto fnBlocksSpec)) fnBlocksUptoCard

/-- THE SECOND FORM's CARD OF 'laws.FnNotes'. -/
def fnNotesUptoCard : Claim7 := { stood := { row := fnNotesUptoRow, standIns := [], harness := (true, "ec49d4196823505a02015b209dd00638eb8e1cd45246de61b2b09cf7758e02cc"), looks := false }, kinds := [], alts := [], laidByText := true, laidKinds := [.data, .data, .data, .data, .pinned], laidTests := true, laidLooks := .later }
def FnNotesUptoCardSaid : Prop := Claim7.holds Tryz.pinned (.plain (OpenSpec.upto fnNotesSpec)) fnNotesUptoCard
end Rows
end Go.Proofs.YtnpbopadajbopaaGreatDoor
