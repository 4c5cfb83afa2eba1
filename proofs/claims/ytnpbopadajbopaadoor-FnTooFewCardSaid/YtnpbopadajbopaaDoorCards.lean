/-
  DERIVED. GIVEN WITH THE SEED: THE CARDS: each row of YtnpbopadajbopaaDoorRows.lean that lists a variable, with what it lists TIED to the program's text (the seventh form; the later family's looks); each row that meets fmt, with fmt's text TOLD by the authors' own Lean function (tested against real Go, not proved from fmt's source: count such statements apart). THE CARD IS WHAT COUNTS. Prove the row's statement (the work); the ties are given (YtnpbopadajbopaaDoorTie.lean); close each card by the builder's one call (the guide's Derived/Test/ToyasCard.lean, 'card_holds'). Laid BY PROGRAM, IN A SANDBOX (cutbox-door.mjs). By AI agents, Wed Nov 11 2026. No macro, syntax, notation, axiom, sorry.
-/
import Derived.Test.YtnpbopadajbopaaDoorRows
import GoSem.ClaimSeven
namespace Go.Proofs.YtnpbopadajbopaaDoor
namespace Rows

/-- THE TIED CARD OF 'laws.FnTooFew'. -/
def fnTooFewCard : Claim7 := { stood := { row := fnTooFewRow, standIns := [], harness := (true, "6644ed4db1c2a239a524262df0000eda5f7b95be8e44270b166fe4073301d150"), looks := false }, kinds := [], alts := [], laidByText := true, laidKinds := [.data, .data, .data, .data, .pinned], laidTests := true, laidLooks := .later }
def FnTooFewCardSaid : Prop := Claim7.holds Tryd.pinned (.plain (OpenSpec.ofChange fnTooFewSpec)) fnTooFewCard

/-- THE TIED CARD OF 'laws.FnExactQcOf'. -/
def fnExactQcOfCard : Claim7 := { stood := { row := fnExactQcOfRow, standIns := [], harness := (true, "6644ed4db1c2a239a524262df0000eda5f7b95be8e44270b166fe4073301d150"), looks := false }, kinds := [], alts := [], laidByText := true, laidKinds := [.data, .data, .data, .data, .pinned], laidTests := true, laidLooks := .later }
def FnExactQcOfCardSaid : Prop := Claim7.holds Tryd.pinned (.plain (OpenSpec.ofChange fnExactQcOfSpec)) fnExactQcOfCard

/-- THE TIED CARD OF 'laws.FnExactSafeOf'. -/
def fnExactSafeOfCard : Claim7 := { stood := { row := fnExactSafeOfRow, standIns := [], harness := (true, "6644ed4db1c2a239a524262df0000eda5f7b95be8e44270b166fe4073301d150"), looks := false }, kinds := [], alts := [], laidByText := true, laidKinds := [.data, .data, .data, .data, .pinned], laidTests := true, laidLooks := .later }
def FnExactSafeOfCardSaid : Prop := Claim7.holds Tryd.pinned (.plain (OpenSpec.ofChange fnExactSafeOfSpec)) fnExactSafeOfCard

/-- THE SECOND FORM's CARD OF 'laws.FnTooFew'. -/
def fnTooFewUptoCard : Claim7 := { stood := { row := fnTooFewUptoRow, standIns := [], harness := (true, "6644ed4db1c2a239a524262df0000eda5f7b95be8e44270b166fe4073301d150"), looks := false }, kinds := [], alts := [], laidByText := true, laidKinds := [.data, .data, .data, .data, .pinned], laidTests := true, laidLooks := .later }
def FnTooFewUptoCardSaid : Prop := Claim7.holds Tryd.pinned (.plain (OpenSpec.upto fnTooFewSpec)) fnTooFewUptoCard

/-- THE SECOND FORM's CARD OF 'laws.FnExactQcOf'. -/
def fnExactQcOfUptoCard : Claim7 := { stood := { row := fnExactQcOfUptoRow, standIns := [], harness := (true, "6644ed4db1c2a239a524262df0000eda5f7b95be8e44270b166fe4073301d150"), looks := false }, kinds := [], alts := [], laidByText := true, laidKinds := [.data, .data, .data, .data, .pinned], laidTests := true, laidLooks := .later }
def FnExactQcOfUptoCardSaid : Prop := Claim7.holds Tryd.pinned (.plain (OpenSpec.upto fnExactQcOfSpec)) fnExactQcOfUptoCard

/-- THE SECOND FORM's CARD OF 'laws.FnExactSafeOf'. -/
def fnExactSafeOfUptoCard : Claim7 := { stood := { row := fnExactSafeOfUptoRow, standIns := [], harness := (true, "6644ed4db1c2a239a524262df0000eda5f7b95be8e44270b166fe4073301d150"), looks := false }, kinds := [], alts := [], laidByText := true, laidKinds := [.data, .data, .data, .data, .pinned], laidTests := true, laidLooks := .later }
def FnExactSafeOfUptoCardSaid : Prop := Claim7.holds Tryd.pinned (.plain (OpenSpec.upto fnExactSafeOfSpec)) fnExactSafeOfUptoCard
end Rows
end Go.Proofs.YtnpbopadajbopaaDoor
