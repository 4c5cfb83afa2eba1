/-
  DERIVED. GIVEN WITH THE SEED: THE CARDS: each row of YtcmldmlmhpfjhaaDoorRows.lean that lists a variable, with what it lists TIED to the program's text (the seventh form; the later family's looks); each row that meets fmt, with fmt's text TOLD by the authors' own Lean function (tested against real Go, not proved from fmt's source: count such statements apart). THE CARD IS WHAT COUNTS. Prove the row's statement (the work); the ties are given (YtcmldmlmhpfjhaaDoorTie.lean); close each card by the builder's one call (the guide's Derived/Test/ToyasCard.lean, 'card_holds'). Laid BY PROGRAM, IN A SANDBOX (cutbox-door.mjs). By AI agents, Wed Nov 11 2026. No macro, syntax, notation, axiom, sorry.
-/
import Derived.Test.YtcmldmlmhpfjhaaDoorRows
import GoSem.ClaimSeven
namespace Go.Proofs.YtcmldmlmhpfjhaaDoor
namespace Rows

/-- THE TIED CARD OF 'laws.FnExactSettles'. -/
def fnExactSettlesCard : Claim7 := { stood := { row := fnExactSettlesRow, standIns := [], harness := (true, "89153780045a8099daa721154bac6c80fdee4af620d865f0716edeca2214c309"), looks := false }, kinds := [], alts := [], laidByText := true, laidKinds := [.data, .data, .data, .data, .pinned], laidTests := true, laidLooks := .later }
def FnExactSettlesCardSaid : Prop := Claim7.holds Tryd.pinned (.plain (OpenSpec.ofChange fnExactSettlesSpec)) fnExactSettlesCard

/-- THE TIED CARD OF 'laws.FnExactPartOk'. -/
def fnExactPartOkCard : Claim7 := { stood := { row := fnExactPartOkRow, standIns := [], harness := (true, "89153780045a8099daa721154bac6c80fdee4af620d865f0716edeca2214c309"), looks := false }, kinds := [], alts := [], laidByText := true, laidKinds := [.data, .data, .data, .data, .pinned], laidTests := true, laidLooks := .later }
def FnExactPartOkCardSaid : Prop := Claim7.holds Tryd.pinned (.plain (OpenSpec.ofChange fnExactPartOkSpec)) fnExactPartOkCard

/-- THE TIED CARD OF 'laws.FnExactQcOk'. -/
def fnExactQcOkCard : Claim7 := { stood := { row := fnExactQcOkRow, standIns := [], harness := (true, "89153780045a8099daa721154bac6c80fdee4af620d865f0716edeca2214c309"), looks := false }, kinds := [], alts := [], laidByText := true, laidKinds := [.data, .data, .data, .data, .pinned], laidTests := true, laidLooks := .later }
def FnExactQcOkCardSaid : Prop := Claim7.holds Tryd.pinned (.plain (OpenSpec.ofChange fnExactQcOkSpec)) fnExactQcOkCard

/-- THE TIED CARD OF 'laws.FnExactTableOk'. -/
def fnExactTableOkCard : Claim7 := { stood := { row := fnExactTableOkRow, standIns := [], harness := (true, "89153780045a8099daa721154bac6c80fdee4af620d865f0716edeca2214c309"), looks := false }, kinds := [], alts := [], laidByText := true, laidKinds := [.data, .data, .data, .data, .pinned], laidTests := true, laidLooks := .later }
def FnExactTableOkCardSaid : Prop := Claim7.holds Tryd.pinned (.plain (OpenSpec.ofChange fnExactTableOkSpec)) fnExactTableOkCard

/-- THE TIED CARD OF 'laws.FnExactSafeOk'. -/
def fnExactSafeOkCard : Claim7 := { stood := { row := fnExactSafeOkRow, standIns := [], harness := (true, "89153780045a8099daa721154bac6c80fdee4af620d865f0716edeca2214c309"), looks := false }, kinds := [], alts := [], laidByText := true, laidKinds := [.data, .data, .data, .data, .pinned], laidTests := true, laidLooks := .later }
def FnExactSafeOkCardSaid : Prop := Claim7.holds Tryd.pinned (.plain (OpenSpec.ofChange fnExactSafeOkSpec)) fnExactSafeOkCard

/-- THE TIED CARD OF 'laws.FnExactPartQc'. -/
def fnExactPartQcCard : Claim7 := { stood := { row := fnExactPartQcRow, standIns := [], harness := (true, "89153780045a8099daa721154bac6c80fdee4af620d865f0716edeca2214c309"), looks := false }, kinds := [], alts := [], laidByText := true, laidKinds := [.data, .data, .data, .data, .pinned], laidTests := true, laidLooks := .later }
def FnExactPartQcCardSaid : Prop := Claim7.holds Tryd.pinned (.plain (OpenSpec.ofChange fnExactPartQcSpec)) fnExactPartQcCard

/-- THE TIED CARD OF 'laws.FnExactBlockOk'. -/
def fnExactBlockOkCard : Claim7 := { stood := { row := fnExactBlockOkRow, standIns := [], harness := (true, "89153780045a8099daa721154bac6c80fdee4af620d865f0716edeca2214c309"), looks := false }, kinds := [], alts := [], laidByText := true, laidKinds := [.data, .data, .data, .data, .pinned], laidTests := true, laidLooks := .later }
def FnExactBlockOkCardSaid : Prop := Claim7.holds Tryd.pinned (.plain (OpenSpec.ofChange fnExactBlockOkSpec)) fnExactBlockOkCard

/-- THE TIED CARD OF 'laws.FnExactQcBytes'. -/
def fnExactQcBytesCard : Claim7 := { stood := { row := fnExactQcBytesRow, standIns := [], harness := (true, "89153780045a8099daa721154bac6c80fdee4af620d865f0716edeca2214c309"), looks := false }, kinds := [], alts := [], laidByText := true, laidKinds := [.data, .data, .data, .data, .pinned], laidTests := true, laidLooks := .later }
def FnExactQcBytesCardSaid : Prop := Claim7.holds Tryd.pinned (.plain (OpenSpec.ofChange fnExactQcBytesSpec)) fnExactQcBytesCard

/-- THE TIED CARD OF 'laws.FnExactMayVote'. -/
def fnExactMayVoteCard : Claim7 := { stood := { row := fnExactMayVoteRow, standIns := [], harness := (true, "89153780045a8099daa721154bac6c80fdee4af620d865f0716edeca2214c309"), looks := false }, kinds := [], alts := [], laidByText := true, laidKinds := [.data, .data, .data, .data, .pinned], laidTests := true, laidLooks := .later }
def FnExactMayVoteCardSaid : Prop := Claim7.holds Tryd.pinned (.plain (OpenSpec.ofChange fnExactMayVoteSpec)) fnExactMayVoteCard

/-- THE TIED CARD OF 'laws.FnTooFew'. -/
def fnTooFewCard : Claim7 := { stood := { row := fnTooFewRow, standIns := [], harness := (true, "89153780045a8099daa721154bac6c80fdee4af620d865f0716edeca2214c309"), looks := false }, kinds := [], alts := [], laidByText := true, laidKinds := [.data, .data, .data, .data, .pinned], laidTests := true, laidLooks := .later }
def FnTooFewCardSaid : Prop := Claim7.holds Tryd.pinned (.plain (OpenSpec.ofChange fnTooFewSpec)) fnTooFewCard

/-- THE TIED CARD OF 'laws.FnExactSafeBytes'. -/
def fnExactSafeBytesCard : Claim7 := { stood := { row := fnExactSafeBytesRow, standIns := [], harness := (true, "89153780045a8099daa721154bac6c80fdee4af620d865f0716edeca2214c309"), looks := false }, kinds := [], alts := [], laidByText := true, laidKinds := [.data, .data, .data, .data, .pinned], laidTests := true, laidLooks := .later }
def FnExactSafeBytesCardSaid : Prop := Claim7.holds Tryd.pinned (.plain (OpenSpec.ofChange fnExactSafeBytesSpec)) fnExactSafeBytesCard

/-- THE TIED CARD OF 'laws.FnExactQcOf'. -/
def fnExactQcOfCard : Claim7 := { stood := { row := fnExactQcOfRow, standIns := [], harness := (true, "89153780045a8099daa721154bac6c80fdee4af620d865f0716edeca2214c309"), looks := false }, kinds := [], alts := [], laidByText := true, laidKinds := [.data, .data, .data, .data, .pinned], laidTests := true, laidLooks := .later }
def FnExactQcOfCardSaid : Prop := Claim7.holds Tryd.pinned (.plain (OpenSpec.ofChange fnExactQcOfSpec)) fnExactQcOfCard

/-- THE SECOND FORM's CARD OF 'laws.FnExactSettles'. -/
def fnExactSettlesUptoCard : Claim7 := { stood := { row := fnExactSettlesUptoRow, standIns := [], harness := (true, "89153780045a8099daa721154bac6c80fdee4af620d865f0716edeca2214c309"), looks := false }, kinds := [], alts := [], laidByText := true, laidKinds := [.data, .data, .data, .data, .pinned], laidTests := true, laidLooks := .later }
def FnExactSettlesUptoCardSaid : Prop := Claim7.holds Tryd.pinned (.plain (OpenSpec.upto fnExactSettlesSpec)) fnExactSettlesUptoCard

/-- THE SECOND FORM's CARD OF 'laws.FnExactPartOk'. -/
def fnExactPartOkUptoCard : Claim7 := { stood := { row := fnExactPartOkUptoRow, standIns := [], harness := (true, "89153780045a8099daa721154bac6c80fdee4af620d865f0716edeca2214c309"), looks := false }, kinds := [], alts := [], laidByText := true, laidKinds := [.data, .data, .data, .data, .pinned], laidTests := true, laidLooks := .later }
def FnExactPartOkUptoCardSaid : Prop := Claim7.holds Tryd.pinned (.plain (OpenSpec.upto fnExactPartOkSpec)) fnExactPartOkUptoCard

/-- THE SECOND FORM's CARD OF 'laws.FnExactQcOk'. -/
def fnExactQcOkUptoCard : Claim7 := { stood := { row := fnExactQcOkUptoRow, standIns := [], harness := (true, "89153780045a8099daa721154bac6c80fdee4af620d865f0716edeca2214c309"), looks := false }, kinds := [], alts := [], laidByText := true, laidKinds := [.data, .data, .data, .data, .pinned], laidTests := true, laidLooks := .later }
def FnExactQcOkUptoCardSaid : Prop := Claim7.holds Tryd.pinned (.plain (OpenSpec.upto fnExactQcOkSpec)) fnExactQcOkUptoCard

/-- THE SECOND FORM's CARD OF 'laws.FnExactTableOk'. -/
def fnExactTableOkUptoCard : Claim7 := { stood := { row := fnExactTableOkUptoRow, standIns := [], harness := (true, "89153780045a8099daa721154bac6c80fdee4af620d865f0716edeca2214c309"), looks := false }, kinds := [], alts := [], laidByText := true, laidKinds := [.data, .data, .data, .data, .pinned], laidTests := true, laidLooks := .later }
def FnExactTableOkUptoCardSaid : Prop := Claim7.holds Tryd.pinned (.plain (OpenSpec.upto fnExactTableOkSpec)) fnExactTableOkUptoCard

/-- THE SECOND FORM's CARD OF 'laws.FnExactSafeOk'. -/
def fnExactSafeOkUptoCard : Claim7 := { stood := { row := fnExactSafeOkUptoRow, standIns := [], harness := (true, "89153780045a8099daa721154bac6c80fdee4af620d865f0716edeca2214c309"), looks := false }, kinds := [], alts := [], laidByText := true, laidKinds := [.data, .data, .data, .data, .pinned], laidTests := true, laidLooks := .later }
def FnExactSafeOkUptoCardSaid : Prop := Claim7.holds Tryd.pinned (.plain (OpenSpec.upto fnExactSafeOkSpec)) fnExactSafeOkUptoCard

/-- THE SECOND FORM's CARD OF 'laws.FnExactPartQc'. -/
def fnExactPartQcUptoCard : Claim7 := { stood := { row := fnExactPartQcUptoRow, standIns := [], harness := (true, "89153780045a8099daa721154bac6c80fdee4af620d865f0716edeca2214c309"), looks := false }, kinds := [], alts := [], laidByText := true, laidKinds := [.data, .data, .data, .data, .pinned], laidTests := true, laidLooks := .later }
def FnExactPartQcUptoCardSaid : Prop := Claim7.holds Tryd.pinned (.plain (OpenSpec.upto fnExactPartQcSpec)) fnExactPartQcUptoCard

/-- THE SECOND FORM's CARD OF 'laws.FnExactBlockOk'. -/
def fnExactBlockOkUptoCard : Claim7 := { stood := { row := fnExactBlockOkUptoRow, standIns := [], harness := (true, "89153780045a8099daa721154bac6c80fdee4af620d865f0716edeca2214c309"), looks := false }, kinds := [], alts := [], laidByText := true, laidKinds := [.data, .data, .data, .data, .pinned], laidTests := true, laidLooks := .later }
def FnExactBlockOkUptoCardSaid : Prop := Claim7.holds Tryd.pinned (.plain (OpenSpec.upto fnExactBlockOkSpec)) fnExactBlockOkUptoCard

/-- THE SECOND FORM's CARD OF 'laws.FnExactQcBytes'. -/
def fnExactQcBytesUptoCard : Claim7 := { stood := { row := fnExactQcBytesUptoRow, standIns := [], harness := (true, "89153780045a8099daa721154bac6c80fdee4af620d865f0716edeca2214c309"), looks := false }, kinds := [], alts := [], laidByText := true, laidKinds := [.data, .data, .data, .data, .pinned], laidTests := true, laidLooks := .later }
def FnExactQcBytesUptoCardSaid : Prop := Claim7.holds Tryd.pinned (.plain (OpenSpec.upto fnExactQcBytesSpec)) fnExactQcBytesUptoCard

/-- THE SECOND FORM's CARD OF 'laws.FnExactMayVote'. -/
def fnExactMayVoteUptoCard : Claim7 := { stood := { row := fnExactMayVoteUptoRow, standIns := [], harness := (true, "89153780045a8099daa721154bac6c80fdee4af620d865f0716edeca2214c309"), looks := false }, kinds := [], alts := [], laidByText := true, laidKinds := [.data, .data, .data, .data, .pinned], laidTests := true, laidLooks := .later }
def FnExactMayVoteUptoCardSaid : Prop := Claim7.holds Tryd.pinned (.plain (OpenSpec.upto fnExactMayVoteSpec)) fnExactMayVoteUptoCard

/-- THE SECOND FORM's CARD OF 'laws.FnTooFew'. -/
def fnTooFewUptoCard : Claim7 := { stood := { row := fnTooFewUptoRow, standIns := [], harness := (true, "89153780045a8099daa721154bac6c80fdee4af620d865f0716edeca2214c309"), looks := false }, kinds := [], alts := [], laidByText := true, laidKinds := [.data, .data, .data, .data, .pinned], laidTests := true, laidLooks := .later }
def FnTooFewUptoCardSaid : Prop := Claim7.holds Tryd.pinned (.plain (OpenSpec.upto fnTooFewSpec)) fnTooFewUptoCard

/-- THE SECOND FORM's CARD OF 'laws.FnExactSafeBytes'. -/
def fnExactSafeBytesUptoCard : Claim7 := { stood := { row := fnExactSafeBytesUptoRow, standIns := [], harness := (true, "89153780045a8099daa721154bac6c80fdee4af620d865f0716edeca2214c309"), looks := false }, kinds := [], alts := [], laidByText := true, laidKinds := [.data, .data, .data, .data, .pinned], laidTests := true, laidLooks := .later }
def FnExactSafeBytesUptoCardSaid : Prop := Claim7.holds Tryd.pinned (.plain (OpenSpec.upto fnExactSafeBytesSpec)) fnExactSafeBytesUptoCard

/-- THE SECOND FORM's CARD OF 'laws.FnExactQcOf'. -/
def fnExactQcOfUptoCard : Claim7 := { stood := { row := fnExactQcOfUptoRow, standIns := [], harness := (true, "89153780045a8099daa721154bac6c80fdee4af620d865f0716edeca2214c309"), looks := false }, kinds := [], alts := [], laidByText := true, laidKinds := [.data, .data, .data, .data, .pinned], laidTests := true, laidLooks := .later }
def FnExactQcOfUptoCardSaid : Prop := Claim7.holds Tryd.pinned (.plain (OpenSpec.upto fnExactQcOfSpec)) fnExactQcOfUptoCard
end Rows
end Go.Proofs.YtcmldmlmhpfjhaaDoor
