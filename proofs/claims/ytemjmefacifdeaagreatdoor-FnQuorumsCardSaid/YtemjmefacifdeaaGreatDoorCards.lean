/-
  DERIVED. GIVEN WITH THE SEED: THE CARDS: each row of YtemjmefacifdeaaGreatDoorRows.lean that lists a variable, with what it lists TIED to the program's text (the seventh form; the later family's looks); each row that meets fmt, with fmt's text TOLD by the authors' own Lean function (tested against real Go, not proved from fmt's source: count such statements apart). THE CARD IS WHAT COUNTS. Prove the row's statement (the work); the ties are given (YtemjmefacifdeaaGreatDoorTie.lean); close each card by the builder's one call (the guide's Derived/Test/ToyasCard.lean, 'card_holds'). Laid BY PROGRAM, IN A SANDBOX (cutbox-door.mjs). By AI agents, Wed Nov 11 2026. No macro, syntax, notation, axiom, sorry.
-/
import Derived.Test.YtemjmefacifdeaaGreatDoorRows
import GoSem.ClaimSeven
namespace Go.Proofs.YtemjmefacifdeaaGreatDoor
namespace Rows

/-- THE TIED CARD OF 'laws.FnExactVote'. -/
def fnExactVoteCard : Claim7 := { stood := { row := fnExactVoteRow, standIns := [], harness := (true, "865d493d087ef5ddad15805d2cd78237209f98f49bd95aab6ef48f0f5c5da5ad"), looks := false }, kinds := [], alts := [], laidByText := true, laidKinds := [.data, .data, .data, .data, .pinned], laidTests := true, laidLooks := .later }
def FnExactVoteCardSaid : Prop := Claim7.holds Tryz.pinned (.plain (OpenSpec.ofChange fnExactVoteSpec)) fnExactVoteCard

/-- THE TIED CARD OF 'laws.FnExactSee'. -/
def fnExactSeeCard : Claim7 := { stood := { row := fnExactSeeRow, standIns := [], harness := (true, "865d493d087ef5ddad15805d2cd78237209f98f49bd95aab6ef48f0f5c5da5ad"), looks := false }, kinds := [], alts := [], laidByText := true, laidKinds := [.data, .data, .data, .data, .pinned], laidTests := true, laidLooks := .later }
def FnExactSeeCardSaid : Prop := Claim7.holds Tryz.pinned (.plain (OpenSpec.ofChange fnExactSeeSpec)) fnExactSeeCard

/-- THE TIED CARD OF 'laws.FnExactBlockNew'. -/
def fnExactBlockNewCard : Claim7 := { stood := { row := fnExactBlockNewRow, standIns := [], harness := (true, "865d493d087ef5ddad15805d2cd78237209f98f49bd95aab6ef48f0f5c5da5ad"), looks := false }, kinds := [], alts := [], laidByText := true, laidKinds := [.data, .data, .data, .data, .pinned], laidTests := true, laidLooks := .later }
def FnExactBlockNewCardSaid : Prop := Claim7.holds Tryz.pinned (.plain (OpenSpec.ofChange fnExactBlockNewSpec)) fnExactBlockNewCard

/-- THE TIED CARD OF 'laws.FnSettlesThree'. -/
def fnSettlesThreeCard : Claim7 := { stood := { row := fnSettlesThreeRow, standIns := [], harness := (true, "865d493d087ef5ddad15805d2cd78237209f98f49bd95aab6ef48f0f5c5da5ad"), looks := false }, kinds := [], alts := [], laidByText := true, laidKinds := [.data, .data, .data, .data, .pinned], laidTests := true, laidLooks := .later }
def FnSettlesThreeCardSaid : Prop := Claim7.holds Tryz.pinned (.plain (OpenSpec.ofChange fnSettlesThreeSpec)) fnSettlesThreeCard

/-- THE TIED CARD OF 'laws.FnGapsSettleNothing'. -/
def fnGapsSettleNothingCard : Claim7 := { stood := { row := fnGapsSettleNothingRow, standIns := [], harness := (true, "865d493d087ef5ddad15805d2cd78237209f98f49bd95aab6ef48f0f5c5da5ad"), looks := false }, kinds := [], alts := [], laidByText := true, laidKinds := [.data, .data, .data, .data, .pinned], laidTests := true, laidLooks := .later }
def FnGapsSettleNothingCardSaid : Prop := Claim7.holds Tryz.pinned (.plain (OpenSpec.ofChange fnGapsSettleNothingSpec)) fnGapsSettleNothingCard

/-- THE TIED CARD OF 'laws.FnLockHolds'. -/
def fnLockHoldsCard : Claim7 := { stood := { row := fnLockHoldsRow, standIns := [], harness := (true, "865d493d087ef5ddad15805d2cd78237209f98f49bd95aab6ef48f0f5c5da5ad"), looks := false }, kinds := [], alts := [], laidByText := true, laidKinds := [.data, .data, .data, .data, .pinned], laidTests := true, laidLooks := .later }
def FnLockHoldsCardSaid : Prop := Claim7.holds Tryz.pinned (.plain (OpenSpec.ofChange fnLockHoldsSpec)) fnLockHoldsCard

/-- THE TIED CARD OF 'laws.FnEitherOrder'. -/
def fnEitherOrderCard : Claim7 := { stood := { row := fnEitherOrderRow, standIns := [], harness := (true, "865d493d087ef5ddad15805d2cd78237209f98f49bd95aab6ef48f0f5c5da5ad"), looks := false }, kinds := [], alts := [], laidByText := true, laidKinds := [.data, .data, .data, .data, .pinned], laidTests := true, laidLooks := .later }
def FnEitherOrderCardSaid : Prop := Claim7.holds Tryz.pinned (.plain (OpenSpec.ofChange fnEitherOrderSpec)) fnEitherOrderCard

/-- THE TIED CARD OF 'laws.FnQuorums'. -/
def fnQuorumsCard : Claim7 := { stood := { row := fnQuorumsRow, standIns := [], harness := (true, "865d493d087ef5ddad15805d2cd78237209f98f49bd95aab6ef48f0f5c5da5ad"), looks := false }, kinds := [], alts := [], laidByText := true, laidKinds := [.data, .data, .data, .data, .pinned], laidTests := true, laidLooks := .later }
def FnQuorumsCardSaid : Prop := Claim7.holds Tryz.pinned (.plain (OpenSpec.ofChange fnQuorumsSpec)) fnQuorumsCard

/-- THE SECOND FORM's CARD OF 'laws.FnExactVote'. -/
def fnExactVoteUptoCard : Claim7 := { stood := { row := fnExactVoteUptoRow, standIns := [], harness := (true, "865d493d087ef5ddad15805d2cd78237209f98f49bd95aab6ef48f0f5c5da5ad"), looks := false }, kinds := [], alts := [], laidByText := true, laidKinds := [.data, .data, .data, .data, .pinned], laidTests := true, laidLooks := .later }
def FnExactVoteUptoCardSaid : Prop := Claim7.holds Tryz.pinned (.plain (OpenSpec.upto fnExactVoteSpec)) fnExactVoteUptoCard

/-- THE SECOND FORM's CARD OF 'laws.FnExactSee'. -/
def fnExactSeeUptoCard : Claim7 := { stood := { row := fnExactSeeUptoRow, standIns := [], harness := (true, "865d493d087ef5ddad15805d2cd78237209f98f49bd95aab6ef48f0f5c5da5ad"), looks := false }, kinds := [], alts := [], laidByText := true, laidKinds := [.data, .data, .data, .data, .pinned], laidTests := true, laidLooks := .later }
def FnExactSeeUptoCardSaid : Prop := Claim7.holds Tryz.pinned (.plain (OpenSpec.upto fnExactSeeSpec)) fnExactSeeUptoCard

/-- THE SECOND FORM's CARD OF 'laws.FnExactBlockNew'. -/
def fnExactBlockNewUptoCard : Claim7 := { stood := { row := fnExactBlockNewUptoRow, standIns := [], harness := (true, "865d493d087ef5ddad15805d2cd78237209f98f49bd95aab6ef48f0f5c5da5ad"), looks := false }, kinds := [], alts := [], laidByText := true, laidKinds := [.data, .data, .data, .data, .pinned], laidTests := true, laidLooks := .later }
def FnExactBlockNewUptoCardSaid : Prop := Claim7.holds Tryz.pinned (.plain (OpenSpec.upto fnExactBlockNewSpec)) fnExactBlockNewUptoCard

/-- THE SECOND FORM's CARD OF 'laws.FnSettlesThree'. -/
def fnSettlesThreeUptoCard : Claim7 := { stood := { row := fnSettlesThreeUptoRow, standIns := [], harness := (true, "865d493d087ef5ddad15805d2cd78237209f98f49bd95aab6ef48f0f5c5da5ad"), looks := false }, kinds := [], alts := [], laidByText := true, laidKinds := [.data, .data, .data, .data, .pinned], laidTests := true, laidLooks := .later }
def FnSettlesThreeUptoCardSaid : Prop := Claim7.holds Tryz.pinned (.plain (OpenSpec.upto fnSettlesThreeSpec)) fnSettlesThreeUptoCard

/-- THE SECOND FORM's CARD OF 'laws.FnGapsSettleNothing'. -/
def fnGapsSettleNothingUptoCard : Claim7 := { stood := { row := fnGapsSettleNothingUptoRow, standIns := [], harness := (true, "865d493d087ef5ddad15805d2cd78237209f98f49bd95aab6ef48f0f5c5da5ad"), looks := false }, kinds := [], alts := [], laidByText := true, laidKinds := [.data, .data, .data, .data, .pinned], laidTests := true, laidLooks := .later }
def FnGapsSettleNothingUptoCardSaid : Prop := Claim7.holds Tryz.pinned (.plain (OpenSpec.upto fnGapsSettleNothingSpec)) fnGapsSettleNothingUptoCard

/-- THE SECOND FORM's CARD OF 'laws.FnLockHolds'. -/
def fnLockHoldsUptoCard : Claim7 := { stood := { row := fnLockHoldsUptoRow, standIns := [], harness := (true, "865d493d087ef5ddad15805d2cd78237209f98f49bd95aab6ef48f0f5c5da5ad"), looks := false }, kinds := [], alts := [], laidByText := true, laidKinds := [.data, .data, .data, .data, .pinned], laidTests := true, laidLooks := .later }
def FnLockHoldsUptoCardSaid : Prop := Claim7.holds Tryz.pinned (.plain (OpenSpec.upto fnLockHoldsSpec)) fnLockHoldsUptoCard

/-- THE SECOND FORM's CARD OF 'laws.FnEitherOrder'. -/
def fnEitherOrderUptoCard : Claim7 := { stood := { row := fnEitherOrderUptoRow, standIns := [], harness := (true, "865d493d087ef5ddad15805d2cd78237209f98f49bd95aab6ef48f0f5c5da5ad"), looks := false }, kinds := [], alts := [], laidByText := true, laidKinds := [.data, .data, .data, .data, .pinned], laidTests := true, laidLooks := .later }
def FnEitherOrderUptoCardSaid : Prop := Claim7.holds Tryz.pinned (.plain (OpenSpec.upto fnEitherOrderSpec)) fnEitherOrderUptoCard

/-- THE SECOND FORM's CARD OF 'laws.FnQuorums'. -/
def fnQuorumsUptoCard : Claim7 := { stood := { row := fnQuorumsUptoRow, standIns := [], harness := (true, "865d493d087ef5ddad15805d2cd78237209f98f49bd95aab6ef48f0f5c5da5ad"), looks := false }, kinds := [], alts := [], laidByText := true, laidKinds := [.data, .data, .data, .data, .pinned], laidTests := true, laidLooks := .later }
def FnQuorumsUptoCardSaid : Prop := Claim7.holds Tryz.pinned (.plain (OpenSpec.upto fnQuorumsSpec)) fnQuorumsUptoCard
end Rows
end Go.Proofs.YtemjmefacifdeaaGreatDoor
