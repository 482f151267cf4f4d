/-
  DERIVED. GIVEN WITH THE SEED: THE CARDS: each row of YtfhedienjnfdcaaGreatDoorRows.lean that lists a variable, with what it lists TIED to the program's text (the seventh form; the later family's looks); each row that meets fmt, with fmt's text TOLD by the authors' own Lean function (tested against real Go, not proved from fmt's source: count such statements apart). THE CARD IS WHAT COUNTS. Prove the row's statement (the work); the ties are given (YtfhedienjnfdcaaGreatDoorTie.lean); close each card by the builder's one call (the guide's Derived/Test/ToyasCard.lean, 'card_holds'). Laid BY PROGRAM, IN A SANDBOX (cutbox-door.mjs). By AI agents, Wed Nov 11 2026. No macro, syntax, notation, axiom, sorry.
-/
import Derived.Test.YtfhedienjnfdcaaGreatDoorRows
import GoSem.ClaimSeven
namespace Go.Proofs.YtfhedienjnfdcaaGreatDoor
namespace Rows

/-- THE TIED CARD OF 'refinementlaw01.TermJoins'. -/
def termJoinsCard : Claim7 := { stood := { row := termJoinsRow, standIns := [], harness := (true, "6465754b4769d54f3c0f854da2348db5f2606c05c4015cea2dd50798ff53ce32"), looks := true }, kinds := [], alts := [], laidByText := true, laidKinds := [.data, .data, .data, .data, .sentinel, .sentinel, .pinned], laidTests := true, laidLooks := .later }
def TermJoinsCardSaid : Prop := Claim7.holds Tryz.pinned (.plain (OpenSpec.ofChange termJoinsSpec)) termJoinsCard

/-- THE TIED CARD OF 'refinementlaw01.TermPutBack'. -/
def termPutBackCard : Claim7 := { stood := { row := termPutBackRow, standIns := [], harness := (true, "6465754b4769d54f3c0f854da2348db5f2606c05c4015cea2dd50798ff53ce32"), looks := true }, kinds := [], alts := [], laidByText := true, laidKinds := [.data, .data, .data, .data, .sentinel, .sentinel, .pinned], laidTests := true, laidLooks := .later }
def TermPutBackCardSaid : Prop := Claim7.holds Tryz.pinned (.plain (OpenSpec.ofChange termPutBackSpec)) termPutBackCard

/-- THE TIED CARD OF 'refinementlaw01.TermPaths'. -/
def termPathsCard : Claim7 := { stood := { row := termPathsRow, standIns := [], harness := (true, "6465754b4769d54f3c0f854da2348db5f2606c05c4015cea2dd50798ff53ce32"), looks := true }, kinds := [], alts := [], laidByText := true, laidKinds := [.data, .data, .data, .data, .sentinel, .sentinel, .pinned], laidTests := true, laidLooks := .later }
def TermPathsCardSaid : Prop := Claim7.holds Tryz.pinned (.plain (OpenSpec.ofChange termPathsSpec)) termPathsCard

/-- THE TIED CARD OF 'refinementlaw01.TermAlikes'. -/
def termAlikesCard : Claim7 := { stood := { row := termAlikesRow, standIns := [], harness := (true, "6465754b4769d54f3c0f854da2348db5f2606c05c4015cea2dd50798ff53ce32"), looks := true }, kinds := [], alts := [], laidByText := true, laidKinds := [.data, .data, .data, .data, .sentinel, .sentinel, .pinned], laidTests := true, laidLooks := .later }
def TermAlikesCardSaid : Prop := Claim7.holds Tryz.pinned (.plain (OpenSpec.ofChange termAlikesSpec)) termAlikesCard

/-- THE TIED CARD OF 'refinementlaw01.TermOrder'. -/
def termOrderCard : Claim7 := { stood := { row := termOrderRow, standIns := [], harness := (true, "6465754b4769d54f3c0f854da2348db5f2606c05c4015cea2dd50798ff53ce32"), looks := true }, kinds := [], alts := [], laidByText := true, laidKinds := [.data, .data, .data, .data, .sentinel, .sentinel, .pinned], laidTests := true, laidLooks := .later }
def TermOrderCardSaid : Prop := Claim7.holds Tryz.pinned (.plain (OpenSpec.ofChange termOrderSpec)) termOrderCard

/-- THE TIED CARD OF 'refinementlaw01.TermSubsts'. -/
def termSubstsCard : Claim7 := { stood := { row := termSubstsRow, standIns := [], harness := (true, "6465754b4769d54f3c0f854da2348db5f2606c05c4015cea2dd50798ff53ce32"), looks := true }, kinds := [], alts := [], laidByText := true, laidKinds := [.data, .data, .data, .data, .sentinel, .sentinel, .pinned], laidTests := true, laidLooks := .later }
def TermSubstsCardSaid : Prop := Claim7.holds Tryz.pinned (.plain (OpenSpec.ofChange termSubstsSpec)) termSubstsCard

/-- THE TIED CARD OF 'refinementlaw01.TermSubstAlike'. -/
def termSubstAlikeCard : Claim7 := { stood := { row := termSubstAlikeRow, standIns := [], harness := (true, "6465754b4769d54f3c0f854da2348db5f2606c05c4015cea2dd50798ff53ce32"), looks := true }, kinds := [], alts := [], laidByText := true, laidKinds := [.data, .data, .data, .data, .sentinel, .sentinel, .pinned], laidTests := true, laidLooks := .later }
def TermSubstAlikeCardSaid : Prop := Claim7.holds Tryz.pinned (.plain (OpenSpec.ofChange termSubstAlikeSpec)) termSubstAlikeCard

/-- THE TIED CARD OF 'refinementlaw01.TermRenames'. -/
def termRenamesCard : Claim7 := { stood := { row := termRenamesRow, standIns := [], harness := (true, "6465754b4769d54f3c0f854da2348db5f2606c05c4015cea2dd50798ff53ce32"), looks := true }, kinds := [], alts := [], laidByText := true, laidKinds := [.data, .data, .data, .data, .sentinel, .sentinel, .pinned], laidTests := true, laidLooks := .later }
def TermRenamesCardSaid : Prop := Claim7.holds Tryz.pinned (.plain (OpenSpec.ofChange termRenamesSpec)) termRenamesCard

/-- THE TIED CARD OF 'refinementlaw01.TermSubstSwaps'. -/
def termSubstSwapsCard : Claim7 := { stood := { row := termSubstSwapsRow, standIns := [], harness := (true, "6465754b4769d54f3c0f854da2348db5f2606c05c4015cea2dd50798ff53ce32"), looks := true }, kinds := [], alts := [], laidByText := true, laidKinds := [.data, .data, .data, .data, .sentinel, .sentinel, .pinned], laidTests := true, laidLooks := .later }
def TermSubstSwapsCardSaid : Prop := Claim7.holds Tryz.pinned (.plain (OpenSpec.ofChange termSubstSwapsSpec)) termSubstSwapsCard

/-- THE TIED CARD OF 'refinementlaw01.TermOwn'. -/
def termOwnCard : Claim7 := { stood := { row := termOwnRow, standIns := [], harness := (true, "6465754b4769d54f3c0f854da2348db5f2606c05c4015cea2dd50798ff53ce32"), looks := true }, kinds := [], alts := [], laidByText := true, laidKinds := [.data, .data, .data, .data, .sentinel, .sentinel, .pinned], laidTests := true, laidLooks := .later }
def TermOwnCardSaid : Prop := Claim7.holds Tryz.pinned (.plain (OpenSpec.ofChange termOwnSpec)) termOwnCard

/-- THE TIED CARD OF 'refinementlaw01.TermReplaces'. -/
def termReplacesCard : Claim7 := { stood := { row := termReplacesRow, standIns := [], harness := (true, "6465754b4769d54f3c0f854da2348db5f2606c05c4015cea2dd50798ff53ce32"), looks := true }, kinds := [], alts := [], laidByText := true, laidKinds := [.data, .data, .data, .data, .sentinel, .sentinel, .pinned], laidTests := true, laidLooks := .later }
def TermReplacesCardSaid : Prop := Claim7.holds Tryz.pinned (.plain (OpenSpec.ofChange termReplacesSpec)) termReplacesCard

/-- THE TIED CARD OF 'refinementlaw01.TermReplacesAlike'. -/
def termReplacesAlikeCard : Claim7 := { stood := { row := termReplacesAlikeRow, standIns := [], harness := (true, "6465754b4769d54f3c0f854da2348db5f2606c05c4015cea2dd50798ff53ce32"), looks := true }, kinds := [], alts := [], laidByText := true, laidKinds := [.data, .data, .data, .data, .sentinel, .sentinel, .pinned], laidTests := true, laidLooks := .later }
def TermReplacesAlikeCardSaid : Prop := Claim7.holds Tryz.pinned (.plain (OpenSpec.ofChange termReplacesAlikeSpec)) termReplacesAlikeCard

/-- THE SECOND FORM's CARD OF 'refinementlaw01.TermJoins'. -/
def termJoinsUptoCard : Claim7 := { stood := { row := termJoinsUptoRow, standIns := [], harness := (true, "6465754b4769d54f3c0f854da2348db5f2606c05c4015cea2dd50798ff53ce32"), looks := true }, kinds := [], alts := [], laidByText := true, laidKinds := [.data, .data, .data, .data, .sentinel, .sentinel, .pinned], laidTests := true, laidLooks := .later }
def TermJoinsUptoCardSaid : Prop := Claim7.holds Tryz.pinned (.plain (OpenSpec.upto termJoinsSpec)) termJoinsUptoCard

/-- THE SECOND FORM's CARD OF 'refinementlaw01.TermPutBack'. -/
def termPutBackUptoCard : Claim7 := { stood := { row := termPutBackUptoRow, standIns := [], harness := (true, "6465754b4769d54f3c0f854da2348db5f2606c05c4015cea2dd50798ff53ce32"), looks := true }, kinds := [], alts := [], laidByText := true, laidKinds := [.data, .data, .data, .data, .sentinel, .sentinel, .pinned], laidTests := true, laidLooks := .later }
def TermPutBackUptoCardSaid : Prop := Claim7.holds Tryz.pinned (.plain (OpenSpec.upto termPutBackSpec)) termPutBackUptoCard

/-- THE SECOND FORM's CARD OF 'refinementlaw01.TermPaths'. -/
def termPathsUptoCard : Claim7 := { stood := { row := termPathsUptoRow, standIns := [], harness := (true, "6465754b4769d54f3c0f854da2348db5f2606c05c4015cea2dd50798ff53ce32"), looks := true }, kinds := [], alts := [], laidByText := true, laidKinds := [.data, .data, .data, .data, .sentinel, .sentinel, .pinned], laidTests := true, laidLooks := .later }
def TermPathsUptoCardSaid : Prop := Claim7.holds Tryz.pinned (.plain (OpenSpec.upto termPathsSpec)) termPathsUptoCard

/-- THE SECOND FORM's CARD OF 'refinementlaw01.TermAlikes'. -/
def termAlikesUptoCard : Claim7 := { stood := { row := termAlikesUptoRow, standIns := [], harness := (true, "6465754b4769d54f3c0f854da2348db5f2606c05c4015cea2dd50798ff53ce32"), looks := true }, kinds := [], alts := [], laidByText := true, laidKinds := [.data, .data, .data, .data, .sentinel, .sentinel, .pinned], laidTests := true, laidLooks := .later }
def TermAlikesUptoCardSaid : Prop := Claim7.holds Tryz.pinned (.plain (OpenSpec.upto termAlikesSpec)) termAlikesUptoCard

/-- THE SECOND FORM's CARD OF 'refinementlaw01.TermOrder'. -/
def termOrderUptoCard : Claim7 := { stood := { row := termOrderUptoRow, standIns := [], harness := (true, "6465754b4769d54f3c0f854da2348db5f2606c05c4015cea2dd50798ff53ce32"), looks := true }, kinds := [], alts := [], laidByText := true, laidKinds := [.data, .data, .data, .data, .sentinel, .sentinel, .pinned], laidTests := true, laidLooks := .later }
def TermOrderUptoCardSaid : Prop := Claim7.holds Tryz.pinned (.plain (OpenSpec.upto termOrderSpec)) termOrderUptoCard

/-- THE SECOND FORM's CARD OF 'refinementlaw01.TermSubsts'. -/
def termSubstsUptoCard : Claim7 := { stood := { row := termSubstsUptoRow, standIns := [], harness := (true, "6465754b4769d54f3c0f854da2348db5f2606c05c4015cea2dd50798ff53ce32"), looks := true }, kinds := [], alts := [], laidByText := true, laidKinds := [.data, .data, .data, .data, .sentinel, .sentinel, .pinned], laidTests := true, laidLooks := .later }
def TermSubstsUptoCardSaid : Prop := Claim7.holds Tryz.pinned (.plain (OpenSpec.upto termSubstsSpec)) termSubstsUptoCard

/-- THE SECOND FORM's CARD OF 'refinementlaw01.TermSubstAlike'. -/
def termSubstAlikeUptoCard : Claim7 := { stood := { row := termSubstAlikeUptoRow, standIns := [], harness := (true, "6465754b4769d54f3c0f854da2348db5f2606c05c4015cea2dd50798ff53ce32"), looks := true }, kinds := [], alts := [], laidByText := true, laidKinds := [.data, .data, .data, .data, .sentinel, .sentinel, .pinned], laidTests := true, laidLooks := .later }
def TermSubstAlikeUptoCardSaid : Prop := Claim7.holds Tryz.pinned (.plain (OpenSpec.upto termSubstAlikeSpec)) termSubstAlikeUptoCard

/-- THE SECOND FORM's CARD OF 'refinementlaw01.TermRenames'. -/
def termRenamesUptoCard : Claim7 := { stood := { row := termRenamesUptoRow, standIns := [], harness := (true, "6465754b4769d54f3c0f854da2348db5f2606c05c4015cea2dd50798ff53ce32"), looks := true }, kinds := [], alts := [], laidByText := true, laidKinds := [.data, .data, .data, .data, .sentinel, .sentinel, .pinned], laidTests := true, laidLooks := .later }
def TermRenamesUptoCardSaid : Prop := Claim7.holds Tryz.pinned (.plain (OpenSpec.upto termRenamesSpec)) termRenamesUptoCard

/-- THE SECOND FORM's CARD OF 'refinementlaw01.TermSubstSwaps'. -/
def termSubstSwapsUptoCard : Claim7 := { stood := { row := termSubstSwapsUptoRow, standIns := [], harness := (true, "6465754b4769d54f3c0f854da2348db5f2606c05c4015cea2dd50798ff53ce32"), looks := true }, kinds := [], alts := [], laidByText := true, laidKinds := [.data, .data, .data, .data, .sentinel, .sentinel, .pinned], laidTests := true, laidLooks := .later }
def TermSubstSwapsUptoCardSaid : Prop := Claim7.holds Tryz.pinned (.plain (OpenSpec.upto termSubstSwapsSpec)) termSubstSwapsUptoCard

/-- THE SECOND FORM's CARD OF 'refinementlaw01.TermOwn'. -/
def termOwnUptoCard : Claim7 := { stood := { row := termOwnUptoRow, standIns := [], harness := (true, "6465754b4769d54f3c0f854da2348db5f2606c05c4015cea2dd50798ff53ce32"), looks := true }, kinds := [], alts := [], laidByText := true, laidKinds := [.data, .data, .data, .data, .sentinel, .sentinel, .pinned], laidTests := true, laidLooks := .later }
def TermOwnUptoCardSaid : Prop := Claim7.holds Tryz.pinned (.plain (OpenSpec.upto termOwnSpec)) termOwnUptoCard

/-- THE SECOND FORM's CARD OF 'refinementlaw01.TermReplaces'. -/
def termReplacesUptoCard : Claim7 := { stood := { row := termReplacesUptoRow, standIns := [], harness := (true, "6465754b4769d54f3c0f854da2348db5f2606c05c4015cea2dd50798ff53ce32"), looks := true }, kinds := [], alts := [], laidByText := true, laidKinds := [.data, .data, .data, .data, .sentinel, .sentinel, .pinned], laidTests := true, laidLooks := .later }
def TermReplacesUptoCardSaid : Prop := Claim7.holds Tryz.pinned (.plain (OpenSpec.upto termReplacesSpec)) termReplacesUptoCard

/-- THE SECOND FORM's CARD OF 'refinementlaw01.TermReplacesAlike'. -/
def termReplacesAlikeUptoCard : Claim7 := { stood := { row := termReplacesAlikeUptoRow, standIns := [], harness := (true, "6465754b4769d54f3c0f854da2348db5f2606c05c4015cea2dd50798ff53ce32"), looks := true }, kinds := [], alts := [], laidByText := true, laidKinds := [.data, .data, .data, .data, .sentinel, .sentinel, .pinned], laidTests := true, laidLooks := .later }
def TermReplacesAlikeUptoCardSaid : Prop := Claim7.holds Tryz.pinned (.plain (OpenSpec.upto termReplacesAlikeSpec)) termReplacesAlikeUptoCard
end Rows
end Go.Proofs.YtfhedienjnfdcaaGreatDoor
