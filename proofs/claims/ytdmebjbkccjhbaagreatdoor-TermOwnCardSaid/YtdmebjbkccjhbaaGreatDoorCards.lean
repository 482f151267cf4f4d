/-
  DERIVED. GIVEN WITH THE SEED: THE CARDS: each row of YtdmebjbkccjhbaaGreatDoorRows.lean that lists a variable, with what it lists TIED to the program's text (the seventh form; the later family's looks); each row that meets fmt, with fmt's text TOLD by the authors' own Lean function (tested against real Go, not proved from fmt's source: count such statements apart). THE CARD IS WHAT COUNTS. Prove the row's statement (the work); the ties are given (YtdmebjbkccjhbaaGreatDoorTie.lean); close each card by the builder's one call (the guide's Derived/Test/ToyasCard.lean, 'card_holds'). Laid BY PROGRAM, IN A SANDBOX (cutbox-door.mjs). By AI agents, Wed Nov 11 2026. No macro, syntax, notation, axiom, sorry.
-/
import Derived.Test.YtdmebjbkccjhbaaGreatDoorRows
import GoSem.ClaimSeven
namespace Go.Proofs.YtdmebjbkccjhbaaGreatDoor
namespace Rows

/-- THE TIED CARD OF 'refinementlaw01.TermFrees'. -/
def termFreesCard : Claim7 := { stood := { row := termFreesRow, standIns := [], harness := (true, "a4fbd0aaedd5ee1399e631399253a11f186c62921c0ad3ad5a6f4e76d0eba75a"), looks := true }, kinds := [], alts := [], laidByText := true, laidKinds := [.data, .data, .data, .data, .sentinel, .sentinel, .pinned], laidTests := true, laidLooks := .later }
def TermFreesCardSaid : Prop := Claim7.holds Tryz.pinned (.plain (OpenSpec.ofChange termFreesSpec)) termFreesCard

/-- THE TIED CARD OF 'refinementlaw01.TermSubstNames'. -/
def termSubstNamesCard : Claim7 := { stood := { row := termSubstNamesRow, standIns := [], harness := (true, "a4fbd0aaedd5ee1399e631399253a11f186c62921c0ad3ad5a6f4e76d0eba75a"), looks := true }, kinds := [], alts := [], laidByText := true, laidKinds := [.data, .data, .data, .data, .sentinel, .sentinel, .pinned], laidTests := true, laidLooks := .later }
def TermSubstNamesCardSaid : Prop := Claim7.holds Tryz.pinned (.plain (OpenSpec.ofChange termSubstNamesSpec)) termSubstNamesCard

/-- THE TIED CARD OF 'refinementlaw01.TermSubstTwice'. -/
def termSubstTwiceCard : Claim7 := { stood := { row := termSubstTwiceRow, standIns := [], harness := (true, "a4fbd0aaedd5ee1399e631399253a11f186c62921c0ad3ad5a6f4e76d0eba75a"), looks := true }, kinds := [], alts := [], laidByText := true, laidKinds := [.data, .data, .data, .data, .sentinel, .sentinel, .pinned], laidTests := true, laidLooks := .later }
def TermSubstTwiceCardSaid : Prop := Claim7.holds Tryz.pinned (.plain (OpenSpec.ofChange termSubstTwiceSpec)) termSubstTwiceCard

/-- THE TIED CARD OF 'refinementlaw01.TermReplacesNames'. -/
def termReplacesNamesCard : Claim7 := { stood := { row := termReplacesNamesRow, standIns := [], harness := (true, "a4fbd0aaedd5ee1399e631399253a11f186c62921c0ad3ad5a6f4e76d0eba75a"), looks := true }, kinds := [], alts := [], laidByText := true, laidKinds := [.data, .data, .data, .data, .sentinel, .sentinel, .pinned], laidTests := true, laidLooks := .later }
def TermReplacesNamesCardSaid : Prop := Claim7.holds Tryz.pinned (.plain (OpenSpec.ofChange termReplacesNamesSpec)) termReplacesNamesCard

/-- THE TIED CARD OF 'refinementlaw01.TermRenames'. -/
def termRenamesCard : Claim7 := { stood := { row := termRenamesRow, standIns := [], harness := (true, "a4fbd0aaedd5ee1399e631399253a11f186c62921c0ad3ad5a6f4e76d0eba75a"), looks := true }, kinds := [], alts := [], laidByText := true, laidKinds := [.data, .data, .data, .data, .sentinel, .sentinel, .pinned], laidTests := true, laidLooks := .later }
def TermRenamesCardSaid : Prop := Claim7.holds Tryz.pinned (.plain (OpenSpec.ofChange termRenamesSpec)) termRenamesCard

/-- THE TIED CARD OF 'refinementlaw01.TermOwn'. -/
def termOwnCard : Claim7 := { stood := { row := termOwnRow, standIns := [], harness := (true, "a4fbd0aaedd5ee1399e631399253a11f186c62921c0ad3ad5a6f4e76d0eba75a"), looks := true }, kinds := [], alts := [], laidByText := true, laidKinds := [.data, .data, .data, .data, .sentinel, .sentinel, .pinned], laidTests := true, laidLooks := .later }
def TermOwnCardSaid : Prop := Claim7.holds Tryz.pinned (.plain (OpenSpec.ofChange termOwnSpec)) termOwnCard

/-- THE SECOND FORM's CARD OF 'refinementlaw01.TermFrees'. -/
def termFreesUptoCard : Claim7 := { stood := { row := termFreesUptoRow, standIns := [], harness := (true, "a4fbd0aaedd5ee1399e631399253a11f186c62921c0ad3ad5a6f4e76d0eba75a"), looks := true }, kinds := [], alts := [], laidByText := true, laidKinds := [.data, .data, .data, .data, .sentinel, .sentinel, .pinned], laidTests := true, laidLooks := .later }
def TermFreesUptoCardSaid : Prop := Claim7.holds Tryz.pinned (.plain (OpenSpec.upto termFreesSpec)) termFreesUptoCard

/-- THE SECOND FORM's CARD OF 'refinementlaw01.TermSubstNames'. -/
def termSubstNamesUptoCard : Claim7 := { stood := { row := termSubstNamesUptoRow, standIns := [], harness := (true, "a4fbd0aaedd5ee1399e631399253a11f186c62921c0ad3ad5a6f4e76d0eba75a"), looks := true }, kinds := [], alts := [], laidByText := true, laidKinds := [.data, .data, .data, .data, .sentinel, .sentinel, .pinned], laidTests := true, laidLooks := .later }
def TermSubstNamesUptoCardSaid : Prop := Claim7.holds Tryz.pinned (.plain (OpenSpec.upto termSubstNamesSpec)) termSubstNamesUptoCard

/-- THE SECOND FORM's CARD OF 'refinementlaw01.TermSubstTwice'. -/
def termSubstTwiceUptoCard : Claim7 := { stood := { row := termSubstTwiceUptoRow, standIns := [], harness := (true, "a4fbd0aaedd5ee1399e631399253a11f186c62921c0ad3ad5a6f4e76d0eba75a"), looks := true }, kinds := [], alts := [], laidByText := true, laidKinds := [.data, .data, .data, .data, .sentinel, .sentinel, .pinned], laidTests := true, laidLooks := .later }
def TermSubstTwiceUptoCardSaid : Prop := Claim7.holds Tryz.pinned (.plain (OpenSpec.upto termSubstTwiceSpec)) termSubstTwiceUptoCard

/-- THE SECOND FORM's CARD OF 'refinementlaw01.TermReplacesNames'. -/
def termReplacesNamesUptoCard : Claim7 := { stood := { row := termReplacesNamesUptoRow, standIns := [], harness := (true, "a4fbd0aaedd5ee1399e631399253a11f186c62921c0ad3ad5a6f4e76d0eba75a"), looks := true }, kinds := [], alts := [], laidByText := true, laidKinds := [.data, .data, .data, .data, .sentinel, .sentinel, .pinned], laidTests := true, laidLooks := .later }
def TermReplacesNamesUptoCardSaid : Prop := Claim7.holds Tryz.pinned (.plain (OpenSpec.upto termReplacesNamesSpec)) termReplacesNamesUptoCard

/-- THE SECOND FORM's CARD OF 'refinementlaw01.TermRenames'. -/
def termRenamesUptoCard : Claim7 := { stood := { row := termRenamesUptoRow, standIns := [], harness := (true, "a4fbd0aaedd5ee1399e631399253a11f186c62921c0ad3ad5a6f4e76d0eba75a"), looks := true }, kinds := [], alts := [], laidByText := true, laidKinds := [.data, .data, .data, .data, .sentinel, .sentinel, .pinned], laidTests := true, laidLooks := .later }
def TermRenamesUptoCardSaid : Prop := Claim7.holds Tryz.pinned (.plain (OpenSpec.upto termRenamesSpec)) termRenamesUptoCard

/-- THE SECOND FORM's CARD OF 'refinementlaw01.TermOwn'. -/
def termOwnUptoCard : Claim7 := { stood := { row := termOwnUptoRow, standIns := [], harness := (true, "a4fbd0aaedd5ee1399e631399253a11f186c62921c0ad3ad5a6f4e76d0eba75a"), looks := true }, kinds := [], alts := [], laidByText := true, laidKinds := [.data, .data, .data, .data, .sentinel, .sentinel, .pinned], laidTests := true, laidLooks := .later }
def TermOwnUptoCardSaid : Prop := Claim7.holds Tryz.pinned (.plain (OpenSpec.upto termOwnSpec)) termOwnUptoCard
end Rows
end Go.Proofs.YtdmebjbkccjhbaaGreatDoor
