/-
  DERIVED. GIVEN WITH THE SEED: THE CARDS: each row of YtckjlliobebodaaGreatDoorRows.lean that lists a variable, with what it lists TIED to the program's text (the seventh form; the later family's looks); each row that meets fmt, with fmt's text TOLD by the authors' own Lean function (tested against real Go, not proved from fmt's source: count such statements apart). THE CARD IS WHAT COUNTS. Prove the row's statement (the work); the ties are given (YtckjlliobebodaaGreatDoorTie.lean); close each card by the builder's one call (the guide's Derived/Test/ToyasCard.lean, 'card_holds'). Laid BY PROGRAM, IN A SANDBOX (cutbox-door.mjs). By AI agents, Wed Nov 11 2026. No macro, syntax, notation, axiom, sorry.
-/
import Derived.Test.YtckjlliobebodaaGreatDoorRows
import GoSem.ClaimSeven
namespace Go.Proofs.YtckjlliobebodaaGreatDoor
namespace Rows

/-- THE TIED CARD OF 'refinementlaw01.TermReads'. -/
def termReadsCard : Claim7 := { stood := { row := termReadsRow, standIns := [], harness := (true, "77a63cb3bcb44555be5054add54202b1001e37a70df3c702f398227552561aa9"), looks := true }, kinds := [], alts := [], laidByText := true, laidKinds := [.data, .data, .data, .data, .sentinel, .sentinel, .pinned], laidTests := true, laidLooks := .later }
def TermReadsCardSaid : Prop := Claim7.holds Tryz.pinned (.plain (OpenSpec.ofChange termReadsSpec)) termReadsCard

/-- THE TIED CARD OF 'refinementlaw01.TermReadsTypes'. -/
def termReadsTypesCard : Claim7 := { stood := { row := termReadsTypesRow, standIns := [], harness := (true, "77a63cb3bcb44555be5054add54202b1001e37a70df3c702f398227552561aa9"), looks := true }, kinds := [], alts := [], laidByText := true, laidKinds := [.data, .data, .data, .data, .sentinel, .sentinel, .pinned], laidTests := true, laidLooks := .later }
def TermReadsTypesCardSaid : Prop := Claim7.holds Tryz.pinned (.plain (OpenSpec.ofChange termReadsTypesSpec)) termReadsTypesCard

/-- THE TIED CARD OF 'refinementlaw01.TermNames'. -/
def termNamesCard : Claim7 := { stood := { row := termNamesRow, standIns := [], harness := (true, "77a63cb3bcb44555be5054add54202b1001e37a70df3c702f398227552561aa9"), looks := true }, kinds := [], alts := [], laidByText := true, laidKinds := [.data, .data, .data, .data, .sentinel, .sentinel, .pinned], laidTests := true, laidLooks := .later }
def TermNamesCardSaid : Prop := Claim7.holds Tryz.pinned (.plain (OpenSpec.ofChange termNamesSpec)) termNamesCard

/-- THE TIED CARD OF 'refinementlaw01.TermErrorStays'. -/
def termErrorStaysCard : Claim7 := { stood := { row := termErrorStaysRow, standIns := [], harness := (true, "77a63cb3bcb44555be5054add54202b1001e37a70df3c702f398227552561aa9"), looks := true }, kinds := [], alts := [], laidByText := true, laidKinds := [.data, .data, .data, .data, .sentinel, .sentinel, .pinned], laidTests := true, laidLooks := .later }
def TermErrorStaysCardSaid : Prop := Claim7.holds Tryz.pinned (.plain (OpenSpec.ofChange termErrorStaysSpec)) termErrorStaysCard

/-- THE TIED CARD OF 'refinementlaw01.TermAgain'. -/
def termAgainCard : Claim7 := { stood := { row := termAgainRow, standIns := [], harness := (true, "77a63cb3bcb44555be5054add54202b1001e37a70df3c702f398227552561aa9"), looks := true }, kinds := [], alts := [], laidByText := true, laidKinds := [.data, .data, .data, .data, .sentinel, .sentinel, .pinned], laidTests := true, laidLooks := .later }
def TermAgainCardSaid : Prop := Claim7.holds Tryz.pinned (.plain (OpenSpec.ofChange termAgainSpec)) termAgainCard

/-- THE TIED CARD OF 'refinementlaw01.TermShows'. -/
def termShowsCard : Claim7 := { stood := { row := termShowsRow, standIns := [], harness := (true, "77a63cb3bcb44555be5054add54202b1001e37a70df3c702f398227552561aa9"), looks := true }, kinds := [], alts := [], laidByText := true, laidKinds := [.data, .data, .data, .data, .sentinel, .sentinel, .pinned], laidTests := true, laidLooks := .later }
def TermShowsCardSaid : Prop := Claim7.holds Tryz.pinned (.plain (OpenSpec.ofChange termShowsSpec)) termShowsCard

/-- THE TIED CARD OF 'refinementlaw01.TermBack'. -/
def termBackCard : Claim7 := { stood := { row := termBackRow, standIns := [], harness := (true, "77a63cb3bcb44555be5054add54202b1001e37a70df3c702f398227552561aa9"), looks := true }, kinds := [], alts := [], laidByText := true, laidKinds := [.data, .data, .data, .data, .sentinel, .sentinel, .pinned], laidTests := true, laidLooks := .later }
def TermBackCardSaid : Prop := Claim7.holds Tryz.pinned (.plain (OpenSpec.ofChange termBackSpec)) termBackCard

/-- THE TIED CARD OF 'refinementlaw01.TermBlanks'. -/
def termBlanksCard : Claim7 := { stood := { row := termBlanksRow, standIns := [], harness := (true, "77a63cb3bcb44555be5054add54202b1001e37a70df3c702f398227552561aa9"), looks := true }, kinds := [], alts := [], laidByText := true, laidKinds := [.data, .data, .data, .data, .sentinel, .sentinel, .pinned], laidTests := true, laidLooks := .later }
def TermBlanksCardSaid : Prop := Claim7.holds Tryz.pinned (.plain (OpenSpec.ofChange termBlanksSpec)) termBlanksCard

/-- THE SECOND FORM's CARD OF 'refinementlaw01.TermReads'. -/
def termReadsUptoCard : Claim7 := { stood := { row := termReadsUptoRow, standIns := [], harness := (true, "77a63cb3bcb44555be5054add54202b1001e37a70df3c702f398227552561aa9"), looks := true }, kinds := [], alts := [], laidByText := true, laidKinds := [.data, .data, .data, .data, .sentinel, .sentinel, .pinned], laidTests := true, laidLooks := .later }
def TermReadsUptoCardSaid : Prop := Claim7.holds Tryz.pinned (.plain (OpenSpec.upto termReadsSpec)) termReadsUptoCard

/-- THE SECOND FORM's CARD OF 'refinementlaw01.TermReadsTypes'. -/
def termReadsTypesUptoCard : Claim7 := { stood := { row := termReadsTypesUptoRow, standIns := [], harness := (true, "77a63cb3bcb44555be5054add54202b1001e37a70df3c702f398227552561aa9"), looks := true }, kinds := [], alts := [], laidByText := true, laidKinds := [.data, .data, .data, .data, .sentinel, .sentinel, .pinned], laidTests := true, laidLooks := .later }
def TermReadsTypesUptoCardSaid : Prop := Claim7.holds Tryz.pinned (.plain (OpenSpec.upto termReadsTypesSpec)) termReadsTypesUptoCard

/-- THE SECOND FORM's CARD OF 'refinementlaw01.TermNames'. -/
def termNamesUptoCard : Claim7 := { stood := { row := termNamesUptoRow, standIns := [], harness := (true, "77a63cb3bcb44555be5054add54202b1001e37a70df3c702f398227552561aa9"), looks := true }, kinds := [], alts := [], laidByText := true, laidKinds := [.data, .data, .data, .data, .sentinel, .sentinel, .pinned], laidTests := true, laidLooks := .later }
def TermNamesUptoCardSaid : Prop := Claim7.holds Tryz.pinned (.plain (OpenSpec.upto termNamesSpec)) termNamesUptoCard

/-- THE SECOND FORM's CARD OF 'refinementlaw01.TermErrorStays'. -/
def termErrorStaysUptoCard : Claim7 := { stood := { row := termErrorStaysUptoRow, standIns := [], harness := (true, "77a63cb3bcb44555be5054add54202b1001e37a70df3c702f398227552561aa9"), looks := true }, kinds := [], alts := [], laidByText := true, laidKinds := [.data, .data, .data, .data, .sentinel, .sentinel, .pinned], laidTests := true, laidLooks := .later }
def TermErrorStaysUptoCardSaid : Prop := Claim7.holds Tryz.pinned (.plain (OpenSpec.upto termErrorStaysSpec)) termErrorStaysUptoCard

/-- THE SECOND FORM's CARD OF 'refinementlaw01.TermAgain'. -/
def termAgainUptoCard : Claim7 := { stood := { row := termAgainUptoRow, standIns := [], harness := (true, "77a63cb3bcb44555be5054add54202b1001e37a70df3c702f398227552561aa9"), looks := true }, kinds := [], alts := [], laidByText := true, laidKinds := [.data, .data, .data, .data, .sentinel, .sentinel, .pinned], laidTests := true, laidLooks := .later }
def TermAgainUptoCardSaid : Prop := Claim7.holds Tryz.pinned (.plain (OpenSpec.upto termAgainSpec)) termAgainUptoCard

/-- THE SECOND FORM's CARD OF 'refinementlaw01.TermShows'. -/
def termShowsUptoCard : Claim7 := { stood := { row := termShowsUptoRow, standIns := [], harness := (true, "77a63cb3bcb44555be5054add54202b1001e37a70df3c702f398227552561aa9"), looks := true }, kinds := [], alts := [], laidByText := true, laidKinds := [.data, .data, .data, .data, .sentinel, .sentinel, .pinned], laidTests := true, laidLooks := .later }
def TermShowsUptoCardSaid : Prop := Claim7.holds Tryz.pinned (.plain (OpenSpec.upto termShowsSpec)) termShowsUptoCard

/-- THE SECOND FORM's CARD OF 'refinementlaw01.TermBack'. -/
def termBackUptoCard : Claim7 := { stood := { row := termBackUptoRow, standIns := [], harness := (true, "77a63cb3bcb44555be5054add54202b1001e37a70df3c702f398227552561aa9"), looks := true }, kinds := [], alts := [], laidByText := true, laidKinds := [.data, .data, .data, .data, .sentinel, .sentinel, .pinned], laidTests := true, laidLooks := .later }
def TermBackUptoCardSaid : Prop := Claim7.holds Tryz.pinned (.plain (OpenSpec.upto termBackSpec)) termBackUptoCard

/-- THE SECOND FORM's CARD OF 'refinementlaw01.TermBlanks'. -/
def termBlanksUptoCard : Claim7 := { stood := { row := termBlanksUptoRow, standIns := [], harness := (true, "77a63cb3bcb44555be5054add54202b1001e37a70df3c702f398227552561aa9"), looks := true }, kinds := [], alts := [], laidByText := true, laidKinds := [.data, .data, .data, .data, .sentinel, .sentinel, .pinned], laidTests := true, laidLooks := .later }
def TermBlanksUptoCardSaid : Prop := Claim7.holds Tryz.pinned (.plain (OpenSpec.upto termBlanksSpec)) termBlanksUptoCard
end Rows
end Go.Proofs.YtckjlliobebodaaGreatDoor
