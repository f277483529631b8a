/-
  DERIVED. GIVEN WITH THE SEED: THE CARDS: each row of YtdenmaiimfnbeaaDoorRows.lean that lists a variable, with what it lists TIED to the program's text (the seventh form; the later family's looks); each row that meets fmt, with fmt's text TOLD by the authors' own Lean function (tested against real Go, not proved from fmt's source: count such statements apart). THE CARD IS WHAT COUNTS. Prove the row's statement (the work); the ties are given (YtdenmaiimfnbeaaDoorTie.lean); close each card by the builder's one call (the guide's Derived/Test/ToyasCard.lean, 'card_holds'). Laid BY PROGRAM, IN A SANDBOX (cutbox-door.mjs). By AI agents, Wed Nov 11 2026. No macro, syntax, notation, axiom, sorry.
-/
import Derived.Test.YtdenmaiimfnbeaaDoorRows
import GoSem.ClaimSeven
namespace Go.Proofs.YtdenmaiimfnbeaaDoor
namespace Rows

/-- THE TIED CARD OF 'lockboxlaw25.WireWrites'. -/
def wireWritesCard : Claim7 := { stood := { row := wireWritesRow, standIns := [], harness := (true, "6bd2c6928704e4e715312eeaadb7d794dc83894c5dcad8c559d180c04c0c93b0"), looks := true }, kinds := [], alts := [], laidByText := true, laidKinds := [.handle], laidTests := true, laidLooks := .later }
def WireWritesCardSaid : Prop := Claim7.holds Tryd.pinned (.plain (OpenSpec.ofChange wireWritesSpec)) wireWritesCard

/-- THE TIED CARD OF 'lockboxlaw25.WireKeeps'. -/
def wireKeepsCard : Claim7 := { stood := { row := wireKeepsRow, standIns := [], harness := (true, "6bd2c6928704e4e715312eeaadb7d794dc83894c5dcad8c559d180c04c0c93b0"), looks := true }, kinds := [], alts := [], laidByText := true, laidKinds := [.handle], laidTests := true, laidLooks := .later }
def WireKeepsCardSaid : Prop := Claim7.holds Tryd.pinned (.plain (OpenSpec.ofChange wireKeepsSpec)) wireKeepsCard

/-- THE TIED CARD OF 'lockboxlaw25.WireLengths'. -/
def wireLengthsCard : Claim7 := { stood := { row := wireLengthsRow, standIns := [], harness := (true, "6bd2c6928704e4e715312eeaadb7d794dc83894c5dcad8c559d180c04c0c93b0"), looks := true }, kinds := [], alts := [], laidByText := true, laidKinds := [.handle], laidTests := true, laidLooks := .later }
def WireLengthsCardSaid : Prop := Claim7.holds Tryd.pinned (.plain (OpenSpec.ofChange wireLengthsSpec)) wireLengthsCard

/-- THE TIED CARD OF 'lockboxlaw25.WireBack'. -/
def wireBackCard : Claim7 := { stood := { row := wireBackRow, standIns := [], harness := (true, "6bd2c6928704e4e715312eeaadb7d794dc83894c5dcad8c559d180c04c0c93b0"), looks := true }, kinds := [], alts := [], laidByText := true, laidKinds := [.handle], laidTests := true, laidLooks := .later }
def WireBackCardSaid : Prop := Claim7.holds Tryd.pinned (.plain (OpenSpec.ofChange wireBackSpec)) wireBackCard

/-- THE TIED CARD OF 'lockboxlaw25.WireReads'. -/
def wireReadsCard : Claim7 := { stood := { row := wireReadsRow, standIns := [], harness := (true, "6bd2c6928704e4e715312eeaadb7d794dc83894c5dcad8c559d180c04c0c93b0"), looks := true }, kinds := [], alts := [], laidByText := true, laidKinds := [.handle], laidTests := true, laidLooks := .later }
def WireReadsCardSaid : Prop := Claim7.holds Tryd.pinned (.plain (OpenSpec.ofChange wireReadsSpec)) wireReadsCard

/-- THE SECOND FORM's CARD OF 'lockboxlaw25.WireWrites'. -/
def wireWritesUptoCard : Claim7 := { stood := { row := wireWritesUptoRow, standIns := [], harness := (true, "6bd2c6928704e4e715312eeaadb7d794dc83894c5dcad8c559d180c04c0c93b0"), looks := true }, kinds := [], alts := [], laidByText := true, laidKinds := [.handle], laidTests := true, laidLooks := .later }
def WireWritesUptoCardSaid : Prop := Claim7.holds Tryd.pinned (.plain (OpenSpec.upto wireWritesSpec)) wireWritesUptoCard

/-- THE SECOND FORM's CARD OF 'lockboxlaw25.WireKeeps'. -/
def wireKeepsUptoCard : Claim7 := { stood := { row := wireKeepsUptoRow, standIns := [], harness := (true, "6bd2c6928704e4e715312eeaadb7d794dc83894c5dcad8c559d180c04c0c93b0"), looks := true }, kinds := [], alts := [], laidByText := true, laidKinds := [.handle], laidTests := true, laidLooks := .later }
def WireKeepsUptoCardSaid : Prop := Claim7.holds Tryd.pinned (.plain (OpenSpec.upto wireKeepsSpec)) wireKeepsUptoCard

/-- THE SECOND FORM's CARD OF 'lockboxlaw25.WireLengths'. -/
def wireLengthsUptoCard : Claim7 := { stood := { row := wireLengthsUptoRow, standIns := [], harness := (true, "6bd2c6928704e4e715312eeaadb7d794dc83894c5dcad8c559d180c04c0c93b0"), looks := true }, kinds := [], alts := [], laidByText := true, laidKinds := [.handle], laidTests := true, laidLooks := .later }
def WireLengthsUptoCardSaid : Prop := Claim7.holds Tryd.pinned (.plain (OpenSpec.upto wireLengthsSpec)) wireLengthsUptoCard

/-- THE SECOND FORM's CARD OF 'lockboxlaw25.WireBack'. -/
def wireBackUptoCard : Claim7 := { stood := { row := wireBackUptoRow, standIns := [], harness := (true, "6bd2c6928704e4e715312eeaadb7d794dc83894c5dcad8c559d180c04c0c93b0"), looks := true }, kinds := [], alts := [], laidByText := true, laidKinds := [.handle], laidTests := true, laidLooks := .later }
def WireBackUptoCardSaid : Prop := Claim7.holds Tryd.pinned (.plain (OpenSpec.upto wireBackSpec)) wireBackUptoCard

/-- THE SECOND FORM's CARD OF 'lockboxlaw25.WireReads'. -/
def wireReadsUptoCard : Claim7 := { stood := { row := wireReadsUptoRow, standIns := [], harness := (true, "6bd2c6928704e4e715312eeaadb7d794dc83894c5dcad8c559d180c04c0c93b0"), looks := true }, kinds := [], alts := [], laidByText := true, laidKinds := [.handle], laidTests := true, laidLooks := .later }
def WireReadsUptoCardSaid : Prop := Claim7.holds Tryd.pinned (.plain (OpenSpec.upto wireReadsSpec)) wireReadsUptoCard
end Rows
end Go.Proofs.YtdenmaiimfnbeaaDoor
