/-
  DERIVED. GIVEN WITH THE SEED: THE CARDS: each row of YtbadogbkbhopcaaDoorRows.lean that lists a variable, with what it lists TIED to the program's text (the seventh form; the later family's looks); each row that meets fmt, with fmt's text TOLD by the authors' own Lean function (tested against real Go, not proved from fmt's source: count such statements apart). THE CARD IS WHAT COUNTS. Prove the row's statement (the work); the ties are given (YtbadogbkbhopcaaDoorTie.lean); close each card by the builder's one call (the guide's Derived/Test/ToyasCard.lean, 'card_holds'). Laid BY PROGRAM, IN A SANDBOX (cutbox-door.mjs). By AI agents, Wed Nov 11 2026. No macro, syntax, notation, axiom, sorry.
-/
import Derived.Test.YtbadogbkbhopcaaDoorRows
import GoSem.ClaimSeven
namespace Go.Proofs.YtbadogbkbhopcaaDoor
namespace Rows

/-- THE TIED CARD OF 'lockboxlaw08.DigitChecks'. -/
def digitChecksCard : Claim7 := { stood := { row := digitChecksRow, standIns := [], harness := (true, "f1b1df371b8f60edcf5bacb12d5c225d9a23da2215c3e6c49fd38d23caf32e5c"), looks := true }, kinds := [], alts := [], laidByText := true, laidKinds := [.handle], laidTests := true, laidLooks := .later }
def DigitChecksCardSaid : Prop := Claim7.holds Tryd.pinned (.plain (OpenSpec.ofChange digitChecksSpec)) digitChecksCard

/-- THE TIED CARD OF 'lockboxlaw08.DigitTables'. -/
def digitTablesCard : Claim7 := { stood := { row := digitTablesRow, standIns := [], harness := (true, "f1b1df371b8f60edcf5bacb12d5c225d9a23da2215c3e6c49fd38d23caf32e5c"), looks := true }, kinds := [], alts := [], laidByText := true, laidKinds := [.handle], laidTests := true, laidLooks := .later }
def DigitTablesCardSaid : Prop := Claim7.holds Tryd.pinned (.plain (OpenSpec.ofChange digitTablesSpec)) digitTablesCard

/-- THE TIED CARD OF 'lockboxlaw08.DigitHexes'. -/
def digitHexesCard : Claim7 := { stood := { row := digitHexesRow, standIns := [], harness := (true, "f1b1df371b8f60edcf5bacb12d5c225d9a23da2215c3e6c49fd38d23caf32e5c"), looks := true }, kinds := [], alts := [], laidByText := true, laidKinds := [.handle], laidTests := true, laidLooks := .later }
def DigitHexesCardSaid : Prop := Claim7.holds Tryd.pinned (.plain (OpenSpec.ofChange digitHexesSpec)) digitHexesCard

/-- THE TIED CARD OF 'lockboxlaw08.DigitMods'. -/
def digitModsCard : Claim7 := { stood := { row := digitModsRow, standIns := [], harness := (true, "f1b1df371b8f60edcf5bacb12d5c225d9a23da2215c3e6c49fd38d23caf32e5c"), looks := true }, kinds := [], alts := [], laidByText := true, laidKinds := [.handle], laidTests := true, laidLooks := .later }
def DigitModsCardSaid : Prop := Claim7.holds Tryd.pinned (.plain (OpenSpec.ofChange digitModsSpec)) digitModsCard

/-- THE SECOND FORM's CARD OF 'lockboxlaw08.DigitChecks'. -/
def digitChecksUptoCard : Claim7 := { stood := { row := digitChecksUptoRow, standIns := [], harness := (true, "f1b1df371b8f60edcf5bacb12d5c225d9a23da2215c3e6c49fd38d23caf32e5c"), looks := true }, kinds := [], alts := [], laidByText := true, laidKinds := [.handle], laidTests := true, laidLooks := .later }
def DigitChecksUptoCardSaid : Prop := Claim7.holds Tryd.pinned (.plain (OpenSpec.upto digitChecksSpec)) digitChecksUptoCard

/-- THE SECOND FORM's CARD OF 'lockboxlaw08.DigitTables'. -/
def digitTablesUptoCard : Claim7 := { stood := { row := digitTablesUptoRow, standIns := [], harness := (true, "f1b1df371b8f60edcf5bacb12d5c225d9a23da2215c3e6c49fd38d23caf32e5c"), looks := true }, kinds := [], alts := [], laidByText := true, laidKinds := [.handle], laidTests := true, laidLooks := .later }
def DigitTablesUptoCardSaid : Prop := Claim7.holds Tryd.pinned (.plain (OpenSpec.upto digitTablesSpec)) digitTablesUptoCard

/-- THE SECOND FORM's CARD OF 'lockboxlaw08.DigitHexes'. -/
def digitHexesUptoCard : Claim7 := { stood := { row := digitHexesUptoRow, standIns := [], harness := (true, "f1b1df371b8f60edcf5bacb12d5c225d9a23da2215c3e6c49fd38d23caf32e5c"), looks := true }, kinds := [], alts := [], laidByText := true, laidKinds := [.handle], laidTests := true, laidLooks := .later }
def DigitHexesUptoCardSaid : Prop := Claim7.holds Tryd.pinned (.plain (OpenSpec.upto digitHexesSpec)) digitHexesUptoCard

/-- THE SECOND FORM's CARD OF 'lockboxlaw08.DigitMods'. -/
def digitModsUptoCard : Claim7 := { stood := { row := digitModsUptoRow, standIns := [], harness := (true, "f1b1df371b8f60edcf5bacb12d5c225d9a23da2215c3e6c49fd38d23caf32e5c"), looks := true }, kinds := [], alts := [], laidByText := true, laidKinds := [.handle], laidTests := true, laidLooks := .later }
def DigitModsUptoCardSaid : Prop := Claim7.holds Tryd.pinned (.plain (OpenSpec.upto digitModsSpec)) digitModsUptoCard
end Rows
end Go.Proofs.YtbadogbkbhopcaaDoor
