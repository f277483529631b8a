/-
  DERIVED. GIVEN WITH THE SEED: THE CARDS: each row of YtmbmdhkfddljjaaDoorRows.lean that lists a variable, with what it lists TIED to the program's text (the seventh form; the later family's looks); each row that meets fmt, with fmt's text TOLD by the authors' own Lean function (tested against real Go, not proved from fmt's source: count such statements apart). THE CARD IS WHAT COUNTS. Prove the row's statement (the work); the ties are given (YtmbmdhkfddljjaaDoorTie.lean); close each card by the builder's one call (the guide's Derived/Test/ToyasCard.lean, 'card_holds'). Laid BY PROGRAM, IN A SANDBOX (cutbox-door.mjs). By AI agents, Wed Nov 11 2026. No macro, syntax, notation, axiom, sorry.
-/
import Derived.Test.YtmbmdhkfddljjaaDoorRows
import GoSem.ClaimSeven
namespace Go.Proofs.YtmbmdhkfddljjaaDoor
namespace Rows

/-- THE TIED CARD OF 'lockboxlaw04.TapeTakes'. -/
def tapeTakesCard : Claim7 := { stood := { row := tapeTakesRow, standIns := [], harness := (true, "e3e25a4e3e400ef6efec7d2683906c82aa5967d502389c87825e5058b60d782c"), looks := true }, kinds := [], alts := [], laidByText := true, laidKinds := [.handle], laidTests := true, laidLooks := .later }
def TapeTakesCardSaid : Prop := Claim7.holds Tryd.pinned (.plain (OpenSpec.ofChange tapeTakesSpec)) tapeTakesCard

/-- THE TIED CARD OF 'lockboxlaw04.TapeDigits'. -/
def tapeDigitsCard : Claim7 := { stood := { row := tapeDigitsRow, standIns := [], harness := (true, "e3e25a4e3e400ef6efec7d2683906c82aa5967d502389c87825e5058b60d782c"), looks := true }, kinds := [], alts := [], laidByText := true, laidKinds := [.handle], laidTests := true, laidLooks := .later }
def TapeDigitsCardSaid : Prop := Claim7.holds Tryd.pinned (.plain (OpenSpec.ofChange tapeDigitsSpec)) tapeDigitsCard

/-- THE TIED CARD OF 'lockboxlaw04.TapeOnce'. -/
def tapeOnceCard : Claim7 := { stood := { row := tapeOnceRow, standIns := [], harness := (true, "e3e25a4e3e400ef6efec7d2683906c82aa5967d502389c87825e5058b60d782c"), looks := true }, kinds := [], alts := [], laidByText := true, laidKinds := [.handle], laidTests := true, laidLooks := .later }
def TapeOnceCardSaid : Prop := Claim7.holds Tryd.pinned (.plain (OpenSpec.ofChange tapeOnceSpec)) tapeOnceCard

/-- THE TIED CARD OF 'lockboxlaw04.TapeKeeps'. -/
def tapeKeepsCard : Claim7 := { stood := { row := tapeKeepsRow, standIns := [], harness := (true, "e3e25a4e3e400ef6efec7d2683906c82aa5967d502389c87825e5058b60d782c"), looks := true }, kinds := [], alts := [], laidByText := true, laidKinds := [.handle], laidTests := true, laidLooks := .later }
def TapeKeepsCardSaid : Prop := Claim7.holds Tryd.pinned (.plain (OpenSpec.ofChange tapeKeepsSpec)) tapeKeepsCard

/-- THE SECOND FORM's CARD OF 'lockboxlaw04.TapeTakes'. -/
def tapeTakesUptoCard : Claim7 := { stood := { row := tapeTakesUptoRow, standIns := [], harness := (true, "e3e25a4e3e400ef6efec7d2683906c82aa5967d502389c87825e5058b60d782c"), looks := true }, kinds := [], alts := [], laidByText := true, laidKinds := [.handle], laidTests := true, laidLooks := .later }
def TapeTakesUptoCardSaid : Prop := Claim7.holds Tryd.pinned (.plain (OpenSpec.upto tapeTakesSpec)) tapeTakesUptoCard

/-- THE SECOND FORM's CARD OF 'lockboxlaw04.TapeDigits'. -/
def tapeDigitsUptoCard : Claim7 := { stood := { row := tapeDigitsUptoRow, standIns := [], harness := (true, "e3e25a4e3e400ef6efec7d2683906c82aa5967d502389c87825e5058b60d782c"), looks := true }, kinds := [], alts := [], laidByText := true, laidKinds := [.handle], laidTests := true, laidLooks := .later }
def TapeDigitsUptoCardSaid : Prop := Claim7.holds Tryd.pinned (.plain (OpenSpec.upto tapeDigitsSpec)) tapeDigitsUptoCard

/-- THE SECOND FORM's CARD OF 'lockboxlaw04.TapeOnce'. -/
def tapeOnceUptoCard : Claim7 := { stood := { row := tapeOnceUptoRow, standIns := [], harness := (true, "e3e25a4e3e400ef6efec7d2683906c82aa5967d502389c87825e5058b60d782c"), looks := true }, kinds := [], alts := [], laidByText := true, laidKinds := [.handle], laidTests := true, laidLooks := .later }
def TapeOnceUptoCardSaid : Prop := Claim7.holds Tryd.pinned (.plain (OpenSpec.upto tapeOnceSpec)) tapeOnceUptoCard

/-- THE SECOND FORM's CARD OF 'lockboxlaw04.TapeKeeps'. -/
def tapeKeepsUptoCard : Claim7 := { stood := { row := tapeKeepsUptoRow, standIns := [], harness := (true, "e3e25a4e3e400ef6efec7d2683906c82aa5967d502389c87825e5058b60d782c"), looks := true }, kinds := [], alts := [], laidByText := true, laidKinds := [.handle], laidTests := true, laidLooks := .later }
def TapeKeepsUptoCardSaid : Prop := Claim7.holds Tryd.pinned (.plain (OpenSpec.upto tapeKeepsSpec)) tapeKeepsUptoCard
end Rows
end Go.Proofs.YtmbmdhkfddljjaaDoor
