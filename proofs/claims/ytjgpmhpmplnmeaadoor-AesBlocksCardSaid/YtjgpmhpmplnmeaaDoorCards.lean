/-
  DERIVED. GIVEN WITH THE SEED: THE CARDS: each row of YtjgpmhpmplnmeaaDoorRows.lean that lists a variable, with what it lists TIED to the program's text (the seventh form; the later family's looks); each row that meets fmt, with fmt's text TOLD by the authors' own Lean function (tested against real Go, not proved from fmt's source: count such statements apart). THE CARD IS WHAT COUNTS. Prove the row's statement (the work); the ties are given (YtjgpmhpmplnmeaaDoorTie.lean); close each card by the builder's one call (the guide's Derived/Test/ToyasCard.lean, 'card_holds'). Laid BY PROGRAM, IN A SANDBOX (cutbox-door.mjs). By AI agents, Wed Nov 11 2026. No macro, syntax, notation, axiom, sorry.
-/
import Derived.Test.YtjgpmhpmplnmeaaDoorRows
import GoSem.ClaimSeven
namespace Go.Proofs.YtjgpmhpmplnmeaaDoor
namespace Rows

/-- THE TIED CARD OF 'lockboxlaw02.AesWords'. -/
def aesWordsCard : Claim7 := { stood := { row := aesWordsRow, standIns := [], harness := (true, "4328a903c2a9ef5ba16fee67f757ba600a39fed3ae3c991e45a531c2b7a7e8d8"), looks := true }, kinds := [], alts := [], laidByText := true, laidKinds := [.handle], laidTests := true, laidLooks := .later }
def AesWordsCardSaid : Prop := Claim7.holds Tryd.pinned (.plain (OpenSpec.ofChange aesWordsSpec)) aesWordsCard

/-- THE TIED CARD OF 'lockboxlaw02.AesBlocks'. -/
def aesBlocksCard : Claim7 := { stood := { row := aesBlocksRow, standIns := [], harness := (true, "4328a903c2a9ef5ba16fee67f757ba600a39fed3ae3c991e45a531c2b7a7e8d8"), looks := true }, kinds := [], alts := [], laidByText := true, laidKinds := [.handle], laidTests := true, laidLooks := .later }
def AesBlocksCardSaid : Prop := Claim7.holds Tryd.pinned (.plain (OpenSpec.ofChange aesBlocksSpec)) aesBlocksCard

/-- THE TIED CARD OF 'lockboxlaw02.AesBack'. -/
def aesBackCard : Claim7 := { stood := { row := aesBackRow, standIns := [], harness := (true, "4328a903c2a9ef5ba16fee67f757ba600a39fed3ae3c991e45a531c2b7a7e8d8"), looks := true }, kinds := [], alts := [], laidByText := true, laidKinds := [.handle], laidTests := true, laidLooks := .later }
def AesBackCardSaid : Prop := Claim7.holds Tryd.pinned (.plain (OpenSpec.ofChange aesBackSpec)) aesBackCard

/-- THE TIED CARD OF 'lockboxlaw02.AesKeeps'. -/
def aesKeepsCard : Claim7 := { stood := { row := aesKeepsRow, standIns := [], harness := (true, "4328a903c2a9ef5ba16fee67f757ba600a39fed3ae3c991e45a531c2b7a7e8d8"), looks := true }, kinds := [], alts := [], laidByText := true, laidKinds := [.handle], laidTests := true, laidLooks := .later }
def AesKeepsCardSaid : Prop := Claim7.holds Tryd.pinned (.plain (OpenSpec.ofChange aesKeepsSpec)) aesKeepsCard

/-- THE TIED CARD OF 'lockboxlaw02.AesApart'. -/
def aesApartCard : Claim7 := { stood := { row := aesApartRow, standIns := [], harness := (true, "4328a903c2a9ef5ba16fee67f757ba600a39fed3ae3c991e45a531c2b7a7e8d8"), looks := true }, kinds := [], alts := [], laidByText := true, laidKinds := [.handle], laidTests := true, laidLooks := .later }
def AesApartCardSaid : Prop := Claim7.holds Tryd.pinned (.plain (OpenSpec.ofChange aesApartSpec)) aesApartCard

/-- THE SECOND FORM's CARD OF 'lockboxlaw02.AesWords'. -/
def aesWordsUptoCard : Claim7 := { stood := { row := aesWordsUptoRow, standIns := [], harness := (true, "4328a903c2a9ef5ba16fee67f757ba600a39fed3ae3c991e45a531c2b7a7e8d8"), looks := true }, kinds := [], alts := [], laidByText := true, laidKinds := [.handle], laidTests := true, laidLooks := .later }
def AesWordsUptoCardSaid : Prop := Claim7.holds Tryd.pinned (.plain (OpenSpec.upto aesWordsSpec)) aesWordsUptoCard

/-- THE SECOND FORM's CARD OF 'lockboxlaw02.AesBlocks'. -/
def aesBlocksUptoCard : Claim7 := { stood := { row := aesBlocksUptoRow, standIns := [], harness := (true, "4328a903c2a9ef5ba16fee67f757ba600a39fed3ae3c991e45a531c2b7a7e8d8"), looks := true }, kinds := [], alts := [], laidByText := true, laidKinds := [.handle], laidTests := true, laidLooks := .later }
def AesBlocksUptoCardSaid : Prop := Claim7.holds Tryd.pinned (.plain (OpenSpec.upto aesBlocksSpec)) aesBlocksUptoCard

/-- THE SECOND FORM's CARD OF 'lockboxlaw02.AesBack'. -/
def aesBackUptoCard : Claim7 := { stood := { row := aesBackUptoRow, standIns := [], harness := (true, "4328a903c2a9ef5ba16fee67f757ba600a39fed3ae3c991e45a531c2b7a7e8d8"), looks := true }, kinds := [], alts := [], laidByText := true, laidKinds := [.handle], laidTests := true, laidLooks := .later }
def AesBackUptoCardSaid : Prop := Claim7.holds Tryd.pinned (.plain (OpenSpec.upto aesBackSpec)) aesBackUptoCard

/-- THE SECOND FORM's CARD OF 'lockboxlaw02.AesKeeps'. -/
def aesKeepsUptoCard : Claim7 := { stood := { row := aesKeepsUptoRow, standIns := [], harness := (true, "4328a903c2a9ef5ba16fee67f757ba600a39fed3ae3c991e45a531c2b7a7e8d8"), looks := true }, kinds := [], alts := [], laidByText := true, laidKinds := [.handle], laidTests := true, laidLooks := .later }
def AesKeepsUptoCardSaid : Prop := Claim7.holds Tryd.pinned (.plain (OpenSpec.upto aesKeepsSpec)) aesKeepsUptoCard

/-- THE SECOND FORM's CARD OF 'lockboxlaw02.AesApart'. -/
def aesApartUptoCard : Claim7 := { stood := { row := aesApartUptoRow, standIns := [], harness := (true, "4328a903c2a9ef5ba16fee67f757ba600a39fed3ae3c991e45a531c2b7a7e8d8"), looks := true }, kinds := [], alts := [], laidByText := true, laidKinds := [.handle], laidTests := true, laidLooks := .later }
def AesApartUptoCardSaid : Prop := Claim7.holds Tryd.pinned (.plain (OpenSpec.upto aesApartSpec)) aesApartUptoCard
end Rows
end Go.Proofs.YtjgpmhpmplnmeaaDoor
