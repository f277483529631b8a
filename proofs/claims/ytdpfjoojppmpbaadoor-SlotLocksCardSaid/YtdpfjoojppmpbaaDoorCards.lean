/-
  DERIVED. GIVEN WITH THE SEED: THE CARDS: each row of YtdpfjoojppmpbaaDoorRows.lean that lists a variable, with what it lists TIED to the program's text (the seventh form; the later family's looks); each row that meets fmt, with fmt's text TOLD by the authors' own Lean function (tested against real Go, not proved from fmt's source: count such statements apart). THE CARD IS WHAT COUNTS. Prove the row's statement (the work); the ties are given (YtdpfjoojppmpbaaDoorTie.lean); close each card by the builder's one call (the guide's Derived/Test/ToyasCard.lean, 'card_holds'). Laid BY PROGRAM, IN A SANDBOX (cutbox-door.mjs). By AI agents, Wed Nov 11 2026. No macro, syntax, notation, axiom, sorry.
-/
import Derived.Test.YtdpfjoojppmpbaaDoorRows
import GoSem.ClaimSeven
namespace Go.Proofs.YtdpfjoojppmpbaaDoor
namespace Rows

/-- THE TIED CARD OF 'lockboxlaw22.SlotPuts'. -/
def slotPutsCard : Claim7 := { stood := { row := slotPutsRow, standIns := [], harness := (true, "292d11817808e3b87a74fbdfe03cf3f4a6690f156bf482e96dc995388bd5f399"), looks := true }, kinds := [], alts := [], laidByText := true, laidKinds := [.handle], laidTests := true, laidLooks := .later }
def SlotPutsCardSaid : Prop := Claim7.holds Tryd.pinned (.plain (OpenSpec.ofChange slotPutsSpec)) slotPutsCard

/-- THE TIED CARD OF 'lockboxlaw22.SlotLocks'. -/
def slotLocksCard : Claim7 := { stood := { row := slotLocksRow, standIns := [], harness := (true, "292d11817808e3b87a74fbdfe03cf3f4a6690f156bf482e96dc995388bd5f399"), looks := true }, kinds := [], alts := [], laidByText := true, laidKinds := [.handle], laidTests := true, laidLooks := .later }
def SlotLocksCardSaid : Prop := Claim7.holds Tryd.pinned (.plain (OpenSpec.ofChange slotLocksSpec)) slotLocksCard

/-- THE SECOND FORM's CARD OF 'lockboxlaw22.SlotPuts'. -/
def slotPutsUptoCard : Claim7 := { stood := { row := slotPutsUptoRow, standIns := [], harness := (true, "292d11817808e3b87a74fbdfe03cf3f4a6690f156bf482e96dc995388bd5f399"), looks := true }, kinds := [], alts := [], laidByText := true, laidKinds := [.handle], laidTests := true, laidLooks := .later }
def SlotPutsUptoCardSaid : Prop := Claim7.holds Tryd.pinned (.plain (OpenSpec.upto slotPutsSpec)) slotPutsUptoCard

/-- THE SECOND FORM's CARD OF 'lockboxlaw22.SlotLocks'. -/
def slotLocksUptoCard : Claim7 := { stood := { row := slotLocksUptoRow, standIns := [], harness := (true, "292d11817808e3b87a74fbdfe03cf3f4a6690f156bf482e96dc995388bd5f399"), looks := true }, kinds := [], alts := [], laidByText := true, laidKinds := [.handle], laidTests := true, laidLooks := .later }
def SlotLocksUptoCardSaid : Prop := Claim7.holds Tryd.pinned (.plain (OpenSpec.upto slotLocksSpec)) slotLocksUptoCard
end Rows
end Go.Proofs.YtdpfjoojppmpbaaDoor
