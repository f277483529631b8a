/-
  DERIVED. GIVEN WITH THE SEED: THE CARDS: each row of YtidcdmlgojdglaaDoorRows.lean that lists a variable, with what it lists TIED to the program's text (the seventh form; the later family's looks); each row that meets fmt, with fmt's text TOLD by the authors' own Lean function (tested against real Go, not proved from fmt's source: count such statements apart). THE CARD IS WHAT COUNTS. Prove the row's statement (the work); the ties are given (YtidcdmlgojdglaaDoorTie.lean); close each card by the builder's one call (the guide's Derived/Test/ToyasCard.lean, 'card_holds'). Laid BY PROGRAM, IN A SANDBOX (cutbox-door.mjs). By AI agents, Wed Nov 11 2026. No macro, syntax, notation, axiom, sorry.
-/
import Derived.Test.YtidcdmlgojdglaaDoorRows
import GoSem.ClaimSeven
namespace Go.Proofs.YtidcdmlgojdglaaDoor
namespace Rows

/-- THE TIED CARD OF 'lockboxlaw20.DiskTears'. -/
def diskTearsCard : Claim7 := { stood := { row := diskTearsRow, standIns := [], harness := (true, "27feaac59e029aae93ddf7a2bf89ea543cfe2648b2a08ab67c4062796078ce44"), looks := true }, kinds := [], alts := [], laidByText := true, laidKinds := [.handle], laidTests := true, laidLooks := .later }
def DiskTearsCardSaid : Prop := Claim7.holds Tryd.pinned (.plain (OpenSpec.ofChange diskTearsSpec)) diskTearsCard

/-- THE TIED CARD OF 'lockboxlaw20.DiskWhole'. -/
def diskWholeCard : Claim7 := { stood := { row := diskWholeRow, standIns := [], harness := (true, "27feaac59e029aae93ddf7a2bf89ea543cfe2648b2a08ab67c4062796078ce44"), looks := true }, kinds := [], alts := [], laidByText := true, laidKinds := [.handle], laidTests := true, laidLooks := .later }
def DiskWholeCardSaid : Prop := Claim7.holds Tryd.pinned (.plain (OpenSpec.ofChange diskWholeSpec)) diskWholeCard

/-- THE TIED CARD OF 'lockboxlaw20.DiskNews'. -/
def diskNewsCard : Claim7 := { stood := { row := diskNewsRow, standIns := [], harness := (true, "27feaac59e029aae93ddf7a2bf89ea543cfe2648b2a08ab67c4062796078ce44"), looks := true }, kinds := [], alts := [], laidByText := true, laidKinds := [.handle], laidTests := true, laidLooks := .later }
def DiskNewsCardSaid : Prop := Claim7.holds Tryd.pinned (.plain (OpenSpec.ofChange diskNewsSpec)) diskNewsCard

/-- THE TIED CARD OF 'lockboxlaw20.DiskActs'. -/
def diskActsCard : Claim7 := { stood := { row := diskActsRow, standIns := [], harness := (true, "27feaac59e029aae93ddf7a2bf89ea543cfe2648b2a08ab67c4062796078ce44"), looks := true }, kinds := [], alts := [], laidByText := true, laidKinds := [.handle], laidTests := true, laidLooks := .later }
def DiskActsCardSaid : Prop := Claim7.holds Tryd.pinned (.plain (OpenSpec.ofChange diskActsSpec)) diskActsCard

/-- THE TIED CARD OF 'lockboxlaw20.DiskClones'. -/
def diskClonesCard : Claim7 := { stood := { row := diskClonesRow, standIns := [], harness := (true, "27feaac59e029aae93ddf7a2bf89ea543cfe2648b2a08ab67c4062796078ce44"), looks := true }, kinds := [], alts := [], laidByText := true, laidKinds := [.handle], laidTests := true, laidLooks := .later }
def DiskClonesCardSaid : Prop := Claim7.holds Tryd.pinned (.plain (OpenSpec.ofChange diskClonesSpec)) diskClonesCard

/-- THE SECOND FORM's CARD OF 'lockboxlaw20.DiskTears'. -/
def diskTearsUptoCard : Claim7 := { stood := { row := diskTearsUptoRow, standIns := [], harness := (true, "27feaac59e029aae93ddf7a2bf89ea543cfe2648b2a08ab67c4062796078ce44"), looks := true }, kinds := [], alts := [], laidByText := true, laidKinds := [.handle], laidTests := true, laidLooks := .later }
def DiskTearsUptoCardSaid : Prop := Claim7.holds Tryd.pinned (.plain (OpenSpec.upto diskTearsSpec)) diskTearsUptoCard

/-- THE SECOND FORM's CARD OF 'lockboxlaw20.DiskWhole'. -/
def diskWholeUptoCard : Claim7 := { stood := { row := diskWholeUptoRow, standIns := [], harness := (true, "27feaac59e029aae93ddf7a2bf89ea543cfe2648b2a08ab67c4062796078ce44"), looks := true }, kinds := [], alts := [], laidByText := true, laidKinds := [.handle], laidTests := true, laidLooks := .later }
def DiskWholeUptoCardSaid : Prop := Claim7.holds Tryd.pinned (.plain (OpenSpec.upto diskWholeSpec)) diskWholeUptoCard

/-- THE SECOND FORM's CARD OF 'lockboxlaw20.DiskNews'. -/
def diskNewsUptoCard : Claim7 := { stood := { row := diskNewsUptoRow, standIns := [], harness := (true, "27feaac59e029aae93ddf7a2bf89ea543cfe2648b2a08ab67c4062796078ce44"), looks := true }, kinds := [], alts := [], laidByText := true, laidKinds := [.handle], laidTests := true, laidLooks := .later }
def DiskNewsUptoCardSaid : Prop := Claim7.holds Tryd.pinned (.plain (OpenSpec.upto diskNewsSpec)) diskNewsUptoCard

/-- THE SECOND FORM's CARD OF 'lockboxlaw20.DiskActs'. -/
def diskActsUptoCard : Claim7 := { stood := { row := diskActsUptoRow, standIns := [], harness := (true, "27feaac59e029aae93ddf7a2bf89ea543cfe2648b2a08ab67c4062796078ce44"), looks := true }, kinds := [], alts := [], laidByText := true, laidKinds := [.handle], laidTests := true, laidLooks := .later }
def DiskActsUptoCardSaid : Prop := Claim7.holds Tryd.pinned (.plain (OpenSpec.upto diskActsSpec)) diskActsUptoCard

/-- THE SECOND FORM's CARD OF 'lockboxlaw20.DiskClones'. -/
def diskClonesUptoCard : Claim7 := { stood := { row := diskClonesUptoRow, standIns := [], harness := (true, "27feaac59e029aae93ddf7a2bf89ea543cfe2648b2a08ab67c4062796078ce44"), looks := true }, kinds := [], alts := [], laidByText := true, laidKinds := [.handle], laidTests := true, laidLooks := .later }
def DiskClonesUptoCardSaid : Prop := Claim7.holds Tryd.pinned (.plain (OpenSpec.upto diskClonesSpec)) diskClonesUptoCard
end Rows
end Go.Proofs.YtidcdmlgojdglaaDoor
