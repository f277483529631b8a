/-
  DERIVED. GIVEN WITH THE SEED: THE CARDS: each row of YtpedilhijdjeoaaDoorRows.lean that lists a variable, with what it lists TIED to the program's text (the seventh form; the later family's looks); each row that meets fmt, with fmt's text TOLD by the authors' own Lean function (tested against real Go, not proved from fmt's source: count such statements apart). THE CARD IS WHAT COUNTS. Prove the row's statement (the work); the ties are given (YtpedilhijdjeoaaDoorTie.lean); close each card by the builder's one call (the guide's Derived/Test/ToyasCard.lean, 'card_holds'). Laid BY PROGRAM, IN A SANDBOX (cutbox-door.mjs). By AI agents, Wed Nov 11 2026. No macro, syntax, notation, axiom, sorry.
-/
import Derived.Test.YtpedilhijdjeoaaDoorRows
import GoSem.ClaimSeven
namespace Go.Proofs.YtpedilhijdjeoaaDoor
namespace Rows

/-- THE TIED CARD OF 'lockboxlaw03.DesRounds'. -/
def desRoundsCard : Claim7 := { stood := { row := desRoundsRow, standIns := [], harness := (true, "f11664657b01096f49e3a82a561b5ccd3fefc2b5e7c5bc7c9db20d5ff2238b25"), looks := true }, kinds := [], alts := [], laidByText := true, laidKinds := [.handle], laidTests := true, laidLooks := .later }
def DesRoundsCardSaid : Prop := Claim7.holds Tryd.pinned (.plain (OpenSpec.ofChange desRoundsSpec)) desRoundsCard

/-- THE TIED CARD OF 'lockboxlaw03.DesBlocks'. -/
def desBlocksCard : Claim7 := { stood := { row := desBlocksRow, standIns := [], harness := (true, "f11664657b01096f49e3a82a561b5ccd3fefc2b5e7c5bc7c9db20d5ff2238b25"), looks := true }, kinds := [], alts := [], laidByText := true, laidKinds := [.handle], laidTests := true, laidLooks := .later }
def DesBlocksCardSaid : Prop := Claim7.holds Tryd.pinned (.plain (OpenSpec.ofChange desBlocksSpec)) desBlocksCard

/-- THE TIED CARD OF 'lockboxlaw03.DesTriples'. -/
def desTriplesCard : Claim7 := { stood := { row := desTriplesRow, standIns := [], harness := (true, "f11664657b01096f49e3a82a561b5ccd3fefc2b5e7c5bc7c9db20d5ff2238b25"), looks := true }, kinds := [], alts := [], laidByText := true, laidKinds := [.handle], laidTests := true, laidLooks := .later }
def DesTriplesCardSaid : Prop := Claim7.holds Tryd.pinned (.plain (OpenSpec.ofChange desTriplesSpec)) desTriplesCard

/-- THE TIED CARD OF 'lockboxlaw03.DesBack'. -/
def desBackCard : Claim7 := { stood := { row := desBackRow, standIns := [], harness := (true, "f11664657b01096f49e3a82a561b5ccd3fefc2b5e7c5bc7c9db20d5ff2238b25"), looks := true }, kinds := [], alts := [], laidByText := true, laidKinds := [.handle], laidTests := true, laidLooks := .later }
def DesBackCardSaid : Prop := Claim7.holds Tryd.pinned (.plain (OpenSpec.ofChange desBackSpec)) desBackCard

/-- THE TIED CARD OF 'lockboxlaw03.DesAlike'. -/
def desAlikeCard : Claim7 := { stood := { row := desAlikeRow, standIns := [], harness := (true, "f11664657b01096f49e3a82a561b5ccd3fefc2b5e7c5bc7c9db20d5ff2238b25"), looks := true }, kinds := [], alts := [], laidByText := true, laidKinds := [.handle], laidTests := true, laidLooks := .later }
def DesAlikeCardSaid : Prop := Claim7.holds Tryd.pinned (.plain (OpenSpec.ofChange desAlikeSpec)) desAlikeCard

/-- THE SECOND FORM's CARD OF 'lockboxlaw03.DesRounds'. -/
def desRoundsUptoCard : Claim7 := { stood := { row := desRoundsUptoRow, standIns := [], harness := (true, "f11664657b01096f49e3a82a561b5ccd3fefc2b5e7c5bc7c9db20d5ff2238b25"), looks := true }, kinds := [], alts := [], laidByText := true, laidKinds := [.handle], laidTests := true, laidLooks := .later }
def DesRoundsUptoCardSaid : Prop := Claim7.holds Tryd.pinned (.plain (OpenSpec.upto desRoundsSpec)) desRoundsUptoCard

/-- THE SECOND FORM's CARD OF 'lockboxlaw03.DesBlocks'. -/
def desBlocksUptoCard : Claim7 := { stood := { row := desBlocksUptoRow, standIns := [], harness := (true, "f11664657b01096f49e3a82a561b5ccd3fefc2b5e7c5bc7c9db20d5ff2238b25"), looks := true }, kinds := [], alts := [], laidByText := true, laidKinds := [.handle], laidTests := true, laidLooks := .later }
def DesBlocksUptoCardSaid : Prop := Claim7.holds Tryd.pinned (.plain (OpenSpec.upto desBlocksSpec)) desBlocksUptoCard

/-- THE SECOND FORM's CARD OF 'lockboxlaw03.DesTriples'. -/
def desTriplesUptoCard : Claim7 := { stood := { row := desTriplesUptoRow, standIns := [], harness := (true, "f11664657b01096f49e3a82a561b5ccd3fefc2b5e7c5bc7c9db20d5ff2238b25"), looks := true }, kinds := [], alts := [], laidByText := true, laidKinds := [.handle], laidTests := true, laidLooks := .later }
def DesTriplesUptoCardSaid : Prop := Claim7.holds Tryd.pinned (.plain (OpenSpec.upto desTriplesSpec)) desTriplesUptoCard

/-- THE SECOND FORM's CARD OF 'lockboxlaw03.DesBack'. -/
def desBackUptoCard : Claim7 := { stood := { row := desBackUptoRow, standIns := [], harness := (true, "f11664657b01096f49e3a82a561b5ccd3fefc2b5e7c5bc7c9db20d5ff2238b25"), looks := true }, kinds := [], alts := [], laidByText := true, laidKinds := [.handle], laidTests := true, laidLooks := .later }
def DesBackUptoCardSaid : Prop := Claim7.holds Tryd.pinned (.plain (OpenSpec.upto desBackSpec)) desBackUptoCard

/-- THE SECOND FORM's CARD OF 'lockboxlaw03.DesAlike'. -/
def desAlikeUptoCard : Claim7 := { stood := { row := desAlikeUptoRow, standIns := [], harness := (true, "f11664657b01096f49e3a82a561b5ccd3fefc2b5e7c5bc7c9db20d5ff2238b25"), looks := true }, kinds := [], alts := [], laidByText := true, laidKinds := [.handle], laidTests := true, laidLooks := .later }
def DesAlikeUptoCardSaid : Prop := Claim7.holds Tryd.pinned (.plain (OpenSpec.upto desAlikeSpec)) desAlikeUptoCard
end Rows
end Go.Proofs.YtpedilhijdjeoaaDoor
