/-
  No cell of these rows narrows 'for every input' (looked for: loops, veiled, ifaces, maps, wideKeys, modest, calm, conditions, laid).
  DERIVED. THE GIVEN ROWS OF THIS SEAT. 3 by the template 'for every input the law returns true; each argument reads behind the call as it read before'; 0 by the template 'total and deterministic' (their statements: YtdpfjoojppmpbaaTotals.lean).
  GIVEN WITH THE SEED: the statements are not yours to turn. If you find one false, say at which input.
  Laid BY PROGRAM, IN A SANDBOX (cutbox-rows.mjs): the forced cells as the released guide's own fill.sh prints them over the translation 3d0f1cfadeb06266… (all of the seat's roots in one cut). By AI agents, Wed Nov 11 2026. No macro, syntax, notation, axiom, sorry.
-/
import Derived.Test.YtdpfjoojppmpbaaChecked
import GoSem.Claim
import GoSem.ClaimJoined
import GoSem.ClaimMapViews
import Derived.JoinedTies
import Derived.KernelRfl
namespace Go.Proofs.Ytdpfjoojppmpbaa
/- THE CELL 'sum', in the pinned program and in every row, IS THE sha256 OF THE DUMP (.gsa) THAT YtdpfjoojppmpbaaProg.lean LOADS. Nothing in Lean hashes anything: it is a label: what it is worth is what the hold of that sum in a sandbox is worth. -/
noncomputable def Try.pinned : Pinned := { name := "ytdpfjoojppmpbaa", sum := "3d0f1cfadeb06266805d8cb2e9aa98e644da06f4f9d4c7d0023c38f03ced0665", checked := Try.checked }
namespace Rows
def none {H : Type} : Left H := { results := [], args := [] }

/-- 'lockboxlaw22.SlotOthers': WHATEVER THE INPUT: true; the input reads as it did. -/
def slotOthersSpec : ChangeSpec := { name := "slotOthers", fn := fun _ => fun
  | [d1, d2] => { results := [.lit (.bool true)], args := [d1, d2] }
  | _ => none }
def slotOthersRow : OpenClaim := { program := "ytdpfjoojppmpbaa", sum := "3d0f1cfadeb06266805d8cb2e9aa98e644da06f4f9d4c7d0023c38f03ced0665", func := "lockbox/lockboxlaw22.SlotOthers", spec := "slotOthers", apart := false }
def SlotOthersSaid : Prop := slotOthersRow.holds Try.pinned (OpenSpec.ofChange slotOthersSpec)

/-- ITS FALSE NEIGHBOUR: 'it returns false'. Refute it at one input. -/
def slotOthersWrong : ChangeSpec := { name := "slotOthers", fn := fun _ => fun
  | [d1, d2] => { results := [.lit (.bool false)], args := [d1, d2] }
  | _ => none }
def SlotOthersWrongFalsely : Prop := slotOthersRow.holds Try.pinned (OpenSpec.ofChange slotOthersWrong)

/-- 'lockboxlaw22.SlotReplay': WHATEVER THE INPUT: true; the input reads as it did. -/
def slotReplaySpec : ChangeSpec := { name := "slotReplay", fn := fun _ => fun
  | [d] => { results := [.lit (.bool true)], args := [d] }
  | _ => none }
def slotReplayRow : OpenClaim := { program := "ytdpfjoojppmpbaa", sum := "3d0f1cfadeb06266805d8cb2e9aa98e644da06f4f9d4c7d0023c38f03ced0665", func := "lockbox/lockboxlaw22.SlotReplay", spec := "slotReplay", apart := false }
def SlotReplaySaid : Prop := slotReplayRow.holds Try.pinned (OpenSpec.ofChange slotReplaySpec)

/-- ITS FALSE NEIGHBOUR: 'it returns false'. Refute it at one input. -/
def slotReplayWrong : ChangeSpec := { name := "slotReplay", fn := fun _ => fun
  | [d] => { results := [.lit (.bool false)], args := [d] }
  | _ => none }
def SlotReplayWrongFalsely : Prop := slotReplayRow.holds Try.pinned (OpenSpec.ofChange slotReplayWrong)

/-- 'lockboxlaw22.SlotKeeps': WHATEVER THE INPUT: true; the input reads as it did. -/
def slotKeepsSpec : ChangeSpec := { name := "slotKeeps", fn := fun _ => fun
  | [d1, d2] => { results := [.lit (.bool true)], args := [d1, d2] }
  | _ => none }
def slotKeepsRow : OpenClaim := { program := "ytdpfjoojppmpbaa", sum := "3d0f1cfadeb06266805d8cb2e9aa98e644da06f4f9d4c7d0023c38f03ced0665", func := "lockbox/lockboxlaw22.SlotKeeps", spec := "slotKeeps", apart := false }
def SlotKeepsSaid : Prop := slotKeepsRow.holds Try.pinned (OpenSpec.ofChange slotKeepsSpec)

/-- ITS FALSE NEIGHBOUR: 'it returns false'. Refute it at one input. -/
def slotKeepsWrong : ChangeSpec := { name := "slotKeeps", fn := fun _ => fun
  | [d1, d2] => { results := [.lit (.bool false)], args := [d1, d2] }
  | _ => none }
def SlotKeepsWrongFalsely : Prop := slotKeepsRow.holds Try.pinned (OpenSpec.ofChange slotKeepsWrong)

/- THE SECOND FORM. 'bulk': how many values and letters a reading holds, each counted each time it is reached (what is shared counts as often as it is met; a slice's spare places count too). A statement '..UptoSaid' is the law's where the arguments, and the package variables that the reading takes, are together of bulk at most 1048576: NARROWER than '..Said'. Prove '..Said' where nothing that the law and all that it calls make is longer than what came in: it says more and counts as full. Else prove '..UptoSaid'. A law counts once. -/
mutual
def uptoBulk {H : Type} : DataW H → Nat
  | .lit (.string bytes) => bytes.length + 1
  | .lit _ => 1
  | .nil => 1
  | .ptr d => uptoBulk d + 1
  | .slice elems spare => uptoBulkAll elems + uptoBulkAll spare + 1
  | .agg parts => uptoBulkAll parts + 1
  | .iface _ d => uptoBulk d + 1
  | .map entries => uptoBulkEntries entries + 1
  | .held _ => 1
def uptoBulkAll {H : Type} : List (DataW H) → Nat
  | [] => 0
  | d :: r => uptoBulk d + uptoBulkAll r
def uptoBulkEntries {H : Type} : List (Lit × DataW H) → Nat
  | [] => 0
  | x :: r => uptoBulkEntry x + uptoBulkEntries r
def uptoBulkEntry {H : Type} : Lit × DataW H → Nat
  | (.string bytes, d) => bytes.length + uptoBulk d + 1
  | (_, d) => uptoBulk d + 1
 end
def uptoSmall : (H : Type) → List (DataW H) → Bool := fun _ ds => decide (uptoBulkAll ds ≤ 1048576)
def OpenSpec.upto (s : _root_.Go.ChangeSpec) : _root_.Go.OpenSpec := { _root_.Go.OpenSpec.ofChange s with cond := some uptoSmall }

/-- 'lockboxlaw22.SlotOthers', WHERE WHAT IT READS IS OF BULK AT MOST 1048576: true; the input reads as it did. -/
def slotOthersUptoRow : OpenClaim := { program := "ytdpfjoojppmpbaa", sum := "3d0f1cfadeb06266805d8cb2e9aa98e644da06f4f9d4c7d0023c38f03ced0665", func := "lockbox/lockboxlaw22.SlotOthers", spec := "slotOthers", apart := false, narrowed := true }
def SlotOthersUptoSaid : Prop := slotOthersUptoRow.holds Try.pinned (OpenSpec.upto slotOthersSpec)

/-- 'lockboxlaw22.SlotReplay', WHERE WHAT IT READS IS OF BULK AT MOST 1048576: true; the input reads as it did. -/
def slotReplayUptoRow : OpenClaim := { program := "ytdpfjoojppmpbaa", sum := "3d0f1cfadeb06266805d8cb2e9aa98e644da06f4f9d4c7d0023c38f03ced0665", func := "lockbox/lockboxlaw22.SlotReplay", spec := "slotReplay", apart := false, narrowed := true }
def SlotReplayUptoSaid : Prop := slotReplayUptoRow.holds Try.pinned (OpenSpec.upto slotReplaySpec)

/-- 'lockboxlaw22.SlotKeeps', WHERE WHAT IT READS IS OF BULK AT MOST 1048576: true; the input reads as it did. -/
def slotKeepsUptoRow : OpenClaim := { program := "ytdpfjoojppmpbaa", sum := "3d0f1cfadeb06266805d8cb2e9aa98e644da06f4f9d4c7d0023c38f03ced0665", func := "lockbox/lockboxlaw22.SlotKeeps", spec := "slotKeeps", apart := false, narrowed := true }
def SlotKeepsUptoSaid : Prop := slotKeepsUptoRow.holds Try.pinned (OpenSpec.upto slotKeepsSpec)

end Rows
end Go.Proofs.Ytdpfjoojppmpbaa
