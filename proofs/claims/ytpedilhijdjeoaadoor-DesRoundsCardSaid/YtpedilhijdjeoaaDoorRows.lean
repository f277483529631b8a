/-
  NARROWER THAN 'FOR EVERY INPUT', by the rows' own cells (each row's printed sentence says how): DesRounds: laid · DesBlocks: laid · DesTriples: laid · DesBack: laid · DesAlike: laid.
  DERIVED. THE GIVEN ROWS OF THIS SEAT. 5 by the template 'for every input the law returns true; each argument reads behind the call as it read before'; 0 by the template 'total and deterministic' (their statements: YtpedilhijdjeoaaDoorTotals.lean).
  GIVEN WITH THE SEED: the statements are not yours to turn. If you find one false, say at which input.
  Laid BY PROGRAM, IN A SANDBOX (cutbox-rows.mjs): the forced cells as the released guide's own fill.sh prints them over the translation d34b17092b0885fc… (all of the seat's roots in one cut). By AI agents, Wed Nov 11 2026. No macro, syntax, notation, axiom, sorry.
-/
import Derived.Test.YtpedilhijdjeoaaDoorChecked
import GoSem.Claim
import GoSem.ClaimJoined
import GoSem.ClaimMapViews
import Derived.JoinedTies
import Derived.KernelRfl
namespace Go.Proofs.YtpedilhijdjeoaaDoor
/- THE CELL 'sum', in the pinned program and in every row, IS THE sha256 OF THE DUMP (.gsa) THAT YtpedilhijdjeoaaDoorProg.lean LOADS. Nothing in Lean hashes anything: it is a label: what it is worth is what the hold of that sum in a sandbox is worth. -/
noncomputable def Tryd.pinned : Pinned := { name := "ytpedilhijdjeoaadoor", sum := "d34b17092b0885fcdf9149088d73fe3929f79bf414139a9786a03d6a0e2a2c58", checked := Tryd.checked }
namespace Rows
def none {H : Type} : Left H := { results := [], args := [] }

/- WHAT THE LISTED PACKAGE-LEVEL VARIABLES READ AS WHEN THE CALL BEGINS. Each datum BY PROGRAM (the guide's laid-datum.mjs) off the statement by which the dump's own 'gosem.cut.vars' lays the variable. In a bare row this is a premise. The card (YtpedilhijdjeoaaDoorCards.lean) ties it to the program's text. -/
def laid_errors_errorType {H : Type} : DataW H := .iface "internal/reflectlite.rtype" (.agg [.ptr (.lit (.string [101, 114, 114, 111, 114]))])

/-- 'lockboxlaw03.DesRounds': WHATEVER THE INPUT: true; the input reads as it did. -/
def desRoundsSpec : ChangeSpec := { name := "desRounds", fn := fun _ => fun
  | [d] => { results := [.lit (.bool true)], args := [d] }
  | _ => none }
def desRoundsRow : OpenClaim := { program := "ytpedilhijdjeoaadoor", sum := "d34b17092b0885fcdf9149088d73fe3929f79bf414139a9786a03d6a0e2a2c58", func := "lockbox/lockboxlaw03.DesRounds", spec := "desRounds", inPlace := ["internal/reflectlite.ValueOf", "(internal/reflectlite.Value).Type", "(internal/reflectlite.Value).IsNil", "internal/reflectlite.TypeOf", "(internal/reflectlite.Value).Elem", "(internal/reflectlite.Value).Set"], unfollowed := true, recurses := true, named := ["errors.errorType"], apart := false, laid := [("errors.errorType", laid_errors_errorType)] }
def DesRoundsSaid : Prop := desRoundsRow.holds Tryd.pinned (OpenSpec.ofChange desRoundsSpec)

/-- ITS FALSE NEIGHBOUR: 'it returns false'. Refute it at one input. -/
def desRoundsWrong : ChangeSpec := { name := "desRounds", fn := fun _ => fun
  | [d] => { results := [.lit (.bool false)], args := [d] }
  | _ => none }
def DesRoundsWrongFalsely : Prop := desRoundsRow.holds Tryd.pinned (OpenSpec.ofChange desRoundsWrong)

/-- 'lockboxlaw03.DesBlocks': WHATEVER THE INPUT: true; the input reads as it did. -/
def desBlocksSpec : ChangeSpec := { name := "desBlocks", fn := fun _ => fun
  | [d1, d2, d3] => { results := [.lit (.bool true)], args := [d1, d2, d3] }
  | _ => none }
def desBlocksRow : OpenClaim := { program := "ytpedilhijdjeoaadoor", sum := "d34b17092b0885fcdf9149088d73fe3929f79bf414139a9786a03d6a0e2a2c58", func := "lockbox/lockboxlaw03.DesBlocks", spec := "desBlocks", inPlace := ["internal/reflectlite.ValueOf", "(internal/reflectlite.Value).Type", "(internal/reflectlite.Value).IsNil", "internal/reflectlite.TypeOf", "(internal/reflectlite.Value).Elem", "(internal/reflectlite.Value).Set"], unfollowed := true, recurses := true, named := ["errors.errorType"], apart := false, laid := [("errors.errorType", laid_errors_errorType)] }
def DesBlocksSaid : Prop := desBlocksRow.holds Tryd.pinned (OpenSpec.ofChange desBlocksSpec)

/-- ITS FALSE NEIGHBOUR: 'it returns false'. Refute it at one input. -/
def desBlocksWrong : ChangeSpec := { name := "desBlocks", fn := fun _ => fun
  | [d1, d2, d3] => { results := [.lit (.bool false)], args := [d1, d2, d3] }
  | _ => none }
def DesBlocksWrongFalsely : Prop := desBlocksRow.holds Tryd.pinned (OpenSpec.ofChange desBlocksWrong)

/-- 'lockboxlaw03.DesTriples': WHATEVER THE INPUT: true; the input reads as it did. -/
def desTriplesSpec : ChangeSpec := { name := "desTriples", fn := fun _ => fun
  | [d1, d2, d3, d4] => { results := [.lit (.bool true)], args := [d1, d2, d3, d4] }
  | _ => none }
def desTriplesRow : OpenClaim := { program := "ytpedilhijdjeoaadoor", sum := "d34b17092b0885fcdf9149088d73fe3929f79bf414139a9786a03d6a0e2a2c58", func := "lockbox/lockboxlaw03.DesTriples", spec := "desTriples", inPlace := ["internal/reflectlite.ValueOf", "(internal/reflectlite.Value).Type", "(internal/reflectlite.Value).IsNil", "internal/reflectlite.TypeOf", "(internal/reflectlite.Value).Elem", "(internal/reflectlite.Value).Set"], unfollowed := true, recurses := true, named := ["errors.errorType"], apart := false, laid := [("errors.errorType", laid_errors_errorType)] }
def DesTriplesSaid : Prop := desTriplesRow.holds Tryd.pinned (OpenSpec.ofChange desTriplesSpec)

/-- ITS FALSE NEIGHBOUR: 'it returns false'. Refute it at one input. -/
def desTriplesWrong : ChangeSpec := { name := "desTriples", fn := fun _ => fun
  | [d1, d2, d3, d4] => { results := [.lit (.bool false)], args := [d1, d2, d3, d4] }
  | _ => none }
def DesTriplesWrongFalsely : Prop := desTriplesRow.holds Tryd.pinned (OpenSpec.ofChange desTriplesWrong)

/-- 'lockboxlaw03.DesBack': WHATEVER THE INPUT: true; the input reads as it did. -/
def desBackSpec : ChangeSpec := { name := "desBack", fn := fun _ => fun
  | [d1, d2, d3, d4] => { results := [.lit (.bool true)], args := [d1, d2, d3, d4] }
  | _ => none }
def desBackRow : OpenClaim := { program := "ytpedilhijdjeoaadoor", sum := "d34b17092b0885fcdf9149088d73fe3929f79bf414139a9786a03d6a0e2a2c58", func := "lockbox/lockboxlaw03.DesBack", spec := "desBack", inPlace := ["internal/reflectlite.ValueOf", "(internal/reflectlite.Value).Type", "(internal/reflectlite.Value).IsNil", "internal/reflectlite.TypeOf", "(internal/reflectlite.Value).Elem", "(internal/reflectlite.Value).Set"], unfollowed := true, recurses := true, named := ["errors.errorType"], apart := false, laid := [("errors.errorType", laid_errors_errorType)] }
def DesBackSaid : Prop := desBackRow.holds Tryd.pinned (OpenSpec.ofChange desBackSpec)

/-- ITS FALSE NEIGHBOUR: 'it returns false'. Refute it at one input. -/
def desBackWrong : ChangeSpec := { name := "desBack", fn := fun _ => fun
  | [d1, d2, d3, d4] => { results := [.lit (.bool false)], args := [d1, d2, d3, d4] }
  | _ => none }
def DesBackWrongFalsely : Prop := desBackRow.holds Tryd.pinned (OpenSpec.ofChange desBackWrong)

/-- 'lockboxlaw03.DesAlike': WHATEVER THE INPUT: true; the input reads as it did. -/
def desAlikeSpec : ChangeSpec := { name := "desAlike", fn := fun _ => fun
  | [d1, d2, d3] => { results := [.lit (.bool true)], args := [d1, d2, d3] }
  | _ => none }
def desAlikeRow : OpenClaim := { program := "ytpedilhijdjeoaadoor", sum := "d34b17092b0885fcdf9149088d73fe3929f79bf414139a9786a03d6a0e2a2c58", func := "lockbox/lockboxlaw03.DesAlike", spec := "desAlike", inPlace := ["internal/reflectlite.ValueOf", "(internal/reflectlite.Value).Type", "(internal/reflectlite.Value).IsNil", "internal/reflectlite.TypeOf", "(internal/reflectlite.Value).Elem", "(internal/reflectlite.Value).Set"], unfollowed := true, recurses := true, named := ["errors.errorType"], apart := false, laid := [("errors.errorType", laid_errors_errorType)] }
def DesAlikeSaid : Prop := desAlikeRow.holds Tryd.pinned (OpenSpec.ofChange desAlikeSpec)

/-- ITS FALSE NEIGHBOUR: 'it returns false'. Refute it at one input. -/
def desAlikeWrong : ChangeSpec := { name := "desAlike", fn := fun _ => fun
  | [d1, d2, d3] => { results := [.lit (.bool false)], args := [d1, d2, d3] }
  | _ => none }
def DesAlikeWrongFalsely : Prop := desAlikeRow.holds Tryd.pinned (OpenSpec.ofChange desAlikeWrong)

/- THE SECOND FORM. 'bulk': how many values and letters a reading holds, each counted each time it is reached (what is shared counts as often as it is met; a slice's spare places count too). A statement '..UptoSaid' is the law's where the arguments, and the package variables that the reading takes, are together of bulk at most 1048576: NARROWER than '..Said'. Prove '..Said' where nothing that the law and all that it calls make is longer than what came in: it says more and counts as full. Else prove '..UptoSaid'. A law counts once. -/
mutual
def uptoBulk {H : Type} : DataW H → Nat
  | .lit (.string bytes) => bytes.length + 1
  | .lit _ => 1
  | .nil => 1
  | .ptr d => uptoBulk d + 1
  | .slice elems spare => uptoBulkAll elems + uptoBulkAll spare + 1
  | .agg parts => uptoBulkAll parts + 1
  | .iface _ d => uptoBulk d + 1
  | .map entries => uptoBulkEntries entries + 1
  | .held _ => 1
def uptoBulkAll {H : Type} : List (DataW H) → Nat
  | [] => 0
  | d :: r => uptoBulk d + uptoBulkAll r
def uptoBulkEntries {H : Type} : List (Lit × DataW H) → Nat
  | [] => 0
  | x :: r => uptoBulkEntry x + uptoBulkEntries r
def uptoBulkEntry {H : Type} : Lit × DataW H → Nat
  | (.string bytes, d) => bytes.length + uptoBulk d + 1
  | (_, d) => uptoBulk d + 1
 end
def uptoSmall : (H : Type) → List (DataW H) → Bool := fun _ ds => decide (uptoBulkAll ds ≤ 1048576)
def OpenSpec.upto (s : _root_.Go.ChangeSpec) : _root_.Go.OpenSpec := { _root_.Go.OpenSpec.ofChange s with cond := some uptoSmall }

/-- 'lockboxlaw03.DesRounds', WHERE WHAT IT READS IS OF BULK AT MOST 1048576: true; the input reads as it did. -/
def desRoundsUptoRow : OpenClaim := { program := "ytpedilhijdjeoaadoor", sum := "d34b17092b0885fcdf9149088d73fe3929f79bf414139a9786a03d6a0e2a2c58", func := "lockbox/lockboxlaw03.DesRounds", spec := "desRounds", inPlace := ["internal/reflectlite.ValueOf", "(internal/reflectlite.Value).Type", "(internal/reflectlite.Value).IsNil", "internal/reflectlite.TypeOf", "(internal/reflectlite.Value).Elem", "(internal/reflectlite.Value).Set"], unfollowed := true, recurses := true, named := ["errors.errorType"], apart := false, laid := [("errors.errorType", laid_errors_errorType)], narrowed := true }
def DesRoundsUptoSaid : Prop := desRoundsUptoRow.holds Tryd.pinned (OpenSpec.upto desRoundsSpec)

/-- 'lockboxlaw03.DesBlocks', WHERE WHAT IT READS IS OF BULK AT MOST 1048576: true; the input reads as it did. -/
def desBlocksUptoRow : OpenClaim := { program := "ytpedilhijdjeoaadoor", sum := "d34b17092b0885fcdf9149088d73fe3929f79bf414139a9786a03d6a0e2a2c58", func := "lockbox/lockboxlaw03.DesBlocks", spec := "desBlocks", inPlace := ["internal/reflectlite.ValueOf", "(internal/reflectlite.Value).Type", "(internal/reflectlite.Value).IsNil", "internal/reflectlite.TypeOf", "(internal/reflectlite.Value).Elem", "(internal/reflectlite.Value).Set"], unfollowed := true, recurses := true, named := ["errors.errorType"], apart := false, laid := [("errors.errorType", laid_errors_errorType)], narrowed := true }
def DesBlocksUptoSaid : Prop := desBlocksUptoRow.holds Tryd.pinned (OpenSpec.upto desBlocksSpec)

/-- 'lockboxlaw03.DesTriples', WHERE WHAT IT READS IS OF BULK AT MOST 1048576: true; the input reads as it did. -/
def desTriplesUptoRow : OpenClaim := { program := "ytpedilhijdjeoaadoor", sum := "d34b17092b0885fcdf9149088d73fe3929f79bf414139a9786a03d6a0e2a2c58", func := "lockbox/lockboxlaw03.DesTriples", spec := "desTriples", inPlace := ["internal/reflectlite.ValueOf", "(internal/reflectlite.Value).Type", "(internal/reflectlite.Value).IsNil", "internal/reflectlite.TypeOf", "(internal/reflectlite.Value).Elem", "(internal/reflectlite.Value).Set"], unfollowed := true, recurses := true, named := ["errors.errorType"], apart := false, laid := [("errors.errorType", laid_errors_errorType)], narrowed := true }
def DesTriplesUptoSaid : Prop := desTriplesUptoRow.holds Tryd.pinned (OpenSpec.upto desTriplesSpec)

/-- 'lockboxlaw03.DesBack', WHERE WHAT IT READS IS OF BULK AT MOST 1048576: true; the input reads as it did. -/
def desBackUptoRow : OpenClaim := { program := "ytpedilhijdjeoaadoor", sum := "d34b17092b0885fcdf9149088d73fe3929f79bf414139a9786a03d6a0e2a2c58", func := "lockbox/lockboxlaw03.DesBack", spec := "desBack", inPlace := ["internal/reflectlite.ValueOf", "(internal/reflectlite.Value).Type", "(internal/reflectlite.Value).IsNil", "internal/reflectlite.TypeOf", "(internal/reflectlite.Value).Elem", "(internal/reflectlite.Value).Set"], unfollowed := true, recurses := true, named := ["errors.errorType"], apart := false, laid := [("errors.errorType", laid_errors_errorType)], narrowed := true }
def DesBackUptoSaid : Prop := desBackUptoRow.holds Tryd.pinned (OpenSpec.upto desBackSpec)

/-- 'lockboxlaw03.DesAlike', WHERE WHAT IT READS IS OF BULK AT MOST 1048576: true; the input reads as it did. -/
def desAlikeUptoRow : OpenClaim := { program := "ytpedilhijdjeoaadoor", sum := "d34b17092b0885fcdf9149088d73fe3929f79bf414139a9786a03d6a0e2a2c58", func := "lockbox/lockboxlaw03.DesAlike", spec := "desAlike", inPlace := ["internal/reflectlite.ValueOf", "(internal/reflectlite.Value).Type", "(internal/reflectlite.Value).IsNil", "internal/reflectlite.TypeOf", "(internal/reflectlite.Value).Elem", "(internal/reflectlite.Value).Set"], unfollowed := true, recurses := true, named := ["errors.errorType"], apart := false, laid := [("errors.errorType", laid_errors_errorType)], narrowed := true }
def DesAlikeUptoSaid : Prop := desAlikeUptoRow.holds Tryd.pinned (OpenSpec.upto desAlikeSpec)

end Rows
end Go.Proofs.YtpedilhijdjeoaaDoor
