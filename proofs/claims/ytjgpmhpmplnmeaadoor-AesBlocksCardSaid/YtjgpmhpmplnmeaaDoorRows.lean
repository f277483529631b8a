/-
  NARROWER THAN 'FOR EVERY INPUT', by the rows' own cells (each row's printed sentence says how): AesWords: laid · AesBlocks: laid · AesBack: laid · AesKeeps: laid · AesApart: laid.
  DERIVED. THE GIVEN ROWS OF THIS SEAT. 5 by the template 'for every input the law returns true; each argument reads behind the call as it read before'; 0 by the template 'total and deterministic' (their statements: YtjgpmhpmplnmeaaDoorTotals.lean).
  GIVEN WITH THE SEED: the statements are not yours to turn. If you find one false, say at which input.
  Laid BY PROGRAM, IN A SANDBOX (cutbox-rows.mjs): the forced cells as the released guide's own fill.sh prints them over the translation 9a5d59413e78b5ed… (all of the seat's roots in one cut). By AI agents, Wed Nov 11 2026. No macro, syntax, notation, axiom, sorry.
-/
import Derived.Test.YtjgpmhpmplnmeaaDoorChecked
import GoSem.Claim
import GoSem.ClaimJoined
import GoSem.ClaimMapViews
import Derived.JoinedTies
import Derived.KernelRfl
namespace Go.Proofs.YtjgpmhpmplnmeaaDoor
/- THE CELL 'sum', in the pinned program and in every row, IS THE sha256 OF THE DUMP (.gsa) THAT YtjgpmhpmplnmeaaDoorProg.lean LOADS. Nothing in Lean hashes anything: it is a label: what it is worth is what the hold of that sum in a sandbox is worth. -/
noncomputable def Tryd.pinned : Pinned := { name := "ytjgpmhpmplnmeaadoor", sum := "9a5d59413e78b5ed2163109887519950eb3e627415e5b4ed7d1bbf861dc7ac8b", checked := Tryd.checked }
namespace Rows
def none {H : Type} : Left H := { results := [], args := [] }

/- WHAT THE LISTED PACKAGE-LEVEL VARIABLES READ AS WHEN THE CALL BEGINS. Each datum BY PROGRAM (the guide's laid-datum.mjs) off the statement by which the dump's own 'gosem.cut.vars' lays the variable. In a bare row this is a premise. The card (YtjgpmhpmplnmeaaDoorCards.lean) ties it to the program's text. -/
def laid_errors_errorType {H : Type} : DataW H := .iface "internal/reflectlite.rtype" (.agg [.ptr (.lit (.string [101, 114, 114, 111, 114]))])

/-- 'lockboxlaw02.AesWords': WHATEVER THE INPUT: true; the input reads as it did. -/
def aesWordsSpec : ChangeSpec := { name := "aesWords", fn := fun _ => fun
  | [d1, d2] => { results := [.lit (.bool true)], args := [d1, d2] }
  | _ => none }
def aesWordsRow : OpenClaim := { program := "ytjgpmhpmplnmeaadoor", sum := "9a5d59413e78b5ed2163109887519950eb3e627415e5b4ed7d1bbf861dc7ac8b", func := "lockbox/lockboxlaw02.AesWords", spec := "aesWords", inPlace := ["internal/reflectlite.ValueOf", "(internal/reflectlite.Value).Type", "(internal/reflectlite.Value).IsNil", "internal/reflectlite.TypeOf", "(internal/reflectlite.Value).Elem", "(internal/reflectlite.Value).Set"], unfollowed := true, recurses := true, named := ["errors.errorType"], apart := false, laid := [("errors.errorType", laid_errors_errorType)] }
def AesWordsSaid : Prop := aesWordsRow.holds Tryd.pinned (OpenSpec.ofChange aesWordsSpec)

/-- ITS FALSE NEIGHBOUR: 'it returns false'. Refute it at one input. -/
def aesWordsWrong : ChangeSpec := { name := "aesWords", fn := fun _ => fun
  | [d1, d2] => { results := [.lit (.bool false)], args := [d1, d2] }
  | _ => none }
def AesWordsWrongFalsely : Prop := aesWordsRow.holds Tryd.pinned (OpenSpec.ofChange aesWordsWrong)

/-- 'lockboxlaw02.AesBlocks': WHATEVER THE INPUT: true; the input reads as it did. -/
def aesBlocksSpec : ChangeSpec := { name := "aesBlocks", fn := fun _ => fun
  | [d1, d2, d3] => { results := [.lit (.bool true)], args := [d1, d2, d3] }
  | _ => none }
def aesBlocksRow : OpenClaim := { program := "ytjgpmhpmplnmeaadoor", sum := "9a5d59413e78b5ed2163109887519950eb3e627415e5b4ed7d1bbf861dc7ac8b", func := "lockbox/lockboxlaw02.AesBlocks", spec := "aesBlocks", inPlace := ["internal/reflectlite.ValueOf", "(internal/reflectlite.Value).Type", "(internal/reflectlite.Value).IsNil", "internal/reflectlite.TypeOf", "(internal/reflectlite.Value).Elem", "(internal/reflectlite.Value).Set"], unfollowed := true, recurses := true, named := ["errors.errorType"], apart := false, laid := [("errors.errorType", laid_errors_errorType)] }
def AesBlocksSaid : Prop := aesBlocksRow.holds Tryd.pinned (OpenSpec.ofChange aesBlocksSpec)

/-- ITS FALSE NEIGHBOUR: 'it returns false'. Refute it at one input. -/
def aesBlocksWrong : ChangeSpec := { name := "aesBlocks", fn := fun _ => fun
  | [d1, d2, d3] => { results := [.lit (.bool false)], args := [d1, d2, d3] }
  | _ => none }
def AesBlocksWrongFalsely : Prop := aesBlocksRow.holds Tryd.pinned (OpenSpec.ofChange aesBlocksWrong)

/-- 'lockboxlaw02.AesBack': WHATEVER THE INPUT: true; the input reads as it did. -/
def aesBackSpec : ChangeSpec := { name := "aesBack", fn := fun _ => fun
  | [d1, d2, d3] => { results := [.lit (.bool true)], args := [d1, d2, d3] }
  | _ => none }
def aesBackRow : OpenClaim := { program := "ytjgpmhpmplnmeaadoor", sum := "9a5d59413e78b5ed2163109887519950eb3e627415e5b4ed7d1bbf861dc7ac8b", func := "lockbox/lockboxlaw02.AesBack", spec := "aesBack", inPlace := ["internal/reflectlite.ValueOf", "(internal/reflectlite.Value).Type", "(internal/reflectlite.Value).IsNil", "internal/reflectlite.TypeOf", "(internal/reflectlite.Value).Elem", "(internal/reflectlite.Value).Set"], unfollowed := true, recurses := true, named := ["errors.errorType"], apart := false, laid := [("errors.errorType", laid_errors_errorType)] }
def AesBackSaid : Prop := aesBackRow.holds Tryd.pinned (OpenSpec.ofChange aesBackSpec)

/-- ITS FALSE NEIGHBOUR: 'it returns false'. Refute it at one input. -/
def aesBackWrong : ChangeSpec := { name := "aesBack", fn := fun _ => fun
  | [d1, d2, d3] => { results := [.lit (.bool false)], args := [d1, d2, d3] }
  | _ => none }
def AesBackWrongFalsely : Prop := aesBackRow.holds Tryd.pinned (OpenSpec.ofChange aesBackWrong)

/-- 'lockboxlaw02.AesKeeps': WHATEVER THE INPUT: true; the input reads as it did. -/
def aesKeepsSpec : ChangeSpec := { name := "aesKeeps", fn := fun _ => fun
  | [d1, d2] => { results := [.lit (.bool true)], args := [d1, d2] }
  | _ => none }
def aesKeepsRow : OpenClaim := { program := "ytjgpmhpmplnmeaadoor", sum := "9a5d59413e78b5ed2163109887519950eb3e627415e5b4ed7d1bbf861dc7ac8b", func := "lockbox/lockboxlaw02.AesKeeps", spec := "aesKeeps", inPlace := ["internal/reflectlite.ValueOf", "(internal/reflectlite.Value).Type", "(internal/reflectlite.Value).IsNil", "internal/reflectlite.TypeOf", "(internal/reflectlite.Value).Elem", "(internal/reflectlite.Value).Set"], unfollowed := true, recurses := true, named := ["errors.errorType"], apart := false, laid := [("errors.errorType", laid_errors_errorType)] }
def AesKeepsSaid : Prop := aesKeepsRow.holds Tryd.pinned (OpenSpec.ofChange aesKeepsSpec)

/-- ITS FALSE NEIGHBOUR: 'it returns false'. Refute it at one input. -/
def aesKeepsWrong : ChangeSpec := { name := "aesKeeps", fn := fun _ => fun
  | [d1, d2] => { results := [.lit (.bool false)], args := [d1, d2] }
  | _ => none }
def AesKeepsWrongFalsely : Prop := aesKeepsRow.holds Tryd.pinned (OpenSpec.ofChange aesKeepsWrong)

/-- 'lockboxlaw02.AesApart': WHATEVER THE INPUT: true; the input reads as it did. -/
def aesApartSpec : ChangeSpec := { name := "aesApart", fn := fun _ => fun
  | [d1, d2, d3, d4] => { results := [.lit (.bool true)], args := [d1, d2, d3, d4] }
  | _ => none }
def aesApartRow : OpenClaim := { program := "ytjgpmhpmplnmeaadoor", sum := "9a5d59413e78b5ed2163109887519950eb3e627415e5b4ed7d1bbf861dc7ac8b", func := "lockbox/lockboxlaw02.AesApart", spec := "aesApart", inPlace := ["internal/reflectlite.ValueOf", "(internal/reflectlite.Value).Type", "(internal/reflectlite.Value).IsNil", "internal/reflectlite.TypeOf", "(internal/reflectlite.Value).Elem", "(internal/reflectlite.Value).Set"], unfollowed := true, recurses := true, named := ["errors.errorType"], apart := false, laid := [("errors.errorType", laid_errors_errorType)] }
def AesApartSaid : Prop := aesApartRow.holds Tryd.pinned (OpenSpec.ofChange aesApartSpec)

/-- ITS FALSE NEIGHBOUR: 'it returns false'. Refute it at one input. -/
def aesApartWrong : ChangeSpec := { name := "aesApart", fn := fun _ => fun
  | [d1, d2, d3, d4] => { results := [.lit (.bool false)], args := [d1, d2, d3, d4] }
  | _ => none }
def AesApartWrongFalsely : Prop := aesApartRow.holds Tryd.pinned (OpenSpec.ofChange aesApartWrong)

/- THE SECOND FORM. 'bulk': how many values and letters a reading holds, each counted each time it is reached (what is shared counts as often as it is met; a slice's spare places count too). A statement '..UptoSaid' is the law's where the arguments, and the package variables that the reading takes, are together of bulk at most 1048576: NARROWER than '..Said'. Prove '..Said' where nothing that the law and all that it calls make is longer than what came in: it says more and counts as full. Else prove '..UptoSaid'. A law counts once. -/
mutual
def uptoBulk {H : Type} : DataW H → Nat
  | .lit (.string bytes) => bytes.length + 1
  | .lit _ => 1
  | .nil => 1
  | .ptr d => uptoBulk d + 1
  | .slice elems spare => uptoBulkAll elems + uptoBulkAll spare + 1
  | .agg parts => uptoBulkAll parts + 1
  | .iface _ d => uptoBulk d + 1
  | .map entries => uptoBulkEntries entries + 1
  | .held _ => 1
def uptoBulkAll {H : Type} : List (DataW H) → Nat
  | [] => 0
  | d :: r => uptoBulk d + uptoBulkAll r
def uptoBulkEntries {H : Type} : List (Lit × DataW H) → Nat
  | [] => 0
  | x :: r => uptoBulkEntry x + uptoBulkEntries r
def uptoBulkEntry {H : Type} : Lit × DataW H → Nat
  | (.string bytes, d) => bytes.length + uptoBulk d + 1
  | (_, d) => uptoBulk d + 1
 end
def uptoSmall : (H : Type) → List (DataW H) → Bool := fun _ ds => decide (uptoBulkAll ds ≤ 1048576)
def OpenSpec.upto (s : _root_.Go.ChangeSpec) : _root_.Go.OpenSpec := { _root_.Go.OpenSpec.ofChange s with cond := some uptoSmall }

/-- 'lockboxlaw02.AesWords', WHERE WHAT IT READS IS OF BULK AT MOST 1048576: true; the input reads as it did. -/
def aesWordsUptoRow : OpenClaim := { program := "ytjgpmhpmplnmeaadoor", sum := "9a5d59413e78b5ed2163109887519950eb3e627415e5b4ed7d1bbf861dc7ac8b", func := "lockbox/lockboxlaw02.AesWords", spec := "aesWords", inPlace := ["internal/reflectlite.ValueOf", "(internal/reflectlite.Value).Type", "(internal/reflectlite.Value).IsNil", "internal/reflectlite.TypeOf", "(internal/reflectlite.Value).Elem", "(internal/reflectlite.Value).Set"], unfollowed := true, recurses := true, named := ["errors.errorType"], apart := false, laid := [("errors.errorType", laid_errors_errorType)], narrowed := true }
def AesWordsUptoSaid : Prop := aesWordsUptoRow.holds Tryd.pinned (OpenSpec.upto aesWordsSpec)

/-- 'lockboxlaw02.AesBlocks', WHERE WHAT IT READS IS OF BULK AT MOST 1048576: true; the input reads as it did. -/
def aesBlocksUptoRow : OpenClaim := { program := "ytjgpmhpmplnmeaadoor", sum := "9a5d59413e78b5ed2163109887519950eb3e627415e5b4ed7d1bbf861dc7ac8b", func := "lockbox/lockboxlaw02.AesBlocks", spec := "aesBlocks", inPlace := ["internal/reflectlite.ValueOf", "(internal/reflectlite.Value).Type", "(internal/reflectlite.Value).IsNil", "internal/reflectlite.TypeOf", "(internal/reflectlite.Value).Elem", "(internal/reflectlite.Value).Set"], unfollowed := true, recurses := true, named := ["errors.errorType"], apart := false, laid := [("errors.errorType", laid_errors_errorType)], narrowed := true }
def AesBlocksUptoSaid : Prop := aesBlocksUptoRow.holds Tryd.pinned (OpenSpec.upto aesBlocksSpec)

/-- 'lockboxlaw02.AesBack', WHERE WHAT IT READS IS OF BULK AT MOST 1048576: true; the input reads as it did. -/
def aesBackUptoRow : OpenClaim := { program := "ytjgpmhpmplnmeaadoor", sum := "9a5d59413e78b5ed2163109887519950eb3e627415e5b4ed7d1bbf861dc7ac8b", func := "lockbox/lockboxlaw02.AesBack", spec := "aesBack", inPlace := ["internal/reflectlite.ValueOf", "(internal/reflectlite.Value).Type", "(internal/reflectlite.Value).IsNil", "internal/reflectlite.TypeOf", "(internal/reflectlite.Value).Elem", "(internal/reflectlite.Value).Set"], unfollowed := true, recurses := true, named := ["errors.errorType"], apart := false, laid := [("errors.errorType", laid_errors_errorType)], narrowed := true }
def AesBackUptoSaid : Prop := aesBackUptoRow.holds Tryd.pinned (OpenSpec.upto aesBackSpec)

/-- 'lockboxlaw02.AesKeeps', WHERE WHAT IT READS IS OF BULK AT MOST 1048576: true; the input reads as it did. -/
def aesKeepsUptoRow : OpenClaim := { program := "ytjgpmhpmplnmeaadoor", sum := "9a5d59413e78b5ed2163109887519950eb3e627415e5b4ed7d1bbf861dc7ac8b", func := "lockbox/lockboxlaw02.AesKeeps", spec := "aesKeeps", inPlace := ["internal/reflectlite.ValueOf", "(internal/reflectlite.Value).Type", "(internal/reflectlite.Value).IsNil", "internal/reflectlite.TypeOf", "(internal/reflectlite.Value).Elem", "(internal/reflectlite.Value).Set"], unfollowed := true, recurses := true, named := ["errors.errorType"], apart := false, laid := [("errors.errorType", laid_errors_errorType)], narrowed := true }
def AesKeepsUptoSaid : Prop := aesKeepsUptoRow.holds Tryd.pinned (OpenSpec.upto aesKeepsSpec)

/-- 'lockboxlaw02.AesApart', WHERE WHAT IT READS IS OF BULK AT MOST 1048576: true; the input reads as it did. -/
def aesApartUptoRow : OpenClaim := { program := "ytjgpmhpmplnmeaadoor", sum := "9a5d59413e78b5ed2163109887519950eb3e627415e5b4ed7d1bbf861dc7ac8b", func := "lockbox/lockboxlaw02.AesApart", spec := "aesApart", inPlace := ["internal/reflectlite.ValueOf", "(internal/reflectlite.Value).Type", "(internal/reflectlite.Value).IsNil", "internal/reflectlite.TypeOf", "(internal/reflectlite.Value).Elem", "(internal/reflectlite.Value).Set"], unfollowed := true, recurses := true, named := ["errors.errorType"], apart := false, laid := [("errors.errorType", laid_errors_errorType)], narrowed := true }
def AesApartUptoSaid : Prop := aesApartUptoRow.holds Tryd.pinned (OpenSpec.upto aesApartSpec)

end Rows
end Go.Proofs.YtjgpmhpmplnmeaaDoor
