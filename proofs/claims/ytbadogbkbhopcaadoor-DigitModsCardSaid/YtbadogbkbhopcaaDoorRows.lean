/-
  NARROWER THAN 'FOR EVERY INPUT', by the rows' own cells (each row's printed sentence says how): DigitChecks: laid · DigitTables: laid · DigitHexes: laid · DigitMods: laid.
  DERIVED. THE GIVEN ROWS OF THIS SEAT. 4 by the template 'for every input the law returns true; each argument reads behind the call as it read before'; 0 by the template 'total and deterministic' (their statements: YtbadogbkbhopcaaDoorTotals.lean).
  GIVEN WITH THE SEED: the statements are not yours to turn. If you find one false, say at which input.
  Laid BY PROGRAM, IN A SANDBOX (cutbox-rows.mjs): the forced cells as the released guide's own fill.sh prints them over the translation 5e6ee8384be8aa99… (all of the seat's roots in one cut). By AI agents, Wed Nov 11 2026. No macro, syntax, notation, axiom, sorry.
-/
import Derived.Test.YtbadogbkbhopcaaDoorChecked
import GoSem.Claim
import GoSem.ClaimJoined
import GoSem.ClaimMapViews
import Derived.JoinedTies
import Derived.KernelRfl
namespace Go.Proofs.YtbadogbkbhopcaaDoor
/- THE CELL 'sum', in the pinned program and in every row, IS THE sha256 OF THE DUMP (.gsa) THAT YtbadogbkbhopcaaDoorProg.lean LOADS. Nothing in Lean hashes anything: it is a label: what it is worth is what the hold of that sum in a sandbox is worth. -/
noncomputable def Tryd.pinned : Pinned := { name := "ytbadogbkbhopcaadoor", sum := "5e6ee8384be8aa9925852f8ab661d679d6a4080c5777397ebe7eee9985108582", checked := Tryd.checked }
namespace Rows
def none {H : Type} : Left H := { results := [], args := [] }

/- WHAT THE LISTED PACKAGE-LEVEL VARIABLES READ AS WHEN THE CALL BEGINS. Each datum BY PROGRAM (the guide's laid-datum.mjs) off the statement by which the dump's own 'gosem.cut.vars' lays the variable. In a bare row this is a premise. The card (YtbadogbkbhopcaaDoorCards.lean) ties it to the program's text. -/
def laid_errors_errorType {H : Type} : DataW H := .iface "internal/reflectlite.rtype" (.agg [.ptr (.lit (.string [101, 114, 114, 111, 114]))])

/-- 'lockboxlaw08.DigitChecks': WHATEVER THE INPUT: true; the input reads as it did. -/
def digitChecksSpec : ChangeSpec := { name := "digitChecks", fn := fun _ => fun
  | [d] => { results := [.lit (.bool true)], args := [d] }
  | _ => none }
def digitChecksRow : OpenClaim := { program := "ytbadogbkbhopcaadoor", sum := "5e6ee8384be8aa9925852f8ab661d679d6a4080c5777397ebe7eee9985108582", func := "lockbox/lockboxlaw08.DigitChecks", spec := "digitChecks", inPlace := ["internal/bytealg.IndexByteString", "internal/abi.NoEscape", "internal/reflectlite.ValueOf", "(internal/reflectlite.Value).Type", "(internal/reflectlite.Value).IsNil", "internal/reflectlite.TypeOf", "(internal/reflectlite.Value).Elem", "(internal/reflectlite.Value).Set"], unfollowed := true, recurses := true, named := ["errors.errorType"], apart := false, laid := [("errors.errorType", laid_errors_errorType)] }
def DigitChecksSaid : Prop := digitChecksRow.holds Tryd.pinned (OpenSpec.ofChange digitChecksSpec)

/-- ITS FALSE NEIGHBOUR: 'it returns false'. Refute it at one input. -/
def digitChecksWrong : ChangeSpec := { name := "digitChecks", fn := fun _ => fun
  | [d] => { results := [.lit (.bool false)], args := [d] }
  | _ => none }
def DigitChecksWrongFalsely : Prop := digitChecksRow.holds Tryd.pinned (OpenSpec.ofChange digitChecksWrong)

/-- 'lockboxlaw08.DigitTables': WHATEVER THE INPUT: true; the input reads as it did. -/
def digitTablesSpec : ChangeSpec := { name := "digitTables", fn := fun _ => fun
  | [d1, d2] => { results := [.lit (.bool true)], args := [d1, d2] }
  | _ => none }
def digitTablesRow : OpenClaim := { program := "ytbadogbkbhopcaadoor", sum := "5e6ee8384be8aa9925852f8ab661d679d6a4080c5777397ebe7eee9985108582", func := "lockbox/lockboxlaw08.DigitTables", spec := "digitTables", inPlace := ["internal/bytealg.IndexByteString", "internal/abi.NoEscape", "internal/reflectlite.ValueOf", "(internal/reflectlite.Value).Type", "(internal/reflectlite.Value).IsNil", "internal/reflectlite.TypeOf", "(internal/reflectlite.Value).Elem", "(internal/reflectlite.Value).Set"], unfollowed := true, recurses := true, named := ["errors.errorType"], apart := false, laid := [("errors.errorType", laid_errors_errorType)] }
def DigitTablesSaid : Prop := digitTablesRow.holds Tryd.pinned (OpenSpec.ofChange digitTablesSpec)

/-- ITS FALSE NEIGHBOUR: 'it returns false'. Refute it at one input. -/
def digitTablesWrong : ChangeSpec := { name := "digitTables", fn := fun _ => fun
  | [d1, d2] => { results := [.lit (.bool false)], args := [d1, d2] }
  | _ => none }
def DigitTablesWrongFalsely : Prop := digitTablesRow.holds Tryd.pinned (OpenSpec.ofChange digitTablesWrong)

/-- 'lockboxlaw08.DigitHexes': WHATEVER THE INPUT: true; the input reads as it did. -/
def digitHexesSpec : ChangeSpec := { name := "digitHexes", fn := fun _ => fun
  | [d1, d2] => { results := [.lit (.bool true)], args := [d1, d2] }
  | _ => none }
def digitHexesRow : OpenClaim := { program := "ytbadogbkbhopcaadoor", sum := "5e6ee8384be8aa9925852f8ab661d679d6a4080c5777397ebe7eee9985108582", func := "lockbox/lockboxlaw08.DigitHexes", spec := "digitHexes", inPlace := ["internal/bytealg.IndexByteString", "internal/abi.NoEscape", "internal/reflectlite.ValueOf", "(internal/reflectlite.Value).Type", "(internal/reflectlite.Value).IsNil", "internal/reflectlite.TypeOf", "(internal/reflectlite.Value).Elem", "(internal/reflectlite.Value).Set"], unfollowed := true, recurses := true, named := ["errors.errorType"], apart := false, laid := [("errors.errorType", laid_errors_errorType)] }
def DigitHexesSaid : Prop := digitHexesRow.holds Tryd.pinned (OpenSpec.ofChange digitHexesSpec)

/-- ITS FALSE NEIGHBOUR: 'it returns false'. Refute it at one input. -/
def digitHexesWrong : ChangeSpec := { name := "digitHexes", fn := fun _ => fun
  | [d1, d2] => { results := [.lit (.bool false)], args := [d1, d2] }
  | _ => none }
def DigitHexesWrongFalsely : Prop := digitHexesRow.holds Tryd.pinned (OpenSpec.ofChange digitHexesWrong)

/-- 'lockboxlaw08.DigitMods': WHATEVER THE INPUT: true; the input reads as it did. -/
def digitModsSpec : ChangeSpec := { name := "digitMods", fn := fun _ => fun
  | [d1, d2, d3] => { results := [.lit (.bool true)], args := [d1, d2, d3] }
  | _ => none }
def digitModsRow : OpenClaim := { program := "ytbadogbkbhopcaadoor", sum := "5e6ee8384be8aa9925852f8ab661d679d6a4080c5777397ebe7eee9985108582", func := "lockbox/lockboxlaw08.DigitMods", spec := "digitMods", inPlace := ["internal/bytealg.IndexByteString", "internal/abi.NoEscape", "internal/reflectlite.ValueOf", "(internal/reflectlite.Value).Type", "(internal/reflectlite.Value).IsNil", "internal/reflectlite.TypeOf", "(internal/reflectlite.Value).Elem", "(internal/reflectlite.Value).Set"], unfollowed := true, recurses := true, named := ["errors.errorType"], apart := false, laid := [("errors.errorType", laid_errors_errorType)] }
def DigitModsSaid : Prop := digitModsRow.holds Tryd.pinned (OpenSpec.ofChange digitModsSpec)

/-- ITS FALSE NEIGHBOUR: 'it returns false'. Refute it at one input. -/
def digitModsWrong : ChangeSpec := { name := "digitMods", fn := fun _ => fun
  | [d1, d2, d3] => { results := [.lit (.bool false)], args := [d1, d2, d3] }
  | _ => none }
def DigitModsWrongFalsely : Prop := digitModsRow.holds Tryd.pinned (OpenSpec.ofChange digitModsWrong)

/- THE SECOND FORM. 'bulk': how many values and letters a reading holds, each counted each time it is reached (what is shared counts as often as it is met; a slice's spare places count too). A statement '..UptoSaid' is the law's where the arguments, and the package variables that the reading takes, are together of bulk at most 1048576: NARROWER than '..Said'. Prove '..Said' where nothing that the law and all that it calls make is longer than what came in: it says more and counts as full. Else prove '..UptoSaid'. A law counts once. -/
mutual
def uptoBulk {H : Type} : DataW H → Nat
  | .lit (.string bytes) => bytes.length + 1
  | .lit _ => 1
  | .nil => 1
  | .ptr d => uptoBulk d + 1
  | .slice elems spare => uptoBulkAll elems + uptoBulkAll spare + 1
  | .agg parts => uptoBulkAll parts + 1
  | .iface _ d => uptoBulk d + 1
  | .map entries => uptoBulkEntries entries + 1
  | .held _ => 1
def uptoBulkAll {H : Type} : List (DataW H) → Nat
  | [] => 0
  | d :: r => uptoBulk d + uptoBulkAll r
def uptoBulkEntries {H : Type} : List (Lit × DataW H) → Nat
  | [] => 0
  | x :: r => uptoBulkEntry x + uptoBulkEntries r
def uptoBulkEntry {H : Type} : Lit × DataW H → Nat
  | (.string bytes, d) => bytes.length + uptoBulk d + 1
  | (_, d) => uptoBulk d + 1
 end
def uptoSmall : (H : Type) → List (DataW H) → Bool := fun _ ds => decide (uptoBulkAll ds ≤ 1048576)
def OpenSpec.upto (s : _root_.Go.ChangeSpec) : _root_.Go.OpenSpec := { _root_.Go.OpenSpec.ofChange s with cond := some uptoSmall }

/-- 'lockboxlaw08.DigitChecks', WHERE WHAT IT READS IS OF BULK AT MOST 1048576: true; the input reads as it did. -/
def digitChecksUptoRow : OpenClaim := { program := "ytbadogbkbhopcaadoor", sum := "5e6ee8384be8aa9925852f8ab661d679d6a4080c5777397ebe7eee9985108582", func := "lockbox/lockboxlaw08.DigitChecks", spec := "digitChecks", inPlace := ["internal/bytealg.IndexByteString", "internal/abi.NoEscape", "internal/reflectlite.ValueOf", "(internal/reflectlite.Value).Type", "(internal/reflectlite.Value).IsNil", "internal/reflectlite.TypeOf", "(internal/reflectlite.Value).Elem", "(internal/reflectlite.Value).Set"], unfollowed := true, recurses := true, named := ["errors.errorType"], apart := false, laid := [("errors.errorType", laid_errors_errorType)], narrowed := true }
def DigitChecksUptoSaid : Prop := digitChecksUptoRow.holds Tryd.pinned (OpenSpec.upto digitChecksSpec)

/-- 'lockboxlaw08.DigitTables', WHERE WHAT IT READS IS OF BULK AT MOST 1048576: true; the input reads as it did. -/
def digitTablesUptoRow : OpenClaim := { program := "ytbadogbkbhopcaadoor", sum := "5e6ee8384be8aa9925852f8ab661d679d6a4080c5777397ebe7eee9985108582", func := "lockbox/lockboxlaw08.DigitTables", spec := "digitTables", inPlace := ["internal/bytealg.IndexByteString", "internal/abi.NoEscape", "internal/reflectlite.ValueOf", "(internal/reflectlite.Value).Type", "(internal/reflectlite.Value).IsNil", "internal/reflectlite.TypeOf", "(internal/reflectlite.Value).Elem", "(internal/reflectlite.Value).Set"], unfollowed := true, recurses := true, named := ["errors.errorType"], apart := false, laid := [("errors.errorType", laid_errors_errorType)], narrowed := true }
def DigitTablesUptoSaid : Prop := digitTablesUptoRow.holds Tryd.pinned (OpenSpec.upto digitTablesSpec)

/-- 'lockboxlaw08.DigitHexes', WHERE WHAT IT READS IS OF BULK AT MOST 1048576: true; the input reads as it did. -/
def digitHexesUptoRow : OpenClaim := { program := "ytbadogbkbhopcaadoor", sum := "5e6ee8384be8aa9925852f8ab661d679d6a4080c5777397ebe7eee9985108582", func := "lockbox/lockboxlaw08.DigitHexes", spec := "digitHexes", inPlace := ["internal/bytealg.IndexByteString", "internal/abi.NoEscape", "internal/reflectlite.ValueOf", "(internal/reflectlite.Value).Type", "(internal/reflectlite.Value).IsNil", "internal/reflectlite.TypeOf", "(internal/reflectlite.Value).Elem", "(internal/reflectlite.Value).Set"], unfollowed := true, recurses := true, named := ["errors.errorType"], apart := false, laid := [("errors.errorType", laid_errors_errorType)], narrowed := true }
def DigitHexesUptoSaid : Prop := digitHexesUptoRow.holds Tryd.pinned (OpenSpec.upto digitHexesSpec)

/-- 'lockboxlaw08.DigitMods', WHERE WHAT IT READS IS OF BULK AT MOST 1048576: true; the input reads as it did. -/
def digitModsUptoRow : OpenClaim := { program := "ytbadogbkbhopcaadoor", sum := "5e6ee8384be8aa9925852f8ab661d679d6a4080c5777397ebe7eee9985108582", func := "lockbox/lockboxlaw08.DigitMods", spec := "digitMods", inPlace := ["internal/bytealg.IndexByteString", "internal/abi.NoEscape", "internal/reflectlite.ValueOf", "(internal/reflectlite.Value).Type", "(internal/reflectlite.Value).IsNil", "internal/reflectlite.TypeOf", "(internal/reflectlite.Value).Elem", "(internal/reflectlite.Value).Set"], unfollowed := true, recurses := true, named := ["errors.errorType"], apart := false, laid := [("errors.errorType", laid_errors_errorType)], narrowed := true }
def DigitModsUptoSaid : Prop := digitModsUptoRow.holds Tryd.pinned (OpenSpec.upto digitModsSpec)

end Rows
end Go.Proofs.YtbadogbkbhopcaaDoor
