/-
  NARROWER THAN 'FOR EVERY INPUT', by the rows' own cells (each row's printed sentence says how): TapeTakes: laid · TapeDigits: laid · TapeOnce: laid · TapeKeeps: laid.
  DERIVED. THE GIVEN ROWS OF THIS SEAT. 4 by the template 'for every input the law returns true; each argument reads behind the call as it read before'; 0 by the template 'total and deterministic' (their statements: YtmbmdhkfddljjaaDoorTotals.lean).
  GIVEN WITH THE SEED: the statements are not yours to turn. If you find one false, say at which input.
  Laid BY PROGRAM, IN A SANDBOX (cutbox-rows.mjs): the forced cells as the released guide's own fill.sh prints them over the translation 83e4ee85ea42aaa8… (all of the seat's roots in one cut). By AI agents, Wed Nov 11 2026. No macro, syntax, notation, axiom, sorry.
-/
import Derived.Test.YtmbmdhkfddljjaaDoorChecked
import GoSem.Claim
import GoSem.ClaimJoined
import GoSem.ClaimMapViews
import Derived.JoinedTies
import Derived.KernelRfl
namespace Go.Proofs.YtmbmdhkfddljjaaDoor
/- THE CELL 'sum', in the pinned program and in every row, IS THE sha256 OF THE DUMP (.gsa) THAT YtmbmdhkfddljjaaDoorProg.lean LOADS. Nothing in Lean hashes anything: it is a label: what it is worth is what the hold of that sum in a sandbox is worth. -/
noncomputable def Tryd.pinned : Pinned := { name := "ytmbmdhkfddljjaadoor", sum := "83e4ee85ea42aaa8b13d28bebc1c998d19472f6e4c53c71c3b3bca19c04d7e4c", checked := Tryd.checked }
namespace Rows
def none {H : Type} : Left H := { results := [], args := [] }

/- WHAT THE LISTED PACKAGE-LEVEL VARIABLES READ AS WHEN THE CALL BEGINS. Each datum BY PROGRAM (the guide's laid-datum.mjs) off the statement by which the dump's own 'gosem.cut.vars' lays the variable. In a bare row this is a premise. The card (YtmbmdhkfddljjaaDoorCards.lean) ties it to the program's text. -/
def laid_errors_errorType {H : Type} : DataW H := .iface "internal/reflectlite.rtype" (.agg [.ptr (.lit (.string [101, 114, 114, 111, 114]))])

/-- 'lockboxlaw04.TapeTakes': WHATEVER THE INPUT: true; the input reads as it did. -/
def tapeTakesSpec : ChangeSpec := { name := "tapeTakes", fn := fun _ => fun
  | [d1, d2] => { results := [.lit (.bool true)], args := [d1, d2] }
  | _ => none }
def tapeTakesRow : OpenClaim := { program := "ytmbmdhkfddljjaadoor", sum := "83e4ee85ea42aaa8b13d28bebc1c998d19472f6e4c53c71c3b3bca19c04d7e4c", func := "lockbox/lockboxlaw04.TapeTakes", spec := "tapeTakes", inPlace := ["internal/reflectlite.ValueOf", "(internal/reflectlite.Value).Type", "(internal/reflectlite.Value).IsNil", "internal/reflectlite.TypeOf", "(internal/reflectlite.Value).Elem", "(internal/reflectlite.Value).Set"], unfollowed := true, recurses := true, named := ["errors.errorType"], apart := false, laid := [("errors.errorType", laid_errors_errorType)] }
def TapeTakesSaid : Prop := tapeTakesRow.holds Tryd.pinned (OpenSpec.ofChange tapeTakesSpec)

/-- ITS FALSE NEIGHBOUR: 'it returns false'. Refute it at one input. -/
def tapeTakesWrong : ChangeSpec := { name := "tapeTakes", fn := fun _ => fun
  | [d1, d2] => { results := [.lit (.bool false)], args := [d1, d2] }
  | _ => none }
def TapeTakesWrongFalsely : Prop := tapeTakesRow.holds Tryd.pinned (OpenSpec.ofChange tapeTakesWrong)

/-- 'lockboxlaw04.TapeDigits': WHATEVER THE INPUT: true; the input reads as it did. -/
def tapeDigitsSpec : ChangeSpec := { name := "tapeDigits", fn := fun _ => fun
  | [d1, d2] => { results := [.lit (.bool true)], args := [d1, d2] }
  | _ => none }
def tapeDigitsRow : OpenClaim := { program := "ytmbmdhkfddljjaadoor", sum := "83e4ee85ea42aaa8b13d28bebc1c998d19472f6e4c53c71c3b3bca19c04d7e4c", func := "lockbox/lockboxlaw04.TapeDigits", spec := "tapeDigits", inPlace := ["internal/reflectlite.ValueOf", "(internal/reflectlite.Value).Type", "(internal/reflectlite.Value).IsNil", "internal/reflectlite.TypeOf", "(internal/reflectlite.Value).Elem", "(internal/reflectlite.Value).Set"], unfollowed := true, recurses := true, named := ["errors.errorType"], apart := false, laid := [("errors.errorType", laid_errors_errorType)] }
def TapeDigitsSaid : Prop := tapeDigitsRow.holds Tryd.pinned (OpenSpec.ofChange tapeDigitsSpec)

/-- ITS FALSE NEIGHBOUR: 'it returns false'. Refute it at one input. -/
def tapeDigitsWrong : ChangeSpec := { name := "tapeDigits", fn := fun _ => fun
  | [d1, d2] => { results := [.lit (.bool false)], args := [d1, d2] }
  | _ => none }
def TapeDigitsWrongFalsely : Prop := tapeDigitsRow.holds Tryd.pinned (OpenSpec.ofChange tapeDigitsWrong)

/-- 'lockboxlaw04.TapeOnce': WHATEVER THE INPUT: true; the input reads as it did. -/
def tapeOnceSpec : ChangeSpec := { name := "tapeOnce", fn := fun _ => fun
  | [d1, d2] => { results := [.lit (.bool true)], args := [d1, d2] }
  | _ => none }
def tapeOnceRow : OpenClaim := { program := "ytmbmdhkfddljjaadoor", sum := "83e4ee85ea42aaa8b13d28bebc1c998d19472f6e4c53c71c3b3bca19c04d7e4c", func := "lockbox/lockboxlaw04.TapeOnce", spec := "tapeOnce", inPlace := ["internal/reflectlite.ValueOf", "(internal/reflectlite.Value).Type", "(internal/reflectlite.Value).IsNil", "internal/reflectlite.TypeOf", "(internal/reflectlite.Value).Elem", "(internal/reflectlite.Value).Set"], unfollowed := true, recurses := true, named := ["errors.errorType"], apart := false, laid := [("errors.errorType", laid_errors_errorType)] }
def TapeOnceSaid : Prop := tapeOnceRow.holds Tryd.pinned (OpenSpec.ofChange tapeOnceSpec)

/-- ITS FALSE NEIGHBOUR: 'it returns false'. Refute it at one input. -/
def tapeOnceWrong : ChangeSpec := { name := "tapeOnce", fn := fun _ => fun
  | [d1, d2] => { results := [.lit (.bool false)], args := [d1, d2] }
  | _ => none }
def TapeOnceWrongFalsely : Prop := tapeOnceRow.holds Tryd.pinned (OpenSpec.ofChange tapeOnceWrong)

/-- 'lockboxlaw04.TapeKeeps': WHATEVER THE INPUT: true; the input reads as it did. -/
def tapeKeepsSpec : ChangeSpec := { name := "tapeKeeps", fn := fun _ => fun
  | [d] => { results := [.lit (.bool true)], args := [d] }
  | _ => none }
def tapeKeepsRow : OpenClaim := { program := "ytmbmdhkfddljjaadoor", sum := "83e4ee85ea42aaa8b13d28bebc1c998d19472f6e4c53c71c3b3bca19c04d7e4c", func := "lockbox/lockboxlaw04.TapeKeeps", spec := "tapeKeeps", inPlace := ["internal/reflectlite.ValueOf", "(internal/reflectlite.Value).Type", "(internal/reflectlite.Value).IsNil", "internal/reflectlite.TypeOf", "(internal/reflectlite.Value).Elem", "(internal/reflectlite.Value).Set"], unfollowed := true, recurses := true, named := ["errors.errorType"], apart := false, laid := [("errors.errorType", laid_errors_errorType)] }
def TapeKeepsSaid : Prop := tapeKeepsRow.holds Tryd.pinned (OpenSpec.ofChange tapeKeepsSpec)

/-- ITS FALSE NEIGHBOUR: 'it returns false'. Refute it at one input. -/
def tapeKeepsWrong : ChangeSpec := { name := "tapeKeeps", fn := fun _ => fun
  | [d] => { results := [.lit (.bool false)], args := [d] }
  | _ => none }
def TapeKeepsWrongFalsely : Prop := tapeKeepsRow.holds Tryd.pinned (OpenSpec.ofChange tapeKeepsWrong)

/- THE SECOND FORM. 'bulk': how many values and letters a reading holds, each counted each time it is reached (what is shared counts as often as it is met; a slice's spare places count too). A statement '..UptoSaid' is the law's where the arguments, and the package variables that the reading takes, are together of bulk at most 1048576: NARROWER than '..Said'. Prove '..Said' where nothing that the law and all that it calls make is longer than what came in: it says more and counts as full. Else prove '..UptoSaid'. A law counts once. -/
mutual
def uptoBulk {H : Type} : DataW H → Nat
  | .lit (.string bytes) => bytes.length + 1
  | .lit _ => 1
  | .nil => 1
  | .ptr d => uptoBulk d + 1
  | .slice elems spare => uptoBulkAll elems + uptoBulkAll spare + 1
  | .agg parts => uptoBulkAll parts + 1
  | .iface _ d => uptoBulk d + 1
  | .map entries => uptoBulkEntries entries + 1
  | .held _ => 1
def uptoBulkAll {H : Type} : List (DataW H) → Nat
  | [] => 0
  | d :: r => uptoBulk d + uptoBulkAll r
def uptoBulkEntries {H : Type} : List (Lit × DataW H) → Nat
  | [] => 0
  | x :: r => uptoBulkEntry x + uptoBulkEntries r
def uptoBulkEntry {H : Type} : Lit × DataW H → Nat
  | (.string bytes, d) => bytes.length + uptoBulk d + 1
  | (_, d) => uptoBulk d + 1
 end
def uptoSmall : (H : Type) → List (DataW H) → Bool := fun _ ds => decide (uptoBulkAll ds ≤ 1048576)
def OpenSpec.upto (s : _root_.Go.ChangeSpec) : _root_.Go.OpenSpec := { _root_.Go.OpenSpec.ofChange s with cond := some uptoSmall }

/-- 'lockboxlaw04.TapeTakes', WHERE WHAT IT READS IS OF BULK AT MOST 1048576: true; the input reads as it did. -/
def tapeTakesUptoRow : OpenClaim := { program := "ytmbmdhkfddljjaadoor", sum := "83e4ee85ea42aaa8b13d28bebc1c998d19472f6e4c53c71c3b3bca19c04d7e4c", func := "lockbox/lockboxlaw04.TapeTakes", spec := "tapeTakes", inPlace := ["internal/reflectlite.ValueOf", "(internal/reflectlite.Value).Type", "(internal/reflectlite.Value).IsNil", "internal/reflectlite.TypeOf", "(internal/reflectlite.Value).Elem", "(internal/reflectlite.Value).Set"], unfollowed := true, recurses := true, named := ["errors.errorType"], apart := false, laid := [("errors.errorType", laid_errors_errorType)], narrowed := true }
def TapeTakesUptoSaid : Prop := tapeTakesUptoRow.holds Tryd.pinned (OpenSpec.upto tapeTakesSpec)

/-- 'lockboxlaw04.TapeDigits', WHERE WHAT IT READS IS OF BULK AT MOST 1048576: true; the input reads as it did. -/
def tapeDigitsUptoRow : OpenClaim := { program := "ytmbmdhkfddljjaadoor", sum := "83e4ee85ea42aaa8b13d28bebc1c998d19472f6e4c53c71c3b3bca19c04d7e4c", func := "lockbox/lockboxlaw04.TapeDigits", spec := "tapeDigits", inPlace := ["internal/reflectlite.ValueOf", "(internal/reflectlite.Value).Type", "(internal/reflectlite.Value).IsNil", "internal/reflectlite.TypeOf", "(internal/reflectlite.Value).Elem", "(internal/reflectlite.Value).Set"], unfollowed := true, recurses := true, named := ["errors.errorType"], apart := false, laid := [("errors.errorType", laid_errors_errorType)], narrowed := true }
def TapeDigitsUptoSaid : Prop := tapeDigitsUptoRow.holds Tryd.pinned (OpenSpec.upto tapeDigitsSpec)

/-- 'lockboxlaw04.TapeOnce', WHERE WHAT IT READS IS OF BULK AT MOST 1048576: true; the input reads as it did. -/
def tapeOnceUptoRow : OpenClaim := { program := "ytmbmdhkfddljjaadoor", sum := "83e4ee85ea42aaa8b13d28bebc1c998d19472f6e4c53c71c3b3bca19c04d7e4c", func := "lockbox/lockboxlaw04.TapeOnce", spec := "tapeOnce", inPlace := ["internal/reflectlite.ValueOf", "(internal/reflectlite.Value).Type", "(internal/reflectlite.Value).IsNil", "internal/reflectlite.TypeOf", "(internal/reflectlite.Value).Elem", "(internal/reflectlite.Value).Set"], unfollowed := true, recurses := true, named := ["errors.errorType"], apart := false, laid := [("errors.errorType", laid_errors_errorType)], narrowed := true }
def TapeOnceUptoSaid : Prop := tapeOnceUptoRow.holds Tryd.pinned (OpenSpec.upto tapeOnceSpec)

/-- 'lockboxlaw04.TapeKeeps', WHERE WHAT IT READS IS OF BULK AT MOST 1048576: true; the input reads as it did. -/
def tapeKeepsUptoRow : OpenClaim := { program := "ytmbmdhkfddljjaadoor", sum := "83e4ee85ea42aaa8b13d28bebc1c998d19472f6e4c53c71c3b3bca19c04d7e4c", func := "lockbox/lockboxlaw04.TapeKeeps", spec := "tapeKeeps", inPlace := ["internal/reflectlite.ValueOf", "(internal/reflectlite.Value).Type", "(internal/reflectlite.Value).IsNil", "internal/reflectlite.TypeOf", "(internal/reflectlite.Value).Elem", "(internal/reflectlite.Value).Set"], unfollowed := true, recurses := true, named := ["errors.errorType"], apart := false, laid := [("errors.errorType", laid_errors_errorType)], narrowed := true }
def TapeKeepsUptoSaid : Prop := tapeKeepsUptoRow.holds Tryd.pinned (OpenSpec.upto tapeKeepsSpec)

end Rows
end Go.Proofs.YtmbmdhkfddljjaaDoor
