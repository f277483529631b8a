/- DigitBack answers true at every input: bytes that are written in digits are read as they were; what is summed up, taken away again, is what it was; a number with its check digit behind leaves nothing to be filled. Conditions: those of the statement alone. -/
import Derived.Test.YtbadogbkbhopcaaRows
import Derived.Test.YtbadogbkbhopcaaK2
import Derived.Test.YtbadogbkbhopcaaSx3
import Derived.ProofKit
import Derived.OpenShut
import Derived.ChangeOld
import Derived.Below
set_option linter.all false
set_option linter.unusedSectionVars false
namespace Go.Proofs.Ytbadogbkbhopcaa.lawDigitBack
open Go Sx Go.ChangeShapes Go.WideShapes Go.ChangeAt Go.RowKit
set_option maxRecDepth 100000
set_option linter.unusedVariables false
theorem own : ownKnob Try.prog.godebug = none := by kernel_rfl
theorem laidOut : laidOutB Try.prog = true := by kernel_rfl
theorem lifted (os : Os) (started : os.Started) (H : Type) (enc : TypeId × Value → H) :
    ReturnsInHanded {} Try.checked os 4 .any (Rows.digitBackSpec.pre6 enc Try.prog Try.f4 Rows.digitBackRow.domain false) (Rows.digitBackSpec.post enc Try.prog Try.f4 false true false false) := by
  refine returnsInHanded_of_change (C := Try.checked) own started (by kernel_rfl) Try.func4
    (ChangeSpec.witness6 (enc := enc) (C := Try.checked) false ⟨#[], #[.slice none 0 0, .int .u64 0, .int .u64 0], []⟩ 8 (by kernel_rfl) (by kernel_rfl) (by kernel_rfl) (by kernel_rfl)) ?_
  intro W base args ds gs before hval0 hW hcnd _
  have hval : ∀ (j : Nat) t v, Try.f4.params[j]? = some t → args[j]? = some v → Value.okWide Try.prog W .any base t v := hval0
  have hW' := hW
  obtain ⟨p, q, hA0, hV0, rfl, hfz, hnd⟩ := hW
  have hA : DataW.TrodAll enc Try.prog W 0 (fun _ => true) true Try.f4.params.toList args.toList ds p := hA0
  have hV : DataW.TrodVars enc Try.prog W (fun _ => true) [] gs q := hV0
  rw [Try.params4] at hA hval
  have hA1 := hA
  obtain ⟨v0, vs0, d0, ds0, p0, q0, hargs, rfl, rfl, h0, r0⟩ := trodAll_cons hA
  obtain ⟨v1, vs1, d1, ds1, p1, q1, rfl, rfl, rfl, h1, r1⟩ := trodAll_cons r0
  obtain ⟨v2, vs2, d2, ds2, p2, q2, rfl, rfl, rfl, h2, r2⟩ := trodAll_cons r1
  obtain ⟨rfl, rfl, rfl⟩ := trodAll_nil r2
  obtain rfl : args = #[v0, v1, v2] := by cases args; simp_all
  obtain ⟨rfl, rfl⟩ := trodVars_none hV
  have c0 := arg_ok h0 (show kindsOf Try.prog 7 22 = some ([.sl 5 [.int .u8]]) by kernel_rfl)
  rw [arg_one (hval 0 22 v0 rfl rfl) (by kernel_rfl)] at c0
  obtain ⟨x0, rows0, V0, R0, k0, m0⟩ := slice_in Try.prog c0.1 rfl (by simp)
  have c1 := arg_ok h1 (show kindsOf Try.prog 7 32 = some ([.int .u64]) by kernel_rfl)
  rw [arg_one (hval 1 32 v1 rfl rfl) (by kernel_rfl)] at c1
  have c2 := arg_ok h2 (show kindsOf Try.prog 7 32 = some ([.int .u64]) by kernel_rfl)
  rw [arg_one (hval 2 32 v2 rfl rfl) (by kernel_rfl)] at c2
  have hctr := back_law (colInts rows0 0) (rows0.length : Int) (vInt (v1)) (vInt (v2)) (by simp [colInts]) (bytes_of k0 (j := 0) rfl) (u64_of (cell_wf c1 (j := 0) rfl)) (u64_of (cell_wf c2 (j := 0) rfl))
  refine (hctr.law (l := [x0]) (vals := [v0, v1, v2]) (fun v H h r x hx => by subst h; simpa [VRel] using hx) ⟨R0, trivial⟩ (noGlob (by kernel_rfl) (by kernel_rfl)) ⟨V0 _ 0 rfl, ⟨one_in (u := .int .u64 (.sym (vInt v1))) c1 rfl _, ⟨one_in (u := .int .u64 (.sym (vInt v2))) c2 rfl _, trivial⟩⟩⟩).mono fun e W' ⟨he, bel⟩ => ?_
  subst he
  exact ⟨_, rfl, _, _, _, [], _, [], hW', trodAll_mk1 (shut_bool Try.underlying4 _), args_done (base := 0) laidOut bel (by kernel_rfl) hA1, rfl, bel.frame _, fun h => by cases h⟩
theorem over : Rows.digitBackRow.holds Try.pinned (OpenSpec.ofChange Rows.digitBackSpec) :=
  OpenClaim.holds_of_wide 4 Try.f4 rfl rfl rfl rfl rfl rfl rfl ⟨rfl, rfl, rfl, rfl, rfl⟩ rfl rfl rfl rfl rfl (by kernel_rfl) Try.func4 (by kernel_rfl)
    (of_decide_eq_true (by kernel_rfl)) (by unfold Func.isWrapper; first | (rw [if_pos (by decide +kernel)]; kernel_rfl) | (rw [if_neg (by decide +kernel)]; exact ⟨rfl, rfl⟩))
    (fun os started H enc _ => lifted os started H enc)
theorem proved : Rows.DigitBackSaid := over
#print axioms proved
end Go.Proofs.Ytbadogbkbhopcaa.lawDigitBack
