/- DigitKeeps answers true at every input: what is handed in stays; what is answered is new memory. Conditions: those of the statement alone. -/
import Derived.Test.YtbadogbkbhopcaaRows
import Derived.Test.YtbadogbkbhopcaaK2
import Derived.Test.YtbadogbkbhopcaaSx3
import Derived.ProofKit
import Derived.OpenShut
import Derived.ChangeOld
import Derived.Below
set_option linter.all false
set_option linter.unusedSectionVars false
namespace Go.Proofs.Ytbadogbkbhopcaa.lawDigitKeeps
open Go Sx Go.ChangeShapes Go.WideShapes Go.ChangeAt Go.RowKit
set_option maxRecDepth 100000
set_option linter.unusedVariables false
theorem own : ownKnob Try.prog.godebug = none := by kernel_rfl
theorem laidOut : laidOutB Try.prog = true := by kernel_rfl
theorem lifted (os : Os) (started : os.Started) (H : Type) (enc : TypeId × Value → H) :
    ReturnsInHanded {} Try.checked os 3 .any (Rows.digitKeepsSpec.pre6 enc Try.prog Try.f3 Rows.digitKeepsRow.domain false) (Rows.digitKeepsSpec.post enc Try.prog Try.f3 false true false false) := by
  refine returnsInHanded_of_change (C := Try.checked) own started (by kernel_rfl) Try.func3
    (ChangeSpec.witness6 (enc := enc) (C := Try.checked) false ⟨#[], #[.slice none 0 0, .string ⟨#[]⟩], []⟩ 8 (by kernel_rfl) (by kernel_rfl) (by kernel_rfl) (by kernel_rfl)) ?_
  intro W base args ds gs before hval0 hW hcnd _
  have hval : ∀ (j : Nat) t v, Try.f3.params[j]? = some t → args[j]? = some v → Value.okWide Try.prog W .any base t v := hval0
  have hW' := hW
  obtain ⟨p, q, hA0, hV0, rfl, hfz, hnd⟩ := hW
  have hA : DataW.TrodAll enc Try.prog W 0 (fun _ => true) true Try.f3.params.toList args.toList ds p := hA0
  have hV : DataW.TrodVars enc Try.prog W (fun _ => true) [] gs q := hV0
  rw [Try.params3] at hA hval
  have hA1 := hA
  obtain ⟨v0, vs0, d0, ds0, p0, q0, hargs, rfl, rfl, h0, r0⟩ := trodAll_cons hA
  obtain ⟨v1, vs1, d1, ds1, p1, q1, rfl, rfl, rfl, h1, r1⟩ := trodAll_cons r0
  obtain ⟨rfl, rfl, rfl⟩ := trodAll_nil r1
  obtain rfl : args = #[v0, v1] := by cases args; simp_all
  obtain ⟨rfl, rfl⟩ := trodVars_none hV
  have c0 := arg_ok h0 (show kindsOf Try.prog 7 22 = some ([.sl 5 [.int .u8]]) by kernel_rfl)
  rw [arg_one (hval 0 22 v0 rfl rfl) (by kernel_rfl)] at c0
  obtain ⟨x0, rows0, V0, R0, k0, m0⟩ := slice_in Try.prog c0.1 rfl (by simp)
  have c1 := arg_ok h1 (show kindsOf Try.prog 7 9 = some ([.str]) by kernel_rfl)
  rw [arg_one (hval 1 9 v1 rfl rfl) (by kernel_rfl)] at c1
  have hctr := keeps_law (vStr (v1)) (colInts rows0 0) (rows0.length : Int) (by simp [colInts]) (bytes_of k0 (j := 0) rfl)
  refine (hctr.law (l := [x0]) (vals := [v0, v1]) (fun v H h r x hx => by subst h; simpa [VRel] using hx) ⟨R0, trivial⟩ (noGlob (by kernel_rfl) (by kernel_rfl)) ⟨V0 _ 0 rfl, ⟨one_in (u := .str (.sym (vStr v1))) c1 rfl _, trivial⟩⟩).mono fun e W' ⟨he, bel⟩ => ?_
  subst he
  exact ⟨_, rfl, _, _, _, [], _, [], hW', trodAll_mk1 (shut_bool Try.underlying4 _), args_done (base := 0) laidOut bel (by kernel_rfl) hA1, rfl, bel.frame _, fun h => by cases h⟩
theorem over : Rows.digitKeepsRow.holds Try.pinned (OpenSpec.ofChange Rows.digitKeepsSpec) :=
  OpenClaim.holds_of_wide 3 Try.f3 rfl rfl rfl rfl rfl rfl rfl ⟨rfl, rfl, rfl, rfl, rfl⟩ rfl rfl rfl rfl rfl (by kernel_rfl) Try.func3 (by kernel_rfl)
    (of_decide_eq_true (by kernel_rfl)) (by unfold Func.isWrapper; first | (rw [if_pos (by decide +kernel)]; kernel_rfl) | (rw [if_neg (by decide +kernel)]; exact ⟨rfl, rfl⟩))
    (fun os started H enc _ => lifted os started H enc)
theorem proved : Rows.DigitKeepsSaid := over
#print axioms proved
end Go.Proofs.Ytbadogbkbhopcaa.lawDigitKeeps
