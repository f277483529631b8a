/- SlotReplay answers true at every input: what a table is saved as makes it anew of an empty one, so whatever records came before. Conditions: those of the statement's card alone. -/
import Derived.Test.YtdpfjoojppmpbaaRows
import Derived.Test.YtdpfjoojppmpbaaK1
import Derived.Test.YtdpfjoojppmpbaaSx3
import Derived.ProofKit
import Derived.OpenShut
import Derived.ChangeOld
import Derived.Below
set_option linter.all false
set_option linter.unusedSectionVars false
namespace Go.Proofs.Ytdpfjoojppmpbaa.lawSlotReplay
open Go Sx Go.ChangeShapes Go.WideShapes Go.ChangeAt Go.RowKit
set_option maxRecDepth 100000
set_option linter.unusedVariables false
theorem own : ownKnob Try.prog.godebug = none := by kernel_rfl
theorem laidOut : laidOutB Try.prog = true := by kernel_rfl
theorem lifted (os : Os) (started : os.Started) (H : Type) (enc : TypeId × Value → H) :
    ReturnsInHanded {} Try.checked os 4 .any (Rows.slotReplaySpec.pre6 enc Try.prog Try.f4 Rows.slotReplayRow.domain false) (Rows.slotReplaySpec.post enc Try.prog Try.f4 false true false false) := by
  refine returnsInHanded_of_change (C := Try.checked) own started (by kernel_rfl) Try.func4
    (ChangeSpec.witness6 (enc := enc) (C := Try.checked) false ⟨#[], #[.slice none 0 0], []⟩ 8 (by kernel_rfl) (by kernel_rfl) (by kernel_rfl) (by kernel_rfl)) ?_
  intro W base args ds gs before hval0 hW hcnd _
  have hval : ∀ (j : Nat) t v, Try.f4.params[j]? = some t → args[j]? = some v → Value.okWide Try.prog W .any base t v := hval0
  have hW' := hW
  obtain ⟨p, q, hA0, hV0, rfl, hfz, hnd⟩ := hW
  have hA : DataW.TrodAll enc Try.prog W 0 (fun _ => true) true Try.f4.params.toList args.toList ds p := hA0
  have hV : DataW.TrodVars enc Try.prog W (fun _ => true) [] gs q := hV0
  rw [Try.params4] at hA hval
  have hA1 := hA
  obtain ⟨v0, vs0, d0, ds0, p0, q0, hargs, rfl, rfl, h0, r0⟩ := trodAll_cons hA
  obtain ⟨rfl, rfl, rfl⟩ := trodAll_nil r0
  obtain rfl : args = #[v0] := by cases args; simp_all
  obtain ⟨rfl, rfl⟩ := trodVars_none hV
  have c0 := arg_ok h0 (show kindsOf Try.prog 7 34 = some ([.sl 26 [.sl 5 [.int .u8]]]) by kernel_rfl)
  rw [arg_one (hval 0 34 v0 rfl rfl) (by kernel_rfl)] at c0
  obtain ⟨x0, rows0, V0, R0, k0, m0, n0⟩ := slices_in Try.prog c0.1
  have hctr := replay_ctr rows0 (rows0.length : Int) rfl (fun i => bytes_wf (k0 i))
  refine (hctr.law (l := [x0]) (vals := [v0]) (fun v H h r x hx => by subst h; simpa [VRel] using hx) ⟨R0, trivial⟩ (noGlob (by kernel_rfl) (by kernel_rfl)) ⟨V0 _ 0 rfl, trivial⟩).mono fun e W' ⟨he, bel⟩ => ?_
  subst he
  exact ⟨_, rfl, _, _, _, [], _, [], hW', trodAll_mk1 (shut_bool Try.underlying4 _), args_done (base := 0) laidOut bel (by kernel_rfl) hA1, rfl, bel.frame _, fun h => by cases h⟩
theorem over : Rows.slotReplayRow.holds Try.pinned (OpenSpec.ofChange Rows.slotReplaySpec) :=
  OpenClaim.holds_of_wide 4 Try.f4 rfl rfl rfl rfl rfl rfl rfl ⟨rfl, rfl, rfl, rfl, rfl⟩ rfl rfl rfl rfl rfl (by kernel_rfl) Try.func4 (by kernel_rfl)
    (of_decide_eq_true (by kernel_rfl)) (by unfold Func.isWrapper; first | (rw [if_pos (by decide +kernel)]; kernel_rfl) | (rw [if_neg (by decide +kernel)]; exact ⟨rfl, rfl⟩))
    (fun os started H enc _ => lifted os started H enc)
theorem proved : Rows.SlotReplaySaid := over
#print axioms proved
end Go.Proofs.Ytdpfjoojppmpbaa.lawSlotReplay
