/- What is handed in to be written stays, and what is read of the bytes is not changed with them. -/
import Derived.Test.YtdenmaiimfnbeaaDoorRows
import Derived.Test.YtdenmaiimfnbeaaDoorK4
import Derived.Test.YtdenmaiimfnbeaaDoorSx3
import Derived.ProofKit
import Derived.OpenShut
import Derived.ChangeOld
import Derived.Below
import Derived.Test.YtdenmaiimfnbeaaDoorCards
import Derived.Test.YtdenmaiimfnbeaaDoorTie
import Derived.SevenTiedAt
import Derived.ChangeSame
import Derived.ChangeVars
import Derived.JoinedOf
import Derived.LaidLaws
import Derived.LaidHandle
import Derived.Stop.Joined
set_option linter.all false
set_option linter.unusedSectionVars false
namespace Go.Proofs.YtdenmaiimfnbeaaDoor.lawWireKeeps
open Go Sx Go.ChangeShapes Go.WideShapes Go.ChangeAt Go.RowKit
set_option maxRecDepth 100000
set_option linter.unusedVariables false
theorem own : ownKnob Tryd.prog.godebug = none := by kernel_rfl
theorem laidOut : laidOutB Tryd.prog = true := by kernel_rfl
def laid : List (String × DataW Unit) := [("errors.errorType", Rows.laid_errors_errorType)]
theorem et : Tryd.prog.globalNamed "errors.errorType" = some 0 := by kernel_rfl
theorem rt : (Tryd.prog.cutTypes.find? (·.1 == "internal/reflectlite.rtype")).map (·.2) = some 89 := by kernel_rfl
theorem oneRow : ((List.range 132).filter fun t => Tryd.prog.rowNamed t [101, 114, 114, 111, 114]) = [30] := by kernel_rfl
theorem firstRow : (List.range Tryd.prog.types.size).find? (fun t => Tryd.prog.rowNamed t [101, 114, 114, 111, 114]) = some 30 := by kernel_rfl
theorem size : Tryd.prog.types.size = 132 := by kernel_rfl
theorem hh : typeHandle Tryd.prog 30 = .pointer (some ⟨1, 30, none⟩) := by kernel_rfl
theorem handle_of_laid {W : World} (h : laidMetH Tryd.prog laid W) : W.cell? ⟨0, 0, none⟩ = some (.iface 89 (.agg #[.pointer (some ⟨1, 30, none⟩)])) := by
  have h' : laidMet Tryd.prog [] W ∧ handlesMet Tryd.prog laid W := h
  obtain ⟨name, u, ty, e1, e2, e3, e4, e5⟩ := h'.2 _ (List.mem_singleton.2 rfl)
  have en : name = [101, 114, 114, 111, 114] := (Option.some.inj e1).symm
  subst en
  obtain rfl := Option.some.inj (rt.symm.trans e2)
  have hm : ty ∈ (List.range 132).filter fun t => Tryd.prog.rowNamed t [101, 114, 114, 111, 114] := List.mem_filter.2 ⟨List.mem_range.2 (by rw [← size]; exact e3), e4⟩
  rw [oneRow] at hm
  obtain rfl := List.mem_singleton.1 hm
  rw [hh] at e5
  simpa using World.var?_cell et e5 0
theorem globs {W : World} (h : laidMetH Tryd.prog laid W) : ∀ g i v, globCell Tryd.prog g i = some v → W.cell? ⟨g, i, none⟩ = some v := by
  have hc := handle_of_laid h
  have hn : Tryd.prog.globalNamed "math/bits.deBruijn64tab" = none := by kernel_rfl
  intro g i v hv
  unfold globCell at hv
  rw [et, rt, firstRow, hn] at hv
  split at hv
  · rename_i hg
    simp only [Option.some.injEq] at hg hv
    obtain ⟨rfl, rfl⟩ := hg
    rw [← hv, hh]; exact hc
  · simp at hv
/-- A world that meets the condition. -/
noncomputable def laidWorld (os : Os) : World :=
  let w0 := World.holding Tryd.prog os ⟨#[], #[], []⟩
  { w0 with heap := w0.heap.modify 0 fun
      | .cells _ t frozen => .cells #[.iface 89 (.agg #[.pointer (some ⟨1, 30, none⟩)])] t frozen
      | o => o }
theorem laidWorld_met (os : Os) (args : Array Value) : laidMetH Tryd.prog laid ((laidWorld os).forCall (fun _ _ => 0) ⟨#[], args, []⟩).memory :=
  laidMetH_of_parts (laidMet_nil _ _) (by kernel_rfl)
theorem lifted (os : Os) (started : os.Started) (H : Type) (enc : TypeId × Value → H) :
    ReturnsInHanded {} Tryd.checked os 4 .any (fun w args => (Rows.wireKeepsSpec.pre enc Tryd.prog Tryd.f4 [] false w args ∧ laidMetH Tryd.prog laid w) ∧ sizedMet enc Tryd.prog Tryd.f4 (OpenSpec.ofChange Rows.wireKeepsSpec) false w args)
      (Rows.wireKeepsSpec.post enc Tryd.prog Tryd.f4 false true false false) := by
  refine returnsInHanded_of_change_and (C := Tryd.checked) (X := fun w _ => laidMetH Tryd.prog laid w) (fun _ _ _ hh h => h.of_heap hh) own started (by kernel_rfl) Tryd.func4
    (ChangeSpec.witness_at (enc := enc) (C := Tryd.checked) (os := os) (X := fun w _ => laidMetH Tryd.prog laid w) false (laidWorld os) #[.agg #[.int .i64 0, .int .i64 0, .int .i64 0, .string ⟨#[]⟩, .string ⟨#[]⟩, .string ⟨#[]⟩, .slice none 0 0]] 8 rfl (by kernel_rfl) (by kernel_rfl) (by kernel_rfl) (by kernel_rfl) (by kernel_rfl) (laidWorld_met os _)) ?_
  intro W base args ds gs before hval0 hW _ _ hL _
  have hval : ∀ (j : Nat) t v, Tryd.f4.params[j]? = some t → args[j]? = some v → Value.okWide Tryd.prog W .any base t v := hval0
  have hW' := hW
  obtain ⟨p, q, hA0, hV0, rfl, hfz, hnd⟩ := hW
  have hA : DataW.TrodAll enc Tryd.prog W 0 (fun _ => true) true Tryd.f4.params.toList args.toList ds p := hA0
  have hV : DataW.TrodVars enc Tryd.prog W (fun _ => true) [] gs q := hV0
  rw [Tryd.params4] at hA hval
  have hA1 := hA
  obtain ⟨v0, vs0, d0, ds0, p0, q0, hargs, rfl, rfl, h0, r0⟩ := trodAll_cons hA
  obtain ⟨rfl, rfl, rfl⟩ := trodAll_nil r0
  obtain rfl : args = #[v0] := by cases args; simp_all
  obtain ⟨rfl, rfl⟩ := trodVars_none hV
  have c0 := arg_ok h0 (show kindsOf Tryd.prog 7 24 = some ([.int .i64, .int .i64, .int .i64, .str, .str, .str, .sl 5 [.int .u8]]) by kernel_rfl)
  obtain ⟨cs0, rfl, e0⟩ := arg_agg (hval 0 24 v0 rfl rfl) (by kernel_rfl)
  rw [e0] at c0
  obtain ⟨x0, rows0, V0, R0, k0, m0⟩ := agg_tail_in Tryd.prog (ks := [.int .i64, .int .i64, .int .i64, .str, .str, .str]) (es := [.int .u8]) (e := 5) c0 rfl (by simp)
  have hctr := keeps_ctr (vInt (cs0.getD 0 undef)) (vInt (cs0.getD 1 undef)) (vInt (cs0.getD 2 undef)) (vStr (cs0.getD 3 undef)) (vStr (cs0.getD 4 undef)) (vStr (cs0.getD 5 undef)) (colInts rows0 0) (rows0.length : Int) (by simp [colInts]) (bytes_of k0 (j := 0) rfl)
  refine (hctr.law (l := [x0]) (vals := [.agg cs0.toArray]) (fun v H h r x hx => by subst h; simpa [VRel] using hx) ⟨R0, trivial⟩ (globs hL) ⟨V0 _ 0 rfl, trivial⟩).mono fun e W' ⟨he, bel⟩ => ?_
  subst he
  exact ⟨_, rfl, _, _, _, [], _, [], hW', trodAll_mk1 (shut_bool Tryd.underlying4 _), args_done (base := 0) laidOut bel (by kernel_rfl) hA1, rfl, bel.frame _, fun h => by cases h⟩
theorem over : Rows.wireKeepsRow.holds Tryd.pinned (OpenSpec.ofChange Rows.wireKeepsSpec) :=
  OpenClaim.holds_of_wide 4 Tryd.f4 rfl rfl rfl rfl rfl rfl rfl ⟨rfl, rfl, rfl, rfl, rfl⟩ rfl rfl rfl rfl rfl (by kernel_rfl) Tryd.func4 (by kernel_rfl)
    (of_decide_eq_true (by kernel_rfl)) (by unfold Func.isWrapper; first | (rw [if_pos (by decide +kernel)]; kernel_rfl) | (rw [if_neg (by decide +kernel)]; exact ⟨rfl, rfl⟩))
    (fun os started H enc _ => lifted os started H enc)
theorem proved : Rows.WireKeepsCardSaid :=
  Claim7.holds_tied_plain_at .later [] [.handle] true (true, "6bd2c6928704e4e715312eeaadb7d794dc83894c5dcad8c559d180c04c0c93b0") true
    over (fun _ h => by cases h) (by kernel_rfl) (fun _ h => by cases h) wireKeeps_row_tie rfl ⟨rfl, rfl⟩ (by kernel_rfl) rfl
    (fun f fn hf hfn => by
      obtain rfl : f = 4 := Option.some.inj ((show Tryd.prog.funcNamed "lockbox/lockboxlaw25.WireKeeps" = some 4 by kernel_rfl).symm.trans hf) |>.symm
      obtain rfl : fn = Tryd.f4 := (Option.some.inj (Tryd.func4.symm.trans hfn)).symm
      refine ⟨by kernel_rfl, fun j t ht => ?_⟩
      rw [Tryd.params4] at ht
      have hall : (#[24] : Array Nat).all (fun t => !Tryd.prog.wantsStandIn t) = true := by kernel_rfl
      rw [Array.all_eq_true] at hall
      obtain ⟨hj, rfl⟩ := Array.getElem?_eq_some_iff.1 ht
      have hq := hall j hj
      show Tryd.prog.wantsStandIn _ = false
      simpa using hq)
    (by kernel_rfl)
#print axioms proved
end Go.Proofs.YtdenmaiimfnbeaaDoor.lawWireKeeps
