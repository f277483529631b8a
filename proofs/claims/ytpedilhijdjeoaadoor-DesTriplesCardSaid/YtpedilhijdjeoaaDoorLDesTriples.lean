/- DesTriples answers true at every input: of whatever key, of whatever length, with TDES, or that it is of another length. Conditions: those of the statement's card alone. -/
import Derived.Test.YtpedilhijdjeoaaDoorRows
import Derived.Test.YtpedilhijdjeoaaDoorK4
import Derived.Test.YtpedilhijdjeoaaDoorSx3
import Derived.ProofKit
import Derived.OpenShut
import Derived.ChangeOld
import Derived.Below
import Derived.Test.YtpedilhijdjeoaaDoorCards
import Derived.Test.YtpedilhijdjeoaaDoorTie
import Derived.SevenTiedAt
import Derived.ChangeSame
import Derived.ChangeVars
import Derived.JoinedOf
import Derived.LaidLaws
import Derived.LaidHandle
import Derived.Stop.Joined
set_option linter.all false
set_option linter.unusedSectionVars false
namespace Go.Proofs.YtpedilhijdjeoaaDoor.lawDesTriples
open Go Sx Go.ChangeShapes Go.WideShapes Go.ChangeAt Go.RowKit
set_option maxRecDepth 100000
set_option linter.unusedVariables false
theorem own : ownKnob Tryd.prog.godebug = none := by kernel_rfl
theorem laidOut : laidOutB Tryd.prog = true := by kernel_rfl
def laid : List (String × DataW Unit) := [("errors.errorType", Rows.laid_errors_errorType)]
theorem et : Tryd.prog.globalNamed "errors.errorType" = some 0 := by kernel_rfl
theorem rt : (Tryd.prog.cutTypes.find? (·.1 == "internal/reflectlite.rtype")).map (·.2) = some 80 := by kernel_rfl
theorem oneRow : ((List.range 123).filter fun t => Tryd.prog.rowNamed t [101, 114, 114, 111, 114]) = [38] := by kernel_rfl
theorem firstRow : (List.range Tryd.prog.types.size).find? (fun t => Tryd.prog.rowNamed t [101, 114, 114, 111, 114]) = some 38 := by kernel_rfl
theorem size : Tryd.prog.types.size = 123 := by kernel_rfl
theorem hh : typeHandle Tryd.prog 38 = .pointer (some ⟨1, 38, none⟩) := by kernel_rfl
theorem handle_of_laid {W : World} (h : laidMetH Tryd.prog laid W) : W.cell? ⟨0, 0, none⟩ = some (.iface 80 (.agg #[.pointer (some ⟨1, 38, none⟩)])) := by
  have h' : laidMet Tryd.prog [] W ∧ handlesMet Tryd.prog laid W := h
  obtain ⟨name, u, ty, e1, e2, e3, e4, e5⟩ := h'.2 _ (List.mem_singleton.2 rfl)
  have en : name = [101, 114, 114, 111, 114] := (Option.some.inj e1).symm
  subst en
  obtain rfl := Option.some.inj (rt.symm.trans e2)
  have hm : ty ∈ (List.range 123).filter fun t => Tryd.prog.rowNamed t [101, 114, 114, 111, 114] := List.mem_filter.2 ⟨List.mem_range.2 (by rw [← size]; exact e3), e4⟩
  rw [oneRow] at hm
  obtain rfl := List.mem_singleton.1 hm
  rw [hh] at e5
  simpa using World.var?_cell et e5 0
theorem globs {W : World} (h : laidMetH Tryd.prog laid W) : ∀ g i v, globCell Tryd.prog g i = some v → W.cell? ⟨g, i, none⟩ = some v := by
  have hc := handle_of_laid h
  have hn : Tryd.prog.globalNamed "math/bits.deBruijn64tab" = none := by kernel_rfl
  intro g i v hv
  unfold globCell at hv
  rw [et, rt, firstRow, hn] at hv
  split at hv
  · rename_i hg
    simp only [Option.some.injEq] at hg hv
    obtain ⟨rfl, rfl⟩ := hg
    rw [← hv, hh]; exact hc
  · simp at hv
/-- A world that meets the condition. -/
noncomputable def laidWorld (os : Os) : World :=
  let w0 := World.holding Tryd.prog os ⟨#[], #[], []⟩
  { w0 with heap := w0.heap.modify 0 fun
      | .cells _ t frozen => .cells #[.iface 80 (.agg #[.pointer (some ⟨1, 38, none⟩)])] t frozen
      | o => o }
theorem laidWorld_met (os : Os) (args : Array Value) : laidMetH Tryd.prog laid ((laidWorld os).forCall (fun _ _ => 0) ⟨#[], args, []⟩).memory :=
  laidMetH_of_parts (laidMet_nil _ _) (by kernel_rfl)
theorem lifted (os : Os) (started : os.Started) (H : Type) (enc : TypeId × Value → H) :
    ReturnsInHanded {} Tryd.checked os 5 .any (fun w args => (Rows.desTriplesSpec.pre enc Tryd.prog Tryd.f5 [] false w args ∧ laidMetH Tryd.prog laid w) ∧ sizedMet enc Tryd.prog Tryd.f5 (OpenSpec.ofChange Rows.desTriplesSpec) false w args)
      (Rows.desTriplesSpec.post enc Tryd.prog Tryd.f5 false true false false) := by
  refine returnsInHanded_of_change_and (C := Tryd.checked) (X := fun w _ => laidMetH Tryd.prog laid w) (fun _ _ _ hh h => h.of_heap hh) own started (by kernel_rfl) Tryd.func5
    (ChangeSpec.witness_at (enc := enc) (C := Tryd.checked) (os := os) (X := fun w _ => laidMetH Tryd.prog laid w) false (laidWorld os) #[.slice none 0 0, .int .u8 0, .agg #[.int .u8 0, .int .u8 0, .int .u8 0, .int .u8 0, .int .u8 0, .int .u8 0, .int .u8 0, .int .u8 0], .bool false] 8 rfl (by kernel_rfl) (by kernel_rfl) (by kernel_rfl) (by kernel_rfl) (by kernel_rfl) (laidWorld_met os _)) ?_
  intro W base args ds gs before hval0 hW _ _ hL _
  have hval : ∀ (j : Nat) t v, Tryd.f5.params[j]? = some t → args[j]? = some v → Value.okWide Tryd.prog W .any base t v := hval0
  have hW' := hW
  obtain ⟨p, q, hA0, hV0, rfl, hfz, hnd⟩ := hW
  have hA : DataW.TrodAll enc Tryd.prog W 0 (fun _ => true) true Tryd.f5.params.toList args.toList ds p := hA0
  have hV : DataW.TrodVars enc Tryd.prog W (fun _ => true) [] gs q := hV0
  rw [Tryd.params5] at hA hval
  have hA1 := hA
  obtain ⟨v0, vs0, d0, ds0, p0, q0, hargs, rfl, rfl, h0, r0⟩ := trodAll_cons hA
  obtain ⟨v1, vs1, d1, ds1, p1, q1, rfl, rfl, rfl, h1, r1⟩ := trodAll_cons r0
  obtain ⟨v2, vs2, d2, ds2, p2, q2, rfl, rfl, rfl, h2, r2⟩ := trodAll_cons r1
  obtain ⟨v3, vs3, d3, ds3, p3, q3, rfl, rfl, rfl, h3, r3⟩ := trodAll_cons r2
  obtain ⟨rfl, rfl, rfl⟩ := trodAll_nil r3
  obtain rfl : args = #[v0, v1, v2, v3] := by cases args; simp_all
  obtain ⟨rfl, rfl⟩ := trodVars_none hV
  have c0 := arg_ok h0 (show kindsOf Tryd.prog 7 28 = some ([.sl 5 [.int .u8]]) by kernel_rfl)
  rw [arg_one (hval 0 28 v0 rfl rfl) (by kernel_rfl)] at c0
  obtain ⟨x0, rows0, V0, R0, k0, m0⟩ := slice_in Tryd.prog c0.1 rfl (by simp)
  have c1 := arg_ok h1 (show kindsOf Tryd.prog 7 5 = some ([.int .u8]) by kernel_rfl)
  rw [arg_one (hval 1 5 v1 rfl rfl) (by kernel_rfl)] at c1
  have c2 := arg_ok h2 (show kindsOf Tryd.prog 7 22 = some (repK 8 [.int .u8]) by kernel_rfl)
  obtain ⟨cs2, rfl, e2⟩ := arg_agg (hval 2 22 v2 rfl rfl) (by kernel_rfl)
  rw [e2] at c2
  obtain ⟨rows2, n2, k2, V2⟩ := array_in c2 rfl
  have c3 := arg_ok h3 (show kindsOf Tryd.prog 7 4 = some ([.bool]) by kernel_rfl)
  rw [arg_one (hval 3 4 v3 rfl rfl) (by kernel_rfl)] at c3
  have hctr := triples_law (colInts rows0 0) (colInts rows2 0) (rows0.length : Int) (vInt (v1)) (vBool (v3)) (by simp [colInts]) (u8_of (cell_wf c1 (j := 0) rfl)) (bytes_of k0 (j := 0) rfl) (by simp [colInts, n2]) (bytes_of k2 (j := 0) rfl)
  refine (hctr.law (l := [x0]) (vals := [v0, v1, .agg cs2.toArray, v3]) (fun v H h r x hx => by subst h; simpa [VRel] using hx) ⟨R0, trivial⟩ (globs hL) ⟨V0 _ 0 rfl, ⟨one_in (u := .int .u8 (.sym (vInt v1))) c1 rfl _, ⟨V2 _, ⟨one_in (u := .sbool (vBool v3)) c3 rfl _, trivial⟩⟩⟩⟩).mono fun e W' ⟨he, bel⟩ => ?_
  subst he
  exact ⟨_, rfl, _, _, _, [], _, [], hW', trodAll_mk1 (shut_bool Tryd.underlying4 _), args_done (base := 0) laidOut bel (by kernel_rfl) hA1, rfl, bel.frame _, fun h => by cases h⟩
theorem over : Rows.desTriplesRow.holds Tryd.pinned (OpenSpec.ofChange Rows.desTriplesSpec) :=
  OpenClaim.holds_of_wide 5 Tryd.f5 rfl rfl rfl rfl rfl rfl rfl ⟨rfl, rfl, rfl, rfl, rfl⟩ rfl rfl rfl rfl rfl (by kernel_rfl) Tryd.func5 (by kernel_rfl)
    (of_decide_eq_true (by kernel_rfl)) (by unfold Func.isWrapper; first | (rw [if_pos (by decide +kernel)]; kernel_rfl) | (rw [if_neg (by decide +kernel)]; exact ⟨rfl, rfl⟩))
    (fun os started H enc _ => lifted os started H enc)
theorem proved : Rows.DesTriplesCardSaid :=
  Claim7.holds_tied_plain_at .later [] [.handle] true (true, "f11664657b01096f49e3a82a561b5ccd3fefc2b5e7c5bc7c9db20d5ff2238b25") true
    over (fun _ h => by cases h) (by kernel_rfl) (fun _ h => by cases h) desTriples_row_tie rfl ⟨rfl, rfl⟩ (by kernel_rfl) rfl
    (fun f fn hf hfn => by
      obtain rfl : f = 5 := Option.some.inj ((show Tryd.prog.funcNamed "lockbox/lockboxlaw03.DesTriples" = some 5 by kernel_rfl).symm.trans hf) |>.symm
      obtain rfl : fn = Tryd.f5 := (Option.some.inj (Tryd.func5.symm.trans hfn)).symm
      refine ⟨by kernel_rfl, fun j t ht => ?_⟩
      rw [Tryd.params5] at ht
      have hall : (#[28, 5, 22, 4] : Array Nat).all (fun t => !Tryd.prog.wantsStandIn t) = true := by kernel_rfl
      rw [Array.all_eq_true] at hall
      obtain ⟨hj, rfl⟩ := Array.getElem?_eq_some_iff.1 ht
      have hq := hall j hj
      show Tryd.prog.wantsStandIn _ = false
      simpa using hq)
    (by kernel_rfl)
#print axioms proved
end Go.Proofs.YtpedilhijdjeoaaDoor.lawDesTriples
