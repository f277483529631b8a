import Derived.Test.YtbadogbkbhopcaaSx3
import Derived.KernelRfl
import Derived.Test.YtbadogbkbhopcaaProg
import Derived.WalkKit
import Derived.RowKitTokens
import Derived.Lib.Strings
import Derived.Lib.Slices
import Derived.Lib.Walk
import Derived.Lib.Builder
import Derived.Lib.UnsafeStr
import Derived.Lib.Bytealg
import Derived.Laws.Externs
set_option linter.all false
set_option linter.unusedSectionVars false
namespace Go.Proofs.Ytbadogbkbhopcaa
open Go Sx
set_option maxRecDepth 100000
def tab : TypeId → Option TyI
  | 2 => some ⟨.int .i64, 1, 8, [.int .i64 0], [], []⟩
  | 3 => some ⟨.int .i64, 1, 8, [.int .i64 0], [], []⟩
  | 4 => some ⟨.bool, 1, 1, [.bool false], [], []⟩
  | 5 => some ⟨.int .u8, 1, 1, [.int .u8 0], [], []⟩
  | 9 => some ⟨.str, 1, 16, [.string ⟨#[]⟩], [], []⟩
  | 12 => some ⟨.int .u64, 1, 8, [.int .u64 0], [], []⟩
  | 13 => some ⟨.struct [(0, 9), (1, 12)], 2, 24, [.string ⟨#[]⟩, .int .u64 0], [], []⟩
  | 20 => some ⟨.iface, 1, 16, [.nilIface], [], []⟩
  | 21 => some ⟨.int .i32, 1, 4, [.int .i32 0], [], []⟩
  | 22 => some ⟨.slice 5, 1, 24, [.slice none 0 0], [], []⟩
  | 26 => some ⟨.iface, 1, 16, [.nilIface], [], []⟩
  | 27 => some ⟨.iface, 1, 16, [.nilIface], [], []⟩
  | 32 => some ⟨.int .u64, 1, 8, [.int .u64 0], [], []⟩
  | 40 => some ⟨.ptr 42, 1, 8, [.pointer none], [], []⟩
  | 41 => some ⟨.struct [(0, 40), (1, 22)], 2, 32, [.pointer none, .slice none 0 0], [], []⟩
  | 42 => some ⟨.struct [(0, 40), (1, 22)], 2, 32, [.pointer none, .slice none 0 0], [], []⟩
  | 44 => some ⟨.int .u64, 1, 8, [.int .u64 0], [], []⟩
  | 48 => some ⟨.int .i64, 1, 8, [.int .i64 0], [], []⟩
  | 51 => some ⟨.slice 9, 1, 24, [.slice none 0 0], [], []⟩
  | 52 => some ⟨.ptr 5, 1, 8, [.pointer none], [], []⟩
  | 53 => some ⟨.ptr 55, 1, 8, [.pointer none], [], []⟩
  | 54 => some ⟨.struct [(0, 3), (1, 27)], 2, 24, [.int .i64 0, .nilIface], [], []⟩
  | 55 => some ⟨.struct [(0, 3), (1, 27)], 2, 24, [.int .i64 0, .nilIface], [], []⟩
  | 64 => some ⟨.int .u32, 1, 4, [.int .u32 0], [], []⟩
  | _ => none
theorem ty2 : TyOk Try.prog 2 ⟨.int .i64, 1, 8, [.int .i64 0], [], []⟩ :=
  TyOk.mk' (by kernel_rfl) (by kernel_rfl) (by kernel_rfl) ((by kernel_rfl : Try.prog.underlying 2 = _)) (fun h => absurd rfl h)
theorem ty3 : TyOk Try.prog 3 ⟨.int .i64, 1, 8, [.int .i64 0], [], []⟩ :=
  TyOk.mk' (by kernel_rfl) (by kernel_rfl) (by kernel_rfl) ((by kernel_rfl : Try.prog.underlying 3 = _)) (fun h => absurd rfl h)
theorem ty4 : TyOk Try.prog 4 ⟨.bool, 1, 1, [.bool false], [], []⟩ :=
  TyOk.mk' (by kernel_rfl) (by kernel_rfl) (by kernel_rfl) ((by kernel_rfl : Try.prog.underlying 4 = _)) (fun h => absurd rfl h)
theorem ty5 : TyOk Try.prog 5 ⟨.int .u8, 1, 1, [.int .u8 0], [], []⟩ :=
  TyOk.mk' (by kernel_rfl) (by kernel_rfl) (by kernel_rfl) ((by kernel_rfl : Try.prog.underlying 5 = _)) (fun h => absurd rfl h)
theorem ty9 : TyOk Try.prog 9 ⟨.str, 1, 16, [.string ⟨#[]⟩], [], []⟩ :=
  TyOk.mk' (by kernel_rfl) (by kernel_rfl) (by kernel_rfl) ((by kernel_rfl : Try.prog.underlying 9 = _)) (fun h => absurd rfl h)
theorem ty12 : TyOk Try.prog 12 ⟨.int .u64, 1, 8, [.int .u64 0], [], []⟩ :=
  TyOk.mk' (by kernel_rfl) (by kernel_rfl) (by kernel_rfl) ((by kernel_rfl : Try.prog.underlying 12 = _)) (fun h => absurd rfl h)
theorem ty13 : TyOk Try.prog 13 ⟨.struct [(0, 9), (1, 12)], 2, 24, [.string ⟨#[]⟩, .int .u64 0], [], []⟩ :=
  TyOk.mk' (by kernel_rfl) (by kernel_rfl) (by kernel_rfl) (⟨Try.prog.fieldsOf 13, by kernel_rfl, by kernel_rfl⟩) (fun h => absurd rfl h)
theorem ty20 : TyOk Try.prog 20 ⟨.iface, 1, 16, [.nilIface], [], []⟩ :=
  TyOk.mk' (by kernel_rfl) (by kernel_rfl) (by kernel_rfl) (DOk.iface_of (by kernel_rfl)) (fun h => absurd rfl h)
theorem ty21 : TyOk Try.prog 21 ⟨.int .i32, 1, 4, [.int .i32 0], [], []⟩ :=
  TyOk.mk' (by kernel_rfl) (by kernel_rfl) (by kernel_rfl) ((by kernel_rfl : Try.prog.underlying 21 = _)) (fun h => absurd rfl h)
theorem ty22 : TyOk Try.prog 22 ⟨.slice 5, 1, 24, [.slice none 0 0], [], []⟩ :=
  TyOk.mk' (by kernel_rfl) (by kernel_rfl) (by kernel_rfl) ((by kernel_rfl : Try.prog.underlying 22 = _)) (fun h => absurd rfl h)
theorem ty26 : TyOk Try.prog 26 ⟨.iface, 1, 16, [.nilIface], [], []⟩ :=
  TyOk.mk' (by kernel_rfl) (by kernel_rfl) (by kernel_rfl) (DOk.iface_of (by kernel_rfl)) (fun h => absurd rfl h)
theorem ty27 : TyOk Try.prog 27 ⟨.iface, 1, 16, [.nilIface], [], []⟩ :=
  TyOk.mk' (by kernel_rfl) (by kernel_rfl) (by kernel_rfl) (DOk.iface_of (by kernel_rfl)) (fun h => absurd rfl h)
theorem ty32 : TyOk Try.prog 32 ⟨.int .u64, 1, 8, [.int .u64 0], [], []⟩ :=
  TyOk.mk' (by kernel_rfl) (by kernel_rfl) (by kernel_rfl) ((by kernel_rfl : Try.prog.underlying 32 = _)) (fun h => absurd rfl h)
theorem ty40 : TyOk Try.prog 40 ⟨.ptr 42, 1, 8, [.pointer none], [], []⟩ :=
  TyOk.mk' (by kernel_rfl) (by kernel_rfl) (by kernel_rfl) ((by kernel_rfl : Try.prog.underlying 40 = _)) (fun h => absurd rfl h)
theorem ty41 : TyOk Try.prog 41 ⟨.struct [(0, 40), (1, 22)], 2, 32, [.pointer none, .slice none 0 0], [], []⟩ :=
  TyOk.mk' (by kernel_rfl) (by kernel_rfl) (by kernel_rfl) (⟨Try.prog.fieldsOf 41, by kernel_rfl, by kernel_rfl⟩) (fun h => absurd rfl h)
theorem ty42 : TyOk Try.prog 42 ⟨.struct [(0, 40), (1, 22)], 2, 32, [.pointer none, .slice none 0 0], [], []⟩ :=
  TyOk.mk' (by kernel_rfl) (by kernel_rfl) (by kernel_rfl) (⟨Try.prog.fieldsOf 42, by kernel_rfl, by kernel_rfl⟩) (fun h => absurd rfl h)
theorem ty44 : TyOk Try.prog 44 ⟨.int .u64, 1, 8, [.int .u64 0], [], []⟩ :=
  TyOk.mk' (by kernel_rfl) (by kernel_rfl) (by kernel_rfl) ((by kernel_rfl : Try.prog.underlying 44 = _)) (fun h => absurd rfl h)
theorem ty48 : TyOk Try.prog 48 ⟨.int .i64, 1, 8, [.int .i64 0], [], []⟩ :=
  TyOk.mk' (by kernel_rfl) (by kernel_rfl) (by kernel_rfl) ((by kernel_rfl : Try.prog.underlying 48 = _)) (fun h => absurd rfl h)
theorem ty51 : TyOk Try.prog 51 ⟨.slice 9, 1, 24, [.slice none 0 0], [], []⟩ :=
  TyOk.mk' (by kernel_rfl) (by kernel_rfl) (by kernel_rfl) ((by kernel_rfl : Try.prog.underlying 51 = _)) (fun h => absurd rfl h)
theorem ty52 : TyOk Try.prog 52 ⟨.ptr 5, 1, 8, [.pointer none], [], []⟩ :=
  TyOk.mk' (by kernel_rfl) (by kernel_rfl) (by kernel_rfl) ((by kernel_rfl : Try.prog.underlying 52 = _)) (fun h => absurd rfl h)
theorem ty53 : TyOk Try.prog 53 ⟨.ptr 55, 1, 8, [.pointer none], [], []⟩ :=
  TyOk.mk' (by kernel_rfl) (by kernel_rfl) (by kernel_rfl) ((by kernel_rfl : Try.prog.underlying 53 = _)) (fun h => absurd rfl h)
theorem ty54 : TyOk Try.prog 54 ⟨.struct [(0, 3), (1, 27)], 2, 24, [.int .i64 0, .nilIface], [], []⟩ :=
  TyOk.mk' (by kernel_rfl) (by kernel_rfl) (by kernel_rfl) (⟨Try.prog.fieldsOf 54, by kernel_rfl, by kernel_rfl⟩) (fun h => absurd rfl h)
theorem ty55 : TyOk Try.prog 55 ⟨.struct [(0, 3), (1, 27)], 2, 24, [.int .i64 0, .nilIface], [], []⟩ :=
  TyOk.mk' (by kernel_rfl) (by kernel_rfl) (by kernel_rfl) (⟨Try.prog.fieldsOf 55, by kernel_rfl, by kernel_rfl⟩) (fun h => absurd rfl h)
theorem ty64 : TyOk Try.prog 64 ⟨.int .u32, 1, 4, [.int .u32 0], [], []⟩ :=
  TyOk.mk' (by kernel_rfl) (by kernel_rfl) (by kernel_rfl) ((by kernel_rfl : Try.prog.underlying 64 = _)) (fun h => absurd rfl h)
theorem tabOk : TabOk Try.prog tab := by
  intro t i h
  unfold tab at h
  split at h
  · cases h; exact ty2
  · cases h; exact ty3
  · cases h; exact ty4
  · cases h; exact ty5
  · cases h; exact ty9
  · cases h; exact ty12
  · cases h; exact ty13
  · cases h; exact ty20
  · cases h; exact ty21
  · cases h; exact ty22
  · cases h; exact ty26
  · cases h; exact ty27
  · cases h; exact ty32
  · cases h; exact ty40
  · cases h; exact ty41
  · cases h; exact ty42
  · cases h; exact ty44
  · cases h; exact ty48
  · cases h; exact ty51
  · cases h; exact ty52
  · cases h; exact ty53
  · cases h; exact ty54
  · cases h; exact ty55
  · cases h; exact ty64
  · cases h
end Go.Proofs.Ytbadogbkbhopcaa
set_option linter.unusedVariables false
namespace Go.Proofs.Ytbadogbkbhopcaa
open Go Go.RowKit
set_option maxRecDepth 100000
namespace Bld
theorem copyCheck_used (b : Nat) (w : World) (h0 : w.cell? ⟨b, 0, none⟩ = some (.pointer (some ⟨b, 0, none⟩))) :
    Calls Try.prog 21 #[.pointer (some ⟨b, 0, none⟩)] w fun e w' => e = .returned (.tuple #[]) ∧ w' = w := by
  obtain ⟨j, hj, _⟩ := Option.map_eq_some_iff.1 (show (Try.prog.info? 42).map (·.size) = some 2 by kernel_rfl)
  go_enter Try.func21, Try.ntmps21
  go_wp2
  rw [Lib.run_neq_ptr_same w _ Try.underlying40 hj]
  go_wp2
  go_end0
  exact ⟨rfl, rfl⟩
theorem copyCheck_fresh (b : Nat) (w : World) (h0 : w.cell? ⟨b, 0, none⟩ = some (.pointer none)) (hsh : w.shape? b = some (42, 2)) (hfz : w.frozen? ⟨b, 0, none⟩ = false) :
    Calls Try.prog 21 #[.pointer (some ⟨b, 0, none⟩)] w fun e w' => e = .returned (.tuple #[]) ∧ w' = w.setCell ⟨b, 0, none⟩ (.pointer (some ⟨b, 0, none⟩)) := by
  obtain ⟨j, hj, hjs⟩ := Option.map_eq_some_iff.1 (show (Try.prog.info? 42).map (·.size) = some 2 by kernel_rfl)
  have lies : liesAt Try.prog Try.prog.depth 42 (2 / Try.prog.cellsOf 42) 0 42 1 = true := by kernel_rfl
  go_enter Try.func21, Try.ntmps21
  go_wp2
  rw [Lib.run_to_unsafe w ⟨b, 0, none⟩ Try.underlying40 Try.underlying56 hj (by rw [hjs]; decide) hsh (Nat.zero_lt_succ 1)]
  simp only [Result.andThen]
  rw [Oper.upon_value]
  go_wp2
  rw [run_callFunc_extern Try.func23 (by kernel_rfl) (by kernel_rfl) (by kernel_rfl) (e := Extern.AbiNoEscape.same) (by kernel_rfl)]
  rw [Lib.run_noEscape]
  simp only [Result.andThen]
  rw [Oper.upon_value]
  go_wp2
  rw [Lib.run_from_unsafe w ⟨b, 0, none⟩ Try.underlying56 Try.underlying40 hj hsh lies]
  simp only [Result.andThen]
  rw [Oper.upon_value]
  go_wp2
  go_end0
  exact ⟨rfl, rfl⟩
theorem indexByte0 (s : ByteArray) (c : Int) (w : World) :
    Calls Try.prog 22 #[.string s, .int .u8 c] w fun e w' => e = .returned (.int .i64 (Lib.indexByte s.data.toList c.toNat.toUInt8)) ∧ w' = w := by
  go_enter Try.func22, Try.ntmps22
  go_wp2
  rw [run_callFunc_extern Try.func24 (by kernel_rfl) (by kernel_rfl) (by kernel_rfl) (e := Extern.BytealgIndexByte.indexByte) (by kernel_rfl), Lib.run_indexByteString]
  simp only [Result.andThen]
  rw [Oper.upon_value]
  go_wp2
  go_ret
  exact ⟨rfl, rfl⟩
theorem string_row (b g cap : Nat) (p : Value) (l : List UInt8) (sz : Nat) (w : World) (h0 : l ≠ []) (hcap : l.length ≤ cap) (hmax : cap ≤ maxLen) (hsz : sz = cap)
    (hbk : w.heap[b]? = some (.cells #[p, .slice (some ⟨g, 0, none⟩) l.length cap] 42 (0, 0))) (hsh : w.shape? g = some (5, sz))
    (hcell : ∀ j x, l[j]? = some x → w.cell? ((⟨g, 0, none⟩ : Addr).add j) = some (.int .u8 x.toNat)) :
    Calls Try.prog 16 #[.pointer (some ⟨b, 0, none⟩)] w fun e w' => e = .returned (.string ⟨l.toArray⟩) ∧ w' = w.drew.freeze ⟨g, 0, none⟩ l.length := by
  have hl0 : l.length ≠ 0 := by simpa using h0
  have c1 : w.drew.cell? ⟨b, 1, none⟩ = some (.slice (some ⟨g, 0, none⟩) l.length cap) := by
    have : w.drew.heap[b]? = some (.cells #[p, .slice (some ⟨g, 0, none⟩) l.length cap] 42 (0, 0)) := hbk
    rw [Lib.cell_of_heap this]; rfl
  have hSD : (Builtin.unsafeSliceData_ #[22] 52 #[.slice (some ⟨g, 0, none⟩) l.length cap]).run Try.prog w.drew = .ok (.pointer (some ⟨g, 0, none⟩)) w.drew :=
    Lib.run_unsafeSliceData_row _ _ _ _ _ _ (by omega)
  have hUS : (Builtin.unsafeString_ #[52, 3] 9 #[.pointer (some ⟨g, 0, none⟩), .int .i64 l.length]).run Try.prog w.drew = .ok (.string ⟨l.toArray⟩) (w.drew.freeze ⟨g, 0, none⟩ l.length) := by
    refine Lib.run_unsafeString_row w.drew 52 3 9 5 Try.underlying52 (by kernel_rfl) g sz hsh l h0 (by omega) (by unfold maxLen at hmax; omega) ?_
    intro j x hx
    exact hcell j x hx
  clear hcell hsh hbk
  go_enter Try.func16, Try.ntmps16
  go_wp2
  go_region
  all_goals (go_wp2; go_ret; exact ⟨rfl, rfl⟩)
theorem unsafeString_none (W : World) (q : Option Addr) : (Builtin.unsafeString_ #[52, 3] 9 #[.pointer q, .int .i64 0]).run Try.prog W = .ok (.string .empty) W :=
  Lib.run_unsafeString_none W _ _ _ q
theorem string_nil (b : Nat) (p : Value) (w : World) (hbk : w.heap[b]? = some (.cells #[p, .slice none 0 0] 42 (0, 0))) :
    Calls Try.prog 16 #[.pointer (some ⟨b, 0, none⟩)] w fun e w' => e = .returned (.string ⟨#[]⟩) ∧ w' = w.drew := by
  have hUS := unsafeString_none
  have c1 : w.drew.cell? ⟨b, 1, none⟩ = some (.slice none 0 0) := by
    have : w.drew.heap[b]? = some (.cells #[p, .slice none 0 0] 42 (0, 0)) := hbk
    rw [Lib.cell_of_heap this]; rfl
  have hSD : (Builtin.unsafeSliceData_ #[22] 52 #[.slice none 0 0]).run Try.prog w.drew = .ok (.pointer none) w.drew := rfl
  clear hbk
  go_enter Try.func16, Try.ntmps16
  go_wp2
  go_region
  all_goals (go_wp2; go_ret; exact ⟨rfl, rfl⟩)
end Bld
end Go.Proofs.Ytbadogbkbhopcaa
namespace Go.Proofs.Ytbadogbkbhopcaa
open Go Sx Go.RowKit
set_option maxRecDepth 100000
set_option maxHeartbeats 2000000
namespace Bld
theorem enterCC : Entered Try.prog 21 := ⟨Try.f21, Try.func21, by kernel_rfl, by kernel_rfl⟩
theorem enterST : Entered Try.prog 16 := ⟨Try.f16, Try.func16, by kernel_rfl, by kernel_rfl⟩
theorem enterSI : Entered Try.prog 22 := ⟨Try.f22, Try.func22, by kernel_rfl, by kernel_rfl⟩
/-- A builder's block, in a world. -/
theorem two_in {r : Rho} {w : World} {own : Own} {p q : V} {E : List Blk} (hg : Sx.Good Try.prog own r (.cells 42 [p, q] :: E) w) :
    ∃ x g a b, r 0 = some x ∧ x.a = some ⟨g, 0, none⟩ ∧ w.heap[g]? = some (.cells #[a, b] 42 (0, 0)) ∧ VRel r p a ∧ VRel r q b ∧ OneCells [a, b] ∧ x.cap = 2 := by
  obtain ⟨z, hz, hb⟩ := hg.rel 0 (by simp [hget])
  simp only [hget, BRel] at hb
  obtain ⟨g, vals, h1, h2, h3, h4, h5⟩ := hb
  obtain ⟨l⟩ := vals
  simp only at h3
  match l, h3 with
  | [a, b], h3 =>
    simp only [VRelL] at h3
    exact ⟨z, g, a, b, hz, h1, h2, h3.1, h3.2.1, h4, h5⟩
theorem self {r : Rho} {x : RA} {g : Nat} {v : Value} (h1 : r 0 = some x) (h2 : x.a = some ⟨g, 0, none⟩) (h : VRel r (.ptr 0 ⟨.lit 0, 1, 0⟩) v) : v = .pointer (some ⟨g, 0, none⟩) := by
  simp only [VRel] at h
  obtain ⟨y, b, hy, hb, _, rfl⟩ := h
  rw [h1] at hy; cases hy
  rw [h2] at hb; cases hb
  simp [Off.nat, Addr.add]
theorem self_mk {r : Rho} {x : RA} {g : Nat} (h1 : r 0 = some x) (h2 : x.a = some ⟨g, 0, none⟩) : VRel r (.ptr 0 ⟨.lit 0, 1, 0⟩) (.pointer (some ⟨g, 0, none⟩)) := by
  simp only [VRel]
  exact ⟨x, ⟨g, 0, none⟩, h1, h2, by simp, by simp [Off.nat, Addr.add]⟩
theorem cc_used (n : Int) (xs : List Int) : Ctr Try.prog 21 [.cells 42 [.ptr 0 ⟨.lit 0, 1, 0⟩, .vec 1 (.sym n)], .cols (.row 1) 5 [.ints .u8 (.sym xs)]] [.ptr 0 ⟨.lit 0, 1, 0⟩] fun v H => v = .tup [] ∧ H = [.cells 42 [.ptr 0 ⟨.lit 0, 1, 0⟩, .vec 1 (.sym n)], .cols (.row 1) 5 [.ints .u8 (.sym xs)]] := by
  refine Ctr.of_below enterCC fun w r vals hg hgl hv => ?_
  obtain ⟨y, rfl, hy⟩ := vrelL_one hv
  obtain ⟨x, g, a, b, h1, h2, h3, h4, h5, _⟩ := two_in hg
  have e1 := self h1 h2 hy
  have e2 := self h1 h2 h4
  subst e1 e2
  exact (copyCheck_used g w (by rw [Lib.cell_of_heap h3]; rfl)).mono fun e w' ⟨p, q⟩ => ⟨_, p, ⟨#[], rfl, trivial⟩, q ▸ Below.refl _ _⟩
theorem cc_fresh : Ctr Try.prog 21 [.cells 42 [.nilp, .nilsl]] [.ptr 0 ⟨.lit 0, 1, 0⟩] fun v H => v = .tup [] ∧ H = [.cells 42 [.ptr 0 ⟨.lit 0, 1, 0⟩, .nilsl]] := by
  refine ⟨enterCC, fun w0 r0 vals hg hgl hv => ?_⟩
  obtain ⟨y, rfl, hy⟩ := vrelL_one hv
  obtain ⟨x, g, a, b, h1, h2, h3, h4, h5, h6, h7⟩ := two_in hg
  have e1 := self h1 h2 hy
  simp only [VRel] at h4 h5
  subst e1 h4 h5
  have hown : (ownOf r0 [.cells 42 [.nilp, .nilsl]] w0).wr g := hg.own 0 x ⟨g, 0, none⟩ rfl h1 h2
  refine (copyCheck_fresh g w0 (by rw [Lib.cell_of_heap h3]; rfl) (by simp [World.shape?, h3]) (Lib.frozen_of_heap h3 0)).mono ?_
  rintro e w ⟨rfl, rfl⟩
  have hs := heap_setCell_same w0 g 0 #[.pointer none, .slice none 0 0] 42 (.pointer (some ⟨g, 0, none⟩)) h3
  refine ⟨_, .tup [], [.cells 42 [.ptr 0 ⟨.lit 0, 1, 0⟩, .nilsl]], r0, rfl, ⟨#[], rfl, trivial⟩, ⟨rfl, rfl⟩, Rho.le_refl _, ?_, ?_⟩
  · have := hg.set (w' := w0.setCell ⟨g, 0, none⟩ (.pointer (some ⟨g, 0, none⟩))) (i := 0) (b := .cells 42 [.ptr 0 ⟨.lit 0, 1, 0⟩, .nilsl]) rfl h1 h2 rfl
      ⟨g, _, h2, hs, ⟨self_mk h1 h2, ⟨rfl, trivial⟩⟩, by intro v hv; simp at hv; rcases hv with rfl | rfl <;> rfl, by simpa using h7⟩
      (fun k hk => heap_setCell_other w0 ⟨g, 0, none⟩ k _ hk) (by simp)
    exact this
  · exact ⟨rfl, rfl, rfl, by simp, fun k _ hk => heap_setCell_other w0 ⟨g, 0, none⟩ k _ (fun e => hk (e ▸ hown))⟩
theorem heap_freeze_other (w : World) (g n k : Nat) (h : k ≠ g) : (w.freeze ⟨g, 0, none⟩ n).heap[k]? = w.heap[k]? := by
  unfold World.freeze
  split
  · rfl
  · simp [Array.getElem?_modify, Ne.symm h]
theorem byte_back {x : Int} (h : 0 ≤ x ∧ x < 256) : ((UInt8.ofNat x.toNat).toNat : Int) = x := by
  have : (UInt8.ofNat x.toNat).toNat = x.toNat % 256 := UInt8.toNat_ofNat'
  omega
theorem st_row (n : Int) (xs : List Int) (s : ByteArray) (hn : n = xs.length) (h0 : 0 < n) (hB : ∀ x ∈ xs, 0 ≤ x ∧ x < 256) (hs : s = strL xs) : Ctr Try.prog 16 [.cells 42 [.ptr 0 ⟨.lit 0, 1, 0⟩, .vec 1 (.sym n)], .cols (.row 1) 5 [.ints .u8 (.sym xs)]] [.ptr 0 ⟨.lit 0, 1, 0⟩] fun v H => v = .str (.sym s) ∧ H = [.dead, .dead] := by
  subst hs
  refine ⟨enterST, fun w0 r0 vals hg hgl hv => ?_⟩
  obtain ⟨y, rfl, hy⟩ := vrelL_one hv
  obtain ⟨x, g, a, b, h1, h2, h3, h4, h5, h6, h7⟩ := two_in hg
  have e1 := self h1 h2 hy
  have e2 := self h1 h2 h4
  subst e1 e2
  obtain ⟨z, hz, hb⟩ := hg.rel 1 (by simp [hget])
  simp only [hget, BRel] at hb
  obtain ⟨vals, q, m, k1, k2, k3, k4, k5⟩ := hb
  obtain ⟨rfl, k7⟩ := colsAt_ints k1
  simp only [Lv.raw] at k4 k5 k7
  rw [List.length_map, Nat.mul_one] at k4
  simp only [VRel] at h5
  obtain ⟨z', m', hz', hm', hle, _, rfl⟩ := h5
  rw [hz] at hz'; cases hz'
  simp only [Iv.val] at hm'
  have hmm : m' = m := by omega
  subst hmm
  have hm0 : 0 < m' := by omega
  obtain ⟨g', cap, cur, p1, p2, p3, p4, p5, p6, p7⟩ : ∃ g cap cur, Value.slice z.a m' z.cap = .slice (some ⟨g, 0, none⟩) m' cap ∧ 0 ≤ g ∧ w0.heap[g]? = some (.cells cur 5 (0, 0)) ∧ m' ≤ cap ∧ cap ≤ maxLen ∧ cur.size = cap * 1 ∧ cur.toList.take (m' * 1) = xs.map (Value.int .u8) := by
    rcases k5.2 with ⟨_, hz0⟩ | ⟨g, cap, cur, hv, r⟩
    · omega
    · exact ⟨g, cap, cur, hv, r⟩
  injection p1 with q1 q2 q3
  subst q3
  have hown : (ownOf r0 [.cells 42 [.ptr 0 ⟨.lit 0, 1, 0⟩, .vec 1 (.sym n)], .cols (.row 1) 5 [.ints .u8 (.sym xs)]] w0).wr g' := hg.own 1 z ⟨g', 0, none⟩ rfl hz q1
  obtain ⟨l, hl⟩ : ∃ l : List UInt8, l = xs.map fun n => UInt8.ofNat n.toNat := ⟨_, rfl⟩
  have hll : l.length = m' := by rw [hl, List.length_map]; exact k4
  have hne : l ≠ [] := by intro h; rw [h] at hll; simp at hll; omega
  rw [q1, ← hll] at h3
  have hcell : ∀ j x, l[j]? = some x → w0.cell? ((⟨g', 0, none⟩ : Addr).add j) = some (.int .u8 x.toNat) := by
    intro j x hx
    have hj : j < l.length := (List.getElem?_eq_some_iff.1 hx).1
    have hjx : j < xs.length := by rw [hl, List.length_map] at hj; exact hj
    have hc : cur[j]? = some (.int .u8 x.toNat) := by
      have : (cur.toList.take (m' * 1))[j]? = (xs.map (Value.int .u8))[j]? := by rw [p7]
      rw [List.getElem?_take_of_lt (by omega), List.getElem?_map, List.getElem?_eq_getElem hjx] at this
      rw [← Array.getElem?_toList, this]
      rw [hl, List.getElem?_map, List.getElem?_eq_getElem hjx] at hx
      simp only [Option.map_some, Option.some.injEq] at hx ⊢
      rw [← hx, byte_back (hB _ (List.getElem_mem hjx))]
    rw [add_mk, Lib.cell_of_heap p3, Nat.zero_add]; exact hc
  refine (string_row g g' z.cap _ l cur.size w0 hne (by omega) p5 (by omega) h3 (by simp [World.shape?, p3]) hcell).mono ?_
  rintro e w ⟨rfl, rfl⟩
  have hbel := Lib.below_freeze (Below.drew (Below.refl 0 w0)) (p := ⟨g', 0, none⟩) (Nat.zero_le _) l.length
  refine ⟨_, .str (.sym (strL xs)), [.dead, .dead], r0, rfl, by simp only [VRel, Sv.val, strL, hl], ⟨rfl, rfl⟩, Rho.le_refl _, ?_, ?_⟩
  · refine ⟨fun i hi => ?_, fun i hi => ?_, fun i x b hm => ?_, fun i j x y b g _ hm => ?_, fun i x g hm => ?_, fun i x g hm => ?_⟩
    · match i, hi with
      | 0, hi => simp [hget] at hi
      | 1, hi => simp [hget] at hi
      | i + 2, hi => exact hg.born (i + 2) (by simp [hget])
    · match i, hi with
      | 0, _ => exact ⟨x, h1, trivial⟩
      | 1, _ => exact ⟨z, hz, trivial⟩
      | i + 2, hi => simp [hget] at hi
    all_goals
      match i, hm with
      | 0, hm => simp [hget, Blk.mut, Blk.live] at hm
      | 1, hm => simp [hget, Blk.mut, Blk.live] at hm
      | i + 2, hm => simp [hget, Blk.mut, Blk.live] at hm
  · exact ⟨hbel.os, hbel.tape, hbel.output, hbel.size, fun k _ hk => heap_freeze_other _ g' _ k (fun e => hk (e ▸ hown))⟩
theorem st_nil : Ctr Try.prog 16 [.cells 42 [.nilp, .nilsl]] [.ptr 0 ⟨.lit 0, 1, 0⟩] fun v H => v = .str (.lit []) ∧ H = [.cells 42 [.nilp, .nilsl]] := by
  refine Ctr.of_below enterST fun w r vals hg hgl hv => ?_
  obtain ⟨y, rfl, hy⟩ := vrelL_one hv
  obtain ⟨x, g, a, b, h1, h2, h3, h4, h5, _⟩ := two_in hg
  have e1 := self h1 h2 hy
  simp only [VRel] at h4 h5
  subst e1 h4 h5
  exact (string_nil g _ w h3).mono fun e w' ⟨p, q⟩ => ⟨_, p, rfl, q ▸ Below.drew (Below.refl _ _)⟩
theorem si_ctr (s : ByteArray) (c n : Int) (hn : n = Lib.indexByte s.data.toList c.toNat.toUInt8) : Ctr Try.prog 22 [] [.str (.sym s), .int .u8 (.sym c)] fun v H => v = .int .i64 (.sym n) ∧ H = [] := by
  refine Ctr.of_below enterSI fun w r vals hg hgl hv => ?_
  match vals, hv with
  | [a, b], hv =>
    simp only [VRelL, VRel, Sv.val, Iv.val] at hv
    obtain ⟨rfl, rfl, _⟩ := hv
    exact (indexByte0 s c w).mono fun e w' ⟨p, q⟩ => ⟨_, p, by rw [hn]; rfl, q ▸ Below.refl _ _⟩
end Bld
end Go.Proofs.Ytbadogbkbhopcaa
set_option linter.unusedVariables false
set_option linter.unusedSimpArgs false
namespace Sx
open Go
set_option maxRecDepth 100000
/-! Digits: what is computed, no program in sight. -/
theorem strL_append (xs ys : List Int) : strL xs ++ strL ys = strL (xs ++ ys) := by
  apply ByteArray.ext
  simp [strL]
theorem strL_nil : strL [] = ⟨#[]⟩ := rfl
theorem size_byteAt (s : ByteArray) : (bytesL s).length = s.size := by rw [bytesL_length]
theorem bytesL_getD (s : ByteArray) (k : Nat) : (bytesL s).getD k 0 = byteAt s k := by
  simp only [bytesL, byteAt, List.getD_eq_getElem?_getD, List.getElem?_map, Int.toNat_natCast]
  cases s.data.toList[k]? <;> rfl
theorem byteAt_bd (s : ByteArray) (i : Int) : 0 ≤ byteAt s i ∧ byteAt s i < 256 := by
  have := (s.data.toList.getD i.toNat 0).toNat_lt
  simp only [byteAt]; omega
theorem byteAt_toNat (s : ByteArray) {i : Int} (h : 0 ≤ i) : byteAt s i = byteAt s (i.toNat : Int) := by rw [Int.toNat_of_nonneg h]
theorem byteAt_strL {xs : List Int} (h : Bytes xs) (i : Int) : byteAt (strL xs) i = xs.getD i.toNat 0 := by
  have := bytesL_getD (strL xs) i.toNat
  rw [bytesL_strL h] at this
  rw [this]
  simp only [byteAt, Int.toNat_natCast]
/-- All bytes, checked. -/
def chk (p : Nat → Bool) (n : Nat) : Bool := (List.range n).all p
theorem chk_at {p : Nat → Bool} {n : Nat} (h : chk p n = true) {x : Int} (h0 : 0 ≤ x) (h1 : x < n) : p x.toNat = true := List.all_eq_true.1 h x.toNat (List.mem_range.2 (by omega))
def val8 (c : Int) : Int := if 48 ≤ c ∧ c ≤ 57 then c - 48 else if 65 ≤ c ∧ c ≤ 70 then c - 55 else 99
def dig (n : Int) : Int := if n < 10 then 48 + n else 55 + n
theorem dig_bd {n : Int} (h0 : 0 ≤ n) (h1 : n < 16) : 0 ≤ dig n ∧ dig n < 256 := by rw [dig]; split <;> omega
theorem val_dig {n : Int} (h0 : 0 ≤ n) (h1 : n < 16) : val8 (dig n) = n := by
  rw [dig, val8]; split <;> (repeat' split) <;> omega
theorem dig_val {c : Int} (h : val8 c < 16) : dig (val8 c) = c := by
  rw [val8] at h ⊢; rw [dig]; (repeat' split) <;> (repeat' split at h) <;> omega
theorem val8_nn (c : Int) : 0 ≤ val8 c := by rw [val8]; (repeat' split) <;> omega
theorem val8_10 {c : Int} : val8 c < 10 ↔ 48 ≤ c ∧ c ≤ 57 := by rw [val8]; (repeat' split) <;> omega
theorem val8_dec {c : Int} (h : val8 c < 10) : val8 c = c - 48 := by rw [val8_10] at h; rw [val8, if_pos h]
def dg16 : List UInt8 := [48, 49, 50, 51, 52, 53, 54, 55, 56, 57, 65, 66, 67, 68, 69, 70]
def dg10 : List UInt8 := [48, 49, 50, 51, 52, 53, 54, 55, 56, 57]
theorem ix16_all : chk (fun c => decide (Lib.indexByte dg16 (UInt8.ofNat c) = if val8 c < 16 then val8 c else -1)) 256 = true := by kernel_rfl
theorem ix10_all : chk (fun c => decide (Lib.indexByte dg10 (UInt8.ofNat c) = if val8 c < 10 then val8 c else -1)) 256 = true := by kernel_rfl
theorem ix16_at {c : Int} (h : 0 ≤ c ∧ c < 256) : Lib.indexByte dg16 c.toNat.toUInt8 = if val8 c < 16 then val8 c else -1 := by
  have := of_decide_eq_true (chk_at ix16_all h.1 h.2)
  rw [Int.toNat_of_nonneg h.1] at this; exact this
theorem ix10_at {c : Int} (h : 0 ≤ c ∧ c < 256) : Lib.indexByte dg10 c.toNat.toUInt8 = if val8 c < 10 then val8 c else -1 := by
  have := of_decide_eq_true (chk_at ix10_all h.1 h.2)
  rw [Int.toNat_of_nonneg h.1] at this; exact this
/-- The first byte that is no digit below a base. -/
def IsFirst (s : ByteArray) (base i : Int) : Prop := (i = -1 ∧ ∀ k : Int, 0 ≤ k → k < s.size → val8 (byteAt s k) < base) ∨ (0 ≤ i ∧ i < s.size ∧ base ≤ val8 (byteAt s i) ∧ ∀ k : Int, 0 ≤ k → k < i → val8 (byteAt s k) < base)
theorem IsFirst.eq {s : ByteArray} {b i j : Int} (h : IsFirst s b i) (g : IsFirst s b j) : i = j := by
  rcases h with ⟨rfl, h⟩ | ⟨h0, h1, h2, h3⟩ <;> rcases g with ⟨rfl, g⟩ | ⟨g0, g1, g2, g3⟩
  · rfl
  · have := h j g0 g1; omega
  · have := g i h0 h1; omega
  · rcases Int.lt_trichotomy i j with e | e | e
    · have := g3 i h0 e; omega
    · exact e
    · have := h3 j g0 e; omega
theorem IsFirst.ge {s : ByteArray} {b i : Int} (h : IsFirst s b i) : -1 ≤ i := by rcases h with ⟨rfl, h⟩ | ⟨h0, _⟩ <;> omega
theorem IsFirst.lt {s : ByteArray} {b i : Int} (h : IsFirst s b i) : i < s.size := by rcases h with ⟨rfl, h⟩ | ⟨h0, h1, _⟩ <;> omega
theorem IsFirst.all {s : ByteArray} {b i : Int} (h : IsFirst s b i) (hi : i < 0) : ∀ k : Int, 0 ≤ k → k < s.size → val8 (byteAt s k) < b := by
  rcases h with ⟨rfl, h⟩ | ⟨h0, _⟩
  · exact h
  · omega
/-- Bytes as digits. -/
def hexL : List Int → List Int
  | [] => []
  | c :: r => dig (c / 16) :: dig (c % 16) :: hexL r
theorem hexL_app (xs ys : List Int) : hexL (xs ++ ys) = hexL xs ++ hexL ys := by
  induction xs with
  | nil => rfl
  | cons a r ih => simp [hexL, ih]
theorem hexL_length (xs : List Int) : (hexL xs).length = 2 * xs.length := by
  induction xs with
  | nil => rfl
  | cons a r ih => simp [hexL, ih]; omega
theorem hexL_bytes {xs : List Int} (h : Bytes xs) : Bytes (hexL xs) := by
  induction xs with
  | nil => intro x hx; simp [hexL] at hx
  | cons a r ih =>
    have ha := h a (by simp)
    intro x hx
    simp only [hexL, List.mem_cons] at hx
    rcases hx with rfl | rfl | hx
    · exact dig_bd (by omega) (by omega)
    · exact dig_bd (by omega) (by omega)
    · exact ih (fun y hy => h y (by simp [hy])) x hx
theorem take_next {xs : List Int} {i : Nat} (h : i < xs.length) : xs.take (i + 1) = xs.take i ++ [xs.getD i 0] := by
  rw [List.take_add_one, List.getElem?_eq_getElem h, List.getD_eq_getElem?_getD, List.getElem?_eq_getElem h]; rfl
theorem hex_next {xs : List Int} {i : Nat} (h : i < xs.length) : hexL (xs.take (i + 1)) = hexL (xs.take i) ++ [dig (xs.getD i 0 / 16), dig (xs.getD i 0 % 16)] := by
  rw [take_next h, hexL_app]; rfl
theorem hexL_at {xs : List Int} : ∀ {i : Nat}, i < xs.length → (hexL xs).getD (2 * i) 0 = dig (xs.getD i 0 / 16) ∧ (hexL xs).getD (2 * i + 1) 0 = dig (xs.getD i 0 % 16) := by
  induction xs with
  | nil => intro i h; simp at h
  | cons a r ih =>
    intro i h
    match i with
    | 0 => exact ⟨rfl, rfl⟩
    | i + 1 =>
      have := ih (i := i) (by simp at h; omega)
      rw [show 2 * (i + 1) = 2 * i + 1 + 1 by omega]
      simpa [hexL] using this
/-- The number of a text's digits that are read together. -/
def unF (s : ByteArray) (j : Nat) : Int := (16 * val8 (byteAt s (2 * j)) + val8 (byteAt s (2 * j + 1))) % 256
def unhexL (s : ByteArray) (n : Nat) : List Int := (List.range n).map (unF s)
theorem unhexL_next (s : ByteArray) (n : Nat) : unhexL s (n + 1) = unhexL s n ++ [unF s n] := by simp [unhexL, List.range_succ]
theorem unhexL_length (s : ByteArray) (n : Nat) : (unhexL s n).length = n := by simp [unhexL]
theorem unhexL_bytes (s : ByteArray) (n : Nat) : Bytes (unhexL s n) := fun x hx => by
  obtain ⟨i, _, rfl⟩ := List.mem_map.1 hx
  rw [unF]; omega
theorem unhex_hex {xs : List Int} (h : Bytes xs) : unhexL (strL (hexL xs)) xs.length = xs := by
  refine list_eq_of_get (by simp [unhexL]) fun k hk => ?_
  have hk' : k < xs.length := by simpa [unhexL] using hk
  have hb := h.get k
  rw [unhexL, List.getD_eq_getElem?_getD, List.getElem?_map, List.getElem?_range hk']
  simp only [Option.map_some, Option.getD_some, unF]
  rw [byteAt_strL (hexL_bytes h), byteAt_strL (hexL_bytes h), show (2 * (k : Int)).toNat = 2 * k by omega, show (2 * (k : Int) + 1).toNat = 2 * k + 1 by omega, (hexL_at hk').1, (hexL_at hk').2, val_dig (by omega) (by omega), val_dig (by omega) (by omega)]
  omega
theorem hex_first {xs : List Int} (h : Bytes xs) {i : Int} (hi : IsFirst (strL (hexL xs)) 16 i) : i = -1 := by
  rcases hi with ⟨rfl, _⟩ | ⟨h0, h1, h2, _⟩
  · rfl
  · rw [size_strL, hexL_length] at h1
    rw [byteAt_strL (hexL_bytes h)] at h2
    have hb := h.get (i.toNat / 2)
    have hat := hexL_at (xs := xs) (i := i.toNat / 2) (by omega)
    rcases Nat.mod_two_eq_zero_or_one i.toNat with e | e
    · rw [show i.toNat = 2 * (i.toNat / 2) by omega, hat.1, val_dig (by omega) (by omega)] at h2; omega
    · rw [show i.toNat = 2 * (i.toNat / 2) + 1 by omega, hat.2, val_dig (by omega) (by omega)] at h2; omega
theorem dg_at {n : Int} (h0 : 0 ≤ n) (h1 : n < 16) : byteAt ⟨dg16.toArray⟩ n = dig n := by
  have : chk (fun n => decide (byteAt ⟨dg16.toArray⟩ n = dig n)) 16 = true := by kernel_rfl
  have := of_decide_eq_true (chk_at this h0 h1)
  rw [Int.toNat_of_nonneg h0] at this; exact this
theorem hi_all : chk (fun c => decide (binI .shr .u8 c 4 = (c : Int) / 16 ∧ binI .and .u8 c 15 = (c : Int) % 16)) 256 = true := by kernel_rfl
theorem hi_at {c : Int} (h : 0 ≤ c ∧ c < 256) : binI .shr .u8 c 4 = c / 16 ∧ binI .and .u8 c 15 = c % 16 := by
  have := of_decide_eq_true (chk_at hi_all h.1 h.2)
  rw [Int.toNat_of_nonneg h.1] at this; exact this
theorem or_all : chk (fun a => chk (fun b => decide (binI .or .i64 (binI .shl .i64 a 4) b = 16 * (a : Int) + b)) 16) 16 = true := by kernel_rfl
theorem or_at {a b : Int} (ha : 0 ≤ a ∧ a < 16) (hb : 0 ≤ b ∧ b < 16) : binI .or .i64 (binI .shl .i64 a 4) b = 16 * a + b := by
  have h := of_decide_eq_true (chk_at (chk_at or_all ha.1 ha.2) hb.1 hb.2)
  rw [Int.toNat_of_nonneg ha.1, Int.toNat_of_nonneg hb.1] at h; exact h
/-- A check digit's sum: the k-th from the end. -/
def luhn (k d : Int) : Int := if k % 2 = 0 then (if 2 * d > 9 then 2 * d - 9 else 2 * d) else d
theorem luhn_eq {k d : Int} (h : 0 ≤ d ∧ d < 10) : luhn k d = (if k % 2 = 0 then 2 * d else d) % 10 + (if k % 2 = 0 then 2 * d else d) / 10 := by
  rw [luhn]; (repeat' split) <;> omega
theorem luhn_bd {k d : Int} (h : 0 ≤ d ∧ d < 10) : 0 ≤ luhn k d ∧ luhn k d < 10 := by
  rw [luhn]; (repeat' split) <;> omega
def sumL (s : ByteArray) : Nat → Int
  | 0 => 0
  | j + 1 => sumL s j + luhn j (val8 (byteAt s ((s.size : Int) - 1 - j)))
theorem sumL_bd {s : ByteArray} (h : ∀ k : Int, 0 ≤ k → k < s.size → val8 (byteAt s k) < 10) : ∀ j : Nat, j ≤ s.size → 0 ≤ sumL s j ∧ sumL s j ≤ 9 * j
  | 0, _ => by simp [sumL]
  | j + 1, hj => by
    have ih := sumL_bd h j (by omega)
    have hb := luhn_bd (k := j) (d := val8 (byteAt s ((s.size : Int) - 1 - j))) ⟨val8_nn _, h _ (by omega) (by omega)⟩
    rw [sumL]; omega
def checkD (s : ByteArray) : Int := 48 + (10 - sumL s s.size % 10) % 10
theorem checkD_bd (s : ByteArray) : 48 ≤ checkD s ∧ checkD s ≤ 57 := by rw [checkD]; omega
/-- Texts summed up. -/
def modF (a b : ByteArray) (back : Bool) (i : Nat) : Int := 48 + (if back = true then val8 (byteAt a i) - val8 (byteAt b i) + 10 else val8 (byteAt a i) + val8 (byteAt b i)) % 10
def modL (a b : ByteArray) (back : Bool) (n : Nat) : List Int := (List.range n).map (modF a b back)
theorem modL_next (a b : ByteArray) (back : Bool) (n : Nat) : modL a b back (n + 1) = modL a b back n ++ [modF a b back n] := by simp [modL, List.range_succ]
theorem modL_length (a b : ByteArray) (back : Bool) (n : Nat) : (modL a b back n).length = n := by simp [modL]
theorem modF_bd (a b : ByteArray) (back : Bool) (i : Nat) : 48 ≤ modF a b back i ∧ modF a b back i ≤ 57 := by rw [modF]; omega
theorem modL_bytes (a b : ByteArray) (back : Bool) (n : Nat) : Bytes (modL a b back n) := fun x hx => by
  obtain ⟨i, _, rfl⟩ := List.mem_map.1 hx
  have := modF_bd a b back i; omega
/-- A text through a table. -/
def thrF (s t : ByteArray) (i : Nat) : Int := byteAt t (val8 (byteAt s i))
def thrL (s t : ByteArray) (n : Nat) : List Int := (List.range n).map (thrF s t)
theorem thrL_next (s t : ByteArray) (n : Nat) : thrL s t (n + 1) = thrL s t n ++ [thrF s t n] := by simp [thrL, List.range_succ]
theorem thrL_length (s t : ByteArray) (n : Nat) : (thrL s t n).length = n := by simp [thrL]
theorem thrL_bytes (s t : ByteArray) (n : Nat) : Bytes (thrL s t n) := fun x hx => by
  obtain ⟨i, _, rfl⟩ := List.mem_map.1 hx
  exact byteAt_bd _ _
theorem size_data (s : ByteArray) : s.size = s.data.toList.length := rfl
theorem sub_one {s : ByteArray} {k : Int} (h0 : 0 ≤ k) (h1 : k < s.size) : s.extract k.toNat (k + 1).toNat = strL [byteAt s k] := by
  have hs := size_data s
  have hk : k.toNat < s.data.toList.length := by omega
  apply ByteArray.ext
  apply Array.ext'
  simp only [ByteArray.data_extract, Array.toList_extract, strL, List.map_cons, List.map_nil, List.extract_eq_take_drop]
  rw [show (k + 1).toNat - k.toNat = 1 by omega, List.take_one, List.head?_drop, List.getElem?_eq_getElem hk]
  simp [byteAt, List.getD_eq_getElem?_getD, List.getElem?_eq_getElem hk]
end Sx
namespace Go.Proofs.Ytbadogbkbhopcaa
open Go Sx
set_option maxRecDepth 100000
set_option maxHeartbeats 4000000
theorem mixed : Try.prog.follows .mixedOrders = true := by kernel_rfl
theorem wb_nil (c : Int) (ys : List Int) (hy : ys = [c]) : Ctr Try.prog 15 [.cells 42 [.nilp, .nilsl]] [.ptr 0 ⟨.lit 0, 1, 0⟩, .int .u8 (.sym c)] fun v H =>
    v = .nilif ∧ H = [.cells 42 [.ptr 0 ⟨.lit 0, 1, 0⟩, .vec 1 (.sym 1)], .cols (.row 1) 5 [.ints .u8 (.sym ys)]] := by
  obtain ⟨uI, uB, uS, uL, uT, hu⟩ := words
  have hm := mixed
  have hT := tabOk
  have hC := @Bld.cc_fresh
  obtain ⟨P, hP⟩ : ∃ P, P = Try.prog := ⟨_, rfl⟩
  rw [← hP] at hm hT hC ⊢
  refine Ctr.weak (ctr_of_vc hu hm hT (hP ▸ Try.func15) rfl (by kernel_rfl) ?_)
  clear hP hm hT
  generalize hR : Weak _ _ = R
  conv => cbv
  repeat' (first | ((with_reducible intro (h : _ = _)); (try subst h); (try simp only [hu.b, hu.i, iB, iI, cmpB, Iv.val_sym, Iv.val_lit, Lv.raw, Tv.raw, decide_eq_true_eq, decide_eq_false_iff_not, beq_iff_eq, beq_eq_false_iff_ne, ne_eq, ofN, Int.toNat_zero, Int.toNat_one, Int.reduceToNat, natc, hu.s, iS, Sv.val_lit, Sv.val_sym, true_iff, false_iff, Bool.false_eq_true, bne_iff_ne, bne_eq_false_iff_eq, Bool.not_eq_true', Bool.not_eq_false', Decidable.not_not, nil_toList, ByteArray.size_empty, nilS, not_true_eq_false, not_false_eq_true, hu.l, iL, hu.t, iT, bin_add, bin_sub, bin_mul, wr_u8, wr_u16, wr_u32, wr_u64, IntKind.wrap_i64, List.length_append, List.length_cons, List.length_nil, List.nil_append, List.append_nil, List.cons_append, lvals, List.length_replicate, List.length_set, linV_val hu, Int.add_zero, Int.zero_add, Int.mul_one, Int.sub_zero, Int.zero_mul, Bool.true_eq_false, false_and, and_false, true_and, and_true, List.all_cons, List.all_nil, id_eq, Bool.and_true] at h) <;> (try simp only [Int.ofNat_eq_natCast] at h) <;> (first | (have hF0 : False := by omega; exact hF0.elim) | (conv => cbv))) | (with_reducible refine And.intro ?_ ?_) | (refine CallVC.mk (Ctr.monoR ?_ (hC)); ((rintro v H ⟨rfl, rfl⟩) <;> (conv => cbv))) | (refine Gen0.mk ?_; (conv => cbv)) | (simp only [hu.b, hu.i, iB, iI, cmpB, Iv.val_sym, Iv.val_lit, Lv.raw, Tv.raw, decide_eq_true_eq, decide_eq_false_iff_not, beq_iff_eq, beq_eq_false_iff_ne, ne_eq, ofN, Int.toNat_zero, Int.toNat_one, Int.reduceToNat, natc, hu.s, iS, Sv.val_lit, Sv.val_sym, true_iff, false_iff, Bool.false_eq_true, bne_iff_ne, bne_eq_false_iff_eq, Bool.not_eq_true', Bool.not_eq_false', Decidable.not_not, nil_toList, ByteArray.size_empty, nilS, not_true_eq_false, not_false_eq_true, hu.l, iL, hu.t, iT, bin_add, bin_sub, bin_mul, wr_u8, wr_u16, wr_u32, wr_u64, IntKind.wrap_i64, List.length_append, List.length_cons, List.length_nil, List.nil_append, List.append_nil, List.cons_append, lvals, List.length_replicate, List.length_set, linV_val hu, Int.add_zero, Int.zero_add, Int.mul_one, Int.sub_zero, Int.zero_mul, Bool.true_eq_false, false_and, and_false, true_and, and_true, List.all_cons, List.all_nil, id_eq, Bool.and_true]; (try simp only [Int.ofNat_eq_natCast]); done) | ((try simp only [hu.b, hu.i, iB, iI, cmpB, Iv.val_sym, Iv.val_lit, Lv.raw, Tv.raw, decide_eq_true_eq, decide_eq_false_iff_not, beq_iff_eq, beq_eq_false_iff_ne, ne_eq, ofN, Int.toNat_zero, Int.toNat_one, Int.reduceToNat, natc, hu.s, iS, Sv.val_lit, Sv.val_sym, true_iff, false_iff, Bool.false_eq_true, bne_iff_ne, bne_eq_false_iff_eq, Bool.not_eq_true', Bool.not_eq_false', Decidable.not_not, nil_toList, ByteArray.size_empty, nilS, not_true_eq_false, not_false_eq_true, hu.l, iL, hu.t, iT, bin_add, bin_sub, bin_mul, wr_u8, wr_u16, wr_u32, wr_u64, IntKind.wrap_i64, List.length_append, List.length_cons, List.length_nil, List.nil_append, List.append_nil, List.cons_append, lvals, List.length_replicate, List.length_set, linV_val hu, Int.add_zero, Int.zero_add, Int.mul_one, Int.sub_zero, Int.zero_mul, Bool.true_eq_false, false_and, and_false, true_and, and_true, List.all_cons, List.all_nil, id_eq, Bool.and_true]) <;> (try simp only [Int.ofNat_eq_natCast]) <;> omega))
  subst hR
  refine Weak.of (⟨rfl, rfl⟩) ?_ ?_ (by rfl)
  all_goals ((conv => cbv); repeat' (first | exact True.intro | with_reducible rfl | (with_reducible exact fun h => h) | (with_reducible refine And.intro ?_ ?_)))
  all_goals
    ((try simp only [hu.b, hu.i, iB, iI, cmpB, Iv.val_sym, Iv.val_lit, Lv.raw, Tv.raw, decide_eq_true_eq, decide_eq_false_iff_not, beq_iff_eq, beq_eq_false_iff_ne, ne_eq, ofN, Int.toNat_zero, Int.toNat_one, Int.reduceToNat, natc, hu.s, iS, Sv.val_lit, Sv.val_sym, true_iff, false_iff, Bool.false_eq_true, bne_iff_ne, bne_eq_false_iff_eq, Bool.not_eq_true', Bool.not_eq_false', Decidable.not_not, nil_toList, ByteArray.size_empty, nilS, not_true_eq_false, not_false_eq_true, hu.l, iL, hu.t, iT, bin_add, bin_sub, bin_mul, wr_u8, wr_u16, wr_u32, wr_u64, IntKind.wrap_i64, List.length_append, List.length_cons, List.length_nil, List.nil_append, List.append_nil, List.cons_append, lvals, List.length_replicate, List.length_set, linV_val hu, Int.add_zero, Int.zero_add, Int.mul_one, Int.sub_zero, Int.zero_mul, Bool.true_eq_false, false_and, and_false, true_and, and_true, List.all_cons, List.all_nil, id_eq, Bool.and_true]) <;> (try simp only [Int.ofNat_eq_natCast]) <;> (try omega))
  all_goals exact hy.symm
theorem wb_row (n c m : Int) (xs ys : List Int) (hn : n = xs.length) (h9 : n ≤ 1000000) (hm1 : m = n + 1) (hy : ys = xs ++ [c]) : Ctr Try.prog 15 [.cells 42 [.ptr 0 ⟨.lit 0, 1, 0⟩, .vec 1 (.sym n)], .cols (.row 1) 5 [.ints .u8 (.sym xs)]] [.ptr 0 ⟨.lit 0, 1, 0⟩, .int .u8 (.sym c)] fun v H =>
    v = .nilif ∧ H = [.cells 42 [.ptr 0 ⟨.lit 0, 1, 0⟩, .vec 2 (.sym m)], .dead, .cols (.row 1) 5 [.ints .u8 (.sym ys)]] := by
  obtain ⟨uI, uB, uS, uL, uT, hu⟩ := words
  have hm := mixed
  have hT := tabOk
  have hC := @Bld.cc_used
  obtain ⟨P, hP⟩ : ∃ P, P = Try.prog := ⟨_, rfl⟩
  rw [← hP] at hm hT hC ⊢
  refine Ctr.weak (ctr_of_vc hu hm hT (hP ▸ Try.func15) rfl (by kernel_rfl) ?_)
  clear hP hm hT
  generalize hR : Weak _ _ = R
  conv => cbv
  repeat' (first | ((with_reducible intro (h : _ = _)); (try subst h); (try simp only [hu.b, hu.i, iB, iI, cmpB, Iv.val_sym, Iv.val_lit, Lv.raw, Tv.raw, decide_eq_true_eq, decide_eq_false_iff_not, beq_iff_eq, beq_eq_false_iff_ne, ne_eq, ofN, Int.toNat_zero, Int.toNat_one, Int.reduceToNat, natc, hu.s, iS, Sv.val_lit, Sv.val_sym, true_iff, false_iff, Bool.false_eq_true, bne_iff_ne, bne_eq_false_iff_eq, Bool.not_eq_true', Bool.not_eq_false', Decidable.not_not, nil_toList, ByteArray.size_empty, nilS, not_true_eq_false, not_false_eq_true, hu.l, iL, hu.t, iT, bin_add, bin_sub, bin_mul, wr_u8, wr_u16, wr_u32, wr_u64, IntKind.wrap_i64, List.length_append, List.length_cons, List.length_nil, List.nil_append, List.append_nil, List.cons_append, lvals, List.length_replicate, List.length_set, linV_val hu, Int.add_zero, Int.zero_add, Int.mul_one, Int.sub_zero, Int.zero_mul, Bool.true_eq_false, false_and, and_false, true_and, and_true, List.all_cons, List.all_nil, id_eq, Bool.and_true] at h) <;> (try simp only [Int.ofNat_eq_natCast] at h) <;> (first | (have hF0 : False := by omega; exact hF0.elim) | (conv => cbv))) | (with_reducible refine And.intro ?_ ?_) | (refine CallVC.mk (Ctr.monoR ?_ (hC _ _)); ((rintro v H ⟨rfl, rfl⟩) <;> (conv => cbv))) | (refine Gen0.mk ?_; (conv => cbv)) | (simp only [hu.b, hu.i, iB, iI, cmpB, Iv.val_sym, Iv.val_lit, Lv.raw, Tv.raw, decide_eq_true_eq, decide_eq_false_iff_not, beq_iff_eq, beq_eq_false_iff_ne, ne_eq, ofN, Int.toNat_zero, Int.toNat_one, Int.reduceToNat, natc, hu.s, iS, Sv.val_lit, Sv.val_sym, true_iff, false_iff, Bool.false_eq_true, bne_iff_ne, bne_eq_false_iff_eq, Bool.not_eq_true', Bool.not_eq_false', Decidable.not_not, nil_toList, ByteArray.size_empty, nilS, not_true_eq_false, not_false_eq_true, hu.l, iL, hu.t, iT, bin_add, bin_sub, bin_mul, wr_u8, wr_u16, wr_u32, wr_u64, IntKind.wrap_i64, List.length_append, List.length_cons, List.length_nil, List.nil_append, List.append_nil, List.cons_append, lvals, List.length_replicate, List.length_set, linV_val hu, Int.add_zero, Int.zero_add, Int.mul_one, Int.sub_zero, Int.zero_mul, Bool.true_eq_false, false_and, and_false, true_and, and_true, List.all_cons, List.all_nil, id_eq, Bool.and_true]; (try simp only [Int.ofNat_eq_natCast]); done) | ((try simp only [hu.b, hu.i, iB, iI, cmpB, Iv.val_sym, Iv.val_lit, Lv.raw, Tv.raw, decide_eq_true_eq, decide_eq_false_iff_not, beq_iff_eq, beq_eq_false_iff_ne, ne_eq, ofN, Int.toNat_zero, Int.toNat_one, Int.reduceToNat, natc, hu.s, iS, Sv.val_lit, Sv.val_sym, true_iff, false_iff, Bool.false_eq_true, bne_iff_ne, bne_eq_false_iff_eq, Bool.not_eq_true', Bool.not_eq_false', Decidable.not_not, nil_toList, ByteArray.size_empty, nilS, not_true_eq_false, not_false_eq_true, hu.l, iL, hu.t, iT, bin_add, bin_sub, bin_mul, wr_u8, wr_u16, wr_u32, wr_u64, IntKind.wrap_i64, List.length_append, List.length_cons, List.length_nil, List.nil_append, List.append_nil, List.cons_append, lvals, List.length_replicate, List.length_set, linV_val hu, Int.add_zero, Int.zero_add, Int.mul_one, Int.sub_zero, Int.zero_mul, Bool.true_eq_false, false_and, and_false, true_and, and_true, List.all_cons, List.all_nil, id_eq, Bool.and_true]) <;> (try simp only [Int.ofNat_eq_natCast]) <;> omega))
  subst hR
  refine Weak.of (⟨rfl, rfl⟩) ?_ ?_ (by rfl)
  all_goals ((conv => cbv); repeat' (first | exact True.intro | with_reducible rfl | (with_reducible exact fun h => h) | (with_reducible refine And.intro ?_ ?_)))
  all_goals
    ((try simp only [hu.b, hu.i, iB, iI, cmpB, Iv.val_sym, Iv.val_lit, Lv.raw, Tv.raw, decide_eq_true_eq, decide_eq_false_iff_not, beq_iff_eq, beq_eq_false_iff_ne, ne_eq, ofN, Int.toNat_zero, Int.toNat_one, Int.reduceToNat, natc, hu.s, iS, Sv.val_lit, Sv.val_sym, true_iff, false_iff, Bool.false_eq_true, bne_iff_ne, bne_eq_false_iff_eq, Bool.not_eq_true', Bool.not_eq_false', Decidable.not_not, nil_toList, ByteArray.size_empty, nilS, not_true_eq_false, not_false_eq_true, hu.l, iL, hu.t, iT, bin_add, bin_sub, bin_mul, wr_u8, wr_u16, wr_u32, wr_u64, IntKind.wrap_i64, List.length_append, List.length_cons, List.length_nil, List.nil_append, List.append_nil, List.cons_append, lvals, List.length_replicate, List.length_set, linV_val hu, Int.add_zero, Int.zero_add, Int.mul_one, Int.sub_zero, Int.zero_mul, Bool.true_eq_false, false_and, and_false, true_and, and_true, List.all_cons, List.all_nil, id_eq, Bool.and_true]) <;> (try simp only [Int.ofNat_eq_natCast]) <;> (try omega))
  all_goals first | exact hy.symm | omega
theorem ib_ctr (s : ByteArray) (c n : Int) (hn : n = Lib.indexByte s.data.toList c.toNat.toUInt8) : Ctr Try.prog 19 [] [.str (.sym s), .int .u8 (.sym c)] fun v H => v = .int .i64 (.sym n) ∧ H = [] := by
  obtain ⟨uI, uB, uS, uL, uT, hu⟩ := words
  have hm := mixed
  have hT := tabOk
  have hC := @Bld.si_ctr
  obtain ⟨P, hP⟩ : ∃ P, P = Try.prog := ⟨_, rfl⟩
  rw [← hP] at hm hT hC ⊢
  refine Ctr.weak (ctr_of_vc hu hm hT (hP ▸ Try.func19) rfl (by kernel_rfl) ?_)
  clear hP hm hT
  generalize hR : Weak _ _ = R
  conv => cbv
  repeat' (first | ((with_reducible intro (h : _ = _)); (try subst h); (try simp only [hu.b, hu.i, iB, iI, cmpB, Iv.val_sym, Iv.val_lit, Lv.raw, Tv.raw, decide_eq_true_eq, decide_eq_false_iff_not, beq_iff_eq, beq_eq_false_iff_ne, ne_eq, ofN, Int.toNat_zero, Int.toNat_one, Int.reduceToNat, natc, hu.s, iS, Sv.val_lit, Sv.val_sym, true_iff, false_iff, Bool.false_eq_true, bne_iff_ne, bne_eq_false_iff_eq, Bool.not_eq_true', Bool.not_eq_false', Decidable.not_not, nil_toList, ByteArray.size_empty, nilS, not_true_eq_false, not_false_eq_true, hu.l, iL, hu.t, iT, bin_add, bin_sub, bin_mul, wr_u8, wr_u16, wr_u32, wr_u64, IntKind.wrap_i64, List.length_append, List.length_cons, List.length_nil, List.nil_append, List.append_nil, List.cons_append, lvals, List.length_replicate, List.length_set, linV_val hu, Int.add_zero, Int.zero_add, Int.mul_one, Int.sub_zero, Int.zero_mul, Bool.true_eq_false, false_and, and_false, true_and, and_true, List.all_cons, List.all_nil, id_eq, Bool.and_true] at h) <;> (try simp only [Int.ofNat_eq_natCast] at h) <;> (first | (have hF0 : False := by omega; exact hF0.elim) | (conv => cbv))) | (with_reducible refine And.intro ?_ ?_) | (first | (refine CallDet.genR ?_ (fun x hx => hC _ _ x hx)) | (refine CallVC.genR ?_ (fun x hx => hC _ _ x hx))) | (refine Gen0.mk ?_; (conv => cbv)) | (refine Gen1.mk ?_; ((intro x hx) <;> (try simp only [hu.b, hu.i, iB, iI, cmpB, Iv.val_sym, Iv.val_lit, Lv.raw, Tv.raw, decide_eq_true_eq, decide_eq_false_iff_not, beq_iff_eq, beq_eq_false_iff_ne, ne_eq, ofN, Int.toNat_zero, Int.toNat_one, Int.reduceToNat, natc, hu.s, iS, Sv.val_lit, Sv.val_sym, true_iff, false_iff, Bool.false_eq_true, bne_iff_ne, bne_eq_false_iff_eq, Bool.not_eq_true', Bool.not_eq_false', Decidable.not_not, nil_toList, ByteArray.size_empty, nilS, not_true_eq_false, not_false_eq_true, hu.l, iL, hu.t, iT, bin_add, bin_sub, bin_mul, wr_u8, wr_u16, wr_u32, wr_u64, IntKind.wrap_i64, List.length_append, List.length_cons, List.length_nil, List.nil_append, List.append_nil, List.cons_append, lvals, List.length_replicate, List.length_set, linV_val hu, Int.add_zero, Int.zero_add, Int.mul_one, Int.sub_zero, Int.zero_mul, Bool.true_eq_false, false_and, and_false, true_and, and_true, List.all_cons, List.all_nil, id_eq, Bool.and_true] at hx) <;> (try simp only [Int.ofNat_eq_natCast] at hx) <;> (first | (have hF0 : False := by omega; exact hF0.elim) | (conv => cbv)))) | (simp only [hu.b, hu.i, iB, iI, cmpB, Iv.val_sym, Iv.val_lit, Lv.raw, Tv.raw, decide_eq_true_eq, decide_eq_false_iff_not, beq_iff_eq, beq_eq_false_iff_ne, ne_eq, ofN, Int.toNat_zero, Int.toNat_one, Int.reduceToNat, natc, hu.s, iS, Sv.val_lit, Sv.val_sym, true_iff, false_iff, Bool.false_eq_true, bne_iff_ne, bne_eq_false_iff_eq, Bool.not_eq_true', Bool.not_eq_false', Decidable.not_not, nil_toList, ByteArray.size_empty, nilS, not_true_eq_false, not_false_eq_true, hu.l, iL, hu.t, iT, bin_add, bin_sub, bin_mul, wr_u8, wr_u16, wr_u32, wr_u64, IntKind.wrap_i64, List.length_append, List.length_cons, List.length_nil, List.nil_append, List.append_nil, List.cons_append, lvals, List.length_replicate, List.length_set, linV_val hu, Int.add_zero, Int.zero_add, Int.mul_one, Int.sub_zero, Int.zero_mul, Bool.true_eq_false, false_and, and_false, true_and, and_true, List.all_cons, List.all_nil, id_eq, Bool.and_true]; (try simp only [Int.ofNat_eq_natCast]); done) | ((try simp only [hu.b, hu.i, iB, iI, cmpB, Iv.val_sym, Iv.val_lit, Lv.raw, Tv.raw, decide_eq_true_eq, decide_eq_false_iff_not, beq_iff_eq, beq_eq_false_iff_ne, ne_eq, ofN, Int.toNat_zero, Int.toNat_one, Int.reduceToNat, natc, hu.s, iS, Sv.val_lit, Sv.val_sym, true_iff, false_iff, Bool.false_eq_true, bne_iff_ne, bne_eq_false_iff_eq, Bool.not_eq_true', Bool.not_eq_false', Decidable.not_not, nil_toList, ByteArray.size_empty, nilS, not_true_eq_false, not_false_eq_true, hu.l, iL, hu.t, iT, bin_add, bin_sub, bin_mul, wr_u8, wr_u16, wr_u32, wr_u64, IntKind.wrap_i64, List.length_append, List.length_cons, List.length_nil, List.nil_append, List.append_nil, List.cons_append, lvals, List.length_replicate, List.length_set, linV_val hu, Int.add_zero, Int.zero_add, Int.mul_one, Int.sub_zero, Int.zero_mul, Bool.true_eq_false, false_and, and_false, true_and, and_true, List.all_cons, List.all_nil, id_eq, Bool.and_true]) <;> (try simp only [Int.ofNat_eq_natCast]) <;> omega))
  subst hR
  refine Weak.of (⟨rfl, rfl⟩) ?_ ?_ (by rfl)
  all_goals ((conv => cbv); repeat' (first | exact True.intro | with_reducible rfl | (with_reducible exact fun h => h) | (with_reducible refine And.intro ?_ ?_)))
  all_goals rw [hx, hn]
theorem first_ctr (s d : ByteArray) (base : Int) (hs : s.size ≤ 1000000) (hd : ∀ c n : Int, 0 ≤ c ∧ c < 256 → n = Lib.indexByte d.data.toList c.toNat.toUInt8 → (n < 0 ↔ base ≤ val8 c)) : Ctr Try.prog 17 [] [.str (.sym s), .str (.sym d)] fun v H => (∃ i, (IsFirst s base i ∧ -1 ≤ i ∧ i < s.size) ∧ v = .int .i64 (.sym i)) ∧ H = [] := by
  obtain ⟨n, hn⟩ : ∃ n : Int, n = s.size := ⟨_, rfl⟩
  obtain ⟨uI, uB, uS, uL, uT, hu⟩ := words
  have hm := mixed
  have hT := tabOk
  have hC := @ib_ctr
  obtain ⟨P, hP⟩ : ∃ P, P = Try.prog := ⟨_, rfl⟩
  rw [← hP] at hm hT hC ⊢
  refine Ctr.weak (ctr_of_vc hu hm hT (hP ▸ Try.func17) rfl (by kernel_rfl) ?_)
  clear hP hm hT
  generalize hR : Weak _ _ = R
  conv => cbv
  repeat' (first | ((with_reducible intro (h : _ = _)); (try subst h); (try simp only [hu.b, hu.i, iB, iI, cmpB, Iv.val_sym, Iv.val_lit, Lv.raw, Tv.raw, decide_eq_true_eq, decide_eq_false_iff_not, beq_iff_eq, beq_eq_false_iff_ne, ne_eq, ofN, Int.toNat_zero, Int.toNat_one, Int.reduceToNat, natc, hu.s, iS, Sv.val_lit, Sv.val_sym, true_iff, false_iff, Bool.false_eq_true, bne_iff_ne, bne_eq_false_iff_eq, Bool.not_eq_true', Bool.not_eq_false', Decidable.not_not, nil_toList, ByteArray.size_empty, nilS, not_true_eq_false, not_false_eq_true, hu.l, iL, hu.t, iT, bin_add, bin_sub, bin_mul, wr_u8, wr_u16, wr_u32, wr_u64, IntKind.wrap_i64, List.length_append, List.length_cons, List.length_nil, List.nil_append, List.append_nil, List.cons_append, lvals, List.length_replicate, List.length_set, linV_val hu, Int.add_zero, Int.zero_add, Int.mul_one, Int.sub_zero, Int.zero_mul, Bool.true_eq_false, false_and, and_false, true_and, and_true, List.all_cons, List.all_nil, id_eq, Bool.and_true] at h) <;> (try simp only [Int.ofNat_eq_natCast] at h) <;> (first | (have hF0 : False := by omega; exact hF0.elim) | (conv => cbv))) | (with_reducible refine And.intro ?_ ?_) | (refine Gen0.mk ?_; (conv => cbv)) | (simp only [hu.b, hu.i, iB, iI, cmpB, Iv.val_sym, Iv.val_lit, Lv.raw, Tv.raw, decide_eq_true_eq, decide_eq_false_iff_not, beq_iff_eq, beq_eq_false_iff_ne, ne_eq, ofN, Int.toNat_zero, Int.toNat_one, Int.reduceToNat, natc, hu.s, iS, Sv.val_lit, Sv.val_sym, true_iff, false_iff, Bool.false_eq_true, bne_iff_ne, bne_eq_false_iff_eq, Bool.not_eq_true', Bool.not_eq_false', Decidable.not_not, nil_toList, ByteArray.size_empty, nilS, not_true_eq_false, not_false_eq_true, hu.l, iL, hu.t, iT, bin_add, bin_sub, bin_mul, wr_u8, wr_u16, wr_u32, wr_u64, IntKind.wrap_i64, List.length_append, List.length_cons, List.length_nil, List.nil_append, List.append_nil, List.cons_append, lvals, List.length_replicate, List.length_set, linV_val hu, Int.add_zero, Int.zero_add, Int.mul_one, Int.sub_zero, Int.zero_mul, Bool.true_eq_false, false_and, and_false, true_and, and_true, List.all_cons, List.all_nil, id_eq, Bool.and_true]; (try simp only [Int.ofNat_eq_natCast]); done) | ((try simp only [hu.b, hu.i, iB, iI, cmpB, Iv.val_sym, Iv.val_lit, Lv.raw, Tv.raw, decide_eq_true_eq, decide_eq_false_iff_not, beq_iff_eq, beq_eq_false_iff_ne, ne_eq, ofN, Int.toNat_zero, Int.toNat_one, Int.reduceToNat, natc, hu.s, iS, Sv.val_lit, Sv.val_sym, true_iff, false_iff, Bool.false_eq_true, bne_iff_ne, bne_eq_false_iff_eq, Bool.not_eq_true', Bool.not_eq_false', Decidable.not_not, nil_toList, ByteArray.size_empty, nilS, not_true_eq_false, not_false_eq_true, hu.l, iL, hu.t, iT, bin_add, bin_sub, bin_mul, wr_u8, wr_u16, wr_u32, wr_u64, IntKind.wrap_i64, List.length_append, List.length_cons, List.length_nil, List.nil_append, List.append_nil, List.cons_append, lvals, List.length_replicate, List.length_set, linV_val hu, Int.add_zero, Int.zero_add, Int.mul_one, Int.sub_zero, Int.zero_mul, Bool.true_eq_false, false_and, and_false, true_and, and_true, List.all_cons, List.all_nil, id_eq, Bool.and_true]) <;> (try simp only [Int.ofNat_eq_natCast]) <;> omega))
  refine .inv Int [8] (fun i => ([.int .i64 (.sym i)], [])) (fun i => 0 ≤ i ∧ i ≤ n ∧ ∀ k : Int, 0 ≤ k → k < i → val8 (byteAt s k) < base) (fun i => (n - i).toNat) 0 (by kernel_rfl) (fun g hg => by kernel_rfl) ?_ ?_
  · refine ⟨⟨by omega, by omega, fun k h0 h1 => by omega⟩, ?_, ?_⟩
    all_goals
      ((conv => cbv); repeat' (first | exact True.intro | with_reducible rfl | (with_reducible exact fun h => h) | (with_reducible refine And.intro ?_ ?_)))
  intro i hq
  have q0 := hq.1; have q1 := hq.2.1; have q2 := hq.2.2
  clear hq
  have hb := byteAt_bd s i
  conv => cbv
  repeat' (first | ((with_reducible intro (h : _ = _)); (try subst h); (try simp only [hu.b, hu.i, iB, iI, cmpB, Iv.val_sym, Iv.val_lit, Lv.raw, Tv.raw, decide_eq_true_eq, decide_eq_false_iff_not, beq_iff_eq, beq_eq_false_iff_ne, ne_eq, ofN, Int.toNat_zero, Int.toNat_one, Int.reduceToNat, natc, hu.s, iS, Sv.val_lit, Sv.val_sym, true_iff, false_iff, Bool.false_eq_true, bne_iff_ne, bne_eq_false_iff_eq, Bool.not_eq_true', Bool.not_eq_false', Decidable.not_not, nil_toList, ByteArray.size_empty, nilS, not_true_eq_false, not_false_eq_true, hu.l, iL, hu.t, iT, bin_add, bin_sub, bin_mul, wr_u8, wr_u16, wr_u32, wr_u64, IntKind.wrap_i64, List.length_append, List.length_cons, List.length_nil, List.nil_append, List.append_nil, List.cons_append, lvals, List.length_replicate, List.length_set, linV_val hu, Int.add_zero, Int.zero_add, Int.mul_one, Int.sub_zero, Int.zero_mul, Bool.true_eq_false, false_and, and_false, true_and, and_true, List.all_cons, List.all_nil, id_eq, Bool.and_true] at h) <;> (try simp only [Int.ofNat_eq_natCast] at h) <;> (first | (have hF0 : False := by omega; exact hF0.elim) | (conv => cbv))) | (with_reducible refine And.intro ?_ ?_) | (first | (refine CallDet.genR ?_ (fun x hx => hC _ _ x hx)) | (refine CallVC.genR ?_ (fun x hx => hC _ _ x hx))) | (refine Gen0.mk ?_; (conv => cbv)) | (refine Gen1.mk ?_; ((intro x hx) <;> (try simp only [hu.b, hu.i, iB, iI, cmpB, Iv.val_sym, Iv.val_lit, Lv.raw, Tv.raw, decide_eq_true_eq, decide_eq_false_iff_not, beq_iff_eq, beq_eq_false_iff_ne, ne_eq, ofN, Int.toNat_zero, Int.toNat_one, Int.reduceToNat, natc, hu.s, iS, Sv.val_lit, Sv.val_sym, true_iff, false_iff, Bool.false_eq_true, bne_iff_ne, bne_eq_false_iff_eq, Bool.not_eq_true', Bool.not_eq_false', Decidable.not_not, nil_toList, ByteArray.size_empty, nilS, not_true_eq_false, not_false_eq_true, hu.l, iL, hu.t, iT, bin_add, bin_sub, bin_mul, wr_u8, wr_u16, wr_u32, wr_u64, IntKind.wrap_i64, List.length_append, List.length_cons, List.length_nil, List.nil_append, List.append_nil, List.cons_append, lvals, List.length_replicate, List.length_set, linV_val hu, Int.add_zero, Int.zero_add, Int.mul_one, Int.sub_zero, Int.zero_mul, Bool.true_eq_false, false_and, and_false, true_and, and_true, List.all_cons, List.all_nil, id_eq, Bool.and_true] at hx) <;> (try simp only [Int.ofNat_eq_natCast] at hx) <;> (first | (have hF0 : False := by omega; exact hF0.elim) | (conv => cbv)))) | (simp only [hu.b, hu.i, iB, iI, cmpB, Iv.val_sym, Iv.val_lit, Lv.raw, Tv.raw, decide_eq_true_eq, decide_eq_false_iff_not, beq_iff_eq, beq_eq_false_iff_ne, ne_eq, ofN, Int.toNat_zero, Int.toNat_one, Int.reduceToNat, natc, hu.s, iS, Sv.val_lit, Sv.val_sym, true_iff, false_iff, Bool.false_eq_true, bne_iff_ne, bne_eq_false_iff_eq, Bool.not_eq_true', Bool.not_eq_false', Decidable.not_not, nil_toList, ByteArray.size_empty, nilS, not_true_eq_false, not_false_eq_true, hu.l, iL, hu.t, iT, bin_add, bin_sub, bin_mul, wr_u8, wr_u16, wr_u32, wr_u64, IntKind.wrap_i64, List.length_append, List.length_cons, List.length_nil, List.nil_append, List.append_nil, List.cons_append, lvals, List.length_replicate, List.length_set, linV_val hu, Int.add_zero, Int.zero_add, Int.mul_one, Int.sub_zero, Int.zero_mul, Bool.true_eq_false, false_and, and_false, true_and, and_true, List.all_cons, List.all_nil, id_eq, Bool.and_true]; (try simp only [Int.ofNat_eq_natCast]); done) | ((try simp only [hu.b, hu.i, iB, iI, cmpB, Iv.val_sym, Iv.val_lit, Lv.raw, Tv.raw, decide_eq_true_eq, decide_eq_false_iff_not, beq_iff_eq, beq_eq_false_iff_ne, ne_eq, ofN, Int.toNat_zero, Int.toNat_one, Int.reduceToNat, natc, hu.s, iS, Sv.val_lit, Sv.val_sym, true_iff, false_iff, Bool.false_eq_true, bne_iff_ne, bne_eq_false_iff_eq, Bool.not_eq_true', Bool.not_eq_false', Decidable.not_not, nil_toList, ByteArray.size_empty, nilS, not_true_eq_false, not_false_eq_true, hu.l, iL, hu.t, iT, bin_add, bin_sub, bin_mul, wr_u8, wr_u16, wr_u32, wr_u64, IntKind.wrap_i64, List.length_append, List.length_cons, List.length_nil, List.nil_append, List.append_nil, List.cons_append, lvals, List.length_replicate, List.length_set, linV_val hu, Int.add_zero, Int.zero_add, Int.mul_one, Int.sub_zero, Int.zero_mul, Bool.true_eq_false, false_and, and_false, true_and, and_true, List.all_cons, List.all_nil, id_eq, Bool.and_true]) <;> (try simp only [Int.ofNat_eq_natCast]) <;> omega))
  · have hF : IsFirst s base i := .inr ⟨q0, by assumption, (hd _ _ hb hx).1 (by assumption), q2⟩
    subst hR
    refine Weak.of (⟨⟨i, ⟨hF, by omega, by omega⟩, rfl⟩, rfl⟩) ?_ ?_ (by rfl)
    all_goals ((conv => cbv); repeat' (first | exact True.intro | with_reducible rfl | (with_reducible exact fun h => h) | (with_reducible refine And.intro ?_ ?_)))
  · obtain ⟨i', ei⟩ : ∃ y, y = i + 1 := ⟨_, rfl⟩
    have hnd := hd _ _ hb hx
    refine ⟨i', ⟨by omega, by omega, fun k h0 h1 => ?_⟩, by omega, ?_, ?_⟩
    · rcases Int.lt_or_le k i with h | h
      · exact q2 k h0 h
      · have e : k = i := by omega
        subst e; omega
    all_goals
      ((conv => cbv); repeat' (first | exact True.intro | with_reducible rfl | (with_reducible exact fun h => h) | (with_reducible refine And.intro ?_ ?_)))
    all_goals
      ((try simp only [hu.b, hu.i, iB, iI, cmpB, Iv.val_sym, Iv.val_lit, Lv.raw, Tv.raw, decide_eq_true_eq, decide_eq_false_iff_not, beq_iff_eq, beq_eq_false_iff_ne, ne_eq, ofN, Int.toNat_zero, Int.toNat_one, Int.reduceToNat, natc, hu.s, iS, Sv.val_lit, Sv.val_sym, true_iff, false_iff, Bool.false_eq_true, bne_iff_ne, bne_eq_false_iff_eq, Bool.not_eq_true', Bool.not_eq_false', Decidable.not_not, nil_toList, ByteArray.size_empty, nilS, not_true_eq_false, not_false_eq_true, hu.l, iL, hu.t, iT, bin_add, bin_sub, bin_mul, wr_u8, wr_u16, wr_u32, wr_u64, IntKind.wrap_i64, List.length_append, List.length_cons, List.length_nil, List.nil_append, List.append_nil, List.cons_append, lvals, List.length_replicate, List.length_set, linV_val hu, Int.add_zero, Int.zero_add, Int.mul_one, Int.sub_zero, Int.zero_mul, Bool.true_eq_false, false_and, and_false, true_and, and_true, List.all_cons, List.all_nil, id_eq, Bool.and_true]) <;> (try simp only [Int.ofNat_eq_natCast]) <;> (try omega))
  · have hF : IsFirst s base (-1) := .inl ⟨rfl, fun k h0 h1 => q2 k h0 (by omega)⟩
    subst hR
    refine Weak.of (⟨⟨-1, ⟨hF, by omega, by omega⟩, rfl⟩, rfl⟩) ?_ ?_ (by rfl)
    all_goals ((conv => cbv); repeat' (first | exact True.intro | with_reducible rfl | (with_reducible exact fun h => h) | (with_reducible refine And.intro ?_ ?_)))
theorem hd16 (c n : Int) (h : 0 ≤ c ∧ c < 256) (hn : n = Lib.indexByte dg16 c.toNat.toUInt8) : n < 0 ↔ 16 ≤ val8 c := by
  rw [hn, ix16_at h]
  have := val8_nn c
  split <;> omega
theorem hd10 (c n : Int) (h : 0 ≤ c ∧ c < 256) (hn : n = Lib.indexByte dg10 c.toNat.toUInt8) : n < 0 ↔ 10 ≤ val8 c := by
  rw [hn, ix10_at h]
  have := val8_nn c
  split <;> omega
theorem first16 (s : ByteArray) (hs : s.size ≤ 1000000) : Ctr Try.prog 17 [] [.str (.sym s), .str (.sym ⟨#[48, 49, 50, 51, 52, 53, 54, 55, 56, 57, 65, 66, 67, 68, 69, 70]⟩)] fun v H => (∃ i, (IsFirst s 16 i ∧ -1 ≤ i ∧ i < s.size) ∧ v = .int .i64 (.sym i)) ∧ H = [] := first_ctr s _ 16 hs fun c n h hn => hd16 c n h hn
theorem first10 (s : ByteArray) (hs : s.size ≤ 1000000) : Ctr Try.prog 17 [] [.str (.sym s), .str (.sym ⟨#[48, 49, 50, 51, 52, 53, 54, 55, 56, 57]⟩)] fun v H => (∃ i, (IsFirst s 10 i ∧ -1 ≤ i ∧ i < s.size) ∧ v = .int .i64 (.sym i)) ∧ H = [] := first_ctr s _ 10 hs fun c n h hn => hd10 c n h hn
theorem dgL_at {n : Int} (h0 : 0 ≤ n) (h1 : n < 16) : byteAt ⟨#[48, 49, 50, 51, 52, 53, 54, 55, 56, 57, 65, 66, 67, 68, 69, 70]⟩ n = dig n := dg_at h0 h1
/-- A byte as two digits. -/
theorem hex_ctr (xs : List Int) (n : Int) (hn : n = xs.length) (h9 : n ≤ 100000) (hB : Bytes xs) : Ctr Try.prog 6 [.cols .ro 5 [.ints .u8 (.sym xs)]] [.sl 0 (.lit 0) (.sym n)] fun v H => (∃ s, s = strL (hexL xs) ∧ v = .str (.sym s)) ∧ H = [.cols .ro 5 [.ints .u8 (.sym xs)]] := by
  have e0 : subL xs 0 n = xs := by rw [hn]; simp [subL]
  have z1 := (hi_at (hB.get 0)).1
  have z2 := (hi_at (hB.get 0)).2
  have zb := hB.get 0
  obtain ⟨uI, uB, uS, uL, uT, hu⟩ := words
  have hm := mixed
  have hT := tabOk
  have hW := @wb_nil
  have hW2 := @wb_row
  have hS1 := @Bld.st_nil
  have hS2 := @Bld.st_row
  obtain ⟨P, hP⟩ : ∃ P, P = Try.prog := ⟨_, rfl⟩
  rw [← hP] at hm hT hW hW2 hS1 hS2 ⊢
  refine Ctr.weak (ctr_of_vc hu hm hT (hP ▸ Try.func6) rfl (by kernel_rfl) ?_)
  clear hP hm hT
  generalize hR : Weak _ _ = R
  conv => cbv
  repeat' (first | ((with_reducible intro (h : _ = _)); (try subst h); (try simp only [hu.b, hu.i, iB, iI, cmpB, Iv.val_sym, Iv.val_lit, Lv.raw, Tv.raw, decide_eq_true_eq, decide_eq_false_iff_not, beq_iff_eq, beq_eq_false_iff_ne, ne_eq, ofN, Int.toNat_zero, Int.toNat_one, Int.reduceToNat, natc, hu.s, iS, Sv.val_lit, Sv.val_sym, true_iff, false_iff, Bool.false_eq_true, bne_iff_ne, bne_eq_false_iff_eq, Bool.not_eq_true', Bool.not_eq_false', Decidable.not_not, nil_toList, ByteArray.size_empty, nilS, not_true_eq_false, not_false_eq_true, hu.l, iL, hu.t, iT, bin_add, bin_sub, bin_mul, wr_u8, wr_u16, wr_u32, wr_u64, IntKind.wrap_i64, List.length_append, List.length_cons, List.length_nil, List.nil_append, List.append_nil, List.cons_append, lvals, List.length_replicate, List.length_set, linV_val hu, Int.add_zero, Int.zero_add, Int.mul_one, Int.sub_zero, Int.zero_mul, Bool.true_eq_false, false_and, and_false, true_and, and_true, List.all_cons, List.all_nil, id_eq, Bool.and_true] at h) <;> (try simp only [Int.ofNat_eq_natCast] at h) <;> (first | (have hF0 : False := by omega; exact hF0.elim) | (conv => cbv))) | (with_reducible refine And.intro ?_ ?_) | (refine Gen0.mk ?_; (conv => cbv)) | (simp only [hu.b, hu.i, iB, iI, cmpB, Iv.val_sym, Iv.val_lit, Lv.raw, Tv.raw, decide_eq_true_eq, decide_eq_false_iff_not, beq_iff_eq, beq_eq_false_iff_ne, ne_eq, ofN, Int.toNat_zero, Int.toNat_one, Int.reduceToNat, natc, hu.s, iS, Sv.val_lit, Sv.val_sym, true_iff, false_iff, Bool.false_eq_true, bne_iff_ne, bne_eq_false_iff_eq, Bool.not_eq_true', Bool.not_eq_false', Decidable.not_not, nil_toList, ByteArray.size_empty, nilS, not_true_eq_false, not_false_eq_true, hu.l, iL, hu.t, iT, bin_add, bin_sub, bin_mul, wr_u8, wr_u16, wr_u32, wr_u64, IntKind.wrap_i64, List.length_append, List.length_cons, List.length_nil, List.nil_append, List.append_nil, List.cons_append, lvals, List.length_replicate, List.length_set, linV_val hu, Int.add_zero, Int.zero_add, Int.mul_one, Int.sub_zero, Int.zero_mul, Bool.true_eq_false, false_and, and_false, true_and, and_true, List.all_cons, List.all_nil, id_eq, Bool.and_true]; (try simp only [Int.ofNat_eq_natCast]); done) | ((try simp only [hu.b, hu.i, iB, iI, cmpB, Iv.val_sym, Iv.val_lit, Lv.raw, Tv.raw, decide_eq_true_eq, decide_eq_false_iff_not, beq_iff_eq, beq_eq_false_iff_ne, ne_eq, ofN, Int.toNat_zero, Int.toNat_one, Int.reduceToNat, natc, hu.s, iS, Sv.val_lit, Sv.val_sym, true_iff, false_iff, Bool.false_eq_true, bne_iff_ne, bne_eq_false_iff_eq, Bool.not_eq_true', Bool.not_eq_false', Decidable.not_not, nil_toList, ByteArray.size_empty, nilS, not_true_eq_false, not_false_eq_true, hu.l, iL, hu.t, iT, bin_add, bin_sub, bin_mul, wr_u8, wr_u16, wr_u32, wr_u64, IntKind.wrap_i64, List.length_append, List.length_cons, List.length_nil, List.nil_append, List.append_nil, List.cons_append, lvals, List.length_replicate, List.length_set, linV_val hu, Int.add_zero, Int.zero_add, Int.mul_one, Int.sub_zero, Int.zero_mul, Bool.true_eq_false, false_and, and_false, true_and, and_true, List.all_cons, List.all_nil, id_eq, Bool.and_true]) <;> (try simp only [Int.ofNat_eq_natCast]) <;> omega))
  refine .invr (Option (Int × Int × List Int)) [8] (fun g => match g with
    | none => ([.int .i64 (.lit 0)], [.cols .ro 5 [.ints .u8 (.sym xs)], .cells 42 [.nilp, .nilsl]])
    | some (i, m, ys) => ([.int .i64 (.sym i)], [.cols .ro 5 [.ints .u8 (.sym xs)], .cells 42 [.ptr 1 ⟨.lit 0, 1, 0⟩, .vec 2 (.sym m)], .cols (.row 1) 5 [.ints .u8 (.sym ys)]])) (fun g => match g with
    | none => True
    | some (i, m, ys) => 0 < i ∧ i ≤ n ∧ m = 2 * i ∧ (ys.length : Int) = m ∧ ys = hexL (xs.take i.toNat)) (fun g => match g with
    | none => n.toNat
    | some (i, m, ys) => (n - i).toNat) none (by kernel_rfl) (fun g hg => by rcases g with _ | ⟨i, m, ys⟩ <;> kernel_rfl) ?_ ?_
  · refine ⟨trivial, ?_, ?_⟩
    all_goals
      ((conv => cbv); repeat' (first | exact True.intro | with_reducible rfl | (with_reducible exact fun h => h) | (with_reducible refine And.intro ?_ ?_)))
  intro g
  rcases g with _ | ⟨i, m, ys⟩
  · intro hq
    clear hq
    dsimp only
    conv => cbv
    repeat' (first | ((with_reducible intro (h : _ = _)); (try subst h); (try simp only [hu.b, hu.i, iB, iI, cmpB, Iv.val_sym, Iv.val_lit, Lv.raw, Tv.raw, decide_eq_true_eq, decide_eq_false_iff_not, beq_iff_eq, beq_eq_false_iff_ne, ne_eq, ofN, Int.toNat_zero, Int.toNat_one, Int.reduceToNat, natc, hu.s, iS, Sv.val_lit, Sv.val_sym, true_iff, false_iff, Bool.false_eq_true, bne_iff_ne, bne_eq_false_iff_eq, Bool.not_eq_true', Bool.not_eq_false', Decidable.not_not, nil_toList, ByteArray.size_empty, nilS, not_true_eq_false, not_false_eq_true, hu.l, iL, hu.t, iT, bin_add, bin_sub, bin_mul, wr_u8, wr_u16, wr_u32, wr_u64, IntKind.wrap_i64, List.length_append, List.length_cons, List.length_nil, List.nil_append, List.append_nil, List.cons_append, lvals, List.length_replicate, List.length_set, linV_val hu, Int.add_zero, Int.zero_add, Int.mul_one, Int.sub_zero, Int.zero_mul, Bool.true_eq_false, false_and, and_false, true_and, and_true, List.all_cons, List.all_nil, id_eq, Bool.and_true, z1, z2, e0] at h) <;> (try simp only [Int.ofNat_eq_natCast] at h) <;> (first | (have hF0 : False := by omega; exact hF0.elim) | (conv => cbv))) | (with_reducible refine And.intro ?_ ?_) | (first | (refine CallDet.genR ?_ (fun ys hys => hW _ ys hys)) | (refine CallVC.genR ?_ (fun ys hys => hW _ ys hys))) | (first | (refine CallDet.genR2 ?_ (fun m1 zs hm1 hzs => hW2 _ _ m1 _ zs ?_ ?_ hm1 hzs)) | (refine CallVC.genR2 ?_ (fun m1 zs hm1 hzs => hW2 _ _ m1 _ zs ?_ ?_ hm1 hzs))) | (first | (refine CallDet.mkR ?_ (hS1)) | (refine CallVC.mkR ?_ (hS1))) | ((try simp only [hu.b, hu.i, iB, iI, cmpB, Iv.val_sym, Iv.val_lit, Lv.raw, Tv.raw, decide_eq_true_eq, decide_eq_false_iff_not, beq_iff_eq, beq_eq_false_iff_ne, ne_eq, ofN, Int.toNat_zero, Int.toNat_one, Int.reduceToNat, natc, hu.s, iS, Sv.val_lit, Sv.val_sym, true_iff, false_iff, Bool.false_eq_true, bne_iff_ne, bne_eq_false_iff_eq, Bool.not_eq_true', Bool.not_eq_false', Decidable.not_not, nil_toList, ByteArray.size_empty, nilS, not_true_eq_false, not_false_eq_true, hu.l, iL, hu.t, iT, bin_add, bin_sub, bin_mul, wr_u8, wr_u16, wr_u32, wr_u64, IntKind.wrap_i64, List.length_append, List.length_cons, List.length_nil, List.nil_append, List.append_nil, List.cons_append, lvals, List.length_replicate, List.length_set, linV_val hu, Int.add_zero, Int.zero_add, Int.mul_one, Int.sub_zero, Int.zero_mul, Bool.true_eq_false, false_and, and_false, true_and, and_true, List.all_cons, List.all_nil, id_eq, Bool.and_true, z1, z2, e0]) <;> (try simp only [Int.ofNat_eq_natCast]) <;> (subst_vars; simp only [List.length_append, List.length_cons, List.length_nil]; omega)) | (refine Gen0.mk ?_; (conv => cbv)) | (refine Gen1.mk ?_; ((intro ys hys) <;> (try simp only [hu.b, hu.i, iB, iI, cmpB, Iv.val_sym, Iv.val_lit, Lv.raw, Tv.raw, decide_eq_true_eq, decide_eq_false_iff_not, beq_iff_eq, beq_eq_false_iff_ne, ne_eq, ofN, Int.toNat_zero, Int.toNat_one, Int.reduceToNat, natc, hu.s, iS, Sv.val_lit, Sv.val_sym, true_iff, false_iff, Bool.false_eq_true, bne_iff_ne, bne_eq_false_iff_eq, Bool.not_eq_true', Bool.not_eq_false', Decidable.not_not, nil_toList, ByteArray.size_empty, nilS, not_true_eq_false, not_false_eq_true, hu.l, iL, hu.t, iT, bin_add, bin_sub, bin_mul, wr_u8, wr_u16, wr_u32, wr_u64, IntKind.wrap_i64, List.length_append, List.length_cons, List.length_nil, List.nil_append, List.append_nil, List.cons_append, lvals, List.length_replicate, List.length_set, linV_val hu, Int.add_zero, Int.zero_add, Int.mul_one, Int.sub_zero, Int.zero_mul, Bool.true_eq_false, false_and, and_false, true_and, and_true, List.all_cons, List.all_nil, id_eq, Bool.and_true, z1, z2, e0] at hys) <;> (try simp only [Int.ofNat_eq_natCast] at hys) <;> (first | (have hF0 : False := by omega; exact hF0.elim) | (conv => cbv)))) | (refine Gen2.mk ?_; ((intro m1 zs hm1 hzs) <;> (try simp only [hu.b, hu.i, iB, iI, cmpB, Iv.val_sym, Iv.val_lit, Lv.raw, Tv.raw, decide_eq_true_eq, decide_eq_false_iff_not, beq_iff_eq, beq_eq_false_iff_ne, ne_eq, ofN, Int.toNat_zero, Int.toNat_one, Int.reduceToNat, natc, hu.s, iS, Sv.val_lit, Sv.val_sym, true_iff, false_iff, Bool.false_eq_true, bne_iff_ne, bne_eq_false_iff_eq, Bool.not_eq_true', Bool.not_eq_false', Decidable.not_not, nil_toList, ByteArray.size_empty, nilS, not_true_eq_false, not_false_eq_true, hu.l, iL, hu.t, iT, bin_add, bin_sub, bin_mul, wr_u8, wr_u16, wr_u32, wr_u64, IntKind.wrap_i64, List.length_append, List.length_cons, List.length_nil, List.nil_append, List.append_nil, List.cons_append, lvals, List.length_replicate, List.length_set, linV_val hu, Int.add_zero, Int.zero_add, Int.mul_one, Int.sub_zero, Int.zero_mul, Bool.true_eq_false, false_and, and_false, true_and, and_true, List.all_cons, List.all_nil, id_eq, Bool.and_true, z1, z2, e0] at hm1) <;> (try simp only [Int.ofNat_eq_natCast] at hm1) <;> (try simp only [hu.b, hu.i, iB, iI, cmpB, Iv.val_sym, Iv.val_lit, Lv.raw, Tv.raw, decide_eq_true_eq, decide_eq_false_iff_not, beq_iff_eq, beq_eq_false_iff_ne, ne_eq, ofN, Int.toNat_zero, Int.toNat_one, Int.reduceToNat, natc, hu.s, iS, Sv.val_lit, Sv.val_sym, true_iff, false_iff, Bool.false_eq_true, bne_iff_ne, bne_eq_false_iff_eq, Bool.not_eq_true', Bool.not_eq_false', Decidable.not_not, nil_toList, ByteArray.size_empty, nilS, not_true_eq_false, not_false_eq_true, hu.l, iL, hu.t, iT, bin_add, bin_sub, bin_mul, wr_u8, wr_u16, wr_u32, wr_u64, IntKind.wrap_i64, List.length_append, List.length_cons, List.length_nil, List.nil_append, List.append_nil, List.cons_append, lvals, List.length_replicate, List.length_set, linV_val hu, Int.add_zero, Int.zero_add, Int.mul_one, Int.sub_zero, Int.zero_mul, Bool.true_eq_false, false_and, and_false, true_and, and_true, List.all_cons, List.all_nil, id_eq, Bool.and_true, z1, z2, e0] at hzs) <;> (try simp only [Int.ofNat_eq_natCast] at hzs) <;> (first | (have hF0 : False := by omega; exact hF0.elim) | (conv => cbv)))) | (simp only [hu.b, hu.i, iB, iI, cmpB, Iv.val_sym, Iv.val_lit, Lv.raw, Tv.raw, decide_eq_true_eq, decide_eq_false_iff_not, beq_iff_eq, beq_eq_false_iff_ne, ne_eq, ofN, Int.toNat_zero, Int.toNat_one, Int.reduceToNat, natc, hu.s, iS, Sv.val_lit, Sv.val_sym, true_iff, false_iff, Bool.false_eq_true, bne_iff_ne, bne_eq_false_iff_eq, Bool.not_eq_true', Bool.not_eq_false', Decidable.not_not, nil_toList, ByteArray.size_empty, nilS, not_true_eq_false, not_false_eq_true, hu.l, iL, hu.t, iT, bin_add, bin_sub, bin_mul, wr_u8, wr_u16, wr_u32, wr_u64, IntKind.wrap_i64, List.length_append, List.length_cons, List.length_nil, List.nil_append, List.append_nil, List.cons_append, lvals, List.length_replicate, List.length_set, linV_val hu, Int.add_zero, Int.zero_add, Int.mul_one, Int.sub_zero, Int.zero_mul, Bool.true_eq_false, false_and, and_false, true_and, and_true, List.all_cons, List.all_nil, id_eq, Bool.and_true, z1, z2, e0]; (try simp only [Int.ofNat_eq_natCast]); done) | ((try simp only [hu.b, hu.i, iB, iI, cmpB, Iv.val_sym, Iv.val_lit, Lv.raw, Tv.raw, decide_eq_true_eq, decide_eq_false_iff_not, beq_iff_eq, beq_eq_false_iff_ne, ne_eq, ofN, Int.toNat_zero, Int.toNat_one, Int.reduceToNat, natc, hu.s, iS, Sv.val_lit, Sv.val_sym, true_iff, false_iff, Bool.false_eq_true, bne_iff_ne, bne_eq_false_iff_eq, Bool.not_eq_true', Bool.not_eq_false', Decidable.not_not, nil_toList, ByteArray.size_empty, nilS, not_true_eq_false, not_false_eq_true, hu.l, iL, hu.t, iT, bin_add, bin_sub, bin_mul, wr_u8, wr_u16, wr_u32, wr_u64, IntKind.wrap_i64, List.length_append, List.length_cons, List.length_nil, List.nil_append, List.append_nil, List.cons_append, lvals, List.length_replicate, List.length_set, linV_val hu, Int.add_zero, Int.zero_add, Int.mul_one, Int.sub_zero, Int.zero_mul, Bool.true_eq_false, false_and, and_false, true_and, and_true, List.all_cons, List.all_nil, id_eq, Bool.and_true, z1, z2, e0]) <;> (try simp only [Int.ofNat_eq_natCast]) <;> omega))
    · have hz : zs = hexL (xs.take (1 : Int).toNat) := by
        rw [hzs, hys, dgL_at (by omega) (by omega), dgL_at (by omega) (by omega), show (1 : Int).toNat = 0 + 1 from rfl, hex_next (by omega)]; rfl
      refine ⟨some (1, m1, zs), ⟨by decide, by omega, hm1, by rw [hzs, hys, hm1]; rfl, hz⟩, by dsimp only; omega, [0, 1, 3], by kernel_rfl, by kernel_rfl, ?_, ?_⟩
      all_goals
        ((conv => cbv); repeat' (first | exact True.intro | with_reducible rfl | (with_reducible exact fun h => h) | (with_reducible refine And.intro ?_ ?_)))
      all_goals
        ((try simp only [hu.b, hu.i, iB, iI, cmpB, Iv.val_sym, Iv.val_lit, Lv.raw, Tv.raw, decide_eq_true_eq, decide_eq_false_iff_not, beq_iff_eq, beq_eq_false_iff_ne, ne_eq, ofN, Int.toNat_zero, Int.toNat_one, Int.reduceToNat, natc, hu.s, iS, Sv.val_lit, Sv.val_sym, true_iff, false_iff, Bool.false_eq_true, bne_iff_ne, bne_eq_false_iff_eq, Bool.not_eq_true', Bool.not_eq_false', Decidable.not_not, nil_toList, ByteArray.size_empty, nilS, not_true_eq_false, not_false_eq_true, hu.l, iL, hu.t, iT, bin_add, bin_sub, bin_mul, wr_u8, wr_u16, wr_u32, wr_u64, IntKind.wrap_i64, List.length_append, List.length_cons, List.length_nil, List.nil_append, List.append_nil, List.cons_append, lvals, List.length_replicate, List.length_set, linV_val hu, Int.add_zero, Int.zero_add, Int.mul_one, Int.sub_zero, Int.zero_mul, Bool.true_eq_false, false_and, and_false, true_and, and_true, List.all_cons, List.all_nil, id_eq, Bool.and_true]) <;> (try simp only [Int.ofNat_eq_natCast]) <;> (try omega))
    · have hx0 : xs = [] := List.length_eq_zero_iff.1 (by omega)
      have hs0 : (⟨#[]⟩ : ByteArray) = strL (hexL xs) := by rw [hx0]; rfl
      subst hR
      refine Weak.of (⟨⟨⟨#[]⟩, hs0, rfl⟩, rfl⟩) ?_ ?_ (by rfl)
      all_goals ((conv => cbv); repeat' (first | exact True.intro | with_reducible rfl | (with_reducible exact fun h => h) | (with_reducible refine And.intro ?_ ?_)))
  · intro hq
    dsimp only at hq ⊢
    have q0 := hq.1; have q1 := hq.2.1; have q2 := hq.2.2.1; have q3 := hq.2.2.2.1; have q4 := hq.2.2.2.2
    clear hq
    have e1 := (hi_at (hB.get i.toNat)).1
    have e2 := (hi_at (hB.get i.toNat)).2
    have hb := hB.get i.toNat
    conv => cbv
    repeat' (first | ((with_reducible intro (h : _ = _)); (try subst h); (try simp only [hu.b, hu.i, iB, iI, cmpB, Iv.val_sym, Iv.val_lit, Lv.raw, Tv.raw, decide_eq_true_eq, decide_eq_false_iff_not, beq_iff_eq, beq_eq_false_iff_ne, ne_eq, ofN, Int.toNat_zero, Int.toNat_one, Int.reduceToNat, natc, hu.s, iS, Sv.val_lit, Sv.val_sym, true_iff, false_iff, Bool.false_eq_true, bne_iff_ne, bne_eq_false_iff_eq, Bool.not_eq_true', Bool.not_eq_false', Decidable.not_not, nil_toList, ByteArray.size_empty, nilS, not_true_eq_false, not_false_eq_true, hu.l, iL, hu.t, iT, bin_add, bin_sub, bin_mul, wr_u8, wr_u16, wr_u32, wr_u64, IntKind.wrap_i64, List.length_append, List.length_cons, List.length_nil, List.nil_append, List.append_nil, List.cons_append, lvals, List.length_replicate, List.length_set, linV_val hu, Int.add_zero, Int.zero_add, Int.mul_one, Int.sub_zero, Int.zero_mul, Bool.true_eq_false, false_and, and_false, true_and, and_true, List.all_cons, List.all_nil, id_eq, Bool.and_true, e1, e2, e0] at h) <;> (try simp only [Int.ofNat_eq_natCast] at h) <;> (first | (have hF0 : False := by omega; exact hF0.elim) | (conv => cbv))) | (with_reducible refine And.intro ?_ ?_) | (first | (refine CallDet.genR2 ?_ (fun m1 zs hm1 hzs => hW2 _ _ m1 _ zs ?_ ?_ hm1 hzs)) | (refine CallVC.genR2 ?_ (fun m1 zs hm1 hzs => hW2 _ _ m1 _ zs ?_ ?_ hm1 hzs))) | (first | (refine CallDet.genR ?_ (fun t ht => hS2 _ _ t ?_ ?_ ?_ ht)) | (refine CallVC.genR ?_ (fun t ht => hS2 _ _ t ?_ ?_ ?_ ht))) | ((try simp only [hu.b, hu.i, iB, iI, cmpB, Iv.val_sym, Iv.val_lit, Lv.raw, Tv.raw, decide_eq_true_eq, decide_eq_false_iff_not, beq_iff_eq, beq_eq_false_iff_ne, ne_eq, ofN, Int.toNat_zero, Int.toNat_one, Int.reduceToNat, natc, hu.s, iS, Sv.val_lit, Sv.val_sym, true_iff, false_iff, Bool.false_eq_true, bne_iff_ne, bne_eq_false_iff_eq, Bool.not_eq_true', Bool.not_eq_false', Decidable.not_not, nil_toList, ByteArray.size_empty, nilS, not_true_eq_false, not_false_eq_true, hu.l, iL, hu.t, iT, bin_add, bin_sub, bin_mul, wr_u8, wr_u16, wr_u32, wr_u64, IntKind.wrap_i64, List.length_append, List.length_cons, List.length_nil, List.nil_append, List.append_nil, List.cons_append, lvals, List.length_replicate, List.length_set, linV_val hu, Int.add_zero, Int.zero_add, Int.mul_one, Int.sub_zero, Int.zero_mul, Bool.true_eq_false, false_and, and_false, true_and, and_true, List.all_cons, List.all_nil, id_eq, Bool.and_true, e1, e2, e0]) <;> (try simp only [Int.ofNat_eq_natCast]) <;> (subst_vars; simp only [List.length_append, List.length_cons, List.length_nil]; omega)) | ((try simp only [hu.b, hu.i, iB, iI, cmpB, Iv.val_sym, Iv.val_lit, Lv.raw, Tv.raw, decide_eq_true_eq, decide_eq_false_iff_not, beq_iff_eq, beq_eq_false_iff_ne, ne_eq, ofN, Int.toNat_zero, Int.toNat_one, Int.reduceToNat, natc, hu.s, iS, Sv.val_lit, Sv.val_sym, true_iff, false_iff, Bool.false_eq_true, bne_iff_ne, bne_eq_false_iff_eq, Bool.not_eq_true', Bool.not_eq_false', Decidable.not_not, nil_toList, ByteArray.size_empty, nilS, not_true_eq_false, not_false_eq_true, hu.l, iL, hu.t, iT, bin_add, bin_sub, bin_mul, wr_u8, wr_u16, wr_u32, wr_u64, IntKind.wrap_i64, List.length_append, List.length_cons, List.length_nil, List.nil_append, List.append_nil, List.cons_append, lvals, List.length_replicate, List.length_set, linV_val hu, Int.add_zero, Int.zero_add, Int.mul_one, Int.sub_zero, Int.zero_mul, Bool.true_eq_false, false_and, and_false, true_and, and_true, List.all_cons, List.all_nil, id_eq, Bool.and_true, e1, e2, e0]) <;> (try simp only [Int.ofNat_eq_natCast]) <;> (rw [q4]; exact hexL_bytes fun y hy => hB y (List.mem_of_mem_take hy))) | (refine Gen0.mk ?_; (conv => cbv)) | (refine Gen2.mk ?_; ((intro m1 zs hm1 hzs) <;> (try simp only [hu.b, hu.i, iB, iI, cmpB, Iv.val_sym, Iv.val_lit, Lv.raw, Tv.raw, decide_eq_true_eq, decide_eq_false_iff_not, beq_iff_eq, beq_eq_false_iff_ne, ne_eq, ofN, Int.toNat_zero, Int.toNat_one, Int.reduceToNat, natc, hu.s, iS, Sv.val_lit, Sv.val_sym, true_iff, false_iff, Bool.false_eq_true, bne_iff_ne, bne_eq_false_iff_eq, Bool.not_eq_true', Bool.not_eq_false', Decidable.not_not, nil_toList, ByteArray.size_empty, nilS, not_true_eq_false, not_false_eq_true, hu.l, iL, hu.t, iT, bin_add, bin_sub, bin_mul, wr_u8, wr_u16, wr_u32, wr_u64, IntKind.wrap_i64, List.length_append, List.length_cons, List.length_nil, List.nil_append, List.append_nil, List.cons_append, lvals, List.length_replicate, List.length_set, linV_val hu, Int.add_zero, Int.zero_add, Int.mul_one, Int.sub_zero, Int.zero_mul, Bool.true_eq_false, false_and, and_false, true_and, and_true, List.all_cons, List.all_nil, id_eq, Bool.and_true, e1, e2, e0] at hm1) <;> (try simp only [Int.ofNat_eq_natCast] at hm1) <;> (try simp only [hu.b, hu.i, iB, iI, cmpB, Iv.val_sym, Iv.val_lit, Lv.raw, Tv.raw, decide_eq_true_eq, decide_eq_false_iff_not, beq_iff_eq, beq_eq_false_iff_ne, ne_eq, ofN, Int.toNat_zero, Int.toNat_one, Int.reduceToNat, natc, hu.s, iS, Sv.val_lit, Sv.val_sym, true_iff, false_iff, Bool.false_eq_true, bne_iff_ne, bne_eq_false_iff_eq, Bool.not_eq_true', Bool.not_eq_false', Decidable.not_not, nil_toList, ByteArray.size_empty, nilS, not_true_eq_false, not_false_eq_true, hu.l, iL, hu.t, iT, bin_add, bin_sub, bin_mul, wr_u8, wr_u16, wr_u32, wr_u64, IntKind.wrap_i64, List.length_append, List.length_cons, List.length_nil, List.nil_append, List.append_nil, List.cons_append, lvals, List.length_replicate, List.length_set, linV_val hu, Int.add_zero, Int.zero_add, Int.mul_one, Int.sub_zero, Int.zero_mul, Bool.true_eq_false, false_and, and_false, true_and, and_true, List.all_cons, List.all_nil, id_eq, Bool.and_true, e1, e2, e0] at hzs) <;> (try simp only [Int.ofNat_eq_natCast] at hzs) <;> (first | (have hF0 : False := by omega; exact hF0.elim) | (conv => cbv)))) | (refine Gen1.mk ?_; ((intro t ht) <;> (try simp only [hu.b, hu.i, iB, iI, cmpB, Iv.val_sym, Iv.val_lit, Lv.raw, Tv.raw, decide_eq_true_eq, decide_eq_false_iff_not, beq_iff_eq, beq_eq_false_iff_ne, ne_eq, ofN, Int.toNat_zero, Int.toNat_one, Int.reduceToNat, natc, hu.s, iS, Sv.val_lit, Sv.val_sym, true_iff, false_iff, Bool.false_eq_true, bne_iff_ne, bne_eq_false_iff_eq, Bool.not_eq_true', Bool.not_eq_false', Decidable.not_not, nil_toList, ByteArray.size_empty, nilS, not_true_eq_false, not_false_eq_true, hu.l, iL, hu.t, iT, bin_add, bin_sub, bin_mul, wr_u8, wr_u16, wr_u32, wr_u64, IntKind.wrap_i64, List.length_append, List.length_cons, List.length_nil, List.nil_append, List.append_nil, List.cons_append, lvals, List.length_replicate, List.length_set, linV_val hu, Int.add_zero, Int.zero_add, Int.mul_one, Int.sub_zero, Int.zero_mul, Bool.true_eq_false, false_and, and_false, true_and, and_true, List.all_cons, List.all_nil, id_eq, Bool.and_true, e1, e2, e0] at ht) <;> (try simp only [Int.ofNat_eq_natCast] at ht) <;> (first | (have hF0 : False := by omega; exact hF0.elim) | (conv => cbv)))) | (simp only [hu.b, hu.i, iB, iI, cmpB, Iv.val_sym, Iv.val_lit, Lv.raw, Tv.raw, decide_eq_true_eq, decide_eq_false_iff_not, beq_iff_eq, beq_eq_false_iff_ne, ne_eq, ofN, Int.toNat_zero, Int.toNat_one, Int.reduceToNat, natc, hu.s, iS, Sv.val_lit, Sv.val_sym, true_iff, false_iff, Bool.false_eq_true, bne_iff_ne, bne_eq_false_iff_eq, Bool.not_eq_true', Bool.not_eq_false', Decidable.not_not, nil_toList, ByteArray.size_empty, nilS, not_true_eq_false, not_false_eq_true, hu.l, iL, hu.t, iT, bin_add, bin_sub, bin_mul, wr_u8, wr_u16, wr_u32, wr_u64, IntKind.wrap_i64, List.length_append, List.length_cons, List.length_nil, List.nil_append, List.append_nil, List.cons_append, lvals, List.length_replicate, List.length_set, linV_val hu, Int.add_zero, Int.zero_add, Int.mul_one, Int.sub_zero, Int.zero_mul, Bool.true_eq_false, false_and, and_false, true_and, and_true, List.all_cons, List.all_nil, id_eq, Bool.and_true, e1, e2, e0]; (try simp only [Int.ofNat_eq_natCast]); done) | ((try simp only [hu.b, hu.i, iB, iI, cmpB, Iv.val_sym, Iv.val_lit, Lv.raw, Tv.raw, decide_eq_true_eq, decide_eq_false_iff_not, beq_iff_eq, beq_eq_false_iff_ne, ne_eq, ofN, Int.toNat_zero, Int.toNat_one, Int.reduceToNat, natc, hu.s, iS, Sv.val_lit, Sv.val_sym, true_iff, false_iff, Bool.false_eq_true, bne_iff_ne, bne_eq_false_iff_eq, Bool.not_eq_true', Bool.not_eq_false', Decidable.not_not, nil_toList, ByteArray.size_empty, nilS, not_true_eq_false, not_false_eq_true, hu.l, iL, hu.t, iT, bin_add, bin_sub, bin_mul, wr_u8, wr_u16, wr_u32, wr_u64, IntKind.wrap_i64, List.length_append, List.length_cons, List.length_nil, List.nil_append, List.append_nil, List.cons_append, lvals, List.length_replicate, List.length_set, linV_val hu, Int.add_zero, Int.zero_add, Int.mul_one, Int.sub_zero, Int.zero_mul, Bool.true_eq_false, false_and, and_false, true_and, and_true, List.all_cons, List.all_nil, id_eq, Bool.and_true, e1, e2, e0]) <;> (try simp only [Int.ofNat_eq_natCast]) <;> omega))
    · rename_i m0 z0 hm0 hz0
      obtain ⟨i', ei⟩ : ∃ x, x = i + 1 := ⟨_, rfl⟩
      have hz : zs = hexL (xs.take i'.toNat) := by
        rw [hzs, hz0, dgL_at (by omega) (by omega), dgL_at (by omega) (by omega), show i'.toNat = i.toNat + 1 by omega, hex_next (by omega), q4, List.append_assoc]; rfl
      have hl : (zs.length : Int) = m1 := by rw [hzs, hz0, hm1, hm0, List.length_append, List.length_append, ← q3]; simp [Int.add_assoc]
      refine ⟨some (i', m1, zs), ⟨by omega, by omega, by omega, hl, hz⟩, by dsimp only; omega, [0, 1, 4], by kernel_rfl, by kernel_rfl, ?_, ?_⟩
      all_goals
        ((conv => cbv); repeat' (first | exact True.intro | with_reducible rfl | (with_reducible exact fun h => h) | (with_reducible refine And.intro ?_ ?_)))
      all_goals
        ((try simp only [hu.b, hu.i, iB, iI, cmpB, Iv.val_sym, Iv.val_lit, Lv.raw, Tv.raw, decide_eq_true_eq, decide_eq_false_iff_not, beq_iff_eq, beq_eq_false_iff_ne, ne_eq, ofN, Int.toNat_zero, Int.toNat_one, Int.reduceToNat, natc, hu.s, iS, Sv.val_lit, Sv.val_sym, true_iff, false_iff, Bool.false_eq_true, bne_iff_ne, bne_eq_false_iff_eq, Bool.not_eq_true', Bool.not_eq_false', Decidable.not_not, nil_toList, ByteArray.size_empty, nilS, not_true_eq_false, not_false_eq_true, hu.l, iL, hu.t, iT, bin_add, bin_sub, bin_mul, wr_u8, wr_u16, wr_u32, wr_u64, IntKind.wrap_i64, List.length_append, List.length_cons, List.length_nil, List.nil_append, List.append_nil, List.cons_append, lvals, List.length_replicate, List.length_set, linV_val hu, Int.add_zero, Int.zero_add, Int.mul_one, Int.sub_zero, Int.zero_mul, Bool.true_eq_false, false_and, and_false, true_and, and_true, List.all_cons, List.all_nil, id_eq, Bool.and_true]) <;> (try simp only [Int.ofNat_eq_natCast]) <;> (try omega))
    · have hs0 : t = strL (hexL xs) := by rw [ht, q4, List.take_of_length_le (by omega)]
      subst hR
      refine Weak.of (⟨⟨t, hs0, rfl⟩, rfl⟩) ?_ ?_ (by rfl)
      all_goals ((conv => cbv); repeat' (first | exact True.intro | with_reducible rfl | (with_reducible exact fun h => h) | (with_reducible refine And.intro ?_ ?_)))
theorem wrong_ctr (i : Int) : Ctr Try.prog 18 [] [.int .i64 (.sym i)] fun v H => v = .iface 53 (.ptr 0 ⟨.lit 0, 1, 0⟩) ∧ H = [.cells 55 [.int .i64 (.sym i), .iface 48 (.int .i64 (.sym 16))]] := by
  obtain ⟨uI, uB, uS, uL, uT, hu⟩ := words
  have hm := mixed
  have hT := tabOk
  obtain ⟨P, hP⟩ : ∃ P, P = Try.prog := ⟨_, rfl⟩
  rw [← hP] at hm hT ⊢
  refine Ctr.weak (ctr_of_vc hu hm hT (hP ▸ Try.func18) rfl (by kernel_rfl) ?_)
  clear hP hm hT
  generalize hR : Weak _ _ = R
  conv => cbv
  repeat' (first | ((with_reducible intro (h : _ = _)); (try subst h); (try simp only [hu.b, hu.i, iB, iI, cmpB, Iv.val_sym, Iv.val_lit, Lv.raw, Tv.raw, decide_eq_true_eq, decide_eq_false_iff_not, beq_iff_eq, beq_eq_false_iff_ne, ne_eq, ofN, Int.toNat_zero, Int.toNat_one, Int.reduceToNat, natc, hu.s, iS, Sv.val_lit, Sv.val_sym, true_iff, false_iff, Bool.false_eq_true, bne_iff_ne, bne_eq_false_iff_eq, Bool.not_eq_true', Bool.not_eq_false', Decidable.not_not, nil_toList, ByteArray.size_empty, nilS, not_true_eq_false, not_false_eq_true, hu.l, iL, hu.t, iT, bin_add, bin_sub, bin_mul, wr_u8, wr_u16, wr_u32, wr_u64, IntKind.wrap_i64, List.length_append, List.length_cons, List.length_nil, List.nil_append, List.append_nil, List.cons_append, lvals, List.length_replicate, List.length_set, linV_val hu, Int.add_zero, Int.zero_add, Int.mul_one, Int.sub_zero, Int.zero_mul, Bool.true_eq_false, false_and, and_false, true_and, and_true, List.all_cons, List.all_nil, id_eq, Bool.and_true] at h) <;> (try simp only [Int.ofNat_eq_natCast] at h) <;> (first | (have hF0 : False := by omega; exact hF0.elim) | (conv => cbv))) | (with_reducible refine And.intro ?_ ?_) | (refine Gen0.mk ?_; (conv => cbv)) | (simp only [hu.b, hu.i, iB, iI, cmpB, Iv.val_sym, Iv.val_lit, Lv.raw, Tv.raw, decide_eq_true_eq, decide_eq_false_iff_not, beq_iff_eq, beq_eq_false_iff_ne, ne_eq, ofN, Int.toNat_zero, Int.toNat_one, Int.reduceToNat, natc, hu.s, iS, Sv.val_lit, Sv.val_sym, true_iff, false_iff, Bool.false_eq_true, bne_iff_ne, bne_eq_false_iff_eq, Bool.not_eq_true', Bool.not_eq_false', Decidable.not_not, nil_toList, ByteArray.size_empty, nilS, not_true_eq_false, not_false_eq_true, hu.l, iL, hu.t, iT, bin_add, bin_sub, bin_mul, wr_u8, wr_u16, wr_u32, wr_u64, IntKind.wrap_i64, List.length_append, List.length_cons, List.length_nil, List.nil_append, List.append_nil, List.cons_append, lvals, List.length_replicate, List.length_set, linV_val hu, Int.add_zero, Int.zero_add, Int.mul_one, Int.sub_zero, Int.zero_mul, Bool.true_eq_false, false_and, and_false, true_and, and_true, List.all_cons, List.all_nil, id_eq, Bool.and_true]; (try simp only [Int.ofNat_eq_natCast]); done) | ((try simp only [hu.b, hu.i, iB, iI, cmpB, Iv.val_sym, Iv.val_lit, Lv.raw, Tv.raw, decide_eq_true_eq, decide_eq_false_iff_not, beq_iff_eq, beq_eq_false_iff_ne, ne_eq, ofN, Int.toNat_zero, Int.toNat_one, Int.reduceToNat, natc, hu.s, iS, Sv.val_lit, Sv.val_sym, true_iff, false_iff, Bool.false_eq_true, bne_iff_ne, bne_eq_false_iff_eq, Bool.not_eq_true', Bool.not_eq_false', Decidable.not_not, nil_toList, ByteArray.size_empty, nilS, not_true_eq_false, not_false_eq_true, hu.l, iL, hu.t, iT, bin_add, bin_sub, bin_mul, wr_u8, wr_u16, wr_u32, wr_u64, IntKind.wrap_i64, List.length_append, List.length_cons, List.length_nil, List.nil_append, List.append_nil, List.cons_append, lvals, List.length_replicate, List.length_set, linV_val hu, Int.add_zero, Int.zero_add, Int.mul_one, Int.sub_zero, Int.zero_mul, Bool.true_eq_false, false_and, and_false, true_and, and_true, List.all_cons, List.all_nil, id_eq, Bool.and_true]) <;> (try simp only [Int.ofNat_eq_natCast]) <;> omega))
  subst hR
  refine Weak.of (⟨rfl, rfl⟩) ?_ ?_ (by rfl)
  all_goals ((conv => cbv); repeat' (first | exact True.intro | with_reducible rfl | (with_reducible exact fun h => h) | (with_reducible refine And.intro ?_ ?_)))
theorem unhex_ctr (s : ByteArray) (hs : s.size ≤ 1000000) : Ctr Try.prog 8 [] [.str (.sym s)] fun v H =>
    (∃ i, (IsFirst s 16 i ∧ 0 ≤ i) ∧ v = .tup [.nilsl, .iface 53 (.ptr 0 ⟨.lit 0, 1, 0⟩)] ∧ H = [.cells 55 [.int .i64 (.sym i), .iface 48 (.int .i64 (.sym 16))]]) ∨
    ((IsFirst s 16 (-1) ∧ (s.size : Int) % 2 = 1) ∧ v = .tup [.nilsl, .iface 48 (.int .i64 (.sym 2))] ∧ H = []) ∨
    (∃ m ys, (IsFirst s 16 (-1) ∧ (s.size : Int) = 2 * m ∧ (ys.length : Int) = m ∧ ys = unhexL s m.toNat) ∧ v = .tup [.vec 0 (.sym m), .nilif] ∧ H = [.cols (.row 1) 5 [.ints .u8 (.sym ys)]]) := by
  obtain ⟨n, hn⟩ : ∃ n : Int, n = s.size := ⟨_, rfl⟩
  have n0 : 0 ≤ n := by omega
  have e0 : binI .rem .i64 (s.size : Int) 2 = n % 2 := by rw [← hn]; exact rem_nn n0
  obtain ⟨uI, uB, uS, uL, uT, hu⟩ := words
  have hm := mixed
  have hT := tabOk
  have hF16 := @first16
  have hI := @ib_ctr
  have hWr := @wrong_ctr
  obtain ⟨P, hP⟩ : ∃ P, P = Try.prog := ⟨_, rfl⟩
  rw [← hP] at hm hT hF16 hI hWr ⊢
  refine Ctr.weak (ctr_of_vc hu hm hT (hP ▸ Try.func8) rfl (by kernel_rfl) ?_)
  clear hP hm hT
  generalize hR : Weak _ _ = R
  conv => cbv
  repeat' (first | ((with_reducible intro (h : _ = _)); (try subst h); (try simp only [hu.b, hu.i, iB, iI, cmpB, Iv.val_sym, Iv.val_lit, Lv.raw, Tv.raw, decide_eq_true_eq, decide_eq_false_iff_not, beq_iff_eq, beq_eq_false_iff_ne, ne_eq, ofN, Int.toNat_zero, Int.toNat_one, Int.reduceToNat, natc, hu.s, iS, Sv.val_lit, Sv.val_sym, true_iff, false_iff, Bool.false_eq_true, bne_iff_ne, bne_eq_false_iff_eq, Bool.not_eq_true', Bool.not_eq_false', Decidable.not_not, nil_toList, ByteArray.size_empty, nilS, not_true_eq_false, not_false_eq_true, hu.l, iL, hu.t, iT, bin_add, bin_sub, bin_mul, wr_u8, wr_u16, wr_u32, wr_u64, IntKind.wrap_i64, List.length_append, List.length_cons, List.length_nil, List.nil_append, List.append_nil, List.cons_append, lvals, List.length_replicate, List.length_set, linV_val hu, Int.add_zero, Int.zero_add, Int.mul_one, Int.sub_zero, Int.zero_mul, Bool.true_eq_false, false_and, and_false, true_and, and_true, List.all_cons, List.all_nil, id_eq, Bool.and_true, e0] at h) <;> (try simp only [Int.ofNat_eq_natCast] at h) <;> (first | (have hF0 : False := by omega; exact hF0.elim) | (conv => cbv))) | (with_reducible refine And.intro ?_ ?_) | (refine CallVC.mk (Ctr.monoR ?_ (hF16 _ ?_)); ((rintro v H ⟨⟨i, ⟨hf, hf1, hf2⟩, rfl⟩, rfl⟩) <;> (try simp only [hu.b, hu.i, iB, iI, cmpB, Iv.val_sym, Iv.val_lit, Lv.raw, Tv.raw, decide_eq_true_eq, decide_eq_false_iff_not, beq_iff_eq, beq_eq_false_iff_ne, ne_eq, ofN, Int.toNat_zero, Int.toNat_one, Int.reduceToNat, natc, hu.s, iS, Sv.val_lit, Sv.val_sym, true_iff, false_iff, Bool.false_eq_true, bne_iff_ne, bne_eq_false_iff_eq, Bool.not_eq_true', Bool.not_eq_false', Decidable.not_not, nil_toList, ByteArray.size_empty, nilS, not_true_eq_false, not_false_eq_true, hu.l, iL, hu.t, iT, bin_add, bin_sub, bin_mul, wr_u8, wr_u16, wr_u32, wr_u64, IntKind.wrap_i64, List.length_append, List.length_cons, List.length_nil, List.nil_append, List.append_nil, List.cons_append, lvals, List.length_replicate, List.length_set, linV_val hu, Int.add_zero, Int.zero_add, Int.mul_one, Int.sub_zero, Int.zero_mul, Bool.true_eq_false, false_and, and_false, true_and, and_true, List.all_cons, List.all_nil, id_eq, Bool.and_true, e0] at hf) <;> (try simp only [Int.ofNat_eq_natCast] at hf) <;> (try simp only [hu.b, hu.i, iB, iI, cmpB, Iv.val_sym, Iv.val_lit, Lv.raw, Tv.raw, decide_eq_true_eq, decide_eq_false_iff_not, beq_iff_eq, beq_eq_false_iff_ne, ne_eq, ofN, Int.toNat_zero, Int.toNat_one, Int.reduceToNat, natc, hu.s, iS, Sv.val_lit, Sv.val_sym, true_iff, false_iff, Bool.false_eq_true, bne_iff_ne, bne_eq_false_iff_eq, Bool.not_eq_true', Bool.not_eq_false', Decidable.not_not, nil_toList, ByteArray.size_empty, nilS, not_true_eq_false, not_false_eq_true, hu.l, iL, hu.t, iT, bin_add, bin_sub, bin_mul, wr_u8, wr_u16, wr_u32, wr_u64, IntKind.wrap_i64, List.length_append, List.length_cons, List.length_nil, List.nil_append, List.append_nil, List.cons_append, lvals, List.length_replicate, List.length_set, linV_val hu, Int.add_zero, Int.zero_add, Int.mul_one, Int.sub_zero, Int.zero_mul, Bool.true_eq_false, false_and, and_false, true_and, and_true, List.all_cons, List.all_nil, id_eq, Bool.and_true, e0] at hf1) <;> (try simp only [Int.ofNat_eq_natCast] at hf1) <;> (try simp only [hu.b, hu.i, iB, iI, cmpB, Iv.val_sym, Iv.val_lit, Lv.raw, Tv.raw, decide_eq_true_eq, decide_eq_false_iff_not, beq_iff_eq, beq_eq_false_iff_ne, ne_eq, ofN, Int.toNat_zero, Int.toNat_one, Int.reduceToNat, natc, hu.s, iS, Sv.val_lit, Sv.val_sym, true_iff, false_iff, Bool.false_eq_true, bne_iff_ne, bne_eq_false_iff_eq, Bool.not_eq_true', Bool.not_eq_false', Decidable.not_not, nil_toList, ByteArray.size_empty, nilS, not_true_eq_false, not_false_eq_true, hu.l, iL, hu.t, iT, bin_add, bin_sub, bin_mul, wr_u8, wr_u16, wr_u32, wr_u64, IntKind.wrap_i64, List.length_append, List.length_cons, List.length_nil, List.nil_append, List.append_nil, List.cons_append, lvals, List.length_replicate, List.length_set, linV_val hu, Int.add_zero, Int.zero_add, Int.mul_one, Int.sub_zero, Int.zero_mul, Bool.true_eq_false, false_and, and_false, true_and, and_true, List.all_cons, List.all_nil, id_eq, Bool.and_true, e0] at hf2) <;> (try simp only [Int.ofNat_eq_natCast] at hf2) <;> (first | (have hF0 : False := by omega; exact hF0.elim) | (conv => cbv)))) | (refine CallVC.mk (Ctr.monoR ?_ (hWr _)); ((rintro v H ⟨rfl, rfl⟩) <;> (conv => cbv))) | (refine Gen0.mk ?_; (conv => cbv)) | (simp only [hu.b, hu.i, iB, iI, cmpB, Iv.val_sym, Iv.val_lit, Lv.raw, Tv.raw, decide_eq_true_eq, decide_eq_false_iff_not, beq_iff_eq, beq_eq_false_iff_ne, ne_eq, ofN, Int.toNat_zero, Int.toNat_one, Int.reduceToNat, natc, hu.s, iS, Sv.val_lit, Sv.val_sym, true_iff, false_iff, Bool.false_eq_true, bne_iff_ne, bne_eq_false_iff_eq, Bool.not_eq_true', Bool.not_eq_false', Decidable.not_not, nil_toList, ByteArray.size_empty, nilS, not_true_eq_false, not_false_eq_true, hu.l, iL, hu.t, iT, bin_add, bin_sub, bin_mul, wr_u8, wr_u16, wr_u32, wr_u64, IntKind.wrap_i64, List.length_append, List.length_cons, List.length_nil, List.nil_append, List.append_nil, List.cons_append, lvals, List.length_replicate, List.length_set, linV_val hu, Int.add_zero, Int.zero_add, Int.mul_one, Int.sub_zero, Int.zero_mul, Bool.true_eq_false, false_and, and_false, true_and, and_true, List.all_cons, List.all_nil, id_eq, Bool.and_true, e0]; (try simp only [Int.ofNat_eq_natCast]); done) | ((try simp only [hu.b, hu.i, iB, iI, cmpB, Iv.val_sym, Iv.val_lit, Lv.raw, Tv.raw, decide_eq_true_eq, decide_eq_false_iff_not, beq_iff_eq, beq_eq_false_iff_ne, ne_eq, ofN, Int.toNat_zero, Int.toNat_one, Int.reduceToNat, natc, hu.s, iS, Sv.val_lit, Sv.val_sym, true_iff, false_iff, Bool.false_eq_true, bne_iff_ne, bne_eq_false_iff_eq, Bool.not_eq_true', Bool.not_eq_false', Decidable.not_not, nil_toList, ByteArray.size_empty, nilS, not_true_eq_false, not_false_eq_true, hu.l, iL, hu.t, iT, bin_add, bin_sub, bin_mul, wr_u8, wr_u16, wr_u32, wr_u64, IntKind.wrap_i64, List.length_append, List.length_cons, List.length_nil, List.nil_append, List.append_nil, List.cons_append, lvals, List.length_replicate, List.length_set, linV_val hu, Int.add_zero, Int.zero_add, Int.mul_one, Int.sub_zero, Int.zero_mul, Bool.true_eq_false, false_and, and_false, true_and, and_true, List.all_cons, List.all_nil, id_eq, Bool.and_true, e0]) <;> (try simp only [Int.ofNat_eq_natCast]) <;> omega))
  · subst hR
    refine Weak.of ((.inl ⟨i, ⟨hf, by omega⟩, rfl, rfl⟩)) ?_ ?_ (by rfl)
    all_goals ((conv => cbv); repeat' (first | exact True.intro | with_reducible rfl | (with_reducible exact fun h => h) | (with_reducible refine And.intro ?_ ?_)))
  · have hi : i = -1 := by omega
    subst hi
    subst hR
    refine Weak.of ((.inr (.inl ⟨⟨hf, by omega⟩, rfl, rfl⟩))) ?_ ?_ (by rfl)
    all_goals ((conv => cbv); repeat' (first | exact True.intro | with_reducible rfl | (with_reducible exact fun h => h) | (with_reducible refine And.intro ?_ ?_)))
  have hi : i = -1 := by omega
  have hall := hf.all (by omega)
  refine .nilrow 5 5 .u8 (by kernel_rfl) rfl ?_
  refine .invr (Int × Int × List Int) [5, 6] (fun g => ([.vec 0 (.sym g.2.1), .int .i64 (.sym g.1)], [.cols (.row 1) 5 [.ints .u8 (.sym g.2.2)]])) (fun g => 0 ≤ g.2.1 ∧ g.1 = 2 * g.2.1 ∧ g.1 ≤ n ∧ (g.2.2.length : Int) = g.2.1 ∧ g.2.2 = unhexL s g.2.1.toNat) (fun g => (n - g.1).toNat) (0, 0, []) (by kernel_rfl) (fun g hg => by kernel_rfl) ?_ ?_
  · refine ⟨⟨by dsimp only; omega, by dsimp only; omega, by dsimp only; omega, rfl, rfl⟩, ?_, ?_⟩
    all_goals
      ((conv => cbv); repeat' (first | exact True.intro | with_reducible rfl | (with_reducible exact fun h => h) | (with_reducible refine And.intro ?_ ?_)))
  rintro ⟨k, m, ys⟩ hq
  simp only [] at hq
  have q0 := hq.1; have q1 := hq.2.1; have q2 := hq.2.2.1; have q3 := hq.2.2.2.1; have q4 := hq.2.2.2.2
  clear hq
  have e1 : (k + 1 + 9223372036854775808) % 18446744073709551616 - 9223372036854775808 = k + 1 := by omega
  conv => cbv
  repeat' (first | ((with_reducible intro (h : _ = _)); (try subst h); (try simp only [hu.b, hu.i, iB, iI, cmpB, Iv.val_sym, Iv.val_lit, Lv.raw, Tv.raw, decide_eq_true_eq, decide_eq_false_iff_not, beq_iff_eq, beq_eq_false_iff_ne, ne_eq, ofN, Int.toNat_zero, Int.toNat_one, Int.reduceToNat, natc, hu.s, iS, Sv.val_lit, Sv.val_sym, true_iff, false_iff, Bool.false_eq_true, bne_iff_ne, bne_eq_false_iff_eq, Bool.not_eq_true', Bool.not_eq_false', Decidable.not_not, nil_toList, ByteArray.size_empty, nilS, not_true_eq_false, not_false_eq_true, hu.l, iL, hu.t, iT, bin_add, bin_sub, bin_mul, wr_u8, wr_u16, wr_u32, wr_u64, IntKind.wrap_i64, List.length_append, List.length_cons, List.length_nil, List.nil_append, List.append_nil, List.cons_append, lvals, List.length_replicate, List.length_set, linV_val hu, Int.add_zero, Int.zero_add, Int.mul_one, Int.sub_zero, Int.zero_mul, Bool.true_eq_false, false_and, and_false, true_and, and_true, List.all_cons, List.all_nil, id_eq, Bool.and_true, e1] at h) <;> (try simp only [Int.ofNat_eq_natCast] at h) <;> (first | (have hF0 : False := by omega; exact hF0.elim) | (conv => cbv))) | (with_reducible refine And.intro ?_ ?_) | (first | (refine CallDet.genR ?_ (fun x hx => hI _ _ x hx)) | (refine CallVC.genR ?_ (fun x hx => hI _ _ x hx))) | (refine Gen0.mk ?_; (conv => cbv)) | (refine Gen1.mk ?_; ((intro x hx) <;> (try simp only [hu.b, hu.i, iB, iI, cmpB, Iv.val_sym, Iv.val_lit, Lv.raw, Tv.raw, decide_eq_true_eq, decide_eq_false_iff_not, beq_iff_eq, beq_eq_false_iff_ne, ne_eq, ofN, Int.toNat_zero, Int.toNat_one, Int.reduceToNat, natc, hu.s, iS, Sv.val_lit, Sv.val_sym, true_iff, false_iff, Bool.false_eq_true, bne_iff_ne, bne_eq_false_iff_eq, Bool.not_eq_true', Bool.not_eq_false', Decidable.not_not, nil_toList, ByteArray.size_empty, nilS, not_true_eq_false, not_false_eq_true, hu.l, iL, hu.t, iT, bin_add, bin_sub, bin_mul, wr_u8, wr_u16, wr_u32, wr_u64, IntKind.wrap_i64, List.length_append, List.length_cons, List.length_nil, List.nil_append, List.append_nil, List.cons_append, lvals, List.length_replicate, List.length_set, linV_val hu, Int.add_zero, Int.zero_add, Int.mul_one, Int.sub_zero, Int.zero_mul, Bool.true_eq_false, false_and, and_false, true_and, and_true, List.all_cons, List.all_nil, id_eq, Bool.and_true, e1] at hx) <;> (try simp only [Int.ofNat_eq_natCast] at hx) <;> (first | (have hF0 : False := by omega; exact hF0.elim) | (conv => cbv)))) | (simp only [hu.b, hu.i, iB, iI, cmpB, Iv.val_sym, Iv.val_lit, Lv.raw, Tv.raw, decide_eq_true_eq, decide_eq_false_iff_not, beq_iff_eq, beq_eq_false_iff_ne, ne_eq, ofN, Int.toNat_zero, Int.toNat_one, Int.reduceToNat, natc, hu.s, iS, Sv.val_lit, Sv.val_sym, true_iff, false_iff, Bool.false_eq_true, bne_iff_ne, bne_eq_false_iff_eq, Bool.not_eq_true', Bool.not_eq_false', Decidable.not_not, nil_toList, ByteArray.size_empty, nilS, not_true_eq_false, not_false_eq_true, hu.l, iL, hu.t, iT, bin_add, bin_sub, bin_mul, wr_u8, wr_u16, wr_u32, wr_u64, IntKind.wrap_i64, List.length_append, List.length_cons, List.length_nil, List.nil_append, List.append_nil, List.cons_append, lvals, List.length_replicate, List.length_set, linV_val hu, Int.add_zero, Int.zero_add, Int.mul_one, Int.sub_zero, Int.zero_mul, Bool.true_eq_false, false_and, and_false, true_and, and_true, List.all_cons, List.all_nil, id_eq, Bool.and_true, e1]; (try simp only [Int.ofNat_eq_natCast]); done) | ((try simp only [hu.b, hu.i, iB, iI, cmpB, Iv.val_sym, Iv.val_lit, Lv.raw, Tv.raw, decide_eq_true_eq, decide_eq_false_iff_not, beq_iff_eq, beq_eq_false_iff_ne, ne_eq, ofN, Int.toNat_zero, Int.toNat_one, Int.reduceToNat, natc, hu.s, iS, Sv.val_lit, Sv.val_sym, true_iff, false_iff, Bool.false_eq_true, bne_iff_ne, bne_eq_false_iff_eq, Bool.not_eq_true', Bool.not_eq_false', Decidable.not_not, nil_toList, ByteArray.size_empty, nilS, not_true_eq_false, not_false_eq_true, hu.l, iL, hu.t, iT, bin_add, bin_sub, bin_mul, wr_u8, wr_u16, wr_u32, wr_u64, IntKind.wrap_i64, List.length_append, List.length_cons, List.length_nil, List.nil_append, List.append_nil, List.cons_append, lvals, List.length_replicate, List.length_set, linV_val hu, Int.add_zero, Int.zero_add, Int.mul_one, Int.sub_zero, Int.zero_mul, Bool.true_eq_false, false_and, and_false, true_and, and_true, List.all_cons, List.all_nil, id_eq, Bool.and_true, e1]) <;> (try simp only [Int.ofNat_eq_natCast]) <;> omega))
  · rename_i x0 h0
    have hlt : k < s.size := by assumption
    have v0 := hall k (by omega) hlt
    have v1 := hall (k + 1) (by omega) (by omega)
    have p0 := val8_nn (byteAt s k)
    have p1 := val8_nn (byteAt s (k + 1))
    have hx0 : x0 = val8 (byteAt s k) := h0.trans ((ix16_at (byteAt_bd s k)).trans (if_pos v0))
    have hx1 : x = val8 (byteAt s (k + 1)) := hx.trans ((ix16_at (byteAt_bd s (k + 1))).trans (if_pos v1))
    have hor := or_at (a := x0) (b := x) (by omega) (by omega)
    obtain ⟨k', ek⟩ : ∃ y, y = k + 2 := ⟨_, rfl⟩
    obtain ⟨m', em⟩ : ∃ y, y = m + 1 := ⟨_, rfl⟩
    obtain ⟨zs, ez⟩ : ∃ y, y = unhexL s m'.toNat := ⟨_, rfl⟩
    have hnx : zs = ys ++ [(16 * x0 + x) % 256] := by
      rw [ez, show m'.toNat = m.toNat + 1 by omega, unhexL_next, ← q4, unF, show (2 * ((m.toNat : Nat) : Int)) = k by omega, ← hx0, ← hx1]
    have hl : (zs.length : Int) = m' := by rw [ez, unhexL_length]; omega
    refine ⟨(k', m', zs), ⟨by dsimp only; omega, by dsimp only; omega, by dsimp only; omega, hl, ez⟩, by dsimp only; omega, [2], by kernel_rfl, by kernel_rfl, ?_, ?_⟩
    all_goals
      ((conv => cbv); repeat' (first | exact True.intro | with_reducible rfl | (with_reducible exact fun h => h) | (with_reducible refine And.intro ?_ ?_)))
    all_goals
      ((try simp only [hu.b, hu.i, iB, iI, cmpB, Iv.val_sym, Iv.val_lit, Lv.raw, Tv.raw, decide_eq_true_eq, decide_eq_false_iff_not, beq_iff_eq, beq_eq_false_iff_ne, ne_eq, ofN, Int.toNat_zero, Int.toNat_one, Int.reduceToNat, natc, hu.s, iS, Sv.val_lit, Sv.val_sym, true_iff, false_iff, Bool.false_eq_true, bne_iff_ne, bne_eq_false_iff_eq, Bool.not_eq_true', Bool.not_eq_false', Decidable.not_not, nil_toList, ByteArray.size_empty, nilS, not_true_eq_false, not_false_eq_true, hu.l, iL, hu.t, iT, bin_add, bin_sub, bin_mul, wr_u8, wr_u16, wr_u32, wr_u64, IntKind.wrap_i64, List.length_append, List.length_cons, List.length_nil, List.nil_append, List.append_nil, List.cons_append, lvals, List.length_replicate, List.length_set, linV_val hu, Int.add_zero, Int.zero_add, Int.mul_one, Int.sub_zero, Int.zero_mul, Bool.true_eq_false, false_and, and_false, true_and, and_true, List.all_cons, List.all_nil, id_eq, Bool.and_true, hor]) <;> (try simp only [Int.ofNat_eq_natCast]) <;> (try omega))
    all_goals exact hnx.symm
  · subst hR
    refine Weak.of ((.inr (.inr ⟨m, ys, ⟨hi ▸ hf, by omega, q3, q4⟩, rfl, rfl⟩))) ?_ ?_ (by rfl)
    all_goals ((conv => cbv); repeat' (first | exact True.intro | with_reducible rfl | (with_reducible exact fun h => h) | (with_reducible refine And.intro ?_ ?_)))
end Go.Proofs.Ytbadogbkbhopcaa
namespace Go.Proofs.Ytbadogbkbhopcaa
open Go Sx
set_option maxRecDepth 100000
set_option maxHeartbeats 4000000
theorem value_ctr (c : Int) (y : Int) (hc : 0 ≤ c ∧ c < 256) (hy : y = val8 c) : Ctr Try.prog 20 [] [.int .u8 (.sym c)] fun v H => v = .int .i64 (.sym y) ∧ H = [] := by
  have e1 : (c + 9223372036854775808) % 18446744073709551616 - 9223372036854775808 = c := by omega
  obtain ⟨uI, uB, uS, uL, uT, hu⟩ := words
  have hm := mixed
  have hT := tabOk
  obtain ⟨P, hP⟩ : ∃ P, P = Try.prog := ⟨_, rfl⟩
  rw [← hP] at hm hT ⊢
  refine Ctr.weak (ctr_of_vc hu hm hT (hP ▸ Try.func20) rfl (by kernel_rfl) ?_)
  clear hP hm hT
  generalize hR : Weak _ _ = R
  conv => cbv
  repeat' (first | ((with_reducible intro (h : _ = _)); (try subst h); (try simp only [hu.b, hu.i, iB, iI, cmpB, Iv.val_sym, Iv.val_lit, Lv.raw, Tv.raw, decide_eq_true_eq, decide_eq_false_iff_not, beq_iff_eq, beq_eq_false_iff_ne, ne_eq, ofN, Int.toNat_zero, Int.toNat_one, Int.reduceToNat, natc, hu.s, iS, Sv.val_lit, Sv.val_sym, true_iff, false_iff, Bool.false_eq_true, bne_iff_ne, bne_eq_false_iff_eq, Bool.not_eq_true', Bool.not_eq_false', Decidable.not_not, nil_toList, ByteArray.size_empty, nilS, not_true_eq_false, not_false_eq_true, hu.l, iL, hu.t, iT, bin_add, bin_sub, bin_mul, wr_u8, wr_u16, wr_u32, wr_u64, IntKind.wrap_i64, List.length_append, List.length_cons, List.length_nil, List.nil_append, List.append_nil, List.cons_append, lvals, List.length_replicate, List.length_set, linV_val hu, Int.add_zero, Int.zero_add, Int.mul_one, Int.sub_zero, Int.zero_mul, Bool.true_eq_false, false_and, and_false, true_and, and_true, List.all_cons, List.all_nil, id_eq, Bool.and_true] at h) <;> (try simp only [Int.ofNat_eq_natCast] at h) <;> (first | (have hF0 : False := by omega; exact hF0.elim) | (conv => cbv))) | (with_reducible refine And.intro ?_ ?_) | (refine Gen0.mk ?_; (conv => cbv)) | (simp only [hu.b, hu.i, iB, iI, cmpB, Iv.val_sym, Iv.val_lit, Lv.raw, Tv.raw, decide_eq_true_eq, decide_eq_false_iff_not, beq_iff_eq, beq_eq_false_iff_ne, ne_eq, ofN, Int.toNat_zero, Int.toNat_one, Int.reduceToNat, natc, hu.s, iS, Sv.val_lit, Sv.val_sym, true_iff, false_iff, Bool.false_eq_true, bne_iff_ne, bne_eq_false_iff_eq, Bool.not_eq_true', Bool.not_eq_false', Decidable.not_not, nil_toList, ByteArray.size_empty, nilS, not_true_eq_false, not_false_eq_true, hu.l, iL, hu.t, iT, bin_add, bin_sub, bin_mul, wr_u8, wr_u16, wr_u32, wr_u64, IntKind.wrap_i64, List.length_append, List.length_cons, List.length_nil, List.nil_append, List.append_nil, List.cons_append, lvals, List.length_replicate, List.length_set, linV_val hu, Int.add_zero, Int.zero_add, Int.mul_one, Int.sub_zero, Int.zero_mul, Bool.true_eq_false, false_and, and_false, true_and, and_true, List.all_cons, List.all_nil, id_eq, Bool.and_true]; (try simp only [Int.ofNat_eq_natCast]); done) | ((try simp only [hu.b, hu.i, iB, iI, cmpB, Iv.val_sym, Iv.val_lit, Lv.raw, Tv.raw, decide_eq_true_eq, decide_eq_false_iff_not, beq_iff_eq, beq_eq_false_iff_ne, ne_eq, ofN, Int.toNat_zero, Int.toNat_one, Int.reduceToNat, natc, hu.s, iS, Sv.val_lit, Sv.val_sym, true_iff, false_iff, Bool.false_eq_true, bne_iff_ne, bne_eq_false_iff_eq, Bool.not_eq_true', Bool.not_eq_false', Decidable.not_not, nil_toList, ByteArray.size_empty, nilS, not_true_eq_false, not_false_eq_true, hu.l, iL, hu.t, iT, bin_add, bin_sub, bin_mul, wr_u8, wr_u16, wr_u32, wr_u64, IntKind.wrap_i64, List.length_append, List.length_cons, List.length_nil, List.nil_append, List.append_nil, List.cons_append, lvals, List.length_replicate, List.length_set, linV_val hu, Int.add_zero, Int.zero_add, Int.mul_one, Int.sub_zero, Int.zero_mul, Bool.true_eq_false, false_and, and_false, true_and, and_true, List.all_cons, List.all_nil, id_eq, Bool.and_true]) <;> (try simp only [Int.ofNat_eq_natCast]) <;> omega))
  all_goals
    subst hR
    refine Weak.of (⟨rfl, rfl⟩) ?_ ?_ (by rfl)
    all_goals ((conv => cbv); repeat' (first | exact True.intro | with_reducible rfl | (with_reducible exact fun h => h) | (with_reducible refine And.intro ?_ ?_)))
  all_goals
    ((try simp only [hu.b, hu.i, iB, iI, cmpB, Iv.val_sym, Iv.val_lit, Lv.raw, Tv.raw, decide_eq_true_eq, decide_eq_false_iff_not, beq_iff_eq, beq_eq_false_iff_ne, ne_eq, ofN, Int.toNat_zero, Int.toNat_one, Int.reduceToNat, natc, hu.s, iS, Sv.val_lit, Sv.val_sym, true_iff, false_iff, Bool.false_eq_true, bne_iff_ne, bne_eq_false_iff_eq, Bool.not_eq_true', Bool.not_eq_false', Decidable.not_not, nil_toList, ByteArray.size_empty, nilS, not_true_eq_false, not_false_eq_true, hu.l, iL, hu.t, iT, bin_add, bin_sub, bin_mul, wr_u8, wr_u16, wr_u32, wr_u64, IntKind.wrap_i64, List.length_append, List.length_cons, List.length_nil, List.nil_append, List.append_nil, List.cons_append, lvals, List.length_replicate, List.length_set, linV_val hu, Int.add_zero, Int.zero_add, Int.mul_one, Int.sub_zero, Int.zero_mul, Bool.true_eq_false, false_and, and_false, true_and, and_true, List.all_cons, List.all_nil, id_eq, Bool.and_true, e1]) <;> (try simp only [Int.ofNat_eq_natCast]) <;> (try omega))
  all_goals (rw [hy, val8]; (repeat' split) <;> omega)
theorem digit_ctr (n : Int) (s : ByteArray) (hn : 0 ≤ n ∧ n < 16) (hs : s = strL [dig n]) : Ctr Try.prog 11 [] [.int .i64 (.sym n)] fun v H => v = .str (.sym s) ∧ H = [] := by
  obtain ⟨uI, uB, uS, uL, uT, hu⟩ := words
  have hm := mixed
  have hT := tabOk
  obtain ⟨P, hP⟩ : ∃ P, P = Try.prog := ⟨_, rfl⟩
  rw [← hP] at hm hT ⊢
  refine Ctr.weak (ctr_of_vc hu hm hT (hP ▸ Try.func11) rfl (by kernel_rfl) ?_)
  clear hP hm hT
  generalize hR : Weak _ _ = R
  conv => cbv
  repeat' (first | ((with_reducible intro (h : _ = _)); (try subst h); (try simp only [hu.b, hu.i, iB, iI, cmpB, Iv.val_sym, Iv.val_lit, Lv.raw, Tv.raw, decide_eq_true_eq, decide_eq_false_iff_not, beq_iff_eq, beq_eq_false_iff_ne, ne_eq, ofN, Int.toNat_zero, Int.toNat_one, Int.reduceToNat, natc, hu.s, iS, Sv.val_lit, Sv.val_sym, true_iff, false_iff, Bool.false_eq_true, bne_iff_ne, bne_eq_false_iff_eq, Bool.not_eq_true', Bool.not_eq_false', Decidable.not_not, nil_toList, ByteArray.size_empty, nilS, not_true_eq_false, not_false_eq_true, hu.l, iL, hu.t, iT, bin_add, bin_sub, bin_mul, wr_u8, wr_u16, wr_u32, wr_u64, IntKind.wrap_i64, List.length_append, List.length_cons, List.length_nil, List.nil_append, List.append_nil, List.cons_append, lvals, List.length_replicate, List.length_set, linV_val hu, Int.add_zero, Int.zero_add, Int.mul_one, Int.sub_zero, Int.zero_mul, Bool.true_eq_false, false_and, and_false, true_and, and_true, List.all_cons, List.all_nil, id_eq, Bool.and_true] at h) <;> (try simp only [Int.ofNat_eq_natCast] at h) <;> (first | (have hF0 : False := by omega; exact hF0.elim) | (conv => cbv))) | (with_reducible refine And.intro ?_ ?_) | (refine Gen0.mk ?_; (conv => cbv)) | (simp only [hu.b, hu.i, iB, iI, cmpB, Iv.val_sym, Iv.val_lit, Lv.raw, Tv.raw, decide_eq_true_eq, decide_eq_false_iff_not, beq_iff_eq, beq_eq_false_iff_ne, ne_eq, ofN, Int.toNat_zero, Int.toNat_one, Int.reduceToNat, natc, hu.s, iS, Sv.val_lit, Sv.val_sym, true_iff, false_iff, Bool.false_eq_true, bne_iff_ne, bne_eq_false_iff_eq, Bool.not_eq_true', Bool.not_eq_false', Decidable.not_not, nil_toList, ByteArray.size_empty, nilS, not_true_eq_false, not_false_eq_true, hu.l, iL, hu.t, iT, bin_add, bin_sub, bin_mul, wr_u8, wr_u16, wr_u32, wr_u64, IntKind.wrap_i64, List.length_append, List.length_cons, List.length_nil, List.nil_append, List.append_nil, List.cons_append, lvals, List.length_replicate, List.length_set, linV_val hu, Int.add_zero, Int.zero_add, Int.mul_one, Int.sub_zero, Int.zero_mul, Bool.true_eq_false, false_and, and_false, true_and, and_true, List.all_cons, List.all_nil, id_eq, Bool.and_true]; (try simp only [Int.ofNat_eq_natCast]); done) | ((try simp only [hu.b, hu.i, iB, iI, cmpB, Iv.val_sym, Iv.val_lit, Lv.raw, Tv.raw, decide_eq_true_eq, decide_eq_false_iff_not, beq_iff_eq, beq_eq_false_iff_ne, ne_eq, ofN, Int.toNat_zero, Int.toNat_one, Int.reduceToNat, natc, hu.s, iS, Sv.val_lit, Sv.val_sym, true_iff, false_iff, Bool.false_eq_true, bne_iff_ne, bne_eq_false_iff_eq, Bool.not_eq_true', Bool.not_eq_false', Decidable.not_not, nil_toList, ByteArray.size_empty, nilS, not_true_eq_false, not_false_eq_true, hu.l, iL, hu.t, iT, bin_add, bin_sub, bin_mul, wr_u8, wr_u16, wr_u32, wr_u64, IntKind.wrap_i64, List.length_append, List.length_cons, List.length_nil, List.nil_append, List.append_nil, List.cons_append, lvals, List.length_replicate, List.length_set, linV_val hu, Int.add_zero, Int.zero_add, Int.mul_one, Int.sub_zero, Int.zero_mul, Bool.true_eq_false, false_and, and_false, true_and, and_true, List.all_cons, List.all_nil, id_eq, Bool.and_true]) <;> (try simp only [Int.ofNat_eq_natCast]) <;> omega))
  all_goals
    subst hR
    refine Weak.of (⟨rfl, rfl⟩) ?_ ?_ (by rfl)
    all_goals ((conv => cbv); repeat' (first | exact True.intro | with_reducible rfl | (with_reducible exact fun h => h) | (with_reducible refine And.intro ?_ ?_)))
  all_goals
    ((try simp only [hu.b, hu.i, iB, iI, cmpB, Iv.val_sym, Iv.val_lit, Lv.raw, Tv.raw, decide_eq_true_eq, decide_eq_false_iff_not, beq_iff_eq, beq_eq_false_iff_ne, ne_eq, ofN, Int.toNat_zero, Int.toNat_one, Int.reduceToNat, natc, hu.s, iS, Sv.val_lit, Sv.val_sym, true_iff, false_iff, Bool.false_eq_true, bne_iff_ne, bne_eq_false_iff_eq, Bool.not_eq_true', Bool.not_eq_false', Decidable.not_not, nil_toList, ByteArray.size_empty, nilS, not_true_eq_false, not_false_eq_true, hu.l, iL, hu.t, iT, bin_add, bin_sub, bin_mul, wr_u8, wr_u16, wr_u32, wr_u64, IntKind.wrap_i64, List.length_append, List.length_cons, List.length_nil, List.nil_append, List.append_nil, List.cons_append, lvals, List.length_replicate, List.length_set, linV_val hu, Int.add_zero, Int.zero_add, Int.mul_one, Int.sub_zero, Int.zero_mul, Bool.true_eq_false, false_and, and_false, true_and, and_true, List.all_cons, List.all_nil, id_eq, Bool.and_true]) <;> (try simp only [Int.ofNat_eq_natCast]) <;> (try omega))
  all_goals
    have hd : ∀ x, x = dig n → strL [x] = s := fun x hx => by rw [hx, hs]
    exact hd _ (by rw [dig]; split <;> omega)
theorem runhex_ctr (s : ByteArray) (hs : s.size ≤ 1000000) (m : Int) (hm0 : (s.size : Int) = 2 * m) (hf : IsFirst s 16 (-1)) (ys : List Int) (hy : ys = unhexL s m.toNat) : Ctr Try.prog 10 [] [.str (.sym s)] fun v H => (∃ m', m' = m ∧ v = .vec 0 (.sym m')) ∧ H = [.cols (.row 1) 5 [.ints .u8 (.sym ys)]] := by
  have hall := hf.all (by omega)
  obtain ⟨uI, uB, uS, uL, uT, hu⟩ := words
  have hm := mixed
  have hT := tabOk
  have hV := @value_ctr
  obtain ⟨P, hP⟩ : ∃ P, P = Try.prog := ⟨_, rfl⟩
  rw [← hP] at hm hT hV ⊢
  refine Ctr.weak (ctr_of_vc hu hm hT (hP ▸ Try.func10) rfl (by kernel_rfl) ?_)
  clear hP hm hT
  generalize hR : Weak _ _ = R
  conv => cbv
  repeat' (first | ((with_reducible intro (h : _ = _)); (try subst h); (try simp only [hu.b, hu.i, iB, iI, cmpB, Iv.val_sym, Iv.val_lit, Lv.raw, Tv.raw, decide_eq_true_eq, decide_eq_false_iff_not, beq_iff_eq, beq_eq_false_iff_ne, ne_eq, ofN, Int.toNat_zero, Int.toNat_one, Int.reduceToNat, natc, hu.s, iS, Sv.val_lit, Sv.val_sym, true_iff, false_iff, Bool.false_eq_true, bne_iff_ne, bne_eq_false_iff_eq, Bool.not_eq_true', Bool.not_eq_false', Decidable.not_not, nil_toList, ByteArray.size_empty, nilS, not_true_eq_false, not_false_eq_true, hu.l, iL, hu.t, iT, bin_add, bin_sub, bin_mul, wr_u8, wr_u16, wr_u32, wr_u64, IntKind.wrap_i64, List.length_append, List.length_cons, List.length_nil, List.nil_append, List.append_nil, List.cons_append, lvals, List.length_replicate, List.length_set, linV_val hu, Int.add_zero, Int.zero_add, Int.mul_one, Int.sub_zero, Int.zero_mul, Bool.true_eq_false, false_and, and_false, true_and, and_true, List.all_cons, List.all_nil, id_eq, Bool.and_true] at h) <;> (try simp only [Int.ofNat_eq_natCast] at h) <;> (first | (have hF0 : False := by omega; exact hF0.elim) | (conv => cbv))) | (with_reducible refine And.intro ?_ ?_) | (refine Gen0.mk ?_; (conv => cbv)) | (simp only [hu.b, hu.i, iB, iI, cmpB, Iv.val_sym, Iv.val_lit, Lv.raw, Tv.raw, decide_eq_true_eq, decide_eq_false_iff_not, beq_iff_eq, beq_eq_false_iff_ne, ne_eq, ofN, Int.toNat_zero, Int.toNat_one, Int.reduceToNat, natc, hu.s, iS, Sv.val_lit, Sv.val_sym, true_iff, false_iff, Bool.false_eq_true, bne_iff_ne, bne_eq_false_iff_eq, Bool.not_eq_true', Bool.not_eq_false', Decidable.not_not, nil_toList, ByteArray.size_empty, nilS, not_true_eq_false, not_false_eq_true, hu.l, iL, hu.t, iT, bin_add, bin_sub, bin_mul, wr_u8, wr_u16, wr_u32, wr_u64, IntKind.wrap_i64, List.length_append, List.length_cons, List.length_nil, List.nil_append, List.append_nil, List.cons_append, lvals, List.length_replicate, List.length_set, linV_val hu, Int.add_zero, Int.zero_add, Int.mul_one, Int.sub_zero, Int.zero_mul, Bool.true_eq_false, false_and, and_false, true_and, and_true, List.all_cons, List.all_nil, id_eq, Bool.and_true]; (try simp only [Int.ofNat_eq_natCast]); done) | ((try simp only [hu.b, hu.i, iB, iI, cmpB, Iv.val_sym, Iv.val_lit, Lv.raw, Tv.raw, decide_eq_true_eq, decide_eq_false_iff_not, beq_iff_eq, beq_eq_false_iff_ne, ne_eq, ofN, Int.toNat_zero, Int.toNat_one, Int.reduceToNat, natc, hu.s, iS, Sv.val_lit, Sv.val_sym, true_iff, false_iff, Bool.false_eq_true, bne_iff_ne, bne_eq_false_iff_eq, Bool.not_eq_true', Bool.not_eq_false', Decidable.not_not, nil_toList, ByteArray.size_empty, nilS, not_true_eq_false, not_false_eq_true, hu.l, iL, hu.t, iT, bin_add, bin_sub, bin_mul, wr_u8, wr_u16, wr_u32, wr_u64, IntKind.wrap_i64, List.length_append, List.length_cons, List.length_nil, List.nil_append, List.append_nil, List.cons_append, lvals, List.length_replicate, List.length_set, linV_val hu, Int.add_zero, Int.zero_add, Int.mul_one, Int.sub_zero, Int.zero_mul, Bool.true_eq_false, false_and, and_false, true_and, and_true, List.all_cons, List.all_nil, id_eq, Bool.and_true]) <;> (try simp only [Int.ofNat_eq_natCast]) <;> omega))
  refine .nilrow 3 5 .u8 (by kernel_rfl) rfl ?_
  refine .invr (Int × Int × List Int) [3, 4] (fun g => ([.vec 0 (.sym g.2.1), .int .i64 (.sym g.1)], [.cols (.row 1) 5 [.ints .u8 (.sym g.2.2)]])) (fun g => 0 ≤ g.2.1 ∧ g.1 = 2 * g.2.1 ∧ g.1 ≤ 2 * m ∧ (g.2.2.length : Int) = g.2.1 ∧ g.2.2 = unhexL s g.2.1.toNat) (fun g => (2 * m - g.1).toNat) (0, 0, []) (by kernel_rfl) (fun g hg => by kernel_rfl) ?_ ?_
  · refine ⟨⟨by dsimp only; omega, by dsimp only; omega, by dsimp only; omega, rfl, rfl⟩, ?_, ?_⟩
    all_goals
      ((conv => cbv); repeat' (first | exact True.intro | with_reducible rfl | (with_reducible exact fun h => h) | (with_reducible refine And.intro ?_ ?_)))
  rintro ⟨k, j, zs⟩ hq
  simp only [] at hq
  have q0 := hq.1; have q1 := hq.2.1; have q2 := hq.2.2.1; have q3 := hq.2.2.2.1; have q4 := hq.2.2.2.2
  clear hq
  have e1 : (k + 1 + 9223372036854775808) % 18446744073709551616 - 9223372036854775808 = k + 1 := by omega
  have b0 := byteAt_bd s k
  have b1 := byteAt_bd s (k + 1)
  conv => cbv
  repeat' (first | ((with_reducible intro (h : _ = _)); (try subst h); (try simp only [hu.b, hu.i, iB, iI, cmpB, Iv.val_sym, Iv.val_lit, Lv.raw, Tv.raw, decide_eq_true_eq, decide_eq_false_iff_not, beq_iff_eq, beq_eq_false_iff_ne, ne_eq, ofN, Int.toNat_zero, Int.toNat_one, Int.reduceToNat, natc, hu.s, iS, Sv.val_lit, Sv.val_sym, true_iff, false_iff, Bool.false_eq_true, bne_iff_ne, bne_eq_false_iff_eq, Bool.not_eq_true', Bool.not_eq_false', Decidable.not_not, nil_toList, ByteArray.size_empty, nilS, not_true_eq_false, not_false_eq_true, hu.l, iL, hu.t, iT, bin_add, bin_sub, bin_mul, wr_u8, wr_u16, wr_u32, wr_u64, IntKind.wrap_i64, List.length_append, List.length_cons, List.length_nil, List.nil_append, List.append_nil, List.cons_append, lvals, List.length_replicate, List.length_set, linV_val hu, Int.add_zero, Int.zero_add, Int.mul_one, Int.sub_zero, Int.zero_mul, Bool.true_eq_false, false_and, and_false, true_and, and_true, List.all_cons, List.all_nil, id_eq, Bool.and_true, e1] at h) <;> (try simp only [Int.ofNat_eq_natCast] at h) <;> (first | (have hF0 : False := by omega; exact hF0.elim) | (conv => cbv))) | (with_reducible refine And.intro ?_ ?_) | (first | (refine CallDet.genR ?_ (fun x hx => hV _ x ?_ hx)) | (refine CallVC.genR ?_ (fun x hx => hV _ x ?_ hx))) | (refine Gen0.mk ?_; (conv => cbv)) | (refine Gen1.mk ?_; ((intro x hx) <;> (try simp only [hu.b, hu.i, iB, iI, cmpB, Iv.val_sym, Iv.val_lit, Lv.raw, Tv.raw, decide_eq_true_eq, decide_eq_false_iff_not, beq_iff_eq, beq_eq_false_iff_ne, ne_eq, ofN, Int.toNat_zero, Int.toNat_one, Int.reduceToNat, natc, hu.s, iS, Sv.val_lit, Sv.val_sym, true_iff, false_iff, Bool.false_eq_true, bne_iff_ne, bne_eq_false_iff_eq, Bool.not_eq_true', Bool.not_eq_false', Decidable.not_not, nil_toList, ByteArray.size_empty, nilS, not_true_eq_false, not_false_eq_true, hu.l, iL, hu.t, iT, bin_add, bin_sub, bin_mul, wr_u8, wr_u16, wr_u32, wr_u64, IntKind.wrap_i64, List.length_append, List.length_cons, List.length_nil, List.nil_append, List.append_nil, List.cons_append, lvals, List.length_replicate, List.length_set, linV_val hu, Int.add_zero, Int.zero_add, Int.mul_one, Int.sub_zero, Int.zero_mul, Bool.true_eq_false, false_and, and_false, true_and, and_true, List.all_cons, List.all_nil, id_eq, Bool.and_true, e1] at hx) <;> (try simp only [Int.ofNat_eq_natCast] at hx) <;> (first | (have hF0 : False := by omega; exact hF0.elim) | (conv => cbv)))) | (simp only [hu.b, hu.i, iB, iI, cmpB, Iv.val_sym, Iv.val_lit, Lv.raw, Tv.raw, decide_eq_true_eq, decide_eq_false_iff_not, beq_iff_eq, beq_eq_false_iff_ne, ne_eq, ofN, Int.toNat_zero, Int.toNat_one, Int.reduceToNat, natc, hu.s, iS, Sv.val_lit, Sv.val_sym, true_iff, false_iff, Bool.false_eq_true, bne_iff_ne, bne_eq_false_iff_eq, Bool.not_eq_true', Bool.not_eq_false', Decidable.not_not, nil_toList, ByteArray.size_empty, nilS, not_true_eq_false, not_false_eq_true, hu.l, iL, hu.t, iT, bin_add, bin_sub, bin_mul, wr_u8, wr_u16, wr_u32, wr_u64, IntKind.wrap_i64, List.length_append, List.length_cons, List.length_nil, List.nil_append, List.append_nil, List.cons_append, lvals, List.length_replicate, List.length_set, linV_val hu, Int.add_zero, Int.zero_add, Int.mul_one, Int.sub_zero, Int.zero_mul, Bool.true_eq_false, false_and, and_false, true_and, and_true, List.all_cons, List.all_nil, id_eq, Bool.and_true, e1]; (try simp only [Int.ofNat_eq_natCast]); done) | ((try simp only [hu.b, hu.i, iB, iI, cmpB, Iv.val_sym, Iv.val_lit, Lv.raw, Tv.raw, decide_eq_true_eq, decide_eq_false_iff_not, beq_iff_eq, beq_eq_false_iff_ne, ne_eq, ofN, Int.toNat_zero, Int.toNat_one, Int.reduceToNat, natc, hu.s, iS, Sv.val_lit, Sv.val_sym, true_iff, false_iff, Bool.false_eq_true, bne_iff_ne, bne_eq_false_iff_eq, Bool.not_eq_true', Bool.not_eq_false', Decidable.not_not, nil_toList, ByteArray.size_empty, nilS, not_true_eq_false, not_false_eq_true, hu.l, iL, hu.t, iT, bin_add, bin_sub, bin_mul, wr_u8, wr_u16, wr_u32, wr_u64, IntKind.wrap_i64, List.length_append, List.length_cons, List.length_nil, List.nil_append, List.append_nil, List.cons_append, lvals, List.length_replicate, List.length_set, linV_val hu, Int.add_zero, Int.zero_add, Int.mul_one, Int.sub_zero, Int.zero_mul, Bool.true_eq_false, false_and, and_false, true_and, and_true, List.all_cons, List.all_nil, id_eq, Bool.and_true, e1]) <;> (try simp only [Int.ofNat_eq_natCast]) <;> omega))
  · rename_i x0 h0
    have hlt : k + 1 < s.size := by assumption
    have v0 := hall k (by omega) (by omega)
    have v1 := hall (k + 1) (by omega) hlt
    have p0 := val8_nn (byteAt s k)
    have p1 := val8_nn (byteAt s (k + 1))
    have ew : ((16 * x0 + 9223372036854775808) % 18446744073709551616 - 9223372036854775808 + x + 9223372036854775808) % 18446744073709551616 - 9223372036854775808 = 16 * x0 + x := by omega
    obtain ⟨k', ek⟩ : ∃ y, y = k + 2 := ⟨_, rfl⟩
    obtain ⟨j', ej⟩ : ∃ y, y = j + 1 := ⟨_, rfl⟩
    obtain ⟨us, eu⟩ : ∃ y, y = unhexL s j'.toNat := ⟨_, rfl⟩
    have hnx : us = zs ++ [(16 * x0 + x) % 256] := by
      rw [eu, show j'.toNat = j.toNat + 1 by omega, unhexL_next, ← q4, unF, show (2 * ((j.toNat : Nat) : Int)) = k by omega, ← h0, ← hx]
    have hl : (us.length : Int) = j' := by rw [eu, unhexL_length]; omega
    refine ⟨(k', j', us), ⟨by dsimp only; omega, by dsimp only; omega, by dsimp only; omega, hl, eu⟩, by dsimp only; omega, [2], by kernel_rfl, by kernel_rfl, ?_, ?_⟩
    all_goals
      ((conv => cbv); repeat' (first | exact True.intro | with_reducible rfl | (with_reducible exact fun h => h) | (with_reducible refine And.intro ?_ ?_)))
    all_goals
      ((try simp only [hu.b, hu.i, iB, iI, cmpB, Iv.val_sym, Iv.val_lit, Lv.raw, Tv.raw, decide_eq_true_eq, decide_eq_false_iff_not, beq_iff_eq, beq_eq_false_iff_ne, ne_eq, ofN, Int.toNat_zero, Int.toNat_one, Int.reduceToNat, natc, hu.s, iS, Sv.val_lit, Sv.val_sym, true_iff, false_iff, Bool.false_eq_true, bne_iff_ne, bne_eq_false_iff_eq, Bool.not_eq_true', Bool.not_eq_false', Decidable.not_not, nil_toList, ByteArray.size_empty, nilS, not_true_eq_false, not_false_eq_true, hu.l, iL, hu.t, iT, bin_add, bin_sub, bin_mul, wr_u8, wr_u16, wr_u32, wr_u64, IntKind.wrap_i64, List.length_append, List.length_cons, List.length_nil, List.nil_append, List.append_nil, List.cons_append, lvals, List.length_replicate, List.length_set, linV_val hu, Int.add_zero, Int.zero_add, Int.mul_one, Int.sub_zero, Int.zero_mul, Bool.true_eq_false, false_and, and_false, true_and, and_true, List.all_cons, List.all_nil, id_eq, Bool.and_true, ew]) <;> (try simp only [Int.ofNat_eq_natCast]) <;> (try omega))
    all_goals exact hnx.symm
  · have hj : j = m := by omega
    subst hR
    refine Weak.of (⟨⟨j, hj, rfl⟩, rfl⟩) ?_ ?_ (by rfl)
    all_goals ((conv => cbv); repeat' (first | exact True.intro | with_reducible rfl | (with_reducible exact fun h => h) | (with_reducible refine And.intro ?_ ?_)))
    rw [q4, hj, hy]
end Go.Proofs.Ytbadogbkbhopcaa
namespace Go.Proofs.Ytbadogbkbhopcaa
open Go Sx
set_option maxRecDepth 100000
set_option maxHeartbeats 4000000
theorem check_ctr (s : ByteArray) (hs : s.size ≤ 1000000) : Ctr Try.prog 13 [] [.str (.sym s)] fun v H =>
    (∃ i, (IsFirst s 10 i ∧ 0 ≤ i) ∧ v = .tup [.int .u8 (.sym 0), .iface 53 (.ptr 0 ⟨.lit 0, 1, 0⟩)] ∧ H = [.cells 55 [.int .i64 (.sym i), .iface 48 (.int .i64 (.sym 16))]]) ∨
    (∃ c, (IsFirst s 10 (-1) ∧ c = checkD s ∧ 48 ≤ c ∧ c ≤ 57) ∧ v = .tup [.int .u8 (.sym c), .nilif] ∧ H = []) := by
  obtain ⟨n, hn⟩ : ∃ n : Int, n = s.size := ⟨_, rfl⟩
  obtain ⟨uI, uB, uS, uL, uT, hu⟩ := words
  have hm := mixed
  have hT := tabOk
  have hF := @first10
  have hWr := @wrong_ctr
  obtain ⟨P, hP⟩ : ∃ P, P = Try.prog := ⟨_, rfl⟩
  rw [← hP] at hm hT hF hWr ⊢
  refine Ctr.weak (ctr_of_vc hu hm hT (hP ▸ Try.func13) rfl (by kernel_rfl) ?_)
  clear hP hm hT
  generalize hR : Weak _ _ = R
  conv => cbv
  repeat' (first | ((with_reducible intro (h : _ = _)); (try subst h); (try simp only [hu.b, hu.i, iB, iI, cmpB, Iv.val_sym, Iv.val_lit, Lv.raw, Tv.raw, decide_eq_true_eq, decide_eq_false_iff_not, beq_iff_eq, beq_eq_false_iff_ne, ne_eq, ofN, Int.toNat_zero, Int.toNat_one, Int.reduceToNat, natc, hu.s, iS, Sv.val_lit, Sv.val_sym, true_iff, false_iff, Bool.false_eq_true, bne_iff_ne, bne_eq_false_iff_eq, Bool.not_eq_true', Bool.not_eq_false', Decidable.not_not, nil_toList, ByteArray.size_empty, nilS, not_true_eq_false, not_false_eq_true, hu.l, iL, hu.t, iT, bin_add, bin_sub, bin_mul, wr_u8, wr_u16, wr_u32, wr_u64, IntKind.wrap_i64, List.length_append, List.length_cons, List.length_nil, List.nil_append, List.append_nil, List.cons_append, lvals, List.length_replicate, List.length_set, linV_val hu, Int.add_zero, Int.zero_add, Int.mul_one, Int.sub_zero, Int.zero_mul, Bool.true_eq_false, false_and, and_false, true_and, and_true, List.all_cons, List.all_nil, id_eq, Bool.and_true] at h) <;> (try simp only [Int.ofNat_eq_natCast] at h) <;> (first | (have hF0 : False := by omega; exact hF0.elim) | (conv => cbv))) | (with_reducible refine And.intro ?_ ?_) | (refine CallVC.mk (Ctr.monoR ?_ (hF _ ?_)); ((rintro v H ⟨⟨i, ⟨hf, hf1, hf2⟩, rfl⟩, rfl⟩) <;> (try simp only [hu.b, hu.i, iB, iI, cmpB, Iv.val_sym, Iv.val_lit, Lv.raw, Tv.raw, decide_eq_true_eq, decide_eq_false_iff_not, beq_iff_eq, beq_eq_false_iff_ne, ne_eq, ofN, Int.toNat_zero, Int.toNat_one, Int.reduceToNat, natc, hu.s, iS, Sv.val_lit, Sv.val_sym, true_iff, false_iff, Bool.false_eq_true, bne_iff_ne, bne_eq_false_iff_eq, Bool.not_eq_true', Bool.not_eq_false', Decidable.not_not, nil_toList, ByteArray.size_empty, nilS, not_true_eq_false, not_false_eq_true, hu.l, iL, hu.t, iT, bin_add, bin_sub, bin_mul, wr_u8, wr_u16, wr_u32, wr_u64, IntKind.wrap_i64, List.length_append, List.length_cons, List.length_nil, List.nil_append, List.append_nil, List.cons_append, lvals, List.length_replicate, List.length_set, linV_val hu, Int.add_zero, Int.zero_add, Int.mul_one, Int.sub_zero, Int.zero_mul, Bool.true_eq_false, false_and, and_false, true_and, and_true, List.all_cons, List.all_nil, id_eq, Bool.and_true] at hf) <;> (try simp only [Int.ofNat_eq_natCast] at hf) <;> (try simp only [hu.b, hu.i, iB, iI, cmpB, Iv.val_sym, Iv.val_lit, Lv.raw, Tv.raw, decide_eq_true_eq, decide_eq_false_iff_not, beq_iff_eq, beq_eq_false_iff_ne, ne_eq, ofN, Int.toNat_zero, Int.toNat_one, Int.reduceToNat, natc, hu.s, iS, Sv.val_lit, Sv.val_sym, true_iff, false_iff, Bool.false_eq_true, bne_iff_ne, bne_eq_false_iff_eq, Bool.not_eq_true', Bool.not_eq_false', Decidable.not_not, nil_toList, ByteArray.size_empty, nilS, not_true_eq_false, not_false_eq_true, hu.l, iL, hu.t, iT, bin_add, bin_sub, bin_mul, wr_u8, wr_u16, wr_u32, wr_u64, IntKind.wrap_i64, List.length_append, List.length_cons, List.length_nil, List.nil_append, List.append_nil, List.cons_append, lvals, List.length_replicate, List.length_set, linV_val hu, Int.add_zero, Int.zero_add, Int.mul_one, Int.sub_zero, Int.zero_mul, Bool.true_eq_false, false_and, and_false, true_and, and_true, List.all_cons, List.all_nil, id_eq, Bool.and_true] at hf1) <;> (try simp only [Int.ofNat_eq_natCast] at hf1) <;> (try simp only [hu.b, hu.i, iB, iI, cmpB, Iv.val_sym, Iv.val_lit, Lv.raw, Tv.raw, decide_eq_true_eq, decide_eq_false_iff_not, beq_iff_eq, beq_eq_false_iff_ne, ne_eq, ofN, Int.toNat_zero, Int.toNat_one, Int.reduceToNat, natc, hu.s, iS, Sv.val_lit, Sv.val_sym, true_iff, false_iff, Bool.false_eq_true, bne_iff_ne, bne_eq_false_iff_eq, Bool.not_eq_true', Bool.not_eq_false', Decidable.not_not, nil_toList, ByteArray.size_empty, nilS, not_true_eq_false, not_false_eq_true, hu.l, iL, hu.t, iT, bin_add, bin_sub, bin_mul, wr_u8, wr_u16, wr_u32, wr_u64, IntKind.wrap_i64, List.length_append, List.length_cons, List.length_nil, List.nil_append, List.append_nil, List.cons_append, lvals, List.length_replicate, List.length_set, linV_val hu, Int.add_zero, Int.zero_add, Int.mul_one, Int.sub_zero, Int.zero_mul, Bool.true_eq_false, false_and, and_false, true_and, and_true, List.all_cons, List.all_nil, id_eq, Bool.and_true] at hf2) <;> (try simp only [Int.ofNat_eq_natCast] at hf2) <;> (first | (have hF0 : False := by omega; exact hF0.elim) | (conv => cbv)))) | (refine CallVC.mk (Ctr.monoR ?_ (hWr _)); ((rintro v H ⟨rfl, rfl⟩) <;> (conv => cbv))) | (refine Gen0.mk ?_; (conv => cbv)) | (simp only [hu.b, hu.i, iB, iI, cmpB, Iv.val_sym, Iv.val_lit, Lv.raw, Tv.raw, decide_eq_true_eq, decide_eq_false_iff_not, beq_iff_eq, beq_eq_false_iff_ne, ne_eq, ofN, Int.toNat_zero, Int.toNat_one, Int.reduceToNat, natc, hu.s, iS, Sv.val_lit, Sv.val_sym, true_iff, false_iff, Bool.false_eq_true, bne_iff_ne, bne_eq_false_iff_eq, Bool.not_eq_true', Bool.not_eq_false', Decidable.not_not, nil_toList, ByteArray.size_empty, nilS, not_true_eq_false, not_false_eq_true, hu.l, iL, hu.t, iT, bin_add, bin_sub, bin_mul, wr_u8, wr_u16, wr_u32, wr_u64, IntKind.wrap_i64, List.length_append, List.length_cons, List.length_nil, List.nil_append, List.append_nil, List.cons_append, lvals, List.length_replicate, List.length_set, linV_val hu, Int.add_zero, Int.zero_add, Int.mul_one, Int.sub_zero, Int.zero_mul, Bool.true_eq_false, false_and, and_false, true_and, and_true, List.all_cons, List.all_nil, id_eq, Bool.and_true]; (try simp only [Int.ofNat_eq_natCast]); done) | ((try simp only [hu.b, hu.i, iB, iI, cmpB, Iv.val_sym, Iv.val_lit, Lv.raw, Tv.raw, decide_eq_true_eq, decide_eq_false_iff_not, beq_iff_eq, beq_eq_false_iff_ne, ne_eq, ofN, Int.toNat_zero, Int.toNat_one, Int.reduceToNat, natc, hu.s, iS, Sv.val_lit, Sv.val_sym, true_iff, false_iff, Bool.false_eq_true, bne_iff_ne, bne_eq_false_iff_eq, Bool.not_eq_true', Bool.not_eq_false', Decidable.not_not, nil_toList, ByteArray.size_empty, nilS, not_true_eq_false, not_false_eq_true, hu.l, iL, hu.t, iT, bin_add, bin_sub, bin_mul, wr_u8, wr_u16, wr_u32, wr_u64, IntKind.wrap_i64, List.length_append, List.length_cons, List.length_nil, List.nil_append, List.append_nil, List.cons_append, lvals, List.length_replicate, List.length_set, linV_val hu, Int.add_zero, Int.zero_add, Int.mul_one, Int.sub_zero, Int.zero_mul, Bool.true_eq_false, false_and, and_false, true_and, and_true, List.all_cons, List.all_nil, id_eq, Bool.and_true]) <;> (try simp only [Int.ofNat_eq_natCast]) <;> omega))
  · subst hR
    refine Weak.of ((.inl ⟨i, ⟨hf, by omega⟩, rfl, rfl⟩)) ?_ ?_ (by rfl)
    all_goals ((conv => cbv); repeat' (first | exact True.intro | with_reducible rfl | (with_reducible exact fun h => h) | (with_reducible refine And.intro ?_ ?_)))
  have hi : i = -1 := by omega
  have hall := hf.all (by omega)
  refine .inv (Int × Int) [5, 17] (fun g => ([.int .i64 (.sym g.2), .int .i64 (.sym g.1)], [])) (fun g => 0 ≤ g.1 ∧ g.1 ≤ n ∧ 0 ≤ g.2 ∧ g.2 ≤ 9000000 ∧ g.2 = sumL s g.1.toNat) (fun g => (n - g.1).toNat) (0, 0) (by kernel_rfl) (fun g hg => by kernel_rfl) ?_ ?_
  · refine ⟨⟨by dsimp only; omega, by dsimp only; omega, by dsimp only; omega, by dsimp only; omega, rfl⟩, ?_, ?_⟩
    all_goals
      ((conv => cbv); repeat' (first | exact True.intro | with_reducible rfl | (with_reducible exact fun h => h) | (with_reducible refine And.intro ?_ ?_)))
  rintro ⟨k, S⟩ hq
  simp only [] at hq
  have q0 := hq.1; have q1 := hq.2.1; have q2 := hq.2.2.1; have q3 := hq.2.2.2.1; have q4 := hq.2.2.2.2
  clear hq
  have b0 := byteAt_bd s (n - 1 - k)
  have p0 := val8_nn (byteAt s (n - 1 - k))
  have v0 : k < n → val8 (byteAt s (n - 1 - k)) < 10 := fun h => hall _ (by omega) (by omega)
  have v1 : k < n → byteAt s (n - 1 - k) = val8 (byteAt s (n - 1 - k)) + 48 := fun h => by have := val8_dec (v0 h); omega
  have e1 : (n - 1 + 9223372036854775808) % 18446744073709551616 - 9223372036854775808 = n - 1 := by omega
  have e2 : (n - 1 - k + 9223372036854775808) % 18446744073709551616 - 9223372036854775808 = n - 1 - k := by omega
  have e3 : binI .rem .i64 k 2 = k % 2 := rem_nn q0
  have hnx : k < n → sumL s (k + 1).toNat = S + luhn k (val8 (byteAt s (n - 1 - k))) := fun h => by
    rw [show (k + 1).toNat = k.toNat + 1 by omega, sumL, ← q4, show ((k.toNat : Nat) : Int) = k by omega, ← hn]
  have hbd : k < n → 0 ≤ sumL s (k + 1).toNat ∧ sumL s (k + 1).toNat ≤ 9000000 := fun h => by
    have := sumL_bd hall (k + 1).toNat (by omega)
    omega
  have e4 : k < n → (byteAt s (n - 1 - k) - 48) % 256 = val8 (byteAt s (n - 1 - k)) := fun h => by have := v0 h; have := v1 h; omega
  have hq10 : ∀ x : Int, 0 ≤ x → x < 100 → binI .rem .i64 x 10 = x % 10 ∧ binI .quo .i64 x 10 = x / 10 := fun x h0 h1 => ⟨rem_nn h0, quo_i64 h0 (by omega) (by decide)⟩
  have e5 : binI .rem .i64 S 10 = S % 10 := rem_nn q2
  have e6 : (10 - S % 10 + 9223372036854775808) % 18446744073709551616 - 9223372036854775808 = 10 - S % 10 := by omega
  have e7 : binI .rem .i64 (10 - S % 10) 10 = (10 - S % 10) % 10 := rem_nn (by omega)
  conv => cbv
  repeat' (first | ((with_reducible intro (h : _ = _)); (try subst h); (try simp only [hu.b, hu.i, iB, iI, cmpB, Iv.val_sym, Iv.val_lit, Lv.raw, Tv.raw, decide_eq_true_eq, decide_eq_false_iff_not, beq_iff_eq, beq_eq_false_iff_ne, ne_eq, ofN, Int.toNat_zero, Int.toNat_one, Int.reduceToNat, natc, hu.s, iS, Sv.val_lit, Sv.val_sym, true_iff, false_iff, Bool.false_eq_true, bne_iff_ne, bne_eq_false_iff_eq, Bool.not_eq_true', Bool.not_eq_false', Decidable.not_not, nil_toList, ByteArray.size_empty, nilS, not_true_eq_false, not_false_eq_true, hu.l, iL, hu.t, iT, bin_add, bin_sub, bin_mul, wr_u8, wr_u16, wr_u32, wr_u64, IntKind.wrap_i64, List.length_append, List.length_cons, List.length_nil, List.nil_append, List.append_nil, List.cons_append, lvals, List.length_replicate, List.length_set, linV_val hu, Int.add_zero, Int.zero_add, Int.mul_one, Int.sub_zero, Int.zero_mul, Bool.true_eq_false, false_and, and_false, true_and, and_true, List.all_cons, List.all_nil, id_eq, Bool.and_true, ← hn, e1, e2, e3, e5, e6, e7] at h) <;> (try simp only [Int.ofNat_eq_natCast] at h) <;> (first | (have hF0 : False := by omega; exact hF0.elim) | (conv => cbv))) | (with_reducible refine And.intro ?_ ?_) | (refine Gen0.mk ?_; (conv => cbv)) | (simp only [hu.b, hu.i, iB, iI, cmpB, Iv.val_sym, Iv.val_lit, Lv.raw, Tv.raw, decide_eq_true_eq, decide_eq_false_iff_not, beq_iff_eq, beq_eq_false_iff_ne, ne_eq, ofN, Int.toNat_zero, Int.toNat_one, Int.reduceToNat, natc, hu.s, iS, Sv.val_lit, Sv.val_sym, true_iff, false_iff, Bool.false_eq_true, bne_iff_ne, bne_eq_false_iff_eq, Bool.not_eq_true', Bool.not_eq_false', Decidable.not_not, nil_toList, ByteArray.size_empty, nilS, not_true_eq_false, not_false_eq_true, hu.l, iL, hu.t, iT, bin_add, bin_sub, bin_mul, wr_u8, wr_u16, wr_u32, wr_u64, IntKind.wrap_i64, List.length_append, List.length_cons, List.length_nil, List.nil_append, List.append_nil, List.cons_append, lvals, List.length_replicate, List.length_set, linV_val hu, Int.add_zero, Int.zero_add, Int.mul_one, Int.sub_zero, Int.zero_mul, Bool.true_eq_false, false_and, and_false, true_and, and_true, List.all_cons, List.all_nil, id_eq, Bool.and_true, ← hn, e1, e2, e3, e5, e6, e7]; (try simp only [Int.ofNat_eq_natCast]); done) | ((try simp only [hu.b, hu.i, iB, iI, cmpB, Iv.val_sym, Iv.val_lit, Lv.raw, Tv.raw, decide_eq_true_eq, decide_eq_false_iff_not, beq_iff_eq, beq_eq_false_iff_ne, ne_eq, ofN, Int.toNat_zero, Int.toNat_one, Int.reduceToNat, natc, hu.s, iS, Sv.val_lit, Sv.val_sym, true_iff, false_iff, Bool.false_eq_true, bne_iff_ne, bne_eq_false_iff_eq, Bool.not_eq_true', Bool.not_eq_false', Decidable.not_not, nil_toList, ByteArray.size_empty, nilS, not_true_eq_false, not_false_eq_true, hu.l, iL, hu.t, iT, bin_add, bin_sub, bin_mul, wr_u8, wr_u16, wr_u32, wr_u64, IntKind.wrap_i64, List.length_append, List.length_cons, List.length_nil, List.nil_append, List.append_nil, List.cons_append, lvals, List.length_replicate, List.length_set, linV_val hu, Int.add_zero, Int.zero_add, Int.mul_one, Int.sub_zero, Int.zero_mul, Bool.true_eq_false, false_and, and_false, true_and, and_true, List.all_cons, List.all_nil, id_eq, Bool.and_true, ← hn, e1, e2, e3, e5, e6, e7]) <;> (try simp only [Int.ofNat_eq_natCast]) <;> omega))
  · obtain ⟨k', ek⟩ : ∃ y, y = k + 1 := ⟨_, rfl⟩
    obtain ⟨S', eS⟩ : ∃ y, y = sumL s k'.toNat := ⟨_, rfl⟩
    refine ⟨(k', S'), ⟨by dsimp only; omega, by dsimp only; omega, by dsimp only; rw [eS, ek]; exact (hbd (by assumption)).1, by dsimp only; rw [eS, ek]; exact (hbd (by assumption)).2, eS⟩, by dsimp only; omega, ?_, ?_⟩
    all_goals
      ((conv => cbv); repeat' (first | exact True.intro | with_reducible rfl | (with_reducible exact fun h => h) | (with_reducible refine And.intro ?_ ?_)))
    all_goals
      ((try simp only [hu.b, hu.i, iB, iI, cmpB, Iv.val_sym, Iv.val_lit, Lv.raw, Tv.raw, decide_eq_true_eq, decide_eq_false_iff_not, beq_iff_eq, beq_eq_false_iff_ne, ne_eq, ofN, Int.toNat_zero, Int.toNat_one, Int.reduceToNat, natc, hu.s, iS, Sv.val_lit, Sv.val_sym, true_iff, false_iff, Bool.false_eq_true, bne_iff_ne, bne_eq_false_iff_eq, Bool.not_eq_true', Bool.not_eq_false', Decidable.not_not, nil_toList, ByteArray.size_empty, nilS, not_true_eq_false, not_false_eq_true, hu.l, iL, hu.t, iT, bin_add, bin_sub, bin_mul, wr_u8, wr_u16, wr_u32, wr_u64, IntKind.wrap_i64, List.length_append, List.length_cons, List.length_nil, List.nil_append, List.append_nil, List.cons_append, lvals, List.length_replicate, List.length_set, linV_val hu, Int.add_zero, Int.zero_add, Int.mul_one, Int.sub_zero, Int.zero_mul, Bool.true_eq_false, false_and, and_false, true_and, and_true, List.all_cons, List.all_nil, id_eq, Bool.and_true, e1, e2, e3, ← hn]) <;> (try simp only [Int.ofNat_eq_natCast]) <;> (try omega))
    have hk : k < n := by assumption
    have hl := luhn_eq (k := k) (d := val8 (byteAt s (n - 1 - k))) ⟨p0, v0 hk⟩
    have h1 := hnx hk
    have h3 := v0 hk
    rw [if_pos (by assumption)] at hl
    rw [← ek, ← eS] at h1
    all_goals rw [e4 hk]
    generalize val8 (byteAt s (n - 1 - k)) = v at *
    have w1 : (v + 9223372036854775808) % 18446744073709551616 - 9223372036854775808 = v := by omega
    have w2 : (v * 2 + 9223372036854775808) % 18446744073709551616 - 9223372036854775808 = 2 * v := by omega
    simp only [w1, w2, (hq10 (2 * v) (by omega) (by omega)).1, (hq10 (2 * v) (by omega) (by omega)).2]
    omega
  · obtain ⟨k', ek⟩ : ∃ y, y = k + 1 := ⟨_, rfl⟩
    obtain ⟨S', eS⟩ : ∃ y, y = sumL s k'.toNat := ⟨_, rfl⟩
    refine ⟨(k', S'), ⟨by dsimp only; omega, by dsimp only; omega, by dsimp only; rw [eS, ek]; exact (hbd (by assumption)).1, by dsimp only; rw [eS, ek]; exact (hbd (by assumption)).2, eS⟩, by dsimp only; omega, ?_, ?_⟩
    all_goals
      ((conv => cbv); repeat' (first | exact True.intro | with_reducible rfl | (with_reducible exact fun h => h) | (with_reducible refine And.intro ?_ ?_)))
    all_goals
      ((try simp only [hu.b, hu.i, iB, iI, cmpB, Iv.val_sym, Iv.val_lit, Lv.raw, Tv.raw, decide_eq_true_eq, decide_eq_false_iff_not, beq_iff_eq, beq_eq_false_iff_ne, ne_eq, ofN, Int.toNat_zero, Int.toNat_one, Int.reduceToNat, natc, hu.s, iS, Sv.val_lit, Sv.val_sym, true_iff, false_iff, Bool.false_eq_true, bne_iff_ne, bne_eq_false_iff_eq, Bool.not_eq_true', Bool.not_eq_false', Decidable.not_not, nil_toList, ByteArray.size_empty, nilS, not_true_eq_false, not_false_eq_true, hu.l, iL, hu.t, iT, bin_add, bin_sub, bin_mul, wr_u8, wr_u16, wr_u32, wr_u64, IntKind.wrap_i64, List.length_append, List.length_cons, List.length_nil, List.nil_append, List.append_nil, List.cons_append, lvals, List.length_replicate, List.length_set, linV_val hu, Int.add_zero, Int.zero_add, Int.mul_one, Int.sub_zero, Int.zero_mul, Bool.true_eq_false, false_and, and_false, true_and, and_true, List.all_cons, List.all_nil, id_eq, Bool.and_true, e1, e2, e3, ← hn]) <;> (try simp only [Int.ofNat_eq_natCast]) <;> (try omega))
    have hk : k < n := by assumption
    have hl := luhn_eq (k := k) (d := val8 (byteAt s (n - 1 - k))) ⟨p0, v0 hk⟩
    have h1 := hnx hk
    have h3 := v0 hk
    rw [if_neg (by assumption)] at hl
    rw [← ek, ← eS] at h1
    all_goals rw [e4 hk]
    generalize val8 (byteAt s (n - 1 - k)) = v at *
    have w1 : (v + 9223372036854775808) % 18446744073709551616 - 9223372036854775808 = v := by omega
    have w2 : (v * 2 + 9223372036854775808) % 18446744073709551616 - 9223372036854775808 = 2 * v := by omega
    simp only [w1, w2, (hq10 (v) (by omega) (by omega)).1, (hq10 (v) (by omega) (by omega)).2]
    omega
  · obtain ⟨c, hc⟩ : ∃ c, c = checkD s := ⟨_, rfl⟩
    have hb := checkD_bd s
    subst hR
    refine Weak.of ((.inr ⟨c, ⟨hi ▸ hf, hc, by omega, by omega⟩, rfl, rfl⟩)) ?_ ?_ (by rfl)
    all_goals ((conv => cbv); repeat' (first | exact True.intro | with_reducible rfl | (with_reducible exact fun h => h) | (with_reducible refine And.intro ?_ ?_)))
    ((try simp only [hu.b, hu.i, iB, iI, cmpB, Iv.val_sym, Iv.val_lit, Lv.raw, Tv.raw, decide_eq_true_eq, decide_eq_false_iff_not, beq_iff_eq, beq_eq_false_iff_ne, ne_eq, ofN, Int.toNat_zero, Int.toNat_one, Int.reduceToNat, natc, hu.s, iS, Sv.val_lit, Sv.val_sym, true_iff, false_iff, Bool.false_eq_true, bne_iff_ne, bne_eq_false_iff_eq, Bool.not_eq_true', Bool.not_eq_false', Decidable.not_not, nil_toList, ByteArray.size_empty, nilS, not_true_eq_false, not_false_eq_true, hu.l, iL, hu.t, iT, bin_add, bin_sub, bin_mul, wr_u8, wr_u16, wr_u32, wr_u64, IntKind.wrap_i64, List.length_append, List.length_cons, List.length_nil, List.nil_append, List.append_nil, List.cons_append, lvals, List.length_replicate, List.length_set, linV_val hu, Int.add_zero, Int.zero_add, Int.mul_one, Int.sub_zero, Int.zero_mul, Bool.true_eq_false, false_and, and_false, true_and, and_true, List.all_cons, List.all_nil, id_eq, Bool.and_true, e5, e6, e7]) <;> (try simp only [Int.ofNat_eq_natCast]) <;> (try omega))
    rw [dgL_at (by omega) (by omega), hc, checkD, dig, if_pos (by omega), q4, show k.toNat = s.size by omega]
end Go.Proofs.Ytbadogbkbhopcaa
