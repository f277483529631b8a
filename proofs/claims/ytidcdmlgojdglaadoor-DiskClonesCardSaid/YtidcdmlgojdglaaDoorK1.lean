import Derived.Test.YtidcdmlgojdglaaDoorSx3
import Derived.KernelRfl
import Derived.Test.YtidcdmlgojdglaaDoorProg
import Derived.WalkKit
import Derived.LaidEql
import Derived.Stop.Asserts
import Derived.RowKitTokens
import Derived.Outline
import Derived.Below
import Derived.Lib.Hide
set_option linter.all false
set_option linter.unusedSectionVars false
namespace Go.Proofs.YtidcdmlgojdglaaDoor
open Go Sx
set_option maxRecDepth 100000
def tab : TypeId → Option TyI
  | 2 => some ⟨.int .i64, 1, 8, [.int .i64 0], [], []⟩
  | 3 => some ⟨.int .i64, 1, 8, [.int .i64 0], [], []⟩
  | 4 => some ⟨.bool, 1, 1, [.bool false], [], []⟩
  | 5 => some ⟨.int .u8, 1, 1, [.int .u8 0], [], []⟩
  | 9 => some ⟨.str, 1, 16, [.string ⟨#[]⟩], [], []⟩
  | 12 => some ⟨.int .u64, 1, 8, [.int .u64 0], [], []⟩
  | 13 => some ⟨.struct [(0, 9), (1, 12)], 2, 24, [.string ⟨#[]⟩, .int .u64 0], [], []⟩
  | 20 => some ⟨.iface, 1, 16, [.nilIface], [], []⟩
  | 21 => some ⟨.int .i32, 1, 4, [.int .i32 0], [], []⟩
  | 22 => some ⟨.slice 5, 1, 24, [.slice none 0 0], [], []⟩
  | 24 => some ⟨.ptr 55, 1, 8, [.pointer none], [], []⟩
  | 25 => some ⟨.iface, 1, 16, [.nilIface], [], []⟩
  | 26 => some ⟨.iface, 1, 16, [.nilIface], [], []⟩
  | 31 => some ⟨.arr 32 5, 32, 32, [.int .u8 0, .int .u8 0, .int .u8 0, .int .u8 0, .int .u8 0, .int .u8 0, .int .u8 0, .int .u8 0, .int .u8 0, .int .u8 0, .int .u8 0, .int .u8 0, .int .u8 0, .int .u8 0, .int .u8 0, .int .u8 0, .int .u8 0, .int .u8 0, .int .u8 0, .int .u8 0, .int .u8 0, .int .u8 0, .int .u8 0, .int .u8 0, .int .u8 0, .int .u8 0, .int .u8 0, .int .u8 0, .int .u8 0, .int .u8 0, .int .u8 0, .int .u8 0], [.int .u8], [.int .u8, .int .u8, .int .u8, .int .u8, .int .u8, .int .u8, .int .u8, .int .u8, .int .u8, .int .u8, .int .u8, .int .u8, .int .u8, .int .u8, .int .u8, .int .u8, .int .u8, .int .u8, .int .u8, .int .u8, .int .u8, .int .u8, .int .u8, .int .u8, .int .u8, .int .u8, .int .u8, .int .u8, .int .u8, .int .u8, .int .u8, .int .u8]⟩
  | 37 => some ⟨.slice 40, 1, 24, [.slice none 0 0], [], []⟩
  | 38 => some ⟨.slice 31, 1, 24, [.slice none 0 0], [], []⟩
  | 39 => some ⟨.struct [(0, 3), (1, 5), (2, 5), (3, 4), (4, 4), (5, 3), (6, 3)], 7, 32, [.int .i64 0, .int .u8 0, .int .u8 0, .bool false, .bool false, .int .i64 0, .int .i64 0], [], [.int .i64, .int .u8, .int .u8, .bool, .bool, .int .i64, .int .i64]⟩
  | 40 => some ⟨.struct [(0, 3), (1, 5), (2, 5), (3, 4), (4, 4), (5, 3), (6, 3)], 7, 32, [.int .i64 0, .int .u8 0, .int .u8 0, .bool false, .bool false, .int .i64 0, .int .i64 0], [], [.int .i64, .int .u8, .int .u8, .bool, .bool, .int .i64, .int .i64]⟩
  | 45 => some ⟨.struct [(0, 38), (1, 4), (2, 3), (3, 3), (4, 3)], 5, 56, [.slice none 0 0, .bool false, .int .i64 0, .int .i64 0, .int .i64 0], [], []⟩
  | 46 => some ⟨.struct [(0, 38), (1, 4), (2, 3), (3, 3), (4, 3)], 5, 56, [.slice none 0 0, .bool false, .int .i64 0, .int .i64 0, .int .i64 0], [], []⟩
  | 53 => some ⟨.int .i64, 1, 8, [.int .i64 0], [], []⟩
  | 54 => some ⟨.struct [(0, 38), (1, 4), (2, 3), (3, 3), (4, 3)], 5, 56, [.slice none 0 0, .bool false, .int .i64 0, .int .i64 0, .int .i64 0], [], []⟩
  | 55 => some ⟨.struct [(0, 38), (1, 4), (2, 3), (3, 3), (4, 3)], 5, 56, [.slice none 0 0, .bool false, .int .i64 0, .int .i64 0, .int .i64 0], [], []⟩
  | 58 => some ⟨.ptr 53, 1, 8, [.pointer none], [], []⟩
  | 78 => some ⟨.iface, 1, 16, [.nilIface], [], []⟩
  | 81 => some ⟨.iface, 1, 16, [.nilIface], [], []⟩
  | 83 => some ⟨.iface, 1, 16, [.nilIface], [], []⟩
  | 84 => some ⟨.slice 26, 1, 24, [.slice none 0 0], [], []⟩
  | 93 => some ⟨.int .u32, 1, 4, [.int .u32 0], [], []⟩
  | 96 => some ⟨.ptr 5, 1, 8, [.pointer none], [], []⟩
  | 107 => some ⟨.int .u16, 1, 2, [.int .u16 0], [], []⟩
  | 114 => some ⟨.ptr 26, 1, 8, [.pointer none], [], []⟩
  | _ => none
theorem ty2 : TyOk Tryd.prog 2 ⟨.int .i64, 1, 8, [.int .i64 0], [], []⟩ :=
  TyOk.mk' (by kernel_rfl) (by kernel_rfl) (by kernel_rfl) ((by kernel_rfl : Tryd.prog.underlying 2 = _)) (fun h => absurd rfl h)
theorem ty3 : TyOk Tryd.prog 3 ⟨.int .i64, 1, 8, [.int .i64 0], [], []⟩ :=
  TyOk.mk' (by kernel_rfl) (by kernel_rfl) (by kernel_rfl) ((by kernel_rfl : Tryd.prog.underlying 3 = _)) (fun h => absurd rfl h)
theorem ty4 : TyOk Tryd.prog 4 ⟨.bool, 1, 1, [.bool false], [], []⟩ :=
  TyOk.mk' (by kernel_rfl) (by kernel_rfl) (by kernel_rfl) ((by kernel_rfl : Tryd.prog.underlying 4 = _)) (fun h => absurd rfl h)
theorem ty5 : TyOk Tryd.prog 5 ⟨.int .u8, 1, 1, [.int .u8 0], [], []⟩ :=
  TyOk.mk' (by kernel_rfl) (by kernel_rfl) (by kernel_rfl) ((by kernel_rfl : Tryd.prog.underlying 5 = _)) (fun h => absurd rfl h)
theorem ty9 : TyOk Tryd.prog 9 ⟨.str, 1, 16, [.string ⟨#[]⟩], [], []⟩ :=
  TyOk.mk' (by kernel_rfl) (by kernel_rfl) (by kernel_rfl) ((by kernel_rfl : Tryd.prog.underlying 9 = _)) (fun h => absurd rfl h)
theorem ty12 : TyOk Tryd.prog 12 ⟨.int .u64, 1, 8, [.int .u64 0], [], []⟩ :=
  TyOk.mk' (by kernel_rfl) (by kernel_rfl) (by kernel_rfl) ((by kernel_rfl : Tryd.prog.underlying 12 = _)) (fun h => absurd rfl h)
theorem ty13 : TyOk Tryd.prog 13 ⟨.struct [(0, 9), (1, 12)], 2, 24, [.string ⟨#[]⟩, .int .u64 0], [], []⟩ :=
  TyOk.mk' (by kernel_rfl) (by kernel_rfl) (by kernel_rfl) (⟨Tryd.prog.fieldsOf 13, by kernel_rfl, by kernel_rfl⟩) (fun h => absurd rfl h)
theorem ty20 : TyOk Tryd.prog 20 ⟨.iface, 1, 16, [.nilIface], [], []⟩ :=
  TyOk.mk' (by kernel_rfl) (by kernel_rfl) (by kernel_rfl) (DOk.iface_of (by kernel_rfl)) (fun h => absurd rfl h)
theorem ty21 : TyOk Tryd.prog 21 ⟨.int .i32, 1, 4, [.int .i32 0], [], []⟩ :=
  TyOk.mk' (by kernel_rfl) (by kernel_rfl) (by kernel_rfl) ((by kernel_rfl : Tryd.prog.underlying 21 = _)) (fun h => absurd rfl h)
theorem ty22 : TyOk Tryd.prog 22 ⟨.slice 5, 1, 24, [.slice none 0 0], [], []⟩ :=
  TyOk.mk' (by kernel_rfl) (by kernel_rfl) (by kernel_rfl) ((by kernel_rfl : Tryd.prog.underlying 22 = _)) (fun h => absurd rfl h)
theorem ty24 : TyOk Tryd.prog 24 ⟨.ptr 55, 1, 8, [.pointer none], [], []⟩ :=
  TyOk.mk' (by kernel_rfl) (by kernel_rfl) (by kernel_rfl) ((by kernel_rfl : Tryd.prog.underlying 24 = _)) (fun h => absurd rfl h)
theorem ty25 : TyOk Tryd.prog 25 ⟨.iface, 1, 16, [.nilIface], [], []⟩ :=
  TyOk.mk' (by kernel_rfl) (by kernel_rfl) (by kernel_rfl) (DOk.iface_of (by kernel_rfl)) (fun h => absurd rfl h)
theorem ty26 : TyOk Tryd.prog 26 ⟨.iface, 1, 16, [.nilIface], [], []⟩ :=
  TyOk.mk' (by kernel_rfl) (by kernel_rfl) (by kernel_rfl) (DOk.iface_of (by kernel_rfl)) (fun h => absurd rfl h)
theorem ty31 : TyOk Tryd.prog 31 ⟨.arr 32 5, 32, 32, [.int .u8 0, .int .u8 0, .int .u8 0, .int .u8 0, .int .u8 0, .int .u8 0, .int .u8 0, .int .u8 0, .int .u8 0, .int .u8 0, .int .u8 0, .int .u8 0, .int .u8 0, .int .u8 0, .int .u8 0, .int .u8 0, .int .u8 0, .int .u8 0, .int .u8 0, .int .u8 0, .int .u8 0, .int .u8 0, .int .u8 0, .int .u8 0, .int .u8 0, .int .u8 0, .int .u8 0, .int .u8 0, .int .u8 0, .int .u8 0, .int .u8 0, .int .u8 0], [.int .u8], [.int .u8, .int .u8, .int .u8, .int .u8, .int .u8, .int .u8, .int .u8, .int .u8, .int .u8, .int .u8, .int .u8, .int .u8, .int .u8, .int .u8, .int .u8, .int .u8, .int .u8, .int .u8, .int .u8, .int .u8, .int .u8, .int .u8, .int .u8, .int .u8, .int .u8, .int .u8, .int .u8, .int .u8, .int .u8, .int .u8, .int .u8, .int .u8]⟩ :=
  TyOk.mk' (by kernel_rfl) (by kernel_rfl) (by kernel_rfl) ((by kernel_rfl : Tryd.prog.underlying 31 = _)) (fun _ => EqOk.of 8 (by decide) (by kernel_rfl) (by kernel_rfl) (by kernel_rfl))
theorem ty37 : TyOk Tryd.prog 37 ⟨.slice 40, 1, 24, [.slice none 0 0], [], []⟩ :=
  TyOk.mk' (by kernel_rfl) (by kernel_rfl) (by kernel_rfl) ((by kernel_rfl : Tryd.prog.underlying 37 = _)) (fun h => absurd rfl h)
theorem ty38 : TyOk Tryd.prog 38 ⟨.slice 31, 1, 24, [.slice none 0 0], [], []⟩ :=
  TyOk.mk' (by kernel_rfl) (by kernel_rfl) (by kernel_rfl) ((by kernel_rfl : Tryd.prog.underlying 38 = _)) (fun h => absurd rfl h)
theorem ty39 : TyOk Tryd.prog 39 ⟨.struct [(0, 3), (1, 5), (2, 5), (3, 4), (4, 4), (5, 3), (6, 3)], 7, 32, [.int .i64 0, .int .u8 0, .int .u8 0, .bool false, .bool false, .int .i64 0, .int .i64 0], [], [.int .i64, .int .u8, .int .u8, .bool, .bool, .int .i64, .int .i64]⟩ :=
  TyOk.mk' (by kernel_rfl) (by kernel_rfl) (by kernel_rfl) (⟨Tryd.prog.fieldsOf 39, by kernel_rfl, by kernel_rfl⟩) (fun _ => EqOk.of 8 (by decide) (by kernel_rfl) (by kernel_rfl) (by kernel_rfl))
theorem ty40 : TyOk Tryd.prog 40 ⟨.struct [(0, 3), (1, 5), (2, 5), (3, 4), (4, 4), (5, 3), (6, 3)], 7, 32, [.int .i64 0, .int .u8 0, .int .u8 0, .bool false, .bool false, .int .i64 0, .int .i64 0], [], [.int .i64, .int .u8, .int .u8, .bool, .bool, .int .i64, .int .i64]⟩ :=
  TyOk.mk' (by kernel_rfl) (by kernel_rfl) (by kernel_rfl) (⟨Tryd.prog.fieldsOf 40, by kernel_rfl, by kernel_rfl⟩) (fun _ => EqOk.of 8 (by decide) (by kernel_rfl) (by kernel_rfl) (by kernel_rfl))
theorem ty45 : TyOk Tryd.prog 45 ⟨.struct [(0, 38), (1, 4), (2, 3), (3, 3), (4, 3)], 5, 56, [.slice none 0 0, .bool false, .int .i64 0, .int .i64 0, .int .i64 0], [], []⟩ :=
  TyOk.mk' (by kernel_rfl) (by kernel_rfl) (by kernel_rfl) (⟨Tryd.prog.fieldsOf 45, by kernel_rfl, by kernel_rfl⟩) (fun h => absurd rfl h)
theorem ty46 : TyOk Tryd.prog 46 ⟨.struct [(0, 38), (1, 4), (2, 3), (3, 3), (4, 3)], 5, 56, [.slice none 0 0, .bool false, .int .i64 0, .int .i64 0, .int .i64 0], [], []⟩ :=
  TyOk.mk' (by kernel_rfl) (by kernel_rfl) (by kernel_rfl) (⟨Tryd.prog.fieldsOf 46, by kernel_rfl, by kernel_rfl⟩) (fun h => absurd rfl h)
theorem ty53 : TyOk Tryd.prog 53 ⟨.int .i64, 1, 8, [.int .i64 0], [], []⟩ :=
  TyOk.mk' (by kernel_rfl) (by kernel_rfl) (by kernel_rfl) ((by kernel_rfl : Tryd.prog.underlying 53 = _)) (fun h => absurd rfl h)
theorem ty54 : TyOk Tryd.prog 54 ⟨.struct [(0, 38), (1, 4), (2, 3), (3, 3), (4, 3)], 5, 56, [.slice none 0 0, .bool false, .int .i64 0, .int .i64 0, .int .i64 0], [], []⟩ :=
  TyOk.mk' (by kernel_rfl) (by kernel_rfl) (by kernel_rfl) (⟨Tryd.prog.fieldsOf 54, by kernel_rfl, by kernel_rfl⟩) (fun h => absurd rfl h)
theorem ty55 : TyOk Tryd.prog 55 ⟨.struct [(0, 38), (1, 4), (2, 3), (3, 3), (4, 3)], 5, 56, [.slice none 0 0, .bool false, .int .i64 0, .int .i64 0, .int .i64 0], [], []⟩ :=
  TyOk.mk' (by kernel_rfl) (by kernel_rfl) (by kernel_rfl) (⟨Tryd.prog.fieldsOf 55, by kernel_rfl, by kernel_rfl⟩) (fun h => absurd rfl h)
theorem ty58 : TyOk Tryd.prog 58 ⟨.ptr 53, 1, 8, [.pointer none], [], []⟩ :=
  TyOk.mk' (by kernel_rfl) (by kernel_rfl) (by kernel_rfl) ((by kernel_rfl : Tryd.prog.underlying 58 = _)) (fun h => absurd rfl h)
theorem ty78 : TyOk Tryd.prog 78 ⟨.iface, 1, 16, [.nilIface], [], []⟩ :=
  TyOk.mk' (by kernel_rfl) (by kernel_rfl) (by kernel_rfl) (DOk.iface_of (by kernel_rfl)) (fun h => absurd rfl h)
theorem ty81 : TyOk Tryd.prog 81 ⟨.iface, 1, 16, [.nilIface], [], []⟩ :=
  TyOk.mk' (by kernel_rfl) (by kernel_rfl) (by kernel_rfl) (DOk.iface_of (by kernel_rfl)) (fun h => absurd rfl h)
theorem ty83 : TyOk Tryd.prog 83 ⟨.iface, 1, 16, [.nilIface], [], []⟩ :=
  TyOk.mk' (by kernel_rfl) (by kernel_rfl) (by kernel_rfl) (DOk.iface_of (by kernel_rfl)) (fun h => absurd rfl h)
theorem ty84 : TyOk Tryd.prog 84 ⟨.slice 26, 1, 24, [.slice none 0 0], [], []⟩ :=
  TyOk.mk' (by kernel_rfl) (by kernel_rfl) (by kernel_rfl) ((by kernel_rfl : Tryd.prog.underlying 84 = _)) (fun h => absurd rfl h)
theorem ty93 : TyOk Tryd.prog 93 ⟨.int .u32, 1, 4, [.int .u32 0], [], []⟩ :=
  TyOk.mk' (by kernel_rfl) (by kernel_rfl) (by kernel_rfl) ((by kernel_rfl : Tryd.prog.underlying 93 = _)) (fun h => absurd rfl h)
theorem ty96 : TyOk Tryd.prog 96 ⟨.ptr 5, 1, 8, [.pointer none], [], []⟩ :=
  TyOk.mk' (by kernel_rfl) (by kernel_rfl) (by kernel_rfl) ((by kernel_rfl : Tryd.prog.underlying 96 = _)) (fun h => absurd rfl h)
theorem ty107 : TyOk Tryd.prog 107 ⟨.int .u16, 1, 2, [.int .u16 0], [], []⟩ :=
  TyOk.mk' (by kernel_rfl) (by kernel_rfl) (by kernel_rfl) ((by kernel_rfl : Tryd.prog.underlying 107 = _)) (fun h => absurd rfl h)
theorem ty114 : TyOk Tryd.prog 114 ⟨.ptr 26, 1, 8, [.pointer none], [], []⟩ :=
  TyOk.mk' (by kernel_rfl) (by kernel_rfl) (by kernel_rfl) ((by kernel_rfl : Tryd.prog.underlying 114 = _)) (fun h => absurd rfl h)
theorem tabOk : TabOk Tryd.prog tab := by
  intro t i h
  unfold tab at h
  split at h
  · cases h; exact ty2
  · cases h; exact ty3
  · cases h; exact ty4
  · cases h; exact ty5
  · cases h; exact ty9
  · cases h; exact ty12
  · cases h; exact ty13
  · cases h; exact ty20
  · cases h; exact ty21
  · cases h; exact ty22
  · cases h; exact ty24
  · cases h; exact ty25
  · cases h; exact ty26
  · cases h; exact ty31
  · cases h; exact ty37
  · cases h; exact ty38
  · cases h; exact ty39
  · cases h; exact ty40
  · cases h; exact ty45
  · cases h; exact ty46
  · cases h; exact ty53
  · cases h; exact ty54
  · cases h; exact ty55
  · cases h; exact ty58
  · cases h; exact ty78
  · cases h; exact ty81
  · cases h; exact ty83
  · cases h; exact ty84
  · cases h; exact ty93
  · cases h; exact ty96
  · cases h; exact ty107
  · cases h; exact ty114
  · cases h
end Go.Proofs.YtidcdmlgojdglaaDoor
namespace Go.Proofs.YtidcdmlgojdglaaDoor
open Go Go.RowKit Go.Extern.Stop Go.Stop Go.Extern
set_option maxRecDepth 100000
namespace AsW
theorem valueOfPE (t : Addr) (w : World) : (ReflectliteValue.unpack (.iface 58 (.pointer (some t)))).run Tryd.prog w
    = .ok (.agg #[.pointer (some ⟨1, 58, none⟩), .pointer (some ⟨w.heap.size, 0, none⟩), .int .u64 150]) (w.alloc (.cells #[.pointer (some t)] 58)) := by kernel_rfl
theorem typePE (a : Addr) (w : World) : (ReflectliteValue.methodAny (ReflectliteValue.valueError "reflectlite.Value.Type" 0) (fun t _ _ _ => ReflectliteType.toType t) #[.agg #[.pointer (some ⟨1, 58, none⟩), .pointer (some a), .int .u64 150]]).run Tryd.prog w
    = .ok (.iface 73 (.agg #[.pointer (some ⟨1, 58, none⟩)])) w := by kernel_rfl
theorem methodKind (h : Value) (w : World) : (Go.method 215 73 (.agg #[h]) "Kind").run Tryd.prog w = .ok (48, h) w := by kernel_rfl
theorem kindPE (w : World) : ((ReflectliteType.abiMethod fun t => (fun a : Nat => Value.int IntKind.u8 (a : Int)) <$> Rtype.kind t) #[.pointer (some ⟨1, 58, none⟩)]).run Tryd.prog w = .ok (.int .u8 22) w := by kernel_rfl
theorem kindE (w : World) : ((ReflectliteType.abiMethod fun t => (fun a : Nat => Value.int IntKind.u8 (a : Int)) <$> Rtype.kind t) #[.pointer (some ⟨1, 53, none⟩)]).run Tryd.prog w = .ok (.int .u8 2) w := by kernel_rfl
theorem rlm (z : Sem Value) (f : TypeId → Addr → Nat → Nat → Sem Value) (v : Value) :
    ReflectliteValue.method z f #[v] = (do match ← ReflectliteValue.parts v with | none => z | some (t, a, fl) => f t a fl (fl % 32)) := rfl
theorem partsPE (a : Addr) (w : World) : (ReflectliteValue.parts (.agg #[.pointer (some ⟨1, 58, none⟩), .pointer (some a), .int .u64 150])).run Tryd.prog w = .ok (some (58, a, 150)) w := by kernel_rfl
theorem isNilPE (a p : Addr) (W : World) (ha : W.cell? a = some (.pointer (some p))) :
    (ReflectliteValue.method (ReflectliteValue.valueError "reflectlite.Value.IsNil" 0) ReflectliteValue.isNil #[.agg #[.pointer (some ⟨1, 58, none⟩), .pointer (some a), .int .u64 150]]).run Tryd.prog W = .ok (.bool false) W := by
  rw [rlm]
  simp only [Sem.run_bind, partsPE, Result.andThen]
  simp [ReflectliteValue.isNil, loadVar, isAgg, underlying, Tryd.underlying58, ha, Result.andThen]
theorem methodElem (h : Value) (w : World) : (Go.method 215 73 (.agg #[h]) "Elem").run Tryd.prog w = .ok (58, .agg #[h]) w := by kernel_rfl
theorem methodImplements (h : Value) (w : World) : (Go.method 215 73 (.agg #[h]) "Implements").run Tryd.prog w = .ok (59, .agg #[h]) w := by kernel_rfl
theorem methodAssignableTo (h : Value) (w : World) : (Go.method 215 73 (.agg #[h]) "AssignableTo").run Tryd.prog w = .ok (56, .agg #[h]) w := by kernel_rfl
theorem elemPE (w : World) : (ReflectliteType.method ReflectliteType.elem #[.agg #[.pointer (some ⟨1, 58, none⟩)]]).run Tryd.prog w = .ok (.iface 73 (.agg #[.pointer (some ⟨1, 53, none⟩)])) w := by kernel_rfl
theorem implementsE (w : World) : (ReflectliteType.relation "Implements" ReflectliteType.implements_ #[.agg #[.pointer (some ⟨1, 53, none⟩)], .iface 73 (.agg #[.pointer (some ⟨1, 26, none⟩)])]).run Tryd.prog w = .ok (.bool true) w := by kernel_rfl
theorem typeOfE (v : Value) (w : World) : (ReflectliteType.typeOf #[.iface 53 v]).run Tryd.prog w = .ok (.iface 73 (.agg #[.pointer (some ⟨1, 53, none⟩)])) w := by kernel_rfl
theorem assignableEE (w : World) : (ReflectliteType.relation "AssignableTo" ReflectliteType.assignableTo #[.agg #[.pointer (some ⟨1, 53, none⟩)], .iface 73 (.agg #[.pointer (some ⟨1, 53, none⟩)])]).run Tryd.prog w = .ok (.bool true) w := by kernel_rfl
theorem valueOfE (n : Int) (w : World) : (ReflectliteValue.unpack (.iface 53 (.int .i64 n))).run Tryd.prog w
    = .ok (.agg #[.pointer (some ⟨1, 53, none⟩), .pointer (some ⟨w.heap.size, 0, none⟩), .int .u64 130]) (w.alloc (.cells #[.int .i64 n] 53)) := by kernel_rfl
theorem elemOfPE (w : World) : (Rtype.elem? 58).run Tryd.prog w = .ok (some 53) w := by kernel_rfl
theorem mkE (p : Addr) (w : World) : (ReflectliteValue.mk 53 p ReflectliteValue.flagAddr).run Tryd.prog w = .ok (.agg #[.pointer (some ⟨1, 53, none⟩), .pointer (some p), .int .u64 386]) w := by kernel_rfl
theorem elemVPE (a p : Addr) (W : World) (ha : W.cell? a = some (.pointer (some p))) :
    (ReflectliteValue.method (ReflectliteValue.valueError "reflectlite.Value.Elem" 0) ReflectliteValue.elem #[.agg #[.pointer (some ⟨1, 58, none⟩), .pointer (some a), .int .u64 150]]).run Tryd.prog W
      = .ok (.agg #[.pointer (some ⟨1, 53, none⟩), .pointer (some p), .int .u64 386]) W := by
  rw [rlm]
  simp only [Sem.run_bind, partsPE, Result.andThen]
  simp [ReflectliteValue.elem, loadVar, isAgg, underlying, Tryd.underlying58, ha, Result.andThen, elemOfPE, mkE]
theorem rls (v x : Value) : ReflectliteValue.set #[v, x] = (do
    let (some (dst, a, fl), some (src, b, _)) := (← ReflectliteValue.parts v, ← ReflectliteValue.parts x)
      | unsupported (.noEntry "extern/(internal/reflectlite.Value).Set.zeroValue")
    if fl / ReflectliteValue.flagAddr % 2 == 0 then unsupported (.noEntry "extern/(internal/reflectlite.Value).Set.unaddressable")
    let val ← loadVar src b
    if ← Rtype.directlyAssignable dst src then storeVar dst a val
    else if ← Rtype.implements dst src then
      if (← Rtype.kind src) == 20 then
        match val with
        | .nilIface => unsupported (.noEntry "extern/reflectlite: a nil value of one interface type handed on as a value of another")
        | _ => storeVar dst a val
      else storeVar dst a (.iface src val)
    else panicString ("reflectlite.Set: value of type " ++ (← Rtype.spelt src) ++ " is not assignable to type " ++ (← Rtype.spelt dst))
    pure (.tuple #[])) := rfl
theorem partsEa (a : Addr) (w : World) : (ReflectliteValue.parts (.agg #[.pointer (some ⟨1, 53, none⟩), .pointer (some a), .int .u64 386])).run Tryd.prog w = .ok (some (53, a, 386)) w := by kernel_rfl
theorem partsE (a : Addr) (w : World) : (ReflectliteValue.parts (.agg #[.pointer (some ⟨1, 53, none⟩), .pointer (some a), .int .u64 130])).run Tryd.prog w = .ok (some (53, a, 130)) w := by kernel_rfl
theorem directE (w : World) : (Rtype.directlyAssignable 53 53).run Tryd.prog w = .ok true w := by kernel_rfl
theorem setE (ta b : Addr) (n : Int) (old : Value) (W : World) (hb : W.cell? b = some (.int .i64 n)) (ht : W.cell? ta = some old) (hf : W.frozen? ta = false) :
    (ReflectliteValue.set #[.agg #[.pointer (some ⟨1, 53, none⟩), .pointer (some ta), .int .u64 386], .agg #[.pointer (some ⟨1, 53, none⟩), .pointer (some b), .int .u64 130]]).run Tryd.prog W
      = .ok (.tuple #[]) (W.setCell ta (.int .i64 n)) := by
  rw [rls]
  simp only [Sem.run_bind, partsEa, partsE, Result.andThen]
  simp [ReflectliteValue.flagAddr, loadVar, isAgg, underlying, Tryd.underlying53, hb, Result.andThen, directE, storeVar, Value.cells, storeCells, Addr.add]
  rw [run_store Tryd.prog W ta _ _ (by rfl)]
  simp [ht, hf]
/-- errors.as, the error an Errno, the target an Errno variable. -/
theorem as_hit (n : Int) (t a : Addr) (old : Value) (w : World) (ha : w.cell? a = some (.pointer (some t))) (ht0 : w.cell? t = some old) (hf0 : w.frozen? t = false) :
    Calls Tryd.prog 30 #[.iface 53 (.int .i64 n), .iface 58 (.pointer (some t)), .agg #[.pointer (some ⟨1, 58, none⟩), .pointer (some a), .int .u64 150], .iface 73 (.agg #[.pointer (some ⟨1, 53, none⟩)])] w
      fun ev w' => ev = .returned (.bool true) ∧ w' = ((w.alloc (.cells #[.pointer (some ⟨1, 58, none⟩), .pointer (some a), .int .u64 150] 63)).alloc (.cells #[.int .i64 n] 53)).setCell t (.int .i64 n) := by
  have hVO := @run_callFunc_extern Tryd.prog 27 _ (fun args => ReflectliteValue.unpack (args.getD 0 (.tuple #[]))) Tryd.func27 (by kernel_rfl) (by kernel_rfl) (by kernel_rfl) (by kernel_rfl)
  have hTO := @run_callFunc_extern Tryd.prog 31 _ ReflectliteType.typeOf Tryd.func31 (by kernel_rfl) (by kernel_rfl) (by kernel_rfl) (by kernel_rfl)
  have hAT := @run_callFunc_extern Tryd.prog 56 _ (ReflectliteType.relation "AssignableTo" ReflectliteType.assignableTo) Tryd.func56 (by kernel_rfl) (by kernel_rfl) (by kernel_rfl) (by kernel_rfl)
  have hVE := @run_callFunc_extern Tryd.prog 32 _ (ReflectliteValue.method (ReflectliteValue.valueError "reflectlite.Value.Elem" 0) ReflectliteValue.elem) Tryd.func32 (by kernel_rfl) (by kernel_rfl) (by kernel_rfl) (by kernel_rfl)
  have hVS := @run_callFunc_extern Tryd.prog 33 _ ReflectliteValue.set Tryd.func33 (by kernel_rfl) (by kernel_rfl) (by kernel_rfl) (by kernel_rfl)
  have tO := typeOfE
  have mA := methodAssignableTo
  have aE := assignableEE
  have vE := valueOfE
  have hal : a.block < w.heap.size := by
    rcases Nat.lt_or_ge a.block w.heap.size with h | h
    · exact h
    · simp [World.cell?, Array.getElem?_eq_none h] at ha
  have htl : t.block < w.heap.size := by
    rcases Nat.lt_or_ge t.block w.heap.size with h | h
    · exact h
    · simp [World.cell?, Array.getElem?_eq_none h] at ht0
  have el := elemVPE a t (w.alloc (.cells #[.pointer (some ⟨1, 58, none⟩), .pointer (some a), .int .u64 150] 63)) (by rw [World.cell?_alloc_lt _ _ a hal]; exact ha)
  have st := setE t ⟨w.heap.size + 1, 0, none⟩ n old ((w.alloc (.cells #[.pointer (some ⟨1, 58, none⟩), .pointer (some a), .int .u64 150] 63)).alloc (.cells #[.int .i64 n] 53))
    (by rw [World.cell?_alloc_at _ _ _ _ (by simp)]; rfl)
    (by rw [World.cell?_alloc_lt _ _ t (by simp; omega), World.cell?_alloc_lt _ _ t htl]; exact ht0)
    (by rw [World.frozen?_alloc_old _ _ t (by simp; omega), World.frozen?_alloc_old _ _ t (Nat.ne_of_lt htl)]; exact hf0)
  clear ha ht0 hf0
  go_enter Tryd.func30, Tryd.ntmps30
  go_wp2
  refine wp_loop_rounds 1 ?_
  rw [rounds_succ]
  go_wp2
  go_ret
  exact ⟨rfl, rfl⟩
/-- errors.As at an Errno variable, whatever errors.as answers. -/
theorem As_of (u : TypeId) (x : Value) (t : Addr) (w : World) (R : Bool → World → Prop) (hg : w.cell? ⟨0, 0, none⟩ = some (.iface 73 (.agg #[.pointer (some ⟨1, 26, none⟩)])))
    (h : Calls Tryd.prog 30 #[.iface u x, .iface 58 (.pointer (some t)), .agg #[.pointer (some ⟨1, 58, none⟩), .pointer (some ⟨w.heap.size, 0, none⟩), .int .u64 150], .iface 73 (.agg #[.pointer (some ⟨1, 53, none⟩)])]
      ((w.alloc (.cells #[.pointer (some t)] 58)).alloc (.cells #[.pointer (some ⟨1, 58, none⟩), .pointer (some ⟨w.heap.size, 0, none⟩), .int .u64 150] 63)) fun e w' => ∃ b, e = .returned (.bool b) ∧ R b w') :
    Calls Tryd.prog 25 #[.iface u x, .iface 58 (.pointer (some t))] w fun e w' => ∃ b, e = .returned (.bool b) ∧ R b w' := by
  have hVO := @run_callFunc_extern Tryd.prog 27 _ (fun args => ReflectliteValue.unpack (args.getD 0 (.tuple #[]))) Tryd.func27 (by kernel_rfl) (by kernel_rfl) (by kernel_rfl) (by kernel_rfl)
  have hVT := @run_callFunc_extern Tryd.prog 28 _ (ReflectliteValue.methodAny (ReflectliteValue.valueError "reflectlite.Value.Type" 0) (fun t _ _ _ => ReflectliteType.toType t)) Tryd.func28 (by kernel_rfl) (by kernel_rfl) (by kernel_rfl) (by kernel_rfl)
  have hIN := @run_callFunc_extern Tryd.prog 29 _ (ReflectliteValue.method (ReflectliteValue.valueError "reflectlite.Value.IsNil" 0) ReflectliteValue.isNil) Tryd.func29 (by kernel_rfl) (by kernel_rfl) (by kernel_rfl) (by kernel_rfl)
  have hK := @run_callFunc_extern Tryd.prog 48 _ (ReflectliteType.abiMethod fun t => do pure (.int .u8 (← Rtype.kind t))) Tryd.func48 (by kernel_rfl) (by kernel_rfl) (by kernel_rfl) (by kernel_rfl)
  have hRE := @run_callFunc_extern Tryd.prog 58 _ (ReflectliteType.method ReflectliteType.elem) Tryd.func58 (by kernel_rfl) (by kernel_rfl) (by kernel_rfl) (by kernel_rfl)
  have hIM := @run_callFunc_extern Tryd.prog 59 _ (ReflectliteType.relation "Implements" ReflectliteType.implements_) Tryd.func59 (by kernel_rfl) (by kernel_rfl) (by kernel_rfl) (by kernel_rfl)
  have f6 := valueOfPE
  have f7 := typePE
  have mK := methodKind
  have mE := methodElem
  have mI := methodImplements
  have kP := kindPE
  have kE := kindE
  have eP := elemPE
  have iE := implementsE
  have n8 := isNilPE ⟨w.heap.size, 0, none⟩ t ((w.alloc (.cells #[.pointer (some t)] 58)).alloc (.cells #[.pointer (some ⟨1, 58, none⟩), .pointer (some ⟨w.heap.size, 0, none⟩), .int .u64 150] 63)) (by simp)
  have hlt : 0 < w.heap.size := by
    rcases Nat.eq_zero_or_pos w.heap.size with h0 | h
    · simp [World.cell?, h0] at hg
    · exact h
  have hg2 : ((w.alloc (.cells #[.pointer (some t)] 58)).alloc (.cells #[.pointer (some ⟨1, 58, none⟩), .pointer (some ⟨w.heap.size, 0, none⟩), .int .u64 150] 63)).cell? ⟨0, 0, none⟩ = some (.iface 73 (.agg #[.pointer (some ⟨1, 26, none⟩)])) := by
    rw [World.cell?_alloc_lt _ _ ⟨0, 0, none⟩ (by simp), World.cell?_alloc_lt _ _ ⟨0, 0, none⟩ hlt]; exact hg
  clear hg
  have H := Lib.hid h
  clear h
  go_enter Tryd.func25, Tryd.ntmps25
  go_wp2_with ((go_at_call 30; refine H.out.mono ?_; rintro e w' ⟨b, rfl, hq⟩))
  go_ret
  exact ⟨b, rfl, hq⟩
theorem As_errno (n : Int) (t : Addr) (old : Value) (w : World) (hg : w.cell? ⟨0, 0, none⟩ = some (.iface 73 (.agg #[.pointer (some ⟨1, 26, none⟩)]))) (ht0 : w.cell? t = some old) (hf0 : w.frozen? t = false) :
    Calls Tryd.prog 25 #[.iface 53 (.int .i64 n), .iface 58 (.pointer (some t))] w fun e w' => ∃ b, e = .returned (.bool b) ∧ (b = true ∧ ∃ w1, Below w.heap.size w w1 ∧ w1.cell? t = some old ∧ w' = w1.setCell t (.int .i64 n)) := by
  refine As_of _ _ t w _ hg ((as_hit n t ⟨w.heap.size, 0, none⟩ old _ (by simp) ?_ ?_).mono ?_)
  · have htl : t.block < w.heap.size := by
      rcases Nat.lt_or_ge t.block w.heap.size with h | h
      · exact h
      · simp [World.cell?, Array.getElem?_eq_none h] at ht0
    rw [World.cell?_alloc_lt _ _ t (by simp; omega), World.cell?_alloc_lt _ _ t htl]; exact ht0
  · have htl : t.block < w.heap.size := by
      rcases Nat.lt_or_ge t.block w.heap.size with h | h
      · exact h
      · simp [World.cell?, Array.getElem?_eq_none h] at ht0
    rw [World.frozen?_alloc_old _ _ t (by simp; omega), World.frozen?_alloc_old _ _ t (Nat.ne_of_lt htl)]; exact hf0
  · rintro e w' ⟨rfl, rfl⟩
    have b4 : Below w.heap.size w ((((w.alloc (.cells #[.pointer (some t)] 58)).alloc (.cells #[.pointer (some ⟨1, 58, none⟩), .pointer (some ⟨w.heap.size, 0, none⟩), .int .u64 150] 63)).alloc (.cells #[.pointer (some ⟨1, 58, none⟩), .pointer (some ⟨w.heap.size, 0, none⟩), .int .u64 150] 63)).alloc (.cells #[.int .i64 n] 53)) :=
      ((((Below.refl _ _).alloc (Nat.le_refl _) _).alloc (by simp) _).alloc (by simp; omega) _).alloc (by simp; omega) _
    refine ⟨true, rfl, rfl, _, b4, ?_, rfl⟩
    have htl : t.block < w.heap.size := by
      rcases Nat.lt_or_ge t.block w.heap.size with h | h
      · exact h
      · simp [World.cell?, Array.getElem?_eq_none h] at ht0
    rw [b4.cell htl]; exact ht0
/-- api.Code of an Errno. -/
theorem code_errno (n : Int) (w : World) (hg : w.cell? ⟨0, 0, none⟩ = some (.iface 73 (.agg #[.pointer (some ⟨1, 26, none⟩)]))) :
    Calls Tryd.prog 13 #[.iface 53 (.int .i64 n)] w fun e w' => e = .returned (.int .i64 n) ∧ Below w.heap.size w w' := by
  have hlt : 0 < w.heap.size := by
    rcases Nat.eq_zero_or_pos w.heap.size with h0 | h
    · simp [World.cell?, h0] at hg
    · exact h
  have hgA : (w.alloc (.cells #[.int .i64 0] 53)).cell? ⟨0, 0, none⟩ = some (.iface 73 (.agg #[.pointer (some ⟨1, 26, none⟩)])) := by
    rw [World.cell?_alloc_lt _ _ ⟨0, 0, none⟩ hlt]; exact hg
  have H := Lib.hid (As_errno n ⟨w.heap.size, 0, none⟩ (.int .i64 0) _ hgA (by simp) (by simp))
  clear hg hgA
  go_enter Tryd.func13, Tryd.ntmps13
  go_wp2_with fail
  refine H.out.mono ?_
  rintro e w' ⟨b, rfl, rfl, w1, hb, ho, rfl⟩
  have hc : (w1.setCell ⟨w.heap.size, 0, none⟩ (.int .i64 n)).cell? ⟨w.heap.size, 0, none⟩ = some (.int .i64 n) := World.cell?_setCell_same' w1 _ _ (by rw [ho]; rfl)
  have HB := Lib.hid hb
  clear hb ho H
  go_wp2
  go_ret
  exact ⟨rfl, (((Below.refl _ _).alloc (Nat.le_refl _) _).trans (HB.out.mono (by simp))).setCell (by simp) _⟩
theorem code_nil (w : World) : Calls Tryd.prog 13 #[.nilIface] w fun e w' => e = .returned (.int .i64 0) ∧ Below w.heap.size w w' := by
  go_enter Tryd.func13, Tryd.ntmps13
  go_wp2
  go_ret
  exact ⟨rfl, (Below.refl _ _).alloc (Nat.le_refl _) _⟩
end AsW
end Go.Proofs.YtidcdmlgojdglaaDoor
namespace Go.Proofs.YtidcdmlgojdglaaDoor
open Go Sx Go.RowKit
set_option maxRecDepth 100000
namespace AsW
theorem errAt {ow : Own} {w : World} (h : Glob Tryd.prog ow w) : w.cell? ⟨0, 0, none⟩ = some (.iface 73 (.agg #[.pointer (some ⟨1, 26, none⟩)])) := by
  have := globErr h (show Tryd.prog.globalNamed "errors.errorType" = some 0 by kernel_rfl) (show (Tryd.prog.cutTypes.find? (·.1 == "internal/reflectlite.rtype")).map (·.2) = some 73 by kernel_rfl)
    (show (List.range Tryd.prog.types.size).find? (fun t => Tryd.prog.rowNamed t [101, 114, 114, 111, 114]) = some 26 by kernel_rfl)
  rw [this, show typeHandle Tryd.prog 26 = .pointer (some ⟨1, 26, none⟩) by kernel_rfl]
theorem enterCode : Entered Tryd.prog 13 := ⟨Tryd.f13, Tryd.func13, by kernel_rfl, by kernel_rfl⟩
end AsW
theorem code_nil_c : Ctr Tryd.prog 13 [] [.nilif] fun v H => v = .int .i64 (.lit 0) ∧ H = [] := by
  refine Ctr.of_below AsW.enterCode fun w r vals hg hgl hv => ?_
  obtain ⟨x, rfl, hx⟩ := vrelL_one hv
  simp only [VRel] at hx
  subst hx
  exact (AsW.code_nil w).mono fun e w' ⟨h1, h2⟩ => ⟨_, h1, rfl, h2⟩
theorem code_c (n : Iv) : Ctr Tryd.prog 13 [] [.iface 53 (.int .i64 n)] fun v H => v = .int .i64 (.sym n.val) ∧ H = [] := by
  refine Ctr.of_below AsW.enterCode fun w r vals hg hgl hv => ?_
  obtain ⟨x, rfl, hx⟩ := vrelL_one hv
  simp only [VRel] at hx
  obtain ⟨u, rfl, rfl⟩ := hx
  exact (AsW.code_errno n.val w (AsW.errAt hgl)).mono fun e w' ⟨h1, h2⟩ => ⟨_, h1, rfl, h2⟩
end Go.Proofs.YtidcdmlgojdglaaDoor
namespace Go.Proofs.YtidcdmlgojdglaaDoor
open Go Sx
set_option maxRecDepth 100000
set_option maxHeartbeats 4000000
theorem mixed : Tryd.prog.follows .mixedOrders = true := by kernel_rfl
/-- A disk. -/
def dk (n : Int) (d : Bool) (a k w : Int) (xs : List Int) : Hp := [.cells 55 [.vec 1 (.sym n), .sbool d, .int .i64 (.sym a), .int .i64 (.sym k), .int .i64 (.sym w)], .cols (.row 32) 31 [.ints .u8 (.sym xs)]]
def zer (n : Int) : List Int := List.replicate (n * 32).toNat 0
theorem new_ctr (n : Int) : Ctr Tryd.prog 9 [] [.int .i64 (.sym n)] fun v H =>
    ((n < 1 ∨ 256 < n) ∧ v = .tup [.nilp, .iface 53 (.int .i64 (.sym 1))] ∧ H = []) ∨ (∃ xs, (1 ≤ n ∧ n ≤ 256 ∧ xs = zer n) ∧ v = .tup [.ptr 0 ⟨.lit 0, 1, 0⟩, .nilif] ∧ H = dk n false 0 0 0 xs) := by
  obtain ⟨uI, uB, uS, uL, uT, hu⟩ := words
  have hm := mixed
  have hT := tabOk
  obtain ⟨P, hP⟩ : ∃ P, P = Tryd.prog := ⟨_, rfl⟩
  rw [← hP] at hm hT ⊢
  refine Ctr.weak (ctr_of_vc hu hm hT (hP ▸ Tryd.func9) rfl (by kernel_rfl) ?_)
  clear hP hm hT
  generalize hR : Weak _ _ = R
  conv => cbv
  repeat' (first | ((with_reducible intro (h : _ = _)); (try subst h); (try simp only [hu.b, hu.i, iB, iI, cmpB, Iv.val_sym, Iv.val_lit, Lv.raw, Tv.raw, decide_eq_true_eq, decide_eq_false_iff_not, beq_iff_eq, beq_eq_false_iff_ne, ne_eq, ofN, Int.toNat_zero, Int.toNat_one, Int.reduceToNat, natc, hu.s, iS, Sv.val_lit, Sv.val_sym, true_iff, false_iff, Bool.false_eq_true, bne_iff_ne, bne_eq_false_iff_eq, Bool.not_eq_true', Bool.not_eq_false', Decidable.not_not, nil_toList, ByteArray.size_empty, nilS, not_true_eq_false, not_false_eq_true, hu.l, iL, hu.t, iT, bin_add, bin_sub, bin_mul, wr_u8, wr_u16, wr_u32, wr_u64, IntKind.wrap_i64, List.length_append, List.length_cons, List.length_nil, List.nil_append, List.append_nil, List.cons_append, lvals, List.length_replicate, List.length_set, linV_val hu, Int.add_zero, Int.zero_add, Int.mul_one, Int.sub_zero, Int.zero_mul, Bool.true_eq_false, false_and, and_false, true_and, and_true] at h) <;> (try simp only [Int.ofNat_eq_natCast] at h) <;> (first | (have hF0 : False := by omega; exact hF0.elim) | (conv => cbv))) | (with_reducible refine And.intro ?_ ?_) | (refine Gen0.mk ?_; (conv => cbv)) | (simp only [hu.b, hu.i, iB, iI, cmpB, Iv.val_sym, Iv.val_lit, Lv.raw, Tv.raw, decide_eq_true_eq, decide_eq_false_iff_not, beq_iff_eq, beq_eq_false_iff_ne, ne_eq, ofN, Int.toNat_zero, Int.toNat_one, Int.reduceToNat, natc, hu.s, iS, Sv.val_lit, Sv.val_sym, true_iff, false_iff, Bool.false_eq_true, bne_iff_ne, bne_eq_false_iff_eq, Bool.not_eq_true', Bool.not_eq_false', Decidable.not_not, nil_toList, ByteArray.size_empty, nilS, not_true_eq_false, not_false_eq_true, hu.l, iL, hu.t, iT, bin_add, bin_sub, bin_mul, wr_u8, wr_u16, wr_u32, wr_u64, IntKind.wrap_i64, List.length_append, List.length_cons, List.length_nil, List.nil_append, List.append_nil, List.cons_append, lvals, List.length_replicate, List.length_set, linV_val hu, Int.add_zero, Int.zero_add, Int.mul_one, Int.sub_zero, Int.zero_mul, Bool.true_eq_false, false_and, and_false, true_and, and_true]; (try simp only [Int.ofNat_eq_natCast]); done) | ((try simp only [hu.b, hu.i, iB, iI, cmpB, Iv.val_sym, Iv.val_lit, Lv.raw, Tv.raw, decide_eq_true_eq, decide_eq_false_iff_not, beq_iff_eq, beq_eq_false_iff_ne, ne_eq, ofN, Int.toNat_zero, Int.toNat_one, Int.reduceToNat, natc, hu.s, iS, Sv.val_lit, Sv.val_sym, true_iff, false_iff, Bool.false_eq_true, bne_iff_ne, bne_eq_false_iff_eq, Bool.not_eq_true', Bool.not_eq_false', Decidable.not_not, nil_toList, ByteArray.size_empty, nilS, not_true_eq_false, not_false_eq_true, hu.l, iL, hu.t, iT, bin_add, bin_sub, bin_mul, wr_u8, wr_u16, wr_u32, wr_u64, IntKind.wrap_i64, List.length_append, List.length_cons, List.length_nil, List.nil_append, List.append_nil, List.cons_append, lvals, List.length_replicate, List.length_set, linV_val hu, Int.add_zero, Int.zero_add, Int.mul_one, Int.sub_zero, Int.zero_mul, Bool.true_eq_false, false_and, and_false, true_and, and_true]) <;> (try simp only [Int.ofNat_eq_natCast]) <;> omega))
  · subst hR
    refine Weak.of (.inl ⟨by omega, rfl, rfl⟩) ?_ ?_ (by rfl)
    all_goals ((conv => cbv); repeat' (first | exact True.intro | with_reducible rfl | (with_reducible exact fun h => h) | (with_reducible refine And.intro ?_ ?_)))
  · subst hR
    refine Weak.of (.inl ⟨by omega, rfl, rfl⟩) ?_ ?_ (by rfl)
    all_goals ((conv => cbv); repeat' (first | exact True.intro | with_reducible rfl | (with_reducible exact fun h => h) | (with_reducible refine And.intro ?_ ?_)))
  · obtain ⟨xs, ex⟩ : ∃ xs, xs = zer n := ⟨_, rfl⟩
    subst hR
    refine Weak.of (.inr ⟨xs, ⟨by omega, by omega, ex⟩, rfl, rfl⟩) ?_ ?_ (by rfl)
    all_goals ((conv => cbv); repeat' (first | exact True.intro | with_reducible rfl | (with_reducible exact fun h => h) | (with_reducible refine And.intro ?_ ?_)))
    rw [ex, hu.l]
    simp only [iL, linV_val hu, zer, Iv.val_sym, Iv.val_lit, Int.add_zero]
    rfl
theorem may_ctr (n : Int) (d : Bool) (a k w : Int) (xs : List Int) (i : Int) : Ctr Tryd.prog 24 (dk n d a k w xs) [.ptr 0 ⟨.lit 0, 1, 0⟩, .int .i64 (.sym i)] fun v H =>
    (d = true ∧ v = .iface 53 (.int .i64 (.sym 14)) ∧ H = dk n true a k w xs) ∨ ((d = false ∧ (i < 0 ∨ n ≤ i)) ∧ v = .iface 53 (.int .i64 (.sym 8)) ∧ H = dk n false a k w xs) ∨ ((d = false ∧ 0 ≤ i ∧ i < n) ∧ v = .nilif ∧ H = dk n false a k w xs) := by
  unfold dk
  obtain ⟨uI, uB, uS, uL, uT, hu⟩ := words
  have hm := mixed
  have hT := tabOk
  obtain ⟨P, hP⟩ : ∃ P, P = Tryd.prog := ⟨_, rfl⟩
  rw [← hP] at hm hT ⊢
  refine Ctr.weak (ctr_of_vc hu hm hT (hP ▸ Tryd.func24) rfl (by kernel_rfl) ?_)
  clear hP hm hT
  generalize hR : Weak _ _ = R
  conv => cbv
  repeat' (first | ((with_reducible intro (h : _ = _)); (try subst h); (try simp only [hu.b, hu.i, iB, iI, cmpB, Iv.val_sym, Iv.val_lit, Lv.raw, Tv.raw, decide_eq_true_eq, decide_eq_false_iff_not, beq_iff_eq, beq_eq_false_iff_ne, ne_eq, ofN, Int.toNat_zero, Int.toNat_one, Int.reduceToNat, natc, hu.s, iS, Sv.val_lit, Sv.val_sym, true_iff, false_iff, Bool.false_eq_true, bne_iff_ne, bne_eq_false_iff_eq, Bool.not_eq_true', Bool.not_eq_false', Decidable.not_not, nil_toList, ByteArray.size_empty, nilS, not_true_eq_false, not_false_eq_true, hu.l, iL, hu.t, iT, bin_add, bin_sub, bin_mul, wr_u8, wr_u16, wr_u32, wr_u64, IntKind.wrap_i64, List.length_append, List.length_cons, List.length_nil, List.nil_append, List.append_nil, List.cons_append, lvals, List.length_replicate, List.length_set, linV_val hu, Int.add_zero, Int.zero_add, Int.mul_one, Int.sub_zero, Int.zero_mul, Bool.true_eq_false, false_and, and_false, true_and, and_true] at h) <;> (try simp only [Int.ofNat_eq_natCast] at h) <;> (first | (have hF0 : False := by omega; exact hF0.elim) | (conv => cbv))) | (with_reducible refine And.intro ?_ ?_) | (refine Gen0.mk ?_; (conv => cbv)) | (simp only [hu.b, hu.i, iB, iI, cmpB, Iv.val_sym, Iv.val_lit, Lv.raw, Tv.raw, decide_eq_true_eq, decide_eq_false_iff_not, beq_iff_eq, beq_eq_false_iff_ne, ne_eq, ofN, Int.toNat_zero, Int.toNat_one, Int.reduceToNat, natc, hu.s, iS, Sv.val_lit, Sv.val_sym, true_iff, false_iff, Bool.false_eq_true, bne_iff_ne, bne_eq_false_iff_eq, Bool.not_eq_true', Bool.not_eq_false', Decidable.not_not, nil_toList, ByteArray.size_empty, nilS, not_true_eq_false, not_false_eq_true, hu.l, iL, hu.t, iT, bin_add, bin_sub, bin_mul, wr_u8, wr_u16, wr_u32, wr_u64, IntKind.wrap_i64, List.length_append, List.length_cons, List.length_nil, List.nil_append, List.append_nil, List.cons_append, lvals, List.length_replicate, List.length_set, linV_val hu, Int.add_zero, Int.zero_add, Int.mul_one, Int.sub_zero, Int.zero_mul, Bool.true_eq_false, false_and, and_false, true_and, and_true]; (try simp only [Int.ofNat_eq_natCast]); done) | ((try simp only [hu.b, hu.i, iB, iI, cmpB, Iv.val_sym, Iv.val_lit, Lv.raw, Tv.raw, decide_eq_true_eq, decide_eq_false_iff_not, beq_iff_eq, beq_eq_false_iff_ne, ne_eq, ofN, Int.toNat_zero, Int.toNat_one, Int.reduceToNat, natc, hu.s, iS, Sv.val_lit, Sv.val_sym, true_iff, false_iff, Bool.false_eq_true, bne_iff_ne, bne_eq_false_iff_eq, Bool.not_eq_true', Bool.not_eq_false', Decidable.not_not, nil_toList, ByteArray.size_empty, nilS, not_true_eq_false, not_false_eq_true, hu.l, iL, hu.t, iT, bin_add, bin_sub, bin_mul, wr_u8, wr_u16, wr_u32, wr_u64, IntKind.wrap_i64, List.length_append, List.length_cons, List.length_nil, List.nil_append, List.append_nil, List.cons_append, lvals, List.length_replicate, List.length_set, linV_val hu, Int.add_zero, Int.zero_add, Int.mul_one, Int.sub_zero, Int.zero_mul, Bool.true_eq_false, false_and, and_false, true_and, and_true]) <;> (try simp only [Int.ofNat_eq_natCast]) <;> omega))
  · subst hR
    refine Weak.of (.inl ⟨rfl, rfl, rfl⟩) ?_ ?_ (by rfl)
    all_goals ((conv => cbv); repeat' (first | exact True.intro | with_reducible rfl | (with_reducible exact fun h => h) | (with_reducible refine And.intro ?_ ?_)))
  · subst hR
    refine Weak.of (.inr (.inl ⟨⟨rfl, by omega⟩, rfl, rfl⟩)) ?_ ?_ (by rfl)
    all_goals ((conv => cbv); repeat' (first | exact True.intro | with_reducible rfl | (with_reducible exact fun h => h) | (with_reducible refine And.intro ?_ ?_)))
  · subst hR
    refine Weak.of (.inr (.inl ⟨⟨rfl, by omega⟩, rfl, rfl⟩)) ?_ ?_ (by rfl)
    all_goals ((conv => cbv); repeat' (first | exact True.intro | with_reducible rfl | (with_reducible exact fun h => h) | (with_reducible refine And.intro ?_ ?_)))
  · subst hR
    refine Weak.of (.inr (.inr ⟨⟨rfl, by omega, by omega⟩, rfl, rfl⟩)) ?_ ?_ (by rfl)
    all_goals ((conv => cbv); repeat' (first | exact True.intro | with_reducible rfl | (with_reducible exact fun h => h) | (with_reducible refine And.intro ?_ ?_)))
theorem size_ctr (n : Int) (d : Bool) (a k w : Int) (xs : List Int) : Ctr Tryd.prog 18 (dk n d a k w xs) [.ptr 0 ⟨.lit 0, 1, 0⟩] fun v H => v = .int .i64 (.sym n) ∧ H = dk n d a k w xs := by
  unfold dk
  obtain ⟨uI, uB, uS, uL, uT, hu⟩ := words
  have hm := mixed
  have hT := tabOk
  obtain ⟨P, hP⟩ : ∃ P, P = Tryd.prog := ⟨_, rfl⟩
  rw [← hP] at hm hT ⊢
  refine Ctr.weak (ctr_of_vc hu hm hT (hP ▸ Tryd.func18) rfl (by kernel_rfl) ?_)
  clear hP hm hT
  generalize hR : Weak _ _ = R
  conv => cbv
  repeat' (first | ((with_reducible intro (h : _ = _)); (try subst h); (try simp only [hu.b, hu.i, iB, iI, cmpB, Iv.val_sym, Iv.val_lit, Lv.raw, Tv.raw, decide_eq_true_eq, decide_eq_false_iff_not, beq_iff_eq, beq_eq_false_iff_ne, ne_eq, ofN, Int.toNat_zero, Int.toNat_one, Int.reduceToNat, natc, hu.s, iS, Sv.val_lit, Sv.val_sym, true_iff, false_iff, Bool.false_eq_true, bne_iff_ne, bne_eq_false_iff_eq, Bool.not_eq_true', Bool.not_eq_false', Decidable.not_not, nil_toList, ByteArray.size_empty, nilS, not_true_eq_false, not_false_eq_true, hu.l, iL, hu.t, iT, bin_add, bin_sub, bin_mul, wr_u8, wr_u16, wr_u32, wr_u64, IntKind.wrap_i64, List.length_append, List.length_cons, List.length_nil, List.nil_append, List.append_nil, List.cons_append, lvals, List.length_replicate, List.length_set, linV_val hu, Int.add_zero, Int.zero_add, Int.mul_one, Int.sub_zero, Int.zero_mul, Bool.true_eq_false, false_and, and_false, true_and, and_true] at h) <;> (try simp only [Int.ofNat_eq_natCast] at h) <;> (first | (have hF0 : False := by omega; exact hF0.elim) | (conv => cbv))) | (with_reducible refine And.intro ?_ ?_) | (refine Gen0.mk ?_; (conv => cbv)) | (simp only [hu.b, hu.i, iB, iI, cmpB, Iv.val_sym, Iv.val_lit, Lv.raw, Tv.raw, decide_eq_true_eq, decide_eq_false_iff_not, beq_iff_eq, beq_eq_false_iff_ne, ne_eq, ofN, Int.toNat_zero, Int.toNat_one, Int.reduceToNat, natc, hu.s, iS, Sv.val_lit, Sv.val_sym, true_iff, false_iff, Bool.false_eq_true, bne_iff_ne, bne_eq_false_iff_eq, Bool.not_eq_true', Bool.not_eq_false', Decidable.not_not, nil_toList, ByteArray.size_empty, nilS, not_true_eq_false, not_false_eq_true, hu.l, iL, hu.t, iT, bin_add, bin_sub, bin_mul, wr_u8, wr_u16, wr_u32, wr_u64, IntKind.wrap_i64, List.length_append, List.length_cons, List.length_nil, List.nil_append, List.append_nil, List.cons_append, lvals, List.length_replicate, List.length_set, linV_val hu, Int.add_zero, Int.zero_add, Int.mul_one, Int.sub_zero, Int.zero_mul, Bool.true_eq_false, false_and, and_false, true_and, and_true]; (try simp only [Int.ofNat_eq_natCast]); done) | ((try simp only [hu.b, hu.i, iB, iI, cmpB, Iv.val_sym, Iv.val_lit, Lv.raw, Tv.raw, decide_eq_true_eq, decide_eq_false_iff_not, beq_iff_eq, beq_eq_false_iff_ne, ne_eq, ofN, Int.toNat_zero, Int.toNat_one, Int.reduceToNat, natc, hu.s, iS, Sv.val_lit, Sv.val_sym, true_iff, false_iff, Bool.false_eq_true, bne_iff_ne, bne_eq_false_iff_eq, Bool.not_eq_true', Bool.not_eq_false', Decidable.not_not, nil_toList, ByteArray.size_empty, nilS, not_true_eq_false, not_false_eq_true, hu.l, iL, hu.t, iT, bin_add, bin_sub, bin_mul, wr_u8, wr_u16, wr_u32, wr_u64, IntKind.wrap_i64, List.length_append, List.length_cons, List.length_nil, List.nil_append, List.append_nil, List.cons_append, lvals, List.length_replicate, List.length_set, linV_val hu, Int.add_zero, Int.zero_add, Int.mul_one, Int.sub_zero, Int.zero_mul, Bool.true_eq_false, false_and, and_false, true_and, and_true]) <;> (try simp only [Int.ofNat_eq_natCast]) <;> omega))
  subst hR
  refine Weak.of (⟨rfl, rfl⟩) ?_ ?_ (by rfl)
  all_goals ((conv => cbv); repeat' (first | exact True.intro | with_reducible rfl | (with_reducible exact fun h => h) | (with_reducible refine And.intro ?_ ?_)))
theorem down_ctr (n : Int) (d : Bool) (a k w : Int) (xs : List Int) : Ctr Tryd.prog 19 (dk n d a k w xs) [.ptr 0 ⟨.lit 0, 1, 0⟩] fun v H => v = .sbool d ∧ H = dk n d a k w xs := by
  unfold dk
  obtain ⟨uI, uB, uS, uL, uT, hu⟩ := words
  have hm := mixed
  have hT := tabOk
  obtain ⟨P, hP⟩ : ∃ P, P = Tryd.prog := ⟨_, rfl⟩
  rw [← hP] at hm hT ⊢
  refine Ctr.weak (ctr_of_vc hu hm hT (hP ▸ Tryd.func19) rfl (by kernel_rfl) ?_)
  clear hP hm hT
  generalize hR : Weak _ _ = R
  conv => cbv
  repeat' (first | ((with_reducible intro (h : _ = _)); (try subst h); (try simp only [hu.b, hu.i, iB, iI, cmpB, Iv.val_sym, Iv.val_lit, Lv.raw, Tv.raw, decide_eq_true_eq, decide_eq_false_iff_not, beq_iff_eq, beq_eq_false_iff_ne, ne_eq, ofN, Int.toNat_zero, Int.toNat_one, Int.reduceToNat, natc, hu.s, iS, Sv.val_lit, Sv.val_sym, true_iff, false_iff, Bool.false_eq_true, bne_iff_ne, bne_eq_false_iff_eq, Bool.not_eq_true', Bool.not_eq_false', Decidable.not_not, nil_toList, ByteArray.size_empty, nilS, not_true_eq_false, not_false_eq_true, hu.l, iL, hu.t, iT, bin_add, bin_sub, bin_mul, wr_u8, wr_u16, wr_u32, wr_u64, IntKind.wrap_i64, List.length_append, List.length_cons, List.length_nil, List.nil_append, List.append_nil, List.cons_append, lvals, List.length_replicate, List.length_set, linV_val hu, Int.add_zero, Int.zero_add, Int.mul_one, Int.sub_zero, Int.zero_mul, Bool.true_eq_false, false_and, and_false, true_and, and_true] at h) <;> (try simp only [Int.ofNat_eq_natCast] at h) <;> (first | (have hF0 : False := by omega; exact hF0.elim) | (conv => cbv))) | (with_reducible refine And.intro ?_ ?_) | (refine Gen0.mk ?_; (conv => cbv)) | (simp only [hu.b, hu.i, iB, iI, cmpB, Iv.val_sym, Iv.val_lit, Lv.raw, Tv.raw, decide_eq_true_eq, decide_eq_false_iff_not, beq_iff_eq, beq_eq_false_iff_ne, ne_eq, ofN, Int.toNat_zero, Int.toNat_one, Int.reduceToNat, natc, hu.s, iS, Sv.val_lit, Sv.val_sym, true_iff, false_iff, Bool.false_eq_true, bne_iff_ne, bne_eq_false_iff_eq, Bool.not_eq_true', Bool.not_eq_false', Decidable.not_not, nil_toList, ByteArray.size_empty, nilS, not_true_eq_false, not_false_eq_true, hu.l, iL, hu.t, iT, bin_add, bin_sub, bin_mul, wr_u8, wr_u16, wr_u32, wr_u64, IntKind.wrap_i64, List.length_append, List.length_cons, List.length_nil, List.nil_append, List.append_nil, List.cons_append, lvals, List.length_replicate, List.length_set, linV_val hu, Int.add_zero, Int.zero_add, Int.mul_one, Int.sub_zero, Int.zero_mul, Bool.true_eq_false, false_and, and_false, true_and, and_true]; (try simp only [Int.ofNat_eq_natCast]); done) | ((try simp only [hu.b, hu.i, iB, iI, cmpB, Iv.val_sym, Iv.val_lit, Lv.raw, Tv.raw, decide_eq_true_eq, decide_eq_false_iff_not, beq_iff_eq, beq_eq_false_iff_ne, ne_eq, ofN, Int.toNat_zero, Int.toNat_one, Int.reduceToNat, natc, hu.s, iS, Sv.val_lit, Sv.val_sym, true_iff, false_iff, Bool.false_eq_true, bne_iff_ne, bne_eq_false_iff_eq, Bool.not_eq_true', Bool.not_eq_false', Decidable.not_not, nil_toList, ByteArray.size_empty, nilS, not_true_eq_false, not_false_eq_true, hu.l, iL, hu.t, iT, bin_add, bin_sub, bin_mul, wr_u8, wr_u16, wr_u32, wr_u64, IntKind.wrap_i64, List.length_append, List.length_cons, List.length_nil, List.nil_append, List.append_nil, List.cons_append, lvals, List.length_replicate, List.length_set, linV_val hu, Int.add_zero, Int.zero_add, Int.mul_one, Int.sub_zero, Int.zero_mul, Bool.true_eq_false, false_and, and_false, true_and, and_true]) <;> (try simp only [Int.ofNat_eq_natCast]) <;> omega))
  all_goals
    subst hR
    refine Weak.of (⟨rfl, rfl⟩) ?_ ?_ (by rfl)
    all_goals ((conv => cbv); repeat' (first | exact True.intro | with_reducible rfl | (with_reducible exact fun h => h) | (with_reducible refine And.intro ?_ ?_)))
theorem writes_ctr (n : Int) (d : Bool) (a k w : Int) (xs : List Int) : Ctr Tryd.prog 17 (dk n d a k w xs) [.ptr 0 ⟨.lit 0, 1, 0⟩] fun v H => v = .int .i64 (.sym w) ∧ H = dk n d a k w xs := by
  unfold dk
  obtain ⟨uI, uB, uS, uL, uT, hu⟩ := words
  have hm := mixed
  have hT := tabOk
  obtain ⟨P, hP⟩ : ∃ P, P = Tryd.prog := ⟨_, rfl⟩
  rw [← hP] at hm hT ⊢
  refine Ctr.weak (ctr_of_vc hu hm hT (hP ▸ Tryd.func17) rfl (by kernel_rfl) ?_)
  clear hP hm hT
  generalize hR : Weak _ _ = R
  conv => cbv
  repeat' (first | ((with_reducible intro (h : _ = _)); (try subst h); (try simp only [hu.b, hu.i, iB, iI, cmpB, Iv.val_sym, Iv.val_lit, Lv.raw, Tv.raw, decide_eq_true_eq, decide_eq_false_iff_not, beq_iff_eq, beq_eq_false_iff_ne, ne_eq, ofN, Int.toNat_zero, Int.toNat_one, Int.reduceToNat, natc, hu.s, iS, Sv.val_lit, Sv.val_sym, true_iff, false_iff, Bool.false_eq_true, bne_iff_ne, bne_eq_false_iff_eq, Bool.not_eq_true', Bool.not_eq_false', Decidable.not_not, nil_toList, ByteArray.size_empty, nilS, not_true_eq_false, not_false_eq_true, hu.l, iL, hu.t, iT, bin_add, bin_sub, bin_mul, wr_u8, wr_u16, wr_u32, wr_u64, IntKind.wrap_i64, List.length_append, List.length_cons, List.length_nil, List.nil_append, List.append_nil, List.cons_append, lvals, List.length_replicate, List.length_set, linV_val hu, Int.add_zero, Int.zero_add, Int.mul_one, Int.sub_zero, Int.zero_mul, Bool.true_eq_false, false_and, and_false, true_and, and_true] at h) <;> (try simp only [Int.ofNat_eq_natCast] at h) <;> (first | (have hF0 : False := by omega; exact hF0.elim) | (conv => cbv))) | (with_reducible refine And.intro ?_ ?_) | (refine Gen0.mk ?_; (conv => cbv)) | (simp only [hu.b, hu.i, iB, iI, cmpB, Iv.val_sym, Iv.val_lit, Lv.raw, Tv.raw, decide_eq_true_eq, decide_eq_false_iff_not, beq_iff_eq, beq_eq_false_iff_ne, ne_eq, ofN, Int.toNat_zero, Int.toNat_one, Int.reduceToNat, natc, hu.s, iS, Sv.val_lit, Sv.val_sym, true_iff, false_iff, Bool.false_eq_true, bne_iff_ne, bne_eq_false_iff_eq, Bool.not_eq_true', Bool.not_eq_false', Decidable.not_not, nil_toList, ByteArray.size_empty, nilS, not_true_eq_false, not_false_eq_true, hu.l, iL, hu.t, iT, bin_add, bin_sub, bin_mul, wr_u8, wr_u16, wr_u32, wr_u64, IntKind.wrap_i64, List.length_append, List.length_cons, List.length_nil, List.nil_append, List.append_nil, List.cons_append, lvals, List.length_replicate, List.length_set, linV_val hu, Int.add_zero, Int.zero_add, Int.mul_one, Int.sub_zero, Int.zero_mul, Bool.true_eq_false, false_and, and_false, true_and, and_true]; (try simp only [Int.ofNat_eq_natCast]); done) | ((try simp only [hu.b, hu.i, iB, iI, cmpB, Iv.val_sym, Iv.val_lit, Lv.raw, Tv.raw, decide_eq_true_eq, decide_eq_false_iff_not, beq_iff_eq, beq_eq_false_iff_ne, ne_eq, ofN, Int.toNat_zero, Int.toNat_one, Int.reduceToNat, natc, hu.s, iS, Sv.val_lit, Sv.val_sym, true_iff, false_iff, Bool.false_eq_true, bne_iff_ne, bne_eq_false_iff_eq, Bool.not_eq_true', Bool.not_eq_false', Decidable.not_not, nil_toList, ByteArray.size_empty, nilS, not_true_eq_false, not_false_eq_true, hu.l, iL, hu.t, iT, bin_add, bin_sub, bin_mul, wr_u8, wr_u16, wr_u32, wr_u64, IntKind.wrap_i64, List.length_append, List.length_cons, List.length_nil, List.nil_append, List.append_nil, List.cons_append, lvals, List.length_replicate, List.length_set, linV_val hu, Int.add_zero, Int.zero_add, Int.mul_one, Int.sub_zero, Int.zero_mul, Bool.true_eq_false, false_and, and_false, true_and, and_true]) <;> (try simp only [Int.ofNat_eq_natCast]) <;> omega))
  subst hR
  refine Weak.of (⟨rfl, rfl⟩) ?_ ?_ (by rfl)
  all_goals ((conv => cbv); repeat' (first | exact True.intro | with_reducible rfl | (with_reducible exact fun h => h) | (with_reducible refine And.intro ?_ ?_)))
theorem up_ctr (n : Int) (d : Bool) (a k w : Int) (xs : List Int) : Ctr Tryd.prog 14 (dk n d a k w xs) [.ptr 0 ⟨.lit 0, 1, 0⟩] fun v H => v = .tup [] ∧ H = dk n false 0 k w xs := by
  unfold dk
  obtain ⟨uI, uB, uS, uL, uT, hu⟩ := words
  have hm := mixed
  have hT := tabOk
  obtain ⟨P, hP⟩ : ∃ P, P = Tryd.prog := ⟨_, rfl⟩
  rw [← hP] at hm hT ⊢
  refine Ctr.weak (ctr_of_vc hu hm hT (hP ▸ Tryd.func14) rfl (by kernel_rfl) ?_)
  clear hP hm hT
  generalize hR : Weak _ _ = R
  conv => cbv
  repeat' (first | ((with_reducible intro (h : _ = _)); (try subst h); (try simp only [hu.b, hu.i, iB, iI, cmpB, Iv.val_sym, Iv.val_lit, Lv.raw, Tv.raw, decide_eq_true_eq, decide_eq_false_iff_not, beq_iff_eq, beq_eq_false_iff_ne, ne_eq, ofN, Int.toNat_zero, Int.toNat_one, Int.reduceToNat, natc, hu.s, iS, Sv.val_lit, Sv.val_sym, true_iff, false_iff, Bool.false_eq_true, bne_iff_ne, bne_eq_false_iff_eq, Bool.not_eq_true', Bool.not_eq_false', Decidable.not_not, nil_toList, ByteArray.size_empty, nilS, not_true_eq_false, not_false_eq_true, hu.l, iL, hu.t, iT, bin_add, bin_sub, bin_mul, wr_u8, wr_u16, wr_u32, wr_u64, IntKind.wrap_i64, List.length_append, List.length_cons, List.length_nil, List.nil_append, List.append_nil, List.cons_append, lvals, List.length_replicate, List.length_set, linV_val hu, Int.add_zero, Int.zero_add, Int.mul_one, Int.sub_zero, Int.zero_mul, Bool.true_eq_false, false_and, and_false, true_and, and_true] at h) <;> (try simp only [Int.ofNat_eq_natCast] at h) <;> (first | (have hF0 : False := by omega; exact hF0.elim) | (conv => cbv))) | (with_reducible refine And.intro ?_ ?_) | (refine Gen0.mk ?_; (conv => cbv)) | (simp only [hu.b, hu.i, iB, iI, cmpB, Iv.val_sym, Iv.val_lit, Lv.raw, Tv.raw, decide_eq_true_eq, decide_eq_false_iff_not, beq_iff_eq, beq_eq_false_iff_ne, ne_eq, ofN, Int.toNat_zero, Int.toNat_one, Int.reduceToNat, natc, hu.s, iS, Sv.val_lit, Sv.val_sym, true_iff, false_iff, Bool.false_eq_true, bne_iff_ne, bne_eq_false_iff_eq, Bool.not_eq_true', Bool.not_eq_false', Decidable.not_not, nil_toList, ByteArray.size_empty, nilS, not_true_eq_false, not_false_eq_true, hu.l, iL, hu.t, iT, bin_add, bin_sub, bin_mul, wr_u8, wr_u16, wr_u32, wr_u64, IntKind.wrap_i64, List.length_append, List.length_cons, List.length_nil, List.nil_append, List.append_nil, List.cons_append, lvals, List.length_replicate, List.length_set, linV_val hu, Int.add_zero, Int.zero_add, Int.mul_one, Int.sub_zero, Int.zero_mul, Bool.true_eq_false, false_and, and_false, true_and, and_true]; (try simp only [Int.ofNat_eq_natCast]); done) | ((try simp only [hu.b, hu.i, iB, iI, cmpB, Iv.val_sym, Iv.val_lit, Lv.raw, Tv.raw, decide_eq_true_eq, decide_eq_false_iff_not, beq_iff_eq, beq_eq_false_iff_ne, ne_eq, ofN, Int.toNat_zero, Int.toNat_one, Int.reduceToNat, natc, hu.s, iS, Sv.val_lit, Sv.val_sym, true_iff, false_iff, Bool.false_eq_true, bne_iff_ne, bne_eq_false_iff_eq, Bool.not_eq_true', Bool.not_eq_false', Decidable.not_not, nil_toList, ByteArray.size_empty, nilS, not_true_eq_false, not_false_eq_true, hu.l, iL, hu.t, iT, bin_add, bin_sub, bin_mul, wr_u8, wr_u16, wr_u32, wr_u64, IntKind.wrap_i64, List.length_append, List.length_cons, List.length_nil, List.nil_append, List.append_nil, List.cons_append, lvals, List.length_replicate, List.length_set, linV_val hu, Int.add_zero, Int.zero_add, Int.mul_one, Int.sub_zero, Int.zero_mul, Bool.true_eq_false, false_and, and_false, true_and, and_true]) <;> (try simp only [Int.ofNat_eq_natCast]) <;> omega))
  subst hR
  refine Weak.of (⟨rfl, rfl⟩) ?_ ?_ (by rfl)
  all_goals ((conv => cbv); repeat' (first | exact True.intro | with_reducible rfl | (with_reducible exact fun h => h) | (with_reducible refine And.intro ?_ ?_)))
/-- How armed, how much is kept. -/
def armOf (n : Int) : Int := if n > 0 then n else 0
def keepOf (n : Int) : Int := if n < 0 then 0 else if n > 32 then 32 else n
theorem arm_ctr (n : Int) (d : Bool) (a k w : Int) (xs : List Int) (m q : Int) : Ctr Tryd.prog 10 (dk n d a k w xs) [.ptr 0 ⟨.lit 0, 1, 0⟩, .int .i64 (.sym m), .int .i64 (.sym q)] fun v H => ∃ a' k', (a' = armOf m ∧ k' = keepOf q) ∧ v = .tup [] ∧ ((m < 1 ∧ H = dk n true a' k' w xs) ∨ (1 ≤ m ∧ H = dk n d a' k' w xs)) := by
  unfold dk
  obtain ⟨a', ea⟩ : ∃ x, x = armOf m := ⟨_, rfl⟩
  obtain ⟨k', ek⟩ : ∃ x, x = keepOf q := ⟨_, rfl⟩
  have fin : ∀ {uI : FI → Int} {uB uS uL uT} (hu : Std uI uB uS uL uT), uI (FI.mx (Iv.lit 0).val (Iv.sym m).val) = a' ∧ uI (FI.mn (Iv.sym (uI (FI.mx (Iv.sym q).val (Iv.lit 0).val))).val (Iv.lit 32).val) = k' := by
    intro uI uB uS uL uT hu
    simp only [hu.i, iI, Iv.val_sym, Iv.val_lit, ea, ek, armOf, keepOf]
    refine ⟨trivial, ?_⟩
    repeat' split
    all_goals omega
  obtain ⟨uI, uB, uS, uL, uT, hu⟩ := words
  have hm := mixed
  have hT := tabOk
  obtain ⟨P, hP⟩ : ∃ P, P = Tryd.prog := ⟨_, rfl⟩
  rw [← hP] at hm hT ⊢
  refine Ctr.weak (ctr_of_vc hu hm hT (hP ▸ Tryd.func10) rfl (by kernel_rfl) ?_)
  clear hP hm hT
  generalize hR : Weak _ _ = R
  conv => cbv
  repeat' (first | ((with_reducible intro (h : _ = _)); (try subst h); (try simp only [hu.b, hu.i, iB, iI, cmpB, Iv.val_sym, Iv.val_lit, Lv.raw, Tv.raw, decide_eq_true_eq, decide_eq_false_iff_not, beq_iff_eq, beq_eq_false_iff_ne, ne_eq, ofN, Int.toNat_zero, Int.toNat_one, Int.reduceToNat, natc, hu.s, iS, Sv.val_lit, Sv.val_sym, true_iff, false_iff, Bool.false_eq_true, bne_iff_ne, bne_eq_false_iff_eq, Bool.not_eq_true', Bool.not_eq_false', Decidable.not_not, nil_toList, ByteArray.size_empty, nilS, not_true_eq_false, not_false_eq_true, hu.l, iL, hu.t, iT, bin_add, bin_sub, bin_mul, wr_u8, wr_u16, wr_u32, wr_u64, IntKind.wrap_i64, List.length_append, List.length_cons, List.length_nil, List.nil_append, List.append_nil, List.cons_append, lvals, List.length_replicate, List.length_set, linV_val hu, Int.add_zero, Int.zero_add, Int.mul_one, Int.sub_zero, Int.zero_mul, Bool.true_eq_false, false_and, and_false, true_and, and_true] at h) <;> (try simp only [Int.ofNat_eq_natCast] at h) <;> (first | (have hF0 : False := by omega; exact hF0.elim) | (conv => cbv))) | (with_reducible refine And.intro ?_ ?_) | (refine Gen0.mk ?_; (conv => cbv)) | (simp only [hu.b, hu.i, iB, iI, cmpB, Iv.val_sym, Iv.val_lit, Lv.raw, Tv.raw, decide_eq_true_eq, decide_eq_false_iff_not, beq_iff_eq, beq_eq_false_iff_ne, ne_eq, ofN, Int.toNat_zero, Int.toNat_one, Int.reduceToNat, natc, hu.s, iS, Sv.val_lit, Sv.val_sym, true_iff, false_iff, Bool.false_eq_true, bne_iff_ne, bne_eq_false_iff_eq, Bool.not_eq_true', Bool.not_eq_false', Decidable.not_not, nil_toList, ByteArray.size_empty, nilS, not_true_eq_false, not_false_eq_true, hu.l, iL, hu.t, iT, bin_add, bin_sub, bin_mul, wr_u8, wr_u16, wr_u32, wr_u64, IntKind.wrap_i64, List.length_append, List.length_cons, List.length_nil, List.nil_append, List.append_nil, List.cons_append, lvals, List.length_replicate, List.length_set, linV_val hu, Int.add_zero, Int.zero_add, Int.mul_one, Int.sub_zero, Int.zero_mul, Bool.true_eq_false, false_and, and_false, true_and, and_true]; (try simp only [Int.ofNat_eq_natCast]); done) | ((try simp only [hu.b, hu.i, iB, iI, cmpB, Iv.val_sym, Iv.val_lit, Lv.raw, Tv.raw, decide_eq_true_eq, decide_eq_false_iff_not, beq_iff_eq, beq_eq_false_iff_ne, ne_eq, ofN, Int.toNat_zero, Int.toNat_one, Int.reduceToNat, natc, hu.s, iS, Sv.val_lit, Sv.val_sym, true_iff, false_iff, Bool.false_eq_true, bne_iff_ne, bne_eq_false_iff_eq, Bool.not_eq_true', Bool.not_eq_false', Decidable.not_not, nil_toList, ByteArray.size_empty, nilS, not_true_eq_false, not_false_eq_true, hu.l, iL, hu.t, iT, bin_add, bin_sub, bin_mul, wr_u8, wr_u16, wr_u32, wr_u64, IntKind.wrap_i64, List.length_append, List.length_cons, List.length_nil, List.nil_append, List.append_nil, List.cons_append, lvals, List.length_replicate, List.length_set, linV_val hu, Int.add_zero, Int.zero_add, Int.mul_one, Int.sub_zero, Int.zero_mul, Bool.true_eq_false, false_and, and_false, true_and, and_true]) <;> (try simp only [Int.ofNat_eq_natCast]) <;> omega))
  · by_cases hm : m < 1
    · subst hR
      refine Weak.of (⟨a', k', ⟨ea, ek⟩, rfl, .inl ⟨hm, rfl⟩⟩) ?_ ?_ (by rfl)
      all_goals ((conv => cbv); repeat' (first | exact True.intro | with_reducible rfl | (with_reducible exact fun h => h) | (with_reducible refine And.intro ?_ ?_)))
      · exact (fin hu).1
      · exact (fin hu).2
    · subst hR
      refine Weak.of (⟨a', k', ⟨ea, ek⟩, rfl, .inr ⟨by omega, rfl⟩⟩) ?_ ?_ (by rfl)
      all_goals ((conv => cbv); repeat' (first | exact True.intro | with_reducible rfl | (with_reducible exact fun h => h) | (with_reducible refine And.intro ?_ ?_)))
      · exact (fin hu).1
      · exact (fin hu).2
  · subst hR
    refine Weak.of (⟨a', k', ⟨ea, ek⟩, rfl, .inl ⟨by omega, rfl⟩⟩) ?_ ?_ (by rfl)
    all_goals ((conv => cbv); repeat' (first | exact True.intro | with_reducible rfl | (with_reducible exact fun h => h) | (with_reducible refine And.intro ?_ ?_)))
    · exact (fin hu).1
    · exact (fin hu).2
  · subst hR
    refine Weak.of (⟨a', k', ⟨ea, ek⟩, rfl, .inr ⟨by omega, rfl⟩⟩) ?_ ?_ (by rfl)
    all_goals ((conv => cbv); repeat' (first | exact True.intro | with_reducible rfl | (with_reducible exact fun h => h) | (with_reducible refine And.intro ?_ ?_)))
    · exact (fin hu).1
    · exact (fin hu).2
theorem read_ctr (n : Int) (d : Bool) (a k w : Int) (xs : List Int) (i : Int) (hl : (xs.length : Int) = n * 32) : Ctr Tryd.prog 15 (dk n d a k w xs) [.ptr 0 ⟨.lit 0, 1, 0⟩, .int .i64 (.sym i)] fun v H =>
    ∃ ys, ((d = true ∧ ys = List.replicate 32 0) ∧ v = .tup [.cols 32 [.ints .u8 (.sym ys)], .iface 53 (.int .i64 (.sym 14))] ∧ H = dk n true a k w xs) ∨ ((d = false ∧ (i < 0 ∨ n ≤ i) ∧ ys = List.replicate 32 0) ∧ v = .tup [.cols 32 [.ints .u8 (.sym ys)], .iface 53 (.int .i64 (.sym 8))] ∧ H = dk n false a k w xs) ∨
      ((d = false ∧ 0 ≤ i ∧ i < n ∧ ys = subL xs (i * 32) 32) ∧ v = .tup [.cols 32 [.ints .u8 (.sym ys)], .nilif] ∧ H = dk n false a k w xs) := by
  unfold dk
  obtain ⟨uI, uB, uS, uL, uT, hu⟩ := words
  have hm := mixed
  have hT := tabOk
  have hM := @may_ctr
  obtain ⟨P, hP⟩ : ∃ P, P = Tryd.prog := ⟨_, rfl⟩
  rw [← hP] at hm hT hM ⊢
  refine Ctr.weak (ctr_of_vc hu hm hT (hP ▸ Tryd.func15) rfl (by kernel_rfl) ?_)
  clear hP hm hT
  generalize hR : Weak _ _ = R
  conv => cbv
  repeat' (first | ((with_reducible intro (h : _ = _)); (try subst h); (try simp only [hu.b, hu.i, iB, iI, cmpB, Iv.val_sym, Iv.val_lit, Lv.raw, Tv.raw, decide_eq_true_eq, decide_eq_false_iff_not, beq_iff_eq, beq_eq_false_iff_ne, ne_eq, ofN, Int.toNat_zero, Int.toNat_one, Int.reduceToNat, natc, hu.s, iS, Sv.val_lit, Sv.val_sym, true_iff, false_iff, Bool.false_eq_true, bne_iff_ne, bne_eq_false_iff_eq, Bool.not_eq_true', Bool.not_eq_false', Decidable.not_not, nil_toList, ByteArray.size_empty, nilS, not_true_eq_false, not_false_eq_true, hu.l, iL, hu.t, iT, bin_add, bin_sub, bin_mul, wr_u8, wr_u16, wr_u32, wr_u64, IntKind.wrap_i64, List.length_append, List.length_cons, List.length_nil, List.nil_append, List.append_nil, List.cons_append, lvals, List.length_replicate, List.length_set, linV_val hu, Int.add_zero, Int.zero_add, Int.mul_one, Int.sub_zero, Int.zero_mul, Bool.true_eq_false, false_and, and_false, true_and, and_true] at h) <;> (try simp only [Int.ofNat_eq_natCast] at h) <;> (first | (have hF0 : False := by omega; exact hF0.elim) | (conv => cbv))) | (with_reducible refine And.intro ?_ ?_) | (refine CallVC.mk (Ctr.monoR ?_ (hM _ _ _ _ _ _ _)); ((rintro v H (⟨rfl, rfl, rfl⟩ | ⟨hd, rfl, rfl⟩ | ⟨hd, rfl, rfl⟩)) <;> (try simp only [hu.b, hu.i, iB, iI, cmpB, Iv.val_sym, Iv.val_lit, Lv.raw, Tv.raw, decide_eq_true_eq, decide_eq_false_iff_not, beq_iff_eq, beq_eq_false_iff_ne, ne_eq, ofN, Int.toNat_zero, Int.toNat_one, Int.reduceToNat, natc, hu.s, iS, Sv.val_lit, Sv.val_sym, true_iff, false_iff, Bool.false_eq_true, bne_iff_ne, bne_eq_false_iff_eq, Bool.not_eq_true', Bool.not_eq_false', Decidable.not_not, nil_toList, ByteArray.size_empty, nilS, not_true_eq_false, not_false_eq_true, hu.l, iL, hu.t, iT, bin_add, bin_sub, bin_mul, wr_u8, wr_u16, wr_u32, wr_u64, IntKind.wrap_i64, List.length_append, List.length_cons, List.length_nil, List.nil_append, List.append_nil, List.cons_append, lvals, List.length_replicate, List.length_set, linV_val hu, Int.add_zero, Int.zero_add, Int.mul_one, Int.sub_zero, Int.zero_mul, Bool.true_eq_false, false_and, and_false, true_and, and_true] at hd) <;> (try simp only [Int.ofNat_eq_natCast] at hd) <;> (try simp only [hu.b, hu.i, iB, iI, cmpB, Iv.val_sym, Iv.val_lit, Lv.raw, Tv.raw, decide_eq_true_eq, decide_eq_false_iff_not, beq_iff_eq, beq_eq_false_iff_ne, ne_eq, ofN, Int.toNat_zero, Int.toNat_one, Int.reduceToNat, natc, hu.s, iS, Sv.val_lit, Sv.val_sym, true_iff, false_iff, Bool.false_eq_true, bne_iff_ne, bne_eq_false_iff_eq, Bool.not_eq_true', Bool.not_eq_false', Decidable.not_not, nil_toList, ByteArray.size_empty, nilS, not_true_eq_false, not_false_eq_true, hu.l, iL, hu.t, iT, bin_add, bin_sub, bin_mul, wr_u8, wr_u16, wr_u32, wr_u64, IntKind.wrap_i64, List.length_append, List.length_cons, List.length_nil, List.nil_append, List.append_nil, List.cons_append, lvals, List.length_replicate, List.length_set, linV_val hu, Int.add_zero, Int.zero_add, Int.mul_one, Int.sub_zero, Int.zero_mul, Bool.true_eq_false, false_and, and_false, true_and, and_true] at hd) <;> (try simp only [Int.ofNat_eq_natCast] at hd) <;> (first | (have hF0 : False := by omega; exact hF0.elim) | (conv => cbv)))) | (refine Gen0.mk ?_; (conv => cbv)) | (simp only [hu.b, hu.i, iB, iI, cmpB, Iv.val_sym, Iv.val_lit, Lv.raw, Tv.raw, decide_eq_true_eq, decide_eq_false_iff_not, beq_iff_eq, beq_eq_false_iff_ne, ne_eq, ofN, Int.toNat_zero, Int.toNat_one, Int.reduceToNat, natc, hu.s, iS, Sv.val_lit, Sv.val_sym, true_iff, false_iff, Bool.false_eq_true, bne_iff_ne, bne_eq_false_iff_eq, Bool.not_eq_true', Bool.not_eq_false', Decidable.not_not, nil_toList, ByteArray.size_empty, nilS, not_true_eq_false, not_false_eq_true, hu.l, iL, hu.t, iT, bin_add, bin_sub, bin_mul, wr_u8, wr_u16, wr_u32, wr_u64, IntKind.wrap_i64, List.length_append, List.length_cons, List.length_nil, List.nil_append, List.append_nil, List.cons_append, lvals, List.length_replicate, List.length_set, linV_val hu, Int.add_zero, Int.zero_add, Int.mul_one, Int.sub_zero, Int.zero_mul, Bool.true_eq_false, false_and, and_false, true_and, and_true]; (try simp only [Int.ofNat_eq_natCast]); done) | ((try simp only [hu.b, hu.i, iB, iI, cmpB, Iv.val_sym, Iv.val_lit, Lv.raw, Tv.raw, decide_eq_true_eq, decide_eq_false_iff_not, beq_iff_eq, beq_eq_false_iff_ne, ne_eq, ofN, Int.toNat_zero, Int.toNat_one, Int.reduceToNat, natc, hu.s, iS, Sv.val_lit, Sv.val_sym, true_iff, false_iff, Bool.false_eq_true, bne_iff_ne, bne_eq_false_iff_eq, Bool.not_eq_true', Bool.not_eq_false', Decidable.not_not, nil_toList, ByteArray.size_empty, nilS, not_true_eq_false, not_false_eq_true, hu.l, iL, hu.t, iT, bin_add, bin_sub, bin_mul, wr_u8, wr_u16, wr_u32, wr_u64, IntKind.wrap_i64, List.length_append, List.length_cons, List.length_nil, List.nil_append, List.append_nil, List.cons_append, lvals, List.length_replicate, List.length_set, linV_val hu, Int.add_zero, Int.zero_add, Int.mul_one, Int.sub_zero, Int.zero_mul, Bool.true_eq_false, false_and, and_false, true_and, and_true]) <;> (try simp only [Int.ofNat_eq_natCast]) <;> omega))
  · obtain ⟨ys, ey⟩ : ∃ x : List Int, x = List.replicate 32 0 := ⟨_, rfl⟩
    subst hR
    refine Weak.of (⟨ys, .inl ⟨⟨rfl, ey⟩, rfl, rfl⟩⟩) ?_ ?_ (by rfl)
    all_goals ((conv => cbv); repeat' (first | exact True.intro | with_reducible rfl | (with_reducible exact fun h => h) | (with_reducible refine And.intro ?_ ?_)))
    exact ey.symm
  · obtain ⟨ys, ey⟩ : ∃ x : List Int, x = List.replicate 32 0 := ⟨_, rfl⟩
    subst hR
    refine Weak.of (⟨ys, .inr (.inl ⟨⟨hd.1, hd.2, ey⟩, rfl, rfl⟩)⟩) ?_ ?_ (by rfl)
    all_goals ((conv => cbv); repeat' (first | exact True.intro | with_reducible rfl | (with_reducible exact fun h => h) | (with_reducible refine And.intro ?_ ?_)))
    exact ey.symm
  · obtain ⟨ys, ey⟩ : ∃ x : List Int, x = subL xs (i * 32) 32 := ⟨_, rfl⟩
    subst hR
    refine Weak.of (⟨ys, .inr (.inr ⟨⟨hd.1, hd.2.1, hd.2.2, ey⟩, rfl, rfl⟩)⟩) ?_ ?_ (by rfl)
    all_goals ((conv => cbv); repeat' (first | exact True.intro | with_reducible rfl | (with_reducible exact fun h => h) | (with_reducible refine And.intro ?_ ?_)))
    rw [ey]
    ((try simp only [hu.b, hu.i, iB, iI, cmpB, Iv.val_sym, Iv.val_lit, Lv.raw, Tv.raw, decide_eq_true_eq, decide_eq_false_iff_not, beq_iff_eq, beq_eq_false_iff_ne, ne_eq, ofN, Int.toNat_zero, Int.toNat_one, Int.reduceToNat, natc, hu.s, iS, Sv.val_lit, Sv.val_sym, true_iff, false_iff, Bool.false_eq_true, bne_iff_ne, bne_eq_false_iff_eq, Bool.not_eq_true', Bool.not_eq_false', Decidable.not_not, nil_toList, ByteArray.size_empty, nilS, not_true_eq_false, not_false_eq_true, hu.l, iL, hu.t, iT, bin_add, bin_sub, bin_mul, wr_u8, wr_u16, wr_u32, wr_u64, IntKind.wrap_i64, List.length_append, List.length_cons, List.length_nil, List.nil_append, List.append_nil, List.cons_append, lvals, List.length_replicate, List.length_set, linV_val hu, Int.add_zero, Int.zero_add, Int.mul_one, Int.sub_zero, Int.zero_mul, Bool.true_eq_false, false_and, and_false, true_and, and_true]) <;> (try simp only [Int.ofNat_eq_natCast]) <;> (try omega))
theorem write_ctr (n : Int) (d : Bool) (a k w : Int) (xs : List Int) (i : Int) (bs : List Int) (hl : (xs.length : Int) = n * 32) (hb : bs.length = 32) (hk : 0 ≤ k ∧ k ≤ 32) : Ctr Tryd.prog 11 (dk n d a k w xs) [.ptr 0 ⟨.lit 0, 1, 0⟩, .int .i64 (.sym i), .cols 32 [.ints .u8 (.sym bs)]] fun v H =>
    (d = true ∧ v = .iface 53 (.int .i64 (.sym 14)) ∧ H = dk n true a k w xs) ∨ ((d = false ∧ (i < 0 ∨ n ≤ i)) ∧ v = .iface 53 (.int .i64 (.sym 8)) ∧ H = dk n false a k w xs) ∨
    (∃ w' ys, (d = false ∧ 0 ≤ i ∧ i < n ∧ a = 1 ∧ w' = (w + 1 + 9223372036854775808) % 18446744073709551616 - 9223372036854775808 ∧ ys = splL xs (i * 32) (bs.take k.toNat)) ∧ v = .iface 53 (.int .i64 (.sym 14)) ∧ H = dk n true 0 k w' ys) ∨
    (∃ a' w' ys, (d = false ∧ 0 ≤ i ∧ i < n ∧ a ≠ 1 ∧ a' = armOf ((a - 1 + 9223372036854775808) % 18446744073709551616 - 9223372036854775808) ∧ w' = (w + 1 + 9223372036854775808) % 18446744073709551616 - 9223372036854775808 ∧ ys = splL xs (i * 32) bs) ∧ v = .nilif ∧ H = dk n false a' k w' ys) := by
  unfold dk
  obtain ⟨uI, uB, uS, uL, uT, hu⟩ := words
  have hm := mixed
  have hT := tabOk
  have hM := @may_ctr
  obtain ⟨P, hP⟩ : ∃ P, P = Tryd.prog := ⟨_, rfl⟩
  rw [← hP] at hm hT hM ⊢
  refine Ctr.weak (ctr_of_vc hu hm hT (hP ▸ Tryd.func11) rfl (by kernel_rfl) ?_)
  clear hP hm hT
  generalize hR : Weak _ _ = R
  conv => cbv
  repeat' (first | ((with_reducible intro (h : _ = _)); (try subst h); (try simp only [hu.b, hu.i, iB, iI, cmpB, Iv.val_sym, Iv.val_lit, Lv.raw, Tv.raw, decide_eq_true_eq, decide_eq_false_iff_not, beq_iff_eq, beq_eq_false_iff_ne, ne_eq, ofN, Int.toNat_zero, Int.toNat_one, Int.reduceToNat, natc, hu.s, iS, Sv.val_lit, Sv.val_sym, true_iff, false_iff, Bool.false_eq_true, bne_iff_ne, bne_eq_false_iff_eq, Bool.not_eq_true', Bool.not_eq_false', Decidable.not_not, nil_toList, ByteArray.size_empty, nilS, not_true_eq_false, not_false_eq_true, hu.l, iL, hu.t, iT, bin_add, bin_sub, bin_mul, wr_u8, wr_u16, wr_u32, wr_u64, IntKind.wrap_i64, List.length_append, List.length_cons, List.length_nil, List.nil_append, List.append_nil, List.cons_append, lvals, List.length_replicate, List.length_set, linV_val hu, Int.add_zero, Int.zero_add, Int.mul_one, Int.sub_zero, Int.zero_mul, Bool.true_eq_false, false_and, and_false, true_and, and_true] at h) <;> (try simp only [Int.ofNat_eq_natCast] at h) <;> (first | (have hF0 : False := by omega; exact hF0.elim) | (conv => cbv))) | (with_reducible refine And.intro ?_ ?_) | (refine CallVC.mk (Ctr.monoR ?_ (hM _ _ _ _ _ _ _)); ((rintro v H (⟨rfl, rfl, rfl⟩ | ⟨hd, rfl, rfl⟩ | ⟨hd, rfl, rfl⟩)) <;> (try simp only [hu.b, hu.i, iB, iI, cmpB, Iv.val_sym, Iv.val_lit, Lv.raw, Tv.raw, decide_eq_true_eq, decide_eq_false_iff_not, beq_iff_eq, beq_eq_false_iff_ne, ne_eq, ofN, Int.toNat_zero, Int.toNat_one, Int.reduceToNat, natc, hu.s, iS, Sv.val_lit, Sv.val_sym, true_iff, false_iff, Bool.false_eq_true, bne_iff_ne, bne_eq_false_iff_eq, Bool.not_eq_true', Bool.not_eq_false', Decidable.not_not, nil_toList, ByteArray.size_empty, nilS, not_true_eq_false, not_false_eq_true, hu.l, iL, hu.t, iT, bin_add, bin_sub, bin_mul, wr_u8, wr_u16, wr_u32, wr_u64, IntKind.wrap_i64, List.length_append, List.length_cons, List.length_nil, List.nil_append, List.append_nil, List.cons_append, lvals, List.length_replicate, List.length_set, linV_val hu, Int.add_zero, Int.zero_add, Int.mul_one, Int.sub_zero, Int.zero_mul, Bool.true_eq_false, false_and, and_false, true_and, and_true] at hd) <;> (try simp only [Int.ofNat_eq_natCast] at hd) <;> (try simp only [hu.b, hu.i, iB, iI, cmpB, Iv.val_sym, Iv.val_lit, Lv.raw, Tv.raw, decide_eq_true_eq, decide_eq_false_iff_not, beq_iff_eq, beq_eq_false_iff_ne, ne_eq, ofN, Int.toNat_zero, Int.toNat_one, Int.reduceToNat, natc, hu.s, iS, Sv.val_lit, Sv.val_sym, true_iff, false_iff, Bool.false_eq_true, bne_iff_ne, bne_eq_false_iff_eq, Bool.not_eq_true', Bool.not_eq_false', Decidable.not_not, nil_toList, ByteArray.size_empty, nilS, not_true_eq_false, not_false_eq_true, hu.l, iL, hu.t, iT, bin_add, bin_sub, bin_mul, wr_u8, wr_u16, wr_u32, wr_u64, IntKind.wrap_i64, List.length_append, List.length_cons, List.length_nil, List.nil_append, List.append_nil, List.cons_append, lvals, List.length_replicate, List.length_set, linV_val hu, Int.add_zero, Int.zero_add, Int.mul_one, Int.sub_zero, Int.zero_mul, Bool.true_eq_false, false_and, and_false, true_and, and_true] at hd) <;> (try simp only [Int.ofNat_eq_natCast] at hd) <;> (first | (have hF0 : False := by omega; exact hF0.elim) | (conv => cbv)))) | (refine Gen0.mk ?_; (conv => cbv)) | (simp only [hu.b, hu.i, iB, iI, cmpB, Iv.val_sym, Iv.val_lit, Lv.raw, Tv.raw, decide_eq_true_eq, decide_eq_false_iff_not, beq_iff_eq, beq_eq_false_iff_ne, ne_eq, ofN, Int.toNat_zero, Int.toNat_one, Int.reduceToNat, natc, hu.s, iS, Sv.val_lit, Sv.val_sym, true_iff, false_iff, Bool.false_eq_true, bne_iff_ne, bne_eq_false_iff_eq, Bool.not_eq_true', Bool.not_eq_false', Decidable.not_not, nil_toList, ByteArray.size_empty, nilS, not_true_eq_false, not_false_eq_true, hu.l, iL, hu.t, iT, bin_add, bin_sub, bin_mul, wr_u8, wr_u16, wr_u32, wr_u64, IntKind.wrap_i64, List.length_append, List.length_cons, List.length_nil, List.nil_append, List.append_nil, List.cons_append, lvals, List.length_replicate, List.length_set, linV_val hu, Int.add_zero, Int.zero_add, Int.mul_one, Int.sub_zero, Int.zero_mul, Bool.true_eq_false, false_and, and_false, true_and, and_true]; (try simp only [Int.ofNat_eq_natCast]); done) | ((try simp only [hu.b, hu.i, iB, iI, cmpB, Iv.val_sym, Iv.val_lit, Lv.raw, Tv.raw, decide_eq_true_eq, decide_eq_false_iff_not, beq_iff_eq, beq_eq_false_iff_ne, ne_eq, ofN, Int.toNat_zero, Int.toNat_one, Int.reduceToNat, natc, hu.s, iS, Sv.val_lit, Sv.val_sym, true_iff, false_iff, Bool.false_eq_true, bne_iff_ne, bne_eq_false_iff_eq, Bool.not_eq_true', Bool.not_eq_false', Decidable.not_not, nil_toList, ByteArray.size_empty, nilS, not_true_eq_false, not_false_eq_true, hu.l, iL, hu.t, iT, bin_add, bin_sub, bin_mul, wr_u8, wr_u16, wr_u32, wr_u64, IntKind.wrap_i64, List.length_append, List.length_cons, List.length_nil, List.nil_append, List.append_nil, List.cons_append, lvals, List.length_replicate, List.length_set, linV_val hu, Int.add_zero, Int.zero_add, Int.mul_one, Int.sub_zero, Int.zero_mul, Bool.true_eq_false, false_and, and_false, true_and, and_true]) <;> (try simp only [Int.ofNat_eq_natCast]) <;> omega))
  · subst hR
    refine Weak.of (.inl ⟨rfl, rfl, rfl⟩) ?_ ?_ (by rfl)
    all_goals ((conv => cbv); repeat' (first | exact True.intro | with_reducible rfl | (with_reducible exact fun h => h) | (with_reducible refine And.intro ?_ ?_)))
  · subst hR
    refine Weak.of (.inr (.inl ⟨hd, rfl, rfl⟩)) ?_ ?_ (by rfl)
    all_goals ((conv => cbv); repeat' (first | exact True.intro | with_reducible rfl | (with_reducible exact fun h => h) | (with_reducible refine And.intro ?_ ?_)))
  · obtain ⟨ys, ey⟩ : ∃ x : List Int, x = splL xs (i * 32) (bs.take k.toNat) := ⟨_, rfl⟩
    obtain ⟨w', ew⟩ : ∃ x : Int, x = (w + 1 + 9223372036854775808) % 18446744073709551616 - 9223372036854775808 := ⟨_, rfl⟩
    subst hR
    refine Weak.of (.inr (.inr (.inl ⟨w', ys, ⟨hd.1, hd.2.1, hd.2.2, by assumption, ew, ey⟩, rfl, rfl⟩))) ?_ ?_ (by rfl)
    all_goals ((conv => cbv); repeat' (first | exact True.intro | with_reducible rfl | (with_reducible exact fun h => h) | (with_reducible refine And.intro ?_ ?_)))
    · rw [ew]
      ((try simp only [hu.b, hu.i, iB, iI, cmpB, Iv.val_sym, Iv.val_lit, Lv.raw, Tv.raw, decide_eq_true_eq, decide_eq_false_iff_not, beq_iff_eq, beq_eq_false_iff_ne, ne_eq, ofN, Int.toNat_zero, Int.toNat_one, Int.reduceToNat, natc, hu.s, iS, Sv.val_lit, Sv.val_sym, true_iff, false_iff, Bool.false_eq_true, bne_iff_ne, bne_eq_false_iff_eq, Bool.not_eq_true', Bool.not_eq_false', Decidable.not_not, nil_toList, ByteArray.size_empty, nilS, not_true_eq_false, not_false_eq_true, hu.l, iL, hu.t, iT, bin_add, bin_sub, bin_mul, wr_u8, wr_u16, wr_u32, wr_u64, IntKind.wrap_i64, List.length_append, List.length_cons, List.length_nil, List.nil_append, List.append_nil, List.cons_append, lvals, List.length_replicate, List.length_set, linV_val hu, Int.add_zero, Int.zero_add, Int.mul_one, Int.sub_zero, Int.zero_mul, Bool.true_eq_false, false_and, and_false, true_and, and_true]) <;> (try simp only [Int.ofNat_eq_natCast]) <;> (try omega))
    · rw [ey]
      have e1 : subL bs 0 32 = bs := subL_all bs 32 (by omega)
      ((try simp only [hu.b, hu.i, iB, iI, cmpB, Iv.val_sym, Iv.val_lit, Lv.raw, Tv.raw, decide_eq_true_eq, decide_eq_false_iff_not, beq_iff_eq, beq_eq_false_iff_ne, ne_eq, ofN, Int.toNat_zero, Int.toNat_one, Int.reduceToNat, natc, hu.s, iS, Sv.val_lit, Sv.val_sym, true_iff, false_iff, Bool.false_eq_true, bne_iff_ne, bne_eq_false_iff_eq, Bool.not_eq_true', Bool.not_eq_false', Decidable.not_not, nil_toList, ByteArray.size_empty, nilS, not_true_eq_false, not_false_eq_true, hu.l, iL, hu.t, iT, bin_add, bin_sub, bin_mul, wr_u8, wr_u16, wr_u32, wr_u64, IntKind.wrap_i64, List.length_append, List.length_cons, List.length_nil, List.nil_append, List.append_nil, List.cons_append, lvals, List.length_replicate, List.length_set, linV_val hu, Int.add_zero, Int.zero_add, Int.mul_one, Int.sub_zero, Int.zero_mul, Bool.true_eq_false, false_and, and_false, true_and, and_true, e1]) <;> (try simp only [Int.ofNat_eq_natCast]) <;> (try omega))
      rw [if_neg (by omega)]
      rfl
  · obtain ⟨ys, ey⟩ : ∃ x : List Int, x = splL xs (i * 32) bs := ⟨_, rfl⟩
    obtain ⟨w', ew⟩ : ∃ x : Int, x = (w + 1 + 9223372036854775808) % 18446744073709551616 - 9223372036854775808 := ⟨_, rfl⟩
    obtain ⟨a', ea⟩ : ∃ x : Int, x = armOf ((a - 1 + 9223372036854775808) % 18446744073709551616 - 9223372036854775808) := ⟨_, rfl⟩
    subst hR
    refine Weak.of (.inr (.inr (.inr ⟨a', w', ys, ⟨hd.1, hd.2.1, hd.2.2, by assumption, ea, ew, ey⟩, rfl, rfl⟩))) ?_ ?_ (by rfl)
    all_goals ((conv => cbv); repeat' (first | exact True.intro | with_reducible rfl | (with_reducible exact fun h => h) | (with_reducible refine And.intro ?_ ?_)))
    · rw [ea]
      ((try simp only [hu.b, hu.i, iB, iI, cmpB, Iv.val_sym, Iv.val_lit, Lv.raw, Tv.raw, decide_eq_true_eq, decide_eq_false_iff_not, beq_iff_eq, beq_eq_false_iff_ne, ne_eq, ofN, Int.toNat_zero, Int.toNat_one, Int.reduceToNat, natc, hu.s, iS, Sv.val_lit, Sv.val_sym, true_iff, false_iff, Bool.false_eq_true, bne_iff_ne, bne_eq_false_iff_eq, Bool.not_eq_true', Bool.not_eq_false', Decidable.not_not, nil_toList, ByteArray.size_empty, nilS, not_true_eq_false, not_false_eq_true, hu.l, iL, hu.t, iT, bin_add, bin_sub, bin_mul, wr_u8, wr_u16, wr_u32, wr_u64, IntKind.wrap_i64, List.length_append, List.length_cons, List.length_nil, List.nil_append, List.append_nil, List.cons_append, lvals, List.length_replicate, List.length_set, linV_val hu, Int.add_zero, Int.zero_add, Int.mul_one, Int.sub_zero, Int.zero_mul, Bool.true_eq_false, false_and, and_false, true_and, and_true]) <;> (try simp only [Int.ofNat_eq_natCast]) <;> (try omega))
      rfl
    · rw [ew]
      ((try simp only [hu.b, hu.i, iB, iI, cmpB, Iv.val_sym, Iv.val_lit, Lv.raw, Tv.raw, decide_eq_true_eq, decide_eq_false_iff_not, beq_iff_eq, beq_eq_false_iff_ne, ne_eq, ofN, Int.toNat_zero, Int.toNat_one, Int.reduceToNat, natc, hu.s, iS, Sv.val_lit, Sv.val_sym, true_iff, false_iff, Bool.false_eq_true, bne_iff_ne, bne_eq_false_iff_eq, Bool.not_eq_true', Bool.not_eq_false', Decidable.not_not, nil_toList, ByteArray.size_empty, nilS, not_true_eq_false, not_false_eq_true, hu.l, iL, hu.t, iT, bin_add, bin_sub, bin_mul, wr_u8, wr_u16, wr_u32, wr_u64, IntKind.wrap_i64, List.length_append, List.length_cons, List.length_nil, List.nil_append, List.append_nil, List.cons_append, lvals, List.length_replicate, List.length_set, linV_val hu, Int.add_zero, Int.zero_add, Int.mul_one, Int.sub_zero, Int.zero_mul, Bool.true_eq_false, false_and, and_false, true_and, and_true]) <;> (try simp only [Int.ofNat_eq_natCast]) <;> (try omega))
    · rw [ey]
      ((try simp only [hu.b, hu.i, iB, iI, cmpB, Iv.val_sym, Iv.val_lit, Lv.raw, Tv.raw, decide_eq_true_eq, decide_eq_false_iff_not, beq_iff_eq, beq_eq_false_iff_ne, ne_eq, ofN, Int.toNat_zero, Int.toNat_one, Int.reduceToNat, natc, hu.s, iS, Sv.val_lit, Sv.val_sym, true_iff, false_iff, Bool.false_eq_true, bne_iff_ne, bne_eq_false_iff_eq, Bool.not_eq_true', Bool.not_eq_false', Decidable.not_not, nil_toList, ByteArray.size_empty, nilS, not_true_eq_false, not_false_eq_true, hu.l, iL, hu.t, iT, bin_add, bin_sub, bin_mul, wr_u8, wr_u16, wr_u32, wr_u64, IntKind.wrap_i64, List.length_append, List.length_cons, List.length_nil, List.nil_append, List.append_nil, List.cons_append, lvals, List.length_replicate, List.length_set, linV_val hu, Int.add_zero, Int.zero_add, Int.mul_one, Int.sub_zero, Int.zero_mul, Bool.true_eq_false, false_and, and_false, true_and, and_true]) <;> (try simp only [Int.ofNat_eq_natCast]) <;> (try omega))
end Go.Proofs.YtidcdmlgojdglaaDoor
namespace Go.Proofs.YtidcdmlgojdglaaDoor
open Go Sx
set_option maxRecDepth 100000
set_option maxHeartbeats 4000000
/-- A sector of a byte. -/
def onesL (c : Int) : List Int := List.replicate 32 c
theorem ones_ctr (c : Int) : Ctr Tryd.prog 12 [] [.int .u8 (.sym c)] fun v H => ∃ ys, (ys = onesL c ∧ ys.length = 32) ∧ v = .cols 32 [.ints .u8 (.sym ys)] ∧ H = [] := by
  obtain ⟨z, ez⟩ : ∃ z : List Int, z = List.replicate 32 0 := ⟨_, rfl⟩
  obtain ⟨uI, uB, uS, uL, uT, hu⟩ := words
  have hm := mixed
  have hT := tabOk
  obtain ⟨P, hP⟩ : ∃ P, P = Tryd.prog := ⟨_, rfl⟩
  rw [← hP] at hm hT ⊢
  refine Ctr.weak (ctr_of_vc hu hm hT (hP ▸ Tryd.func12) rfl (by kernel_rfl) ?_)
  clear hP hm hT
  generalize hR : Weak _ _ = R
  conv => cbv
  repeat' (first | ((with_reducible intro (h : _ = _)); (try subst h); (try simp only [hu.b, hu.i, iB, iI, cmpB, Iv.val_sym, Iv.val_lit, Lv.raw, Tv.raw, decide_eq_true_eq, decide_eq_false_iff_not, beq_iff_eq, beq_eq_false_iff_ne, ne_eq, ofN, Int.toNat_zero, Int.toNat_one, Int.reduceToNat, natc, hu.s, iS, Sv.val_lit, Sv.val_sym, true_iff, false_iff, Bool.false_eq_true, bne_iff_ne, bne_eq_false_iff_eq, Bool.not_eq_true', Bool.not_eq_false', Decidable.not_not, nil_toList, ByteArray.size_empty, nilS, not_true_eq_false, not_false_eq_true, hu.l, iL, hu.t, iT, bin_add, bin_sub, bin_mul, wr_u8, wr_u16, wr_u32, wr_u64, IntKind.wrap_i64, List.length_append, List.length_cons, List.length_nil, List.nil_append, List.append_nil, List.cons_append, lvals, List.length_replicate, List.length_set, linV_val hu, Int.add_zero, Int.zero_add, Int.mul_one, Int.sub_zero, Int.zero_mul, Bool.true_eq_false, false_and, and_false, true_and, and_true] at h) <;> (try simp only [Int.ofNat_eq_natCast] at h) <;> (first | (have hF0 : False := by omega; exact hF0.elim) | (conv => cbv))) | (with_reducible refine And.intro ?_ ?_) | (refine Gen0.mk ?_; (conv => cbv)) | (simp only [hu.b, hu.i, iB, iI, cmpB, Iv.val_sym, Iv.val_lit, Lv.raw, Tv.raw, decide_eq_true_eq, decide_eq_false_iff_not, beq_iff_eq, beq_eq_false_iff_ne, ne_eq, ofN, Int.toNat_zero, Int.toNat_one, Int.reduceToNat, natc, hu.s, iS, Sv.val_lit, Sv.val_sym, true_iff, false_iff, Bool.false_eq_true, bne_iff_ne, bne_eq_false_iff_eq, Bool.not_eq_true', Bool.not_eq_false', Decidable.not_not, nil_toList, ByteArray.size_empty, nilS, not_true_eq_false, not_false_eq_true, hu.l, iL, hu.t, iT, bin_add, bin_sub, bin_mul, wr_u8, wr_u16, wr_u32, wr_u64, IntKind.wrap_i64, List.length_append, List.length_cons, List.length_nil, List.nil_append, List.append_nil, List.cons_append, lvals, List.length_replicate, List.length_set, linV_val hu, Int.add_zero, Int.zero_add, Int.mul_one, Int.sub_zero, Int.zero_mul, Bool.true_eq_false, false_and, and_false, true_and, and_true]; (try simp only [Int.ofNat_eq_natCast]); done) | ((try simp only [hu.b, hu.i, iB, iI, cmpB, Iv.val_sym, Iv.val_lit, Lv.raw, Tv.raw, decide_eq_true_eq, decide_eq_false_iff_not, beq_iff_eq, beq_eq_false_iff_ne, ne_eq, ofN, Int.toNat_zero, Int.toNat_one, Int.reduceToNat, natc, hu.s, iS, Sv.val_lit, Sv.val_sym, true_iff, false_iff, Bool.false_eq_true, bne_iff_ne, bne_eq_false_iff_eq, Bool.not_eq_true', Bool.not_eq_false', Decidable.not_not, nil_toList, ByteArray.size_empty, nilS, not_true_eq_false, not_false_eq_true, hu.l, iL, hu.t, iT, bin_add, bin_sub, bin_mul, wr_u8, wr_u16, wr_u32, wr_u64, IntKind.wrap_i64, List.length_append, List.length_cons, List.length_nil, List.nil_append, List.append_nil, List.cons_append, lvals, List.length_replicate, List.length_set, linV_val hu, Int.add_zero, Int.zero_add, Int.mul_one, Int.sub_zero, Int.zero_mul, Bool.true_eq_false, false_and, and_false, true_and, and_true]) <;> (try simp only [Int.ofNat_eq_natCast]) <;> omega))
  refine .inv (Int × List Int) [4] (fun g => ([.int .i64 (.sym g.1)], [.cols .var 31 [.ints .u8 (.sym z)], .cols .var 31 [.ints .u8 (.sym g.2)]])) (fun g => 0 ≤ g.1 ∧ g.1 ≤ 32 ∧ g.2.length = 32 ∧ ∀ k : Nat, k < g.1 → g.2.getD k 0 = c) (fun g => (32 - g.1).toNat) (0, z) (by kernel_rfl) (fun g hg => by kernel_rfl) ?_ ?_
  · refine ⟨⟨by dsimp only; omega, by dsimp only; omega, by dsimp only; rw [ez]; rfl, fun k hk => by dsimp only at hk; omega⟩, ?_, ?_⟩
    all_goals
      ((conv => cbv); repeat' (first | exact True.intro | with_reducible rfl | (with_reducible exact fun h => h) | (with_reducible refine And.intro ?_ ?_)))
    all_goals exact ez.symm
  rintro ⟨i, ys⟩ hq
  simp only [] at hq
  have q0 := hq.1; have q1 := hq.2.1; have q2 := hq.2.2.1; have q3 := hq.2.2.2
  clear hq
  conv => cbv
  repeat' (first | ((with_reducible intro (h : _ = _)); (try subst h); (try simp only [hu.b, hu.i, iB, iI, cmpB, Iv.val_sym, Iv.val_lit, Lv.raw, Tv.raw, decide_eq_true_eq, decide_eq_false_iff_not, beq_iff_eq, beq_eq_false_iff_ne, ne_eq, ofN, Int.toNat_zero, Int.toNat_one, Int.reduceToNat, natc, hu.s, iS, Sv.val_lit, Sv.val_sym, true_iff, false_iff, Bool.false_eq_true, bne_iff_ne, bne_eq_false_iff_eq, Bool.not_eq_true', Bool.not_eq_false', Decidable.not_not, nil_toList, ByteArray.size_empty, nilS, not_true_eq_false, not_false_eq_true, hu.l, iL, hu.t, iT, bin_add, bin_sub, bin_mul, wr_u8, wr_u16, wr_u32, wr_u64, IntKind.wrap_i64, List.length_append, List.length_cons, List.length_nil, List.nil_append, List.append_nil, List.cons_append, lvals, List.length_replicate, List.length_set, linV_val hu, Int.add_zero, Int.zero_add, Int.mul_one, Int.sub_zero, Int.zero_mul, Bool.true_eq_false, false_and, and_false, true_and, and_true] at h) <;> (try simp only [Int.ofNat_eq_natCast] at h) <;> (first | (have hF0 : False := by omega; exact hF0.elim) | (conv => cbv))) | (with_reducible refine And.intro ?_ ?_) | (refine Gen0.mk ?_; (conv => cbv)) | (simp only [hu.b, hu.i, iB, iI, cmpB, Iv.val_sym, Iv.val_lit, Lv.raw, Tv.raw, decide_eq_true_eq, decide_eq_false_iff_not, beq_iff_eq, beq_eq_false_iff_ne, ne_eq, ofN, Int.toNat_zero, Int.toNat_one, Int.reduceToNat, natc, hu.s, iS, Sv.val_lit, Sv.val_sym, true_iff, false_iff, Bool.false_eq_true, bne_iff_ne, bne_eq_false_iff_eq, Bool.not_eq_true', Bool.not_eq_false', Decidable.not_not, nil_toList, ByteArray.size_empty, nilS, not_true_eq_false, not_false_eq_true, hu.l, iL, hu.t, iT, bin_add, bin_sub, bin_mul, wr_u8, wr_u16, wr_u32, wr_u64, IntKind.wrap_i64, List.length_append, List.length_cons, List.length_nil, List.nil_append, List.append_nil, List.cons_append, lvals, List.length_replicate, List.length_set, linV_val hu, Int.add_zero, Int.zero_add, Int.mul_one, Int.sub_zero, Int.zero_mul, Bool.true_eq_false, false_and, and_false, true_and, and_true]; (try simp only [Int.ofNat_eq_natCast]); done) | ((try simp only [hu.b, hu.i, iB, iI, cmpB, Iv.val_sym, Iv.val_lit, Lv.raw, Tv.raw, decide_eq_true_eq, decide_eq_false_iff_not, beq_iff_eq, beq_eq_false_iff_ne, ne_eq, ofN, Int.toNat_zero, Int.toNat_one, Int.reduceToNat, natc, hu.s, iS, Sv.val_lit, Sv.val_sym, true_iff, false_iff, Bool.false_eq_true, bne_iff_ne, bne_eq_false_iff_eq, Bool.not_eq_true', Bool.not_eq_false', Decidable.not_not, nil_toList, ByteArray.size_empty, nilS, not_true_eq_false, not_false_eq_true, hu.l, iL, hu.t, iT, bin_add, bin_sub, bin_mul, wr_u8, wr_u16, wr_u32, wr_u64, IntKind.wrap_i64, List.length_append, List.length_cons, List.length_nil, List.nil_append, List.append_nil, List.cons_append, lvals, List.length_replicate, List.length_set, linV_val hu, Int.add_zero, Int.zero_add, Int.mul_one, Int.sub_zero, Int.zero_mul, Bool.true_eq_false, false_and, and_false, true_and, and_true]) <;> (try simp only [Int.ofNat_eq_natCast]) <;> omega))
  · obtain ⟨i', ei⟩ : ∃ x, x = i + 1 := ⟨_, rfl⟩
    obtain ⟨zs, ey⟩ : ∃ x, x = ys.set i.toNat c := ⟨_, rfl⟩
    refine ⟨(i', zs), ⟨by dsimp only; omega, by dsimp only; omega, by dsimp only; rw [ey, List.length_set]; exact q2, ?_⟩, by dsimp only; omega, ?_, ?_⟩
    · intro k hk
      have hk : (k : Int) < i' := hk
      dsimp only
      rw [ey, getD_set (by omega)]
      split
      · rfl
      · exact q3 k (by omega)
    all_goals
      ((conv => cbv); repeat' (first | exact True.intro | with_reducible rfl | (with_reducible exact fun h => h) | (with_reducible refine And.intro ?_ ?_)))
    · ((try simp only [hu.b, hu.i, iB, iI, cmpB, Iv.val_sym, Iv.val_lit, Lv.raw, Tv.raw, decide_eq_true_eq, decide_eq_false_iff_not, beq_iff_eq, beq_eq_false_iff_ne, ne_eq, ofN, Int.toNat_zero, Int.toNat_one, Int.reduceToNat, natc, hu.s, iS, Sv.val_lit, Sv.val_sym, true_iff, false_iff, Bool.false_eq_true, bne_iff_ne, bne_eq_false_iff_eq, Bool.not_eq_true', Bool.not_eq_false', Decidable.not_not, nil_toList, ByteArray.size_empty, nilS, not_true_eq_false, not_false_eq_true, hu.l, iL, hu.t, iT, bin_add, bin_sub, bin_mul, wr_u8, wr_u16, wr_u32, wr_u64, IntKind.wrap_i64, List.length_append, List.length_cons, List.length_nil, List.nil_append, List.append_nil, List.cons_append, lvals, List.length_replicate, List.length_set, linV_val hu, Int.add_zero, Int.zero_add, Int.mul_one, Int.sub_zero, Int.zero_mul, Bool.true_eq_false, false_and, and_false, true_and, and_true]) <;> (try simp only [Int.ofNat_eq_natCast]) <;> (try omega))
    · rw [ey]
      ((try simp only [hu.b, hu.i, iB, iI, cmpB, Iv.val_sym, Iv.val_lit, Lv.raw, Tv.raw, decide_eq_true_eq, decide_eq_false_iff_not, beq_iff_eq, beq_eq_false_iff_ne, ne_eq, ofN, Int.toNat_zero, Int.toNat_one, Int.reduceToNat, natc, hu.s, iS, Sv.val_lit, Sv.val_sym, true_iff, false_iff, Bool.false_eq_true, bne_iff_ne, bne_eq_false_iff_eq, Bool.not_eq_true', Bool.not_eq_false', Decidable.not_not, nil_toList, ByteArray.size_empty, nilS, not_true_eq_false, not_false_eq_true, hu.l, iL, hu.t, iT, bin_add, bin_sub, bin_mul, wr_u8, wr_u16, wr_u32, wr_u64, IntKind.wrap_i64, List.length_append, List.length_cons, List.length_nil, List.nil_append, List.append_nil, List.cons_append, lvals, List.length_replicate, List.length_set, linV_val hu, Int.add_zero, Int.zero_add, Int.mul_one, Int.sub_zero, Int.zero_mul, Bool.true_eq_false, false_and, and_false, true_and, and_true]) <;> (try simp only [Int.ofNat_eq_natCast]) <;> (try omega))
  · have e : ys = onesL c := list_eq_of_get (by simp [onesL, q2]) fun k hk => by
      rw [q3 k (by omega)]
      rw [onesL, List.getD_eq_getElem?_getD, List.getElem?_replicate, if_pos (by omega)]
      rfl
    subst hR
    refine Weak.of (⟨ys, ⟨e, q2⟩, rfl, rfl⟩) ?_ ?_ (by rfl)
    all_goals ((conv => cbv); repeat' (first | exact True.intro | with_reducible rfl | (with_reducible exact fun h => h) | (with_reducible refine And.intro ?_ ?_)))
theorem rnew_ctr (n : Int) (h : 1 ≤ n ∧ n ≤ 256) : Ctr Tryd.prog 20 [] [.int .i64 (.sym n)] fun v H => ∃ xs, xs = zer n ∧ v = .agg [.vec 0 (.sym n), .bool false, .int .i64 (.sym 0), .int .i64 (.sym 0), .int .i64 (.sym 0)] ∧ H = [.cols (.row 32) 31 [.ints .u8 (.sym xs)]] := by
  obtain ⟨uI, uB, uS, uL, uT, hu⟩ := words
  have hm := mixed
  have hT := tabOk
  obtain ⟨P, hP⟩ : ∃ P, P = Tryd.prog := ⟨_, rfl⟩
  rw [← hP] at hm hT ⊢
  refine Ctr.weak (ctr_of_vc hu hm hT (hP ▸ Tryd.func20) rfl (by kernel_rfl) ?_)
  clear hP hm hT
  generalize hR : Weak _ _ = R
  conv => cbv
  repeat' (first | ((with_reducible intro (h : _ = _)); (try subst h); (try simp only [hu.b, hu.i, iB, iI, cmpB, Iv.val_sym, Iv.val_lit, Lv.raw, Tv.raw, decide_eq_true_eq, decide_eq_false_iff_not, beq_iff_eq, beq_eq_false_iff_ne, ne_eq, ofN, Int.toNat_zero, Int.toNat_one, Int.reduceToNat, natc, hu.s, iS, Sv.val_lit, Sv.val_sym, true_iff, false_iff, Bool.false_eq_true, bne_iff_ne, bne_eq_false_iff_eq, Bool.not_eq_true', Bool.not_eq_false', Decidable.not_not, nil_toList, ByteArray.size_empty, nilS, not_true_eq_false, not_false_eq_true, hu.l, iL, hu.t, iT, bin_add, bin_sub, bin_mul, wr_u8, wr_u16, wr_u32, wr_u64, IntKind.wrap_i64, List.length_append, List.length_cons, List.length_nil, List.nil_append, List.append_nil, List.cons_append, lvals, List.length_replicate, List.length_set, linV_val hu, Int.add_zero, Int.zero_add, Int.mul_one, Int.sub_zero, Int.zero_mul, Bool.true_eq_false, false_and, and_false, true_and, and_true] at h) <;> (try simp only [Int.ofNat_eq_natCast] at h) <;> (first | (have hF0 : False := by omega; exact hF0.elim) | (conv => cbv))) | (with_reducible refine And.intro ?_ ?_) | (refine Gen0.mk ?_; (conv => cbv)) | (simp only [hu.b, hu.i, iB, iI, cmpB, Iv.val_sym, Iv.val_lit, Lv.raw, Tv.raw, decide_eq_true_eq, decide_eq_false_iff_not, beq_iff_eq, beq_eq_false_iff_ne, ne_eq, ofN, Int.toNat_zero, Int.toNat_one, Int.reduceToNat, natc, hu.s, iS, Sv.val_lit, Sv.val_sym, true_iff, false_iff, Bool.false_eq_true, bne_iff_ne, bne_eq_false_iff_eq, Bool.not_eq_true', Bool.not_eq_false', Decidable.not_not, nil_toList, ByteArray.size_empty, nilS, not_true_eq_false, not_false_eq_true, hu.l, iL, hu.t, iT, bin_add, bin_sub, bin_mul, wr_u8, wr_u16, wr_u32, wr_u64, IntKind.wrap_i64, List.length_append, List.length_cons, List.length_nil, List.nil_append, List.append_nil, List.cons_append, lvals, List.length_replicate, List.length_set, linV_val hu, Int.add_zero, Int.zero_add, Int.mul_one, Int.sub_zero, Int.zero_mul, Bool.true_eq_false, false_and, and_false, true_and, and_true]; (try simp only [Int.ofNat_eq_natCast]); done) | ((try simp only [hu.b, hu.i, iB, iI, cmpB, Iv.val_sym, Iv.val_lit, Lv.raw, Tv.raw, decide_eq_true_eq, decide_eq_false_iff_not, beq_iff_eq, beq_eq_false_iff_ne, ne_eq, ofN, Int.toNat_zero, Int.toNat_one, Int.reduceToNat, natc, hu.s, iS, Sv.val_lit, Sv.val_sym, true_iff, false_iff, Bool.false_eq_true, bne_iff_ne, bne_eq_false_iff_eq, Bool.not_eq_true', Bool.not_eq_false', Decidable.not_not, nil_toList, ByteArray.size_empty, nilS, not_true_eq_false, not_false_eq_true, hu.l, iL, hu.t, iT, bin_add, bin_sub, bin_mul, wr_u8, wr_u16, wr_u32, wr_u64, IntKind.wrap_i64, List.length_append, List.length_cons, List.length_nil, List.nil_append, List.append_nil, List.cons_append, lvals, List.length_replicate, List.length_set, linV_val hu, Int.add_zero, Int.zero_add, Int.mul_one, Int.sub_zero, Int.zero_mul, Bool.true_eq_false, false_and, and_false, true_and, and_true]) <;> (try simp only [Int.ofNat_eq_natCast]) <;> omega))
  obtain ⟨xs, ex⟩ : ∃ xs, xs = zer n := ⟨_, rfl⟩
  subst hR
  refine Weak.of (⟨xs, ex, rfl, rfl⟩) ?_ ?_ (by rfl)
  all_goals ((conv => cbv); repeat' (first | exact True.intro | with_reducible rfl | (with_reducible exact fun h => h) | (with_reducible refine And.intro ?_ ?_)))
  rw [ex, hu.l]
  simp only [iL, linV_val hu, zer, Iv.val_sym, Iv.val_lit, Int.add_zero]
  rfl
theorem rarm_ctr (n : Int) (d : Bool) (a k w : Int) (xs : List Int) (m q : Int) : Ctr Tryd.prog 21 [.cols (.row 32) 31 [.ints .u8 (.sym xs)]] [.agg [.vec 0 (.sym n), .sbool d, .int .i64 (.sym a), .int .i64 (.sym k), .int .i64 (.sym w)], .int .i64 (.sym m), .int .i64 (.sym q)] fun v H =>
    ∃ a' k', (a' = armOf m ∧ k' = keepOf q) ∧ ((m < 1 ∧ v = .agg [.vec 0 (.sym n), .sbool true, .int .i64 (.sym a'), .int .i64 (.sym k'), .int .i64 (.sym w)]) ∨ (1 ≤ m ∧ v = .agg [.vec 0 (.sym n), .sbool d, .int .i64 (.sym a'), .int .i64 (.sym k'), .int .i64 (.sym w)])) ∧ H = [.cols (.row 32) 31 [.ints .u8 (.sym xs)]] := by
  obtain ⟨a', ea⟩ : ∃ x, x = armOf m := ⟨_, rfl⟩
  obtain ⟨k', ek⟩ : ∃ x, x = keepOf q := ⟨_, rfl⟩
  obtain ⟨uI, uB, uS, uL, uT, hu⟩ := words
  have hm := mixed
  have hT := tabOk
  obtain ⟨P, hP⟩ : ∃ P, P = Tryd.prog := ⟨_, rfl⟩
  rw [← hP] at hm hT ⊢
  refine Ctr.weak (ctr_of_vc hu hm hT (hP ▸ Tryd.func21) rfl (by kernel_rfl) ?_)
  clear hP hm hT
  generalize hR : Weak _ _ = R
  conv => cbv
  repeat' (first | ((with_reducible intro (h : _ = _)); (try subst h); (try simp only [hu.b, hu.i, iB, iI, cmpB, Iv.val_sym, Iv.val_lit, Lv.raw, Tv.raw, decide_eq_true_eq, decide_eq_false_iff_not, beq_iff_eq, beq_eq_false_iff_ne, ne_eq, ofN, Int.toNat_zero, Int.toNat_one, Int.reduceToNat, natc, hu.s, iS, Sv.val_lit, Sv.val_sym, true_iff, false_iff, Bool.false_eq_true, bne_iff_ne, bne_eq_false_iff_eq, Bool.not_eq_true', Bool.not_eq_false', Decidable.not_not, nil_toList, ByteArray.size_empty, nilS, not_true_eq_false, not_false_eq_true, hu.l, iL, hu.t, iT, bin_add, bin_sub, bin_mul, wr_u8, wr_u16, wr_u32, wr_u64, IntKind.wrap_i64, List.length_append, List.length_cons, List.length_nil, List.nil_append, List.append_nil, List.cons_append, lvals, List.length_replicate, List.length_set, linV_val hu, Int.add_zero, Int.zero_add, Int.mul_one, Int.sub_zero, Int.zero_mul, Bool.true_eq_false, false_and, and_false, true_and, and_true] at h) <;> (try simp only [Int.ofNat_eq_natCast] at h) <;> (first | (have hF0 : False := by omega; exact hF0.elim) | (conv => cbv))) | (with_reducible refine And.intro ?_ ?_) | (refine Gen0.mk ?_; (conv => cbv)) | (simp only [hu.b, hu.i, iB, iI, cmpB, Iv.val_sym, Iv.val_lit, Lv.raw, Tv.raw, decide_eq_true_eq, decide_eq_false_iff_not, beq_iff_eq, beq_eq_false_iff_ne, ne_eq, ofN, Int.toNat_zero, Int.toNat_one, Int.reduceToNat, natc, hu.s, iS, Sv.val_lit, Sv.val_sym, true_iff, false_iff, Bool.false_eq_true, bne_iff_ne, bne_eq_false_iff_eq, Bool.not_eq_true', Bool.not_eq_false', Decidable.not_not, nil_toList, ByteArray.size_empty, nilS, not_true_eq_false, not_false_eq_true, hu.l, iL, hu.t, iT, bin_add, bin_sub, bin_mul, wr_u8, wr_u16, wr_u32, wr_u64, IntKind.wrap_i64, List.length_append, List.length_cons, List.length_nil, List.nil_append, List.append_nil, List.cons_append, lvals, List.length_replicate, List.length_set, linV_val hu, Int.add_zero, Int.zero_add, Int.mul_one, Int.sub_zero, Int.zero_mul, Bool.true_eq_false, false_and, and_false, true_and, and_true]; (try simp only [Int.ofNat_eq_natCast]); done) | ((try simp only [hu.b, hu.i, iB, iI, cmpB, Iv.val_sym, Iv.val_lit, Lv.raw, Tv.raw, decide_eq_true_eq, decide_eq_false_iff_not, beq_iff_eq, beq_eq_false_iff_ne, ne_eq, ofN, Int.toNat_zero, Int.toNat_one, Int.reduceToNat, natc, hu.s, iS, Sv.val_lit, Sv.val_sym, true_iff, false_iff, Bool.false_eq_true, bne_iff_ne, bne_eq_false_iff_eq, Bool.not_eq_true', Bool.not_eq_false', Decidable.not_not, nil_toList, ByteArray.size_empty, nilS, not_true_eq_false, not_false_eq_true, hu.l, iL, hu.t, iT, bin_add, bin_sub, bin_mul, wr_u8, wr_u16, wr_u32, wr_u64, IntKind.wrap_i64, List.length_append, List.length_cons, List.length_nil, List.nil_append, List.append_nil, List.cons_append, lvals, List.length_replicate, List.length_set, linV_val hu, Int.add_zero, Int.zero_add, Int.mul_one, Int.sub_zero, Int.zero_mul, Bool.true_eq_false, false_and, and_false, true_and, and_true]) <;> (try simp only [Int.ofNat_eq_natCast]) <;> omega))
  · subst hR
    refine Weak.of (⟨a', k', ⟨ea, ek⟩, .inl ⟨by omega, rfl⟩, rfl⟩) ?_ ?_ (by rfl)
    all_goals ((conv => cbv); repeat' (first | exact True.intro | with_reducible rfl | (with_reducible exact fun h => h) | (with_reducible refine And.intro ?_ ?_)))
    all_goals (simp only [ea, ek, armOf, keepOf]; repeat' split; all_goals omega)
  · subst hR
    refine Weak.of (⟨a', k', ⟨ea, ek⟩, .inl ⟨by omega, rfl⟩, rfl⟩) ?_ ?_ (by rfl)
    all_goals ((conv => cbv); repeat' (first | exact True.intro | with_reducible rfl | (with_reducible exact fun h => h) | (with_reducible refine And.intro ?_ ?_)))
    all_goals (simp only [ea, ek, armOf, keepOf]; repeat' split; all_goals omega)
  · subst hR
    refine Weak.of (⟨a', k', ⟨ea, ek⟩, .inl ⟨by omega, rfl⟩, rfl⟩) ?_ ?_ (by rfl)
    all_goals ((conv => cbv); repeat' (first | exact True.intro | with_reducible rfl | (with_reducible exact fun h => h) | (with_reducible refine And.intro ?_ ?_)))
    all_goals (simp only [ea, ek, armOf, keepOf]; repeat' split; all_goals omega)
  · subst hR
    refine Weak.of (⟨a', k', ⟨ea, ek⟩, .inr ⟨by omega, rfl⟩, rfl⟩) ?_ ?_ (by rfl)
    all_goals ((conv => cbv); repeat' (first | exact True.intro | with_reducible rfl | (with_reducible exact fun h => h) | (with_reducible refine And.intro ?_ ?_)))
    all_goals (simp only [ea, ek, armOf, keepOf]; repeat' split; all_goals omega)
  · subst hR
    refine Weak.of (⟨a', k', ⟨ea, ek⟩, .inr ⟨by omega, rfl⟩, rfl⟩) ?_ ?_ (by rfl)
    all_goals ((conv => cbv); repeat' (first | exact True.intro | with_reducible rfl | (with_reducible exact fun h => h) | (with_reducible refine And.intro ?_ ?_)))
    all_goals (simp only [ea, ek, armOf, keepOf]; repeat' split; all_goals omega)
  · subst hR
    refine Weak.of (⟨a', k', ⟨ea, ek⟩, .inr ⟨by omega, rfl⟩, rfl⟩) ?_ ?_ (by rfl)
    all_goals ((conv => cbv); repeat' (first | exact True.intro | with_reducible rfl | (with_reducible exact fun h => h) | (with_reducible refine And.intro ?_ ?_)))
    all_goals (simp only [ea, ek, armOf, keepOf]; repeat' split; all_goals omega)
theorem rwrite_ctr (n : Int) (d : Bool) (a k w : Int) (xs : List Int) (i : Int) (bs : List Int) (hl : (xs.length : Int) = n * 32) (hn : n ≤ 256) (hb : bs.length = 32) (hk : 0 ≤ k ∧ k ≤ 32) (ha : 0 ≤ a ∧ a ≤ 9223372036854775807) : Ctr Tryd.prog 22 [.cols (.row 32) 31 [.ints .u8 (.sym xs)]] [.agg [.vec 0 (.sym n), .sbool d, .int .i64 (.sym a), .int .i64 (.sym k), .int .i64 (.sym w)], .int .i64 (.sym i), .cols 32 [.ints .u8 (.sym bs)]] fun v H =>
    (d = true ∧ v = .tup [.agg [.vec 0 (.sym n), .sbool true, .int .i64 (.sym a), .int .i64 (.sym k), .int .i64 (.sym w)], .int .i64 (.sym 14)] ∧ H = [.cols (.row 32) 31 [.ints .u8 (.sym xs)]]) ∨
    ((d = false ∧ (i < 0 ∨ n ≤ i)) ∧ v = .tup [.agg [.vec 0 (.sym n), .sbool false, .int .i64 (.sym a), .int .i64 (.sym k), .int .i64 (.sym w)], .int .i64 (.sym 8)] ∧ H = [.cols (.row 32) 31 [.ints .u8 (.sym xs)]]) ∨
    (∃ w' ys, (d = false ∧ 0 ≤ i ∧ i < n ∧ a = 1 ∧ w' = (w + 1 + 9223372036854775808) % 18446744073709551616 - 9223372036854775808 ∧ ys = splL xs (i * 32) (bs.take k.toNat)) ∧ v = .tup [.agg [.vec 1 (.sym n), .sbool true, .int .i64 (.sym 0), .int .i64 (.sym k), .int .i64 (.sym w')], .int .i64 (.sym 14)] ∧ H = [.cols (.row 32) 31 [.ints .u8 (.sym xs)], .cols (.row 32) 31 [.ints .u8 (.sym ys)]]) ∨
    (∃ a' w' ys, (d = false ∧ 0 ≤ i ∧ i < n ∧ a ≠ 1 ∧ a' = armOf ((a - 1 + 9223372036854775808) % 18446744073709551616 - 9223372036854775808) ∧ w' = (w + 1 + 9223372036854775808) % 18446744073709551616 - 9223372036854775808 ∧ ys = splL xs (i * 32) bs) ∧ v = .tup [.agg [.vec 1 (.sym n), .sbool false, .int .i64 (.sym a'), .int .i64 (.sym k), .int .i64 (.sym w')], .int .i64 (.sym 0)] ∧ H = [.cols (.row 32) 31 [.ints .u8 (.sym xs)], .cols (.row 32) 31 [.ints .u8 (.sym ys)]]) := by
  obtain ⟨w', ew⟩ : ∃ x : Int, x = (w + 1 + 9223372036854775808) % 18446744073709551616 - 9223372036854775808 := ⟨_, rfl⟩
  obtain ⟨a', ea⟩ : ∃ x : Int, x = armOf ((a - 1 + 9223372036854775808) % 18446744073709551616 - 9223372036854775808) := ⟨_, rfl⟩
  have ha' : a' = if 0 < a then (if a = 1 then 0 else a - 1) else 0 := by rw [ea]; simp only [armOf]; repeat' split; all_goals omega
  obtain ⟨uI, uB, uS, uL, uT, hu⟩ := words
  have hm := mixed
  have hT := tabOk
  obtain ⟨P, hP⟩ : ∃ P, P = Tryd.prog := ⟨_, rfl⟩
  rw [← hP] at hm hT ⊢
  refine Ctr.weak (ctr_of_vc hu hm hT (hP ▸ Tryd.func22) rfl (by kernel_rfl) ?_)
  clear hP hm hT
  generalize hR : Weak _ _ = R
  conv => cbv
  repeat' (first | ((with_reducible intro (h : _ = _)); (try subst h); (try simp only [hu.b, hu.i, iB, iI, cmpB, Iv.val_sym, Iv.val_lit, Lv.raw, Tv.raw, decide_eq_true_eq, decide_eq_false_iff_not, beq_iff_eq, beq_eq_false_iff_ne, ne_eq, ofN, Int.toNat_zero, Int.toNat_one, Int.reduceToNat, natc, hu.s, iS, Sv.val_lit, Sv.val_sym, true_iff, false_iff, Bool.false_eq_true, bne_iff_ne, bne_eq_false_iff_eq, Bool.not_eq_true', Bool.not_eq_false', Decidable.not_not, nil_toList, ByteArray.size_empty, nilS, not_true_eq_false, not_false_eq_true, hu.l, iL, hu.t, iT, bin_add, bin_sub, bin_mul, wr_u8, wr_u16, wr_u32, wr_u64, IntKind.wrap_i64, List.length_append, List.length_cons, List.length_nil, List.nil_append, List.append_nil, List.cons_append, lvals, List.length_replicate, List.length_set, linV_val hu, Int.add_zero, Int.zero_add, Int.mul_one, Int.sub_zero, Int.zero_mul, Bool.true_eq_false, false_and, and_false, true_and, and_true] at h) <;> (try simp only [Int.ofNat_eq_natCast] at h) <;> (first | (have hF0 : False := by omega; exact hF0.elim) | (conv => cbv))) | (with_reducible refine And.intro ?_ ?_) | (refine Gen0.mk ?_; (conv => cbv)) | (simp only [hu.b, hu.i, iB, iI, cmpB, Iv.val_sym, Iv.val_lit, Lv.raw, Tv.raw, decide_eq_true_eq, decide_eq_false_iff_not, beq_iff_eq, beq_eq_false_iff_ne, ne_eq, ofN, Int.toNat_zero, Int.toNat_one, Int.reduceToNat, natc, hu.s, iS, Sv.val_lit, Sv.val_sym, true_iff, false_iff, Bool.false_eq_true, bne_iff_ne, bne_eq_false_iff_eq, Bool.not_eq_true', Bool.not_eq_false', Decidable.not_not, nil_toList, ByteArray.size_empty, nilS, not_true_eq_false, not_false_eq_true, hu.l, iL, hu.t, iT, bin_add, bin_sub, bin_mul, wr_u8, wr_u16, wr_u32, wr_u64, IntKind.wrap_i64, List.length_append, List.length_cons, List.length_nil, List.nil_append, List.append_nil, List.cons_append, lvals, List.length_replicate, List.length_set, linV_val hu, Int.add_zero, Int.zero_add, Int.mul_one, Int.sub_zero, Int.zero_mul, Bool.true_eq_false, false_and, and_false, true_and, and_true]; (try simp only [Int.ofNat_eq_natCast]); done) | ((try simp only [hu.b, hu.i, iB, iI, cmpB, Iv.val_sym, Iv.val_lit, Lv.raw, Tv.raw, decide_eq_true_eq, decide_eq_false_iff_not, beq_iff_eq, beq_eq_false_iff_ne, ne_eq, ofN, Int.toNat_zero, Int.toNat_one, Int.reduceToNat, natc, hu.s, iS, Sv.val_lit, Sv.val_sym, true_iff, false_iff, Bool.false_eq_true, bne_iff_ne, bne_eq_false_iff_eq, Bool.not_eq_true', Bool.not_eq_false', Decidable.not_not, nil_toList, ByteArray.size_empty, nilS, not_true_eq_false, not_false_eq_true, hu.l, iL, hu.t, iT, bin_add, bin_sub, bin_mul, wr_u8, wr_u16, wr_u32, wr_u64, IntKind.wrap_i64, List.length_append, List.length_cons, List.length_nil, List.nil_append, List.append_nil, List.cons_append, lvals, List.length_replicate, List.length_set, linV_val hu, Int.add_zero, Int.zero_add, Int.mul_one, Int.sub_zero, Int.zero_mul, Bool.true_eq_false, false_and, and_false, true_and, and_true]) <;> (try simp only [Int.ofNat_eq_natCast]) <;> omega))
  · subst hR
    refine Weak.of (.inl ⟨rfl, rfl, rfl⟩) ?_ ?_ (by rfl)
    all_goals ((conv => cbv); repeat' (first | exact True.intro | with_reducible rfl | (with_reducible exact fun h => h) | (with_reducible refine And.intro ?_ ?_)))
  · subst hR
    refine Weak.of (.inr (.inl ⟨⟨rfl, by omega⟩, rfl, rfl⟩)) ?_ ?_ (by rfl)
    all_goals ((conv => cbv); repeat' (first | exact True.intro | with_reducible rfl | (with_reducible exact fun h => h) | (with_reducible refine And.intro ?_ ?_)))
  · subst hR
    refine Weak.of (.inr (.inl ⟨⟨rfl, by omega⟩, rfl, rfl⟩)) ?_ ?_ (by rfl)
    all_goals ((conv => cbv); repeat' (first | exact True.intro | with_reducible rfl | (with_reducible exact fun h => h) | (with_reducible refine And.intro ?_ ?_)))
  · refine .inv (Int × List Int) [9] (fun g => ([.int .i64 (.sym g.1)], [.cols (.row 32) 31 [.ints .u8 (.sym xs)], .cells 46 [.vec 5 (.sym n), .sbool false, .int .i64 (.sym a), .int .i64 (.sym k), .int .i64 (.sym w')], .cols .var 31 [.ints .u8 (.sym bs)], .cells 46 [.nilsl, .bool false, .int .i64 (.lit 0), .int .i64 (.lit 0), .int .i64 (.lit 0)], .dead, .cols (.row 32) 31 [.ints .u8 (.sym g.2)]])) (fun g => 0 ≤ g.1 ∧ g.1 ≤ k ∧ (g.2.length : Int) = n * 32 ∧ g.2 = splL xs (i * 32) (bs.take g.1.toNat)) (fun g => (k - g.1).toNat) (0, xs) (by kernel_rfl) (fun g hg => by kernel_rfl) ?_ ?_
    · refine ⟨⟨by dsimp only; omega, by dsimp only; omega, hl, ?_⟩, ?_, ?_⟩
      · simp [splL]
      all_goals
        ((conv => cbv); repeat' (first | exact True.intro | with_reducible rfl | (with_reducible exact fun h => h) | (with_reducible refine And.intro ?_ ?_)))
      · rw [ew]
        ((try simp only [hu.b, hu.i, iB, iI, cmpB, Iv.val_sym, Iv.val_lit, Lv.raw, Tv.raw, decide_eq_true_eq, decide_eq_false_iff_not, beq_iff_eq, beq_eq_false_iff_ne, ne_eq, ofN, Int.toNat_zero, Int.toNat_one, Int.reduceToNat, natc, hu.s, iS, Sv.val_lit, Sv.val_sym, true_iff, false_iff, Bool.false_eq_true, bne_iff_ne, bne_eq_false_iff_eq, Bool.not_eq_true', Bool.not_eq_false', Decidable.not_not, nil_toList, ByteArray.size_empty, nilS, not_true_eq_false, not_false_eq_true, hu.l, iL, hu.t, iT, bin_add, bin_sub, bin_mul, wr_u8, wr_u16, wr_u32, wr_u64, IntKind.wrap_i64, List.length_append, List.length_cons, List.length_nil, List.nil_append, List.append_nil, List.cons_append, lvals, List.length_replicate, List.length_set, linV_val hu, Int.add_zero, Int.zero_add, Int.mul_one, Int.sub_zero, Int.zero_mul, Bool.true_eq_false, false_and, and_false, true_and, and_true]) <;> (try simp only [Int.ofNat_eq_natCast]) <;> (try omega))
      · ((try simp only [hu.b, hu.i, iB, iI, cmpB, Iv.val_sym, Iv.val_lit, Lv.raw, Tv.raw, decide_eq_true_eq, decide_eq_false_iff_not, beq_iff_eq, beq_eq_false_iff_ne, ne_eq, ofN, Int.toNat_zero, Int.toNat_one, Int.reduceToNat, natc, hu.s, iS, Sv.val_lit, Sv.val_sym, true_iff, false_iff, Bool.false_eq_true, bne_iff_ne, bne_eq_false_iff_eq, Bool.not_eq_true', Bool.not_eq_false', Decidable.not_not, nil_toList, ByteArray.size_empty, nilS, not_true_eq_false, not_false_eq_true, hu.l, iL, hu.t, iT, bin_add, bin_sub, bin_mul, wr_u8, wr_u16, wr_u32, wr_u64, IntKind.wrap_i64, List.length_append, List.length_cons, List.length_nil, List.nil_append, List.append_nil, List.cons_append, lvals, List.length_replicate, List.length_set, linV_val hu, Int.add_zero, Int.zero_add, Int.mul_one, Int.sub_zero, Int.zero_mul, Bool.true_eq_false, false_and, and_false, true_and, and_true]) <;> (try simp only [Int.ofNat_eq_natCast]) <;> (try omega))
    rintro ⟨q, zs⟩ hq
    simp only [] at hq
    have q0 := hq.1; have q1 := hq.2.1; have q2 := hq.2.2.1; have q3 := hq.2.2.2
    clear hq
    conv => cbv
    repeat' (first | ((with_reducible intro (h : _ = _)); (try subst h); (try simp only [hu.b, hu.i, iB, iI, cmpB, Iv.val_sym, Iv.val_lit, Lv.raw, Tv.raw, decide_eq_true_eq, decide_eq_false_iff_not, beq_iff_eq, beq_eq_false_iff_ne, ne_eq, ofN, Int.toNat_zero, Int.toNat_one, Int.reduceToNat, natc, hu.s, iS, Sv.val_lit, Sv.val_sym, true_iff, false_iff, Bool.false_eq_true, bne_iff_ne, bne_eq_false_iff_eq, Bool.not_eq_true', Bool.not_eq_false', Decidable.not_not, nil_toList, ByteArray.size_empty, nilS, not_true_eq_false, not_false_eq_true, hu.l, iL, hu.t, iT, bin_add, bin_sub, bin_mul, wr_u8, wr_u16, wr_u32, wr_u64, IntKind.wrap_i64, List.length_append, List.length_cons, List.length_nil, List.nil_append, List.append_nil, List.cons_append, lvals, List.length_replicate, List.length_set, linV_val hu, Int.add_zero, Int.zero_add, Int.mul_one, Int.sub_zero, Int.zero_mul, Bool.true_eq_false, false_and, and_false, true_and, and_true] at h) <;> (try simp only [Int.ofNat_eq_natCast] at h) <;> (first | (have hF0 : False := by omega; exact hF0.elim) | (conv => cbv))) | (with_reducible refine And.intro ?_ ?_) | (refine Gen0.mk ?_; (conv => cbv)) | (simp only [hu.b, hu.i, iB, iI, cmpB, Iv.val_sym, Iv.val_lit, Lv.raw, Tv.raw, decide_eq_true_eq, decide_eq_false_iff_not, beq_iff_eq, beq_eq_false_iff_ne, ne_eq, ofN, Int.toNat_zero, Int.toNat_one, Int.reduceToNat, natc, hu.s, iS, Sv.val_lit, Sv.val_sym, true_iff, false_iff, Bool.false_eq_true, bne_iff_ne, bne_eq_false_iff_eq, Bool.not_eq_true', Bool.not_eq_false', Decidable.not_not, nil_toList, ByteArray.size_empty, nilS, not_true_eq_false, not_false_eq_true, hu.l, iL, hu.t, iT, bin_add, bin_sub, bin_mul, wr_u8, wr_u16, wr_u32, wr_u64, IntKind.wrap_i64, List.length_append, List.length_cons, List.length_nil, List.nil_append, List.append_nil, List.cons_append, lvals, List.length_replicate, List.length_set, linV_val hu, Int.add_zero, Int.zero_add, Int.mul_one, Int.sub_zero, Int.zero_mul, Bool.true_eq_false, false_and, and_false, true_and, and_true]; (try simp only [Int.ofNat_eq_natCast]); done) | ((try simp only [hu.b, hu.i, iB, iI, cmpB, Iv.val_sym, Iv.val_lit, Lv.raw, Tv.raw, decide_eq_true_eq, decide_eq_false_iff_not, beq_iff_eq, beq_eq_false_iff_ne, ne_eq, ofN, Int.toNat_zero, Int.toNat_one, Int.reduceToNat, natc, hu.s, iS, Sv.val_lit, Sv.val_sym, true_iff, false_iff, Bool.false_eq_true, bne_iff_ne, bne_eq_false_iff_eq, Bool.not_eq_true', Bool.not_eq_false', Decidable.not_not, nil_toList, ByteArray.size_empty, nilS, not_true_eq_false, not_false_eq_true, hu.l, iL, hu.t, iT, bin_add, bin_sub, bin_mul, wr_u8, wr_u16, wr_u32, wr_u64, IntKind.wrap_i64, List.length_append, List.length_cons, List.length_nil, List.nil_append, List.append_nil, List.cons_append, lvals, List.length_replicate, List.length_set, linV_val hu, Int.add_zero, Int.zero_add, Int.mul_one, Int.sub_zero, Int.zero_mul, Bool.true_eq_false, false_and, and_false, true_and, and_true]) <;> (try simp only [Int.ofNat_eq_natCast]) <;> omega))
    · obtain ⟨q', eq'⟩ : ∃ x, x = q + 1 := ⟨_, rfl⟩
      obtain ⟨ys, ey⟩ : ∃ x, x = zs.set (i * 32 + q).toNat (bs.getD q.toNat 0) := ⟨_, rfl⟩
      refine ⟨(q', ys), ⟨by dsimp only; omega, by dsimp only; omega, by dsimp only; rw [ey, List.length_set]; exact q2, ?_⟩, by dsimp only; omega, ?_, ?_⟩
      · dsimp only
        rw [ey, q3, eq', spl_next (by omega) q0 (by omega) (by omega)]
      all_goals
        ((conv => cbv); repeat' (first | exact True.intro | with_reducible rfl | (with_reducible exact fun h => h) | (with_reducible refine And.intro ?_ ?_)))
      · ((try simp only [hu.b, hu.i, iB, iI, cmpB, Iv.val_sym, Iv.val_lit, Lv.raw, Tv.raw, decide_eq_true_eq, decide_eq_false_iff_not, beq_iff_eq, beq_eq_false_iff_ne, ne_eq, ofN, Int.toNat_zero, Int.toNat_one, Int.reduceToNat, natc, hu.s, iS, Sv.val_lit, Sv.val_sym, true_iff, false_iff, Bool.false_eq_true, bne_iff_ne, bne_eq_false_iff_eq, Bool.not_eq_true', Bool.not_eq_false', Decidable.not_not, nil_toList, ByteArray.size_empty, nilS, not_true_eq_false, not_false_eq_true, hu.l, iL, hu.t, iT, bin_add, bin_sub, bin_mul, wr_u8, wr_u16, wr_u32, wr_u64, IntKind.wrap_i64, List.length_append, List.length_cons, List.length_nil, List.nil_append, List.append_nil, List.cons_append, lvals, List.length_replicate, List.length_set, linV_val hu, Int.add_zero, Int.zero_add, Int.mul_one, Int.sub_zero, Int.zero_mul, Bool.true_eq_false, false_and, and_false, true_and, and_true]) <;> (try simp only [Int.ofNat_eq_natCast]) <;> (try omega))
      · rw [ey]
        ((try simp only [hu.b, hu.i, iB, iI, cmpB, Iv.val_sym, Iv.val_lit, Lv.raw, Tv.raw, decide_eq_true_eq, decide_eq_false_iff_not, beq_iff_eq, beq_eq_false_iff_ne, ne_eq, ofN, Int.toNat_zero, Int.toNat_one, Int.reduceToNat, natc, hu.s, iS, Sv.val_lit, Sv.val_sym, true_iff, false_iff, Bool.false_eq_true, bne_iff_ne, bne_eq_false_iff_eq, Bool.not_eq_true', Bool.not_eq_false', Decidable.not_not, nil_toList, ByteArray.size_empty, nilS, not_true_eq_false, not_false_eq_true, hu.l, iL, hu.t, iT, bin_add, bin_sub, bin_mul, wr_u8, wr_u16, wr_u32, wr_u64, IntKind.wrap_i64, List.length_append, List.length_cons, List.length_nil, List.nil_append, List.append_nil, List.cons_append, lvals, List.length_replicate, List.length_set, linV_val hu, Int.add_zero, Int.zero_add, Int.mul_one, Int.sub_zero, Int.zero_mul, Bool.true_eq_false, false_and, and_false, true_and, and_true]) <;> (try simp only [Int.ofNat_eq_natCast]) <;> (try omega))
        rw [Int.add_comm]
    · subst hR
      refine Weak.of (.inr (.inr (.inl ⟨w', zs, ⟨rfl, by omega, by omega, by assumption, ew, by rw [q3, show q = k by omega]⟩, rfl, rfl⟩))) ?_ ?_ (by rfl)
      all_goals ((conv => cbv); repeat' (first | exact True.intro | with_reducible rfl | (with_reducible exact fun h => h) | (with_reducible refine And.intro ?_ ?_)))
  · obtain ⟨ys, ey⟩ : ∃ x : List Int, x = splL xs (i * 32) bs := ⟨_, rfl⟩
    subst hR
    refine Weak.of (.inr (.inr (.inr ⟨a', w', ys, ⟨rfl, by omega, by omega, by assumption, ea, ew, ey⟩, rfl, rfl⟩))) ?_ ?_ (by rfl)
    all_goals ((conv => cbv); repeat' (first | exact True.intro | with_reducible rfl | (with_reducible exact fun h => h) | (with_reducible refine And.intro ?_ ?_)))
    · rw [ha', if_pos (by omega), if_neg (by assumption)]
      ((try simp only [hu.b, hu.i, iB, iI, cmpB, Iv.val_sym, Iv.val_lit, Lv.raw, Tv.raw, decide_eq_true_eq, decide_eq_false_iff_not, beq_iff_eq, beq_eq_false_iff_ne, ne_eq, ofN, Int.toNat_zero, Int.toNat_one, Int.reduceToNat, natc, hu.s, iS, Sv.val_lit, Sv.val_sym, true_iff, false_iff, Bool.false_eq_true, bne_iff_ne, bne_eq_false_iff_eq, Bool.not_eq_true', Bool.not_eq_false', Decidable.not_not, nil_toList, ByteArray.size_empty, nilS, not_true_eq_false, not_false_eq_true, hu.l, iL, hu.t, iT, bin_add, bin_sub, bin_mul, wr_u8, wr_u16, wr_u32, wr_u64, IntKind.wrap_i64, List.length_append, List.length_cons, List.length_nil, List.nil_append, List.append_nil, List.cons_append, lvals, List.length_replicate, List.length_set, linV_val hu, Int.add_zero, Int.zero_add, Int.mul_one, Int.sub_zero, Int.zero_mul, Bool.true_eq_false, false_and, and_false, true_and, and_true]) <;> (try simp only [Int.ofNat_eq_natCast]) <;> (try omega))
    · rw [ew]
      ((try simp only [hu.b, hu.i, iB, iI, cmpB, Iv.val_sym, Iv.val_lit, Lv.raw, Tv.raw, decide_eq_true_eq, decide_eq_false_iff_not, beq_iff_eq, beq_eq_false_iff_ne, ne_eq, ofN, Int.toNat_zero, Int.toNat_one, Int.reduceToNat, natc, hu.s, iS, Sv.val_lit, Sv.val_sym, true_iff, false_iff, Bool.false_eq_true, bne_iff_ne, bne_eq_false_iff_eq, Bool.not_eq_true', Bool.not_eq_false', Decidable.not_not, nil_toList, ByteArray.size_empty, nilS, not_true_eq_false, not_false_eq_true, hu.l, iL, hu.t, iT, bin_add, bin_sub, bin_mul, wr_u8, wr_u16, wr_u32, wr_u64, IntKind.wrap_i64, List.length_append, List.length_cons, List.length_nil, List.nil_append, List.append_nil, List.cons_append, lvals, List.length_replicate, List.length_set, linV_val hu, Int.add_zero, Int.zero_add, Int.mul_one, Int.sub_zero, Int.zero_mul, Bool.true_eq_false, false_and, and_false, true_and, and_true]) <;> (try simp only [Int.ofNat_eq_natCast]) <;> (try omega))
    · rw [ey]
      ((try simp only [hu.b, hu.i, iB, iI, cmpB, Iv.val_sym, Iv.val_lit, Lv.raw, Tv.raw, decide_eq_true_eq, decide_eq_false_iff_not, beq_iff_eq, beq_eq_false_iff_ne, ne_eq, ofN, Int.toNat_zero, Int.toNat_one, Int.reduceToNat, natc, hu.s, iS, Sv.val_lit, Sv.val_sym, true_iff, false_iff, Bool.false_eq_true, bne_iff_ne, bne_eq_false_iff_eq, Bool.not_eq_true', Bool.not_eq_false', Decidable.not_not, nil_toList, ByteArray.size_empty, nilS, not_true_eq_false, not_false_eq_true, hu.l, iL, hu.t, iT, bin_add, bin_sub, bin_mul, wr_u8, wr_u16, wr_u32, wr_u64, IntKind.wrap_i64, List.length_append, List.length_cons, List.length_nil, List.nil_append, List.append_nil, List.cons_append, lvals, List.length_replicate, List.length_set, linV_val hu, Int.add_zero, Int.zero_add, Int.mul_one, Int.sub_zero, Int.zero_mul, Bool.true_eq_false, false_and, and_false, true_and, and_true]) <;> (try simp only [Int.ofNat_eq_natCast]) <;> (try omega))
  · obtain ⟨ys, ey⟩ : ∃ x : List Int, x = splL xs (i * 32) bs := ⟨_, rfl⟩
    subst hR
    refine Weak.of (.inr (.inr (.inr ⟨a', w', ys, ⟨rfl, by omega, by omega, by assumption, ea, ew, ey⟩, rfl, rfl⟩))) ?_ ?_ (by rfl)
    all_goals ((conv => cbv); repeat' (first | exact True.intro | with_reducible rfl | (with_reducible exact fun h => h) | (with_reducible refine And.intro ?_ ?_)))
    · rw [ha', if_neg (by omega)]
      omega
    · rw [ew]
      ((try simp only [hu.b, hu.i, iB, iI, cmpB, Iv.val_sym, Iv.val_lit, Lv.raw, Tv.raw, decide_eq_true_eq, decide_eq_false_iff_not, beq_iff_eq, beq_eq_false_iff_ne, ne_eq, ofN, Int.toNat_zero, Int.toNat_one, Int.reduceToNat, natc, hu.s, iS, Sv.val_lit, Sv.val_sym, true_iff, false_iff, Bool.false_eq_true, bne_iff_ne, bne_eq_false_iff_eq, Bool.not_eq_true', Bool.not_eq_false', Decidable.not_not, nil_toList, ByteArray.size_empty, nilS, not_true_eq_false, not_false_eq_true, hu.l, iL, hu.t, iT, bin_add, bin_sub, bin_mul, wr_u8, wr_u16, wr_u32, wr_u64, IntKind.wrap_i64, List.length_append, List.length_cons, List.length_nil, List.nil_append, List.append_nil, List.cons_append, lvals, List.length_replicate, List.length_set, linV_val hu, Int.add_zero, Int.zero_add, Int.mul_one, Int.sub_zero, Int.zero_mul, Bool.true_eq_false, false_and, and_false, true_and, and_true]) <;> (try simp only [Int.ofNat_eq_natCast]) <;> (try omega))
    · rw [ey]
      ((try simp only [hu.b, hu.i, iB, iI, cmpB, Iv.val_sym, Iv.val_lit, Lv.raw, Tv.raw, decide_eq_true_eq, decide_eq_false_iff_not, beq_iff_eq, beq_eq_false_iff_ne, ne_eq, ofN, Int.toNat_zero, Int.toNat_one, Int.reduceToNat, natc, hu.s, iS, Sv.val_lit, Sv.val_sym, true_iff, false_iff, Bool.false_eq_true, bne_iff_ne, bne_eq_false_iff_eq, Bool.not_eq_true', Bool.not_eq_false', Decidable.not_not, nil_toList, ByteArray.size_empty, nilS, not_true_eq_false, not_false_eq_true, hu.l, iL, hu.t, iT, bin_add, bin_sub, bin_mul, wr_u8, wr_u16, wr_u32, wr_u64, IntKind.wrap_i64, List.length_append, List.length_cons, List.length_nil, List.nil_append, List.append_nil, List.cons_append, lvals, List.length_replicate, List.length_set, linV_val hu, Int.add_zero, Int.zero_add, Int.mul_one, Int.sub_zero, Int.zero_mul, Bool.true_eq_false, false_and, and_false, true_and, and_true]) <;> (try simp only [Int.ofNat_eq_natCast]) <;> (try omega))
theorem sector_ctr (at_ fill last : Int) (arm up : Bool) (w k : Int) : Ctr Tryd.prog 16 [] [.agg [.int .i64 (.sym at_), .int .u8 (.sym fill), .int .u8 (.sym last), .sbool arm, .sbool up, .int .i64 (.sym w), .int .i64 (.sym k)]] fun v H => ∃ ys, (ys = (onesL fill).set 31 last ∧ ys.length = 32) ∧ v = .cols 32 [.ints .u8 (.sym ys)] ∧ H = [] := by
  obtain ⟨uI, uB, uS, uL, uT, hu⟩ := words
  have hm := mixed
  have hT := tabOk
  have hO := @ones_ctr
  obtain ⟨P, hP⟩ : ∃ P, P = Tryd.prog := ⟨_, rfl⟩
  rw [← hP] at hm hT hO ⊢
  refine Ctr.weak (ctr_of_vc hu hm hT (hP ▸ Tryd.func16) rfl (by kernel_rfl) ?_)
  clear hP hm hT
  generalize hR : Weak _ _ = R
  conv => cbv
  repeat' (first | ((with_reducible intro (h : _ = _)); (try subst h); (try simp only [hu.b, hu.i, iB, iI, cmpB, Iv.val_sym, Iv.val_lit, Lv.raw, Tv.raw, decide_eq_true_eq, decide_eq_false_iff_not, beq_iff_eq, beq_eq_false_iff_ne, ne_eq, ofN, Int.toNat_zero, Int.toNat_one, Int.reduceToNat, natc, hu.s, iS, Sv.val_lit, Sv.val_sym, true_iff, false_iff, Bool.false_eq_true, bne_iff_ne, bne_eq_false_iff_eq, Bool.not_eq_true', Bool.not_eq_false', Decidable.not_not, nil_toList, ByteArray.size_empty, nilS, not_true_eq_false, not_false_eq_true, hu.l, iL, hu.t, iT, bin_add, bin_sub, bin_mul, wr_u8, wr_u16, wr_u32, wr_u64, IntKind.wrap_i64, List.length_append, List.length_cons, List.length_nil, List.nil_append, List.append_nil, List.cons_append, lvals, List.length_replicate, List.length_set, linV_val hu, Int.add_zero, Int.zero_add, Int.mul_one, Int.sub_zero, Int.zero_mul, Bool.true_eq_false, false_and, and_false, true_and, and_true] at h) <;> (try simp only [Int.ofNat_eq_natCast] at h) <;> (first | (have hF0 : False := by omega; exact hF0.elim) | (conv => cbv))) | (with_reducible refine And.intro ?_ ?_) | (refine CallVC.mk (Ctr.monoR ?_ (hO _)); ((rintro v H ⟨ys, hd, rfl, rfl⟩) <;> (try simp only [hu.b, hu.i, iB, iI, cmpB, Iv.val_sym, Iv.val_lit, Lv.raw, Tv.raw, decide_eq_true_eq, decide_eq_false_iff_not, beq_iff_eq, beq_eq_false_iff_ne, ne_eq, ofN, Int.toNat_zero, Int.toNat_one, Int.reduceToNat, natc, hu.s, iS, Sv.val_lit, Sv.val_sym, true_iff, false_iff, Bool.false_eq_true, bne_iff_ne, bne_eq_false_iff_eq, Bool.not_eq_true', Bool.not_eq_false', Decidable.not_not, nil_toList, ByteArray.size_empty, nilS, not_true_eq_false, not_false_eq_true, hu.l, iL, hu.t, iT, bin_add, bin_sub, bin_mul, wr_u8, wr_u16, wr_u32, wr_u64, IntKind.wrap_i64, List.length_append, List.length_cons, List.length_nil, List.nil_append, List.append_nil, List.cons_append, lvals, List.length_replicate, List.length_set, linV_val hu, Int.add_zero, Int.zero_add, Int.mul_one, Int.sub_zero, Int.zero_mul, Bool.true_eq_false, false_and, and_false, true_and, and_true] at hd) <;> (try simp only [Int.ofNat_eq_natCast] at hd) <;> (first | (have hF0 : False := by omega; exact hF0.elim) | (conv => cbv)))) | (refine Gen0.mk ?_; (conv => cbv)) | (simp only [hu.b, hu.i, iB, iI, cmpB, Iv.val_sym, Iv.val_lit, Lv.raw, Tv.raw, decide_eq_true_eq, decide_eq_false_iff_not, beq_iff_eq, beq_eq_false_iff_ne, ne_eq, ofN, Int.toNat_zero, Int.toNat_one, Int.reduceToNat, natc, hu.s, iS, Sv.val_lit, Sv.val_sym, true_iff, false_iff, Bool.false_eq_true, bne_iff_ne, bne_eq_false_iff_eq, Bool.not_eq_true', Bool.not_eq_false', Decidable.not_not, nil_toList, ByteArray.size_empty, nilS, not_true_eq_false, not_false_eq_true, hu.l, iL, hu.t, iT, bin_add, bin_sub, bin_mul, wr_u8, wr_u16, wr_u32, wr_u64, IntKind.wrap_i64, List.length_append, List.length_cons, List.length_nil, List.nil_append, List.append_nil, List.cons_append, lvals, List.length_replicate, List.length_set, linV_val hu, Int.add_zero, Int.zero_add, Int.mul_one, Int.sub_zero, Int.zero_mul, Bool.true_eq_false, false_and, and_false, true_and, and_true]; (try simp only [Int.ofNat_eq_natCast]); done) | ((try simp only [hu.b, hu.i, iB, iI, cmpB, Iv.val_sym, Iv.val_lit, Lv.raw, Tv.raw, decide_eq_true_eq, decide_eq_false_iff_not, beq_iff_eq, beq_eq_false_iff_ne, ne_eq, ofN, Int.toNat_zero, Int.toNat_one, Int.reduceToNat, natc, hu.s, iS, Sv.val_lit, Sv.val_sym, true_iff, false_iff, Bool.false_eq_true, bne_iff_ne, bne_eq_false_iff_eq, Bool.not_eq_true', Bool.not_eq_false', Decidable.not_not, nil_toList, ByteArray.size_empty, nilS, not_true_eq_false, not_false_eq_true, hu.l, iL, hu.t, iT, bin_add, bin_sub, bin_mul, wr_u8, wr_u16, wr_u32, wr_u64, IntKind.wrap_i64, List.length_append, List.length_cons, List.length_nil, List.nil_append, List.append_nil, List.cons_append, lvals, List.length_replicate, List.length_set, linV_val hu, Int.add_zero, Int.zero_add, Int.mul_one, Int.sub_zero, Int.zero_mul, Bool.true_eq_false, false_and, and_false, true_and, and_true]) <;> (try simp only [Int.ofNat_eq_natCast]) <;> omega))
  obtain ⟨zs, ez⟩ : ∃ x, x = ys.set 31 last := ⟨_, rfl⟩
  subst hR
  refine Weak.of (⟨zs, ⟨by rw [ez, hd.1], by rw [ez, List.length_set]; exact hd.2⟩, rfl, rfl⟩) ?_ ?_ (by rfl)
  all_goals ((conv => cbv); repeat' (first | exact True.intro | with_reducible rfl | (with_reducible exact fun h => h) | (with_reducible refine And.intro ?_ ?_)))
  rw [ez]
  ((try simp only [hu.b, hu.i, iB, iI, cmpB, Iv.val_sym, Iv.val_lit, Lv.raw, Tv.raw, decide_eq_true_eq, decide_eq_false_iff_not, beq_iff_eq, beq_eq_false_iff_ne, ne_eq, ofN, Int.toNat_zero, Int.toNat_one, Int.reduceToNat, natc, hu.s, iS, Sv.val_lit, Sv.val_sym, true_iff, false_iff, Bool.false_eq_true, bne_iff_ne, bne_eq_false_iff_eq, Bool.not_eq_true', Bool.not_eq_false', Decidable.not_not, nil_toList, ByteArray.size_empty, nilS, not_true_eq_false, not_false_eq_true, hu.l, iL, hu.t, iT, bin_add, bin_sub, bin_mul, wr_u8, wr_u16, wr_u32, wr_u64, IntKind.wrap_i64, List.length_append, List.length_cons, List.length_nil, List.nil_append, List.append_nil, List.cons_append, lvals, List.length_replicate, List.length_set, linV_val hu, Int.add_zero, Int.zero_add, Int.mul_one, Int.sub_zero, Int.zero_mul, Bool.true_eq_false, false_and, and_false, true_and, and_true]) <;> (try simp only [Int.ofNat_eq_natCast]) <;> (try omega))
end Go.Proofs.YtidcdmlgojdglaaDoor
namespace Go.Proofs.YtidcdmlgojdglaaDoor
open Go Sx
set_option maxRecDepth 100000
set_option maxHeartbeats 4000000
theorem clone_ctr (n : Int) (xs : List Int) (h : 1 ≤ n ∧ n ≤ 256) (hl : (xs.length : Int) = n * 32) : Ctr Tryd.prog 26 [.cols (.row 32) 31 [.ints .u8 (.sym xs)]] [.vec 0 (.sym n)] fun v H =>
    v = .vec 1 (.sym n) ∧ H = [.cols (.row 32) 31 [.ints .u8 (.sym xs)], .cols (.row 32) 31 [.ints .u8 (.sym xs)]] := by
  obtain ⟨uI, uB, uS, uL, uT, hu⟩ := words
  have hm := mixed
  have hT := tabOk
  obtain ⟨P, hP⟩ : ∃ P, P = Tryd.prog := ⟨_, rfl⟩
  rw [← hP] at hm hT ⊢
  refine Ctr.weak (ctr_of_vc hu hm hT (hP ▸ Tryd.func26) rfl (by kernel_rfl) ?_)
  clear hP hm hT
  generalize hR : Weak _ _ = R
  conv => cbv
  repeat' (first | ((with_reducible intro (h : _ = _)); (try subst h); (try simp only [hu.b, hu.i, iB, iI, cmpB, Iv.val_sym, Iv.val_lit, Lv.raw, Tv.raw, decide_eq_true_eq, decide_eq_false_iff_not, beq_iff_eq, beq_eq_false_iff_ne, ne_eq, ofN, Int.toNat_zero, Int.toNat_one, Int.reduceToNat, natc, hu.s, iS, Sv.val_lit, Sv.val_sym, true_iff, false_iff, Bool.false_eq_true, bne_iff_ne, bne_eq_false_iff_eq, Bool.not_eq_true', Bool.not_eq_false', Decidable.not_not, nil_toList, ByteArray.size_empty, nilS, not_true_eq_false, not_false_eq_true, hu.l, iL, hu.t, iT, bin_add, bin_sub, bin_mul, wr_u8, wr_u16, wr_u32, wr_u64, IntKind.wrap_i64, List.length_append, List.length_cons, List.length_nil, List.nil_append, List.append_nil, List.cons_append, lvals, List.length_replicate, List.length_set, linV_val hu, Int.add_zero, Int.zero_add, Int.mul_one, Int.sub_zero, Int.zero_mul, Bool.true_eq_false, false_and, and_false, true_and, and_true] at h) <;> (try simp only [Int.ofNat_eq_natCast] at h) <;> (first | (have hF0 : False := by omega; exact hF0.elim) | (conv => cbv))) | (with_reducible refine And.intro ?_ ?_) | (refine Gen0.mk ?_; (conv => cbv)) | (simp only [hu.b, hu.i, iB, iI, cmpB, Iv.val_sym, Iv.val_lit, Lv.raw, Tv.raw, decide_eq_true_eq, decide_eq_false_iff_not, beq_iff_eq, beq_eq_false_iff_ne, ne_eq, ofN, Int.toNat_zero, Int.toNat_one, Int.reduceToNat, natc, hu.s, iS, Sv.val_lit, Sv.val_sym, true_iff, false_iff, Bool.false_eq_true, bne_iff_ne, bne_eq_false_iff_eq, Bool.not_eq_true', Bool.not_eq_false', Decidable.not_not, nil_toList, ByteArray.size_empty, nilS, not_true_eq_false, not_false_eq_true, hu.l, iL, hu.t, iT, bin_add, bin_sub, bin_mul, wr_u8, wr_u16, wr_u32, wr_u64, IntKind.wrap_i64, List.length_append, List.length_cons, List.length_nil, List.nil_append, List.append_nil, List.cons_append, lvals, List.length_replicate, List.length_set, linV_val hu, Int.add_zero, Int.zero_add, Int.mul_one, Int.sub_zero, Int.zero_mul, Bool.true_eq_false, false_and, and_false, true_and, and_true]; (try simp only [Int.ofNat_eq_natCast]); done) | ((try simp only [hu.b, hu.i, iB, iI, cmpB, Iv.val_sym, Iv.val_lit, Lv.raw, Tv.raw, decide_eq_true_eq, decide_eq_false_iff_not, beq_iff_eq, beq_eq_false_iff_ne, ne_eq, ofN, Int.toNat_zero, Int.toNat_one, Int.reduceToNat, natc, hu.s, iS, Sv.val_lit, Sv.val_sym, true_iff, false_iff, Bool.false_eq_true, bne_iff_ne, bne_eq_false_iff_eq, Bool.not_eq_true', Bool.not_eq_false', Decidable.not_not, nil_toList, ByteArray.size_empty, nilS, not_true_eq_false, not_false_eq_true, hu.l, iL, hu.t, iT, bin_add, bin_sub, bin_mul, wr_u8, wr_u16, wr_u32, wr_u64, IntKind.wrap_i64, List.length_append, List.length_cons, List.length_nil, List.nil_append, List.append_nil, List.cons_append, lvals, List.length_replicate, List.length_set, linV_val hu, Int.add_zero, Int.zero_add, Int.mul_one, Int.sub_zero, Int.zero_mul, Bool.true_eq_false, false_and, and_false, true_and, and_true]) <;> (try simp only [Int.ofNat_eq_natCast]) <;> omega))
  subst hR
  refine Weak.of (⟨rfl, rfl⟩) ?_ ?_ (by rfl)
  all_goals ((conv => cbv); repeat' (first | exact True.intro | with_reducible rfl | (with_reducible exact fun h => h) | (with_reducible refine And.intro ?_ ?_)))
  ((try simp only [hu.b, hu.i, iB, iI, cmpB, Iv.val_sym, Iv.val_lit, Lv.raw, Tv.raw, decide_eq_true_eq, decide_eq_false_iff_not, beq_iff_eq, beq_eq_false_iff_ne, ne_eq, ofN, Int.toNat_zero, Int.toNat_one, Int.reduceToNat, natc, hu.s, iS, Sv.val_lit, Sv.val_sym, true_iff, false_iff, Bool.false_eq_true, bne_iff_ne, bne_eq_false_iff_eq, Bool.not_eq_true', Bool.not_eq_false', Decidable.not_not, nil_toList, ByteArray.size_empty, nilS, not_true_eq_false, not_false_eq_true, hu.l, iL, hu.t, iT, bin_add, bin_sub, bin_mul, wr_u8, wr_u16, wr_u32, wr_u64, IntKind.wrap_i64, List.length_append, List.length_cons, List.length_nil, List.nil_append, List.append_nil, List.cons_append, lvals, List.length_replicate, List.length_set, linV_val hu, Int.add_zero, Int.zero_add, Int.mul_one, Int.sub_zero, Int.zero_mul, Bool.true_eq_false, false_and, and_false, true_and, and_true]) <;> (try simp only [Int.ofNat_eq_natCast]) <;> (try omega))
theorem dclone_ctr (n : Int) (d : Bool) (a k w : Int) (xs : List Int) (h : 1 ≤ n ∧ n ≤ 256) (hl : (xs.length : Int) = n * 32) : Ctr Tryd.prog 23 (dk n d a k w xs) [.ptr 0 ⟨.lit 0, 1, 0⟩] fun v H =>
    v = .ptr 2 ⟨.lit 0, 1, 0⟩ ∧ H = dk n d a k w xs ++ [.cells 55 [.vec 3 (.sym n), .sbool d, .int .i64 (.sym a), .int .i64 (.sym k), .int .i64 (.sym w)], .cols (.row 32) 31 [.ints .u8 (.sym xs)]] := by
  unfold dk
  obtain ⟨uI, uB, uS, uL, uT, hu⟩ := words
  have hm := mixed
  have hT := tabOk
  have hC := @clone_ctr
  obtain ⟨P, hP⟩ : ∃ P, P = Tryd.prog := ⟨_, rfl⟩
  rw [← hP] at hm hT hC ⊢
  refine Ctr.weak (ctr_of_vc hu hm hT (hP ▸ Tryd.func23) rfl (by kernel_rfl) ?_)
  clear hP hm hT
  generalize hR : Weak _ _ = R
  conv => cbv
  repeat' (first | ((with_reducible intro (h : _ = _)); (try subst h); (try simp only [hu.b, hu.i, iB, iI, cmpB, Iv.val_sym, Iv.val_lit, Lv.raw, Tv.raw, decide_eq_true_eq, decide_eq_false_iff_not, beq_iff_eq, beq_eq_false_iff_ne, ne_eq, ofN, Int.toNat_zero, Int.toNat_one, Int.reduceToNat, natc, hu.s, iS, Sv.val_lit, Sv.val_sym, true_iff, false_iff, Bool.false_eq_true, bne_iff_ne, bne_eq_false_iff_eq, Bool.not_eq_true', Bool.not_eq_false', Decidable.not_not, nil_toList, ByteArray.size_empty, nilS, not_true_eq_false, not_false_eq_true, hu.l, iL, hu.t, iT, bin_add, bin_sub, bin_mul, wr_u8, wr_u16, wr_u32, wr_u64, IntKind.wrap_i64, List.length_append, List.length_cons, List.length_nil, List.nil_append, List.append_nil, List.cons_append, lvals, List.length_replicate, List.length_set, linV_val hu, Int.add_zero, Int.zero_add, Int.mul_one, Int.sub_zero, Int.zero_mul, Bool.true_eq_false, false_and, and_false, true_and, and_true] at h) <;> (try simp only [Int.ofNat_eq_natCast] at h) <;> (first | (have hF0 : False := by omega; exact hF0.elim) | (conv => cbv))) | (with_reducible refine And.intro ?_ ?_) | (refine CallVC.mk (Ctr.monoR ?_ (hC _ _ ?_ ?_)); ((rintro v H ⟨rfl, rfl⟩) <;> (conv => cbv))) | (refine Gen0.mk ?_; (conv => cbv)) | (simp only [hu.b, hu.i, iB, iI, cmpB, Iv.val_sym, Iv.val_lit, Lv.raw, Tv.raw, decide_eq_true_eq, decide_eq_false_iff_not, beq_iff_eq, beq_eq_false_iff_ne, ne_eq, ofN, Int.toNat_zero, Int.toNat_one, Int.reduceToNat, natc, hu.s, iS, Sv.val_lit, Sv.val_sym, true_iff, false_iff, Bool.false_eq_true, bne_iff_ne, bne_eq_false_iff_eq, Bool.not_eq_true', Bool.not_eq_false', Decidable.not_not, nil_toList, ByteArray.size_empty, nilS, not_true_eq_false, not_false_eq_true, hu.l, iL, hu.t, iT, bin_add, bin_sub, bin_mul, wr_u8, wr_u16, wr_u32, wr_u64, IntKind.wrap_i64, List.length_append, List.length_cons, List.length_nil, List.nil_append, List.append_nil, List.cons_append, lvals, List.length_replicate, List.length_set, linV_val hu, Int.add_zero, Int.zero_add, Int.mul_one, Int.sub_zero, Int.zero_mul, Bool.true_eq_false, false_and, and_false, true_and, and_true]; (try simp only [Int.ofNat_eq_natCast]); done) | ((try simp only [hu.b, hu.i, iB, iI, cmpB, Iv.val_sym, Iv.val_lit, Lv.raw, Tv.raw, decide_eq_true_eq, decide_eq_false_iff_not, beq_iff_eq, beq_eq_false_iff_ne, ne_eq, ofN, Int.toNat_zero, Int.toNat_one, Int.reduceToNat, natc, hu.s, iS, Sv.val_lit, Sv.val_sym, true_iff, false_iff, Bool.false_eq_true, bne_iff_ne, bne_eq_false_iff_eq, Bool.not_eq_true', Bool.not_eq_false', Decidable.not_not, nil_toList, ByteArray.size_empty, nilS, not_true_eq_false, not_false_eq_true, hu.l, iL, hu.t, iT, bin_add, bin_sub, bin_mul, wr_u8, wr_u16, wr_u32, wr_u64, IntKind.wrap_i64, List.length_append, List.length_cons, List.length_nil, List.nil_append, List.append_nil, List.cons_append, lvals, List.length_replicate, List.length_set, linV_val hu, Int.add_zero, Int.zero_add, Int.mul_one, Int.sub_zero, Int.zero_mul, Bool.true_eq_false, false_and, and_false, true_and, and_true]) <;> (try simp only [Int.ofNat_eq_natCast]) <;> omega))
  subst hR
  refine Weak.of (⟨rfl, rfl⟩) ?_ ?_ (by rfl)
  all_goals ((conv => cbv); repeat' (first | exact True.intro | with_reducible rfl | (with_reducible exact fun h => h) | (with_reducible refine And.intro ?_ ?_)))
theorem zer_length {n : Int} (h : 0 ≤ n) : ((zer n).length : Int) = n * 32 := by
  simp only [zer, List.length_replicate]; omega
theorem new_v (n : Int) : Ctr Tryd.prog 9 [] [.int .i64 (.sym n)] fun v H =>
    ((n < 1 ∨ 256 < n) ∧ v = .tup [.nilp, .iface 53 (.int .i64 (.sym 1))] ∧ H = []) ∨ (∃ xs, (1 ≤ n ∧ n ≤ 256 ∧ (xs.length : Int) = n * 32 ∧ xs = zer n) ∧ v = .tup [.ptr 0 ⟨.lit 0, 1, 0⟩, .nilif] ∧ H = dk n false 0 0 0 xs) :=
  (new_ctr n).mono fun v H h => by
    rcases h with h | ⟨xs, ⟨h1, h2, h3⟩, h4⟩
    · exact .inl h
    · exact .inr ⟨xs, ⟨h1, h2, by rw [h3]; exact zer_length (by omega), h3⟩, h4⟩
theorem arm_facts (m q : Int) : 0 ≤ armOf m ∧ (0 < m → armOf m = m) ∧ (m ≤ 0 → armOf m = 0) ∧ 0 ≤ keepOf q ∧ keepOf q ≤ 32 ∧ (0 ≤ q → q ≤ 32 → keepOf q = q) := by
  simp only [armOf, keepOf]
  refine ⟨?_, ?_, ?_, ?_, ?_, ?_⟩ <;> repeat' split
  all_goals omega
theorem arm_v (n : Int) (d : Bool) (a k w : Int) (xs : List Int) (m q : Int) : Ctr Tryd.prog 10 (dk n d a k w xs) [.ptr 0 ⟨.lit 0, 1, 0⟩, .int .i64 (.sym m), .int .i64 (.sym q)] fun v H =>
    ∃ a' k', (a' = armOf m ∧ k' = keepOf q ∧ 0 ≤ a' ∧ (0 < m → a' = m) ∧ (m ≤ 0 → a' = 0) ∧ 0 ≤ k' ∧ k' ≤ 32 ∧ (0 ≤ q → q ≤ 32 → k' = q)) ∧ v = .tup [] ∧ ((m < 1 ∧ H = dk n true a' k' w xs) ∨ (1 ≤ m ∧ H = dk n d a' k' w xs)) :=
  (arm_ctr n d a k w xs m q).mono fun v H ⟨a', k', ⟨h1, h2⟩, h3⟩ => ⟨a', k', ⟨h1, h2, by rw [h1, h2]; exact arm_facts m q⟩, h3⟩
theorem write_v (n : Int) (d : Bool) (a k w : Int) (xs : List Int) (i : Int) (bs : List Int) (hl : (xs.length : Int) = n * 32) (hb : bs.length = 32) (hk : 0 ≤ k ∧ k ≤ 32) (ha : 0 ≤ a ∧ a ≤ 9223372036854775807) (hw : 0 ≤ w ∧ w < 9223372036854775807) : Ctr Tryd.prog 11 (dk n d a k w xs) [.ptr 0 ⟨.lit 0, 1, 0⟩, .int .i64 (.sym i), .cols 32 [.ints .u8 (.sym bs)]] fun v H =>
    (d = true ∧ v = .iface 53 (.int .i64 (.sym 14)) ∧ H = dk n true a k w xs) ∨ ((d = false ∧ (i < 0 ∨ n ≤ i)) ∧ v = .iface 53 (.int .i64 (.sym 8)) ∧ H = dk n false a k w xs) ∨
    (∃ w' ys, (d = false ∧ 0 ≤ i ∧ i < n ∧ a = 1 ∧ w' = w + 1 ∧ (ys.length : Int) = n * 32 ∧ ys = splL xs (i * 32) (bs.take k.toNat)) ∧ v = .iface 53 (.int .i64 (.sym 14)) ∧ H = dk n true 0 k w' ys) ∨
    (∃ a' w' ys, (d = false ∧ 0 ≤ i ∧ i < n ∧ a ≠ 1 ∧ 0 ≤ a' ∧ (a = 0 → a' = 0) ∧ (0 < a → a' = a - 1) ∧ w' = w + 1 ∧ (ys.length : Int) = n * 32 ∧ ys = splL xs (i * 32) bs) ∧ v = .nilif ∧ H = dk n false a' k w' ys) :=
  (write_ctr n d a k w xs i bs hl hb hk).mono fun v H h => by
    rcases h with h | h | ⟨w', ys, ⟨h1, h2, h3, h4, h5, h6⟩, h7⟩ | ⟨a', w', ys, ⟨h1, h2, h3, h4, h5, h6, h7⟩, h8⟩
    · exact .inl h
    · exact .inr (.inl h)
    · refine .inr (.inr (.inl ⟨w', ys, ⟨h1, h2, h3, h4, by omega, ?_, h6⟩, h7⟩))
      rw [h6, splL_length (by omega) (by rw [List.length_take]; omega)]; exact hl
    · refine .inr (.inr (.inr ⟨a', w', ys, ⟨h1, h2, h3, h4, ?_, ?_, ?_, by omega, ?_, h7⟩, h8⟩))
      · rw [h5]; exact (arm_facts _ 0).1
      · intro e; rw [h5]; exact (arm_facts _ 0).2.2.1 (by omega)
      · intro e; rw [h5, (arm_facts _ 0).2.1 (by omega)]; omega
      · rw [h7, splL_length (by omega) (by omega)]; exact hl
theorem read_v (n : Int) (d : Bool) (a k w : Int) (xs : List Int) (i : Int) (hl : (xs.length : Int) = n * 32) : Ctr Tryd.prog 15 (dk n d a k w xs) [.ptr 0 ⟨.lit 0, 1, 0⟩, .int .i64 (.sym i)] fun v H =>
    ∃ ys, ((d = true ∧ ys = List.replicate 32 0) ∧ v = .tup [.cols 32 [.ints .u8 (.sym ys)], .iface 53 (.int .i64 (.sym 14))] ∧ H = dk n true a k w xs) ∨ ((d = false ∧ (i < 0 ∨ n ≤ i) ∧ ys = List.replicate 32 0) ∧ v = .tup [.cols 32 [.ints .u8 (.sym ys)], .iface 53 (.int .i64 (.sym 8))] ∧ H = dk n false a k w xs) ∨
      ((d = false ∧ 0 ≤ i ∧ i < n ∧ ys.length = 32 ∧ ys = subL xs (i * 32) 32) ∧ v = .tup [.cols 32 [.ints .u8 (.sym ys)], .nilif] ∧ H = dk n false a k w xs) :=
  (read_ctr n d a k w xs i hl).mono fun v H ⟨ys, h⟩ => ⟨ys, by
    rcases h with h | h | ⟨⟨h1, h2, h3, h4⟩, h5⟩
    · exact .inl h
    · exact .inr (.inl h)
    · refine .inr (.inr ⟨⟨h1, h2, h3, ?_, h4⟩, h5⟩)
      have := subL_length (xs := xs) (i := i * 32) (n := 32) (by omega) (by omega) (by omega)
      rw [h4]; omega⟩
theorem sector_d (at_ fill last : Int) (arm up : Bool) (w k : Int) (ys : List Int) (h : ys = (onesL fill).set 31 last) : Ctr Tryd.prog 16 [] [.agg [.int .i64 (.sym at_), .int .u8 (.sym fill), .int .u8 (.sym last), .sbool arm, .sbool up, .int .i64 (.sym w), .int .i64 (.sym k)]] fun v H => v = .cols 32 [.ints .u8 (.sym ys)] ∧ H = [] :=
  (sector_ctr at_ fill last arm up w k).mono fun v H ⟨zs, ⟨h1, _⟩, h2⟩ => by rw [h, ← h1]; exact h2
theorem ones_d (c : Int) (ys : List Int) (h : ys = onesL c) : Ctr Tryd.prog 12 [] [.int .u8 (.sym c)] fun v H => v = .cols 32 [.ints .u8 (.sym ys)] ∧ H = [] :=
  (ones_ctr c).mono fun v H ⟨zs, ⟨h1, _⟩, h2⟩ => by rw [h, ← h1]; exact h2
theorem sector_len (f l : Int) : ((onesL f).set 31 l).length = 32 := by simp [onesL]
/-- Writing, where it is known how it ends. -/
theorem write_none (n : Int) (a k w : Int) (xs : List Int) (i : Int) (bs : List Int) (hl : (xs.length : Int) = n * 32) (hb : bs.length = 32) (hk : 0 ≤ k ∧ k ≤ 32) (hi : i < 0 ∨ n ≤ i) : Ctr Tryd.prog 11 (dk n false a k w xs) [.ptr 0 ⟨.lit 0, 1, 0⟩, .int .i64 (.sym i), .cols 32 [.ints .u8 (.sym bs)]] fun v H =>
    v = .iface 53 (.int .i64 (.sym 8)) ∧ H = dk n false a k w xs :=
  (write_ctr n false a k w xs i bs hl hb hk).mono fun v H h => by
    rcases h with ⟨h, _⟩ | ⟨_, h⟩ | ⟨w', ys, ⟨h1, h2, h3, _⟩, _⟩ | ⟨a', w', ys, ⟨h1, h2, h3, _⟩, _⟩
    · cases h
    · exact h
    · omega
    · omega
theorem write_down (n : Int) (a k w : Int) (xs : List Int) (i : Int) (bs : List Int) (hl : (xs.length : Int) = n * 32) (hb : bs.length = 32) (hk : 0 ≤ k ∧ k ≤ 32) : Ctr Tryd.prog 11 (dk n true a k w xs) [.ptr 0 ⟨.lit 0, 1, 0⟩, .int .i64 (.sym i), .cols 32 [.ints .u8 (.sym bs)]] fun v H =>
    v = .iface 53 (.int .i64 (.sym 14)) ∧ H = dk n true a k w xs :=
  (write_ctr n true a k w xs i bs hl hb hk).mono fun v H h => by
    rcases h with ⟨_, h⟩ | ⟨⟨h, _⟩, _⟩ | ⟨w', ys, ⟨h, _⟩, _⟩ | ⟨a', w', ys, ⟨h, _⟩, _⟩
    · exact h
    all_goals cases h
/-- A piece laid into a row. -/
structure LaidIn (xs : List Int) (o : Int) (bs ys : List Int) : Prop where
  eq : ys = splL xs o bs
theorem write_tear (n : Int) (k w : Int) (xs : List Int) (i : Int) (bs : List Int) (hl : (xs.length : Int) = n * 32) (hb : bs.length = 32) (hk : 0 ≤ k ∧ k ≤ 32) (hi : 0 ≤ i ∧ i < n) (hw : 0 ≤ w ∧ w < 9223372036854775807) (w' : Int) (ys : List Int) (hw' : w' = w + 1) (hy : ys = splL xs (i * 32) (bs.take k.toNat)) : Ctr Tryd.prog 11 (dk n false 1 k w xs) [.ptr 0 ⟨.lit 0, 1, 0⟩, .int .i64 (.sym i), .cols 32 [.ints .u8 (.sym bs)]] fun v H =>
    v = .iface 53 (.int .i64 (.sym 14)) ∧ H = dk n true 0 k w' ys :=
  (write_ctr n false 1 k w xs i bs hl hb hk).mono fun v H h => by
    rcases h with ⟨h, _⟩ | ⟨⟨_, h⟩, _⟩ | ⟨w', ys, ⟨h1, h2, h3, h4, h5, h6⟩, h7⟩ | ⟨a', w', ys, ⟨h1, h2, h3, h4, _⟩, _⟩
    · cases h
    · omega
    · subst hw' hy; rw [show w' = w + 1 by omega, h6] at h7; exact h7
    · exact absurd rfl h4
theorem write_ok (n : Int) (a k w : Int) (xs : List Int) (i : Int) (bs : List Int) (hl : (xs.length : Int) = n * 32) (hb : bs.length = 32) (hk : 0 ≤ k ∧ k ≤ 32) (hi : 0 ≤ i ∧ i < n) (ha : 0 ≤ a ∧ a ≠ 1 ∧ a ≤ 9223372036854775807) (hw : 0 ≤ w ∧ w < 9223372036854775807) (a' w' : Int) (ys : List Int) (ha' : a' = if a = 0 then 0 else a - 1) (hw' : w' = w + 1) (hy : ys = splL xs (i * 32) bs) : Ctr Tryd.prog 11 (dk n false a k w xs) [.ptr 0 ⟨.lit 0, 1, 0⟩, .int .i64 (.sym i), .cols 32 [.ints .u8 (.sym bs)]] fun v H =>
    v = .nilif ∧ H = dk n false a' k w' ys :=
  (write_ctr n false a k w xs i bs hl hb hk).mono fun v H h => by
    rcases h with ⟨h, _⟩ | ⟨⟨_, h⟩, _⟩ | ⟨w', ys, ⟨h1, h2, h3, h4, _⟩, _⟩ | ⟨b', w', ys, ⟨h1, h2, h3, h4, h5, h6, h7⟩, h8⟩
    · cases h
    · omega
    · exact absurd h4 ha.2.1
    · have e : b' = a' := by
        rw [h5, ha']
        have := arm_facts ((a - 1 + 9223372036854775808) % 18446744073709551616 - 9223372036854775808) 0
        by_cases h0 : a = 0
        · rw [if_pos h0]; exact this.2.2.1 (by omega)
        · rw [if_neg h0, this.2.1 (by omega)]; omega
      subst hw' hy
      rw [show w' = w + 1 by omega, h7, e] at h8; exact h8
theorem write_plain (n : Int) (k w : Int) (xs : List Int) (i : Int) (bs : List Int) (hl : (xs.length : Int) = n * 32) (hb : bs.length = 32) (hk : 0 ≤ k ∧ k ≤ 32) (hi : 0 ≤ i ∧ i < n) (hw : 0 ≤ w ∧ w < 9223372036854775807) (w' : Int) (ys : List Int) (hw' : w' = w + 1) (hy : ys = splL xs (i * 32) bs) : Ctr Tryd.prog 11 (dk n false 0 k w xs) [.ptr 0 ⟨.lit 0, 1, 0⟩, .int .i64 (.sym i), .cols 32 [.ints .u8 (.sym bs)]] fun v H =>
    v = .nilif ∧ H = dk n false 0 k w' ys :=
  write_ok n 0 k w xs i bs hl hb hk hi ⟨by decide, by decide, by decide⟩ hw 0 w' ys rfl hw' hy
theorem awake_ctr : Ctr Tryd.prog 8 [] [] fun v H => v = .bool true ∧ H = [] := by
  obtain ⟨uI, uB, uS, uL, uT, hu⟩ := words
  have hm := mixed
  have hT := tabOk
  have hN := @new_v
  have hS := @size_ctr
  have hA := @arm_v
  have hW := @write_v
  have hR2 := @read_v
  have hU := @up_ctr
  have hO := @ones_ctr
  have hC := @code_c
  have hC1 := @code_nil_c
  have hD := @writes_ctr
  obtain ⟨P, hP⟩ : ∃ P, P = Tryd.prog := ⟨_, rfl⟩
  rw [← hP] at hm hT hN hS hA hW hR2 hU hO hC hC1 hD ⊢
  refine Ctr.weak (ctr_of_vc hu hm hT (hP ▸ Tryd.func8) rfl (by kernel_rfl) ?_)
  clear hP hm hT
  generalize hR : Weak _ _ = R
  conv => cbv
  repeat' (first | ((with_reducible intro (h : _ = _)); (try subst h); (try simp only [hu.b, hu.i, iB, iI, cmpB, Iv.val_sym, Iv.val_lit, Lv.raw, Tv.raw, decide_eq_true_eq, decide_eq_false_iff_not, beq_iff_eq, beq_eq_false_iff_ne, ne_eq, ofN, Int.toNat_zero, Int.toNat_one, Int.reduceToNat, natc, hu.s, iS, Sv.val_lit, Sv.val_sym, true_iff, false_iff, Bool.false_eq_true, bne_iff_ne, bne_eq_false_iff_eq, Bool.not_eq_true', Bool.not_eq_false', Decidable.not_not, nil_toList, ByteArray.size_empty, nilS, not_true_eq_false, not_false_eq_true, hu.l, iL, hu.t, iT, bin_add, bin_sub, bin_mul, wr_u8, wr_u16, wr_u32, wr_u64, IntKind.wrap_i64, List.length_append, List.length_cons, List.length_nil, List.nil_append, List.append_nil, List.cons_append, lvals, List.length_replicate, List.length_set, linV_val hu, Int.add_zero, Int.zero_add, Int.mul_one, Int.sub_zero, Int.zero_mul, Bool.true_eq_false, false_and, and_false, true_and, and_true] at h) <;> (try simp only [Int.ofNat_eq_natCast] at h) <;> (first | (have hF0 : False := by omega; exact hF0.elim) | (conv => cbv))) | (with_reducible refine And.intro ?_ ?_) | (refine CallVC.mk (Ctr.monoR ?_ (hN _)); ((rintro v H (⟨hd, rfl, rfl⟩ | ⟨xs, hx, rfl, rfl⟩)) <;> (try simp only [hu.b, hu.i, iB, iI, cmpB, Iv.val_sym, Iv.val_lit, Lv.raw, Tv.raw, decide_eq_true_eq, decide_eq_false_iff_not, beq_iff_eq, beq_eq_false_iff_ne, ne_eq, ofN, Int.toNat_zero, Int.toNat_one, Int.reduceToNat, natc, hu.s, iS, Sv.val_lit, Sv.val_sym, true_iff, false_iff, Bool.false_eq_true, bne_iff_ne, bne_eq_false_iff_eq, Bool.not_eq_true', Bool.not_eq_false', Decidable.not_not, nil_toList, ByteArray.size_empty, nilS, not_true_eq_false, not_false_eq_true, hu.l, iL, hu.t, iT, bin_add, bin_sub, bin_mul, wr_u8, wr_u16, wr_u32, wr_u64, IntKind.wrap_i64, List.length_append, List.length_cons, List.length_nil, List.nil_append, List.append_nil, List.cons_append, lvals, List.length_replicate, List.length_set, linV_val hu, Int.add_zero, Int.zero_add, Int.mul_one, Int.sub_zero, Int.zero_mul, Bool.true_eq_false, false_and, and_false, true_and, and_true] at hd) <;> (try simp only [Int.ofNat_eq_natCast] at hd) <;> (try simp only [hu.b, hu.i, iB, iI, cmpB, Iv.val_sym, Iv.val_lit, Lv.raw, Tv.raw, decide_eq_true_eq, decide_eq_false_iff_not, beq_iff_eq, beq_eq_false_iff_ne, ne_eq, ofN, Int.toNat_zero, Int.toNat_one, Int.reduceToNat, natc, hu.s, iS, Sv.val_lit, Sv.val_sym, true_iff, false_iff, Bool.false_eq_true, bne_iff_ne, bne_eq_false_iff_eq, Bool.not_eq_true', Bool.not_eq_false', Decidable.not_not, nil_toList, ByteArray.size_empty, nilS, not_true_eq_false, not_false_eq_true, hu.l, iL, hu.t, iT, bin_add, bin_sub, bin_mul, wr_u8, wr_u16, wr_u32, wr_u64, IntKind.wrap_i64, List.length_append, List.length_cons, List.length_nil, List.nil_append, List.append_nil, List.cons_append, lvals, List.length_replicate, List.length_set, linV_val hu, Int.add_zero, Int.zero_add, Int.mul_one, Int.sub_zero, Int.zero_mul, Bool.true_eq_false, false_and, and_false, true_and, and_true] at hx) <;> (try simp only [Int.ofNat_eq_natCast] at hx) <;> (first | (have hF0 : False := by omega; exact hF0.elim) | (conv => cbv)))) | (refine CallVC.mk (Ctr.monoR ?_ (hS _ _ _ _ _ _)); ((rintro v H ⟨rfl, rfl⟩) <;> (conv => cbv))) | (refine CallVC.mk (Ctr.monoR ?_ (hA _ _ _ _ _ _ _ _)); ((rintro v H ⟨a', k', ha, rfl, (⟨hm, rfl⟩ | ⟨hm, rfl⟩)⟩) <;> (try simp only [hu.b, hu.i, iB, iI, cmpB, Iv.val_sym, Iv.val_lit, Lv.raw, Tv.raw, decide_eq_true_eq, decide_eq_false_iff_not, beq_iff_eq, beq_eq_false_iff_ne, ne_eq, ofN, Int.toNat_zero, Int.toNat_one, Int.reduceToNat, natc, hu.s, iS, Sv.val_lit, Sv.val_sym, true_iff, false_iff, Bool.false_eq_true, bne_iff_ne, bne_eq_false_iff_eq, Bool.not_eq_true', Bool.not_eq_false', Decidable.not_not, nil_toList, ByteArray.size_empty, nilS, not_true_eq_false, not_false_eq_true, hu.l, iL, hu.t, iT, bin_add, bin_sub, bin_mul, wr_u8, wr_u16, wr_u32, wr_u64, IntKind.wrap_i64, List.length_append, List.length_cons, List.length_nil, List.nil_append, List.append_nil, List.cons_append, lvals, List.length_replicate, List.length_set, linV_val hu, Int.add_zero, Int.zero_add, Int.mul_one, Int.sub_zero, Int.zero_mul, Bool.true_eq_false, false_and, and_false, true_and, and_true] at ha) <;> (try simp only [Int.ofNat_eq_natCast] at ha) <;> (try simp only [hu.b, hu.i, iB, iI, cmpB, Iv.val_sym, Iv.val_lit, Lv.raw, Tv.raw, decide_eq_true_eq, decide_eq_false_iff_not, beq_iff_eq, beq_eq_false_iff_ne, ne_eq, ofN, Int.toNat_zero, Int.toNat_one, Int.reduceToNat, natc, hu.s, iS, Sv.val_lit, Sv.val_sym, true_iff, false_iff, Bool.false_eq_true, bne_iff_ne, bne_eq_false_iff_eq, Bool.not_eq_true', Bool.not_eq_false', Decidable.not_not, nil_toList, ByteArray.size_empty, nilS, not_true_eq_false, not_false_eq_true, hu.l, iL, hu.t, iT, bin_add, bin_sub, bin_mul, wr_u8, wr_u16, wr_u32, wr_u64, IntKind.wrap_i64, List.length_append, List.length_cons, List.length_nil, List.nil_append, List.append_nil, List.cons_append, lvals, List.length_replicate, List.length_set, linV_val hu, Int.add_zero, Int.zero_add, Int.mul_one, Int.sub_zero, Int.zero_mul, Bool.true_eq_false, false_and, and_false, true_and, and_true] at hm) <;> (try simp only [Int.ofNat_eq_natCast] at hm) <;> (try simp only [hu.b, hu.i, iB, iI, cmpB, Iv.val_sym, Iv.val_lit, Lv.raw, Tv.raw, decide_eq_true_eq, decide_eq_false_iff_not, beq_iff_eq, beq_eq_false_iff_ne, ne_eq, ofN, Int.toNat_zero, Int.toNat_one, Int.reduceToNat, natc, hu.s, iS, Sv.val_lit, Sv.val_sym, true_iff, false_iff, Bool.false_eq_true, bne_iff_ne, bne_eq_false_iff_eq, Bool.not_eq_true', Bool.not_eq_false', Decidable.not_not, nil_toList, ByteArray.size_empty, nilS, not_true_eq_false, not_false_eq_true, hu.l, iL, hu.t, iT, bin_add, bin_sub, bin_mul, wr_u8, wr_u16, wr_u32, wr_u64, IntKind.wrap_i64, List.length_append, List.length_cons, List.length_nil, List.nil_append, List.append_nil, List.cons_append, lvals, List.length_replicate, List.length_set, linV_val hu, Int.add_zero, Int.zero_add, Int.mul_one, Int.sub_zero, Int.zero_mul, Bool.true_eq_false, false_and, and_false, true_and, and_true] at hm) <;> (try simp only [Int.ofNat_eq_natCast] at hm) <;> (first | (have hF0 : False := by omega; exact hF0.elim) | (conv => cbv)))) | (refine CallVC.mk (Ctr.monoR ?_ (hO _)); ((rintro v H ⟨ys, hy, rfl, rfl⟩) <;> (try simp only [hu.b, hu.i, iB, iI, cmpB, Iv.val_sym, Iv.val_lit, Lv.raw, Tv.raw, decide_eq_true_eq, decide_eq_false_iff_not, beq_iff_eq, beq_eq_false_iff_ne, ne_eq, ofN, Int.toNat_zero, Int.toNat_one, Int.reduceToNat, natc, hu.s, iS, Sv.val_lit, Sv.val_sym, true_iff, false_iff, Bool.false_eq_true, bne_iff_ne, bne_eq_false_iff_eq, Bool.not_eq_true', Bool.not_eq_false', Decidable.not_not, nil_toList, ByteArray.size_empty, nilS, not_true_eq_false, not_false_eq_true, hu.l, iL, hu.t, iT, bin_add, bin_sub, bin_mul, wr_u8, wr_u16, wr_u32, wr_u64, IntKind.wrap_i64, List.length_append, List.length_cons, List.length_nil, List.nil_append, List.append_nil, List.cons_append, lvals, List.length_replicate, List.length_set, linV_val hu, Int.add_zero, Int.zero_add, Int.mul_one, Int.sub_zero, Int.zero_mul, Bool.true_eq_false, false_and, and_false, true_and, and_true] at hy) <;> (try simp only [Int.ofNat_eq_natCast] at hy) <;> (first | (have hF0 : False := by omega; exact hF0.elim) | (conv => cbv)))) | (refine CallVC.mk (Ctr.monoR ?_ (hW _ _ _ _ _ _ _ _ ?_ ?_ ?_ ?_ ?_)); ((rintro v H (⟨hd, rfl, rfl⟩ | ⟨hd, rfl, rfl⟩ | ⟨w', zs, hd, rfl, rfl⟩ | ⟨a2, w', zs, hd, rfl, rfl⟩)) <;> (try simp only [hu.b, hu.i, iB, iI, cmpB, Iv.val_sym, Iv.val_lit, Lv.raw, Tv.raw, decide_eq_true_eq, decide_eq_false_iff_not, beq_iff_eq, beq_eq_false_iff_ne, ne_eq, ofN, Int.toNat_zero, Int.toNat_one, Int.reduceToNat, natc, hu.s, iS, Sv.val_lit, Sv.val_sym, true_iff, false_iff, Bool.false_eq_true, bne_iff_ne, bne_eq_false_iff_eq, Bool.not_eq_true', Bool.not_eq_false', Decidable.not_not, nil_toList, ByteArray.size_empty, nilS, not_true_eq_false, not_false_eq_true, hu.l, iL, hu.t, iT, bin_add, bin_sub, bin_mul, wr_u8, wr_u16, wr_u32, wr_u64, IntKind.wrap_i64, List.length_append, List.length_cons, List.length_nil, List.nil_append, List.append_nil, List.cons_append, lvals, List.length_replicate, List.length_set, linV_val hu, Int.add_zero, Int.zero_add, Int.mul_one, Int.sub_zero, Int.zero_mul, Bool.true_eq_false, false_and, and_false, true_and, and_true] at hd) <;> (try simp only [Int.ofNat_eq_natCast] at hd) <;> (try simp only [hu.b, hu.i, iB, iI, cmpB, Iv.val_sym, Iv.val_lit, Lv.raw, Tv.raw, decide_eq_true_eq, decide_eq_false_iff_not, beq_iff_eq, beq_eq_false_iff_ne, ne_eq, ofN, Int.toNat_zero, Int.toNat_one, Int.reduceToNat, natc, hu.s, iS, Sv.val_lit, Sv.val_sym, true_iff, false_iff, Bool.false_eq_true, bne_iff_ne, bne_eq_false_iff_eq, Bool.not_eq_true', Bool.not_eq_false', Decidable.not_not, nil_toList, ByteArray.size_empty, nilS, not_true_eq_false, not_false_eq_true, hu.l, iL, hu.t, iT, bin_add, bin_sub, bin_mul, wr_u8, wr_u16, wr_u32, wr_u64, IntKind.wrap_i64, List.length_append, List.length_cons, List.length_nil, List.nil_append, List.append_nil, List.cons_append, lvals, List.length_replicate, List.length_set, linV_val hu, Int.add_zero, Int.zero_add, Int.mul_one, Int.sub_zero, Int.zero_mul, Bool.true_eq_false, false_and, and_false, true_and, and_true] at hd) <;> (try simp only [Int.ofNat_eq_natCast] at hd) <;> (try simp only [hu.b, hu.i, iB, iI, cmpB, Iv.val_sym, Iv.val_lit, Lv.raw, Tv.raw, decide_eq_true_eq, decide_eq_false_iff_not, beq_iff_eq, beq_eq_false_iff_ne, ne_eq, ofN, Int.toNat_zero, Int.toNat_one, Int.reduceToNat, natc, hu.s, iS, Sv.val_lit, Sv.val_sym, true_iff, false_iff, Bool.false_eq_true, bne_iff_ne, bne_eq_false_iff_eq, Bool.not_eq_true', Bool.not_eq_false', Decidable.not_not, nil_toList, ByteArray.size_empty, nilS, not_true_eq_false, not_false_eq_true, hu.l, iL, hu.t, iT, bin_add, bin_sub, bin_mul, wr_u8, wr_u16, wr_u32, wr_u64, IntKind.wrap_i64, List.length_append, List.length_cons, List.length_nil, List.nil_append, List.append_nil, List.cons_append, lvals, List.length_replicate, List.length_set, linV_val hu, Int.add_zero, Int.zero_add, Int.mul_one, Int.sub_zero, Int.zero_mul, Bool.true_eq_false, false_and, and_false, true_and, and_true] at hd) <;> (try simp only [Int.ofNat_eq_natCast] at hd) <;> (try simp only [hu.b, hu.i, iB, iI, cmpB, Iv.val_sym, Iv.val_lit, Lv.raw, Tv.raw, decide_eq_true_eq, decide_eq_false_iff_not, beq_iff_eq, beq_eq_false_iff_ne, ne_eq, ofN, Int.toNat_zero, Int.toNat_one, Int.reduceToNat, natc, hu.s, iS, Sv.val_lit, Sv.val_sym, true_iff, false_iff, Bool.false_eq_true, bne_iff_ne, bne_eq_false_iff_eq, Bool.not_eq_true', Bool.not_eq_false', Decidable.not_not, nil_toList, ByteArray.size_empty, nilS, not_true_eq_false, not_false_eq_true, hu.l, iL, hu.t, iT, bin_add, bin_sub, bin_mul, wr_u8, wr_u16, wr_u32, wr_u64, IntKind.wrap_i64, List.length_append, List.length_cons, List.length_nil, List.nil_append, List.append_nil, List.cons_append, lvals, List.length_replicate, List.length_set, linV_val hu, Int.add_zero, Int.zero_add, Int.mul_one, Int.sub_zero, Int.zero_mul, Bool.true_eq_false, false_and, and_false, true_and, and_true] at hd) <;> (try simp only [Int.ofNat_eq_natCast] at hd) <;> (first | (have hF0 : False := by omega; exact hF0.elim) | (conv => cbv)))) | (refine CallVC.mk (Ctr.monoR ?_ (hU _ _ _ _ _ _)); ((rintro v H ⟨rfl, rfl⟩) <;> (conv => cbv))) | (refine CallVC.mk (Ctr.monoR ?_ (hR2 _ _ _ _ _ _ _ ?_)); ((rintro v H ⟨us, (⟨hr, rfl, rfl⟩ | ⟨hr, rfl, rfl⟩ | ⟨hr, rfl, rfl⟩)⟩) <;> (try simp only [hu.b, hu.i, iB, iI, cmpB, Iv.val_sym, Iv.val_lit, Lv.raw, Tv.raw, decide_eq_true_eq, decide_eq_false_iff_not, beq_iff_eq, beq_eq_false_iff_ne, ne_eq, ofN, Int.toNat_zero, Int.toNat_one, Int.reduceToNat, natc, hu.s, iS, Sv.val_lit, Sv.val_sym, true_iff, false_iff, Bool.false_eq_true, bne_iff_ne, bne_eq_false_iff_eq, Bool.not_eq_true', Bool.not_eq_false', Decidable.not_not, nil_toList, ByteArray.size_empty, nilS, not_true_eq_false, not_false_eq_true, hu.l, iL, hu.t, iT, bin_add, bin_sub, bin_mul, wr_u8, wr_u16, wr_u32, wr_u64, IntKind.wrap_i64, List.length_append, List.length_cons, List.length_nil, List.nil_append, List.append_nil, List.cons_append, lvals, List.length_replicate, List.length_set, linV_val hu, Int.add_zero, Int.zero_add, Int.mul_one, Int.sub_zero, Int.zero_mul, Bool.true_eq_false, false_and, and_false, true_and, and_true] at hr) <;> (try simp only [Int.ofNat_eq_natCast] at hr) <;> (try simp only [hu.b, hu.i, iB, iI, cmpB, Iv.val_sym, Iv.val_lit, Lv.raw, Tv.raw, decide_eq_true_eq, decide_eq_false_iff_not, beq_iff_eq, beq_eq_false_iff_ne, ne_eq, ofN, Int.toNat_zero, Int.toNat_one, Int.reduceToNat, natc, hu.s, iS, Sv.val_lit, Sv.val_sym, true_iff, false_iff, Bool.false_eq_true, bne_iff_ne, bne_eq_false_iff_eq, Bool.not_eq_true', Bool.not_eq_false', Decidable.not_not, nil_toList, ByteArray.size_empty, nilS, not_true_eq_false, not_false_eq_true, hu.l, iL, hu.t, iT, bin_add, bin_sub, bin_mul, wr_u8, wr_u16, wr_u32, wr_u64, IntKind.wrap_i64, List.length_append, List.length_cons, List.length_nil, List.nil_append, List.append_nil, List.cons_append, lvals, List.length_replicate, List.length_set, linV_val hu, Int.add_zero, Int.zero_add, Int.mul_one, Int.sub_zero, Int.zero_mul, Bool.true_eq_false, false_and, and_false, true_and, and_true] at hr) <;> (try simp only [Int.ofNat_eq_natCast] at hr) <;> (try simp only [hu.b, hu.i, iB, iI, cmpB, Iv.val_sym, Iv.val_lit, Lv.raw, Tv.raw, decide_eq_true_eq, decide_eq_false_iff_not, beq_iff_eq, beq_eq_false_iff_ne, ne_eq, ofN, Int.toNat_zero, Int.toNat_one, Int.reduceToNat, natc, hu.s, iS, Sv.val_lit, Sv.val_sym, true_iff, false_iff, Bool.false_eq_true, bne_iff_ne, bne_eq_false_iff_eq, Bool.not_eq_true', Bool.not_eq_false', Decidable.not_not, nil_toList, ByteArray.size_empty, nilS, not_true_eq_false, not_false_eq_true, hu.l, iL, hu.t, iT, bin_add, bin_sub, bin_mul, wr_u8, wr_u16, wr_u32, wr_u64, IntKind.wrap_i64, List.length_append, List.length_cons, List.length_nil, List.nil_append, List.append_nil, List.cons_append, lvals, List.length_replicate, List.length_set, linV_val hu, Int.add_zero, Int.zero_add, Int.mul_one, Int.sub_zero, Int.zero_mul, Bool.true_eq_false, false_and, and_false, true_and, and_true] at hr) <;> (try simp only [Int.ofNat_eq_natCast] at hr) <;> (first | (have hF0 : False := by omega; exact hF0.elim) | (conv => cbv)))) | (refine CallVC.mk (Ctr.monoR ?_ (hC _)); ((rintro v H ⟨rfl, rfl⟩) <;> (conv => cbv))) | (refine CallVC.mk (Ctr.monoR ?_ (hC1)); ((rintro v H ⟨rfl, rfl⟩) <;> (conv => cbv))) | (refine CallVC.mk (Ctr.monoR ?_ (hD _ _ _ _ _ _)); ((rintro v H ⟨rfl, rfl⟩) <;> (conv => cbv))) | (refine Gen0.mk ?_; (conv => cbv)) | (simp only [hu.b, hu.i, iB, iI, cmpB, Iv.val_sym, Iv.val_lit, Lv.raw, Tv.raw, decide_eq_true_eq, decide_eq_false_iff_not, beq_iff_eq, beq_eq_false_iff_ne, ne_eq, ofN, Int.toNat_zero, Int.toNat_one, Int.reduceToNat, natc, hu.s, iS, Sv.val_lit, Sv.val_sym, true_iff, false_iff, Bool.false_eq_true, bne_iff_ne, bne_eq_false_iff_eq, Bool.not_eq_true', Bool.not_eq_false', Decidable.not_not, nil_toList, ByteArray.size_empty, nilS, not_true_eq_false, not_false_eq_true, hu.l, iL, hu.t, iT, bin_add, bin_sub, bin_mul, wr_u8, wr_u16, wr_u32, wr_u64, IntKind.wrap_i64, List.length_append, List.length_cons, List.length_nil, List.nil_append, List.append_nil, List.cons_append, lvals, List.length_replicate, List.length_set, linV_val hu, Int.add_zero, Int.zero_add, Int.mul_one, Int.sub_zero, Int.zero_mul, Bool.true_eq_false, false_and, and_false, true_and, and_true]; (try simp only [Int.ofNat_eq_natCast]); done) | ((try simp only [hu.b, hu.i, iB, iI, cmpB, Iv.val_sym, Iv.val_lit, Lv.raw, Tv.raw, decide_eq_true_eq, decide_eq_false_iff_not, beq_iff_eq, beq_eq_false_iff_ne, ne_eq, ofN, Int.toNat_zero, Int.toNat_one, Int.reduceToNat, natc, hu.s, iS, Sv.val_lit, Sv.val_sym, true_iff, false_iff, Bool.false_eq_true, bne_iff_ne, bne_eq_false_iff_eq, Bool.not_eq_true', Bool.not_eq_false', Decidable.not_not, nil_toList, ByteArray.size_empty, nilS, not_true_eq_false, not_false_eq_true, hu.l, iL, hu.t, iT, bin_add, bin_sub, bin_mul, wr_u8, wr_u16, wr_u32, wr_u64, IntKind.wrap_i64, List.length_append, List.length_cons, List.length_nil, List.nil_append, List.append_nil, List.cons_append, lvals, List.length_replicate, List.length_set, linV_val hu, Int.add_zero, Int.zero_add, Int.mul_one, Int.sub_zero, Int.zero_mul, Bool.true_eq_false, false_and, and_false, true_and, and_true]) <;> (try simp only [Int.ofNat_eq_natCast]) <;> omega))
  all_goals clear hN hS hA hW hR2 hU hO hC hC1 hD
  all_goals
    have e3 : k' = 3 := by omega
    have e4 : us = subL (splL (zer 2) 0 ((onesL 1).take 3)) 0 32 := by
      rw [hr.2.2.2, hd.2.2.2.2.2, hx.2.2.2, hy.1, e3]; rfl
    have e5 : us.getD 3 0 = 0 := by rw [e4]; decide +kernel
    have e6 : us.getD 2 0 = 1 := by rw [e4]; decide +kernel
  · subst hR
    refine Weak.of (⟨rfl, rfl⟩) ?_ ?_ (by rfl)
    all_goals ((conv => cbv); repeat' (first | exact True.intro | with_reducible rfl | (with_reducible exact fun h => h) | (with_reducible refine And.intro ?_ ?_)))
  · exact absurd e5 (by assumption)
  · exact absurd e6 (by assumption)
end Go.Proofs.YtidcdmlgojdglaaDoor
