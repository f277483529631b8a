import Derived.Test.YtdenmaiimfnbeaaDoorSx3
import Derived.KernelRfl
import Derived.Test.YtdenmaiimfnbeaaDoorProg
import Derived.WalkKit
import Derived.LaidEql
import Derived.Stop.Asserts
import Derived.RowKitTokens
import Derived.Outline
import Derived.Below
import Derived.Lib.Hide
set_option linter.all false
set_option linter.unusedSectionVars false
namespace Go.Proofs.YtdenmaiimfnbeaaDoor
open Go Sx
set_option maxRecDepth 100000
def tab : TypeId → Option TyI
  | 2 => some ⟨.int .i64, 1, 8, [.int .i64 0], [], []⟩
  | 3 => some ⟨.int .i64, 1, 8, [.int .i64 0], [], []⟩
  | 4 => some ⟨.bool, 1, 1, [.bool false], [], []⟩
  | 5 => some ⟨.int .u8, 1, 1, [.int .u8 0], [], []⟩
  | 9 => some ⟨.str, 1, 16, [.string ⟨#[]⟩], [], []⟩
  | 12 => some ⟨.int .u64, 1, 8, [.int .u64 0], [], []⟩
  | 13 => some ⟨.struct [(0, 9), (1, 12)], 2, 24, [.string ⟨#[]⟩, .int .u64 0], [], []⟩
  | 20 => some ⟨.iface, 1, 16, [.nilIface], [], []⟩
  | 21 => some ⟨.int .i32, 1, 4, [.int .i32 0], [], []⟩
  | 22 => some ⟨.slice 5, 1, 24, [.slice none 0 0], [], []⟩
  | 23 => some ⟨.struct [(0, 3), (1, 3), (2, 3), (3, 9), (4, 9), (5, 9), (6, 22)], 7, 96, [.int .i64 0, .int .i64 0, .int .i64 0, .string ⟨#[]⟩, .string ⟨#[]⟩, .string ⟨#[]⟩, .slice none 0 0], [], []⟩
  | 24 => some ⟨.struct [(0, 3), (1, 3), (2, 3), (3, 9), (4, 9), (5, 9), (6, 22)], 7, 96, [.int .i64 0, .int .i64 0, .int .i64 0, .string ⟨#[]⟩, .string ⟨#[]⟩, .string ⟨#[]⟩, .slice none 0 0], [], []⟩
  | 25 => some ⟨.struct [(0, 3), (1, 9), (2, 22)], 3, 48, [.int .i64 0, .string ⟨#[]⟩, .slice none 0 0], [], []⟩
  | 26 => some ⟨.struct [(0, 3), (1, 9), (2, 22)], 3, 48, [.int .i64 0, .string ⟨#[]⟩, .slice none 0 0], [], []⟩
  | 29 => some ⟨.iface, 1, 16, [.nilIface], [], []⟩
  | 30 => some ⟨.iface, 1, 16, [.nilIface], [], []⟩
  | 49 => some ⟨.slice 22, 1, 24, [.slice none 0 0], [], []⟩
  | 54 => some ⟨.int .i64, 1, 8, [.int .i64 0], [], []⟩
  | 59 => some ⟨.ptr 54, 1, 8, [.pointer none], [], []⟩
  | 60 => some ⟨.ptr 64, 1, 8, [.pointer none], [], []⟩
  | 61 => some ⟨.struct [(0, 22), (1, 3)], 2, 32, [.slice none 0 0, .int .i64 0], [], []⟩
  | 62 => some ⟨.struct [(0, 22), (1, 3)], 2, 32, [.slice none 0 0, .int .i64 0], [], []⟩
  | 63 => some ⟨.struct [(0, 62), (2, 30)], 3, 48, [.slice none 0 0, .int .i64 0, .nilIface], [], []⟩
  | 64 => some ⟨.struct [(0, 62), (2, 30)], 3, 48, [.slice none 0 0, .int .i64 0, .nilIface], [], []⟩
  | 68 => some ⟨.ptr 71, 1, 8, [.pointer none], [], []⟩
  | 69 => some ⟨.ptr 68, 1, 8, [.pointer none], [], []⟩
  | 70 => some ⟨.struct [(0, 3), (1, 30)], 2, 24, [.int .i64 0, .nilIface], [], []⟩
  | 71 => some ⟨.struct [(0, 3), (1, 30)], 2, 24, [.int .i64 0, .nilIface], [], []⟩
  | 72 => some ⟨.int .u64, 1, 8, [.int .u64 0], [], []⟩
  | 94 => some ⟨.iface, 1, 16, [.nilIface], [], []⟩
  | 97 => some ⟨.iface, 1, 16, [.nilIface], [], []⟩
  | 98 => some ⟨.iface, 1, 16, [.nilIface], [], []⟩
  | 99 => some ⟨.slice 30, 1, 24, [.slice none 0 0], [], []⟩
  | 101 => some ⟨.ptr 62, 1, 8, [.pointer none], [], []⟩
  | 110 => some ⟨.int .u32, 1, 4, [.int .u32 0], [], []⟩
  | 113 => some ⟨.ptr 5, 1, 8, [.pointer none], [], []⟩
  | 124 => some ⟨.int .u16, 1, 2, [.int .u16 0], [], []⟩
  | 131 => some ⟨.ptr 30, 1, 8, [.pointer none], [], []⟩
  | _ => none
theorem ty2 : TyOk Tryd.prog 2 ⟨.int .i64, 1, 8, [.int .i64 0], [], []⟩ :=
  TyOk.mk' (by kernel_rfl) (by kernel_rfl) (by kernel_rfl) ((by kernel_rfl : Tryd.prog.underlying 2 = _)) (fun h => absurd rfl h)
theorem ty3 : TyOk Tryd.prog 3 ⟨.int .i64, 1, 8, [.int .i64 0], [], []⟩ :=
  TyOk.mk' (by kernel_rfl) (by kernel_rfl) (by kernel_rfl) ((by kernel_rfl : Tryd.prog.underlying 3 = _)) (fun h => absurd rfl h)
theorem ty4 : TyOk Tryd.prog 4 ⟨.bool, 1, 1, [.bool false], [], []⟩ :=
  TyOk.mk' (by kernel_rfl) (by kernel_rfl) (by kernel_rfl) ((by kernel_rfl : Tryd.prog.underlying 4 = _)) (fun h => absurd rfl h)
theorem ty5 : TyOk Tryd.prog 5 ⟨.int .u8, 1, 1, [.int .u8 0], [], []⟩ :=
  TyOk.mk' (by kernel_rfl) (by kernel_rfl) (by kernel_rfl) ((by kernel_rfl : Tryd.prog.underlying 5 = _)) (fun h => absurd rfl h)
theorem ty9 : TyOk Tryd.prog 9 ⟨.str, 1, 16, [.string ⟨#[]⟩], [], []⟩ :=
  TyOk.mk' (by kernel_rfl) (by kernel_rfl) (by kernel_rfl) ((by kernel_rfl : Tryd.prog.underlying 9 = _)) (fun h => absurd rfl h)
theorem ty12 : TyOk Tryd.prog 12 ⟨.int .u64, 1, 8, [.int .u64 0], [], []⟩ :=
  TyOk.mk' (by kernel_rfl) (by kernel_rfl) (by kernel_rfl) ((by kernel_rfl : Tryd.prog.underlying 12 = _)) (fun h => absurd rfl h)
theorem ty13 : TyOk Tryd.prog 13 ⟨.struct [(0, 9), (1, 12)], 2, 24, [.string ⟨#[]⟩, .int .u64 0], [], []⟩ :=
  TyOk.mk' (by kernel_rfl) (by kernel_rfl) (by kernel_rfl) (⟨Tryd.prog.fieldsOf 13, by kernel_rfl, by kernel_rfl⟩) (fun h => absurd rfl h)
theorem ty20 : TyOk Tryd.prog 20 ⟨.iface, 1, 16, [.nilIface], [], []⟩ :=
  TyOk.mk' (by kernel_rfl) (by kernel_rfl) (by kernel_rfl) (DOk.iface_of (by kernel_rfl)) (fun h => absurd rfl h)
theorem ty21 : TyOk Tryd.prog 21 ⟨.int .i32, 1, 4, [.int .i32 0], [], []⟩ :=
  TyOk.mk' (by kernel_rfl) (by kernel_rfl) (by kernel_rfl) ((by kernel_rfl : Tryd.prog.underlying 21 = _)) (fun h => absurd rfl h)
theorem ty22 : TyOk Tryd.prog 22 ⟨.slice 5, 1, 24, [.slice none 0 0], [], []⟩ :=
  TyOk.mk' (by kernel_rfl) (by kernel_rfl) (by kernel_rfl) ((by kernel_rfl : Tryd.prog.underlying 22 = _)) (fun h => absurd rfl h)
theorem ty23 : TyOk Tryd.prog 23 ⟨.struct [(0, 3), (1, 3), (2, 3), (3, 9), (4, 9), (5, 9), (6, 22)], 7, 96, [.int .i64 0, .int .i64 0, .int .i64 0, .string ⟨#[]⟩, .string ⟨#[]⟩, .string ⟨#[]⟩, .slice none 0 0], [], []⟩ :=
  TyOk.mk' (by kernel_rfl) (by kernel_rfl) (by kernel_rfl) (⟨Tryd.prog.fieldsOf 23, by kernel_rfl, by kernel_rfl⟩) (fun h => absurd rfl h)
theorem ty24 : TyOk Tryd.prog 24 ⟨.struct [(0, 3), (1, 3), (2, 3), (3, 9), (4, 9), (5, 9), (6, 22)], 7, 96, [.int .i64 0, .int .i64 0, .int .i64 0, .string ⟨#[]⟩, .string ⟨#[]⟩, .string ⟨#[]⟩, .slice none 0 0], [], []⟩ :=
  TyOk.mk' (by kernel_rfl) (by kernel_rfl) (by kernel_rfl) (⟨Tryd.prog.fieldsOf 24, by kernel_rfl, by kernel_rfl⟩) (fun h => absurd rfl h)
theorem ty25 : TyOk Tryd.prog 25 ⟨.struct [(0, 3), (1, 9), (2, 22)], 3, 48, [.int .i64 0, .string ⟨#[]⟩, .slice none 0 0], [], []⟩ :=
  TyOk.mk' (by kernel_rfl) (by kernel_rfl) (by kernel_rfl) (⟨Tryd.prog.fieldsOf 25, by kernel_rfl, by kernel_rfl⟩) (fun h => absurd rfl h)
theorem ty26 : TyOk Tryd.prog 26 ⟨.struct [(0, 3), (1, 9), (2, 22)], 3, 48, [.int .i64 0, .string ⟨#[]⟩, .slice none 0 0], [], []⟩ :=
  TyOk.mk' (by kernel_rfl) (by kernel_rfl) (by kernel_rfl) (⟨Tryd.prog.fieldsOf 26, by kernel_rfl, by kernel_rfl⟩) (fun h => absurd rfl h)
theorem ty29 : TyOk Tryd.prog 29 ⟨.iface, 1, 16, [.nilIface], [], []⟩ :=
  TyOk.mk' (by kernel_rfl) (by kernel_rfl) (by kernel_rfl) (DOk.iface_of (by kernel_rfl)) (fun h => absurd rfl h)
theorem ty30 : TyOk Tryd.prog 30 ⟨.iface, 1, 16, [.nilIface], [], []⟩ :=
  TyOk.mk' (by kernel_rfl) (by kernel_rfl) (by kernel_rfl) (DOk.iface_of (by kernel_rfl)) (fun h => absurd rfl h)
theorem ty49 : TyOk Tryd.prog 49 ⟨.slice 22, 1, 24, [.slice none 0 0], [], []⟩ :=
  TyOk.mk' (by kernel_rfl) (by kernel_rfl) (by kernel_rfl) ((by kernel_rfl : Tryd.prog.underlying 49 = _)) (fun h => absurd rfl h)
theorem ty54 : TyOk Tryd.prog 54 ⟨.int .i64, 1, 8, [.int .i64 0], [], []⟩ :=
  TyOk.mk' (by kernel_rfl) (by kernel_rfl) (by kernel_rfl) ((by kernel_rfl : Tryd.prog.underlying 54 = _)) (fun h => absurd rfl h)
theorem ty59 : TyOk Tryd.prog 59 ⟨.ptr 54, 1, 8, [.pointer none], [], []⟩ :=
  TyOk.mk' (by kernel_rfl) (by kernel_rfl) (by kernel_rfl) ((by kernel_rfl : Tryd.prog.underlying 59 = _)) (fun h => absurd rfl h)
theorem ty60 : TyOk Tryd.prog 60 ⟨.ptr 64, 1, 8, [.pointer none], [], []⟩ :=
  TyOk.mk' (by kernel_rfl) (by kernel_rfl) (by kernel_rfl) ((by kernel_rfl : Tryd.prog.underlying 60 = _)) (fun h => absurd rfl h)
theorem ty61 : TyOk Tryd.prog 61 ⟨.struct [(0, 22), (1, 3)], 2, 32, [.slice none 0 0, .int .i64 0], [], []⟩ :=
  TyOk.mk' (by kernel_rfl) (by kernel_rfl) (by kernel_rfl) (⟨Tryd.prog.fieldsOf 61, by kernel_rfl, by kernel_rfl⟩) (fun h => absurd rfl h)
theorem ty62 : TyOk Tryd.prog 62 ⟨.struct [(0, 22), (1, 3)], 2, 32, [.slice none 0 0, .int .i64 0], [], []⟩ :=
  TyOk.mk' (by kernel_rfl) (by kernel_rfl) (by kernel_rfl) (⟨Tryd.prog.fieldsOf 62, by kernel_rfl, by kernel_rfl⟩) (fun h => absurd rfl h)
theorem ty63 : TyOk Tryd.prog 63 ⟨.struct [(0, 62), (2, 30)], 3, 48, [.slice none 0 0, .int .i64 0, .nilIface], [], []⟩ :=
  TyOk.mk' (by kernel_rfl) (by kernel_rfl) (by kernel_rfl) (⟨Tryd.prog.fieldsOf 63, by kernel_rfl, by kernel_rfl⟩) (fun h => absurd rfl h)
theorem ty64 : TyOk Tryd.prog 64 ⟨.struct [(0, 62), (2, 30)], 3, 48, [.slice none 0 0, .int .i64 0, .nilIface], [], []⟩ :=
  TyOk.mk' (by kernel_rfl) (by kernel_rfl) (by kernel_rfl) (⟨Tryd.prog.fieldsOf 64, by kernel_rfl, by kernel_rfl⟩) (fun h => absurd rfl h)
theorem ty68 : TyOk Tryd.prog 68 ⟨.ptr 71, 1, 8, [.pointer none], [], []⟩ :=
  TyOk.mk' (by kernel_rfl) (by kernel_rfl) (by kernel_rfl) ((by kernel_rfl : Tryd.prog.underlying 68 = _)) (fun h => absurd rfl h)
theorem ty69 : TyOk Tryd.prog 69 ⟨.ptr 68, 1, 8, [.pointer none], [], []⟩ :=
  TyOk.mk' (by kernel_rfl) (by kernel_rfl) (by kernel_rfl) ((by kernel_rfl : Tryd.prog.underlying 69 = _)) (fun h => absurd rfl h)
theorem ty70 : TyOk Tryd.prog 70 ⟨.struct [(0, 3), (1, 30)], 2, 24, [.int .i64 0, .nilIface], [], []⟩ :=
  TyOk.mk' (by kernel_rfl) (by kernel_rfl) (by kernel_rfl) (⟨Tryd.prog.fieldsOf 70, by kernel_rfl, by kernel_rfl⟩) (fun h => absurd rfl h)
theorem ty71 : TyOk Tryd.prog 71 ⟨.struct [(0, 3), (1, 30)], 2, 24, [.int .i64 0, .nilIface], [], []⟩ :=
  TyOk.mk' (by kernel_rfl) (by kernel_rfl) (by kernel_rfl) (⟨Tryd.prog.fieldsOf 71, by kernel_rfl, by kernel_rfl⟩) (fun h => absurd rfl h)
theorem ty72 : TyOk Tryd.prog 72 ⟨.int .u64, 1, 8, [.int .u64 0], [], []⟩ :=
  TyOk.mk' (by kernel_rfl) (by kernel_rfl) (by kernel_rfl) ((by kernel_rfl : Tryd.prog.underlying 72 = _)) (fun h => absurd rfl h)
theorem ty94 : TyOk Tryd.prog 94 ⟨.iface, 1, 16, [.nilIface], [], []⟩ :=
  TyOk.mk' (by kernel_rfl) (by kernel_rfl) (by kernel_rfl) (DOk.iface_of (by kernel_rfl)) (fun h => absurd rfl h)
theorem ty97 : TyOk Tryd.prog 97 ⟨.iface, 1, 16, [.nilIface], [], []⟩ :=
  TyOk.mk' (by kernel_rfl) (by kernel_rfl) (by kernel_rfl) (DOk.iface_of (by kernel_rfl)) (fun h => absurd rfl h)
theorem ty98 : TyOk Tryd.prog 98 ⟨.iface, 1, 16, [.nilIface], [], []⟩ :=
  TyOk.mk' (by kernel_rfl) (by kernel_rfl) (by kernel_rfl) (DOk.iface_of (by kernel_rfl)) (fun h => absurd rfl h)
theorem ty99 : TyOk Tryd.prog 99 ⟨.slice 30, 1, 24, [.slice none 0 0], [], []⟩ :=
  TyOk.mk' (by kernel_rfl) (by kernel_rfl) (by kernel_rfl) ((by kernel_rfl : Tryd.prog.underlying 99 = _)) (fun h => absurd rfl h)
theorem ty101 : TyOk Tryd.prog 101 ⟨.ptr 62, 1, 8, [.pointer none], [], []⟩ :=
  TyOk.mk' (by kernel_rfl) (by kernel_rfl) (by kernel_rfl) ((by kernel_rfl : Tryd.prog.underlying 101 = _)) (fun h => absurd rfl h)
theorem ty110 : TyOk Tryd.prog 110 ⟨.int .u32, 1, 4, [.int .u32 0], [], []⟩ :=
  TyOk.mk' (by kernel_rfl) (by kernel_rfl) (by kernel_rfl) ((by kernel_rfl : Tryd.prog.underlying 110 = _)) (fun h => absurd rfl h)
theorem ty113 : TyOk Tryd.prog 113 ⟨.ptr 5, 1, 8, [.pointer none], [], []⟩ :=
  TyOk.mk' (by kernel_rfl) (by kernel_rfl) (by kernel_rfl) ((by kernel_rfl : Tryd.prog.underlying 113 = _)) (fun h => absurd rfl h)
theorem ty124 : TyOk Tryd.prog 124 ⟨.int .u16, 1, 2, [.int .u16 0], [], []⟩ :=
  TyOk.mk' (by kernel_rfl) (by kernel_rfl) (by kernel_rfl) ((by kernel_rfl : Tryd.prog.underlying 124 = _)) (fun h => absurd rfl h)
theorem ty131 : TyOk Tryd.prog 131 ⟨.ptr 30, 1, 8, [.pointer none], [], []⟩ :=
  TyOk.mk' (by kernel_rfl) (by kernel_rfl) (by kernel_rfl) ((by kernel_rfl : Tryd.prog.underlying 131 = _)) (fun h => absurd rfl h)
theorem tabOk : TabOk Tryd.prog tab := by
  intro t i h
  unfold tab at h
  split at h
  · cases h; exact ty2
  · cases h; exact ty3
  · cases h; exact ty4
  · cases h; exact ty5
  · cases h; exact ty9
  · cases h; exact ty12
  · cases h; exact ty13
  · cases h; exact ty20
  · cases h; exact ty21
  · cases h; exact ty22
  · cases h; exact ty23
  · cases h; exact ty24
  · cases h; exact ty25
  · cases h; exact ty26
  · cases h; exact ty29
  · cases h; exact ty30
  · cases h; exact ty49
  · cases h; exact ty54
  · cases h; exact ty59
  · cases h; exact ty60
  · cases h; exact ty61
  · cases h; exact ty62
  · cases h; exact ty63
  · cases h; exact ty64
  · cases h; exact ty68
  · cases h; exact ty69
  · cases h; exact ty70
  · cases h; exact ty71
  · cases h; exact ty72
  · cases h; exact ty94
  · cases h; exact ty97
  · cases h; exact ty98
  · cases h; exact ty99
  · cases h; exact ty101
  · cases h; exact ty110
  · cases h; exact ty113
  · cases h; exact ty124
  · cases h; exact ty131
  · cases h
end Go.Proofs.YtdenmaiimfnbeaaDoor
namespace Go.Proofs.YtdenmaiimfnbeaaDoor
open Go Go.RowKit Go.Extern.Stop Go.Stop Go.Extern
set_option maxRecDepth 100000
namespace AsW
theorem valueOfPE (t : Addr) (w : World) : (ReflectliteValue.unpack (.iface 59 (.pointer (some t)))).run Tryd.prog w
    = .ok (.agg #[.pointer (some ⟨1, 59, none⟩), .pointer (some ⟨w.heap.size, 0, none⟩), .int .u64 150]) (w.alloc (.cells #[.pointer (some t)] 59)) := by kernel_rfl
theorem typePE (a : Addr) (w : World) : (ReflectliteValue.methodAny (ReflectliteValue.valueError "reflectlite.Value.Type" 0) (fun t _ _ _ => ReflectliteType.toType t) #[.agg #[.pointer (some ⟨1, 59, none⟩), .pointer (some a), .int .u64 150]]).run Tryd.prog w
    = .ok (.iface 89 (.agg #[.pointer (some ⟨1, 59, none⟩)])) w := by kernel_rfl
theorem methodKind (h : Value) (w : World) : (Go.method 232 89 (.agg #[h]) "Kind").run Tryd.prog w = .ok (58, h) w := by kernel_rfl
theorem kindPE (w : World) : ((ReflectliteType.abiMethod fun t => (fun a : Nat => Value.int IntKind.u8 (a : Int)) <$> Rtype.kind t) #[.pointer (some ⟨1, 59, none⟩)]).run Tryd.prog w = .ok (.int .u8 22) w := by kernel_rfl
theorem kindE (w : World) : ((ReflectliteType.abiMethod fun t => (fun a : Nat => Value.int IntKind.u8 (a : Int)) <$> Rtype.kind t) #[.pointer (some ⟨1, 54, none⟩)]).run Tryd.prog w = .ok (.int .u8 2) w := by kernel_rfl
theorem rlm (z : Sem Value) (f : TypeId → Addr → Nat → Nat → Sem Value) (v : Value) :
    ReflectliteValue.method z f #[v] = (do match ← ReflectliteValue.parts v with | none => z | some (t, a, fl) => f t a fl (fl % 32)) := rfl
theorem partsPE (a : Addr) (w : World) : (ReflectliteValue.parts (.agg #[.pointer (some ⟨1, 59, none⟩), .pointer (some a), .int .u64 150])).run Tryd.prog w = .ok (some (59, a, 150)) w := by kernel_rfl
theorem isNilPE (a p : Addr) (W : World) (ha : W.cell? a = some (.pointer (some p))) :
    (ReflectliteValue.method (ReflectliteValue.valueError "reflectlite.Value.IsNil" 0) ReflectliteValue.isNil #[.agg #[.pointer (some ⟨1, 59, none⟩), .pointer (some a), .int .u64 150]]).run Tryd.prog W = .ok (.bool false) W := by
  rw [rlm]
  simp only [Sem.run_bind, partsPE, Result.andThen]
  simp [ReflectliteValue.isNil, loadVar, isAgg, underlying, Tryd.underlying59, ha, Result.andThen]
theorem methodElem (h : Value) (w : World) : (Go.method 232 89 (.agg #[h]) "Elem").run Tryd.prog w = .ok (70, .agg #[h]) w := by kernel_rfl
theorem methodImplements (h : Value) (w : World) : (Go.method 232 89 (.agg #[h]) "Implements").run Tryd.prog w = .ok (71, .agg #[h]) w := by kernel_rfl
theorem methodAssignableTo (h : Value) (w : World) : (Go.method 232 89 (.agg #[h]) "AssignableTo").run Tryd.prog w = .ok (68, .agg #[h]) w := by kernel_rfl
theorem elemPE (w : World) : (ReflectliteType.method ReflectliteType.elem #[.agg #[.pointer (some ⟨1, 59, none⟩)]]).run Tryd.prog w = .ok (.iface 89 (.agg #[.pointer (some ⟨1, 54, none⟩)])) w := by kernel_rfl
theorem implementsE (w : World) : (ReflectliteType.relation "Implements" ReflectliteType.implements_ #[.agg #[.pointer (some ⟨1, 54, none⟩)], .iface 89 (.agg #[.pointer (some ⟨1, 30, none⟩)])]).run Tryd.prog w = .ok (.bool true) w := by kernel_rfl
theorem typeOfE (v : Value) (w : World) : (ReflectliteType.typeOf #[.iface 54 v]).run Tryd.prog w = .ok (.iface 89 (.agg #[.pointer (some ⟨1, 54, none⟩)])) w := by kernel_rfl
theorem assignableEE (w : World) : (ReflectliteType.relation "AssignableTo" ReflectliteType.assignableTo #[.agg #[.pointer (some ⟨1, 54, none⟩)], .iface 89 (.agg #[.pointer (some ⟨1, 54, none⟩)])]).run Tryd.prog w = .ok (.bool true) w := by kernel_rfl
theorem valueOfE (n : Int) (w : World) : (ReflectliteValue.unpack (.iface 54 (.int .i64 n))).run Tryd.prog w
    = .ok (.agg #[.pointer (some ⟨1, 54, none⟩), .pointer (some ⟨w.heap.size, 0, none⟩), .int .u64 130]) (w.alloc (.cells #[.int .i64 n] 54)) := by kernel_rfl
theorem elemOfPE (w : World) : (Rtype.elem? 59).run Tryd.prog w = .ok (some 54) w := by kernel_rfl
theorem mkE (p : Addr) (w : World) : (ReflectliteValue.mk 54 p ReflectliteValue.flagAddr).run Tryd.prog w = .ok (.agg #[.pointer (some ⟨1, 54, none⟩), .pointer (some p), .int .u64 386]) w := by kernel_rfl
theorem elemVPE (a p : Addr) (W : World) (ha : W.cell? a = some (.pointer (some p))) :
    (ReflectliteValue.method (ReflectliteValue.valueError "reflectlite.Value.Elem" 0) ReflectliteValue.elem #[.agg #[.pointer (some ⟨1, 59, none⟩), .pointer (some a), .int .u64 150]]).run Tryd.prog W
      = .ok (.agg #[.pointer (some ⟨1, 54, none⟩), .pointer (some p), .int .u64 386]) W := by
  rw [rlm]
  simp only [Sem.run_bind, partsPE, Result.andThen]
  simp [ReflectliteValue.elem, loadVar, isAgg, underlying, Tryd.underlying59, ha, Result.andThen, elemOfPE, mkE]
theorem rls (v x : Value) : ReflectliteValue.set #[v, x] = (do
    let (some (dst, a, fl), some (src, b, _)) := (← ReflectliteValue.parts v, ← ReflectliteValue.parts x)
      | unsupported (.noEntry "extern/(internal/reflectlite.Value).Set.zeroValue")
    if fl / ReflectliteValue.flagAddr % 2 == 0 then unsupported (.noEntry "extern/(internal/reflectlite.Value).Set.unaddressable")
    let val ← loadVar src b
    if ← Rtype.directlyAssignable dst src then storeVar dst a val
    else if ← Rtype.implements dst src then
      if (← Rtype.kind src) == 20 then
        match val with
        | .nilIface => unsupported (.noEntry "extern/reflectlite: a nil value of one interface type handed on as a value of another")
        | _ => storeVar dst a val
      else storeVar dst a (.iface src val)
    else panicString ("reflectlite.Set: value of type " ++ (← Rtype.spelt src) ++ " is not assignable to type " ++ (← Rtype.spelt dst))
    pure (.tuple #[])) := rfl
theorem partsEa (a : Addr) (w : World) : (ReflectliteValue.parts (.agg #[.pointer (some ⟨1, 54, none⟩), .pointer (some a), .int .u64 386])).run Tryd.prog w = .ok (some (54, a, 386)) w := by kernel_rfl
theorem partsE (a : Addr) (w : World) : (ReflectliteValue.parts (.agg #[.pointer (some ⟨1, 54, none⟩), .pointer (some a), .int .u64 130])).run Tryd.prog w = .ok (some (54, a, 130)) w := by kernel_rfl
theorem directE (w : World) : (Rtype.directlyAssignable 54 54).run Tryd.prog w = .ok true w := by kernel_rfl
theorem setE (ta b : Addr) (n : Int) (old : Value) (W : World) (hb : W.cell? b = some (.int .i64 n)) (ht : W.cell? ta = some old) (hf : W.frozen? ta = false) :
    (ReflectliteValue.set #[.agg #[.pointer (some ⟨1, 54, none⟩), .pointer (some ta), .int .u64 386], .agg #[.pointer (some ⟨1, 54, none⟩), .pointer (some b), .int .u64 130]]).run Tryd.prog W
      = .ok (.tuple #[]) (W.setCell ta (.int .i64 n)) := by
  rw [rls]
  simp only [Sem.run_bind, partsEa, partsE, Result.andThen]
  simp [ReflectliteValue.flagAddr, loadVar, isAgg, underlying, Tryd.underlying54, hb, Result.andThen, directE, storeVar, Value.cells, storeCells, Addr.add]
  rw [run_store Tryd.prog W ta _ _ (by rfl)]
  simp [ht, hf]
theorem valueOfPEF (t : Addr) (w : World) : (ReflectliteValue.unpack (.iface 69 (.pointer (some t)))).run Tryd.prog w
    = .ok (.agg #[.pointer (some ⟨1, 69, none⟩), .pointer (some ⟨w.heap.size, 0, none⟩), .int .u64 150]) (w.alloc (.cells #[.pointer (some t)] 69)) := by kernel_rfl
theorem typePEF (a : Addr) (w : World) : (ReflectliteValue.methodAny (ReflectliteValue.valueError "reflectlite.Value.Type" 0) (fun t _ _ _ => ReflectliteType.toType t) #[.agg #[.pointer (some ⟨1, 69, none⟩), .pointer (some a), .int .u64 150]]).run Tryd.prog w
    = .ok (.iface 89 (.agg #[.pointer (some ⟨1, 69, none⟩)])) w := by kernel_rfl
theorem kindPEF (w : World) : ((ReflectliteType.abiMethod fun t => (fun a : Nat => Value.int IntKind.u8 (a : Int)) <$> Rtype.kind t) #[.pointer (some ⟨1, 69, none⟩)]).run Tryd.prog w = .ok (.int .u8 22) w := by kernel_rfl
theorem partsPEF (a : Addr) (w : World) : (ReflectliteValue.parts (.agg #[.pointer (some ⟨1, 69, none⟩), .pointer (some a), .int .u64 150])).run Tryd.prog w = .ok (some (69, a, 150)) w := by kernel_rfl
theorem isNilPEF (a p : Addr) (W : World) (ha : W.cell? a = some (.pointer (some p))) :
    (ReflectliteValue.method (ReflectliteValue.valueError "reflectlite.Value.IsNil" 0) ReflectliteValue.isNil #[.agg #[.pointer (some ⟨1, 69, none⟩), .pointer (some a), .int .u64 150]]).run Tryd.prog W = .ok (.bool false) W := by
  rw [rlm]
  simp only [Sem.run_bind, partsPEF, Result.andThen]
  simp [ReflectliteValue.isNil, loadVar, isAgg, underlying, Tryd.underlying69, ha, Result.andThen]
theorem elemPEF (w : World) : (ReflectliteType.method ReflectliteType.elem #[.agg #[.pointer (some ⟨1, 69, none⟩)]]).run Tryd.prog w = .ok (.iface 89 (.agg #[.pointer (some ⟨1, 68, none⟩)])) w := by kernel_rfl
theorem implementsEF (w : World) : (ReflectliteType.relation "Implements" ReflectliteType.implements_ #[.agg #[.pointer (some ⟨1, 68, none⟩)], .iface 89 (.agg #[.pointer (some ⟨1, 30, none⟩)])]).run Tryd.prog w = .ok (.bool true) w := by kernel_rfl
theorem assignableEEF (w : World) : (ReflectliteType.relation "AssignableTo" ReflectliteType.assignableTo #[.agg #[.pointer (some ⟨1, 68, none⟩)], .iface 89 (.agg #[.pointer (some ⟨1, 68, none⟩)])]).run Tryd.prog w = .ok (.bool true) w := by kernel_rfl
theorem elemOfPEF (w : World) : (Rtype.elem? 69).run Tryd.prog w = .ok (some 68) w := by kernel_rfl
theorem typeOfEF (v : Value) (w : World) : (ReflectliteType.typeOf #[.iface 68 v]).run Tryd.prog w = .ok (.iface 89 (.agg #[.pointer (some ⟨1, 68, none⟩)])) w := by kernel_rfl
theorem kindEF (w : World) : ((ReflectliteType.abiMethod fun t => (fun a : Nat => Value.int IntKind.u8 (a : Int)) <$> Rtype.kind t) #[.pointer (some ⟨1, 68, none⟩)]).run Tryd.prog w = .ok (.int .u8 22) w := by kernel_rfl
theorem mkEF (p : Addr) (w : World) : (ReflectliteValue.mk 68 p ReflectliteValue.flagAddr).run Tryd.prog w = .ok (.agg #[.pointer (some ⟨1, 68, none⟩), .pointer (some p), .int .u64 406]) w := by kernel_rfl
theorem elemVPEF (a p : Addr) (W : World) (ha : W.cell? a = some (.pointer (some p))) :
    (ReflectliteValue.method (ReflectliteValue.valueError "reflectlite.Value.Elem" 0) ReflectliteValue.elem #[.agg #[.pointer (some ⟨1, 69, none⟩), .pointer (some a), .int .u64 150]]).run Tryd.prog W
      = .ok (.agg #[.pointer (some ⟨1, 68, none⟩), .pointer (some p), .int .u64 406]) W := by
  rw [rlm]
  simp only [Sem.run_bind, partsPEF, Result.andThen]
  simp [ReflectliteValue.elem, loadVar, isAgg, underlying, Tryd.underlying69, ha, Result.andThen, elemOfPEF, mkEF]
theorem partsEaF (a : Addr) (w : World) : (ReflectliteValue.parts (.agg #[.pointer (some ⟨1, 68, none⟩), .pointer (some a), .int .u64 406])).run Tryd.prog w = .ok (some (68, a, 406)) w := by kernel_rfl
theorem partsEF (a : Addr) (w : World) : (ReflectliteValue.parts (.agg #[.pointer (some ⟨1, 68, none⟩), .pointer (some a), .int .u64 150])).run Tryd.prog w = .ok (some (68, a, 150)) w := by kernel_rfl
theorem directEF (w : World) : (Rtype.directlyAssignable 68 68).run Tryd.prog w = .ok true w := by kernel_rfl
theorem setEF (ta b : Addr) (e : Addr) (old : Value) (W : World) (hb : W.cell? b = some (.pointer (some e))) (ht : W.cell? ta = some old) (hf : W.frozen? ta = false) :
    (ReflectliteValue.set #[.agg #[.pointer (some ⟨1, 68, none⟩), .pointer (some ta), .int .u64 406], .agg #[.pointer (some ⟨1, 68, none⟩), .pointer (some b), .int .u64 150]]).run Tryd.prog W
      = .ok (.tuple #[]) (W.setCell ta (.pointer (some e))) := by
  rw [rls]
  simp only [Sem.run_bind, partsEaF, partsEF, Result.andThen]
  simp [ReflectliteValue.flagAddr, loadVar, isAgg, underlying, Tryd.underlying68, hb, Result.andThen, directEF, storeVar, Value.cells, storeCells, Addr.add]
  rw [run_store Tryd.prog W ta _ _ (by rfl)]
  simp [ht, hf]

theorem valueOfEF (e : Addr) (w : World) : (ReflectliteValue.unpack (.iface 68 (.pointer (some e)))).run Tryd.prog w
    = .ok (.agg #[.pointer (some ⟨1, 68, none⟩), .pointer (some ⟨w.heap.size, 0, none⟩), .int .u64 150]) (w.alloc (.cells #[.pointer (some e)] 68)) := by kernel_rfl
theorem assignFE (w : World) : (ReflectliteType.relation "AssignableTo" ReflectliteType.assignableTo #[.agg #[.pointer (some ⟨1, 68, none⟩)], .iface 89 (.agg #[.pointer (some ⟨1, 54, none⟩)])]).run Tryd.prog w = .ok (.bool false) w := by kernel_rfl
theorem assignEF (w : World) : (ReflectliteType.relation "AssignableTo" ReflectliteType.assignableTo #[.agg #[.pointer (some ⟨1, 54, none⟩)], .iface 89 (.agg #[.pointer (some ⟨1, 68, none⟩)])]).run Tryd.prog w = .ok (.bool false) w := by kernel_rfl
theorem noAsF (v : Value) (w : World) : (Instr.typeAssert (.iface 68 v) 30 94 true).run Tryd.prog w = .ok (.tuple #[.nilIface, .bool false]) w := run_typeAssert_lacksB Tryd.underlying94 (by kernel_rfl) (by kernel_rfl) v _ w
theorem noAsE (v : Value) (w : World) : (Instr.typeAssert (.iface 54 v) 30 94 true).run Tryd.prog w = .ok (.tuple #[.nilIface, .bool false]) w := run_typeAssert_lacksB Tryd.underlying94 (by kernel_rfl) (by kernel_rfl) v _ w
theorem noUnE (v : Value) (w : World) : (Instr.typeAssert (.iface 54 v) 30 97 true).run Tryd.prog w = .ok (.tuple #[.nilIface, .bool false]) w := run_typeAssert_lacksB Tryd.underlying97 (by kernel_rfl) (by kernel_rfl) v _ w
theorem noUnsE (v : Value) (w : World) : (Instr.typeAssert (.iface 54 v) 30 98 true).run Tryd.prog w = .ok (.tuple #[.nilIface, .bool false]) w := run_typeAssert_lacksB Tryd.underlying98 (by kernel_rfl) (by kernel_rfl) v _ w
theorem unF (v : Value) (w : World) : (Instr.typeAssert (.iface 68 v) 30 97 true).run Tryd.prog w = .ok (.tuple #[.iface 68 v, .bool true]) w := run_typeAssert_hasB Tryd.underlying97 (by kernel_rfl) v _ w
theorem methodUn (h : Value) (w : World) : (Go.method 232 68 h "Unwrap").run Tryd.prog w = .ok (63, h) w := by kernel_rfl
/-- errors.as, the error an Errno, the target an Errno variable. -/
theorem as_hit (n : Int) (t a : Addr) (old : Value) (w : World) (ha : w.cell? a = some (.pointer (some t))) (ht0 : w.cell? t = some old) (hf0 : w.frozen? t = false) :
    Calls Tryd.prog 37 #[.iface 54 (.int .i64 n), .iface 59 (.pointer (some t)), .agg #[.pointer (some ⟨1, 59, none⟩), .pointer (some a), .int .u64 150], .iface 89 (.agg #[.pointer (some ⟨1, 54, none⟩)])] w
      fun ev w' => ev = .returned (.bool true) ∧ w' = ((w.alloc (.cells #[.pointer (some ⟨1, 59, none⟩), .pointer (some a), .int .u64 150] 76)).alloc (.cells #[.int .i64 n] 54)).setCell t (.int .i64 n) := by
  have hVO := @run_callFunc_extern Tryd.prog 34 _ (fun args => ReflectliteValue.unpack (args.getD 0 (.tuple #[]))) Tryd.func34 (by kernel_rfl) (by kernel_rfl) (by kernel_rfl) (by kernel_rfl)
  have hTO := @run_callFunc_extern Tryd.prog 41 _ ReflectliteType.typeOf Tryd.func41 (by kernel_rfl) (by kernel_rfl) (by kernel_rfl) (by kernel_rfl)
  have hAT := @run_callFunc_extern Tryd.prog 68 _ (ReflectliteType.relation "AssignableTo" ReflectliteType.assignableTo) Tryd.func68 (by kernel_rfl) (by kernel_rfl) (by kernel_rfl) (by kernel_rfl)
  have hVE := @run_callFunc_extern Tryd.prog 42 _ (ReflectliteValue.method (ReflectliteValue.valueError "reflectlite.Value.Elem" 0) ReflectliteValue.elem) Tryd.func42 (by kernel_rfl) (by kernel_rfl) (by kernel_rfl) (by kernel_rfl)
  have hVS := @run_callFunc_extern Tryd.prog 43 _ ReflectliteValue.set Tryd.func43 (by kernel_rfl) (by kernel_rfl) (by kernel_rfl) (by kernel_rfl)
  have tO := typeOfE
  have mA := methodAssignableTo
  have aE := assignableEE
  have vE := valueOfE
  have hal : a.block < w.heap.size := by
    rcases Nat.lt_or_ge a.block w.heap.size with h | h
    · exact h
    · simp [World.cell?, Array.getElem?_eq_none h] at ha
  have htl : t.block < w.heap.size := by
    rcases Nat.lt_or_ge t.block w.heap.size with h | h
    · exact h
    · simp [World.cell?, Array.getElem?_eq_none h] at ht0
  have el := elemVPE a t (w.alloc (.cells #[.pointer (some ⟨1, 59, none⟩), .pointer (some a), .int .u64 150] 76)) (by rw [World.cell?_alloc_lt _ _ a hal]; exact ha)
  have st := setE t ⟨w.heap.size + 1, 0, none⟩ n old ((w.alloc (.cells #[.pointer (some ⟨1, 59, none⟩), .pointer (some a), .int .u64 150] 76)).alloc (.cells #[.int .i64 n] 54))
    (by rw [World.cell?_alloc_at _ _ _ _ (by simp)]; rfl)
    (by rw [World.cell?_alloc_lt _ _ t (by simp; omega), World.cell?_alloc_lt _ _ t htl]; exact ht0)
    (by rw [World.frozen?_alloc_old _ _ t (by simp; omega), World.frozen?_alloc_old _ _ t (Nat.ne_of_lt htl)]; exact hf0)
  clear ha ht0 hf0
  go_enter Tryd.func37, Tryd.ntmps37
  go_wp2
  refine wp_loop_rounds 1 ?_
  rw [rounds_succ]
  go_wp2
  go_ret
  exact ⟨rfl, rfl⟩
/-- errors.As at an Errno variable, whatever errors.as answers. -/
theorem As_of (u : TypeId) (x : Value) (t : Addr) (w : World) (R : Bool → World → Prop) (hg : w.cell? ⟨0, 0, none⟩ = some (.iface 89 (.agg #[.pointer (some ⟨1, 30, none⟩)])))
    (h : Calls Tryd.prog 37 #[.iface u x, .iface 59 (.pointer (some t)), .agg #[.pointer (some ⟨1, 59, none⟩), .pointer (some ⟨w.heap.size, 0, none⟩), .int .u64 150], .iface 89 (.agg #[.pointer (some ⟨1, 54, none⟩)])]
      ((w.alloc (.cells #[.pointer (some t)] 59)).alloc (.cells #[.pointer (some ⟨1, 59, none⟩), .pointer (some ⟨w.heap.size, 0, none⟩), .int .u64 150] 76)) fun e w' => ∃ b, e = .returned (.bool b) ∧ R b w') :
    Calls Tryd.prog 28 #[.iface u x, .iface 59 (.pointer (some t))] w fun e w' => ∃ b, e = .returned (.bool b) ∧ R b w' := by
  have hVO := @run_callFunc_extern Tryd.prog 34 _ (fun args => ReflectliteValue.unpack (args.getD 0 (.tuple #[]))) Tryd.func34 (by kernel_rfl) (by kernel_rfl) (by kernel_rfl) (by kernel_rfl)
  have hVT := @run_callFunc_extern Tryd.prog 35 _ (ReflectliteValue.methodAny (ReflectliteValue.valueError "reflectlite.Value.Type" 0) (fun t _ _ _ => ReflectliteType.toType t)) Tryd.func35 (by kernel_rfl) (by kernel_rfl) (by kernel_rfl) (by kernel_rfl)
  have hIN := @run_callFunc_extern Tryd.prog 36 _ (ReflectliteValue.method (ReflectliteValue.valueError "reflectlite.Value.IsNil" 0) ReflectliteValue.isNil) Tryd.func36 (by kernel_rfl) (by kernel_rfl) (by kernel_rfl) (by kernel_rfl)
  have hK := @run_callFunc_extern Tryd.prog 58 _ (ReflectliteType.abiMethod fun t => do pure (.int .u8 (← Rtype.kind t))) Tryd.func58 (by kernel_rfl) (by kernel_rfl) (by kernel_rfl) (by kernel_rfl)
  have hRE := @run_callFunc_extern Tryd.prog 70 _ (ReflectliteType.method ReflectliteType.elem) Tryd.func70 (by kernel_rfl) (by kernel_rfl) (by kernel_rfl) (by kernel_rfl)
  have hIM := @run_callFunc_extern Tryd.prog 71 _ (ReflectliteType.relation "Implements" ReflectliteType.implements_) Tryd.func71 (by kernel_rfl) (by kernel_rfl) (by kernel_rfl) (by kernel_rfl)
  have f6 := valueOfPE
  have f7 := typePE
  have mK := methodKind
  have mE := methodElem
  have mI := methodImplements
  have kP := kindPE
  have kE := kindE
  have eP := elemPE
  have iE := implementsE
  have n8 := isNilPE ⟨w.heap.size, 0, none⟩ t ((w.alloc (.cells #[.pointer (some t)] 59)).alloc (.cells #[.pointer (some ⟨1, 59, none⟩), .pointer (some ⟨w.heap.size, 0, none⟩), .int .u64 150] 76)) (by simp)
  have hlt : 0 < w.heap.size := by
    rcases Nat.eq_zero_or_pos w.heap.size with h0 | h
    · simp [World.cell?, h0] at hg
    · exact h
  have hg2 : ((w.alloc (.cells #[.pointer (some t)] 59)).alloc (.cells #[.pointer (some ⟨1, 59, none⟩), .pointer (some ⟨w.heap.size, 0, none⟩), .int .u64 150] 76)).cell? ⟨0, 0, none⟩ = some (.iface 89 (.agg #[.pointer (some ⟨1, 30, none⟩)])) := by
    rw [World.cell?_alloc_lt _ _ ⟨0, 0, none⟩ (by simp), World.cell?_alloc_lt _ _ ⟨0, 0, none⟩ hlt]; exact hg
  clear hg
  have H := Lib.hid h
  clear h
  go_enter Tryd.func28, Tryd.ntmps28
  go_wp2_with ((go_at_call 37; refine H.out.mono ?_; rintro e w' ⟨b, rfl, hq⟩))
  go_ret
  exact ⟨b, rfl, hq⟩
theorem As_errno (n : Int) (t : Addr) (old : Value) (w : World) (hg : w.cell? ⟨0, 0, none⟩ = some (.iface 89 (.agg #[.pointer (some ⟨1, 30, none⟩)]))) (ht0 : w.cell? t = some old) (hf0 : w.frozen? t = false) :
    Calls Tryd.prog 28 #[.iface 54 (.int .i64 n), .iface 59 (.pointer (some t))] w fun e w' => ∃ b, e = .returned (.bool b) ∧ (b = true ∧ ∃ w1, Below w.heap.size w w1 ∧ w1.cell? t = some old ∧ w' = w1.setCell t (.int .i64 n)) := by
  refine As_of _ _ t w _ hg ((as_hit n t ⟨w.heap.size, 0, none⟩ old _ (by simp) ?_ ?_).mono ?_)
  · have htl : t.block < w.heap.size := by
      rcases Nat.lt_or_ge t.block w.heap.size with h | h
      · exact h
      · simp [World.cell?, Array.getElem?_eq_none h] at ht0
    rw [World.cell?_alloc_lt _ _ t (by simp; omega), World.cell?_alloc_lt _ _ t htl]; exact ht0
  · have htl : t.block < w.heap.size := by
      rcases Nat.lt_or_ge t.block w.heap.size with h | h
      · exact h
      · simp [World.cell?, Array.getElem?_eq_none h] at ht0
    rw [World.frozen?_alloc_old _ _ t (by simp; omega), World.frozen?_alloc_old _ _ t (Nat.ne_of_lt htl)]; exact hf0
  · rintro e w' ⟨rfl, rfl⟩
    have b4 : Below w.heap.size w ((((w.alloc (.cells #[.pointer (some t)] 59)).alloc (.cells #[.pointer (some ⟨1, 59, none⟩), .pointer (some ⟨w.heap.size, 0, none⟩), .int .u64 150] 76)).alloc (.cells #[.pointer (some ⟨1, 59, none⟩), .pointer (some ⟨w.heap.size, 0, none⟩), .int .u64 150] 76)).alloc (.cells #[.int .i64 n] 54)) :=
      ((((Below.refl _ _).alloc (Nat.le_refl _) _).alloc (by simp) _).alloc (by simp; omega) _).alloc (by simp; omega) _
    refine ⟨true, rfl, rfl, _, b4, ?_, rfl⟩
    have htl : t.block < w.heap.size := by
      rcases Nat.lt_or_ge t.block w.heap.size with h | h
      · exact h
      · simp [World.cell?, Array.getElem?_eq_none h] at ht0
    rw [b4.cell htl]; exact ht0
/-- api.Code of an Errno. -/
theorem code_errno (n : Int) (w : World) (hg : w.cell? ⟨0, 0, none⟩ = some (.iface 89 (.agg #[.pointer (some ⟨1, 30, none⟩)]))) :
    Calls Tryd.prog 15 #[.iface 54 (.int .i64 n)] w fun e w' => e = .returned (.int .i64 n) ∧ Below w.heap.size w w' := by
  have hlt : 0 < w.heap.size := by
    rcases Nat.eq_zero_or_pos w.heap.size with h0 | h
    · simp [World.cell?, h0] at hg
    · exact h
  have hgA : (w.alloc (.cells #[.int .i64 0] 54)).cell? ⟨0, 0, none⟩ = some (.iface 89 (.agg #[.pointer (some ⟨1, 30, none⟩)])) := by
    rw [World.cell?_alloc_lt _ _ ⟨0, 0, none⟩ hlt]; exact hg
  have H := Lib.hid (As_errno n ⟨w.heap.size, 0, none⟩ (.int .i64 0) _ hgA (by simp) (by simp))
  clear hg hgA
  go_enter Tryd.func15, Tryd.ntmps15
  go_wp2_with fail
  refine H.out.mono ?_
  rintro e w' ⟨b, rfl, rfl, w1, hb, ho, rfl⟩
  have hc : (w1.setCell ⟨w.heap.size, 0, none⟩ (.int .i64 n)).cell? ⟨w.heap.size, 0, none⟩ = some (.int .i64 n) := World.cell?_setCell_same' w1 _ _ (by rw [ho]; rfl)
  have HB := Lib.hid hb
  clear hb ho H
  go_wp2
  go_ret
  exact ⟨rfl, (((Below.refl _ _).alloc (Nat.le_refl _) _).trans (HB.out.mono (by simp))).setCell (by simp) _⟩
theorem code_nil (w : World) : Calls Tryd.prog 15 #[.nilIface] w fun e w' => e = .returned (.int .i64 0) ∧ Below w.heap.size w w' := by
  go_enter Tryd.func15, Tryd.ntmps15
  go_wp2
  go_ret
  exact ⟨rfl, (Below.refl _ _).alloc (Nat.le_refl _) _⟩
/-- errors.as, the error a fault over an Errno, the target an Errno variable. -/
theorem as_un (n : Int) (b : Nat) (t a : Addr) (old : Value) (w : World) (ha : w.cell? a = some (.pointer (some t))) (ht0 : w.cell? t = some old) (hf0 : w.frozen? t = false) (hb : w.cell? ⟨b, 1, none⟩ = some (.iface 54 (.int .i64 n))) :
    Calls Tryd.prog 37 #[.iface 68 (.pointer (some ⟨b, 0, none⟩)), .iface 59 (.pointer (some t)), .agg #[.pointer (some ⟨1, 59, none⟩), .pointer (some a), .int .u64 150], .iface 89 (.agg #[.pointer (some ⟨1, 54, none⟩)])] w
      fun ev w' => ev = .returned (.bool true) ∧ w' = ((w.alloc (.cells #[.pointer (some ⟨1, 59, none⟩), .pointer (some a), .int .u64 150] 76)).alloc (.cells #[.int .i64 n] 54)).setCell t (.int .i64 n) := by
  have hVO := @run_callFunc_extern Tryd.prog 34 _ (fun args => ReflectliteValue.unpack (args.getD 0 (.tuple #[]))) Tryd.func34 (by kernel_rfl) (by kernel_rfl) (by kernel_rfl) (by kernel_rfl)
  have hTO := @run_callFunc_extern Tryd.prog 41 _ ReflectliteType.typeOf Tryd.func41 (by kernel_rfl) (by kernel_rfl) (by kernel_rfl) (by kernel_rfl)
  have hAT := @run_callFunc_extern Tryd.prog 68 _ (ReflectliteType.relation "AssignableTo" ReflectliteType.assignableTo) Tryd.func68 (by kernel_rfl) (by kernel_rfl) (by kernel_rfl) (by kernel_rfl)
  have hVE := @run_callFunc_extern Tryd.prog 42 _ (ReflectliteValue.method (ReflectliteValue.valueError "reflectlite.Value.Elem" 0) ReflectliteValue.elem) Tryd.func42 (by kernel_rfl) (by kernel_rfl) (by kernel_rfl) (by kernel_rfl)
  have hVS := @run_callFunc_extern Tryd.prog 43 _ ReflectliteValue.set Tryd.func43 (by kernel_rfl) (by kernel_rfl) (by kernel_rfl) (by kernel_rfl)
  have tO := typeOfE
  have mA := methodAssignableTo
  have aE := assignableEE
  have vE := valueOfE
  have tF := typeOfEF
  have aF := assignFE
  have nF := noAsF
  have uF := unF
  have mU := methodUn
  have hbl : b < w.heap.size := by
    rcases Nat.lt_or_ge b w.heap.size with h | h
    · exact h
    · simp [World.cell?, Array.getElem?_eq_none h] at hb
  have hb2 : (w.alloc (.cells #[.pointer (some ⟨1, 59, none⟩), .pointer (some a), .int .u64 150] 76)).cell? ⟨b, 1, none⟩ = some (.iface 54 (.int .i64 n)) := by
    rw [World.cell?_alloc_lt _ _ ⟨b, 1, none⟩ hbl]; exact hb
  have hal : a.block < w.heap.size := by
    rcases Nat.lt_or_ge a.block w.heap.size with h | h
    · exact h
    · simp [World.cell?, Array.getElem?_eq_none h] at ha
  have htl : t.block < w.heap.size := by
    rcases Nat.lt_or_ge t.block w.heap.size with h | h
    · exact h
    · simp [World.cell?, Array.getElem?_eq_none h] at ht0
  have el := elemVPE a t (w.alloc (.cells #[.pointer (some ⟨1, 59, none⟩), .pointer (some a), .int .u64 150] 76)) (by rw [World.cell?_alloc_lt _ _ a hal]; exact ha)
  have st := setE t ⟨w.heap.size + 1, 0, none⟩ n old ((w.alloc (.cells #[.pointer (some ⟨1, 59, none⟩), .pointer (some a), .int .u64 150] 76)).alloc (.cells #[.int .i64 n] 54))
    (by rw [World.cell?_alloc_at _ _ _ _ (by simp)]; rfl)
    (by rw [World.cell?_alloc_lt _ _ t (by simp; omega), World.cell?_alloc_lt _ _ t htl]; exact ht0)
    (by rw [World.frozen?_alloc_old _ _ t (by simp; omega), World.frozen?_alloc_old _ _ t (Nat.ne_of_lt htl)]; exact hf0)
  clear ha ht0 hf0 hb
  go_enter Tryd.func37, Tryd.ntmps37
  go_wp2
  refine wp_loop_rounds 2 ?_
  rw [rounds_succ]
  go_wp2_with (go_in)
  rw [rounds_succ]
  go_wp2
  go_ret
  exact ⟨rfl, rfl⟩
/-- errors.as, the error an Errno, the target an Errno variable. -/
theorem as_hitF (e : Addr) (t a : Addr) (old : Value) (w : World) (ha : w.cell? a = some (.pointer (some t))) (ht0 : w.cell? t = some old) (hf0 : w.frozen? t = false) :
    Calls Tryd.prog 37 #[.iface 68 (.pointer (some e)), .iface 69 (.pointer (some t)), .agg #[.pointer (some ⟨1, 69, none⟩), .pointer (some a), .int .u64 150], .iface 89 (.agg #[.pointer (some ⟨1, 68, none⟩)])] w
      fun ev w' => ev = .returned (.bool true) ∧ w' = ((w.alloc (.cells #[.pointer (some ⟨1, 69, none⟩), .pointer (some a), .int .u64 150] 76)).alloc (.cells #[.pointer (some e)] 68)).setCell t (.pointer (some e)) := by
  have hVO := @run_callFunc_extern Tryd.prog 34 _ (fun args => ReflectliteValue.unpack (args.getD 0 (.tuple #[]))) Tryd.func34 (by kernel_rfl) (by kernel_rfl) (by kernel_rfl) (by kernel_rfl)
  have hTO := @run_callFunc_extern Tryd.prog 41 _ ReflectliteType.typeOf Tryd.func41 (by kernel_rfl) (by kernel_rfl) (by kernel_rfl) (by kernel_rfl)
  have hAT := @run_callFunc_extern Tryd.prog 68 _ (ReflectliteType.relation "AssignableTo" ReflectliteType.assignableTo) Tryd.func68 (by kernel_rfl) (by kernel_rfl) (by kernel_rfl) (by kernel_rfl)
  have hVE := @run_callFunc_extern Tryd.prog 42 _ (ReflectliteValue.method (ReflectliteValue.valueError "reflectlite.Value.Elem" 0) ReflectliteValue.elem) Tryd.func42 (by kernel_rfl) (by kernel_rfl) (by kernel_rfl) (by kernel_rfl)
  have hVS := @run_callFunc_extern Tryd.prog 43 _ ReflectliteValue.set Tryd.func43 (by kernel_rfl) (by kernel_rfl) (by kernel_rfl) (by kernel_rfl)
  have tO := typeOfEF
  have mA := methodAssignableTo
  have aE := assignableEEF
  have vE := valueOfEF
  have hal : a.block < w.heap.size := by
    rcases Nat.lt_or_ge a.block w.heap.size with h | h
    · exact h
    · simp [World.cell?, Array.getElem?_eq_none h] at ha
  have htl : t.block < w.heap.size := by
    rcases Nat.lt_or_ge t.block w.heap.size with h | h
    · exact h
    · simp [World.cell?, Array.getElem?_eq_none h] at ht0
  have el := elemVPEF a t (w.alloc (.cells #[.pointer (some ⟨1, 69, none⟩), .pointer (some a), .int .u64 150] 76)) (by rw [World.cell?_alloc_lt _ _ a hal]; exact ha)
  have st := setEF t ⟨w.heap.size + 1, 0, none⟩ e old ((w.alloc (.cells #[.pointer (some ⟨1, 69, none⟩), .pointer (some a), .int .u64 150] 76)).alloc (.cells #[.pointer (some e)] 68))
    (by rw [World.cell?_alloc_at _ _ _ _ (by simp)]; rfl)
    (by rw [World.cell?_alloc_lt _ _ t (by simp; omega), World.cell?_alloc_lt _ _ t htl]; exact ht0)
    (by rw [World.frozen?_alloc_old _ _ t (by simp; omega), World.frozen?_alloc_old _ _ t (Nat.ne_of_lt htl)]; exact hf0)
  clear ha ht0 hf0
  go_enter Tryd.func37, Tryd.ntmps37
  go_wp2
  refine wp_loop_rounds 1 ?_
  rw [rounds_succ]
  go_wp2
  go_ret
  exact ⟨rfl, rfl⟩
/-- errors.as, the error an Errno, the target a fault's variable. -/
theorem as_missF (n : Int) (t a : Addr) (w : World) :
    Calls Tryd.prog 37 #[.iface 54 (.int .i64 n), .iface 69 (.pointer (some t)), .agg #[.pointer (some ⟨1, 69, none⟩), .pointer (some a), .int .u64 150], .iface 89 (.agg #[.pointer (some ⟨1, 68, none⟩)])] w
      fun ev w' => ev = .returned (.bool false) ∧ w' = w.alloc (.cells #[.pointer (some ⟨1, 69, none⟩), .pointer (some a), .int .u64 150] 76) := by
  have hTO := @run_callFunc_extern Tryd.prog 41 _ ReflectliteType.typeOf Tryd.func41 (by kernel_rfl) (by kernel_rfl) (by kernel_rfl) (by kernel_rfl)
  have hAT := @run_callFunc_extern Tryd.prog 68 _ (ReflectliteType.relation "AssignableTo" ReflectliteType.assignableTo) Tryd.func68 (by kernel_rfl) (by kernel_rfl) (by kernel_rfl) (by kernel_rfl)
  have tO := typeOfE
  have mA := methodAssignableTo
  have aE := assignEF
  have n1 := noAsE
  have n2 := noUnE
  have n3 := noUnsE
  go_enter Tryd.func37, Tryd.ntmps37
  go_wp2
  refine wp_loop_rounds 1 ?_
  rw [rounds_succ]
  go_wp2
  go_ret
  exact ⟨rfl, rfl⟩
/-- errors.As at a fault's variable, whatever errors.as answers. -/
theorem As_ofF (u : TypeId) (x : Value) (t : Addr) (w : World) (R : Bool → World → Prop) (hg : w.cell? ⟨0, 0, none⟩ = some (.iface 89 (.agg #[.pointer (some ⟨1, 30, none⟩)])))
    (h : Calls Tryd.prog 37 #[.iface u x, .iface 69 (.pointer (some t)), .agg #[.pointer (some ⟨1, 69, none⟩), .pointer (some ⟨w.heap.size, 0, none⟩), .int .u64 150], .iface 89 (.agg #[.pointer (some ⟨1, 68, none⟩)])]
      ((w.alloc (.cells #[.pointer (some t)] 69)).alloc (.cells #[.pointer (some ⟨1, 69, none⟩), .pointer (some ⟨w.heap.size, 0, none⟩), .int .u64 150] 76)) fun e w' => ∃ b, e = .returned (.bool b) ∧ R b w') :
    Calls Tryd.prog 28 #[.iface u x, .iface 69 (.pointer (some t))] w fun e w' => ∃ b, e = .returned (.bool b) ∧ R b w' := by
  have hVO := @run_callFunc_extern Tryd.prog 34 _ (fun args => ReflectliteValue.unpack (args.getD 0 (.tuple #[]))) Tryd.func34 (by kernel_rfl) (by kernel_rfl) (by kernel_rfl) (by kernel_rfl)
  have hVT := @run_callFunc_extern Tryd.prog 35 _ (ReflectliteValue.methodAny (ReflectliteValue.valueError "reflectlite.Value.Type" 0) (fun t _ _ _ => ReflectliteType.toType t)) Tryd.func35 (by kernel_rfl) (by kernel_rfl) (by kernel_rfl) (by kernel_rfl)
  have hIN := @run_callFunc_extern Tryd.prog 36 _ (ReflectliteValue.method (ReflectliteValue.valueError "reflectlite.Value.IsNil" 0) ReflectliteValue.isNil) Tryd.func36 (by kernel_rfl) (by kernel_rfl) (by kernel_rfl) (by kernel_rfl)
  have hK := @run_callFunc_extern Tryd.prog 58 _ (ReflectliteType.abiMethod fun t => do pure (.int .u8 (← Rtype.kind t))) Tryd.func58 (by kernel_rfl) (by kernel_rfl) (by kernel_rfl) (by kernel_rfl)
  have hRE := @run_callFunc_extern Tryd.prog 70 _ (ReflectliteType.method ReflectliteType.elem) Tryd.func70 (by kernel_rfl) (by kernel_rfl) (by kernel_rfl) (by kernel_rfl)
  have hIM := @run_callFunc_extern Tryd.prog 71 _ (ReflectliteType.relation "Implements" ReflectliteType.implements_) Tryd.func71 (by kernel_rfl) (by kernel_rfl) (by kernel_rfl) (by kernel_rfl)
  have f6 := valueOfPEF
  have f7 := typePEF
  have mK := methodKind
  have mE := methodElem
  have mI := methodImplements
  have kP := kindPEF
  have kE := kindEF
  have eP := elemPEF
  have iE := implementsEF
  have n8 := isNilPEF ⟨w.heap.size, 0, none⟩ t ((w.alloc (.cells #[.pointer (some t)] 69)).alloc (.cells #[.pointer (some ⟨1, 69, none⟩), .pointer (some ⟨w.heap.size, 0, none⟩), .int .u64 150] 76)) (by simp)
  have hlt : 0 < w.heap.size := by
    rcases Nat.eq_zero_or_pos w.heap.size with h0 | h
    · simp [World.cell?, h0] at hg
    · exact h
  have hg2 : ((w.alloc (.cells #[.pointer (some t)] 69)).alloc (.cells #[.pointer (some ⟨1, 69, none⟩), .pointer (some ⟨w.heap.size, 0, none⟩), .int .u64 150] 76)).cell? ⟨0, 0, none⟩ = some (.iface 89 (.agg #[.pointer (some ⟨1, 30, none⟩)])) := by
    rw [World.cell?_alloc_lt _ _ ⟨0, 0, none⟩ (by simp), World.cell?_alloc_lt _ _ ⟨0, 0, none⟩ hlt]; exact hg
  clear hg
  have H := Lib.hid h
  clear h
  go_enter Tryd.func28, Tryd.ntmps28
  go_wp2_with ((go_at_call 37; refine H.out.mono ?_; rintro e w' ⟨b, rfl, hq⟩))
  go_ret
  exact ⟨b, rfl, hq⟩
theorem As_fault (n : Int) (b : Nat) (t : Addr) (old : Value) (w : World) (hg : w.cell? ⟨0, 0, none⟩ = some (.iface 89 (.agg #[.pointer (some ⟨1, 30, none⟩)]))) (ht0 : w.cell? t = some old) (hf0 : w.frozen? t = false) (hb : w.cell? ⟨b, 1, none⟩ = some (.iface 54 (.int .i64 n))) :
    Calls Tryd.prog 28 #[.iface 68 (.pointer (some ⟨b, 0, none⟩)), .iface 59 (.pointer (some t))] w fun e w' => ∃ b, e = .returned (.bool b) ∧ (b = true ∧ ∃ w1, Below w.heap.size w w1 ∧ w1.cell? t = some old ∧ w' = w1.setCell t (.int .i64 n)) := by
  refine As_of _ _ t w _ hg ((as_un n b t ⟨w.heap.size, 0, none⟩ old _ (by simp) ?_ ?_ ?_).mono ?_)
  · have htl : t.block < w.heap.size := by
      rcases Nat.lt_or_ge t.block w.heap.size with h | h
      · exact h
      · simp [World.cell?, Array.getElem?_eq_none h] at ht0
    rw [World.cell?_alloc_lt _ _ t (by simp; omega), World.cell?_alloc_lt _ _ t htl]; exact ht0
  · have htl : t.block < w.heap.size := by
      rcases Nat.lt_or_ge t.block w.heap.size with h | h
      · exact h
      · simp [World.cell?, Array.getElem?_eq_none h] at ht0
    rw [World.frozen?_alloc_old _ _ t (by simp; omega), World.frozen?_alloc_old _ _ t (Nat.ne_of_lt htl)]; exact hf0
  · have hbl : b < w.heap.size := by
      rcases Nat.lt_or_ge b w.heap.size with h | h
      · exact h
      · simp [World.cell?, Array.getElem?_eq_none h] at hb
    rw [World.cell?_alloc_lt _ _ ⟨b, 1, none⟩ (by simp; omega), World.cell?_alloc_lt _ _ ⟨b, 1, none⟩ hbl]; exact hb
  · rintro e w' ⟨rfl, rfl⟩
    have b4 : Below w.heap.size w ((((w.alloc (.cells #[.pointer (some t)] 59)).alloc (.cells #[.pointer (some ⟨1, 59, none⟩), .pointer (some ⟨w.heap.size, 0, none⟩), .int .u64 150] 76)).alloc (.cells #[.pointer (some ⟨1, 59, none⟩), .pointer (some ⟨w.heap.size, 0, none⟩), .int .u64 150] 76)).alloc (.cells #[.int .i64 n] 54)) :=
      ((((Below.refl _ _).alloc (Nat.le_refl _) _).alloc (by simp) _).alloc (by simp; omega) _).alloc (by simp; omega) _
    refine ⟨true, rfl, rfl, _, b4, ?_, rfl⟩
    have htl : t.block < w.heap.size := by
      rcases Nat.lt_or_ge t.block w.heap.size with h | h
      · exact h
      · simp [World.cell?, Array.getElem?_eq_none h] at ht0
    rw [b4.cell htl]; exact ht0
theorem As_faultF (e0 : Addr) (t : Addr) (old : Value) (w : World) (hg : w.cell? ⟨0, 0, none⟩ = some (.iface 89 (.agg #[.pointer (some ⟨1, 30, none⟩)]))) (ht0 : w.cell? t = some old) (hf0 : w.frozen? t = false) :
    Calls Tryd.prog 28 #[.iface 68 (.pointer (some e0)), .iface 69 (.pointer (some t))] w fun e w' => ∃ b, e = .returned (.bool b) ∧ (b = true ∧ ∃ w1, Below w.heap.size w w1 ∧ w1.cell? t = some old ∧ w' = w1.setCell t (.pointer (some e0))) := by
  refine As_ofF _ _ t w _ hg ((as_hitF e0 t ⟨w.heap.size, 0, none⟩ old _ (by simp) ?_ ?_).mono ?_)
  · have htl : t.block < w.heap.size := by
      rcases Nat.lt_or_ge t.block w.heap.size with h | h
      · exact h
      · simp [World.cell?, Array.getElem?_eq_none h] at ht0
    rw [World.cell?_alloc_lt _ _ t (by simp; omega), World.cell?_alloc_lt _ _ t htl]; exact ht0
  · have htl : t.block < w.heap.size := by
      rcases Nat.lt_or_ge t.block w.heap.size with h | h
      · exact h
      · simp [World.cell?, Array.getElem?_eq_none h] at ht0
    rw [World.frozen?_alloc_old _ _ t (by simp; omega), World.frozen?_alloc_old _ _ t (Nat.ne_of_lt htl)]; exact hf0
  · rintro e w' ⟨rfl, rfl⟩
    have b4 : Below w.heap.size w ((((w.alloc (.cells #[.pointer (some t)] 69)).alloc (.cells #[.pointer (some ⟨1, 69, none⟩), .pointer (some ⟨w.heap.size, 0, none⟩), .int .u64 150] 76)).alloc (.cells #[.pointer (some ⟨1, 69, none⟩), .pointer (some ⟨w.heap.size, 0, none⟩), .int .u64 150] 76)).alloc (.cells #[.pointer (some e0)] 68)) :=
      ((((Below.refl _ _).alloc (Nat.le_refl _) _).alloc (by simp) _).alloc (by simp; omega) _).alloc (by simp; omega) _
    refine ⟨true, rfl, rfl, _, b4, ?_, rfl⟩
    have htl : t.block < w.heap.size := by
      rcases Nat.lt_or_ge t.block w.heap.size with h | h
      · exact h
      · simp [World.cell?, Array.getElem?_eq_none h] at ht0
    rw [b4.cell htl]; exact ht0
theorem As_missF (n : Int) (t : Addr) (w : World) (hg : w.cell? ⟨0, 0, none⟩ = some (.iface 89 (.agg #[.pointer (some ⟨1, 30, none⟩)]))) :
    Calls Tryd.prog 28 #[.iface 54 (.int .i64 n), .iface 69 (.pointer (some t))] w fun e w' => ∃ b, e = .returned (.bool b) ∧ (b = false ∧ Below w.heap.size w w') := by
  refine As_ofF _ _ t w _ hg ((as_missF n t ⟨w.heap.size, 0, none⟩ _).mono ?_)
  rintro e w' ⟨rfl, rfl⟩
  exact ⟨false, rfl, rfl, (((Below.refl _ _).alloc (Nat.le_refl _) _).alloc (by simp) _).alloc (by simp; omega) _⟩
/-- api.Code of a fault. -/
theorem code_fault (n : Int) (b : Nat) (w : World) (hg : w.cell? ⟨0, 0, none⟩ = some (.iface 89 (.agg #[.pointer (some ⟨1, 30, none⟩)]))) (hb : w.cell? ⟨b, 1, none⟩ = some (.iface 54 (.int .i64 n))) :
    Calls Tryd.prog 15 #[.iface 68 (.pointer (some ⟨b, 0, none⟩))] w fun e w' => e = .returned (.int .i64 n) ∧ Below w.heap.size w w' := by
  have hlt : 0 < w.heap.size := by
    rcases Nat.eq_zero_or_pos w.heap.size with h0 | h
    · simp [World.cell?, h0] at hg
    · exact h
  have hgA : (w.alloc (.cells #[.int .i64 0] 54)).cell? ⟨0, 0, none⟩ = some (.iface 89 (.agg #[.pointer (some ⟨1, 30, none⟩)])) := by
    rw [World.cell?_alloc_lt _ _ ⟨0, 0, none⟩ hlt]; exact hg
  have hbl : b < w.heap.size := by
    rcases Nat.lt_or_ge b w.heap.size with h | h
    · exact h
    · simp [World.cell?, Array.getElem?_eq_none h] at hb
  have H := Lib.hid (As_fault n b ⟨w.heap.size, 0, none⟩ (.int .i64 0) _ hgA (by simp) (by simp) (by rw [World.cell?_alloc_lt _ _ ⟨b, 1, none⟩ hbl]; exact hb))
  clear hg hgA hb
  go_enter Tryd.func15, Tryd.ntmps15
  go_wp2_with fail
  refine H.out.mono ?_
  rintro e w' ⟨c, rfl, rfl, w1, hb, ho, rfl⟩
  have hc : (w1.setCell ⟨w.heap.size, 0, none⟩ (.int .i64 n)).cell? ⟨w.heap.size, 0, none⟩ = some (.int .i64 n) := World.cell?_setCell_same' w1 _ _ (by rw [ho]; rfl)
  have HB := Lib.hid hb
  clear hb ho H
  go_wp2
  go_ret
  exact ⟨rfl, (((Below.refl _ _).alloc (Nat.le_refl _) _).trans (HB.out.mono (by simp))).setCell (by simp) _⟩
/-- api.At. -/
theorem at_nil (w : World) : Calls Tryd.prog 22 #[.nilIface] w fun e w' => e = .returned (.int .i64 (-1)) ∧ Below w.heap.size w w' := by
  go_enter Tryd.func22, Tryd.ntmps22
  go_wp2
  go_ret
  exact ⟨rfl, (Below.refl _ _).alloc (Nat.le_refl _) _⟩
theorem at_errno (n : Int) (w : World) (hg : w.cell? ⟨0, 0, none⟩ = some (.iface 89 (.agg #[.pointer (some ⟨1, 30, none⟩)]))) :
    Calls Tryd.prog 22 #[.iface 54 (.int .i64 n)] w fun e w' => e = .returned (.int .i64 (-1)) ∧ Below w.heap.size w w' := by
  have hlt : 0 < w.heap.size := by
    rcases Nat.eq_zero_or_pos w.heap.size with h0 | h
    · simp [World.cell?, h0] at hg
    · exact h
  have hgA : (w.alloc (.cells #[.pointer none] 68)).cell? ⟨0, 0, none⟩ = some (.iface 89 (.agg #[.pointer (some ⟨1, 30, none⟩)])) := by
    rw [World.cell?_alloc_lt _ _ ⟨0, 0, none⟩ hlt]; exact hg
  have H := Lib.hid (As_missF n ⟨w.heap.size, 0, none⟩ _ hgA)
  clear hg hgA
  go_enter Tryd.func22, Tryd.ntmps22
  go_wp2_with fail
  refine H.out.mono ?_
  rintro e w' ⟨c, rfl, rfl, hb⟩
  have HB := Lib.hid hb
  clear hb H
  go_wp2
  go_ret
  exact ⟨rfl, ((Below.refl _ _).alloc (Nat.le_refl _) _).trans (HB.out.mono (by simp))⟩
theorem at_fault (k : Int) (b : Nat) (w : World) (hg : w.cell? ⟨0, 0, none⟩ = some (.iface 89 (.agg #[.pointer (some ⟨1, 30, none⟩)]))) (hb : w.cell? ⟨b, 0, none⟩ = some (.int .i64 k)) :
    Calls Tryd.prog 22 #[.iface 68 (.pointer (some ⟨b, 0, none⟩))] w fun e w' => e = .returned (.int .i64 k) ∧ Below w.heap.size w w' := by
  have hlt : 0 < w.heap.size := by
    rcases Nat.eq_zero_or_pos w.heap.size with h0 | h
    · simp [World.cell?, h0] at hg
    · exact h
  have hbl : b < w.heap.size := by
    rcases Nat.lt_or_ge b w.heap.size with h | h
    · exact h
    · simp [World.cell?, Array.getElem?_eq_none h] at hb
  have hgA : (w.alloc (.cells #[.pointer none] 68)).cell? ⟨0, 0, none⟩ = some (.iface 89 (.agg #[.pointer (some ⟨1, 30, none⟩)])) := by
    rw [World.cell?_alloc_lt _ _ ⟨0, 0, none⟩ hlt]; exact hg
  have hbA : (w.alloc (.cells #[.pointer none] 68)).cell? ⟨b, 0, none⟩ = some (.int .i64 k) := by
    rw [World.cell?_alloc_lt _ _ ⟨b, 0, none⟩ hbl]; exact hb
  have H := Lib.hid (As_faultF ⟨b, 0, none⟩ ⟨w.heap.size, 0, none⟩ (.pointer none) _ hgA (by simp) (by simp))
  clear hg hgA hb
  go_enter Tryd.func22, Tryd.ntmps22
  go_wp2_with fail
  refine H.out.mono ?_
  rintro e w' ⟨c, rfl, rfl, w1, hbel, ho, rfl⟩
  have hc : (w1.setCell ⟨w.heap.size, 0, none⟩ (.pointer (some ⟨b, 0, none⟩))).cell? ⟨w.heap.size, 0, none⟩ = some (.pointer (some ⟨b, 0, none⟩)) := World.cell?_setCell_same' w1 _ _ (by rw [ho]; rfl)
  have hd : (w1.setCell ⟨w.heap.size, 0, none⟩ (.pointer (some ⟨b, 0, none⟩))).cell? ⟨b, 0, none⟩ = some (.int .i64 k) := by
    refine (World.cell?_of_block (w := w1) (Below.heap_setCell w1 _ _ b (by show b ≠ w.heap.size; omega))).trans ?_
    rw [hbel.cell (p := ⟨b, 0, none⟩) (by simp; omega)]; exact hbA
  have HB := Lib.hid hbel
  clear hbel ho H hbA
  go_wp2
  go_ret
  exact ⟨rfl, (((Below.refl _ _).alloc (Nat.le_refl _) _).trans (HB.out.mono (by simp))).setCell (by simp) _⟩
end AsW
end Go.Proofs.YtdenmaiimfnbeaaDoor
namespace Go.Proofs.YtdenmaiimfnbeaaDoor
open Go Sx Go.RowKit
set_option maxRecDepth 100000
namespace AsW
theorem errAt {ow : Own} {w : World} (h : Glob Tryd.prog ow w) : w.cell? ⟨0, 0, none⟩ = some (.iface 89 (.agg #[.pointer (some ⟨1, 30, none⟩)])) := by
  have := globErr h (show Tryd.prog.globalNamed "errors.errorType" = some 0 by kernel_rfl) (show (Tryd.prog.cutTypes.find? (·.1 == "internal/reflectlite.rtype")).map (·.2) = some 89 by kernel_rfl)
    (show (List.range Tryd.prog.types.size).find? (fun t => Tryd.prog.rowNamed t [101, 114, 114, 111, 114]) = some 30 by kernel_rfl)
  rw [this, show typeHandle Tryd.prog 30 = .pointer (some ⟨1, 30, none⟩) by kernel_rfl]
theorem enterCode : Entered Tryd.prog 15 := ⟨Tryd.f15, Tryd.func15, by kernel_rfl, by kernel_rfl⟩
end AsW
theorem code_nil_c : Ctr Tryd.prog 15 [] [.nilif] fun v H => v = .int .i64 (.lit 0) ∧ H = [] := by
  refine Ctr.of_below AsW.enterCode fun w r vals hg hgl hv => ?_
  obtain ⟨x, rfl, hx⟩ := vrelL_one hv
  simp only [VRel] at hx
  subst hx
  exact (AsW.code_nil w).mono fun e w' ⟨h1, h2⟩ => ⟨_, h1, rfl, h2⟩
theorem code_c (n : Iv) : Ctr Tryd.prog 15 [] [.iface 54 (.int .i64 n)] fun v H => v = .int .i64 (.sym n.val) ∧ H = [] := by
  refine Ctr.of_below AsW.enterCode fun w r vals hg hgl hv => ?_
  obtain ⟨x, rfl, hx⟩ := vrelL_one hv
  simp only [VRel] at hx
  obtain ⟨u, rfl, rfl⟩ := hx
  exact (AsW.code_errno n.val w (AsW.errAt hgl)).mono fun e w' ⟨h1, h2⟩ => ⟨_, h1, rfl, h2⟩
/-- A fault's block, in a world. -/
theorem AsW.fault_in {r : Rho} {w : World} {own : Own} {a n : Iv} {x : Value} (hg : Sx.Good Tryd.prog own r [.cells 71 [.int .i64 a, .iface 54 (.int .i64 n)]] w) (hx : VRel r (.iface 68 (.ptr 0 ⟨.lit 0, 1, 0⟩)) x) :
    ∃ b, x = .iface 68 (.pointer (some ⟨b, 0, none⟩)) ∧ w.cell? ⟨b, 0, none⟩ = some (.int .i64 a.val) ∧ w.cell? ⟨b, 1, none⟩ = some (.iface 54 (.int .i64 n.val)) := by
  simp only [VRel] at hx
  obtain ⟨u, rfl, y, c, hy, hc, _, rfl⟩ := hx
  obtain ⟨z, hz, hb⟩ := hg.rel 0 (by simp [hget])
  rw [hy] at hz; cases hz
  simp only [hget, BRel] at hb
  obtain ⟨g, vals, h1, h2, h3, _⟩ := hb
  rw [h1] at hc; cases hc
  refine ⟨g, by simp [Addr.add, Off.nat], ?_⟩
  obtain ⟨l⟩ := vals
  simp only at h3
  match l, h3 with
  | [p, q], h3 =>
    simp only [VRelL, VRel] at h3
    obtain ⟨rfl, ⟨u, rfl, rfl⟩, _⟩ := h3
    exact ⟨by simp [World.cell?, h2], by simp [World.cell?, h2]⟩
  | [], h3 => simp [VRelL] at h3
  | [_], h3 => simp [VRelL] at h3
  | _ :: _ :: _ :: _, h3 => simp [VRelL] at h3
theorem AsW.enterAt : Entered Tryd.prog 22 := ⟨Tryd.f22, Tryd.func22, by kernel_rfl, by kernel_rfl⟩
theorem code_fault_c (a n : Iv) : Ctr Tryd.prog 15 [.cells 71 [.int .i64 a, .iface 54 (.int .i64 n)]] [.iface 68 (.ptr 0 ⟨.lit 0, 1, 0⟩)] fun v H => v = .int .i64 (.sym n.val) ∧ H = [.cells 71 [.int .i64 a, .iface 54 (.int .i64 n)]] := by
  refine Ctr.of_below AsW.enterCode fun w r vals hg hgl hv => ?_
  obtain ⟨x, rfl, hx⟩ := vrelL_one hv
  obtain ⟨b, rfl, _, h2⟩ := AsW.fault_in hg hx
  exact (AsW.code_fault n.val b w (AsW.errAt hgl) h2).mono fun e w' ⟨h1, h2⟩ => ⟨_, h1, rfl, h2⟩
theorem at_nil_c : Ctr Tryd.prog 22 [] [.nilif] fun v H => v = .int .i64 (.lit (-1)) ∧ H = [] := by
  refine Ctr.of_below AsW.enterAt fun w r vals hg hgl hv => ?_
  obtain ⟨x, rfl, hx⟩ := vrelL_one hv
  simp only [VRel] at hx
  subst hx
  exact (AsW.at_nil w).mono fun e w' ⟨h1, h2⟩ => ⟨_, h1, rfl, h2⟩
theorem at_c (n : Iv) : Ctr Tryd.prog 22 [] [.iface 54 (.int .i64 n)] fun v H => v = .int .i64 (.lit (-1)) ∧ H = [] := by
  refine Ctr.of_below AsW.enterAt fun w r vals hg hgl hv => ?_
  obtain ⟨x, rfl, hx⟩ := vrelL_one hv
  simp only [VRel] at hx
  obtain ⟨u, rfl, rfl⟩ := hx
  exact (AsW.at_errno n.val w (AsW.errAt hgl)).mono fun e w' ⟨h1, h2⟩ => ⟨_, h1, rfl, h2⟩
theorem at_fault_c (a n : Iv) : Ctr Tryd.prog 22 [.cells 71 [.int .i64 a, .iface 54 (.int .i64 n)]] [.iface 68 (.ptr 0 ⟨.lit 0, 1, 0⟩)] fun v H => v = .int .i64 (.sym a.val) ∧ H = [.cells 71 [.int .i64 a, .iface 54 (.int .i64 n)]] := by
  refine Ctr.of_below AsW.enterAt fun w r vals hg hgl hv => ?_
  obtain ⟨x, rfl, hx⟩ := vrelL_one hv
  obtain ⟨b, rfl, h1, _⟩ := AsW.fault_in hg hx
  exact (AsW.at_fault a.val b w (AsW.errAt hgl) h1).mono fun e w' ⟨h1, h2⟩ => ⟨_, h1, rfl, h2⟩
end Go.Proofs.YtdenmaiimfnbeaaDoor
set_option linter.unusedVariables false
set_option linter.unusedSimpArgs false
namespace Sx
open Go
set_option maxRecDepth 100000
/-! Bytes in parts with their lengths ahead, no program in sight. -/
/-- Bytes with their length ahead. -/
def cntd (b : List Int) : List Int := [(b.length : Int) / 256, (b.length : Int) % 256] ++ b
def catC : List (List Int) → List Int
  | [] => []
  | x :: r => cntd x ++ catC r
theorem cntd_length (b : List Int) : (cntd b).length = b.length + 2 := by simp [cntd]
theorem catC_append : ∀ (a b : List (List Int)), catC (a ++ b) = catC a ++ catC b
  | [], b => rfl
  | x :: r, b => by show cntd x ++ catC (r ++ b) = _; rw [catC_append r b, ← List.append_assoc]; rfl
theorem catC_one (x : List Int) : catC [x] = cntd x := by simp [catC]
/-- One part more. -/
theorem catC_next {xss : List (List Int)} {i : Nat} (h : i < xss.length) : catC (xss.take (i + 1)) = catC (xss.take i) ++ cntd (xss.getD i []) := by
  rw [List.take_succ, catC_append, List.getElem?_eq_getElem h]
  simp [catC_one, List.getD_eq_getElem?_getD, List.getElem?_eq_getElem h]
theorem catC_le (xss : List (List Int)) (i : Nat) : (catC (xss.take i)).length ≤ (catC xss).length := by
  have h := catC_append (xss.take i) (xss.drop i)
  rw [List.take_append_drop] at h
  rw [h, List.length_append]; omega
/-! ## Where parts stand -/
def szP (b : List Int) (o : Int) : Int := 256 * b.getD o.toNat 0 + b.getD (o + 1).toNat 0
def gdP (b : List Int) (o : Int) : Prop := o + 2 ≤ b.length ∧ o + 2 + szP b o ≤ b.length
instance (b : List Int) (o : Int) : Decidable (gdP b o) := inferInstanceAs (Decidable (_ ∧ _))
def nxP (b : List Int) (o : Int) : Int := o + 2 + szP b o
def ptP (b : List Int) (o : Int) : List Int := subL b (o + 2) (szP b o)
/-- Where n parts from o on are wrong; -1: nowhere. -/
def stopP (b : List Int) : Nat → Int → Int
  | 0, o => if o < b.length then o else -1
  | n + 1, o => if gdP b o then stopP b n (nxP b o) else o
def ptsP (b : List Int) : Nat → Int → List (List Int)
  | 0, _ => []
  | n + 1, o => ptP b o :: ptsP b n (nxP b o)
theorem szP_nn {b : List Int} (h : Bytes b) (o : Int) : 0 ≤ szP b o ∧ szP b o < 65536 := by
  have h1 := h.get o.toNat; have h2 := h.get (o + 1).toNat
  unfold szP; omega
theorem ptP_length {b : List Int} {o : Int} (hB : Bytes b) (h0 : 0 ≤ o) (h : gdP b o) : ((ptP b o).length : Int) = szP b o := by
  have h1 := (szP_nn hB o).1
  exact subL_length (by omega) h1 h.2
theorem ptsP_length (b : List Int) : ∀ (n : Nat) (o : Int), (ptsP b n o).length = n
  | 0, _ => rfl
  | n + 1, o => by simp [ptsP, ptsP_length b n]
theorem bytes_app {a b : List Int} : Bytes (a ++ b) ↔ Bytes a ∧ Bytes b := by
  unfold Bytes
  simp only [List.mem_append]
  exact ⟨fun h => ⟨fun x hx => h x (.inl hx), fun x hx => h x (.inr hx)⟩, fun h x hx => hx.elim (h.1 x) (h.2 x)⟩
theorem cntd_bytes {b : List Int} (h : Bytes b) (hl : b.length ≤ 65535) : Bytes (cntd b) := by
  refine bytes_app.2 ⟨?_, h⟩
  intro x hx
  simp only [List.mem_cons, List.not_mem_nil, or_false] at hx
  rcases hx with rfl | rfl <;> omega
/-- Of a part that is written. -/
theorem at_part (p y q : List Int) (hl : y.length ≤ 65535) : gdP (p ++ (cntd y ++ q)) p.length ∧ nxP (p ++ (cntd y ++ q)) p.length = ((p ++ cntd y).length : Int) ∧ ptP (p ++ (cntd y ++ q)) p.length = y := by
  have e0 : (p ++ (cntd y ++ q)).getD (p.length : Int).toNat 0 = (y.length : Int) / 256 := by
    rw [List.getD_eq_getElem?_getD, Int.toNat_natCast, List.getElem?_append_right (Nat.le_refl _)]
    simp [cntd]
  have e1 : (p ++ (cntd y ++ q)).getD ((p.length : Int) + 1).toNat 0 = (y.length : Int) % 256 := by
    rw [show ((p.length : Int) + 1).toNat = p.length + 1 by omega, List.getD_eq_getElem?_getD, List.getElem?_append_right (by omega)]
    simp [cntd]
  have e2 : szP (p ++ (cntd y ++ q)) p.length = (y.length : Int) := by unfold szP; rw [e0, e1]; omega
  have hlen : ((p ++ (cntd y ++ q)).length : Int) = p.length + 2 + y.length + q.length := by
    simp only [List.length_append, cntd_length]; omega
  refine ⟨⟨by omega, by rw [e2]; omega⟩, ?_, ?_⟩
  · unfold nxP; rw [e2]; simp only [List.length_append, cntd_length]; omega
  · unfold ptP subL
    rw [e2, show ((p.length : Int) + 2).toNat = p.length + 2 by omega, Int.toNat_natCast, ← List.drop_drop, List.drop_left]
    simp [cntd]
/-- What is written in parts is read as it was. -/
theorem stop_cat : ∀ (ys : List (List Int)) (p : List Int), (∀ y ∈ ys, y.length ≤ 65535) → stopP (p ++ catC ys) ys.length p.length = -1 ∧ ptsP (p ++ catC ys) ys.length p.length = ys
  | [], p, _ => by simp [catC, stopP, ptsP]
  | y :: r, p, h => by
    have h1 := at_part p y (catC r) (h y (List.mem_cons_self ..))
    have ih := stop_cat r (p ++ cntd y) fun z hz => h z (List.mem_cons_of_mem _ hz)
    rw [List.append_assoc] at ih
    have e : p ++ catC (y :: r) = p ++ (cntd y ++ catC r) := rfl
    rw [e]
    refine ⟨?_, ?_⟩
    · show (if gdP _ _ then _ else _) = _
      rw [if_pos h1.1, h1.2.1]; exact ih.1
    · show ptP _ _ :: ptsP _ _ _ = _
      rw [h1.2.2, h1.2.1, ih.2]
theorem getD_cons_drop {b : List Int} {i : Nat} (h : i < b.length) : b.drop i = b.getD i 0 :: b.drop (i + 1) := by
  rw [List.drop_eq_getElem_cons h, List.getD_eq_getElem?_getD, List.getElem?_eq_getElem h]; rfl
/-- What is read in parts is written as it stood. -/
theorem cat_back {b : List Int} (hB : Bytes b) : ∀ (n : Nat) (o : Int), 0 ≤ o → o ≤ b.length → stopP b n o = -1 → b.take o.toNat ++ catC (ptsP b n o) = b
  | 0, o, h0, h1, h => by
    unfold stopP at h
    split at h
    · omega
    · rw [show ptsP b 0 o = [] from rfl, show catC [] = [] from rfl, List.append_nil, List.take_of_length_le (by omega)]
  | n + 1, o, h0, h1, h => by
    unfold stopP at h
    split at h
    · rename_i hg
      have hs := szP_nn hB o
      have hn : nxP b o = o + 2 + szP b o := rfl
      have ih := cat_back hB n (nxP b o) (by omega) (by have := hg.2; omega) h
      have hl := ptP_length hB h0 hg
      show b.take o.toNat ++ (cntd (ptP b o) ++ catC (ptsP b n (nxP b o))) = b
      rw [← List.append_assoc]
      have e : b.take o.toNat ++ cntd (ptP b o) = b.take (nxP b o).toNat := by
        have e3 : (nxP b o).toNat = o.toNat + (2 + (szP b o).toNat) := by omega
        rw [e3, List.take_add]
        congr 1
        have g0 := hB.get o.toNat; have g1 := hB.get (o + 1).toNat
        have h2 := hg.1
        unfold cntd
        rw [hl, getD_cons_drop (by omega), getD_cons_drop (b := b) (i := o.toNat + 1) (by omega), show 2 + (szP b o).toNat = (szP b o).toNat + 1 + 1 by omega, List.take_succ_cons, List.take_succ_cons]
        have a1 : szP b o / 256 = b.getD o.toNat 0 := by unfold szP; omega
        have a2 : szP b o % 256 = b.getD (o.toNat + 1) 0 := by rw [show o.toNat + 1 = (o + 1).toNat by omega]; unfold szP; omega
        rw [a1, a2]
        unfold ptP subL
        rw [show (o + 2).toNat = o.toNat + 1 + 1 by omega]
        rfl
      rw [e]; exact ih
    · omega
/-- A command's, an answer's bytes: where they are wrong. -/
def wrongP (b : List Int) (h : Int) (n : Nat) : Int := if (b.length : Int) < h then b.length else stopP b n h
theorem stopP_lt {b : List Int} (hB : Bytes b) : ∀ (n : Nat) (o : Int), 0 ≤ o → o ≤ b.length → stopP b n o = -1 ∨ (0 ≤ stopP b n o ∧ stopP b n o ≤ b.length)
  | 0, o, h0, h1 => by unfold stopP; split <;> omega
  | n + 1, o, h0, h1 => by
    have hs := (szP_nn hB o).1
    unfold stopP
    split
    · rename_i hg
      exact stopP_lt hB n _ (by unfold nxP; omega) hg.2
    · omega
theorem wraps_i64 (n : Int) (h0 : 0 ≤ n) (h1 : n < 2 ^ 63) : IntKind.i64.wrap n = n := wr_i64 n (by omega) (by omega)
/-- Two bytes of a number. -/
theorem or2 {a c : Int} (ha : 0 ≤ a ∧ a < 256) (hc : 0 ≤ c ∧ c < 256) : binI .or .i64 (binI .shl .i64 a 8) c = 256 * a + c := by
  have e : binI .shl .i64 a 8 = a * 256 := by
    show IntKind.i64.wrap (a * 2 ^ min (8 : Int).toNat 64) = _
    rw [show min (8 : Int).toNat 64 = 8 from rfl, wr_i64 _ (by omega) (by omega)]; rfl
  rw [e]
  show bits .or .i64 _ _ = _
  rw [bits_join .i64 63 (by decide) wraps_i64 8 (a * 256) c (by omega) (by omega) (by omega) hc.1 (by omega) (by omega)]
  omega
theorem or2z {c : Int} (hc : 0 ≤ c ∧ c < 256) : binI .or .i64 (binI .shl .i64 0 8) c = c := by
  have := or2 (a := 0) (by omega) hc
  omega
end Sx
namespace Go.Proofs.YtdenmaiimfnbeaaDoor
open Go Sx
set_option maxRecDepth 100000
set_option maxHeartbeats 2000000
theorem mixed : Tryd.prog.follows .mixedOrders = true := by kernel_rfl
theorem shr8 {n : Int} (h : 0 ≤ n) : binI .shr .i64 n 8 = n / 256 := fdiv2 n 8
theorem short_ctr (n p : Int) (xs : List Int) (h : 0 ≤ n ∧ n ≤ 65535) (hp : p = 2) (hx : xs = [n / 256, n % 256]) : Ctr Tryd.prog 25 [] [.int .i64 (.sym n)] fun v H => v = .vec 0 (.sym p) ∧ H = [.cols (.row 1) 5 [.ints .u8 (.sym xs)]] := by
  have e1 := shr8 h.1
  have e2 : n / 256 % 256 = n / 256 := by omega
  obtain ⟨uI, uB, uS, uL, uT, hu⟩ := words
  have hm := mixed
  have hT := tabOk
  obtain ⟨P, hP⟩ : ∃ P, P = Tryd.prog := ⟨_, rfl⟩
  rw [← hP] at hm hT ⊢
  refine Ctr.weak (ctr_of_vc hu hm hT (hP ▸ Tryd.func25) rfl (by kernel_rfl) ?_)
  clear hP hm hT
  generalize hR : Weak _ _ = R
  conv => cbv
  repeat' (first | ((with_reducible intro (h : _ = _)); (try subst h); (try simp only [hu.b, hu.i, iB, iI, cmpB, ivs, ivl, lrs, lrl, trs, trl, decide_eq_true_eq, decide_eq_false_iff_not, beq_iff_eq, beq_eq_false_iff_ne, ne_eq, ofN, Int.toNat_zero, Int.toNat_one, Int.reduceToNat, natc, hu.s, iS, svs, svl, true_iff, false_iff, Bool.false_eq_true, bne_iff_ne, bne_eq_false_iff_eq, Bool.not_eq_true', Bool.not_eq_false', Decidable.not_not, nil_toList, ByteArray.size_empty, nilS, not_true_eq_false, not_false_eq_true, hu.l, iL, hu.t, iT, bin_add, bin_sub, bin_mul, wr_u8, wr_u16, wr_u32, wr_u64, IntKind.wrap_i64, List.length_append, List.length_cons, List.length_nil, List.nil_append, List.append_nil, List.cons_append, lvals, List.length_replicate, List.length_set, linV_val hu, Int.add_zero, Int.zero_add, Int.mul_one, Int.sub_zero, Int.zero_mul, Bool.true_eq_false, false_and, and_false, true_and, and_true, List.all_cons, List.all_nil, id_eq, Bool.and_true, e1] at h) <;> (try simp only [Int.ofNat_eq_natCast] at h) <;> (first | (have hF0 : False := by omega; exact hF0.elim) | (conv => cbv))) | (with_reducible refine And.intro ?_ ?_) | (refine Gen0.mk ?_; (conv => cbv)) | (with_reducible refine Pick.view ?_; (conv => cbv)) | (simp only [hu.b, hu.i, iB, iI, cmpB, ivs, ivl, lrs, lrl, trs, trl, decide_eq_true_eq, decide_eq_false_iff_not, beq_iff_eq, beq_eq_false_iff_ne, ne_eq, ofN, Int.toNat_zero, Int.toNat_one, Int.reduceToNat, natc, hu.s, iS, svs, svl, true_iff, false_iff, Bool.false_eq_true, bne_iff_ne, bne_eq_false_iff_eq, Bool.not_eq_true', Bool.not_eq_false', Decidable.not_not, nil_toList, ByteArray.size_empty, nilS, not_true_eq_false, not_false_eq_true, hu.l, iL, hu.t, iT, bin_add, bin_sub, bin_mul, wr_u8, wr_u16, wr_u32, wr_u64, IntKind.wrap_i64, List.length_append, List.length_cons, List.length_nil, List.nil_append, List.append_nil, List.cons_append, lvals, List.length_replicate, List.length_set, linV_val hu, Int.add_zero, Int.zero_add, Int.mul_one, Int.sub_zero, Int.zero_mul, Bool.true_eq_false, false_and, and_false, true_and, and_true, List.all_cons, List.all_nil, id_eq, Bool.and_true, e1]; (try simp only [Int.ofNat_eq_natCast]); done) | ((try simp only [hu.b, hu.i, iB, iI, cmpB, ivs, ivl, lrs, lrl, trs, trl, decide_eq_true_eq, decide_eq_false_iff_not, beq_iff_eq, beq_eq_false_iff_ne, ne_eq, ofN, Int.toNat_zero, Int.toNat_one, Int.reduceToNat, natc, hu.s, iS, svs, svl, true_iff, false_iff, Bool.false_eq_true, bne_iff_ne, bne_eq_false_iff_eq, Bool.not_eq_true', Bool.not_eq_false', Decidable.not_not, nil_toList, ByteArray.size_empty, nilS, not_true_eq_false, not_false_eq_true, hu.l, iL, hu.t, iT, bin_add, bin_sub, bin_mul, wr_u8, wr_u16, wr_u32, wr_u64, IntKind.wrap_i64, List.length_append, List.length_cons, List.length_nil, List.nil_append, List.append_nil, List.cons_append, lvals, List.length_replicate, List.length_set, linV_val hu, Int.add_zero, Int.zero_add, Int.mul_one, Int.sub_zero, Int.zero_mul, Bool.true_eq_false, false_and, and_false, true_and, and_true, List.all_cons, List.all_nil, id_eq, Bool.and_true, e1]) <;> (try simp only [Int.ofNat_eq_natCast]) <;> omega))
  subst hR
  refine Weak.of (⟨rfl, rfl⟩) ?_ ?_ (by rfl)
  all_goals ((conv => cbv); repeat' (first | exact True.intro | with_reducible rfl | (with_reducible exact fun h => h) | (with_reducible refine And.intro ?_ ?_)))
  all_goals
    ((try simp only [hu.b, hu.i, iB, iI, cmpB, ivs, ivl, lrs, lrl, trs, trl, decide_eq_true_eq, decide_eq_false_iff_not, beq_iff_eq, beq_eq_false_iff_ne, ne_eq, ofN, Int.toNat_zero, Int.toNat_one, Int.reduceToNat, natc, hu.s, iS, svs, svl, true_iff, false_iff, Bool.false_eq_true, bne_iff_ne, bne_eq_false_iff_eq, Bool.not_eq_true', Bool.not_eq_false', Decidable.not_not, nil_toList, ByteArray.size_empty, nilS, not_true_eq_false, not_false_eq_true, hu.l, iL, hu.t, iT, bin_add, bin_sub, bin_mul, wr_u8, wr_u16, wr_u32, wr_u64, IntKind.wrap_i64, List.length_append, List.length_cons, List.length_nil, List.nil_append, List.append_nil, List.cons_append, lvals, List.length_replicate, List.length_set, linV_val hu, Int.add_zero, Int.zero_add, Int.mul_one, Int.sub_zero, Int.zero_mul, Bool.true_eq_false, false_and, and_false, true_and, and_true, List.all_cons, List.all_nil, id_eq, Bool.and_true, e1, e2]) <;> (try simp only [Int.ofNat_eq_natCast]) <;> (try omega))
  exact hx.symm
theorem within_ctr (n m : Int) (b : Bool) (hb : b = decide (0 ≤ n ∧ n ≤ m)) : Ctr Tryd.prog 24 [] [.int .i64 (.sym n), .int .i64 (.sym m)] fun v H => v = .sbool b ∧ H = [] := by
  obtain ⟨uI, uB, uS, uL, uT, hu⟩ := words
  have hm := mixed
  have hT := tabOk
  obtain ⟨P, hP⟩ : ∃ P, P = Tryd.prog := ⟨_, rfl⟩
  rw [← hP] at hm hT ⊢
  refine Ctr.weak (ctr_of_vc hu hm hT (hP ▸ Tryd.func24) rfl (by kernel_rfl) ?_)
  clear hP hm hT
  generalize hR : Weak _ _ = R
  conv => cbv
  repeat' (first | ((with_reducible intro (h : _ = _)); (try subst h); (try simp only [hu.b, hu.i, iB, iI, cmpB, ivs, ivl, lrs, lrl, trs, trl, decide_eq_true_eq, decide_eq_false_iff_not, beq_iff_eq, beq_eq_false_iff_ne, ne_eq, ofN, Int.toNat_zero, Int.toNat_one, Int.reduceToNat, natc, hu.s, iS, svs, svl, true_iff, false_iff, Bool.false_eq_true, bne_iff_ne, bne_eq_false_iff_eq, Bool.not_eq_true', Bool.not_eq_false', Decidable.not_not, nil_toList, ByteArray.size_empty, nilS, not_true_eq_false, not_false_eq_true, hu.l, iL, hu.t, iT, bin_add, bin_sub, bin_mul, wr_u8, wr_u16, wr_u32, wr_u64, IntKind.wrap_i64, List.length_append, List.length_cons, List.length_nil, List.nil_append, List.append_nil, List.cons_append, lvals, List.length_replicate, List.length_set, linV_val hu, Int.add_zero, Int.zero_add, Int.mul_one, Int.sub_zero, Int.zero_mul, Bool.true_eq_false, false_and, and_false, true_and, and_true, List.all_cons, List.all_nil, id_eq, Bool.and_true] at h) <;> (try simp only [Int.ofNat_eq_natCast] at h) <;> (first | (have hF0 : False := by omega; exact hF0.elim) | (conv => cbv))) | (with_reducible refine And.intro ?_ ?_) | (refine Gen0.mk ?_; (conv => cbv)) | (with_reducible refine Pick.view ?_; (conv => cbv)) | (simp only [hu.b, hu.i, iB, iI, cmpB, ivs, ivl, lrs, lrl, trs, trl, decide_eq_true_eq, decide_eq_false_iff_not, beq_iff_eq, beq_eq_false_iff_ne, ne_eq, ofN, Int.toNat_zero, Int.toNat_one, Int.reduceToNat, natc, hu.s, iS, svs, svl, true_iff, false_iff, Bool.false_eq_true, bne_iff_ne, bne_eq_false_iff_eq, Bool.not_eq_true', Bool.not_eq_false', Decidable.not_not, nil_toList, ByteArray.size_empty, nilS, not_true_eq_false, not_false_eq_true, hu.l, iL, hu.t, iT, bin_add, bin_sub, bin_mul, wr_u8, wr_u16, wr_u32, wr_u64, IntKind.wrap_i64, List.length_append, List.length_cons, List.length_nil, List.nil_append, List.append_nil, List.cons_append, lvals, List.length_replicate, List.length_set, linV_val hu, Int.add_zero, Int.zero_add, Int.mul_one, Int.sub_zero, Int.zero_mul, Bool.true_eq_false, false_and, and_false, true_and, and_true, List.all_cons, List.all_nil, id_eq, Bool.and_true]; (try simp only [Int.ofNat_eq_natCast]); done) | ((try simp only [hu.b, hu.i, iB, iI, cmpB, ivs, ivl, lrs, lrl, trs, trl, decide_eq_true_eq, decide_eq_false_iff_not, beq_iff_eq, beq_eq_false_iff_ne, ne_eq, ofN, Int.toNat_zero, Int.toNat_one, Int.reduceToNat, natc, hu.s, iS, svs, svl, true_iff, false_iff, Bool.false_eq_true, bne_iff_ne, bne_eq_false_iff_eq, Bool.not_eq_true', Bool.not_eq_false', Decidable.not_not, nil_toList, ByteArray.size_empty, nilS, not_true_eq_false, not_false_eq_true, hu.l, iL, hu.t, iT, bin_add, bin_sub, bin_mul, wr_u8, wr_u16, wr_u32, wr_u64, IntKind.wrap_i64, List.length_append, List.length_cons, List.length_nil, List.nil_append, List.append_nil, List.cons_append, lvals, List.length_replicate, List.length_set, linV_val hu, Int.add_zero, Int.zero_add, Int.mul_one, Int.sub_zero, Int.zero_mul, Bool.true_eq_false, false_and, and_false, true_and, and_true, List.all_cons, List.all_nil, id_eq, Bool.and_true]) <;> (try simp only [Int.ofNat_eq_natCast]) <;> omega))
  · have h1 : true = b := by rw [hb]; exact (decide_eq_true (by omega)).symm
    subst hR
    refine Weak.of (⟨rfl, rfl⟩) ?_ ?_ (by rfl)
    all_goals ((conv => cbv); repeat' (first | exact True.intro | with_reducible rfl | (with_reducible exact fun h => h) | (with_reducible refine And.intro ?_ ?_)))
    all_goals exact h1
  all_goals
    have h1 : false = b := by rw [hb]; exact (decide_eq_false (by omega)).symm
    subst hR
    refine Weak.of (⟨rfl, rfl⟩) ?_ ?_ (by rfl)
    all_goals ((conv => cbv); repeat' (first | exact True.intro | with_reducible rfl | (with_reducible exact fun h => h) | (with_reducible refine And.intro ?_ ?_)))
  all_goals exact h1
theorem within_t (n m : Int) (h : 0 ≤ n ∧ n ≤ m) : Ctr Tryd.prog 24 [] [.int .i64 (.sym n), .int .i64 (.sym m)] fun v H => v = .bool true ∧ H = [] :=
  Ctr.weak ((within_ctr n m true (decide_eq_true h).symm).mono fun v H ⟨h1, h2⟩ => by rw [h1, h2]; exact Weak.of ⟨rfl, rfl⟩ rfl trivial rfl)
theorem within_f (n m : Int) (h : ¬ (0 ≤ n ∧ n ≤ m)) : Ctr Tryd.prog 24 [] [.int .i64 (.sym n), .int .i64 (.sym m)] fun v H => v = .bool false ∧ H = [] :=
  Ctr.weak ((within_ctr n m false (decide_eq_false h).symm).mono fun v H ⟨h1, h2⟩ => by rw [h1, h2]; exact Weak.of ⟨rfl, rfl⟩ rfl trivial rfl)
theorem counted_ctr {tt : TypeId} (b : List Int) (n : Int) (m : Int) (c : List Int) (hn : n = b.length) (h9 : n ≤ 65535) (hm : m = n + 2) (hc : c = cntd b) : Ctr Tryd.prog 33 [.cols .ro tt [.ints .u8 (.sym b)]] [.sl 0 (.lit 0) (.sym n)] fun v H => v = .vec 1 (.sym m) ∧ H = [.cols .ro tt [.ints .u8 (.sym b)], .cols (.row 1) 5 [.ints .u8 (.sym c)]] := by
  have e0 : subL b 0 n = b := subL_all _ _ hn
  obtain ⟨xs, ex⟩ : ∃ x, x = [n / 256, n % 256] := ⟨_, rfl⟩
  obtain ⟨p, ep⟩ : ∃ x : Int, x = 2 := ⟨_, rfl⟩
  have hl : (xs.length : Int) = 2 := by rw [ex]; rfl
  obtain ⟨uI, uB, uS, uL, uT, hu⟩ := words
  have hm := mixed
  have hT := tabOk
  have hSh := @short_ctr
  obtain ⟨P, hP⟩ : ∃ P, P = Tryd.prog := ⟨_, rfl⟩
  rw [← hP] at hm hT hSh ⊢
  refine Ctr.weak (ctr_of_vc hu hm hT (hP ▸ Tryd.func33) rfl (by kernel_rfl) ?_)
  clear hP hm hT
  generalize hR : Weak _ _ = R
  conv => cbv
  repeat' (first | ((with_reducible intro (h : _ = _)); (try subst h); (try simp only [hu.b, hu.i, iB, iI, cmpB, ivs, ivl, lrs, lrl, trs, trl, decide_eq_true_eq, decide_eq_false_iff_not, beq_iff_eq, beq_eq_false_iff_ne, ne_eq, ofN, Int.toNat_zero, Int.toNat_one, Int.reduceToNat, natc, hu.s, iS, svs, svl, true_iff, false_iff, Bool.false_eq_true, bne_iff_ne, bne_eq_false_iff_eq, Bool.not_eq_true', Bool.not_eq_false', Decidable.not_not, nil_toList, ByteArray.size_empty, nilS, not_true_eq_false, not_false_eq_true, hu.l, iL, hu.t, iT, bin_add, bin_sub, bin_mul, wr_u8, wr_u16, wr_u32, wr_u64, IntKind.wrap_i64, List.length_append, List.length_cons, List.length_nil, List.nil_append, List.append_nil, List.cons_append, lvals, List.length_replicate, List.length_set, linV_val hu, Int.add_zero, Int.zero_add, Int.mul_one, Int.sub_zero, Int.zero_mul, Bool.true_eq_false, false_and, and_false, true_and, and_true, List.all_cons, List.all_nil, id_eq, Bool.and_true, e0] at h) <;> (try simp only [Int.ofNat_eq_natCast] at h) <;> (first | (have hF0 : False := by omega; exact hF0.elim) | (conv => cbv))) | (with_reducible refine And.intro ?_ ?_) | (first | (refine CallDet.mkR ?_ (hSh _ p xs ?_ ep ?_)) | (refine CallVC.mkR ?_ (hSh _ p xs ?_ ep ?_))) | ((try simp only [hu.b, hu.i, iB, iI, cmpB, ivs, ivl, lrs, lrl, trs, trl, decide_eq_true_eq, decide_eq_false_iff_not, beq_iff_eq, beq_eq_false_iff_ne, ne_eq, ofN, Int.toNat_zero, Int.toNat_one, Int.reduceToNat, natc, hu.s, iS, svs, svl, true_iff, false_iff, Bool.false_eq_true, bne_iff_ne, bne_eq_false_iff_eq, Bool.not_eq_true', Bool.not_eq_false', Decidable.not_not, nil_toList, ByteArray.size_empty, nilS, not_true_eq_false, not_false_eq_true, hu.l, iL, hu.t, iT, bin_add, bin_sub, bin_mul, wr_u8, wr_u16, wr_u32, wr_u64, IntKind.wrap_i64, List.length_append, List.length_cons, List.length_nil, List.nil_append, List.append_nil, List.cons_append, lvals, List.length_replicate, List.length_set, linV_val hu, Int.add_zero, Int.zero_add, Int.mul_one, Int.sub_zero, Int.zero_mul, Bool.true_eq_false, false_and, and_false, true_and, and_true, List.all_cons, List.all_nil, id_eq, Bool.and_true, e0]) <;> (try simp only [Int.ofNat_eq_natCast]) <;> exact ex) | (refine Gen0.mk ?_; (conv => cbv)) | (with_reducible refine Pick.view ?_; (conv => cbv)) | (simp only [hu.b, hu.i, iB, iI, cmpB, ivs, ivl, lrs, lrl, trs, trl, decide_eq_true_eq, decide_eq_false_iff_not, beq_iff_eq, beq_eq_false_iff_ne, ne_eq, ofN, Int.toNat_zero, Int.toNat_one, Int.reduceToNat, natc, hu.s, iS, svs, svl, true_iff, false_iff, Bool.false_eq_true, bne_iff_ne, bne_eq_false_iff_eq, Bool.not_eq_true', Bool.not_eq_false', Decidable.not_not, nil_toList, ByteArray.size_empty, nilS, not_true_eq_false, not_false_eq_true, hu.l, iL, hu.t, iT, bin_add, bin_sub, bin_mul, wr_u8, wr_u16, wr_u32, wr_u64, IntKind.wrap_i64, List.length_append, List.length_cons, List.length_nil, List.nil_append, List.append_nil, List.cons_append, lvals, List.length_replicate, List.length_set, linV_val hu, Int.add_zero, Int.zero_add, Int.mul_one, Int.sub_zero, Int.zero_mul, Bool.true_eq_false, false_and, and_false, true_and, and_true, List.all_cons, List.all_nil, id_eq, Bool.and_true, e0]; (try simp only [Int.ofNat_eq_natCast]); done) | ((try simp only [hu.b, hu.i, iB, iI, cmpB, ivs, ivl, lrs, lrl, trs, trl, decide_eq_true_eq, decide_eq_false_iff_not, beq_iff_eq, beq_eq_false_iff_ne, ne_eq, ofN, Int.toNat_zero, Int.toNat_one, Int.reduceToNat, natc, hu.s, iS, svs, svl, true_iff, false_iff, Bool.false_eq_true, bne_iff_ne, bne_eq_false_iff_eq, Bool.not_eq_true', Bool.not_eq_false', Decidable.not_not, nil_toList, ByteArray.size_empty, nilS, not_true_eq_false, not_false_eq_true, hu.l, iL, hu.t, iT, bin_add, bin_sub, bin_mul, wr_u8, wr_u16, wr_u32, wr_u64, IntKind.wrap_i64, List.length_append, List.length_cons, List.length_nil, List.nil_append, List.append_nil, List.cons_append, lvals, List.length_replicate, List.length_set, linV_val hu, Int.add_zero, Int.zero_add, Int.mul_one, Int.sub_zero, Int.zero_mul, Bool.true_eq_false, false_and, and_false, true_and, and_true, List.all_cons, List.all_nil, id_eq, Bool.and_true, e0]) <;> (try simp only [Int.ofNat_eq_natCast]) <;> omega))
  subst hR
  refine Weak.of (⟨rfl, rfl⟩) ?_ ?_ (by rfl)
  all_goals ((conv => cbv); repeat' (first | exact True.intro | with_reducible rfl | (with_reducible exact fun h => h) | (with_reducible refine And.intro ?_ ?_)))
  · ((try simp only [hu.b, hu.i, iB, iI, cmpB, ivs, ivl, lrs, lrl, trs, trl, decide_eq_true_eq, decide_eq_false_iff_not, beq_iff_eq, beq_eq_false_iff_ne, ne_eq, ofN, Int.toNat_zero, Int.toNat_one, Int.reduceToNat, natc, hu.s, iS, svs, svl, true_iff, false_iff, Bool.false_eq_true, bne_iff_ne, bne_eq_false_iff_eq, Bool.not_eq_true', Bool.not_eq_false', Decidable.not_not, nil_toList, ByteArray.size_empty, nilS, not_true_eq_false, not_false_eq_true, hu.l, iL, hu.t, iT, bin_add, bin_sub, bin_mul, wr_u8, wr_u16, wr_u32, wr_u64, IntKind.wrap_i64, List.length_append, List.length_cons, List.length_nil, List.nil_append, List.append_nil, List.cons_append, lvals, List.length_replicate, List.length_set, linV_val hu, Int.add_zero, Int.zero_add, Int.mul_one, Int.sub_zero, Int.zero_mul, Bool.true_eq_false, false_and, and_false, true_and, and_true, List.all_cons, List.all_nil, id_eq, Bool.and_true, e0]) <;> (try simp only [Int.ofNat_eq_natCast]) <;> (try omega))
  · ((try simp only [hu.b, hu.i, iB, iI, cmpB, ivs, ivl, lrs, lrl, trs, trl, decide_eq_true_eq, decide_eq_false_iff_not, beq_iff_eq, beq_eq_false_iff_ne, ne_eq, ofN, Int.toNat_zero, Int.toNat_one, Int.reduceToNat, natc, hu.s, iS, svs, svl, true_iff, false_iff, Bool.false_eq_true, bne_iff_ne, bne_eq_false_iff_eq, Bool.not_eq_true', Bool.not_eq_false', Decidable.not_not, nil_toList, ByteArray.size_empty, nilS, not_true_eq_false, not_false_eq_true, hu.l, iL, hu.t, iT, bin_add, bin_sub, bin_mul, wr_u8, wr_u16, wr_u32, wr_u64, IntKind.wrap_i64, List.length_append, List.length_cons, List.length_nil, List.nil_append, List.append_nil, List.cons_append, lvals, List.length_replicate, List.length_set, linV_val hu, Int.add_zero, Int.zero_add, Int.mul_one, Int.sub_zero, Int.zero_mul, Bool.true_eq_false, false_and, and_false, true_and, and_true, List.all_cons, List.all_nil, id_eq, Bool.and_true, e0]) <;> (try simp only [Int.ofNat_eq_natCast]) <;> (try omega))
    rw [hc, cntd, ex, hn]
theorem sized_ctr (hd : List Int) (n m : Int) (xss : List (List Int)) (hn : n = hd.length) (hm : m = xss.length) (h1 : 1 ≤ m ∧ m ≤ 16) (h2 : n ≤ 100) (h3 : ∀ i, (xss.getD i []).length ≤ 4000) : Ctr Tryd.prog 26 [.cols (.row 1) 5 [.ints .u8 (.sym hd)], .srow 22 .u8 xss] [.vec 0 (.sym n), .vec 1 (.sym m)] fun v H =>
    (1024 < ((hd ++ catC xss).length : Int) ∧ v = .tup [.nilsl, .iface 54 (.int .i64 (.sym 2))] ∧ H = [.dead, .dead]) ∨
    (∃ q ys, (q = ys.length ∧ q ≤ 1024 ∧ ys = hd ++ catC xss) ∧ v = .tup [.vec 2 (.sym q), .nilif] ∧ H = [.dead, .dead, .cols (.row 1) 5 [.ints .u8 (.sym ys)]]) := by
  have hs0 := h3 0
  have hbig : ∀ i : Nat, i < xss.length → 1024 < ((hd ++ catC (xss.take i)).length : Int) + 2 + (xss.getD i []).length → 1024 < ((hd ++ catC xss).length : Int) := fun i hi h => by
    have a1 := catC_le xss (i + 1)
    rw [catC_next hi, List.length_append, cntd_length] at a1
    rw [List.length_append] at h ⊢
    omega
  obtain ⟨uI, uB, uS, uL, uT, hu⟩ := words
  have hm := mixed
  have hT := tabOk
  have hCo := @counted_ctr
  obtain ⟨P, hP⟩ : ∃ P, P = Tryd.prog := ⟨_, rfl⟩
  rw [← hP] at hm hT hCo ⊢
  refine Ctr.weak (ctr_of_vc hu hm hT (hP ▸ Tryd.func26) rfl (by kernel_rfl) ?_)
  clear hP hm hT
  generalize hR : Weak _ _ = R
  conv => cbv
  repeat' (first | ((with_reducible intro (h : _ = _)); (try subst h); (try simp only [hu.b, hu.i, iB, iI, cmpB, ivs, ivl, lrs, lrl, trs, trl, decide_eq_true_eq, decide_eq_false_iff_not, beq_iff_eq, beq_eq_false_iff_ne, ne_eq, ofN, Int.toNat_zero, Int.toNat_one, Int.reduceToNat, natc, hu.s, iS, svs, svl, true_iff, false_iff, Bool.false_eq_true, bne_iff_ne, bne_eq_false_iff_eq, Bool.not_eq_true', Bool.not_eq_false', Decidable.not_not, nil_toList, ByteArray.size_empty, nilS, not_true_eq_false, not_false_eq_true, hu.l, iL, hu.t, iT, bin_add, bin_sub, bin_mul, wr_u8, wr_u16, wr_u32, wr_u64, IntKind.wrap_i64, List.length_append, List.length_cons, List.length_nil, List.nil_append, List.append_nil, List.cons_append, lvals, List.length_replicate, List.length_set, linV_val hu, Int.add_zero, Int.zero_add, Int.mul_one, Int.sub_zero, Int.zero_mul, Bool.true_eq_false, false_and, and_false, true_and, and_true, List.all_cons, List.all_nil, id_eq, Bool.and_true] at h) <;> (try simp only [Int.ofNat_eq_natCast] at h) <;> (first | (have hF0 : False := by omega; exact hF0.elim) | (conv => cbv))) | (with_reducible refine And.intro ?_ ?_) | (refine Gen0.mk ?_; (conv => cbv)) | (with_reducible refine Pick.view ?_; (conv => cbv)) | (simp only [hu.b, hu.i, iB, iI, cmpB, ivs, ivl, lrs, lrl, trs, trl, decide_eq_true_eq, decide_eq_false_iff_not, beq_iff_eq, beq_eq_false_iff_ne, ne_eq, ofN, Int.toNat_zero, Int.toNat_one, Int.reduceToNat, natc, hu.s, iS, svs, svl, true_iff, false_iff, Bool.false_eq_true, bne_iff_ne, bne_eq_false_iff_eq, Bool.not_eq_true', Bool.not_eq_false', Decidable.not_not, nil_toList, ByteArray.size_empty, nilS, not_true_eq_false, not_false_eq_true, hu.l, iL, hu.t, iT, bin_add, bin_sub, bin_mul, wr_u8, wr_u16, wr_u32, wr_u64, IntKind.wrap_i64, List.length_append, List.length_cons, List.length_nil, List.nil_append, List.append_nil, List.cons_append, lvals, List.length_replicate, List.length_set, linV_val hu, Int.add_zero, Int.zero_add, Int.mul_one, Int.sub_zero, Int.zero_mul, Bool.true_eq_false, false_and, and_false, true_and, and_true, List.all_cons, List.all_nil, id_eq, Bool.and_true]; (try simp only [Int.ofNat_eq_natCast]); done) | ((try simp only [hu.b, hu.i, iB, iI, cmpB, ivs, ivl, lrs, lrl, trs, trl, decide_eq_true_eq, decide_eq_false_iff_not, beq_iff_eq, beq_eq_false_iff_ne, ne_eq, ofN, Int.toNat_zero, Int.toNat_one, Int.reduceToNat, natc, hu.s, iS, svs, svl, true_iff, false_iff, Bool.false_eq_true, bne_iff_ne, bne_eq_false_iff_eq, Bool.not_eq_true', Bool.not_eq_false', Decidable.not_not, nil_toList, ByteArray.size_empty, nilS, not_true_eq_false, not_false_eq_true, hu.l, iL, hu.t, iT, bin_add, bin_sub, bin_mul, wr_u8, wr_u16, wr_u32, wr_u64, IntKind.wrap_i64, List.length_append, List.length_cons, List.length_nil, List.nil_append, List.append_nil, List.cons_append, lvals, List.length_replicate, List.length_set, linV_val hu, Int.add_zero, Int.zero_add, Int.mul_one, Int.sub_zero, Int.zero_mul, Bool.true_eq_false, false_and, and_false, true_and, and_true, List.all_cons, List.all_nil, id_eq, Bool.and_true]) <;> (try simp only [Int.ofNat_eq_natCast]) <;> omega))
  refine .forget [9] ?_
  refine .invr (Option (Int × Int × List Int)) [0, 6, 13] (fun g => match g with
    | none => ([.vec 0 (.sym n), .int .i64 (.sym n), .int .i64 (.lit 0)], [.cols (.row 1) 5 [.ints .u8 (.sym hd)], .srow 22 .u8 xss])
    | some (i, q, ys) => ([.vec 2 (.sym q), .int .i64 (.sym q), .int .i64 (.sym i)], [.dead, .srow 22 .u8 xss, .cols (.row 1) 5 [.ints .u8 (.sym ys)]])) (fun g => match g with
    | none => True
    | some (i, q, ys) => 1 ≤ i ∧ i ≤ m ∧ q = ys.length ∧ q ≤ 1024 ∧ ys = hd ++ catC (xss.take i.toNat)) (fun g => match g with
    | none => m.toNat
    | some (i, q, ys) => (m - i).toNat) none (by kernel_rfl) (fun g hg => by rcases g with _ | ⟨i, q, ys⟩ <;> kernel_rfl) ?_ ?_
  · refine ⟨trivial, ?_, ?_⟩
    all_goals
      ((conv => cbv); repeat' (first | exact True.intro | with_reducible rfl | (with_reducible exact fun h => h) | (with_reducible refine And.intro ?_ ?_)))
  intro g
  rcases g with _ | ⟨i, q, ys⟩
  · intro hq
    clear hq
    dsimp only
    generalize exs : xss.getD 0 [] = xs
    have exs := exs.symm
    have exs' : xss.getD 0 [] = xs := exs.symm
    rw [exs'] at hs0
    have e0 : subL xs 0 (Int.ofNat xs.length) = xs := subL_all _ _ rfl
    generalize ec : cntd xs = c
    have ec := ec.symm
    generalize ep : ((xs.length : Int) + 2) = p
    have ep := ep.symm
    have hcl : (c.length : Int) = p := by rw [ec, cntd_length]; omega
    have f0 : subL c 0 p = c := subL_all _ _ hcl.symm
    conv => cbv
    repeat' (first | ((with_reducible intro (h : _ = _)); (try subst h); (try simp only [hu.b, hu.i, iB, iI, cmpB, ivs, ivl, lrs, lrl, trs, trl, decide_eq_true_eq, decide_eq_false_iff_not, beq_iff_eq, beq_eq_false_iff_ne, ne_eq, ofN, Int.toNat_zero, Int.toNat_one, Int.reduceToNat, natc, hu.s, iS, svs, svl, true_iff, false_iff, Bool.false_eq_true, bne_iff_ne, bne_eq_false_iff_eq, Bool.not_eq_true', Bool.not_eq_false', Decidable.not_not, nil_toList, ByteArray.size_empty, nilS, not_true_eq_false, not_false_eq_true, hu.l, iL, hu.t, iT, bin_add, bin_sub, bin_mul, wr_u8, wr_u16, wr_u32, wr_u64, IntKind.wrap_i64, List.length_append, List.length_cons, List.length_nil, List.nil_append, List.append_nil, List.cons_append, lvals, List.length_replicate, List.length_set, linV_val hu, Int.add_zero, Int.zero_add, Int.mul_one, Int.sub_zero, Int.zero_mul, Bool.true_eq_false, false_and, and_false, true_and, and_true, List.all_cons, List.all_nil, id_eq, Bool.and_true, exs', e0, f0] at h) <;> (try simp only [Int.ofNat_eq_natCast] at h) <;> (first | (have hF0 : False := by omega; exact hF0.elim) | (conv => cbv))) | (with_reducible refine And.intro ?_ ?_) | (first | (refine CallDet.mkR ?_ (hCo _ _ p c ?_ ?_ ?_ ?_)) | (refine CallVC.mkR ?_ (hCo _ _ p c ?_ ?_ ?_ ?_))) | ((try simp only [hu.b, hu.i, iB, iI, cmpB, ivs, ivl, lrs, lrl, trs, trl, decide_eq_true_eq, decide_eq_false_iff_not, beq_iff_eq, beq_eq_false_iff_ne, ne_eq, ofN, Int.toNat_zero, Int.toNat_one, Int.reduceToNat, natc, hu.s, iS, svs, svl, true_iff, false_iff, Bool.false_eq_true, bne_iff_ne, bne_eq_false_iff_eq, Bool.not_eq_true', Bool.not_eq_false', Decidable.not_not, nil_toList, ByteArray.size_empty, nilS, not_true_eq_false, not_false_eq_true, hu.l, iL, hu.t, iT, bin_add, bin_sub, bin_mul, wr_u8, wr_u16, wr_u32, wr_u64, IntKind.wrap_i64, List.length_append, List.length_cons, List.length_nil, List.nil_append, List.append_nil, List.cons_append, lvals, List.length_replicate, List.length_set, linV_val hu, Int.add_zero, Int.zero_add, Int.mul_one, Int.sub_zero, Int.zero_mul, Bool.true_eq_false, false_and, and_false, true_and, and_true, List.all_cons, List.all_nil, id_eq, Bool.and_true, exs', e0, f0]) <;> (try simp only [Int.ofNat_eq_natCast]) <;> exact ec) | (refine Gen0.mk ?_; (conv => cbv)) | (with_reducible refine Pick.view ?_; (conv => cbv)) | (simp only [hu.b, hu.i, iB, iI, cmpB, ivs, ivl, lrs, lrl, trs, trl, decide_eq_true_eq, decide_eq_false_iff_not, beq_iff_eq, beq_eq_false_iff_ne, ne_eq, ofN, Int.toNat_zero, Int.toNat_one, Int.reduceToNat, natc, hu.s, iS, svs, svl, true_iff, false_iff, Bool.false_eq_true, bne_iff_ne, bne_eq_false_iff_eq, Bool.not_eq_true', Bool.not_eq_false', Decidable.not_not, nil_toList, ByteArray.size_empty, nilS, not_true_eq_false, not_false_eq_true, hu.l, iL, hu.t, iT, bin_add, bin_sub, bin_mul, wr_u8, wr_u16, wr_u32, wr_u64, IntKind.wrap_i64, List.length_append, List.length_cons, List.length_nil, List.nil_append, List.append_nil, List.cons_append, lvals, List.length_replicate, List.length_set, linV_val hu, Int.add_zero, Int.zero_add, Int.mul_one, Int.sub_zero, Int.zero_mul, Bool.true_eq_false, false_and, and_false, true_and, and_true, List.all_cons, List.all_nil, id_eq, Bool.and_true, exs', e0, f0]; (try simp only [Int.ofNat_eq_natCast]); done) | ((try simp only [hu.b, hu.i, iB, iI, cmpB, ivs, ivl, lrs, lrl, trs, trl, decide_eq_true_eq, decide_eq_false_iff_not, beq_iff_eq, beq_eq_false_iff_ne, ne_eq, ofN, Int.toNat_zero, Int.toNat_one, Int.reduceToNat, natc, hu.s, iS, svs, svl, true_iff, false_iff, Bool.false_eq_true, bne_iff_ne, bne_eq_false_iff_eq, Bool.not_eq_true', Bool.not_eq_false', Decidable.not_not, nil_toList, ByteArray.size_empty, nilS, not_true_eq_false, not_false_eq_true, hu.l, iL, hu.t, iT, bin_add, bin_sub, bin_mul, wr_u8, wr_u16, wr_u32, wr_u64, IntKind.wrap_i64, List.length_append, List.length_cons, List.length_nil, List.nil_append, List.append_nil, List.cons_append, lvals, List.length_replicate, List.length_set, linV_val hu, Int.add_zero, Int.zero_add, Int.mul_one, Int.sub_zero, Int.zero_mul, Bool.true_eq_false, false_and, and_false, true_and, and_true, List.all_cons, List.all_nil, id_eq, Bool.and_true, exs', e0, f0]) <;> (try simp only [Int.ofNat_eq_natCast]) <;> omega))
    · have hL := hbig 0 (by omega) (by rw [List.take_zero, show catC [] = [] from rfl, List.append_nil, ← exs]; omega)
      subst hR
      refine Weak.of ((.inl ⟨hL, rfl, rfl⟩)) ?_ ?_ (by rfl)
      all_goals ((conv => cbv); repeat' (first | exact True.intro | with_reducible rfl | (with_reducible exact fun h => h) | (with_reducible refine And.intro ?_ ?_)))
    · obtain ⟨q', eq⟩ : ∃ x, x = n + p := ⟨_, rfl⟩
      obtain ⟨ys, ey⟩ : ∃ x, x = hd ++ c := ⟨_, rfl⟩
      have hy : ys = hd ++ catC (xss.take (1 : Int).toNat) := by
        rw [show (1 : Int).toNat = 0 + 1 from rfl, catC_next (by omega), List.take_zero, ← exs, ← ec]; exact ey
      have hyl : q' = ys.length := by rw [ey, List.length_append]; omega
      refine ⟨some (1, q', ys), ⟨by decide, by omega, hyl, by omega, hy⟩, by dsimp only; omega, [0, 1, 4], by kernel_rfl, by kernel_rfl, ?_, ?_⟩
      all_goals
        ((conv => cbv); repeat' (first | exact True.intro | with_reducible rfl | (with_reducible exact fun h => h) | (with_reducible refine And.intro ?_ ?_)))
      all_goals
        ((try simp only [hu.b, hu.i, iB, iI, cmpB, ivs, ivl, lrs, lrl, trs, trl, decide_eq_true_eq, decide_eq_false_iff_not, beq_iff_eq, beq_eq_false_iff_ne, ne_eq, ofN, Int.toNat_zero, Int.toNat_one, Int.reduceToNat, natc, hu.s, iS, svs, svl, true_iff, false_iff, Bool.false_eq_true, bne_iff_ne, bne_eq_false_iff_eq, Bool.not_eq_true', Bool.not_eq_false', Decidable.not_not, nil_toList, ByteArray.size_empty, nilS, not_true_eq_false, not_false_eq_true, hu.l, iL, hu.t, iT, bin_add, bin_sub, bin_mul, wr_u8, wr_u16, wr_u32, wr_u64, IntKind.wrap_i64, List.length_append, List.length_cons, List.length_nil, List.nil_append, List.append_nil, List.cons_append, lvals, List.length_replicate, List.length_set, linV_val hu, Int.add_zero, Int.zero_add, Int.mul_one, Int.sub_zero, Int.zero_mul, Bool.true_eq_false, false_and, and_false, true_and, and_true, List.all_cons, List.all_nil, id_eq, Bool.and_true, exs', e0, f0]) <;> (try simp only [Int.ofNat_eq_natCast]) <;> (try omega))
      all_goals exact ey.symm
  · intro hq
    dsimp only at hq ⊢
    have q0 := hq.1; have q1 := hq.2.1; have q2 := hq.2.2.1; have q3 := hq.2.2.2.1; have q4 := hq.2.2.2.2
    clear hq
    have hsi := h3 i.toNat
    generalize exs : xss.getD i.toNat [] = xs
    have exs := exs.symm
    have exs' : xss.getD i.toNat [] = xs := exs.symm
    rw [exs'] at hsi
    have e0 : subL xs 0 (Int.ofNat xs.length) = xs := subL_all _ _ rfl
    generalize ec : cntd xs = c
    have ec := ec.symm
    generalize ep : ((xs.length : Int) + 2) = p
    have ep := ep.symm
    have hcl : (c.length : Int) = p := by rw [ec, cntd_length]; omega
    have f0 : subL c 0 p = c := subL_all _ _ hcl.symm
    conv => cbv
    repeat' (first | ((with_reducible intro (h : _ = _)); (try subst h); (try simp only [hu.b, hu.i, iB, iI, cmpB, ivs, ivl, lrs, lrl, trs, trl, decide_eq_true_eq, decide_eq_false_iff_not, beq_iff_eq, beq_eq_false_iff_ne, ne_eq, ofN, Int.toNat_zero, Int.toNat_one, Int.reduceToNat, natc, hu.s, iS, svs, svl, true_iff, false_iff, Bool.false_eq_true, bne_iff_ne, bne_eq_false_iff_eq, Bool.not_eq_true', Bool.not_eq_false', Decidable.not_not, nil_toList, ByteArray.size_empty, nilS, not_true_eq_false, not_false_eq_true, hu.l, iL, hu.t, iT, bin_add, bin_sub, bin_mul, wr_u8, wr_u16, wr_u32, wr_u64, IntKind.wrap_i64, List.length_append, List.length_cons, List.length_nil, List.nil_append, List.append_nil, List.cons_append, lvals, List.length_replicate, List.length_set, linV_val hu, Int.add_zero, Int.zero_add, Int.mul_one, Int.sub_zero, Int.zero_mul, Bool.true_eq_false, false_and, and_false, true_and, and_true, List.all_cons, List.all_nil, id_eq, Bool.and_true, exs', e0, f0] at h) <;> (try simp only [Int.ofNat_eq_natCast] at h) <;> (first | (have hF0 : False := by omega; exact hF0.elim) | (conv => cbv))) | (with_reducible refine And.intro ?_ ?_) | (first | (refine CallDet.mkR ?_ (hCo _ _ p c ?_ ?_ ?_ ?_)) | (refine CallVC.mkR ?_ (hCo _ _ p c ?_ ?_ ?_ ?_))) | ((try simp only [hu.b, hu.i, iB, iI, cmpB, ivs, ivl, lrs, lrl, trs, trl, decide_eq_true_eq, decide_eq_false_iff_not, beq_iff_eq, beq_eq_false_iff_ne, ne_eq, ofN, Int.toNat_zero, Int.toNat_one, Int.reduceToNat, natc, hu.s, iS, svs, svl, true_iff, false_iff, Bool.false_eq_true, bne_iff_ne, bne_eq_false_iff_eq, Bool.not_eq_true', Bool.not_eq_false', Decidable.not_not, nil_toList, ByteArray.size_empty, nilS, not_true_eq_false, not_false_eq_true, hu.l, iL, hu.t, iT, bin_add, bin_sub, bin_mul, wr_u8, wr_u16, wr_u32, wr_u64, IntKind.wrap_i64, List.length_append, List.length_cons, List.length_nil, List.nil_append, List.append_nil, List.cons_append, lvals, List.length_replicate, List.length_set, linV_val hu, Int.add_zero, Int.zero_add, Int.mul_one, Int.sub_zero, Int.zero_mul, Bool.true_eq_false, false_and, and_false, true_and, and_true, List.all_cons, List.all_nil, id_eq, Bool.and_true, exs', e0, f0]) <;> (try simp only [Int.ofNat_eq_natCast]) <;> exact ec) | (refine Gen0.mk ?_; (conv => cbv)) | (with_reducible refine Pick.view ?_; (conv => cbv)) | (simp only [hu.b, hu.i, iB, iI, cmpB, ivs, ivl, lrs, lrl, trs, trl, decide_eq_true_eq, decide_eq_false_iff_not, beq_iff_eq, beq_eq_false_iff_ne, ne_eq, ofN, Int.toNat_zero, Int.toNat_one, Int.reduceToNat, natc, hu.s, iS, svs, svl, true_iff, false_iff, Bool.false_eq_true, bne_iff_ne, bne_eq_false_iff_eq, Bool.not_eq_true', Bool.not_eq_false', Decidable.not_not, nil_toList, ByteArray.size_empty, nilS, not_true_eq_false, not_false_eq_true, hu.l, iL, hu.t, iT, bin_add, bin_sub, bin_mul, wr_u8, wr_u16, wr_u32, wr_u64, IntKind.wrap_i64, List.length_append, List.length_cons, List.length_nil, List.nil_append, List.append_nil, List.cons_append, lvals, List.length_replicate, List.length_set, linV_val hu, Int.add_zero, Int.zero_add, Int.mul_one, Int.sub_zero, Int.zero_mul, Bool.true_eq_false, false_and, and_false, true_and, and_true, List.all_cons, List.all_nil, id_eq, Bool.and_true, exs', e0, f0]; (try simp only [Int.ofNat_eq_natCast]); done) | ((try simp only [hu.b, hu.i, iB, iI, cmpB, ivs, ivl, lrs, lrl, trs, trl, decide_eq_true_eq, decide_eq_false_iff_not, beq_iff_eq, beq_eq_false_iff_ne, ne_eq, ofN, Int.toNat_zero, Int.toNat_one, Int.reduceToNat, natc, hu.s, iS, svs, svl, true_iff, false_iff, Bool.false_eq_true, bne_iff_ne, bne_eq_false_iff_eq, Bool.not_eq_true', Bool.not_eq_false', Decidable.not_not, nil_toList, ByteArray.size_empty, nilS, not_true_eq_false, not_false_eq_true, hu.l, iL, hu.t, iT, bin_add, bin_sub, bin_mul, wr_u8, wr_u16, wr_u32, wr_u64, IntKind.wrap_i64, List.length_append, List.length_cons, List.length_nil, List.nil_append, List.append_nil, List.cons_append, lvals, List.length_replicate, List.length_set, linV_val hu, Int.add_zero, Int.zero_add, Int.mul_one, Int.sub_zero, Int.zero_mul, Bool.true_eq_false, false_and, and_false, true_and, and_true, List.all_cons, List.all_nil, id_eq, Bool.and_true, exs', e0, f0]) <;> (try simp only [Int.ofNat_eq_natCast]) <;> omega))
    · have hL := hbig i.toNat (by omega) (by rw [← q4, ← exs]; omega)
      subst hR
      refine Weak.of ((.inl ⟨hL, rfl, rfl⟩)) ?_ ?_ (by rfl)
      all_goals ((conv => cbv); repeat' (first | exact True.intro | with_reducible rfl | (with_reducible exact fun h => h) | (with_reducible refine And.intro ?_ ?_)))
    · obtain ⟨q', eq⟩ : ∃ x, x = q + p := ⟨_, rfl⟩
      obtain ⟨i', ei⟩ : ∃ x, x = i + 1 := ⟨_, rfl⟩
      obtain ⟨zs, ey⟩ : ∃ x, x = ys ++ c := ⟨_, rfl⟩
      have hy : zs = hd ++ catC (xss.take i'.toNat) := by
        rw [show i'.toNat = i.toNat + 1 by omega, catC_next (by omega), ← List.append_assoc, ← q4, ← exs, ← ec]; exact ey
      have hyl : q' = zs.length := by rw [ey, List.length_append]; omega
      refine ⟨some (i', q', zs), ⟨by omega, by omega, hyl, by omega, hy⟩, by dsimp only; omega, [0, 1, 5], by kernel_rfl, by kernel_rfl, ?_, ?_⟩
      all_goals
        ((conv => cbv); repeat' (first | exact True.intro | with_reducible rfl | (with_reducible exact fun h => h) | (with_reducible refine And.intro ?_ ?_)))
      all_goals
        ((try simp only [hu.b, hu.i, iB, iI, cmpB, ivs, ivl, lrs, lrl, trs, trl, decide_eq_true_eq, decide_eq_false_iff_not, beq_iff_eq, beq_eq_false_iff_ne, ne_eq, ofN, Int.toNat_zero, Int.toNat_one, Int.reduceToNat, natc, hu.s, iS, svs, svl, true_iff, false_iff, Bool.false_eq_true, bne_iff_ne, bne_eq_false_iff_eq, Bool.not_eq_true', Bool.not_eq_false', Decidable.not_not, nil_toList, ByteArray.size_empty, nilS, not_true_eq_false, not_false_eq_true, hu.l, iL, hu.t, iT, bin_add, bin_sub, bin_mul, wr_u8, wr_u16, wr_u32, wr_u64, IntKind.wrap_i64, List.length_append, List.length_cons, List.length_nil, List.nil_append, List.append_nil, List.cons_append, lvals, List.length_replicate, List.length_set, linV_val hu, Int.add_zero, Int.zero_add, Int.mul_one, Int.sub_zero, Int.zero_mul, Bool.true_eq_false, false_and, and_false, true_and, and_true, List.all_cons, List.all_nil, id_eq, Bool.and_true, exs', e0, f0]) <;> (try simp only [Int.ofNat_eq_natCast]) <;> (try omega))
      all_goals exact ey.symm
    · have hx : ys = hd ++ catC xss := by rw [q4, List.take_of_length_le (by omega)]
      subst hR
      refine Weak.of ((.inr ⟨q, ys, ⟨q2, q3, hx⟩, rfl, rfl⟩)) ?_ ?_ (by rfl)
      all_goals ((conv => cbv); repeat' (first | exact True.intro | with_reducible rfl | (with_reducible exact fun h => h) | (with_reducible refine And.intro ?_ ?_)))
end Go.Proofs.YtdenmaiimfnbeaaDoor
namespace Go.Proofs.YtdenmaiimfnbeaaDoor
open Go Sx
set_option maxRecDepth 100000
set_option maxHeartbeats 2000000
/-- A command's bytes. -/
def cmdL (op a b : Int) (s t u : ByteArray) (d : List Int) : List Int := [op, a, b / 256, b % 256] ++ catC [bytesL s, bytesL t, bytesL u, d]
def inC (op a b : Int) : Prop := (0 ≤ op ∧ op ≤ 255) ∧ (0 ≤ a ∧ a ≤ 255) ∧ (0 ≤ b ∧ b ≤ 65535)
theorem cmdL_length (op a b : Int) (s t u : ByteArray) (d : List Int) : ((cmdL op a b s t u d).length : Int) = 12 + s.size + t.size + u.size + d.length := by
  simp only [cmdL, catC, List.length_append, cntd_length, bytesL_length, List.length_cons, List.length_nil]; omega
/-- An answer's. -/
def ansL (op : Int) (s : ByteArray) (d : List Int) : List Int := [op] ++ catC [bytesL s, d]
def inA (op : Int) : Prop := 0 ≤ op ∧ op ≤ 255
theorem ansL_length (op : Int) (s : ByteArray) (d : List Int) : ((ansL op s d).length : Int) = 5 + s.size + d.length := by
  simp only [ansL, catC, List.length_append, cntd_length, bytesL_length, List.length_cons, List.length_nil]; omega
theorem write_ctr {tt : TypeId} (op a b : Int) (s t u : ByteArray) (d : List Int) (n : Int) (hn : n = d.length) (hs : s.size ≤ 2000) (ht : t.size ≤ 2000) (hu' : u.size ≤ 2000) (hd : d.length ≤ 2000) : Ctr Tryd.prog 10 [.cols .ro tt [.ints .u8 (.sym d)]] [.agg [.int .i64 (.sym op), .int .i64 (.sym a), .int .i64 (.sym b), .str (.sym s), .str (.sym t), .str (.sym u), .sl 0 (.lit 0) (.sym n)]] fun v H =>
    (¬ inC op a b ∧ v = .tup [.nilsl, .iface 54 (.int .i64 (.sym 1))] ∧ H = [.cols .ro tt [.ints .u8 (.sym d)]]) ∨
    ((inC op a b ∧ 1012 < s.size + t.size + u.size + n) ∧ v = .tup [.nilsl, .iface 54 (.int .i64 (.sym 2))] ∧ H = [.cols .ro tt [.ints .u8 (.sym d)]]) ∨
    (∃ q ys, (inC op a b ∧ s.size + t.size + u.size + n ≤ 1012 ∧ q = ys.length ∧ q = 12 + s.size + t.size + u.size + n ∧ ys = cmdL op a b s t u d) ∧ v = .tup [.vec 1 (.sym q), .nilif] ∧ H = [.cols .ro tt [.ints .u8 (.sym d)], .cols (.row 1) 5 [.ints .u8 (.sym ys)]]) := by
  have e0 : subL d 0 n = d := subL_all _ _ hn
  obtain ⟨xs, ex⟩ : ∃ x, x = [b / 256, b % 256] := ⟨_, rfl⟩
  obtain ⟨p, ep⟩ : ∃ x : Int, x = 2 := ⟨_, rfl⟩
  have hl : (xs.length : Int) = 2 := by rw [ex]; rfl
  have f1 : subL xs 0 p = xs := subL_all _ _ (by omega)
  have b1 : subL (bytesL s) 0 (Int.ofNat s.size) = bytesL s := subL_bytes s
  have b2 : subL (bytesL t) 0 (Int.ofNat t.size) = bytesL t := subL_bytes t
  have b3 : subL (bytesL u) 0 (Int.ofNat u.size) = bytesL u := subL_bytes u
  have h4 : ∀ i, ([bytesL s, bytesL t, bytesL u, d].getD i []).length ≤ 4000 := fun i => by
    match i with
    | 0 => show (bytesL s).length ≤ _; rw [bytesL_length]; omega
    | 1 => show (bytesL t).length ≤ _; rw [bytesL_length]; omega
    | 2 => show (bytesL u).length ≤ _; rw [bytesL_length]; omega
    | 3 => show List.length d ≤ _; omega
    | n + 4 => show ([] : List Int).length ≤ _; simp
  have c1 : inC op a b → [op % 256, a % 256] ++ xs ++ catC [bytesL s, bytesL t, bytesL u, d] = cmdL op a b s t u d := fun h => by
    unfold inC at h
    rw [ex, cmdL, show op % 256 = op by omega, show a % 256 = a by omega]; rfl
  have c2 := cmdL_length op a b s t u d
  have c3 : ((catC [bytesL s, bytesL t, bytesL u, d]).length : Int) = 8 + s.size + t.size + u.size + n := by
    simp only [catC, List.length_append, cntd_length, bytesL_length, List.length_nil]; omega
  obtain ⟨uI, uB, uS, uL, uT, hu⟩ := words
  have hm := mixed
  have hT := tabOk
  have hWt := @within_t
  have hWf := @within_f
  have hSh := @short_ctr
  have hSi := @sized_ctr
  obtain ⟨P, hP⟩ : ∃ P, P = Tryd.prog := ⟨_, rfl⟩
  rw [← hP] at hm hT hWt hWf hSh hSi ⊢
  refine Ctr.weak (ctr_of_vc hu hm hT (hP ▸ Tryd.func10) rfl (by kernel_rfl) ?_)
  clear hP hm hT
  generalize hR : Weak _ _ = R
  conv => cbv
  repeat' (first | ((with_reducible intro (h : _ = _)); (try subst h); (try simp only [hu.b, hu.i, iB, iI, cmpB, ivs, ivl, lrs, lrl, trs, trl, decide_eq_true_eq, decide_eq_false_iff_not, beq_iff_eq, beq_eq_false_iff_ne, ne_eq, ofN, Int.toNat_zero, Int.toNat_one, Int.reduceToNat, natc, hu.s, iS, svs, svl, true_iff, false_iff, Bool.false_eq_true, bne_iff_ne, bne_eq_false_iff_eq, Bool.not_eq_true', Bool.not_eq_false', Decidable.not_not, nil_toList, ByteArray.size_empty, nilS, not_true_eq_false, not_false_eq_true, hu.l, iL, hu.t, iT, bin_add, bin_sub, bin_mul, wr_u8, wr_u16, wr_u32, wr_u64, IntKind.wrap_i64, List.length_append, List.length_cons, List.length_nil, List.nil_append, List.append_nil, List.cons_append, lvals, List.length_replicate, List.length_set, linV_val hu, Int.add_zero, Int.zero_add, Int.mul_one, Int.sub_zero, Int.zero_mul, Bool.true_eq_false, false_and, and_false, true_and, and_true, List.all_cons, List.all_nil, id_eq, Bool.and_true, e0, f1, b1, b2, b3, bytesL_length] at h) <;> (try simp only [Int.ofNat_eq_natCast] at h) <;> (first | (have hF0 : False := by omega; exact hF0.elim) | (conv => cbv))) | (with_reducible refine And.intro ?_ ?_) | (first | (refine CallDet.cases (0 ≤ op ∧ op ≤ 255) (fun hc => CallDet.mkR ?_ (hWt op _ ?_)) (fun hc => CallDet.mkR ?_ (hWf op _ ?_))) | (refine CallVC.cases (0 ≤ op ∧ op ≤ 255) (fun hc => CallVC.mkR ?_ (hWt op _ ?_)) (fun hc => CallVC.mkR ?_ (hWf op _ ?_)))) | (first | (refine CallDet.cases (0 ≤ a ∧ a ≤ 255) (fun hc => CallDet.mkR ?_ (hWt a _ ?_)) (fun hc => CallDet.mkR ?_ (hWf a _ ?_))) | (refine CallVC.cases (0 ≤ a ∧ a ≤ 255) (fun hc => CallVC.mkR ?_ (hWt a _ ?_)) (fun hc => CallVC.mkR ?_ (hWf a _ ?_)))) | (first | (refine CallDet.cases (0 ≤ b ∧ b ≤ 65535) (fun hc => CallDet.mkR ?_ (hWt b _ ?_)) (fun hc => CallDet.mkR ?_ (hWf b _ ?_))) | (refine CallVC.cases (0 ≤ b ∧ b ≤ 65535) (fun hc => CallVC.mkR ?_ (hWt b _ ?_)) (fun hc => CallVC.mkR ?_ (hWf b _ ?_)))) | (first | (refine CallDet.mkR ?_ (hSh _ p xs ?_ ep ?_)) | (refine CallVC.mkR ?_ (hSh _ p xs ?_ ep ?_))) | (refine CallVC.mk (Ctr.monoR ?_ (hSi _ _ _ _ ?_ ?_ ?_ ?_ ?_)); ((rintro v H (⟨h7, rfl, rfl⟩ | ⟨q, ys, h7, rfl, rfl⟩)) <;> (try simp only [hu.b, hu.i, iB, iI, cmpB, ivs, ivl, lrs, lrl, trs, trl, decide_eq_true_eq, decide_eq_false_iff_not, beq_iff_eq, beq_eq_false_iff_ne, ne_eq, ofN, Int.toNat_zero, Int.toNat_one, Int.reduceToNat, natc, hu.s, iS, svs, svl, true_iff, false_iff, Bool.false_eq_true, bne_iff_ne, bne_eq_false_iff_eq, Bool.not_eq_true', Bool.not_eq_false', Decidable.not_not, nil_toList, ByteArray.size_empty, nilS, not_true_eq_false, not_false_eq_true, hu.l, iL, hu.t, iT, bin_add, bin_sub, bin_mul, wr_u8, wr_u16, wr_u32, wr_u64, IntKind.wrap_i64, List.length_append, List.length_cons, List.length_nil, List.nil_append, List.append_nil, List.cons_append, lvals, List.length_replicate, List.length_set, linV_val hu, Int.add_zero, Int.zero_add, Int.mul_one, Int.sub_zero, Int.zero_mul, Bool.true_eq_false, false_and, and_false, true_and, and_true, List.all_cons, List.all_nil, id_eq, Bool.and_true, e0, f1, b1, b2, b3, bytesL_length] at h7) <;> (try simp only [hu.b, hu.i, iB, iI, cmpB, ivs, ivl, lrs, lrl, trs, trl, decide_eq_true_eq, decide_eq_false_iff_not, beq_iff_eq, beq_eq_false_iff_ne, ne_eq, ofN, Int.toNat_zero, Int.toNat_one, Int.reduceToNat, natc, hu.s, iS, svs, svl, true_iff, false_iff, Bool.false_eq_true, bne_iff_ne, bne_eq_false_iff_eq, Bool.not_eq_true', Bool.not_eq_false', Decidable.not_not, nil_toList, ByteArray.size_empty, nilS, not_true_eq_false, not_false_eq_true, hu.l, iL, hu.t, iT, bin_add, bin_sub, bin_mul, wr_u8, wr_u16, wr_u32, wr_u64, IntKind.wrap_i64, List.length_append, List.length_cons, List.length_nil, List.nil_append, List.append_nil, List.cons_append, lvals, List.length_replicate, List.length_set, linV_val hu, Int.add_zero, Int.zero_add, Int.mul_one, Int.sub_zero, Int.zero_mul, Bool.true_eq_false, false_and, and_false, true_and, and_true, List.all_cons, List.all_nil, id_eq, Bool.and_true, e0, f1, b1, b2, b3, bytesL_length] at h7) <;> (try simp only [Int.ofNat_eq_natCast] at h7) <;> (try simp only [Int.ofNat_eq_natCast] at h7) <;> (first | (have hF0 : False := by omega; exact hF0.elim) | (conv => cbv)))) | ((try simp only [hu.b, hu.i, iB, iI, cmpB, ivs, ivl, lrs, lrl, trs, trl, decide_eq_true_eq, decide_eq_false_iff_not, beq_iff_eq, beq_eq_false_iff_ne, ne_eq, ofN, Int.toNat_zero, Int.toNat_one, Int.reduceToNat, natc, hu.s, iS, svs, svl, true_iff, false_iff, Bool.false_eq_true, bne_iff_ne, bne_eq_false_iff_eq, Bool.not_eq_true', Bool.not_eq_false', Decidable.not_not, nil_toList, ByteArray.size_empty, nilS, not_true_eq_false, not_false_eq_true, hu.l, iL, hu.t, iT, bin_add, bin_sub, bin_mul, wr_u8, wr_u16, wr_u32, wr_u64, IntKind.wrap_i64, List.length_append, List.length_cons, List.length_nil, List.nil_append, List.append_nil, List.cons_append, lvals, List.length_replicate, List.length_set, linV_val hu, Int.add_zero, Int.zero_add, Int.mul_one, Int.sub_zero, Int.zero_mul, Bool.true_eq_false, false_and, and_false, true_and, and_true, List.all_cons, List.all_nil, id_eq, Bool.and_true, e0, f1, b1, b2, b3, bytesL_length]) <;> (try simp only [Int.ofNat_eq_natCast]) <;> (first | exact ex | exact h4)) | (refine Gen0.mk ?_; (conv => cbv)) | (refine (Pick.own (f := 26) ?_ : Pick 26 _ _); (conv => cbv)) | (with_reducible refine Pick.view ?_; (conv => cbv)) | (simp only [hu.b, hu.i, iB, iI, cmpB, ivs, ivl, lrs, lrl, trs, trl, decide_eq_true_eq, decide_eq_false_iff_not, beq_iff_eq, beq_eq_false_iff_ne, ne_eq, ofN, Int.toNat_zero, Int.toNat_one, Int.reduceToNat, natc, hu.s, iS, svs, svl, true_iff, false_iff, Bool.false_eq_true, bne_iff_ne, bne_eq_false_iff_eq, Bool.not_eq_true', Bool.not_eq_false', Decidable.not_not, nil_toList, ByteArray.size_empty, nilS, not_true_eq_false, not_false_eq_true, hu.l, iL, hu.t, iT, bin_add, bin_sub, bin_mul, wr_u8, wr_u16, wr_u32, wr_u64, IntKind.wrap_i64, List.length_append, List.length_cons, List.length_nil, List.nil_append, List.append_nil, List.cons_append, lvals, List.length_replicate, List.length_set, linV_val hu, Int.add_zero, Int.zero_add, Int.mul_one, Int.sub_zero, Int.zero_mul, Bool.true_eq_false, false_and, and_false, true_and, and_true, List.all_cons, List.all_nil, id_eq, Bool.and_true, e0, f1, b1, b2, b3, bytesL_length]; (try simp only [Int.ofNat_eq_natCast]); done) | ((try simp only [hu.b, hu.i, iB, iI, cmpB, ivs, ivl, lrs, lrl, trs, trl, decide_eq_true_eq, decide_eq_false_iff_not, beq_iff_eq, beq_eq_false_iff_ne, ne_eq, ofN, Int.toNat_zero, Int.toNat_one, Int.reduceToNat, natc, hu.s, iS, svs, svl, true_iff, false_iff, Bool.false_eq_true, bne_iff_ne, bne_eq_false_iff_eq, Bool.not_eq_true', Bool.not_eq_false', Decidable.not_not, nil_toList, ByteArray.size_empty, nilS, not_true_eq_false, not_false_eq_true, hu.l, iL, hu.t, iT, bin_add, bin_sub, bin_mul, wr_u8, wr_u16, wr_u32, wr_u64, IntKind.wrap_i64, List.length_append, List.length_cons, List.length_nil, List.nil_append, List.append_nil, List.cons_append, lvals, List.length_replicate, List.length_set, linV_val hu, Int.add_zero, Int.zero_add, Int.mul_one, Int.sub_zero, Int.zero_mul, Bool.true_eq_false, false_and, and_false, true_and, and_true, List.all_cons, List.all_nil, id_eq, Bool.and_true, e0, f1, b1, b2, b3, bytesL_length]) <;> (try simp only [Int.ofNat_eq_natCast]) <;> omega))
  · have hin : inC op a b := by unfold inC; omega
    have hbig : (1012 : Int) < s.size + t.size + u.size + n := by omega
    subst hR
    refine Weak.of ((.inr (.inl ⟨⟨hin, hbig⟩, rfl, rfl⟩))) ?_ ?_ (by rfl)
    all_goals ((conv => cbv); repeat' (first | exact True.intro | with_reducible rfl | (with_reducible exact fun h => h) | (with_reducible refine And.intro ?_ ?_)))
  · have hin : inC op a b := by unfold inC; omega
    have hy : ys = cmdL op a b s t u d := by rw [← c1 hin, h7.2.2]; simp
    have hq : q = 12 + s.size + t.size + u.size + n := by rw [h7.1, hy, c2]; omega
    have hfew : (s.size + t.size + u.size + n : Int) ≤ 1012 := by have := h7.2.1; omega
    subst hR
    refine Weak.of ((.inr (.inr ⟨q, ys, ⟨hin, hfew, h7.1, hq, hy⟩, rfl, rfl⟩))) ?_ ?_ (by rfl)
    all_goals ((conv => cbv); repeat' (first | exact True.intro | with_reducible rfl | (with_reducible exact fun h => h) | (with_reducible refine And.intro ?_ ?_)))
  all_goals
    have hin : ¬ inC op a b := by unfold inC; omega
    subst hR
    refine Weak.of ((.inl ⟨hin, rfl, rfl⟩)) ?_ ?_ (by rfl)
    all_goals ((conv => cbv); repeat' (first | exact True.intro | with_reducible rfl | (with_reducible exact fun h => h) | (with_reducible refine And.intro ?_ ?_)))
theorem write_nil (op a b : Int) (s t u : ByteArray) (hs : s.size ≤ 2000) (ht : t.size ≤ 2000) (hu' : u.size ≤ 2000) : Ctr Tryd.prog 10 [] [.agg [.int .i64 (.sym op), .int .i64 (.sym a), .int .i64 (.sym b), .str (.sym s), .str (.sym t), .str (.sym u), .nilsl]] fun v H =>
    (¬ inC op a b ∧ v = .tup [.nilsl, .iface 54 (.int .i64 (.sym 1))] ∧ H = []) ∨
    ((inC op a b ∧ 1012 < s.size + t.size + u.size + (0 : Int)) ∧ v = .tup [.nilsl, .iface 54 (.int .i64 (.sym 2))] ∧ H = []) ∨
    (∃ q ys, (inC op a b ∧ s.size + t.size + u.size + (0 : Int) ≤ 1012 ∧ q = ys.length ∧ q = 12 + s.size + t.size + u.size + (0 : Int) ∧ ys = cmdL op a b s t u []) ∧ v = .tup [.vec 0 (.sym q), .nilif] ∧ H = [.cols (.row 1) 5 [.ints .u8 (.sym ys)]]) := by
  have n0 : (([] : List Int).length : Int) = 0 := rfl
  obtain ⟨xs, ex⟩ : ∃ x, x = [b / 256, b % 256] := ⟨_, rfl⟩
  obtain ⟨p, ep⟩ : ∃ x : Int, x = 2 := ⟨_, rfl⟩
  have hl : (xs.length : Int) = 2 := by rw [ex]; rfl
  have f1 : subL xs 0 p = xs := subL_all _ _ (by omega)
  have b1 : subL (bytesL s) 0 (Int.ofNat s.size) = bytesL s := subL_bytes s
  have b2 : subL (bytesL t) 0 (Int.ofNat t.size) = bytesL t := subL_bytes t
  have b3 : subL (bytesL u) 0 (Int.ofNat u.size) = bytesL u := subL_bytes u
  have h4 : ∀ i, ([bytesL s, bytesL t, bytesL u, []].getD i []).length ≤ 4000 := fun i => by
    match i with
    | 0 => show (bytesL s).length ≤ _; rw [bytesL_length]; omega
    | 1 => show (bytesL t).length ≤ _; rw [bytesL_length]; omega
    | 2 => show (bytesL u).length ≤ _; rw [bytesL_length]; omega
    | 3 => show ([] : List Int).length ≤ _; decide
    | n + 4 => show ([] : List Int).length ≤ _; simp
  have c1 : inC op a b → [op % 256, a % 256] ++ xs ++ catC [bytesL s, bytesL t, bytesL u, []] = cmdL op a b s t u [] := fun h => by
    unfold inC at h
    rw [ex, cmdL, show op % 256 = op by omega, show a % 256 = a by omega]; rfl
  have c2 := cmdL_length op a b s t u []
  have c3 : ((catC [bytesL s, bytesL t, bytesL u, []]).length : Int) = 8 + s.size + t.size + u.size + (0 : Int) := by
    simp only [catC, List.length_append, cntd_length, bytesL_length, List.length_nil]; omega
  obtain ⟨uI, uB, uS, uL, uT, hu⟩ := words
  have hm := mixed
  have hT := tabOk
  have hWt := @within_t
  have hWf := @within_f
  have hSh := @short_ctr
  have hSi := @sized_ctr
  obtain ⟨P, hP⟩ : ∃ P, P = Tryd.prog := ⟨_, rfl⟩
  rw [← hP] at hm hT hWt hWf hSh hSi ⊢
  refine Ctr.weak (ctr_of_vc hu hm hT (hP ▸ Tryd.func10) rfl (by kernel_rfl) ?_)
  clear hP hm hT
  generalize hR : Weak _ _ = R
  conv => cbv
  repeat' (first | ((with_reducible intro (h : _ = _)); (try subst h); (try simp only [hu.b, hu.i, iB, iI, cmpB, ivs, ivl, lrs, lrl, trs, trl, decide_eq_true_eq, decide_eq_false_iff_not, beq_iff_eq, beq_eq_false_iff_ne, ne_eq, ofN, Int.toNat_zero, Int.toNat_one, Int.reduceToNat, natc, hu.s, iS, svs, svl, true_iff, false_iff, Bool.false_eq_true, bne_iff_ne, bne_eq_false_iff_eq, Bool.not_eq_true', Bool.not_eq_false', Decidable.not_not, nil_toList, ByteArray.size_empty, nilS, not_true_eq_false, not_false_eq_true, hu.l, iL, hu.t, iT, bin_add, bin_sub, bin_mul, wr_u8, wr_u16, wr_u32, wr_u64, IntKind.wrap_i64, List.length_append, List.length_cons, List.length_nil, List.nil_append, List.append_nil, List.cons_append, lvals, List.length_replicate, List.length_set, linV_val hu, Int.add_zero, Int.zero_add, Int.mul_one, Int.sub_zero, Int.zero_mul, Bool.true_eq_false, false_and, and_false, true_and, and_true, List.all_cons, List.all_nil, id_eq, Bool.and_true, f1, b1, b2, b3, bytesL_length] at h) <;> (try simp only [Int.ofNat_eq_natCast] at h) <;> (first | (have hF0 : False := by omega; exact hF0.elim) | (conv => cbv))) | (with_reducible refine And.intro ?_ ?_) | (first | (refine CallDet.cases (0 ≤ op ∧ op ≤ 255) (fun hc => CallDet.mkR ?_ (hWt op _ ?_)) (fun hc => CallDet.mkR ?_ (hWf op _ ?_))) | (refine CallVC.cases (0 ≤ op ∧ op ≤ 255) (fun hc => CallVC.mkR ?_ (hWt op _ ?_)) (fun hc => CallVC.mkR ?_ (hWf op _ ?_)))) | (first | (refine CallDet.cases (0 ≤ a ∧ a ≤ 255) (fun hc => CallDet.mkR ?_ (hWt a _ ?_)) (fun hc => CallDet.mkR ?_ (hWf a _ ?_))) | (refine CallVC.cases (0 ≤ a ∧ a ≤ 255) (fun hc => CallVC.mkR ?_ (hWt a _ ?_)) (fun hc => CallVC.mkR ?_ (hWf a _ ?_)))) | (first | (refine CallDet.cases (0 ≤ b ∧ b ≤ 65535) (fun hc => CallDet.mkR ?_ (hWt b _ ?_)) (fun hc => CallDet.mkR ?_ (hWf b _ ?_))) | (refine CallVC.cases (0 ≤ b ∧ b ≤ 65535) (fun hc => CallVC.mkR ?_ (hWt b _ ?_)) (fun hc => CallVC.mkR ?_ (hWf b _ ?_)))) | (first | (refine CallDet.mkR ?_ (hSh _ p xs ?_ ep ?_)) | (refine CallVC.mkR ?_ (hSh _ p xs ?_ ep ?_))) | (refine CallVC.mk (Ctr.monoR ?_ (hSi _ _ _ _ ?_ ?_ ?_ ?_ ?_)); ((rintro v H (⟨h7, rfl, rfl⟩ | ⟨q, ys, h7, rfl, rfl⟩)) <;> (try simp only [hu.b, hu.i, iB, iI, cmpB, ivs, ivl, lrs, lrl, trs, trl, decide_eq_true_eq, decide_eq_false_iff_not, beq_iff_eq, beq_eq_false_iff_ne, ne_eq, ofN, Int.toNat_zero, Int.toNat_one, Int.reduceToNat, natc, hu.s, iS, svs, svl, true_iff, false_iff, Bool.false_eq_true, bne_iff_ne, bne_eq_false_iff_eq, Bool.not_eq_true', Bool.not_eq_false', Decidable.not_not, nil_toList, ByteArray.size_empty, nilS, not_true_eq_false, not_false_eq_true, hu.l, iL, hu.t, iT, bin_add, bin_sub, bin_mul, wr_u8, wr_u16, wr_u32, wr_u64, IntKind.wrap_i64, List.length_append, List.length_cons, List.length_nil, List.nil_append, List.append_nil, List.cons_append, lvals, List.length_replicate, List.length_set, linV_val hu, Int.add_zero, Int.zero_add, Int.mul_one, Int.sub_zero, Int.zero_mul, Bool.true_eq_false, false_and, and_false, true_and, and_true, List.all_cons, List.all_nil, id_eq, Bool.and_true, f1, b1, b2, b3, bytesL_length] at h7) <;> (try simp only [hu.b, hu.i, iB, iI, cmpB, ivs, ivl, lrs, lrl, trs, trl, decide_eq_true_eq, decide_eq_false_iff_not, beq_iff_eq, beq_eq_false_iff_ne, ne_eq, ofN, Int.toNat_zero, Int.toNat_one, Int.reduceToNat, natc, hu.s, iS, svs, svl, true_iff, false_iff, Bool.false_eq_true, bne_iff_ne, bne_eq_false_iff_eq, Bool.not_eq_true', Bool.not_eq_false', Decidable.not_not, nil_toList, ByteArray.size_empty, nilS, not_true_eq_false, not_false_eq_true, hu.l, iL, hu.t, iT, bin_add, bin_sub, bin_mul, wr_u8, wr_u16, wr_u32, wr_u64, IntKind.wrap_i64, List.length_append, List.length_cons, List.length_nil, List.nil_append, List.append_nil, List.cons_append, lvals, List.length_replicate, List.length_set, linV_val hu, Int.add_zero, Int.zero_add, Int.mul_one, Int.sub_zero, Int.zero_mul, Bool.true_eq_false, false_and, and_false, true_and, and_true, List.all_cons, List.all_nil, id_eq, Bool.and_true, f1, b1, b2, b3, bytesL_length] at h7) <;> (try simp only [Int.ofNat_eq_natCast] at h7) <;> (try simp only [Int.ofNat_eq_natCast] at h7) <;> (first | (have hF0 : False := by omega; exact hF0.elim) | (conv => cbv)))) | ((try simp only [hu.b, hu.i, iB, iI, cmpB, ivs, ivl, lrs, lrl, trs, trl, decide_eq_true_eq, decide_eq_false_iff_not, beq_iff_eq, beq_eq_false_iff_ne, ne_eq, ofN, Int.toNat_zero, Int.toNat_one, Int.reduceToNat, natc, hu.s, iS, svs, svl, true_iff, false_iff, Bool.false_eq_true, bne_iff_ne, bne_eq_false_iff_eq, Bool.not_eq_true', Bool.not_eq_false', Decidable.not_not, nil_toList, ByteArray.size_empty, nilS, not_true_eq_false, not_false_eq_true, hu.l, iL, hu.t, iT, bin_add, bin_sub, bin_mul, wr_u8, wr_u16, wr_u32, wr_u64, IntKind.wrap_i64, List.length_append, List.length_cons, List.length_nil, List.nil_append, List.append_nil, List.cons_append, lvals, List.length_replicate, List.length_set, linV_val hu, Int.add_zero, Int.zero_add, Int.mul_one, Int.sub_zero, Int.zero_mul, Bool.true_eq_false, false_and, and_false, true_and, and_true, List.all_cons, List.all_nil, id_eq, Bool.and_true, f1, b1, b2, b3, bytesL_length]) <;> (try simp only [Int.ofNat_eq_natCast]) <;> (first | exact ex | exact h4)) | (refine Gen0.mk ?_; (conv => cbv)) | (refine (Pick.own (f := 26) ?_ : Pick 26 _ _); (conv => cbv)) | (with_reducible refine Pick.view ?_; (conv => cbv)) | (simp only [hu.b, hu.i, iB, iI, cmpB, ivs, ivl, lrs, lrl, trs, trl, decide_eq_true_eq, decide_eq_false_iff_not, beq_iff_eq, beq_eq_false_iff_ne, ne_eq, ofN, Int.toNat_zero, Int.toNat_one, Int.reduceToNat, natc, hu.s, iS, svs, svl, true_iff, false_iff, Bool.false_eq_true, bne_iff_ne, bne_eq_false_iff_eq, Bool.not_eq_true', Bool.not_eq_false', Decidable.not_not, nil_toList, ByteArray.size_empty, nilS, not_true_eq_false, not_false_eq_true, hu.l, iL, hu.t, iT, bin_add, bin_sub, bin_mul, wr_u8, wr_u16, wr_u32, wr_u64, IntKind.wrap_i64, List.length_append, List.length_cons, List.length_nil, List.nil_append, List.append_nil, List.cons_append, lvals, List.length_replicate, List.length_set, linV_val hu, Int.add_zero, Int.zero_add, Int.mul_one, Int.sub_zero, Int.zero_mul, Bool.true_eq_false, false_and, and_false, true_and, and_true, List.all_cons, List.all_nil, id_eq, Bool.and_true, f1, b1, b2, b3, bytesL_length]; (try simp only [Int.ofNat_eq_natCast]); done) | ((try simp only [hu.b, hu.i, iB, iI, cmpB, ivs, ivl, lrs, lrl, trs, trl, decide_eq_true_eq, decide_eq_false_iff_not, beq_iff_eq, beq_eq_false_iff_ne, ne_eq, ofN, Int.toNat_zero, Int.toNat_one, Int.reduceToNat, natc, hu.s, iS, svs, svl, true_iff, false_iff, Bool.false_eq_true, bne_iff_ne, bne_eq_false_iff_eq, Bool.not_eq_true', Bool.not_eq_false', Decidable.not_not, nil_toList, ByteArray.size_empty, nilS, not_true_eq_false, not_false_eq_true, hu.l, iL, hu.t, iT, bin_add, bin_sub, bin_mul, wr_u8, wr_u16, wr_u32, wr_u64, IntKind.wrap_i64, List.length_append, List.length_cons, List.length_nil, List.nil_append, List.append_nil, List.cons_append, lvals, List.length_replicate, List.length_set, linV_val hu, Int.add_zero, Int.zero_add, Int.mul_one, Int.sub_zero, Int.zero_mul, Bool.true_eq_false, false_and, and_false, true_and, and_true, List.all_cons, List.all_nil, id_eq, Bool.and_true, f1, b1, b2, b3, bytesL_length]) <;> (try simp only [Int.ofNat_eq_natCast]) <;> omega))
  · have hin : inC op a b := by unfold inC; omega
    have hbig : (1012 : Int) < s.size + t.size + u.size + (0 : Int) := by omega
    subst hR
    refine Weak.of ((.inr (.inl ⟨⟨hin, hbig⟩, rfl, rfl⟩))) ?_ ?_ (by rfl)
    all_goals ((conv => cbv); repeat' (first | exact True.intro | with_reducible rfl | (with_reducible exact fun h => h) | (with_reducible refine And.intro ?_ ?_)))
  · have hin : inC op a b := by unfold inC; omega
    have hy : ys = cmdL op a b s t u [] := by rw [← c1 hin, h7.2.2]; simp
    have hq : q = 12 + s.size + t.size + u.size + (0 : Int) := by rw [h7.1, hy, c2]; rfl
    have hfew : (s.size + t.size + u.size + (0 : Int) : Int) ≤ 1012 := by have := h7.2.1; omega
    subst hR
    refine Weak.of ((.inr (.inr ⟨q, ys, ⟨hin, hfew, h7.1, hq, hy⟩, rfl, rfl⟩))) ?_ ?_ (by rfl)
    all_goals ((conv => cbv); repeat' (first | exact True.intro | with_reducible rfl | (with_reducible exact fun h => h) | (with_reducible refine And.intro ?_ ?_)))
  all_goals
    have hin : ¬ inC op a b := by unfold inC; omega
    subst hR
    refine Weak.of ((.inl ⟨hin, rfl, rfl⟩)) ?_ ?_ (by rfl)
    all_goals ((conv => cbv); repeat' (first | exact True.intro | with_reducible rfl | (with_reducible exact fun h => h) | (with_reducible refine And.intro ?_ ?_)))
theorem reply_ctr {tt : TypeId} (op : Int) (s : ByteArray) (d : List Int) (n : Int) (hn : n = d.length) (hs : s.size ≤ 2000) (hd : d.length ≤ 2000) : Ctr Tryd.prog 12 [.cols .ro tt [.ints .u8 (.sym d)]] [.agg [.int .i64 (.sym op), .str (.sym s), .sl 0 (.lit 0) (.sym n)]] fun v H =>
    (¬ inA op ∧ v = .tup [.nilsl, .iface 54 (.int .i64 (.sym 1))] ∧ H = [.cols .ro tt [.ints .u8 (.sym d)]]) ∨
    ((inA op ∧ 1019 < s.size + n) ∧ v = .tup [.nilsl, .iface 54 (.int .i64 (.sym 2))] ∧ H = [.cols .ro tt [.ints .u8 (.sym d)]]) ∨
    (∃ q ys, (inA op ∧ s.size + n ≤ 1019 ∧ q = ys.length ∧ q = 5 + s.size + n ∧ ys = ansL op s d) ∧ v = .tup [.vec 1 (.sym q), .nilif] ∧ H = [.cols .ro tt [.ints .u8 (.sym d)], .cols (.row 1) 5 [.ints .u8 (.sym ys)]]) := by
  have e0 : subL d 0 n = d := subL_all _ _ hn
  have b1 : subL (bytesL s) 0 (Int.ofNat s.size) = bytesL s := subL_bytes s
  have h4 : ∀ i, ([bytesL s, d].getD i []).length ≤ 4000 := fun i => by
    match i with
    | 0 => show (bytesL s).length ≤ _; rw [bytesL_length]; omega
    | 1 => show List.length d ≤ _; omega
    | n + 2 => show ([] : List Int).length ≤ _; simp
  have c1 : inA op → [op % 256] ++ catC [bytesL s, d] = ansL op s d := fun h => by
    unfold inA at h
    rw [ansL, show op % 256 = op by omega]
  have c2 := ansL_length op s d
  have c3 : ((catC [bytesL s, d]).length : Int) = 4 + s.size + n := by
    simp only [catC, List.length_append, cntd_length, bytesL_length, List.length_nil]; omega
  obtain ⟨uI, uB, uS, uL, uT, hu⟩ := words
  have hm := mixed
  have hT := tabOk
  have hWt := @within_t
  have hWf := @within_f
  have hSi := @sized_ctr
  obtain ⟨P, hP⟩ : ∃ P, P = Tryd.prog := ⟨_, rfl⟩
  rw [← hP] at hm hT hWt hWf hSi ⊢
  refine Ctr.weak (ctr_of_vc hu hm hT (hP ▸ Tryd.func12) rfl (by kernel_rfl) ?_)
  clear hP hm hT
  generalize hR : Weak _ _ = R
  conv => cbv
  repeat' (first | ((with_reducible intro (h : _ = _)); (try subst h); (try simp only [hu.b, hu.i, iB, iI, cmpB, ivs, ivl, lrs, lrl, trs, trl, decide_eq_true_eq, decide_eq_false_iff_not, beq_iff_eq, beq_eq_false_iff_ne, ne_eq, ofN, Int.toNat_zero, Int.toNat_one, Int.reduceToNat, natc, hu.s, iS, svs, svl, true_iff, false_iff, Bool.false_eq_true, bne_iff_ne, bne_eq_false_iff_eq, Bool.not_eq_true', Bool.not_eq_false', Decidable.not_not, nil_toList, ByteArray.size_empty, nilS, not_true_eq_false, not_false_eq_true, hu.l, iL, hu.t, iT, bin_add, bin_sub, bin_mul, wr_u8, wr_u16, wr_u32, wr_u64, IntKind.wrap_i64, List.length_append, List.length_cons, List.length_nil, List.nil_append, List.append_nil, List.cons_append, lvals, List.length_replicate, List.length_set, linV_val hu, Int.add_zero, Int.zero_add, Int.mul_one, Int.sub_zero, Int.zero_mul, Bool.true_eq_false, false_and, and_false, true_and, and_true, List.all_cons, List.all_nil, id_eq, Bool.and_true, e0, b1, bytesL_length] at h) <;> (try simp only [Int.ofNat_eq_natCast] at h) <;> (first | (have hF0 : False := by omega; exact hF0.elim) | (conv => cbv))) | (with_reducible refine And.intro ?_ ?_) | (first | (refine CallDet.cases (0 ≤ op ∧ op ≤ 255) (fun hc => CallDet.mkR ?_ (hWt op _ ?_)) (fun hc => CallDet.mkR ?_ (hWf op _ ?_))) | (refine CallVC.cases (0 ≤ op ∧ op ≤ 255) (fun hc => CallVC.mkR ?_ (hWt op _ ?_)) (fun hc => CallVC.mkR ?_ (hWf op _ ?_)))) | (refine CallVC.mk (Ctr.monoR ?_ (hSi _ _ _ _ ?_ ?_ ?_ ?_ ?_)); ((rintro v H (⟨h7, rfl, rfl⟩ | ⟨q, ys, h7, rfl, rfl⟩)) <;> (try simp only [hu.b, hu.i, iB, iI, cmpB, ivs, ivl, lrs, lrl, trs, trl, decide_eq_true_eq, decide_eq_false_iff_not, beq_iff_eq, beq_eq_false_iff_ne, ne_eq, ofN, Int.toNat_zero, Int.toNat_one, Int.reduceToNat, natc, hu.s, iS, svs, svl, true_iff, false_iff, Bool.false_eq_true, bne_iff_ne, bne_eq_false_iff_eq, Bool.not_eq_true', Bool.not_eq_false', Decidable.not_not, nil_toList, ByteArray.size_empty, nilS, not_true_eq_false, not_false_eq_true, hu.l, iL, hu.t, iT, bin_add, bin_sub, bin_mul, wr_u8, wr_u16, wr_u32, wr_u64, IntKind.wrap_i64, List.length_append, List.length_cons, List.length_nil, List.nil_append, List.append_nil, List.cons_append, lvals, List.length_replicate, List.length_set, linV_val hu, Int.add_zero, Int.zero_add, Int.mul_one, Int.sub_zero, Int.zero_mul, Bool.true_eq_false, false_and, and_false, true_and, and_true, List.all_cons, List.all_nil, id_eq, Bool.and_true, e0, b1, bytesL_length] at h7) <;> (try simp only [hu.b, hu.i, iB, iI, cmpB, ivs, ivl, lrs, lrl, trs, trl, decide_eq_true_eq, decide_eq_false_iff_not, beq_iff_eq, beq_eq_false_iff_ne, ne_eq, ofN, Int.toNat_zero, Int.toNat_one, Int.reduceToNat, natc, hu.s, iS, svs, svl, true_iff, false_iff, Bool.false_eq_true, bne_iff_ne, bne_eq_false_iff_eq, Bool.not_eq_true', Bool.not_eq_false', Decidable.not_not, nil_toList, ByteArray.size_empty, nilS, not_true_eq_false, not_false_eq_true, hu.l, iL, hu.t, iT, bin_add, bin_sub, bin_mul, wr_u8, wr_u16, wr_u32, wr_u64, IntKind.wrap_i64, List.length_append, List.length_cons, List.length_nil, List.nil_append, List.append_nil, List.cons_append, lvals, List.length_replicate, List.length_set, linV_val hu, Int.add_zero, Int.zero_add, Int.mul_one, Int.sub_zero, Int.zero_mul, Bool.true_eq_false, false_and, and_false, true_and, and_true, List.all_cons, List.all_nil, id_eq, Bool.and_true, e0, b1, bytesL_length] at h7) <;> (try simp only [Int.ofNat_eq_natCast] at h7) <;> (try simp only [Int.ofNat_eq_natCast] at h7) <;> (first | (have hF0 : False := by omega; exact hF0.elim) | (conv => cbv)))) | ((try simp only [hu.b, hu.i, iB, iI, cmpB, ivs, ivl, lrs, lrl, trs, trl, decide_eq_true_eq, decide_eq_false_iff_not, beq_iff_eq, beq_eq_false_iff_ne, ne_eq, ofN, Int.toNat_zero, Int.toNat_one, Int.reduceToNat, natc, hu.s, iS, svs, svl, true_iff, false_iff, Bool.false_eq_true, bne_iff_ne, bne_eq_false_iff_eq, Bool.not_eq_true', Bool.not_eq_false', Decidable.not_not, nil_toList, ByteArray.size_empty, nilS, not_true_eq_false, not_false_eq_true, hu.l, iL, hu.t, iT, bin_add, bin_sub, bin_mul, wr_u8, wr_u16, wr_u32, wr_u64, IntKind.wrap_i64, List.length_append, List.length_cons, List.length_nil, List.nil_append, List.append_nil, List.cons_append, lvals, List.length_replicate, List.length_set, linV_val hu, Int.add_zero, Int.zero_add, Int.mul_one, Int.sub_zero, Int.zero_mul, Bool.true_eq_false, false_and, and_false, true_and, and_true, List.all_cons, List.all_nil, id_eq, Bool.and_true, e0, b1, bytesL_length]) <;> (try simp only [Int.ofNat_eq_natCast]) <;> exact h4) | (refine Gen0.mk ?_; (conv => cbv)) | (refine (Pick.own (f := 26) ?_ : Pick 26 _ _); (conv => cbv)) | (with_reducible refine Pick.view ?_; (conv => cbv)) | (simp only [hu.b, hu.i, iB, iI, cmpB, ivs, ivl, lrs, lrl, trs, trl, decide_eq_true_eq, decide_eq_false_iff_not, beq_iff_eq, beq_eq_false_iff_ne, ne_eq, ofN, Int.toNat_zero, Int.toNat_one, Int.reduceToNat, natc, hu.s, iS, svs, svl, true_iff, false_iff, Bool.false_eq_true, bne_iff_ne, bne_eq_false_iff_eq, Bool.not_eq_true', Bool.not_eq_false', Decidable.not_not, nil_toList, ByteArray.size_empty, nilS, not_true_eq_false, not_false_eq_true, hu.l, iL, hu.t, iT, bin_add, bin_sub, bin_mul, wr_u8, wr_u16, wr_u32, wr_u64, IntKind.wrap_i64, List.length_append, List.length_cons, List.length_nil, List.nil_append, List.append_nil, List.cons_append, lvals, List.length_replicate, List.length_set, linV_val hu, Int.add_zero, Int.zero_add, Int.mul_one, Int.sub_zero, Int.zero_mul, Bool.true_eq_false, false_and, and_false, true_and, and_true, List.all_cons, List.all_nil, id_eq, Bool.and_true, e0, b1, bytesL_length]; (try simp only [Int.ofNat_eq_natCast]); done) | ((try simp only [hu.b, hu.i, iB, iI, cmpB, ivs, ivl, lrs, lrl, trs, trl, decide_eq_true_eq, decide_eq_false_iff_not, beq_iff_eq, beq_eq_false_iff_ne, ne_eq, ofN, Int.toNat_zero, Int.toNat_one, Int.reduceToNat, natc, hu.s, iS, svs, svl, true_iff, false_iff, Bool.false_eq_true, bne_iff_ne, bne_eq_false_iff_eq, Bool.not_eq_true', Bool.not_eq_false', Decidable.not_not, nil_toList, ByteArray.size_empty, nilS, not_true_eq_false, not_false_eq_true, hu.l, iL, hu.t, iT, bin_add, bin_sub, bin_mul, wr_u8, wr_u16, wr_u32, wr_u64, IntKind.wrap_i64, List.length_append, List.length_cons, List.length_nil, List.nil_append, List.append_nil, List.cons_append, lvals, List.length_replicate, List.length_set, linV_val hu, Int.add_zero, Int.zero_add, Int.mul_one, Int.sub_zero, Int.zero_mul, Bool.true_eq_false, false_and, and_false, true_and, and_true, List.all_cons, List.all_nil, id_eq, Bool.and_true, e0, b1, bytesL_length]) <;> (try simp only [Int.ofNat_eq_natCast]) <;> omega))
  · have hin : inA op := by unfold inA; omega
    have hbig : (1019 : Int) < s.size + n := by omega
    subst hR
    refine Weak.of ((.inr (.inl ⟨⟨hin, hbig⟩, rfl, rfl⟩))) ?_ ?_ (by rfl)
    all_goals ((conv => cbv); repeat' (first | exact True.intro | with_reducible rfl | (with_reducible exact fun h => h) | (with_reducible refine And.intro ?_ ?_)))
  · have hin : inA op := by unfold inA; omega
    have hy : ys = ansL op s d := by rw [← c1 hin, h7.2.2]; simp
    have hq : q = 5 + s.size + n := by rw [h7.1, hy, c2]; omega
    have hfew : (s.size + n : Int) ≤ 1019 := by have := h7.2.1; omega
    subst hR
    refine Weak.of ((.inr (.inr ⟨q, ys, ⟨hin, hfew, h7.1, hq, hy⟩, rfl, rfl⟩))) ?_ ?_ (by rfl)
    all_goals ((conv => cbv); repeat' (first | exact True.intro | with_reducible rfl | (with_reducible exact fun h => h) | (with_reducible refine And.intro ?_ ?_)))
  all_goals
    have hin : ¬ inA op := by unfold inA; omega
    subst hR
    refine Weak.of ((.inl ⟨hin, rfl, rfl⟩)) ?_ ?_ (by rfl)
    all_goals ((conv => cbv); repeat' (first | exact True.intro | with_reducible rfl | (with_reducible exact fun h => h) | (with_reducible refine And.intro ?_ ?_)))
theorem reply_nil (op : Int) (s : ByteArray) (hs : s.size ≤ 2000) : Ctr Tryd.prog 12 [] [.agg [.int .i64 (.sym op), .str (.sym s), .nilsl]] fun v H =>
    (¬ inA op ∧ v = .tup [.nilsl, .iface 54 (.int .i64 (.sym 1))] ∧ H = []) ∨
    ((inA op ∧ 1019 < s.size + (0 : Int)) ∧ v = .tup [.nilsl, .iface 54 (.int .i64 (.sym 2))] ∧ H = []) ∨
    (∃ q ys, (inA op ∧ s.size + (0 : Int) ≤ 1019 ∧ q = ys.length ∧ q = 5 + s.size + (0 : Int) ∧ ys = ansL op s []) ∧ v = .tup [.vec 0 (.sym q), .nilif] ∧ H = [.cols (.row 1) 5 [.ints .u8 (.sym ys)]]) := by
  have n0 : (([] : List Int).length : Int) = 0 := rfl
  have b1 : subL (bytesL s) 0 (Int.ofNat s.size) = bytesL s := subL_bytes s
  have h4 : ∀ i, ([bytesL s, []].getD i []).length ≤ 4000 := fun i => by
    match i with
    | 0 => show (bytesL s).length ≤ _; rw [bytesL_length]; omega
    | 1 => show ([] : List Int).length ≤ _; decide
    | n + 2 => show ([] : List Int).length ≤ _; simp
  have c1 : inA op → [op % 256] ++ catC [bytesL s, []] = ansL op s [] := fun h => by
    unfold inA at h
    rw [ansL, show op % 256 = op by omega]
  have c2 := ansL_length op s []
  have c3 : ((catC [bytesL s, []]).length : Int) = 4 + s.size + (0 : Int) := by
    simp only [catC, List.length_append, cntd_length, bytesL_length, List.length_nil]; omega
  obtain ⟨uI, uB, uS, uL, uT, hu⟩ := words
  have hm := mixed
  have hT := tabOk
  have hWt := @within_t
  have hWf := @within_f
  have hSi := @sized_ctr
  obtain ⟨P, hP⟩ : ∃ P, P = Tryd.prog := ⟨_, rfl⟩
  rw [← hP] at hm hT hWt hWf hSi ⊢
  refine Ctr.weak (ctr_of_vc hu hm hT (hP ▸ Tryd.func12) rfl (by kernel_rfl) ?_)
  clear hP hm hT
  generalize hR : Weak _ _ = R
  conv => cbv
  repeat' (first | ((with_reducible intro (h : _ = _)); (try subst h); (try simp only [hu.b, hu.i, iB, iI, cmpB, ivs, ivl, lrs, lrl, trs, trl, decide_eq_true_eq, decide_eq_false_iff_not, beq_iff_eq, beq_eq_false_iff_ne, ne_eq, ofN, Int.toNat_zero, Int.toNat_one, Int.reduceToNat, natc, hu.s, iS, svs, svl, true_iff, false_iff, Bool.false_eq_true, bne_iff_ne, bne_eq_false_iff_eq, Bool.not_eq_true', Bool.not_eq_false', Decidable.not_not, nil_toList, ByteArray.size_empty, nilS, not_true_eq_false, not_false_eq_true, hu.l, iL, hu.t, iT, bin_add, bin_sub, bin_mul, wr_u8, wr_u16, wr_u32, wr_u64, IntKind.wrap_i64, List.length_append, List.length_cons, List.length_nil, List.nil_append, List.append_nil, List.cons_append, lvals, List.length_replicate, List.length_set, linV_val hu, Int.add_zero, Int.zero_add, Int.mul_one, Int.sub_zero, Int.zero_mul, Bool.true_eq_false, false_and, and_false, true_and, and_true, List.all_cons, List.all_nil, id_eq, Bool.and_true, b1, bytesL_length] at h) <;> (try simp only [Int.ofNat_eq_natCast] at h) <;> (first | (have hF0 : False := by omega; exact hF0.elim) | (conv => cbv))) | (with_reducible refine And.intro ?_ ?_) | (first | (refine CallDet.cases (0 ≤ op ∧ op ≤ 255) (fun hc => CallDet.mkR ?_ (hWt op _ ?_)) (fun hc => CallDet.mkR ?_ (hWf op _ ?_))) | (refine CallVC.cases (0 ≤ op ∧ op ≤ 255) (fun hc => CallVC.mkR ?_ (hWt op _ ?_)) (fun hc => CallVC.mkR ?_ (hWf op _ ?_)))) | (refine CallVC.mk (Ctr.monoR ?_ (hSi _ _ _ _ ?_ ?_ ?_ ?_ ?_)); ((rintro v H (⟨h7, rfl, rfl⟩ | ⟨q, ys, h7, rfl, rfl⟩)) <;> (try simp only [hu.b, hu.i, iB, iI, cmpB, ivs, ivl, lrs, lrl, trs, trl, decide_eq_true_eq, decide_eq_false_iff_not, beq_iff_eq, beq_eq_false_iff_ne, ne_eq, ofN, Int.toNat_zero, Int.toNat_one, Int.reduceToNat, natc, hu.s, iS, svs, svl, true_iff, false_iff, Bool.false_eq_true, bne_iff_ne, bne_eq_false_iff_eq, Bool.not_eq_true', Bool.not_eq_false', Decidable.not_not, nil_toList, ByteArray.size_empty, nilS, not_true_eq_false, not_false_eq_true, hu.l, iL, hu.t, iT, bin_add, bin_sub, bin_mul, wr_u8, wr_u16, wr_u32, wr_u64, IntKind.wrap_i64, List.length_append, List.length_cons, List.length_nil, List.nil_append, List.append_nil, List.cons_append, lvals, List.length_replicate, List.length_set, linV_val hu, Int.add_zero, Int.zero_add, Int.mul_one, Int.sub_zero, Int.zero_mul, Bool.true_eq_false, false_and, and_false, true_and, and_true, List.all_cons, List.all_nil, id_eq, Bool.and_true, b1, bytesL_length] at h7) <;> (try simp only [hu.b, hu.i, iB, iI, cmpB, ivs, ivl, lrs, lrl, trs, trl, decide_eq_true_eq, decide_eq_false_iff_not, beq_iff_eq, beq_eq_false_iff_ne, ne_eq, ofN, Int.toNat_zero, Int.toNat_one, Int.reduceToNat, natc, hu.s, iS, svs, svl, true_iff, false_iff, Bool.false_eq_true, bne_iff_ne, bne_eq_false_iff_eq, Bool.not_eq_true', Bool.not_eq_false', Decidable.not_not, nil_toList, ByteArray.size_empty, nilS, not_true_eq_false, not_false_eq_true, hu.l, iL, hu.t, iT, bin_add, bin_sub, bin_mul, wr_u8, wr_u16, wr_u32, wr_u64, IntKind.wrap_i64, List.length_append, List.length_cons, List.length_nil, List.nil_append, List.append_nil, List.cons_append, lvals, List.length_replicate, List.length_set, linV_val hu, Int.add_zero, Int.zero_add, Int.mul_one, Int.sub_zero, Int.zero_mul, Bool.true_eq_false, false_and, and_false, true_and, and_true, List.all_cons, List.all_nil, id_eq, Bool.and_true, b1, bytesL_length] at h7) <;> (try simp only [Int.ofNat_eq_natCast] at h7) <;> (try simp only [Int.ofNat_eq_natCast] at h7) <;> (first | (have hF0 : False := by omega; exact hF0.elim) | (conv => cbv)))) | ((try simp only [hu.b, hu.i, iB, iI, cmpB, ivs, ivl, lrs, lrl, trs, trl, decide_eq_true_eq, decide_eq_false_iff_not, beq_iff_eq, beq_eq_false_iff_ne, ne_eq, ofN, Int.toNat_zero, Int.toNat_one, Int.reduceToNat, natc, hu.s, iS, svs, svl, true_iff, false_iff, Bool.false_eq_true, bne_iff_ne, bne_eq_false_iff_eq, Bool.not_eq_true', Bool.not_eq_false', Decidable.not_not, nil_toList, ByteArray.size_empty, nilS, not_true_eq_false, not_false_eq_true, hu.l, iL, hu.t, iT, bin_add, bin_sub, bin_mul, wr_u8, wr_u16, wr_u32, wr_u64, IntKind.wrap_i64, List.length_append, List.length_cons, List.length_nil, List.nil_append, List.append_nil, List.cons_append, lvals, List.length_replicate, List.length_set, linV_val hu, Int.add_zero, Int.zero_add, Int.mul_one, Int.sub_zero, Int.zero_mul, Bool.true_eq_false, false_and, and_false, true_and, and_true, List.all_cons, List.all_nil, id_eq, Bool.and_true, b1, bytesL_length]) <;> (try simp only [Int.ofNat_eq_natCast]) <;> exact h4) | (refine Gen0.mk ?_; (conv => cbv)) | (refine (Pick.own (f := 26) ?_ : Pick 26 _ _); (conv => cbv)) | (with_reducible refine Pick.view ?_; (conv => cbv)) | (simp only [hu.b, hu.i, iB, iI, cmpB, ivs, ivl, lrs, lrl, trs, trl, decide_eq_true_eq, decide_eq_false_iff_not, beq_iff_eq, beq_eq_false_iff_ne, ne_eq, ofN, Int.toNat_zero, Int.toNat_one, Int.reduceToNat, natc, hu.s, iS, svs, svl, true_iff, false_iff, Bool.false_eq_true, bne_iff_ne, bne_eq_false_iff_eq, Bool.not_eq_true', Bool.not_eq_false', Decidable.not_not, nil_toList, ByteArray.size_empty, nilS, not_true_eq_false, not_false_eq_true, hu.l, iL, hu.t, iT, bin_add, bin_sub, bin_mul, wr_u8, wr_u16, wr_u32, wr_u64, IntKind.wrap_i64, List.length_append, List.length_cons, List.length_nil, List.nil_append, List.append_nil, List.cons_append, lvals, List.length_replicate, List.length_set, linV_val hu, Int.add_zero, Int.zero_add, Int.mul_one, Int.sub_zero, Int.zero_mul, Bool.true_eq_false, false_and, and_false, true_and, and_true, List.all_cons, List.all_nil, id_eq, Bool.and_true, b1, bytesL_length]; (try simp only [Int.ofNat_eq_natCast]); done) | ((try simp only [hu.b, hu.i, iB, iI, cmpB, ivs, ivl, lrs, lrl, trs, trl, decide_eq_true_eq, decide_eq_false_iff_not, beq_iff_eq, beq_eq_false_iff_ne, ne_eq, ofN, Int.toNat_zero, Int.toNat_one, Int.reduceToNat, natc, hu.s, iS, svs, svl, true_iff, false_iff, Bool.false_eq_true, bne_iff_ne, bne_eq_false_iff_eq, Bool.not_eq_true', Bool.not_eq_false', Decidable.not_not, nil_toList, ByteArray.size_empty, nilS, not_true_eq_false, not_false_eq_true, hu.l, iL, hu.t, iT, bin_add, bin_sub, bin_mul, wr_u8, wr_u16, wr_u32, wr_u64, IntKind.wrap_i64, List.length_append, List.length_cons, List.length_nil, List.nil_append, List.append_nil, List.cons_append, lvals, List.length_replicate, List.length_set, linV_val hu, Int.add_zero, Int.zero_add, Int.mul_one, Int.sub_zero, Int.zero_mul, Bool.true_eq_false, false_and, and_false, true_and, and_true, List.all_cons, List.all_nil, id_eq, Bool.and_true, b1, bytesL_length]) <;> (try simp only [Int.ofNat_eq_natCast]) <;> omega))
  · have hin : inA op := by unfold inA; omega
    have hbig : (1019 : Int) < s.size + (0 : Int) := by omega
    subst hR
    refine Weak.of ((.inr (.inl ⟨⟨hin, hbig⟩, rfl, rfl⟩))) ?_ ?_ (by rfl)
    all_goals ((conv => cbv); repeat' (first | exact True.intro | with_reducible rfl | (with_reducible exact fun h => h) | (with_reducible refine And.intro ?_ ?_)))
  · have hin : inA op := by unfold inA; omega
    have hy : ys = ansL op s [] := by rw [← c1 hin, h7.2.2]; simp
    have hq : q = 5 + s.size + (0 : Int) := by rw [h7.1, hy, c2]; rfl
    have hfew : (s.size + (0 : Int) : Int) ≤ 1019 := by have := h7.2.1; omega
    subst hR
    refine Weak.of ((.inr (.inr ⟨q, ys, ⟨hin, hfew, h7.1, hq, hy⟩, rfl, rfl⟩))) ?_ ?_ (by rfl)
    all_goals ((conv => cbv); repeat' (first | exact True.intro | with_reducible rfl | (with_reducible exact fun h => h) | (with_reducible refine And.intro ?_ ?_)))
  all_goals
    have hin : ¬ inA op := by unfold inA; omega
    subst hR
    refine Weak.of ((.inl ⟨hin, rfl, rfl⟩)) ?_ ?_ (by rfl)
    all_goals ((conv => cbv); repeat' (first | exact True.intro | with_reducible rfl | (with_reducible exact fun h => h) | (with_reducible refine And.intro ?_ ?_)))
end Go.Proofs.YtdenmaiimfnbeaaDoor
namespace Go.Proofs.YtdenmaiimfnbeaaDoor
open Go Sx
set_option maxRecDepth 100000
set_option maxHeartbeats 2000000
theorem rcounted_ctr {tt : TypeId} (b : List Int) (n : Int) (m : Int) (c : List Int) (hn : n = b.length) (h9 : n ≤ 65535) (hm : m = n + 2) (hc : c = cntd b) : Ctr Tryd.prog 27 [.cols .ro tt [.ints .u8 (.sym b)]] [.sl 0 (.lit 0) (.sym n)] fun v H => v = .vec 1 (.sym m) ∧ H = [.cols .ro tt [.ints .u8 (.sym b)], .cols (.row 1) 5 [.ints .u8 (.sym c)]] := by
  have n0 : 0 ≤ n := by omega
  have e0 : subL b 0 n = b := subL_all _ _ hn
  have e1 : binI .quo .i64 n 256 = n / 256 := quo_i64 n0 (by omega) (by omega)
  have e2 : binI .rem .i64 n 256 = n % 256 := rem_nn n0
  have e3 : n / 256 % 256 = n / 256 := by omega
  have e4 : n % 256 % 256 = n % 256 := by omega
  obtain ⟨uI, uB, uS, uL, uT, hu⟩ := words
  have hm := mixed
  have hT := tabOk
  obtain ⟨P, hP⟩ : ∃ P, P = Tryd.prog := ⟨_, rfl⟩
  rw [← hP] at hm hT ⊢
  refine Ctr.weak (ctr_of_vc hu hm hT (hP ▸ Tryd.func27) rfl (by kernel_rfl) ?_)
  clear hP hm hT
  generalize hR : Weak _ _ = R
  conv => cbv
  repeat' (first | ((with_reducible intro (h : _ = _)); (try subst h); (try simp only [hu.b, hu.i, iB, iI, cmpB, ivs, ivl, lrs, lrl, trs, trl, decide_eq_true_eq, decide_eq_false_iff_not, beq_iff_eq, beq_eq_false_iff_ne, ne_eq, ofN, Int.toNat_zero, Int.toNat_one, Int.reduceToNat, natc, hu.s, iS, svs, svl, true_iff, false_iff, Bool.false_eq_true, bne_iff_ne, bne_eq_false_iff_eq, Bool.not_eq_true', Bool.not_eq_false', Decidable.not_not, nil_toList, ByteArray.size_empty, nilS, not_true_eq_false, not_false_eq_true, hu.l, iL, hu.t, iT, bin_add, bin_sub, bin_mul, wr_u8, wr_u16, wr_u32, wr_u64, IntKind.wrap_i64, List.length_append, List.length_cons, List.length_nil, List.nil_append, List.append_nil, List.cons_append, lvals, List.length_replicate, List.length_set, linV_val hu, Int.add_zero, Int.zero_add, Int.mul_one, Int.sub_zero, Int.zero_mul, Bool.true_eq_false, false_and, and_false, true_and, and_true, List.all_cons, List.all_nil, id_eq, Bool.and_true, e0, e1, e2, e3, e4] at h) <;> (try simp only [Int.ofNat_eq_natCast] at h) <;> (first | (have hF0 : False := by omega; exact hF0.elim) | (conv => cbv))) | (with_reducible refine And.intro ?_ ?_) | (refine Gen0.mk ?_; (conv => cbv)) | (with_reducible refine Pick.view ?_; (conv => cbv)) | (simp only [hu.b, hu.i, iB, iI, cmpB, ivs, ivl, lrs, lrl, trs, trl, decide_eq_true_eq, decide_eq_false_iff_not, beq_iff_eq, beq_eq_false_iff_ne, ne_eq, ofN, Int.toNat_zero, Int.toNat_one, Int.reduceToNat, natc, hu.s, iS, svs, svl, true_iff, false_iff, Bool.false_eq_true, bne_iff_ne, bne_eq_false_iff_eq, Bool.not_eq_true', Bool.not_eq_false', Decidable.not_not, nil_toList, ByteArray.size_empty, nilS, not_true_eq_false, not_false_eq_true, hu.l, iL, hu.t, iT, bin_add, bin_sub, bin_mul, wr_u8, wr_u16, wr_u32, wr_u64, IntKind.wrap_i64, List.length_append, List.length_cons, List.length_nil, List.nil_append, List.append_nil, List.cons_append, lvals, List.length_replicate, List.length_set, linV_val hu, Int.add_zero, Int.zero_add, Int.mul_one, Int.sub_zero, Int.zero_mul, Bool.true_eq_false, false_and, and_false, true_and, and_true, List.all_cons, List.all_nil, id_eq, Bool.and_true, e0, e1, e2, e3, e4]; (try simp only [Int.ofNat_eq_natCast]); done) | ((try simp only [hu.b, hu.i, iB, iI, cmpB, ivs, ivl, lrs, lrl, trs, trl, decide_eq_true_eq, decide_eq_false_iff_not, beq_iff_eq, beq_eq_false_iff_ne, ne_eq, ofN, Int.toNat_zero, Int.toNat_one, Int.reduceToNat, natc, hu.s, iS, svs, svl, true_iff, false_iff, Bool.false_eq_true, bne_iff_ne, bne_eq_false_iff_eq, Bool.not_eq_true', Bool.not_eq_false', Decidable.not_not, nil_toList, ByteArray.size_empty, nilS, not_true_eq_false, not_false_eq_true, hu.l, iL, hu.t, iT, bin_add, bin_sub, bin_mul, wr_u8, wr_u16, wr_u32, wr_u64, IntKind.wrap_i64, List.length_append, List.length_cons, List.length_nil, List.nil_append, List.append_nil, List.cons_append, lvals, List.length_replicate, List.length_set, linV_val hu, Int.add_zero, Int.zero_add, Int.mul_one, Int.sub_zero, Int.zero_mul, Bool.true_eq_false, false_and, and_false, true_and, and_true, List.all_cons, List.all_nil, id_eq, Bool.and_true, e0, e1, e2, e3, e4]) <;> (try simp only [Int.ofNat_eq_natCast]) <;> omega))
  subst hR
  refine Weak.of (⟨rfl, rfl⟩) ?_ ?_ (by rfl)
  all_goals ((conv => cbv); repeat' (first | exact True.intro | with_reducible rfl | (with_reducible exact fun h => h) | (with_reducible refine And.intro ?_ ?_)))
  · ((try simp only [hu.b, hu.i, iB, iI, cmpB, ivs, ivl, lrs, lrl, trs, trl, decide_eq_true_eq, decide_eq_false_iff_not, beq_iff_eq, beq_eq_false_iff_ne, ne_eq, ofN, Int.toNat_zero, Int.toNat_one, Int.reduceToNat, natc, hu.s, iS, svs, svl, true_iff, false_iff, Bool.false_eq_true, bne_iff_ne, bne_eq_false_iff_eq, Bool.not_eq_true', Bool.not_eq_false', Decidable.not_not, nil_toList, ByteArray.size_empty, nilS, not_true_eq_false, not_false_eq_true, hu.l, iL, hu.t, iT, bin_add, bin_sub, bin_mul, wr_u8, wr_u16, wr_u32, wr_u64, IntKind.wrap_i64, List.length_append, List.length_cons, List.length_nil, List.nil_append, List.append_nil, List.cons_append, lvals, List.length_replicate, List.length_set, linV_val hu, Int.add_zero, Int.zero_add, Int.mul_one, Int.sub_zero, Int.zero_mul, Bool.true_eq_false, false_and, and_false, true_and, and_true, List.all_cons, List.all_nil, id_eq, Bool.and_true, e0, e1, e2]) <;> (try simp only [Int.ofNat_eq_natCast]) <;> (try omega))
  · ((try simp only [hu.b, hu.i, iB, iI, cmpB, ivs, ivl, lrs, lrl, trs, trl, decide_eq_true_eq, decide_eq_false_iff_not, beq_iff_eq, beq_eq_false_iff_ne, ne_eq, ofN, Int.toNat_zero, Int.toNat_one, Int.reduceToNat, natc, hu.s, iS, svs, svl, true_iff, false_iff, Bool.false_eq_true, bne_iff_ne, bne_eq_false_iff_eq, Bool.not_eq_true', Bool.not_eq_false', Decidable.not_not, nil_toList, ByteArray.size_empty, nilS, not_true_eq_false, not_false_eq_true, hu.l, iL, hu.t, iT, bin_add, bin_sub, bin_mul, wr_u8, wr_u16, wr_u32, wr_u64, IntKind.wrap_i64, List.length_append, List.length_cons, List.length_nil, List.nil_append, List.append_nil, List.cons_append, lvals, List.length_replicate, List.length_set, linV_val hu, Int.add_zero, Int.zero_add, Int.mul_one, Int.sub_zero, Int.zero_mul, Bool.true_eq_false, false_and, and_false, true_and, and_true, List.all_cons, List.all_nil, id_eq, Bool.and_true, e0, e1, e2, e3, e4]) <;> (try simp only [Int.ofNat_eq_natCast]) <;> (try omega))
    rw [hc, cntd, hn]; rfl
theorem few_ctr {tt : TypeId} (op a b : Int) (s t u : ByteArray) (d : List Int) (n : Int) (w : Bool) (hn : n = d.length) (hw : w = decide (s.size ≤ 2000 ∧ t.size ≤ 2000 ∧ u.size ≤ 2000 ∧ n ≤ 2000)) : Ctr Tryd.prog 9 [.cols .ro tt [.ints .u8 (.sym d)]] [.agg [.int .i64 (.sym op), .int .i64 (.sym a), .int .i64 (.sym b), .str (.sym s), .str (.sym t), .str (.sym u), .sl 0 (.lit 0) (.sym n)]] fun v H => v = .sbool w ∧ H = [.cols .ro tt [.ints .u8 (.sym d)]] := by
  obtain ⟨uI, uB, uS, uL, uT, hu⟩ := words
  have hm := mixed
  have hT := tabOk
  obtain ⟨P, hP⟩ : ∃ P, P = Tryd.prog := ⟨_, rfl⟩
  rw [← hP] at hm hT ⊢
  refine Ctr.weak (ctr_of_vc hu hm hT (hP ▸ Tryd.func9) rfl (by kernel_rfl) ?_)
  clear hP hm hT
  generalize hR : Weak _ _ = R
  conv => cbv
  repeat' (first | ((with_reducible intro (h : _ = _)); (try subst h); (try simp only [hu.b, hu.i, iB, iI, cmpB, ivs, ivl, lrs, lrl, trs, trl, decide_eq_true_eq, decide_eq_false_iff_not, beq_iff_eq, beq_eq_false_iff_ne, ne_eq, ofN, Int.toNat_zero, Int.toNat_one, Int.reduceToNat, natc, hu.s, iS, svs, svl, true_iff, false_iff, Bool.false_eq_true, bne_iff_ne, bne_eq_false_iff_eq, Bool.not_eq_true', Bool.not_eq_false', Decidable.not_not, nil_toList, ByteArray.size_empty, nilS, not_true_eq_false, not_false_eq_true, hu.l, iL, hu.t, iT, bin_add, bin_sub, bin_mul, wr_u8, wr_u16, wr_u32, wr_u64, IntKind.wrap_i64, List.length_append, List.length_cons, List.length_nil, List.nil_append, List.append_nil, List.cons_append, lvals, List.length_replicate, List.length_set, linV_val hu, Int.add_zero, Int.zero_add, Int.mul_one, Int.sub_zero, Int.zero_mul, Bool.true_eq_false, false_and, and_false, true_and, and_true, List.all_cons, List.all_nil, id_eq, Bool.and_true] at h) <;> (try simp only [Int.ofNat_eq_natCast] at h) <;> (first | (have hF0 : False := by omega; exact hF0.elim) | (conv => cbv))) | (with_reducible refine And.intro ?_ ?_) | (refine Gen0.mk ?_; (conv => cbv)) | (with_reducible refine Pick.view ?_; (conv => cbv)) | (simp only [hu.b, hu.i, iB, iI, cmpB, ivs, ivl, lrs, lrl, trs, trl, decide_eq_true_eq, decide_eq_false_iff_not, beq_iff_eq, beq_eq_false_iff_ne, ne_eq, ofN, Int.toNat_zero, Int.toNat_one, Int.reduceToNat, natc, hu.s, iS, svs, svl, true_iff, false_iff, Bool.false_eq_true, bne_iff_ne, bne_eq_false_iff_eq, Bool.not_eq_true', Bool.not_eq_false', Decidable.not_not, nil_toList, ByteArray.size_empty, nilS, not_true_eq_false, not_false_eq_true, hu.l, iL, hu.t, iT, bin_add, bin_sub, bin_mul, wr_u8, wr_u16, wr_u32, wr_u64, IntKind.wrap_i64, List.length_append, List.length_cons, List.length_nil, List.nil_append, List.append_nil, List.cons_append, lvals, List.length_replicate, List.length_set, linV_val hu, Int.add_zero, Int.zero_add, Int.mul_one, Int.sub_zero, Int.zero_mul, Bool.true_eq_false, false_and, and_false, true_and, and_true, List.all_cons, List.all_nil, id_eq, Bool.and_true]; (try simp only [Int.ofNat_eq_natCast]); done) | ((try simp only [hu.b, hu.i, iB, iI, cmpB, ivs, ivl, lrs, lrl, trs, trl, decide_eq_true_eq, decide_eq_false_iff_not, beq_iff_eq, beq_eq_false_iff_ne, ne_eq, ofN, Int.toNat_zero, Int.toNat_one, Int.reduceToNat, natc, hu.s, iS, svs, svl, true_iff, false_iff, Bool.false_eq_true, bne_iff_ne, bne_eq_false_iff_eq, Bool.not_eq_true', Bool.not_eq_false', Decidable.not_not, nil_toList, ByteArray.size_empty, nilS, not_true_eq_false, not_false_eq_true, hu.l, iL, hu.t, iT, bin_add, bin_sub, bin_mul, wr_u8, wr_u16, wr_u32, wr_u64, IntKind.wrap_i64, List.length_append, List.length_cons, List.length_nil, List.nil_append, List.append_nil, List.cons_append, lvals, List.length_replicate, List.length_set, linV_val hu, Int.add_zero, Int.zero_add, Int.mul_one, Int.sub_zero, Int.zero_mul, Bool.true_eq_false, false_and, and_false, true_and, and_true, List.all_cons, List.all_nil, id_eq, Bool.and_true]) <;> (try simp only [Int.ofNat_eq_natCast]) <;> omega))
  all_goals first
    | (have h1 : true = w := by rw [hw]; exact (decide_eq_true (by omega)).symm
       subst hR
       refine Weak.of (⟨rfl, rfl⟩) ?_ ?_ (by rfl)
       all_goals ((conv => cbv); repeat' (first | exact True.intro | with_reducible rfl | (with_reducible exact fun h => h) | (with_reducible refine And.intro ?_ ?_)))
       all_goals exact h1)
    | (have h1 : false = w := by rw [hw]; exact (decide_eq_false (by omega)).symm
       subst hR
       refine Weak.of (⟨rfl, rfl⟩) ?_ ?_ (by rfl)
       all_goals ((conv => cbv); repeat' (first | exact True.intro | with_reducible rfl | (with_reducible exact fun h => h) | (with_reducible refine And.intro ?_ ?_)))
       all_goals exact h1)
theorem rwrite_ctr {tt : TypeId} (op a b : Int) (s t u : ByteArray) (d : List Int) (n : Int) (hn : n = d.length) (hs : s.size ≤ 2000) (ht : t.size ≤ 2000) (hu' : u.size ≤ 2000) (hd : d.length ≤ 2000) : Ctr Tryd.prog 11 [.cols .ro tt [.ints .u8 (.sym d)]] [.agg [.int .i64 (.sym op), .int .i64 (.sym a), .int .i64 (.sym b), .str (.sym s), .str (.sym t), .str (.sym u), .sl 0 (.lit 0) (.sym n)]] fun v H =>
    (¬ inC op a b ∧ v = .tup [.nilsl, .int .i64 (.sym 1)] ∧ H = [.cols .ro tt [.ints .u8 (.sym d)]]) ∨
    ((inC op a b ∧ 1012 < s.size + t.size + u.size + n) ∧ v = .tup [.nilsl, .int .i64 (.sym 2)] ∧ H = [.cols .ro tt [.ints .u8 (.sym d)]]) ∨
    (∃ q ys, (inC op a b ∧ s.size + t.size + u.size + n ≤ 1012 ∧ q = ys.length ∧ q = 12 + s.size + t.size + u.size + n ∧ ys = cmdL op a b s t u d) ∧ v = .tup [.vec 1 (.sym q), .int .i64 (.sym 0)] ∧ H = [.cols .ro tt [.ints .u8 (.sym d)], .cols (.row 1) 5 [.ints .u8 (.sym ys)]]) := by
  have e0 : subL d 0 n = d := subL_all _ _ hn
  have c2 := cmdL_length op a b s t u d
  rw [← hn] at c2
  obtain ⟨ns, es⟩ : ∃ x, Int.ofNat s.size = x := ⟨_, rfl⟩
  obtain ⟨nt, et⟩ : ∃ x, Int.ofNat t.size = x := ⟨_, rfl⟩
  obtain ⟨nu, eu⟩ : ∃ x, Int.ofNat u.size = x := ⟨_, rfl⟩
  have es' : (s.size : Int) = ns := es
  have et' : (t.size : Int) = nt := et
  have eu' : (u.size : Int) = nu := eu
  have ks : 0 ≤ ns ∧ ns ≤ 2000 := by omega
  have kt : 0 ≤ nt ∧ nt ≤ 2000 := by omega
  have ku : 0 ≤ nu ∧ nu ≤ 2000 := by omega
  have kn : 0 ≤ n ∧ n ≤ 2000 := by omega
  have b1 : subL (bytesL s) 0 ns = bytesL s := by rw [← es']; exact subL_bytes s
  have b2 : subL (bytesL t) 0 nt = bytesL t := by rw [← et']; exact subL_bytes t
  have b3 : subL (bytesL u) 0 nu = bytesL u := by rw [← eu']; exact subL_bytes u
  have w1 : IntKind.i64.wrap (ns + nt) = ns + nt := wr_i64 _ (by omega) (by omega)
  have w2 : IntKind.i64.wrap (ns + nt + nu) = ns + nt + nu := wr_i64 _ (by omega) (by omega)
  have w3 : IntKind.i64.wrap (ns + nt + nu + n) = ns + nt + nu + n := wr_i64 _ (by omega) (by omega)
  obtain ⟨cs, ecs⟩ : ∃ x, x = cntd (bytesL s) := ⟨_, rfl⟩
  obtain ⟨ct, ect⟩ : ∃ x, x = cntd (bytesL t) := ⟨_, rfl⟩
  obtain ⟨cu, ecu⟩ : ∃ x, x = cntd (bytesL u) := ⟨_, rfl⟩
  obtain ⟨cd, ecd⟩ : ∃ x, x = cntd d := ⟨_, rfl⟩
  obtain ⟨ps, eps⟩ : ∃ x, x = ns + 2 := ⟨_, rfl⟩
  obtain ⟨pt, ept⟩ : ∃ x, x = nt + 2 := ⟨_, rfl⟩
  obtain ⟨pu, epu⟩ : ∃ x, x = nu + 2 := ⟨_, rfl⟩
  obtain ⟨pd, epd⟩ : ∃ x, x = n + 2 := ⟨_, rfl⟩
  have ls : (cs.length : Int) = ps := by rw [ecs, cntd_length, bytesL_length]; omega
  have lt : (ct.length : Int) = pt := by rw [ect, cntd_length, bytesL_length]; omega
  have lu : (cu.length : Int) = pu := by rw [ecu, cntd_length, bytesL_length]; omega
  have ld : (cd.length : Int) = pd := by rw [ecd, cntd_length]; omega
  have g1 : subL cs 0 ps = cs := subL_all _ _ ls.symm
  have g2 : subL ct 0 pt = ct := subL_all _ _ lt.symm
  have g3 : subL cu 0 pu = cu := subL_all _ _ lu.symm
  have g4 : subL cd 0 pd = cd := subL_all _ _ ld.symm
  obtain ⟨uI, uB, uS, uL, uT, hu⟩ := words
  have hm := mixed
  have hT := tabOk
  have hCo := @rcounted_ctr
  obtain ⟨P, hP⟩ : ∃ P, P = Tryd.prog := ⟨_, rfl⟩
  rw [← hP] at hm hT hCo ⊢
  refine Ctr.weak (ctr_of_vc hu hm hT (hP ▸ Tryd.func11) rfl (by kernel_rfl) ?_)
  clear hP hm hT
  generalize hR : Weak _ _ = R
  conv => cbv
  repeat' (first | ((with_reducible intro (h : _ = _)); (try subst h); (try simp only [hu.b, hu.i, iB, iI, cmpB, ivs, ivl, lrs, lrl, trs, trl, decide_eq_true_eq, decide_eq_false_iff_not, beq_iff_eq, beq_eq_false_iff_ne, ne_eq, ofN, Int.toNat_zero, Int.toNat_one, Int.reduceToNat, natc, hu.s, iS, svs, svl, true_iff, false_iff, Bool.false_eq_true, bne_iff_ne, bne_eq_false_iff_eq, Bool.not_eq_true', Bool.not_eq_false', Decidable.not_not, nil_toList, ByteArray.size_empty, nilS, not_true_eq_false, not_false_eq_true, hu.l, iL, hu.t, iT, bin_add, bin_sub, bin_mul, wr_u8, wr_u16, wr_u32, wr_u64, IntKind.wrap_i64, List.length_append, List.length_cons, List.length_nil, List.nil_append, List.append_nil, List.cons_append, lvals, List.length_replicate, List.length_set, linV_val hu, Int.add_zero, Int.zero_add, Int.mul_one, Int.sub_zero, Int.zero_mul, Bool.true_eq_false, false_and, and_false, true_and, and_true, List.all_cons, List.all_nil, id_eq, Bool.and_true, e0, es, et, eu, ↓w1, ↓w2, ↓w3, b1, b2, b3, g1, g2, g3, g4, bytesL_length] at h) <;> (try simp only [Int.ofNat_eq_natCast] at h) <;> (first | (have hF0 : False := by omega; exact hF0.elim) | (conv => cbv))) | (with_reducible refine And.intro ?_ ?_) | (first | (refine CallDet.mkR ?_ (hCo (uL (.sub (uL (.ofs s)) _ _)) _ ps cs ?_ ?_ ?_ ?_)) | (refine CallVC.mkR ?_ (hCo (uL (.sub (uL (.ofs s)) _ _)) _ ps cs ?_ ?_ ?_ ?_))) | (first | (refine CallDet.mkR ?_ (hCo (uL (.sub (uL (.ofs t)) _ _)) _ pt ct ?_ ?_ ?_ ?_)) | (refine CallVC.mkR ?_ (hCo (uL (.sub (uL (.ofs t)) _ _)) _ pt ct ?_ ?_ ?_ ?_))) | (first | (refine CallDet.mkR ?_ (hCo (uL (.sub (uL (.ofs u)) _ _)) _ pu cu ?_ ?_ ?_ ?_)) | (refine CallVC.mkR ?_ (hCo (uL (.sub (uL (.ofs u)) _ _)) _ pu cu ?_ ?_ ?_ ?_))) | (first | (refine CallDet.mkR ?_ (hCo (uL (.sub d _ _)) _ pd cd ?_ ?_ ?_ ?_)) | (refine CallVC.mkR ?_ (hCo (uL (.sub d _ _)) _ pd cd ?_ ?_ ?_ ?_))) | ((try simp only [hu.b, hu.i, iB, iI, cmpB, ivs, ivl, lrs, lrl, trs, trl, decide_eq_true_eq, decide_eq_false_iff_not, beq_iff_eq, beq_eq_false_iff_ne, ne_eq, ofN, Int.toNat_zero, Int.toNat_one, Int.reduceToNat, natc, hu.s, iS, svs, svl, true_iff, false_iff, Bool.false_eq_true, bne_iff_ne, bne_eq_false_iff_eq, Bool.not_eq_true', Bool.not_eq_false', Decidable.not_not, nil_toList, ByteArray.size_empty, nilS, not_true_eq_false, not_false_eq_true, hu.l, iL, hu.t, iT, bin_add, bin_sub, bin_mul, wr_u8, wr_u16, wr_u32, wr_u64, IntKind.wrap_i64, List.length_append, List.length_cons, List.length_nil, List.nil_append, List.append_nil, List.cons_append, lvals, List.length_replicate, List.length_set, linV_val hu, Int.add_zero, Int.zero_add, Int.mul_one, Int.sub_zero, Int.zero_mul, Bool.true_eq_false, false_and, and_false, true_and, and_true, List.all_cons, List.all_nil, id_eq, Bool.and_true, e0, es, et, eu, ↓w1, ↓w2, ↓w3, b1, b2, b3, g1, g2, g3, g4, bytesL_length]) <;> (try simp only [Int.ofNat_eq_natCast]) <;> first | exact ecs | exact ect | exact ecu | exact ecd) | (refine Gen0.mk ?_; (conv => cbv)) | (with_reducible refine Pick.view ?_; (conv => cbv)) | (simp only [hu.b, hu.i, iB, iI, cmpB, ivs, ivl, lrs, lrl, trs, trl, decide_eq_true_eq, decide_eq_false_iff_not, beq_iff_eq, beq_eq_false_iff_ne, ne_eq, ofN, Int.toNat_zero, Int.toNat_one, Int.reduceToNat, natc, hu.s, iS, svs, svl, true_iff, false_iff, Bool.false_eq_true, bne_iff_ne, bne_eq_false_iff_eq, Bool.not_eq_true', Bool.not_eq_false', Decidable.not_not, nil_toList, ByteArray.size_empty, nilS, not_true_eq_false, not_false_eq_true, hu.l, iL, hu.t, iT, bin_add, bin_sub, bin_mul, wr_u8, wr_u16, wr_u32, wr_u64, IntKind.wrap_i64, List.length_append, List.length_cons, List.length_nil, List.nil_append, List.append_nil, List.cons_append, lvals, List.length_replicate, List.length_set, linV_val hu, Int.add_zero, Int.zero_add, Int.mul_one, Int.sub_zero, Int.zero_mul, Bool.true_eq_false, false_and, and_false, true_and, and_true, List.all_cons, List.all_nil, id_eq, Bool.and_true, e0, es, et, eu, ↓w1, ↓w2, ↓w3, b1, b2, b3, g1, g2, g3, g4, bytesL_length]; (try simp only [Int.ofNat_eq_natCast]); done) | ((try simp only [hu.b, hu.i, iB, iI, cmpB, ivs, ivl, lrs, lrl, trs, trl, decide_eq_true_eq, decide_eq_false_iff_not, beq_iff_eq, beq_eq_false_iff_ne, ne_eq, ofN, Int.toNat_zero, Int.toNat_one, Int.reduceToNat, natc, hu.s, iS, svs, svl, true_iff, false_iff, Bool.false_eq_true, bne_iff_ne, bne_eq_false_iff_eq, Bool.not_eq_true', Bool.not_eq_false', Decidable.not_not, nil_toList, ByteArray.size_empty, nilS, not_true_eq_false, not_false_eq_true, hu.l, iL, hu.t, iT, bin_add, bin_sub, bin_mul, wr_u8, wr_u16, wr_u32, wr_u64, IntKind.wrap_i64, List.length_append, List.length_cons, List.length_nil, List.nil_append, List.append_nil, List.cons_append, lvals, List.length_replicate, List.length_set, linV_val hu, Int.add_zero, Int.zero_add, Int.mul_one, Int.sub_zero, Int.zero_mul, Bool.true_eq_false, false_and, and_false, true_and, and_true, List.all_cons, List.all_nil, id_eq, Bool.and_true, e0, es, et, eu, ↓w1, ↓w2, ↓w3, b1, b2, b3, g1, g2, g3, g4, bytesL_length]) <;> (try simp only [Int.ofNat_eq_natCast]) <;> omega))
  iterate 6
    · have hin : ¬ inC op a b := by unfold inC; omega
      subst hR
      refine Weak.of ((.inl ⟨hin, rfl, rfl⟩)) ?_ ?_ (by rfl)
      all_goals ((conv => cbv); repeat' (first | exact True.intro | with_reducible rfl | (with_reducible exact fun h => h) | (with_reducible refine And.intro ?_ ?_)))
  · have hin : inC op a b := by unfold inC; omega
    have hbig0 : (1012 : Int) < ns + nt + nu + n := by omega
    have hbig : (1012 : Int) < s.size + t.size + u.size + n := by rw [es', et', eu']; exact hbig0
    subst hR
    refine Weak.of ((.inr (.inl ⟨⟨hin, hbig⟩, rfl, rfl⟩))) ?_ ?_ (by rfl)
    all_goals ((conv => cbv); repeat' (first | exact True.intro | with_reducible rfl | (with_reducible exact fun h => h) | (with_reducible refine And.intro ?_ ?_)))
  have hin : inC op a b := by unfold inC; omega
  have hfew0 : ns + nt + nu + n ≤ 1012 := by omega
  have hfew : (s.size + t.size + u.size + n : Int) ≤ 1012 := by rw [es', et', eu']; exact hfew0
  have e1 : binI .quo .i64 b 256 = b / 256 := quo_i64 (by omega) (by omega) (by omega)
  have e2 : binI .rem .i64 b 256 = b % 256 := rem_nn (by omega)
  have e3 : b / 256 % 256 = b / 256 := by omega
  have e4 : b % 256 % 256 = b % 256 := by omega
  have e5 : op % 256 = op := by omega
  have e6 : a % 256 = a := by omega
  obtain ⟨q, eq⟩ : ∃ x : Int, x = 12 + s.size + t.size + u.size + n := ⟨_, rfl⟩
  obtain ⟨ys, ey⟩ : ∃ x, x = cmdL op a b s t u d := ⟨_, rfl⟩
  have hq : q = ys.length := by rw [ey, c2, eq]
  subst hR
  refine Weak.of ((.inr (.inr ⟨q, ys, ⟨hin, hfew, hq, eq, ey⟩, rfl, rfl⟩))) ?_ ?_ (by rfl)
  all_goals ((conv => cbv); repeat' (first | exact True.intro | with_reducible rfl | (with_reducible exact fun h => h) | (with_reducible refine And.intro ?_ ?_)))
  · ((try simp only [hu.b, hu.i, iB, iI, cmpB, ivs, ivl, lrs, lrl, trs, trl, decide_eq_true_eq, decide_eq_false_iff_not, beq_iff_eq, beq_eq_false_iff_ne, ne_eq, ofN, Int.toNat_zero, Int.toNat_one, Int.reduceToNat, natc, hu.s, iS, svs, svl, true_iff, false_iff, Bool.false_eq_true, bne_iff_ne, bne_eq_false_iff_eq, Bool.not_eq_true', Bool.not_eq_false', Decidable.not_not, nil_toList, ByteArray.size_empty, nilS, not_true_eq_false, not_false_eq_true, hu.l, iL, hu.t, iT, bin_add, bin_sub, bin_mul, wr_u8, wr_u16, wr_u32, wr_u64, IntKind.wrap_i64, List.length_append, List.length_cons, List.length_nil, List.nil_append, List.append_nil, List.cons_append, lvals, List.length_replicate, List.length_set, linV_val hu, Int.add_zero, Int.zero_add, Int.mul_one, Int.sub_zero, Int.zero_mul, Bool.true_eq_false, false_and, and_false, true_and, and_true, List.all_cons, List.all_nil, id_eq, Bool.and_true]) <;> (try simp only [Int.ofNat_eq_natCast]) <;> (try omega))
  · ((try simp only [hu.b, hu.i, iB, iI, cmpB, ivs, ivl, lrs, lrl, trs, trl, decide_eq_true_eq, decide_eq_false_iff_not, beq_iff_eq, beq_eq_false_iff_ne, ne_eq, ofN, Int.toNat_zero, Int.toNat_one, Int.reduceToNat, natc, hu.s, iS, svs, svl, true_iff, false_iff, Bool.false_eq_true, bne_iff_ne, bne_eq_false_iff_eq, Bool.not_eq_true', Bool.not_eq_false', Decidable.not_not, nil_toList, ByteArray.size_empty, nilS, not_true_eq_false, not_false_eq_true, hu.l, iL, hu.t, iT, bin_add, bin_sub, bin_mul, wr_u8, wr_u16, wr_u32, wr_u64, IntKind.wrap_i64, List.length_append, List.length_cons, List.length_nil, List.nil_append, List.append_nil, List.cons_append, lvals, List.length_replicate, List.length_set, linV_val hu, Int.add_zero, Int.zero_add, Int.mul_one, Int.sub_zero, Int.zero_mul, Bool.true_eq_false, false_and, and_false, true_and, and_true, List.all_cons, List.all_nil, id_eq, Bool.and_true, e1, e2, e3, e4, e5, e6]) <;> (try simp only [Int.ofNat_eq_natCast]) <;> (try omega))
    rw [ey, cmdL, ecs, ect, ecu, ecd]
    simp [catC, List.append_assoc]
theorem rreply_ctr {tt : TypeId} (op : Int) (s : ByteArray) (d : List Int) (n : Int) (hn : n = d.length) (hs : s.size ≤ 2000) (hd : d.length ≤ 2000) : Ctr Tryd.prog 13 [.cols .ro tt [.ints .u8 (.sym d)]] [.agg [.int .i64 (.sym op), .str (.sym s), .sl 0 (.lit 0) (.sym n)]] fun v H =>
    (¬ inA op ∧ v = .tup [.nilsl, .int .i64 (.sym 1)] ∧ H = [.cols .ro tt [.ints .u8 (.sym d)]]) ∨
    ((inA op ∧ 1019 < s.size + n) ∧ v = .tup [.nilsl, .int .i64 (.sym 2)] ∧ H = [.cols .ro tt [.ints .u8 (.sym d)]]) ∨
    (∃ q ys, (inA op ∧ s.size + n ≤ 1019 ∧ q = ys.length ∧ q = 5 + s.size + n ∧ ys = ansL op s d) ∧ v = .tup [.vec 1 (.sym q), .int .i64 (.sym 0)] ∧ H = [.cols .ro tt [.ints .u8 (.sym d)], .cols (.row 1) 5 [.ints .u8 (.sym ys)]]) := by
  have e0 : subL d 0 n = d := subL_all _ _ hn
  have c2 := ansL_length op s d
  rw [← hn] at c2
  obtain ⟨ns, es⟩ : ∃ x, Int.ofNat s.size = x := ⟨_, rfl⟩
  have es' : (s.size : Int) = ns := es
  have ks : 0 ≤ ns ∧ ns ≤ 2000 := by omega
  have kn : 0 ≤ n ∧ n ≤ 2000 := by omega
  have b1 : subL (bytesL s) 0 ns = bytesL s := by rw [← es']; exact subL_bytes s
  have w1 : IntKind.i64.wrap (ns + n) = ns + n := wr_i64 _ (by omega) (by omega)
  obtain ⟨cs, ecs⟩ : ∃ x, x = cntd (bytesL s) := ⟨_, rfl⟩
  obtain ⟨cd, ecd⟩ : ∃ x, x = cntd d := ⟨_, rfl⟩
  obtain ⟨ps, eps⟩ : ∃ x, x = ns + 2 := ⟨_, rfl⟩
  obtain ⟨pd, epd⟩ : ∃ x, x = n + 2 := ⟨_, rfl⟩
  have ls : (cs.length : Int) = ps := by rw [ecs, cntd_length, bytesL_length]; omega
  have ld : (cd.length : Int) = pd := by rw [ecd, cntd_length]; omega
  have g1 : subL cs 0 ps = cs := subL_all _ _ ls.symm
  have g4 : subL cd 0 pd = cd := subL_all _ _ ld.symm
  obtain ⟨uI, uB, uS, uL, uT, hu⟩ := words
  have hm := mixed
  have hT := tabOk
  have hCo := @rcounted_ctr
  obtain ⟨P, hP⟩ : ∃ P, P = Tryd.prog := ⟨_, rfl⟩
  rw [← hP] at hm hT hCo ⊢
  refine Ctr.weak (ctr_of_vc hu hm hT (hP ▸ Tryd.func13) rfl (by kernel_rfl) ?_)
  clear hP hm hT
  generalize hR : Weak _ _ = R
  conv => cbv
  repeat' (first | ((with_reducible intro (h : _ = _)); (try subst h); (try simp only [hu.b, hu.i, iB, iI, cmpB, ivs, ivl, lrs, lrl, trs, trl, decide_eq_true_eq, decide_eq_false_iff_not, beq_iff_eq, beq_eq_false_iff_ne, ne_eq, ofN, Int.toNat_zero, Int.toNat_one, Int.reduceToNat, natc, hu.s, iS, svs, svl, true_iff, false_iff, Bool.false_eq_true, bne_iff_ne, bne_eq_false_iff_eq, Bool.not_eq_true', Bool.not_eq_false', Decidable.not_not, nil_toList, ByteArray.size_empty, nilS, not_true_eq_false, not_false_eq_true, hu.l, iL, hu.t, iT, bin_add, bin_sub, bin_mul, wr_u8, wr_u16, wr_u32, wr_u64, IntKind.wrap_i64, List.length_append, List.length_cons, List.length_nil, List.nil_append, List.append_nil, List.cons_append, lvals, List.length_replicate, List.length_set, linV_val hu, Int.add_zero, Int.zero_add, Int.mul_one, Int.sub_zero, Int.zero_mul, Bool.true_eq_false, false_and, and_false, true_and, and_true, List.all_cons, List.all_nil, id_eq, Bool.and_true, e0, es, ↓w1, b1, g1, g4, bytesL_length] at h) <;> (try simp only [Int.ofNat_eq_natCast] at h) <;> (first | (have hF0 : False := by omega; exact hF0.elim) | (conv => cbv))) | (with_reducible refine And.intro ?_ ?_) | (first | (refine CallDet.mkR ?_ (hCo (uL (.sub (uL (.ofs s)) _ _)) _ ps cs ?_ ?_ ?_ ?_)) | (refine CallVC.mkR ?_ (hCo (uL (.sub (uL (.ofs s)) _ _)) _ ps cs ?_ ?_ ?_ ?_))) | (first | (refine CallDet.mkR ?_ (hCo (uL (.sub d _ _)) _ pd cd ?_ ?_ ?_ ?_)) | (refine CallVC.mkR ?_ (hCo (uL (.sub d _ _)) _ pd cd ?_ ?_ ?_ ?_))) | ((try simp only [hu.b, hu.i, iB, iI, cmpB, ivs, ivl, lrs, lrl, trs, trl, decide_eq_true_eq, decide_eq_false_iff_not, beq_iff_eq, beq_eq_false_iff_ne, ne_eq, ofN, Int.toNat_zero, Int.toNat_one, Int.reduceToNat, natc, hu.s, iS, svs, svl, true_iff, false_iff, Bool.false_eq_true, bne_iff_ne, bne_eq_false_iff_eq, Bool.not_eq_true', Bool.not_eq_false', Decidable.not_not, nil_toList, ByteArray.size_empty, nilS, not_true_eq_false, not_false_eq_true, hu.l, iL, hu.t, iT, bin_add, bin_sub, bin_mul, wr_u8, wr_u16, wr_u32, wr_u64, IntKind.wrap_i64, List.length_append, List.length_cons, List.length_nil, List.nil_append, List.append_nil, List.cons_append, lvals, List.length_replicate, List.length_set, linV_val hu, Int.add_zero, Int.zero_add, Int.mul_one, Int.sub_zero, Int.zero_mul, Bool.true_eq_false, false_and, and_false, true_and, and_true, List.all_cons, List.all_nil, id_eq, Bool.and_true, e0, es, ↓w1, b1, g1, g4, bytesL_length]) <;> (try simp only [Int.ofNat_eq_natCast]) <;> first | exact ecs | exact ecd) | (refine Gen0.mk ?_; (conv => cbv)) | (with_reducible refine Pick.view ?_; (conv => cbv)) | (simp only [hu.b, hu.i, iB, iI, cmpB, ivs, ivl, lrs, lrl, trs, trl, decide_eq_true_eq, decide_eq_false_iff_not, beq_iff_eq, beq_eq_false_iff_ne, ne_eq, ofN, Int.toNat_zero, Int.toNat_one, Int.reduceToNat, natc, hu.s, iS, svs, svl, true_iff, false_iff, Bool.false_eq_true, bne_iff_ne, bne_eq_false_iff_eq, Bool.not_eq_true', Bool.not_eq_false', Decidable.not_not, nil_toList, ByteArray.size_empty, nilS, not_true_eq_false, not_false_eq_true, hu.l, iL, hu.t, iT, bin_add, bin_sub, bin_mul, wr_u8, wr_u16, wr_u32, wr_u64, IntKind.wrap_i64, List.length_append, List.length_cons, List.length_nil, List.nil_append, List.append_nil, List.cons_append, lvals, List.length_replicate, List.length_set, linV_val hu, Int.add_zero, Int.zero_add, Int.mul_one, Int.sub_zero, Int.zero_mul, Bool.true_eq_false, false_and, and_false, true_and, and_true, List.all_cons, List.all_nil, id_eq, Bool.and_true, e0, es, ↓w1, b1, g1, g4, bytesL_length]; (try simp only [Int.ofNat_eq_natCast]); done) | ((try simp only [hu.b, hu.i, iB, iI, cmpB, ivs, ivl, lrs, lrl, trs, trl, decide_eq_true_eq, decide_eq_false_iff_not, beq_iff_eq, beq_eq_false_iff_ne, ne_eq, ofN, Int.toNat_zero, Int.toNat_one, Int.reduceToNat, natc, hu.s, iS, svs, svl, true_iff, false_iff, Bool.false_eq_true, bne_iff_ne, bne_eq_false_iff_eq, Bool.not_eq_true', Bool.not_eq_false', Decidable.not_not, nil_toList, ByteArray.size_empty, nilS, not_true_eq_false, not_false_eq_true, hu.l, iL, hu.t, iT, bin_add, bin_sub, bin_mul, wr_u8, wr_u16, wr_u32, wr_u64, IntKind.wrap_i64, List.length_append, List.length_cons, List.length_nil, List.nil_append, List.append_nil, List.cons_append, lvals, List.length_replicate, List.length_set, linV_val hu, Int.add_zero, Int.zero_add, Int.mul_one, Int.sub_zero, Int.zero_mul, Bool.true_eq_false, false_and, and_false, true_and, and_true, List.all_cons, List.all_nil, id_eq, Bool.and_true, e0, es, ↓w1, b1, g1, g4, bytesL_length]) <;> (try simp only [Int.ofNat_eq_natCast]) <;> omega))
  iterate 2
    · have hin : ¬ inA op := by unfold inA; omega
      subst hR
      refine Weak.of ((.inl ⟨hin, rfl, rfl⟩)) ?_ ?_ (by rfl)
      all_goals ((conv => cbv); repeat' (first | exact True.intro | with_reducible rfl | (with_reducible exact fun h => h) | (with_reducible refine And.intro ?_ ?_)))
  · have hin : inA op := by unfold inA; omega
    have hbig0 : (1019 : Int) < ns + n := by omega
    have hbig : (1019 : Int) < s.size + n := by rw [es']; exact hbig0
    subst hR
    refine Weak.of ((.inr (.inl ⟨⟨hin, hbig⟩, rfl, rfl⟩))) ?_ ?_ (by rfl)
    all_goals ((conv => cbv); repeat' (first | exact True.intro | with_reducible rfl | (with_reducible exact fun h => h) | (with_reducible refine And.intro ?_ ?_)))
  have hin : inA op := by unfold inA; omega
  have hfew0 : ns + n ≤ 1019 := by omega
  have hfew : (s.size + n : Int) ≤ 1019 := by rw [es']; exact hfew0
  have e5 : op % 256 = op := by omega
  obtain ⟨q, eq⟩ : ∃ x : Int, x = 5 + s.size + n := ⟨_, rfl⟩
  obtain ⟨ys, ey⟩ : ∃ x, x = ansL op s d := ⟨_, rfl⟩
  have hq : q = ys.length := by rw [ey, c2, eq]
  subst hR
  refine Weak.of ((.inr (.inr ⟨q, ys, ⟨hin, hfew, hq, eq, ey⟩, rfl, rfl⟩))) ?_ ?_ (by rfl)
  all_goals ((conv => cbv); repeat' (first | exact True.intro | with_reducible rfl | (with_reducible exact fun h => h) | (with_reducible refine And.intro ?_ ?_)))
  · ((try simp only [hu.b, hu.i, iB, iI, cmpB, ivs, ivl, lrs, lrl, trs, trl, decide_eq_true_eq, decide_eq_false_iff_not, beq_iff_eq, beq_eq_false_iff_ne, ne_eq, ofN, Int.toNat_zero, Int.toNat_one, Int.reduceToNat, natc, hu.s, iS, svs, svl, true_iff, false_iff, Bool.false_eq_true, bne_iff_ne, bne_eq_false_iff_eq, Bool.not_eq_true', Bool.not_eq_false', Decidable.not_not, nil_toList, ByteArray.size_empty, nilS, not_true_eq_false, not_false_eq_true, hu.l, iL, hu.t, iT, bin_add, bin_sub, bin_mul, wr_u8, wr_u16, wr_u32, wr_u64, IntKind.wrap_i64, List.length_append, List.length_cons, List.length_nil, List.nil_append, List.append_nil, List.cons_append, lvals, List.length_replicate, List.length_set, linV_val hu, Int.add_zero, Int.zero_add, Int.mul_one, Int.sub_zero, Int.zero_mul, Bool.true_eq_false, false_and, and_false, true_and, and_true, List.all_cons, List.all_nil, id_eq, Bool.and_true]) <;> (try simp only [Int.ofNat_eq_natCast]) <;> (try omega))
  · ((try simp only [hu.b, hu.i, iB, iI, cmpB, ivs, ivl, lrs, lrl, trs, trl, decide_eq_true_eq, decide_eq_false_iff_not, beq_iff_eq, beq_eq_false_iff_ne, ne_eq, ofN, Int.toNat_zero, Int.toNat_one, Int.reduceToNat, natc, hu.s, iS, svs, svl, true_iff, false_iff, Bool.false_eq_true, bne_iff_ne, bne_eq_false_iff_eq, Bool.not_eq_true', Bool.not_eq_false', Decidable.not_not, nil_toList, ByteArray.size_empty, nilS, not_true_eq_false, not_false_eq_true, hu.l, iL, hu.t, iT, bin_add, bin_sub, bin_mul, wr_u8, wr_u16, wr_u32, wr_u64, IntKind.wrap_i64, List.length_append, List.length_cons, List.length_nil, List.nil_append, List.append_nil, List.cons_append, lvals, List.length_replicate, List.length_set, linV_val hu, Int.add_zero, Int.zero_add, Int.mul_one, Int.sub_zero, Int.zero_mul, Bool.true_eq_false, false_and, and_false, true_and, and_true, List.all_cons, List.all_nil, id_eq, Bool.and_true, e5]) <;> (try simp only [Int.ofNat_eq_natCast]) <;> (try omega))
    rw [ey, ansL, ecs, ecd]
    simp [catC, List.append_assoc]
end Go.Proofs.YtdenmaiimfnbeaaDoor
