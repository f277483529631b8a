import Derived.Test.YtpedilhijdjeoaaDoorSx3
import Derived.KernelRfl
import Derived.Test.YtpedilhijdjeoaaDoorProg
import Derived.WalkKit
import Derived.LaidEql
import Derived.Stop.Asserts
import Derived.RowKitTokens
import Derived.Outline
import Derived.Below
import Derived.Lib.Hide
set_option linter.all false
set_option linter.unusedSectionVars false
namespace Go.Proofs.YtpedilhijdjeoaaDoor
open Go Sx
set_option maxRecDepth 100000
def tab : TypeId → Option TyI
  | 2 => some ⟨.int .i64, 1, 8, [.int .i64 0], [], []⟩
  | 3 => some ⟨.int .i64, 1, 8, [.int .i64 0], [], []⟩
  | 4 => some ⟨.bool, 1, 1, [.bool false], [], []⟩
  | 5 => some ⟨.int .u8, 1, 1, [.int .u8 0], [], []⟩
  | 9 => some ⟨.str, 1, 16, [.string ⟨#[]⟩], [], []⟩
  | 12 => some ⟨.int .u64, 1, 8, [.int .u64 0], [], []⟩
  | 13 => some ⟨.struct [(0, 9), (1, 12)], 2, 24, [.string ⟨#[]⟩, .int .u64 0], [], []⟩
  | 20 => some ⟨.iface, 1, 16, [.nilIface], [], []⟩
  | 21 => some ⟨.int .i32, 1, 4, [.int .i32 0], [], []⟩
  | 22 => some ⟨.arr 8 5, 8, 8, [.int .u8 0, .int .u8 0, .int .u8 0, .int .u8 0, .int .u8 0, .int .u8 0, .int .u8 0, .int .u8 0], [.int .u8], [.int .u8, .int .u8, .int .u8, .int .u8, .int .u8, .int .u8, .int .u8, .int .u8]⟩
  | 23 => some ⟨.int .u64, 1, 8, [.int .u64 0], [], []⟩
  | 24 => some ⟨.arr 16 23, 16, 128, [.int .u64 0, .int .u64 0, .int .u64 0, .int .u64 0, .int .u64 0, .int .u64 0, .int .u64 0, .int .u64 0, .int .u64 0, .int .u64 0, .int .u64 0, .int .u64 0, .int .u64 0, .int .u64 0, .int .u64 0, .int .u64 0], [.int .u64], [.int .u64, .int .u64, .int .u64, .int .u64, .int .u64, .int .u64, .int .u64, .int .u64, .int .u64, .int .u64, .int .u64, .int .u64, .int .u64, .int .u64, .int .u64, .int .u64]⟩
  | 26 => some ⟨.slice 31, 1, 24, [.slice none 0 0], [], []⟩
  | 28 => some ⟨.slice 5, 1, 24, [.slice none 0 0], [], []⟩
  | 30 => some ⟨.int .u64, 1, 8, [.int .u64 0], [], []⟩
  | 31 => some ⟨.slice 3, 1, 24, [.slice none 0 0], [], []⟩
  | 37 => some ⟨.iface, 1, 16, [.nilIface], [], []⟩
  | 38 => some ⟨.iface, 1, 16, [.nilIface], [], []⟩
  | 43 => some ⟨.arr 24 5, 24, 24, [.int .u8 0, .int .u8 0, .int .u8 0, .int .u8 0, .int .u8 0, .int .u8 0, .int .u8 0, .int .u8 0, .int .u8 0, .int .u8 0, .int .u8 0, .int .u8 0, .int .u8 0, .int .u8 0, .int .u8 0, .int .u8 0, .int .u8 0, .int .u8 0, .int .u8 0, .int .u8 0, .int .u8 0, .int .u8 0, .int .u8 0, .int .u8 0], [.int .u8], [.int .u8, .int .u8, .int .u8, .int .u8, .int .u8, .int .u8, .int .u8, .int .u8, .int .u8, .int .u8, .int .u8, .int .u8, .int .u8, .int .u8, .int .u8, .int .u8, .int .u8, .int .u8, .int .u8, .int .u8, .int .u8, .int .u8, .int .u8, .int .u8]⟩
  | 57 => some ⟨.arr 3 22, 24, 24, [.int .u8 0, .int .u8 0, .int .u8 0, .int .u8 0, .int .u8 0, .int .u8 0, .int .u8 0, .int .u8 0, .int .u8 0, .int .u8 0, .int .u8 0, .int .u8 0, .int .u8 0, .int .u8 0, .int .u8 0, .int .u8 0, .int .u8 0, .int .u8 0, .int .u8 0, .int .u8 0, .int .u8 0, .int .u8 0, .int .u8 0, .int .u8 0], [.int .u8], [.int .u8, .int .u8, .int .u8, .int .u8, .int .u8, .int .u8, .int .u8, .int .u8, .int .u8, .int .u8, .int .u8, .int .u8, .int .u8, .int .u8, .int .u8, .int .u8, .int .u8, .int .u8, .int .u8, .int .u8, .int .u8, .int .u8, .int .u8, .int .u8]⟩
  | 60 => some ⟨.int .i64, 1, 8, [.int .i64 0], [], []⟩
  | 62 => some ⟨.ptr 60, 1, 8, [.pointer none], [], []⟩
  | 64 => some ⟨.slice 9, 1, 24, [.slice none 0 0], [], []⟩
  | 78 => some ⟨.arr 8 9, 8, 128, [.string ⟨#[]⟩, .string ⟨#[]⟩, .string ⟨#[]⟩, .string ⟨#[]⟩, .string ⟨#[]⟩, .string ⟨#[]⟩, .string ⟨#[]⟩, .string ⟨#[]⟩], [.str], [.str, .str, .str, .str, .str, .str, .str, .str]⟩
  | 85 => some ⟨.iface, 1, 16, [.nilIface], [], []⟩
  | 88 => some ⟨.iface, 1, 16, [.nilIface], [], []⟩
  | 90 => some ⟨.iface, 1, 16, [.nilIface], [], []⟩
  | 91 => some ⟨.slice 38, 1, 24, [.slice none 0 0], [], []⟩
  | 101 => some ⟨.int .u32, 1, 4, [.int .u32 0], [], []⟩
  | 104 => some ⟨.ptr 5, 1, 8, [.pointer none], [], []⟩
  | 115 => some ⟨.int .u16, 1, 2, [.int .u16 0], [], []⟩
  | 122 => some ⟨.ptr 38, 1, 8, [.pointer none], [], []⟩
  | _ => none
theorem ty2 : TyOk Tryd.prog 2 ⟨.int .i64, 1, 8, [.int .i64 0], [], []⟩ :=
  TyOk.mk' (by kernel_rfl) (by kernel_rfl) (by kernel_rfl) ((by kernel_rfl : Tryd.prog.underlying 2 = _)) (fun h => absurd rfl h)
theorem ty3 : TyOk Tryd.prog 3 ⟨.int .i64, 1, 8, [.int .i64 0], [], []⟩ :=
  TyOk.mk' (by kernel_rfl) (by kernel_rfl) (by kernel_rfl) ((by kernel_rfl : Tryd.prog.underlying 3 = _)) (fun h => absurd rfl h)
theorem ty4 : TyOk Tryd.prog 4 ⟨.bool, 1, 1, [.bool false], [], []⟩ :=
  TyOk.mk' (by kernel_rfl) (by kernel_rfl) (by kernel_rfl) ((by kernel_rfl : Tryd.prog.underlying 4 = _)) (fun h => absurd rfl h)
theorem ty5 : TyOk Tryd.prog 5 ⟨.int .u8, 1, 1, [.int .u8 0], [], []⟩ :=
  TyOk.mk' (by kernel_rfl) (by kernel_rfl) (by kernel_rfl) ((by kernel_rfl : Tryd.prog.underlying 5 = _)) (fun h => absurd rfl h)
theorem ty9 : TyOk Tryd.prog 9 ⟨.str, 1, 16, [.string ⟨#[]⟩], [], []⟩ :=
  TyOk.mk' (by kernel_rfl) (by kernel_rfl) (by kernel_rfl) ((by kernel_rfl : Tryd.prog.underlying 9 = _)) (fun h => absurd rfl h)
theorem ty12 : TyOk Tryd.prog 12 ⟨.int .u64, 1, 8, [.int .u64 0], [], []⟩ :=
  TyOk.mk' (by kernel_rfl) (by kernel_rfl) (by kernel_rfl) ((by kernel_rfl : Tryd.prog.underlying 12 = _)) (fun h => absurd rfl h)
theorem ty13 : TyOk Tryd.prog 13 ⟨.struct [(0, 9), (1, 12)], 2, 24, [.string ⟨#[]⟩, .int .u64 0], [], []⟩ :=
  TyOk.mk' (by kernel_rfl) (by kernel_rfl) (by kernel_rfl) (⟨Tryd.prog.fieldsOf 13, by kernel_rfl, by kernel_rfl⟩) (fun h => absurd rfl h)
theorem ty20 : TyOk Tryd.prog 20 ⟨.iface, 1, 16, [.nilIface], [], []⟩ :=
  TyOk.mk' (by kernel_rfl) (by kernel_rfl) (by kernel_rfl) (DOk.iface_of (by kernel_rfl)) (fun h => absurd rfl h)
theorem ty21 : TyOk Tryd.prog 21 ⟨.int .i32, 1, 4, [.int .i32 0], [], []⟩ :=
  TyOk.mk' (by kernel_rfl) (by kernel_rfl) (by kernel_rfl) ((by kernel_rfl : Tryd.prog.underlying 21 = _)) (fun h => absurd rfl h)
theorem ty22 : TyOk Tryd.prog 22 ⟨.arr 8 5, 8, 8, [.int .u8 0, .int .u8 0, .int .u8 0, .int .u8 0, .int .u8 0, .int .u8 0, .int .u8 0, .int .u8 0], [.int .u8], [.int .u8, .int .u8, .int .u8, .int .u8, .int .u8, .int .u8, .int .u8, .int .u8]⟩ :=
  TyOk.mk' (by kernel_rfl) (by kernel_rfl) (by kernel_rfl) ((by kernel_rfl : Tryd.prog.underlying 22 = _)) (fun _ => EqOk.of 8 (by decide) (by kernel_rfl) (by kernel_rfl) (by kernel_rfl))
theorem ty23 : TyOk Tryd.prog 23 ⟨.int .u64, 1, 8, [.int .u64 0], [], []⟩ :=
  TyOk.mk' (by kernel_rfl) (by kernel_rfl) (by kernel_rfl) ((by kernel_rfl : Tryd.prog.underlying 23 = _)) (fun h => absurd rfl h)
theorem ty24 : TyOk Tryd.prog 24 ⟨.arr 16 23, 16, 128, [.int .u64 0, .int .u64 0, .int .u64 0, .int .u64 0, .int .u64 0, .int .u64 0, .int .u64 0, .int .u64 0, .int .u64 0, .int .u64 0, .int .u64 0, .int .u64 0, .int .u64 0, .int .u64 0, .int .u64 0, .int .u64 0], [.int .u64], [.int .u64, .int .u64, .int .u64, .int .u64, .int .u64, .int .u64, .int .u64, .int .u64, .int .u64, .int .u64, .int .u64, .int .u64, .int .u64, .int .u64, .int .u64, .int .u64]⟩ :=
  TyOk.mk' (by kernel_rfl) (by kernel_rfl) (by kernel_rfl) ((by kernel_rfl : Tryd.prog.underlying 24 = _)) (fun _ => EqOk.of 8 (by decide) (by kernel_rfl) (by kernel_rfl) (by kernel_rfl))
theorem ty26 : TyOk Tryd.prog 26 ⟨.slice 31, 1, 24, [.slice none 0 0], [], []⟩ :=
  TyOk.mk' (by kernel_rfl) (by kernel_rfl) (by kernel_rfl) ((by kernel_rfl : Tryd.prog.underlying 26 = _)) (fun h => absurd rfl h)
theorem ty28 : TyOk Tryd.prog 28 ⟨.slice 5, 1, 24, [.slice none 0 0], [], []⟩ :=
  TyOk.mk' (by kernel_rfl) (by kernel_rfl) (by kernel_rfl) ((by kernel_rfl : Tryd.prog.underlying 28 = _)) (fun h => absurd rfl h)
theorem ty30 : TyOk Tryd.prog 30 ⟨.int .u64, 1, 8, [.int .u64 0], [], []⟩ :=
  TyOk.mk' (by kernel_rfl) (by kernel_rfl) (by kernel_rfl) ((by kernel_rfl : Tryd.prog.underlying 30 = _)) (fun h => absurd rfl h)
theorem ty31 : TyOk Tryd.prog 31 ⟨.slice 3, 1, 24, [.slice none 0 0], [], []⟩ :=
  TyOk.mk' (by kernel_rfl) (by kernel_rfl) (by kernel_rfl) ((by kernel_rfl : Tryd.prog.underlying 31 = _)) (fun h => absurd rfl h)
theorem ty37 : TyOk Tryd.prog 37 ⟨.iface, 1, 16, [.nilIface], [], []⟩ :=
  TyOk.mk' (by kernel_rfl) (by kernel_rfl) (by kernel_rfl) (DOk.iface_of (by kernel_rfl)) (fun h => absurd rfl h)
theorem ty38 : TyOk Tryd.prog 38 ⟨.iface, 1, 16, [.nilIface], [], []⟩ :=
  TyOk.mk' (by kernel_rfl) (by kernel_rfl) (by kernel_rfl) (DOk.iface_of (by kernel_rfl)) (fun h => absurd rfl h)
theorem ty43 : TyOk Tryd.prog 43 ⟨.arr 24 5, 24, 24, [.int .u8 0, .int .u8 0, .int .u8 0, .int .u8 0, .int .u8 0, .int .u8 0, .int .u8 0, .int .u8 0, .int .u8 0, .int .u8 0, .int .u8 0, .int .u8 0, .int .u8 0, .int .u8 0, .int .u8 0, .int .u8 0, .int .u8 0, .int .u8 0, .int .u8 0, .int .u8 0, .int .u8 0, .int .u8 0, .int .u8 0, .int .u8 0], [.int .u8], [.int .u8, .int .u8, .int .u8, .int .u8, .int .u8, .int .u8, .int .u8, .int .u8, .int .u8, .int .u8, .int .u8, .int .u8, .int .u8, .int .u8, .int .u8, .int .u8, .int .u8, .int .u8, .int .u8, .int .u8, .int .u8, .int .u8, .int .u8, .int .u8]⟩ :=
  TyOk.mk' (by kernel_rfl) (by kernel_rfl) (by kernel_rfl) ((by kernel_rfl : Tryd.prog.underlying 43 = _)) (fun _ => EqOk.of 8 (by decide) (by kernel_rfl) (by kernel_rfl) (by kernel_rfl))
theorem ty57 : TyOk Tryd.prog 57 ⟨.arr 3 22, 24, 24, [.int .u8 0, .int .u8 0, .int .u8 0, .int .u8 0, .int .u8 0, .int .u8 0, .int .u8 0, .int .u8 0, .int .u8 0, .int .u8 0, .int .u8 0, .int .u8 0, .int .u8 0, .int .u8 0, .int .u8 0, .int .u8 0, .int .u8 0, .int .u8 0, .int .u8 0, .int .u8 0, .int .u8 0, .int .u8 0, .int .u8 0, .int .u8 0], [.int .u8], [.int .u8, .int .u8, .int .u8, .int .u8, .int .u8, .int .u8, .int .u8, .int .u8, .int .u8, .int .u8, .int .u8, .int .u8, .int .u8, .int .u8, .int .u8, .int .u8, .int .u8, .int .u8, .int .u8, .int .u8, .int .u8, .int .u8, .int .u8, .int .u8]⟩ :=
  TyOk.mk' (by kernel_rfl) (by kernel_rfl) (by kernel_rfl) ((by kernel_rfl : Tryd.prog.underlying 57 = _)) (fun _ => EqOk.of 8 (by decide) (by kernel_rfl) (by kernel_rfl) (by kernel_rfl))
theorem ty60 : TyOk Tryd.prog 60 ⟨.int .i64, 1, 8, [.int .i64 0], [], []⟩ :=
  TyOk.mk' (by kernel_rfl) (by kernel_rfl) (by kernel_rfl) ((by kernel_rfl : Tryd.prog.underlying 60 = _)) (fun h => absurd rfl h)
theorem ty62 : TyOk Tryd.prog 62 ⟨.ptr 60, 1, 8, [.pointer none], [], []⟩ :=
  TyOk.mk' (by kernel_rfl) (by kernel_rfl) (by kernel_rfl) ((by kernel_rfl : Tryd.prog.underlying 62 = _)) (fun h => absurd rfl h)
theorem ty64 : TyOk Tryd.prog 64 ⟨.slice 9, 1, 24, [.slice none 0 0], [], []⟩ :=
  TyOk.mk' (by kernel_rfl) (by kernel_rfl) (by kernel_rfl) ((by kernel_rfl : Tryd.prog.underlying 64 = _)) (fun h => absurd rfl h)
theorem ty78 : TyOk Tryd.prog 78 ⟨.arr 8 9, 8, 128, [.string ⟨#[]⟩, .string ⟨#[]⟩, .string ⟨#[]⟩, .string ⟨#[]⟩, .string ⟨#[]⟩, .string ⟨#[]⟩, .string ⟨#[]⟩, .string ⟨#[]⟩], [.str], [.str, .str, .str, .str, .str, .str, .str, .str]⟩ :=
  TyOk.mk' (by kernel_rfl) (by kernel_rfl) (by kernel_rfl) ((by kernel_rfl : Tryd.prog.underlying 78 = _)) (fun _ => EqOk.of 8 (by decide) (by kernel_rfl) (by kernel_rfl) (by kernel_rfl))
theorem ty85 : TyOk Tryd.prog 85 ⟨.iface, 1, 16, [.nilIface], [], []⟩ :=
  TyOk.mk' (by kernel_rfl) (by kernel_rfl) (by kernel_rfl) (DOk.iface_of (by kernel_rfl)) (fun h => absurd rfl h)
theorem ty88 : TyOk Tryd.prog 88 ⟨.iface, 1, 16, [.nilIface], [], []⟩ :=
  TyOk.mk' (by kernel_rfl) (by kernel_rfl) (by kernel_rfl) (DOk.iface_of (by kernel_rfl)) (fun h => absurd rfl h)
theorem ty90 : TyOk Tryd.prog 90 ⟨.iface, 1, 16, [.nilIface], [], []⟩ :=
  TyOk.mk' (by kernel_rfl) (by kernel_rfl) (by kernel_rfl) (DOk.iface_of (by kernel_rfl)) (fun h => absurd rfl h)
theorem ty91 : TyOk Tryd.prog 91 ⟨.slice 38, 1, 24, [.slice none 0 0], [], []⟩ :=
  TyOk.mk' (by kernel_rfl) (by kernel_rfl) (by kernel_rfl) ((by kernel_rfl : Tryd.prog.underlying 91 = _)) (fun h => absurd rfl h)
theorem ty101 : TyOk Tryd.prog 101 ⟨.int .u32, 1, 4, [.int .u32 0], [], []⟩ :=
  TyOk.mk' (by kernel_rfl) (by kernel_rfl) (by kernel_rfl) ((by kernel_rfl : Tryd.prog.underlying 101 = _)) (fun h => absurd rfl h)
theorem ty104 : TyOk Tryd.prog 104 ⟨.ptr 5, 1, 8, [.pointer none], [], []⟩ :=
  TyOk.mk' (by kernel_rfl) (by kernel_rfl) (by kernel_rfl) ((by kernel_rfl : Tryd.prog.underlying 104 = _)) (fun h => absurd rfl h)
theorem ty115 : TyOk Tryd.prog 115 ⟨.int .u16, 1, 2, [.int .u16 0], [], []⟩ :=
  TyOk.mk' (by kernel_rfl) (by kernel_rfl) (by kernel_rfl) ((by kernel_rfl : Tryd.prog.underlying 115 = _)) (fun h => absurd rfl h)
theorem ty122 : TyOk Tryd.prog 122 ⟨.ptr 38, 1, 8, [.pointer none], [], []⟩ :=
  TyOk.mk' (by kernel_rfl) (by kernel_rfl) (by kernel_rfl) ((by kernel_rfl : Tryd.prog.underlying 122 = _)) (fun h => absurd rfl h)
theorem tabOk : TabOk Tryd.prog tab := by
  intro t i h
  unfold tab at h
  split at h
  · cases h; exact ty2
  · cases h; exact ty3
  · cases h; exact ty4
  · cases h; exact ty5
  · cases h; exact ty9
  · cases h; exact ty12
  · cases h; exact ty13
  · cases h; exact ty20
  · cases h; exact ty21
  · cases h; exact ty22
  · cases h; exact ty23
  · cases h; exact ty24
  · cases h; exact ty26
  · cases h; exact ty28
  · cases h; exact ty30
  · cases h; exact ty31
  · cases h; exact ty37
  · cases h; exact ty38
  · cases h; exact ty43
  · cases h; exact ty57
  · cases h; exact ty60
  · cases h; exact ty62
  · cases h; exact ty64
  · cases h; exact ty78
  · cases h; exact ty85
  · cases h; exact ty88
  · cases h; exact ty90
  · cases h; exact ty91
  · cases h; exact ty101
  · cases h; exact ty104
  · cases h; exact ty115
  · cases h; exact ty122
  · cases h
end Go.Proofs.YtpedilhijdjeoaaDoor
namespace Go.Proofs.YtpedilhijdjeoaaDoor
open Go Go.RowKit Go.Extern.Stop Go.Stop Go.Extern
set_option maxRecDepth 100000
namespace AsW
theorem valueOfPE (t : Addr) (w : World) : (ReflectliteValue.unpack (.iface 62 (.pointer (some t)))).run Tryd.prog w
    = .ok (.agg #[.pointer (some ⟨1, 62, none⟩), .pointer (some ⟨w.heap.size, 0, none⟩), .int .u64 150]) (w.alloc (.cells #[.pointer (some t)] 62)) := by kernel_rfl
theorem typePE (a : Addr) (w : World) : (ReflectliteValue.methodAny (ReflectliteValue.valueError "reflectlite.Value.Type" 0) (fun t _ _ _ => ReflectliteType.toType t) #[.agg #[.pointer (some ⟨1, 62, none⟩), .pointer (some a), .int .u64 150]]).run Tryd.prog w
    = .ok (.iface 80 (.agg #[.pointer (some ⟨1, 62, none⟩)])) w := by kernel_rfl
theorem methodKind (h : Value) (w : World) : (Go.method 223 80 (.agg #[h]) "Kind").run Tryd.prog w = .ok (53, h) w := by kernel_rfl
theorem kindPE (w : World) : ((ReflectliteType.abiMethod fun t => (fun a : Nat => Value.int IntKind.u8 (a : Int)) <$> Rtype.kind t) #[.pointer (some ⟨1, 62, none⟩)]).run Tryd.prog w = .ok (.int .u8 22) w := by kernel_rfl
theorem kindE (w : World) : ((ReflectliteType.abiMethod fun t => (fun a : Nat => Value.int IntKind.u8 (a : Int)) <$> Rtype.kind t) #[.pointer (some ⟨1, 60, none⟩)]).run Tryd.prog w = .ok (.int .u8 2) w := by kernel_rfl
theorem rlm (z : Sem Value) (f : TypeId → Addr → Nat → Nat → Sem Value) (v : Value) :
    ReflectliteValue.method z f #[v] = (do match ← ReflectliteValue.parts v with | none => z | some (t, a, fl) => f t a fl (fl % 32)) := rfl
theorem partsPE (a : Addr) (w : World) : (ReflectliteValue.parts (.agg #[.pointer (some ⟨1, 62, none⟩), .pointer (some a), .int .u64 150])).run Tryd.prog w = .ok (some (62, a, 150)) w := by kernel_rfl
theorem isNilPE (a p : Addr) (W : World) (ha : W.cell? a = some (.pointer (some p))) :
    (ReflectliteValue.method (ReflectliteValue.valueError "reflectlite.Value.IsNil" 0) ReflectliteValue.isNil #[.agg #[.pointer (some ⟨1, 62, none⟩), .pointer (some a), .int .u64 150]]).run Tryd.prog W = .ok (.bool false) W := by
  rw [rlm]
  simp only [Sem.run_bind, partsPE, Result.andThen]
  simp [ReflectliteValue.isNil, loadVar, isAgg, underlying, Tryd.underlying62, ha, Result.andThen]
theorem methodElem (h : Value) (w : World) : (Go.method 223 80 (.agg #[h]) "Elem").run Tryd.prog w = .ok (63, .agg #[h]) w := by kernel_rfl
theorem methodImplements (h : Value) (w : World) : (Go.method 223 80 (.agg #[h]) "Implements").run Tryd.prog w = .ok (64, .agg #[h]) w := by kernel_rfl
theorem methodAssignableTo (h : Value) (w : World) : (Go.method 223 80 (.agg #[h]) "AssignableTo").run Tryd.prog w = .ok (61, .agg #[h]) w := by kernel_rfl
theorem elemPE (w : World) : (ReflectliteType.method ReflectliteType.elem #[.agg #[.pointer (some ⟨1, 62, none⟩)]]).run Tryd.prog w = .ok (.iface 80 (.agg #[.pointer (some ⟨1, 60, none⟩)])) w := by kernel_rfl
theorem implementsE (w : World) : (ReflectliteType.relation "Implements" ReflectliteType.implements_ #[.agg #[.pointer (some ⟨1, 60, none⟩)], .iface 80 (.agg #[.pointer (some ⟨1, 38, none⟩)])]).run Tryd.prog w = .ok (.bool true) w := by kernel_rfl
theorem typeOfE (v : Value) (w : World) : (ReflectliteType.typeOf #[.iface 60 v]).run Tryd.prog w = .ok (.iface 80 (.agg #[.pointer (some ⟨1, 60, none⟩)])) w := by kernel_rfl
theorem assignableEE (w : World) : (ReflectliteType.relation "AssignableTo" ReflectliteType.assignableTo #[.agg #[.pointer (some ⟨1, 60, none⟩)], .iface 80 (.agg #[.pointer (some ⟨1, 60, none⟩)])]).run Tryd.prog w = .ok (.bool true) w := by kernel_rfl
theorem valueOfE (n : Int) (w : World) : (ReflectliteValue.unpack (.iface 60 (.int .i64 n))).run Tryd.prog w
    = .ok (.agg #[.pointer (some ⟨1, 60, none⟩), .pointer (some ⟨w.heap.size, 0, none⟩), .int .u64 130]) (w.alloc (.cells #[.int .i64 n] 60)) := by kernel_rfl
theorem elemOfPE (w : World) : (Rtype.elem? 62).run Tryd.prog w = .ok (some 60) w := by kernel_rfl
theorem mkE (p : Addr) (w : World) : (ReflectliteValue.mk 60 p ReflectliteValue.flagAddr).run Tryd.prog w = .ok (.agg #[.pointer (some ⟨1, 60, none⟩), .pointer (some p), .int .u64 386]) w := by kernel_rfl
theorem elemVPE (a p : Addr) (W : World) (ha : W.cell? a = some (.pointer (some p))) :
    (ReflectliteValue.method (ReflectliteValue.valueError "reflectlite.Value.Elem" 0) ReflectliteValue.elem #[.agg #[.pointer (some ⟨1, 62, none⟩), .pointer (some a), .int .u64 150]]).run Tryd.prog W
      = .ok (.agg #[.pointer (some ⟨1, 60, none⟩), .pointer (some p), .int .u64 386]) W := by
  rw [rlm]
  simp only [Sem.run_bind, partsPE, Result.andThen]
  simp [ReflectliteValue.elem, loadVar, isAgg, underlying, Tryd.underlying62, ha, Result.andThen, elemOfPE, mkE]
theorem rls (v x : Value) : ReflectliteValue.set #[v, x] = (do
    let (some (dst, a, fl), some (src, b, _)) := (← ReflectliteValue.parts v, ← ReflectliteValue.parts x)
      | unsupported (.noEntry "extern/(internal/reflectlite.Value).Set.zeroValue")
    if fl / ReflectliteValue.flagAddr % 2 == 0 then unsupported (.noEntry "extern/(internal/reflectlite.Value).Set.unaddressable")
    let val ← loadVar src b
    if ← Rtype.directlyAssignable dst src then storeVar dst a val
    else if ← Rtype.implements dst src then
      if (← Rtype.kind src) == 20 then
        match val with
        | .nilIface => unsupported (.noEntry "extern/reflectlite: a nil value of one interface type handed on as a value of another")
        | _ => storeVar dst a val
      else storeVar dst a (.iface src val)
    else panicString ("reflectlite.Set: value of type " ++ (← Rtype.spelt src) ++ " is not assignable to type " ++ (← Rtype.spelt dst))
    pure (.tuple #[])) := rfl
theorem partsEa (a : Addr) (w : World) : (ReflectliteValue.parts (.agg #[.pointer (some ⟨1, 60, none⟩), .pointer (some a), .int .u64 386])).run Tryd.prog w = .ok (some (60, a, 386)) w := by kernel_rfl
theorem partsE (a : Addr) (w : World) : (ReflectliteValue.parts (.agg #[.pointer (some ⟨1, 60, none⟩), .pointer (some a), .int .u64 130])).run Tryd.prog w = .ok (some (60, a, 130)) w := by kernel_rfl
theorem directE (w : World) : (Rtype.directlyAssignable 60 60).run Tryd.prog w = .ok true w := by kernel_rfl
theorem setE (ta b : Addr) (n : Int) (old : Value) (W : World) (hb : W.cell? b = some (.int .i64 n)) (ht : W.cell? ta = some old) (hf : W.frozen? ta = false) :
    (ReflectliteValue.set #[.agg #[.pointer (some ⟨1, 60, none⟩), .pointer (some ta), .int .u64 386], .agg #[.pointer (some ⟨1, 60, none⟩), .pointer (some b), .int .u64 130]]).run Tryd.prog W
      = .ok (.tuple #[]) (W.setCell ta (.int .i64 n)) := by
  rw [rls]
  simp only [Sem.run_bind, partsEa, partsE, Result.andThen]
  simp [ReflectliteValue.flagAddr, loadVar, isAgg, underlying, Tryd.underlying60, hb, Result.andThen, directE, storeVar, Value.cells, storeCells, Addr.add]
  rw [run_store Tryd.prog W ta _ _ (by rfl)]
  simp [ht, hf]
/-- errors.as, the error an Errno, the target an Errno variable. -/
theorem as_hit (n : Int) (t a : Addr) (old : Value) (w : World) (ha : w.cell? a = some (.pointer (some t))) (ht0 : w.cell? t = some old) (hf0 : w.frozen? t = false) :
    Calls Tryd.prog 35 #[.iface 60 (.int .i64 n), .iface 62 (.pointer (some t)), .agg #[.pointer (some ⟨1, 62, none⟩), .pointer (some a), .int .u64 150], .iface 80 (.agg #[.pointer (some ⟨1, 60, none⟩)])] w
      fun ev w' => ev = .returned (.bool true) ∧ w' = ((w.alloc (.cells #[.pointer (some ⟨1, 62, none⟩), .pointer (some a), .int .u64 150] 69)).alloc (.cells #[.int .i64 n] 60)).setCell t (.int .i64 n) := by
  have hVO := @run_callFunc_extern Tryd.prog 32 _ (fun args => ReflectliteValue.unpack (args.getD 0 (.tuple #[]))) Tryd.func32 (by kernel_rfl) (by kernel_rfl) (by kernel_rfl) (by kernel_rfl)
  have hTO := @run_callFunc_extern Tryd.prog 36 _ ReflectliteType.typeOf Tryd.func36 (by kernel_rfl) (by kernel_rfl) (by kernel_rfl) (by kernel_rfl)
  have hAT := @run_callFunc_extern Tryd.prog 61 _ (ReflectliteType.relation "AssignableTo" ReflectliteType.assignableTo) Tryd.func61 (by kernel_rfl) (by kernel_rfl) (by kernel_rfl) (by kernel_rfl)
  have hVE := @run_callFunc_extern Tryd.prog 37 _ (ReflectliteValue.method (ReflectliteValue.valueError "reflectlite.Value.Elem" 0) ReflectliteValue.elem) Tryd.func37 (by kernel_rfl) (by kernel_rfl) (by kernel_rfl) (by kernel_rfl)
  have hVS := @run_callFunc_extern Tryd.prog 38 _ ReflectliteValue.set Tryd.func38 (by kernel_rfl) (by kernel_rfl) (by kernel_rfl) (by kernel_rfl)
  have tO := typeOfE
  have mA := methodAssignableTo
  have aE := assignableEE
  have vE := valueOfE
  have hal : a.block < w.heap.size := by
    rcases Nat.lt_or_ge a.block w.heap.size with h | h
    · exact h
    · simp [World.cell?, Array.getElem?_eq_none h] at ha
  have htl : t.block < w.heap.size := by
    rcases Nat.lt_or_ge t.block w.heap.size with h | h
    · exact h
    · simp [World.cell?, Array.getElem?_eq_none h] at ht0
  have el := elemVPE a t (w.alloc (.cells #[.pointer (some ⟨1, 62, none⟩), .pointer (some a), .int .u64 150] 69)) (by rw [World.cell?_alloc_lt _ _ a hal]; exact ha)
  have st := setE t ⟨w.heap.size + 1, 0, none⟩ n old ((w.alloc (.cells #[.pointer (some ⟨1, 62, none⟩), .pointer (some a), .int .u64 150] 69)).alloc (.cells #[.int .i64 n] 60))
    (by rw [World.cell?_alloc_at _ _ _ _ (by simp)]; rfl)
    (by rw [World.cell?_alloc_lt _ _ t (by simp; omega), World.cell?_alloc_lt _ _ t htl]; exact ht0)
    (by rw [World.frozen?_alloc_old _ _ t (by simp; omega), World.frozen?_alloc_old _ _ t (Nat.ne_of_lt htl)]; exact hf0)
  clear ha ht0 hf0
  go_enter Tryd.func35, Tryd.ntmps35
  go_wp2
  refine wp_loop_rounds 1 ?_
  rw [rounds_succ]
  go_wp2
  go_ret
  exact ⟨rfl, rfl⟩
/-- errors.As at an Errno variable, whatever errors.as answers. -/
theorem As_of (u : TypeId) (x : Value) (t : Addr) (w : World) (R : Bool → World → Prop) (hg : w.cell? ⟨0, 0, none⟩ = some (.iface 80 (.agg #[.pointer (some ⟨1, 38, none⟩)])))
    (h : Calls Tryd.prog 35 #[.iface u x, .iface 62 (.pointer (some t)), .agg #[.pointer (some ⟨1, 62, none⟩), .pointer (some ⟨w.heap.size, 0, none⟩), .int .u64 150], .iface 80 (.agg #[.pointer (some ⟨1, 60, none⟩)])]
      ((w.alloc (.cells #[.pointer (some t)] 62)).alloc (.cells #[.pointer (some ⟨1, 62, none⟩), .pointer (some ⟨w.heap.size, 0, none⟩), .int .u64 150] 69)) fun e w' => ∃ b, e = .returned (.bool b) ∧ R b w') :
    Calls Tryd.prog 29 #[.iface u x, .iface 62 (.pointer (some t))] w fun e w' => ∃ b, e = .returned (.bool b) ∧ R b w' := by
  have hVO := @run_callFunc_extern Tryd.prog 32 _ (fun args => ReflectliteValue.unpack (args.getD 0 (.tuple #[]))) Tryd.func32 (by kernel_rfl) (by kernel_rfl) (by kernel_rfl) (by kernel_rfl)
  have hVT := @run_callFunc_extern Tryd.prog 33 _ (ReflectliteValue.methodAny (ReflectliteValue.valueError "reflectlite.Value.Type" 0) (fun t _ _ _ => ReflectliteType.toType t)) Tryd.func33 (by kernel_rfl) (by kernel_rfl) (by kernel_rfl) (by kernel_rfl)
  have hIN := @run_callFunc_extern Tryd.prog 34 _ (ReflectliteValue.method (ReflectliteValue.valueError "reflectlite.Value.IsNil" 0) ReflectliteValue.isNil) Tryd.func34 (by kernel_rfl) (by kernel_rfl) (by kernel_rfl) (by kernel_rfl)
  have hK := @run_callFunc_extern Tryd.prog 53 _ (ReflectliteType.abiMethod fun t => do pure (.int .u8 (← Rtype.kind t))) Tryd.func53 (by kernel_rfl) (by kernel_rfl) (by kernel_rfl) (by kernel_rfl)
  have hRE := @run_callFunc_extern Tryd.prog 63 _ (ReflectliteType.method ReflectliteType.elem) Tryd.func63 (by kernel_rfl) (by kernel_rfl) (by kernel_rfl) (by kernel_rfl)
  have hIM := @run_callFunc_extern Tryd.prog 64 _ (ReflectliteType.relation "Implements" ReflectliteType.implements_) Tryd.func64 (by kernel_rfl) (by kernel_rfl) (by kernel_rfl) (by kernel_rfl)
  have f6 := valueOfPE
  have f7 := typePE
  have mK := methodKind
  have mE := methodElem
  have mI := methodImplements
  have kP := kindPE
  have kE := kindE
  have eP := elemPE
  have iE := implementsE
  have n8 := isNilPE ⟨w.heap.size, 0, none⟩ t ((w.alloc (.cells #[.pointer (some t)] 62)).alloc (.cells #[.pointer (some ⟨1, 62, none⟩), .pointer (some ⟨w.heap.size, 0, none⟩), .int .u64 150] 69)) (by simp)
  have hlt : 0 < w.heap.size := by
    rcases Nat.eq_zero_or_pos w.heap.size with h0 | h
    · simp [World.cell?, h0] at hg
    · exact h
  have hg2 : ((w.alloc (.cells #[.pointer (some t)] 62)).alloc (.cells #[.pointer (some ⟨1, 62, none⟩), .pointer (some ⟨w.heap.size, 0, none⟩), .int .u64 150] 69)).cell? ⟨0, 0, none⟩ = some (.iface 80 (.agg #[.pointer (some ⟨1, 38, none⟩)])) := by
    rw [World.cell?_alloc_lt _ _ ⟨0, 0, none⟩ (by simp), World.cell?_alloc_lt _ _ ⟨0, 0, none⟩ hlt]; exact hg
  clear hg
  have H := Lib.hid h
  clear h
  go_enter Tryd.func29, Tryd.ntmps29
  go_wp2_with ((go_at_call 35; refine H.out.mono ?_; rintro e w' ⟨b, rfl, hq⟩))
  go_ret
  exact ⟨b, rfl, hq⟩
theorem As_errno (n : Int) (t : Addr) (old : Value) (w : World) (hg : w.cell? ⟨0, 0, none⟩ = some (.iface 80 (.agg #[.pointer (some ⟨1, 38, none⟩)]))) (ht0 : w.cell? t = some old) (hf0 : w.frozen? t = false) :
    Calls Tryd.prog 29 #[.iface 60 (.int .i64 n), .iface 62 (.pointer (some t))] w fun e w' => ∃ b, e = .returned (.bool b) ∧ (b = true ∧ ∃ w1, Below w.heap.size w w1 ∧ w1.cell? t = some old ∧ w' = w1.setCell t (.int .i64 n)) := by
  refine As_of _ _ t w _ hg ((as_hit n t ⟨w.heap.size, 0, none⟩ old _ (by simp) ?_ ?_).mono ?_)
  · have htl : t.block < w.heap.size := by
      rcases Nat.lt_or_ge t.block w.heap.size with h | h
      · exact h
      · simp [World.cell?, Array.getElem?_eq_none h] at ht0
    rw [World.cell?_alloc_lt _ _ t (by simp; omega), World.cell?_alloc_lt _ _ t htl]; exact ht0
  · have htl : t.block < w.heap.size := by
      rcases Nat.lt_or_ge t.block w.heap.size with h | h
      · exact h
      · simp [World.cell?, Array.getElem?_eq_none h] at ht0
    rw [World.frozen?_alloc_old _ _ t (by simp; omega), World.frozen?_alloc_old _ _ t (Nat.ne_of_lt htl)]; exact hf0
  · rintro e w' ⟨rfl, rfl⟩
    have b4 : Below w.heap.size w ((((w.alloc (.cells #[.pointer (some t)] 62)).alloc (.cells #[.pointer (some ⟨1, 62, none⟩), .pointer (some ⟨w.heap.size, 0, none⟩), .int .u64 150] 69)).alloc (.cells #[.pointer (some ⟨1, 62, none⟩), .pointer (some ⟨w.heap.size, 0, none⟩), .int .u64 150] 69)).alloc (.cells #[.int .i64 n] 60)) :=
      ((((Below.refl _ _).alloc (Nat.le_refl _) _).alloc (by simp) _).alloc (by simp; omega) _).alloc (by simp; omega) _
    refine ⟨true, rfl, rfl, _, b4, ?_, rfl⟩
    have htl : t.block < w.heap.size := by
      rcases Nat.lt_or_ge t.block w.heap.size with h | h
      · exact h
      · simp [World.cell?, Array.getElem?_eq_none h] at ht0
    rw [b4.cell htl]; exact ht0
/-- api.Code of an Errno. -/
theorem code_errno (n : Int) (w : World) (hg : w.cell? ⟨0, 0, none⟩ = some (.iface 80 (.agg #[.pointer (some ⟨1, 38, none⟩)]))) :
    Calls Tryd.prog 16 #[.iface 60 (.int .i64 n)] w fun e w' => e = .returned (.int .i64 n) ∧ Below w.heap.size w w' := by
  have hlt : 0 < w.heap.size := by
    rcases Nat.eq_zero_or_pos w.heap.size with h0 | h
    · simp [World.cell?, h0] at hg
    · exact h
  have hgA : (w.alloc (.cells #[.int .i64 0] 60)).cell? ⟨0, 0, none⟩ = some (.iface 80 (.agg #[.pointer (some ⟨1, 38, none⟩)])) := by
    rw [World.cell?_alloc_lt _ _ ⟨0, 0, none⟩ hlt]; exact hg
  have H := Lib.hid (As_errno n ⟨w.heap.size, 0, none⟩ (.int .i64 0) _ hgA (by simp) (by simp))
  clear hg hgA
  go_enter Tryd.func16, Tryd.ntmps16
  go_wp2_with fail
  refine H.out.mono ?_
  rintro e w' ⟨b, rfl, rfl, w1, hb, ho, rfl⟩
  have hc : (w1.setCell ⟨w.heap.size, 0, none⟩ (.int .i64 n)).cell? ⟨w.heap.size, 0, none⟩ = some (.int .i64 n) := World.cell?_setCell_same' w1 _ _ (by rw [ho]; rfl)
  have HB := Lib.hid hb
  clear hb ho H
  go_wp2
  go_ret
  exact ⟨rfl, (((Below.refl _ _).alloc (Nat.le_refl _) _).trans (HB.out.mono (by simp))).setCell (by simp) _⟩
theorem code_nil (w : World) : Calls Tryd.prog 16 #[.nilIface] w fun e w' => e = .returned (.int .i64 0) ∧ Below w.heap.size w w' := by
  go_enter Tryd.func16, Tryd.ntmps16
  go_wp2
  go_ret
  exact ⟨rfl, (Below.refl _ _).alloc (Nat.le_refl _) _⟩
end AsW
end Go.Proofs.YtpedilhijdjeoaaDoor
namespace Go.Proofs.YtpedilhijdjeoaaDoor
open Go Sx Go.RowKit
set_option maxRecDepth 100000
namespace AsW
theorem errAt {ow : Own} {w : World} (h : Glob Tryd.prog ow w) : w.cell? ⟨0, 0, none⟩ = some (.iface 80 (.agg #[.pointer (some ⟨1, 38, none⟩)])) := by
  have := globErr h (show Tryd.prog.globalNamed "errors.errorType" = some 0 by kernel_rfl) (show (Tryd.prog.cutTypes.find? (·.1 == "internal/reflectlite.rtype")).map (·.2) = some 80 by kernel_rfl)
    (show (List.range Tryd.prog.types.size).find? (fun t => Tryd.prog.rowNamed t [101, 114, 114, 111, 114]) = some 38 by kernel_rfl)
  rw [this, show typeHandle Tryd.prog 38 = .pointer (some ⟨1, 38, none⟩) by kernel_rfl]
theorem enterCode : Entered Tryd.prog 16 := ⟨Tryd.f16, Tryd.func16, by kernel_rfl, by kernel_rfl⟩
end AsW
theorem code_nil_c : Ctr Tryd.prog 16 [] [.nilif] fun v H => v = .int .i64 (.lit 0) ∧ H = [] := by
  refine Ctr.of_below AsW.enterCode fun w r vals hg hgl hv => ?_
  obtain ⟨x, rfl, hx⟩ := vrelL_one hv
  simp only [VRel] at hx
  subst hx
  exact (AsW.code_nil w).mono fun e w' ⟨h1, h2⟩ => ⟨_, h1, rfl, h2⟩
theorem code_c (n : Iv) : Ctr Tryd.prog 16 [] [.iface 60 (.int .i64 n)] fun v H => v = .int .i64 (.sym n.val) ∧ H = [] := by
  refine Ctr.of_below AsW.enterCode fun w r vals hg hgl hv => ?_
  obtain ⟨x, rfl, hx⟩ := vrelL_one hv
  simp only [VRel] at hx
  obtain ⟨u, rfl, rfl⟩ := hx
  exact (AsW.code_errno n.val w (AsW.errAt hgl)).mono fun e w' ⟨h1, h2⟩ => ⟨_, h1, rfl, h2⟩
end Go.Proofs.YtpedilhijdjeoaaDoor
set_option linter.unusedVariables false
set_option linter.unusedSimpArgs false
namespace Sx
open Go
set_option maxRecDepth 100000
/-! DES on rows of bits (the highest first): what is computed, no program in sight. -/
def ofBits (l : List Int) : Int := l.foldl (fun a b => 2 * a + b) 0
def toBits (n : Nat) (x : Int) : List Int := (List.range n).map fun i => x / 2 ^ (n - 1 - i) % 2
def Bit01 (l : List Int) : Prop := ∀ b ∈ l, b = 0 ∨ b = 1
theorem foldl_bits (l : List Int) : ∀ a : Int, l.foldl (fun a b => 2 * a + b) a = a * 2 ^ l.length + ofBits l := by
  induction l with
  | nil => intro a; simp [ofBits]
  | cons b l ih =>
    intro a
    have h1 := ih (2 * a + b)
    have h2 := ih (2 * 0 + b)
    show l.foldl (fun a b => 2 * a + b) (2 * a + b) = a * 2 ^ (l.length + 1) + l.foldl (fun a b => 2 * a + b) (2 * 0 + b)
    rw [h1, h2, Int.pow_succ, Int.add_mul, Int.add_mul]
    have e : 2 * a * 2 ^ l.length = a * (2 ^ l.length * 2) := by rw [Int.mul_comm 2 a, Int.mul_assoc, Int.mul_comm 2 (2 ^ l.length)]
    rw [e]
    omega
theorem ofBits_nil : ofBits [] = 0 := rfl
theorem ofBits_cons (b : Int) (l : List Int) : ofBits (b :: l) = b * 2 ^ l.length + ofBits l := by
  rw [ofBits, List.foldl_cons, foldl_bits]; simp
theorem ofBits_append (l m : List Int) : ofBits (l ++ m) = ofBits l * 2 ^ m.length + ofBits m := by
  rw [ofBits, List.foldl_append, foldl_bits]; rfl
theorem ofBits_snoc (l : List Int) (b : Int) : ofBits (l ++ [b]) = 2 * ofBits l + b := by
  rw [ofBits_append]; simp [ofBits]; omega
theorem Bit01.app {l m : List Int} (h : Bit01 l) (k : Bit01 m) : Bit01 (l ++ m) := fun b hb => by
  rcases List.mem_append.1 hb with hb | hb
  · exact h b hb
  · exact k b hb
theorem Bit01.left {l m : List Int} (h : Bit01 (l ++ m)) : Bit01 l := fun b hb => h b (List.mem_append_left _ hb)
theorem Bit01.right {l m : List Int} (h : Bit01 (l ++ m)) : Bit01 m := fun b hb => h b (List.mem_append_right _ hb)
theorem Bit01.take {l : List Int} (h : Bit01 l) (n : Nat) : Bit01 (l.take n) := fun b hb => h b (List.mem_of_mem_take hb)
theorem Bit01.drop {l : List Int} (h : Bit01 l) (n : Nat) : Bit01 (l.drop n) := fun b hb => h b (List.mem_of_mem_drop hb)
theorem Bit01.get {l : List Int} (h : Bit01 l) (i : Nat) : l.getD i 0 = 0 ∨ l.getD i 0 = 1 := by
  by_cases hi : i < l.length
  · rw [List.getD_eq_getElem?_getD, List.getElem?_eq_getElem hi]; exact h _ (List.getElem_mem hi)
  · rw [List.getD_eq_getElem?_getD, List.getElem?_eq_none (by omega)]; exact .inl rfl
theorem bit01_map (n : Nat) {f : Nat → Int} (h : ∀ i, i < n → f i = 0 ∨ f i = 1) : Bit01 ((List.range n).map f) := fun b hb => by
  obtain ⟨i, hi, rfl⟩ := List.mem_map.1 hb
  exact h i (List.mem_range.1 hi)
theorem rmap_get (f : Nat → Int) {n i : Nat} (hi : i < n) : ((List.range n).map f).getD i 0 = f i := by
  rw [List.getD_eq_getElem?_getD, List.getElem?_map, List.getElem?_range hi]; rfl
theorem rmap_eq {l : List Int} {n : Nat} (h : l.length = n) {f : Nat → Int} (hf : ∀ i, i < n → f i = l.getD i 0) : (List.range n).map f = l := by
  refine list_eq_of_get (by simp [h]) fun i hi => ?_
  have : i < n := by simpa using hi
  rw [rmap_get f this, hf i this]
theorem toBits_length (n : Nat) (x : Int) : (toBits n x).length = n := by simp [toBits]
theorem toBits_01 (n : Nat) (x : Int) : Bit01 (toBits n x) := bit01_map n fun i _ => by omega
theorem ofBits_lt : ∀ {l : List Int}, Bit01 l → 0 ≤ ofBits l ∧ ofBits l < 2 ^ l.length
  | [], _ => by simp [ofBits]
  | b :: l, h => by
    have ih := ofBits_lt (l := l) fun x hx => h x (List.mem_cons_of_mem _ hx)
    have hb := h b List.mem_cons_self
    rw [ofBits_cons, List.length_cons, Int.pow_succ]
    rcases hb with rfl | rfl <;> omega
/-- Bits in the middle. -/
theorem ofBits_mid {l : List Int} (h : Bit01 l) (i k : Nat) (hk : i + k ≤ l.length) : ofBits l / 2 ^ (l.length - i - k) % 2 ^ k = ofBits ((l.drop i).take k) := by
  have e : l = l.take i ++ ((l.drop i).take k ++ (l.drop i).drop k) := by rw [List.take_append_drop, List.take_append_drop]
  have h1 : ((l.drop i).take k).length = k := by rw [List.length_take, List.length_drop]; omega
  have h2 : ((l.drop i).drop k).length = l.length - i - k := by rw [List.length_drop, List.length_drop]
  have b1 := ofBits_lt ((h.drop i).take k)
  have b2 := ofBits_lt ((h.drop i).drop k)
  rw [h1] at b1
  rw [h2] at b2
  have e2 : ofBits l = ofBits (l.take i) * 2 ^ (k + (l.length - i - k)) + (ofBits ((l.drop i).take k) * 2 ^ (l.length - i - k) + ofBits ((l.drop i).drop k)) := by
    conv => lhs; rw [e]
    rw [ofBits_append, ofBits_append, List.length_append, h1, h2]
  rw [e2, Int.pow_add]
  generalize ofBits (l.take i) = A at *
  generalize ofBits ((l.drop i).take k) = B at *
  generalize ofBits ((l.drop i).drop k) = C at *
  have hp : (0 : Int) < 2 ^ (l.length - i - k) := Int.pow_pos (by decide)
  generalize (2 : Int) ^ (l.length - i - k) = Q at *
  have e3 : A * (2 ^ k * Q) + (B * Q + C) = (A * 2 ^ k + B) * Q + C := by rw [Int.add_mul, Int.mul_assoc]; omega
  rw [e3, Int.add_comm, Int.add_mul_ediv_right _ _ (by omega), Int.ediv_eq_zero_of_lt b2.1 b2.2, Int.zero_add, Int.add_comm, Int.add_mul_emod_self_right, Int.emod_eq_of_lt b1.1 b1.2]
theorem toBits_ofBits {l : List Int} (h : Bit01 l) {n : Nat} (hn : n = l.length) : toBits n (ofBits l) = l := by
  subst hn
  refine rmap_eq rfl fun i hi => ?_
  have := ofBits_mid h i 1 (by omega)
  rw [show (2 : Int) ^ 1 = 2 from rfl] at this
  rw [show l.length - 1 - i = l.length - i - 1 by omega, this]
  rw [List.take_one, List.head?_drop, List.getElem?_eq_getElem hi, List.getD_eq_getElem?_getD, List.getElem?_eq_getElem hi]
  simp [ofBits]
theorem toBits_succ (n : Nat) (x : Int) : toBits (n + 1) x = x / 2 ^ n % 2 :: toBits n x := by
  rw [toBits, List.range_succ_eq_map, List.map_cons, List.map_map]
  congr 1
  refine List.map_congr_left fun i hi => ?_
  have := List.mem_range.1 hi
  show x / 2 ^ (n + 1 - 1 - (i + 1)) % 2 = x / 2 ^ (n - 1 - i) % 2
  rw [show n + 1 - 1 - (i + 1) = n - 1 - i by omega]
theorem ofBits_toBits_mod : ∀ (n : Nat) (x : Int), ofBits (toBits n x) = x % 2 ^ n
  | 0, x => by simp [toBits, ofBits]
  | n + 1, x => by
    rw [toBits_succ, ofBits_cons, toBits_length, ofBits_toBits_mod n x, Int.pow_succ]
    have hp : (0 : Int) < 2 ^ n := Int.pow_pos (by decide)
    have h1 := Int.emod_add_mul_ediv x (2 ^ n)
    have h2 := Int.emod_add_mul_ediv x (2 ^ n * 2)
    have h3 : x / (2 ^ n * 2) = x / 2 ^ n / 2 := by rw [Int.ediv_ediv_of_nonneg (by omega)]
    have h4 := Int.emod_add_mul_ediv (x / 2 ^ n) 2
    rw [h3] at h2
    generalize x / 2 ^ n / 2 = z at *
    generalize x / 2 ^ n % 2 = b at *
    generalize x / 2 ^ n = y at *
    generalize (2 : Int) ^ n = q at *
    subst h4
    have : q * (b + 2 * z) = b * q + q * 2 * z := by rw [Int.mul_add, Int.mul_comm q b, Int.mul_assoc]
    omega
theorem ofBits_toBits {n : Nat} {x : Int} (h0 : 0 ≤ x) (h1 : x < 2 ^ n) : ofBits (toBits n x) = x := by
  rw [ofBits_toBits_mod, Int.emod_eq_of_lt h0 h1]
theorem toBits_mod (n : Nat) (x : Int) : toBits n (x % 2 ^ n) = toBits n x := by
  rw [← ofBits_toBits_mod, toBits_ofBits (toBits_01 n x) (toBits_length n x).symm]
theorem toBits_inj {n : Nat} {x y : Int} (hx : 0 ≤ x ∧ x < 2 ^ n) (hy : 0 ≤ y ∧ y < 2 ^ n) (h : toBits n x = toBits n y) : x = y := by
  rw [← ofBits_toBits hx.1 hx.2, h, ofBits_toBits hy.1 hy.2]
theorem ofBits_inj {l m : List Int} (hl : Bit01 l) (hm : Bit01 m) (e : l.length = m.length) (h : ofBits l = ofBits m) : l = m := by
  rw [← toBits_ofBits hl rfl, ← toBits_ofBits hm rfl, h, e]
/-! ## The parts -/
def tabIP : List Int := [58, 50, 42, 34, 26, 18, 10, 2, 60, 52, 44, 36, 28, 20, 12, 4, 62, 54, 46, 38, 30, 22, 14, 6, 64, 56, 48, 40, 32, 24, 16, 8, 57, 49, 41, 33, 25, 17, 9, 1, 59, 51, 43, 35, 27, 19, 11, 3, 61, 53, 45, 37, 29, 21, 13, 5, 63, 55, 47, 39, 31, 23, 15, 7]
def tabP : List Int := [16, 7, 20, 21, 29, 12, 28, 17, 1, 15, 23, 26, 5, 18, 31, 10, 2, 8, 24, 14, 32, 27, 3, 9, 19, 13, 30, 6, 22, 11, 4, 25]
def tabPC1 : List Int := [57, 49, 41, 33, 25, 17, 9, 1, 58, 50, 42, 34, 26, 18, 10, 2, 59, 51, 43, 35, 27, 19, 11, 3, 60, 52, 44, 36, 63, 55, 47, 39, 31, 23, 15, 7, 62, 54, 46, 38, 30, 22, 14, 6, 61, 53, 45, 37, 29, 21, 13, 5, 28, 20, 12, 4]
def tabPC2 : List Int := [14, 17, 11, 24, 1, 5, 3, 28, 15, 6, 21, 10, 23, 19, 12, 4, 26, 8, 16, 7, 27, 20, 13, 2, 41, 52, 31, 37, 47, 55, 30, 40, 51, 45, 33, 48, 44, 49, 39, 56, 34, 53, 46, 42, 50, 36, 29, 32]
def boxes : List (List Int) := [[14, 4, 13, 1, 2, 15, 11, 8, 3, 10, 6, 12, 5, 9, 0, 7, 0, 15, 7, 4, 14, 2, 13, 1, 10, 6, 12, 11, 9, 5, 3, 8, 4, 1, 14, 8, 13, 6, 2, 11, 15, 12, 9, 7, 3, 10, 5, 0, 15, 12, 8, 2, 4, 9, 1, 7, 5, 11, 3, 14, 10, 0, 6, 13],
  [15, 1, 8, 14, 6, 11, 3, 4, 9, 7, 2, 13, 12, 0, 5, 10, 3, 13, 4, 7, 15, 2, 8, 14, 12, 0, 1, 10, 6, 9, 11, 5, 0, 14, 7, 11, 10, 4, 13, 1, 5, 8, 12, 6, 9, 3, 2, 15, 13, 8, 10, 1, 3, 15, 4, 2, 11, 6, 7, 12, 0, 5, 14, 9],
  [10, 0, 9, 14, 6, 3, 15, 5, 1, 13, 12, 7, 11, 4, 2, 8, 13, 7, 0, 9, 3, 4, 6, 10, 2, 8, 5, 14, 12, 11, 15, 1, 13, 6, 4, 9, 8, 15, 3, 0, 11, 1, 2, 12, 5, 10, 14, 7, 1, 10, 13, 0, 6, 9, 8, 7, 4, 15, 14, 3, 11, 5, 2, 12],
  [7, 13, 14, 3, 0, 6, 9, 10, 1, 2, 8, 5, 11, 12, 4, 15, 13, 8, 11, 5, 6, 15, 0, 3, 4, 7, 2, 12, 1, 10, 14, 9, 10, 6, 9, 0, 12, 11, 7, 13, 15, 1, 3, 14, 5, 2, 8, 4, 3, 15, 0, 6, 10, 1, 13, 8, 9, 4, 5, 11, 12, 7, 2, 14],
  [2, 12, 4, 1, 7, 10, 11, 6, 8, 5, 3, 15, 13, 0, 14, 9, 14, 11, 2, 12, 4, 7, 13, 1, 5, 0, 15, 10, 3, 9, 8, 6, 4, 2, 1, 11, 10, 13, 7, 8, 15, 9, 12, 5, 6, 3, 0, 14, 11, 8, 12, 7, 1, 14, 2, 13, 6, 15, 0, 9, 10, 4, 5, 3],
  [12, 1, 10, 15, 9, 2, 6, 8, 0, 13, 3, 4, 14, 7, 5, 11, 10, 15, 4, 2, 7, 12, 9, 5, 6, 1, 13, 14, 0, 11, 3, 8, 9, 14, 15, 5, 2, 8, 12, 3, 7, 0, 4, 10, 1, 13, 11, 6, 4, 3, 2, 12, 9, 5, 15, 10, 11, 14, 1, 7, 6, 0, 8, 13],
  [4, 11, 2, 14, 15, 0, 8, 13, 3, 12, 9, 7, 5, 10, 6, 1, 13, 0, 11, 7, 4, 9, 1, 10, 14, 3, 5, 12, 2, 15, 8, 6, 1, 4, 11, 13, 12, 3, 7, 14, 10, 15, 6, 8, 0, 5, 9, 2, 6, 11, 13, 8, 1, 4, 10, 7, 9, 5, 0, 15, 14, 2, 3, 12],
  [13, 2, 8, 4, 6, 15, 11, 1, 10, 9, 3, 14, 5, 0, 12, 7, 1, 15, 13, 8, 10, 3, 7, 4, 12, 5, 6, 11, 0, 14, 9, 2, 7, 11, 4, 1, 9, 12, 14, 2, 0, 6, 10, 13, 15, 3, 5, 8, 2, 1, 14, 7, 4, 10, 8, 13, 15, 12, 9, 0, 3, 5, 6, 11]]
def boxS : List ByteArray := [⟨#[101, 52, 100, 49, 50, 102, 98, 56, 51, 97, 54, 99, 53, 57, 48, 55, 48, 102, 55, 52, 101, 50, 100, 49, 97, 54, 99, 98, 57, 53, 51, 56, 52, 49, 101, 56, 100, 54, 50, 98, 102, 99, 57, 55, 51, 97, 53, 48, 102, 99, 56, 50, 52, 57, 49, 55, 53, 98, 51, 101, 97, 48, 54, 100]⟩,
  ⟨#[102, 49, 56, 101, 54, 98, 51, 52, 57, 55, 50, 100, 99, 48, 53, 97, 51, 100, 52, 55, 102, 50, 56, 101, 99, 48, 49, 97, 54, 57, 98, 53, 48, 101, 55, 98, 97, 52, 100, 49, 53, 56, 99, 54, 57, 51, 50, 102, 100, 56, 97, 49, 51, 102, 52, 50, 98, 54, 55, 99, 48, 53, 101, 57]⟩,
  ⟨#[97, 48, 57, 101, 54, 51, 102, 53, 49, 100, 99, 55, 98, 52, 50, 56, 100, 55, 48, 57, 51, 52, 54, 97, 50, 56, 53, 101, 99, 98, 102, 49, 100, 54, 52, 57, 56, 102, 51, 48, 98, 49, 50, 99, 53, 97, 101, 55, 49, 97, 100, 48, 54, 57, 56, 55, 52, 102, 101, 51, 98, 53, 50, 99]⟩,
  ⟨#[55, 100, 101, 51, 48, 54, 57, 97, 49, 50, 56, 53, 98, 99, 52, 102, 100, 56, 98, 53, 54, 102, 48, 51, 52, 55, 50, 99, 49, 97, 101, 57, 97, 54, 57, 48, 99, 98, 55, 100, 102, 49, 51, 101, 53, 50, 56, 52, 51, 102, 48, 54, 97, 49, 100, 56, 57, 52, 53, 98, 99, 55, 50, 101]⟩,
  ⟨#[50, 99, 52, 49, 55, 97, 98, 54, 56, 53, 51, 102, 100, 48, 101, 57, 101, 98, 50, 99, 52, 55, 100, 49, 53, 48, 102, 97, 51, 57, 56, 54, 52, 50, 49, 98, 97, 100, 55, 56, 102, 57, 99, 53, 54, 51, 48, 101, 98, 56, 99, 55, 49, 101, 50, 100, 54, 102, 48, 57, 97, 52, 53, 51]⟩,
  ⟨#[99, 49, 97, 102, 57, 50, 54, 56, 48, 100, 51, 52, 101, 55, 53, 98, 97, 102, 52, 50, 55, 99, 57, 53, 54, 49, 100, 101, 48, 98, 51, 56, 57, 101, 102, 53, 50, 56, 99, 51, 55, 48, 52, 97, 49, 100, 98, 54, 52, 51, 50, 99, 57, 53, 102, 97, 98, 101, 49, 55, 54, 48, 56, 100]⟩,
  ⟨#[52, 98, 50, 101, 102, 48, 56, 100, 51, 99, 57, 55, 53, 97, 54, 49, 100, 48, 98, 55, 52, 57, 49, 97, 101, 51, 53, 99, 50, 102, 56, 54, 49, 52, 98, 100, 99, 51, 55, 101, 97, 102, 54, 56, 48, 53, 57, 50, 54, 98, 100, 56, 49, 52, 97, 55, 57, 53, 48, 102, 101, 50, 51, 99]⟩,
  ⟨#[100, 50, 56, 52, 54, 102, 98, 49, 97, 57, 51, 101, 53, 48, 99, 55, 49, 102, 100, 56, 97, 51, 55, 52, 99, 53, 54, 98, 48, 101, 57, 50, 55, 98, 52, 49, 57, 99, 101, 50, 48, 54, 97, 100, 102, 51, 53, 56, 50, 49, 101, 55, 52, 97, 56, 100, 102, 99, 57, 48, 51, 53, 54, 98]⟩]
def permB (l tab : List Int) : List Int := tab.map fun n => l.getD (n - 1).toNat 0
def rotB (l : List Int) (n : Nat) : List Int := l.drop n ++ l.take n
def rotN (r : Nat) : Nat := if r = 0 ∨ r = 1 ∨ r = 8 ∨ r = 15 then 1 else 2
def cdN (c d : List Int) : Nat → List Int × List Int
  | 0 => (c, d)
  | r + 1 => (rotB (cdN c d r).1 (rotN r), rotB (cdN c d r).2 (rotN r))
/-- Round key r of a key's 64 bits. -/
def keyB (l : List Int) (r : Nat) : List Int :=
  let s := cdN ((permB l tabPC1).take 28) ((permB l tabPC1).drop 28) (r + 1)
  permB (s.1 ++ s.2) tabPC2
def xorB (l m : List Int) : List Int := (List.range l.length).map fun i => (l.getD i 0 + m.getD i 0) % 2
def sixB (h k : List Int) (i : Nat) : List Int := (List.range 6).map fun j => (h.getD ((4 * i + j + 31) % 32) 0 + k.getD (6 * i + j) 0) % 2
def sixI (s : List Int) : Int := 16 * (2 * s.getD 0 0 + s.getD 5 0) + (8 * s.getD 1 0 + 4 * s.getD 2 0 + 2 * s.getD 3 0 + s.getD 4 0)
def boxV (i : Nat) (s : List Int) : Int := (boxes.getD i []).getD (sixI s).toNat 0
def outB (h k : List Int) (n : Nat) : List Int := (List.range n).flatMap fun i => toBits 4 (boxV i (sixB h k i))
def mixB (h k : List Int) : List Int := permB (outB h k 8) tabP
def feist (K : Nat → List Int) (s : List Int × List Int) : Nat → List Int × List Int
  | 0 => s
  | r + 1 => ((feist K s r).2, xorB (feist K s r).1 (mixB (feist K s r).2 (K r)))
def backIP (p : Nat) : Nat := tabIP.idxOf ((p : Int) + 1)
def unpermB (l : List Int) : List Int := (List.range 64).map fun p => l.getD (backIP p) 0
def blockB (K : Nat → List Int) (b : List Int) : List Int :=
  let s := feist K ((permB b tabIP).take 32, (permB b tabIP).drop 32) 16
  unpermB (s.2 ++ s.1)
def revK (K : Nat → List Int) (r : Nat) : List Int := K (15 - r)
/-- Bytes and bits. -/
def bitsOf (bs : List Int) : List Int := bs.flatMap (toBits 8)
def bytesOf (l : List Int) (n : Nat) : List Int := (List.range n).map fun i => ofBits ((l.drop (8 * i)).take 8)
/-! ## That it is undone -/
theorem ip_all : ((List.range 64).all fun i => decide (backIP ((tabIP.getD i 0) - 1).toNat = i ∧ 1 ≤ tabIP.getD i 0 ∧ tabIP.getD i 0 ≤ 64 ∧ backIP i < 64 ∧ ((tabIP.getD (backIP i) 0) - 1).toNat = i)) = true := by kernel_rfl
theorem ip_at {i : Nat} (h : i < 64) : backIP ((tabIP.getD i 0) - 1).toNat = i ∧ 1 ≤ tabIP.getD i 0 ∧ tabIP.getD i 0 ≤ 64 ∧ backIP i < 64 ∧ ((tabIP.getD (backIP i) 0) - 1).toNat = i :=
  of_decide_eq_true (List.all_eq_true.1 ip_all i (List.mem_range.2 h))
theorem permB_length (l tab : List Int) : (permB l tab).length = tab.length := by simp [permB]
theorem permB_01 {l : List Int} (h : Bit01 l) (tab : List Int) : Bit01 (permB l tab) := fun b hb => by
  obtain ⟨n, _, rfl⟩ := List.mem_map.1 hb
  exact h.get _
theorem permB_get (l tab : List Int) {i : Nat} (h : i < tab.length) : (permB l tab).getD i 0 = l.getD (tab.getD i 0 - 1).toNat 0 := by
  simp [permB, List.getD_eq_getElem?_getD, List.getElem?_map, List.getElem?_eq_getElem h]
theorem unpermB_length (l : List Int) : (unpermB l).length = 64 := by simp [unpermB]
theorem unpermB_01 {l : List Int} (h : Bit01 l) : Bit01 (unpermB l) := bit01_map 64 fun i _ => h.get _
theorem unperm_perm {l : List Int} (h : l.length = 64) : unpermB (permB l tabIP) = l := by
  refine rmap_eq h fun i hi => ?_
  have := ip_at hi
  rw [permB_get _ _ (by exact this.2.2.2.1), this.2.2.2.2]
theorem perm_unperm {l : List Int} (h : l.length = 64) : permB (unpermB l) tabIP = l := by
  refine list_eq_of_get (by rw [permB_length, h]; rfl) fun i hi => ?_
  rw [permB_length] at hi
  have hi' : i < 64 := hi
  have := ip_at hi'
  rw [permB_get _ _ hi, unpermB, rmap_get _ (by omega), this.1]
theorem xorB_length (l m : List Int) : (xorB l m).length = l.length := by simp [xorB]
theorem xorB_01 (l m : List Int) : Bit01 (xorB l m) := bit01_map _ fun i _ => by omega
theorem xorB_get (l m : List Int) {i : Nat} (h : i < l.length) : (xorB l m).getD i 0 = (l.getD i 0 + m.getD i 0) % 2 := rmap_get _ h
theorem xor_xorB {l : List Int} (h : Bit01 l) (m : List Int) : xorB (xorB l m) m = l := by
  refine list_eq_of_get (by rw [xorB_length, xorB_length]) fun i hi => ?_
  rw [xorB_length, xorB_length] at hi
  rw [xorB_get _ _ (by rw [xorB_length]; exact hi), xorB_get _ _ hi]
  rcases h.get i with e | e <;> rw [e] <;> omega
structure Halves (s : List Int × List Int) : Prop where
  l1 : s.1.length = 32
  l2 : s.2.length = 32
  b1 : Bit01 s.1
  b2 : Bit01 s.2
theorem feist_halves (K : Nat → List Int) {s : List Int × List Int} (h : Halves s) : ∀ r, Halves (feist K s r)
  | 0 => h
  | r + 1 => by
    have ih := feist_halves K h r
    exact ⟨ih.l2, (xorB_length _ _).trans ih.l1, ih.b2, xorB_01 _ _⟩
def swapP (s : List Int × List Int) : List Int × List Int := (s.2, s.1)
theorem feist_back (K : Nat → List Int) {s : List Int × List Int} (h : Halves s) : ∀ j, j ≤ 16 → feist (revK K) (swapP (feist K s 16)) j = swapP (feist K s (16 - j))
  | 0, _ => rfl
  | j + 1, hj => by
    have ih := feist_back K h j (by omega)
    obtain ⟨m, hm⟩ : ∃ m, 16 - j = m + 1 := ⟨15 - j, by omega⟩
    have hm2 : 16 - (j + 1) = m := by omega
    have hk : revK K j = K m := by rw [revK]; congr 1; omega
    rw [feist, ih, hk, hm, hm2]
    show (_, _) = _
    simp only [swapP, feist]
    rw [xor_xorB (feist_halves K h m).b1]
theorem halves_of {b : List Int} (hb : Bit01 b) (h : b.length = 64) : Halves (b.take 32, b.drop 32) := ⟨by simp [h], by simp [h], hb.take _, hb.drop _⟩
theorem blockB_length (K : Nat → List Int) (b : List Int) : (blockB K b).length = 64 := unpermB_length _
theorem blockB_01 (K : Nat → List Int) {b : List Int} (hb : Bit01 b) (h : b.length = 64) : Bit01 (blockB K b) := by
  have hh := feist_halves K (halves_of (permB_01 hb tabIP) (permB_length _ _)) 16
  exact unpermB_01 (hh.b2.app hh.b1)
theorem block_back (K : Nat → List Int) {b : List Int} (hb : Bit01 b) (h : b.length = 64) : blockB (revK K) (blockB K b) = b := by
  have h0 : Halves ((permB b tabIP).take 32, (permB b tabIP).drop 32) := halves_of (permB_01 hb tabIP) (permB_length _ _)
  have hh := feist_halves K h0 16
  have hl : ((feist K ((permB b tabIP).take 32, (permB b tabIP).drop 32) 16).2 ++ (feist K ((permB b tabIP).take 32, (permB b tabIP).drop 32) 16).1).length = 64 := by
    rw [List.length_append, hh.l1, hh.l2]
  have hs := feist_back K h0 16 (by omega)
  have e : feist K ((permB b tabIP).take 32, (permB b tabIP).drop 32) (16 - 16) = ((permB b tabIP).take 32, (permB b tabIP).drop 32) := rfl
  rw [e] at hs
  rw [blockB, blockB, perm_unperm hl, List.take_left' hh.l2, List.drop_left' hh.l2]
  have hs' : feist (revK K) ((feist K ((permB b tabIP).take 32, (permB b tabIP).drop 32) 16).2, (feist K ((permB b tabIP).take 32, (permB b tabIP).drop 32) 16).1) 16 = ((permB b tabIP).drop 32, (permB b tabIP).take 32) := hs
  rw [hs']
  show unpermB ((permB b tabIP).take 32 ++ (permB b tabIP).drop 32) = b
  rw [List.take_append_drop, unperm_perm h]
theorem rev_rev_at (K : Nat → List Int) (r : Nat) (h : r < 16) : revK (revK K) r = K r := by
  rw [revK, revK]; congr 1; omega
theorem feist_congr {K L : Nat → List Int} (s : List Int × List Int) : ∀ n, (∀ r, r < n → K r = L r) → feist K s n = feist L s n
  | 0, _ => rfl
  | n + 1, h => by rw [feist, feist, feist_congr s n fun r hr => h r (by omega), h n (by omega)]
theorem blockB_congr {K L : Nat → List Int} (b : List Int) (h : ∀ r, r < 16 → K r = L r) : blockB K b = blockB L b := by
  rw [blockB, blockB, feist_congr _ 16 h]
theorem block_there (K : Nat → List Int) {b : List Int} (hb : Bit01 b) (h : b.length = 64) : blockB K (blockB (revK K) b) = b := by
  have := block_back (revK K) hb h
  rwa [blockB_congr (L := K) _ fun r hr => rev_rev_at K r hr] at this
/-! ## All bits turned -/
def comp (l : List Int) : List Int := l.map fun b => 1 - b
theorem comp_length (l : List Int) : (comp l).length = l.length := by simp [comp]
theorem comp_get (l : List Int) {i : Nat} (h : i < l.length) : (comp l).getD i 0 = 1 - l.getD i 0 := by
  simp [comp, List.getD_eq_getElem?_getD, List.getElem?_map, List.getElem?_eq_getElem h]
theorem comp_append (l m : List Int) : comp (l ++ m) = comp l ++ comp m := by simp [comp]
theorem comp_take (l : List Int) (n : Nat) : comp (l.take n) = (comp l).take n := by simp [comp, List.map_take]
theorem comp_drop (l : List Int) (n : Nat) : comp (l.drop n) = (comp l).drop n := by simp [comp, List.map_drop]
theorem comp_01 {l : List Int} (h : Bit01 l) : Bit01 (comp l) := fun b hb => by
  obtain ⟨a, ha, rfl⟩ := List.mem_map.1 hb
  rcases h a ha with rfl | rfl <;> simp
theorem comp_rot (l : List Int) (n : Nat) : rotB (comp l) n = comp (rotB l n) := by
  rw [rotB, rotB, comp_append, comp_take, comp_drop]
theorem comp_cd (c d : List Int) : ∀ r, cdN (comp c) (comp d) r = (comp (cdN c d r).1, comp (cdN c d r).2)
  | 0 => rfl
  | r + 1 => by
    show (rotB (cdN (comp c) (comp d) r).1 (rotN r), rotB (cdN (comp c) (comp d) r).2 (rotN r)) = (comp (rotB (cdN c d r).1 (rotN r)), comp (rotB (cdN c d r).2 (rotN r)))
    rw [comp_cd c d r]
    simp only [comp_rot]
def TabIn (tab : List Int) (n : Nat) : Prop := ∀ x ∈ tab, 1 ≤ x ∧ x ≤ n
theorem comp_perm {l tab : List Int} (h : TabIn tab l.length) : permB (comp l) tab = comp (permB l tab) := by
  rw [permB, permB, comp, comp, List.map_map]
  refine List.map_congr_left fun n hn => ?_
  have := h n hn
  exact comp_get l (by omega)
theorem rotB_length (l : List Int) {n : Nat} : (rotB l n).length = l.length := by
  rw [rotB, List.length_append, List.length_drop, List.length_take]; omega
theorem rotB_01 {l : List Int} (h : Bit01 l) (n : Nat) : Bit01 (rotB l n) := (h.drop n).app (h.take n)
theorem cdN_length (c d : List Int) : ∀ r, (cdN c d r).1.length = c.length ∧ (cdN c d r).2.length = d.length
  | 0 => ⟨rfl, rfl⟩
  | r + 1 => by
    have := cdN_length c d r
    exact ⟨by rw [cdN]; exact (rotB_length _).trans this.1, by rw [cdN]; exact (rotB_length _).trans this.2⟩
theorem cdN_01 {c d : List Int} (hc : Bit01 c) (hd : Bit01 d) : ∀ r, Bit01 (cdN c d r).1 ∧ Bit01 (cdN c d r).2
  | 0 => ⟨hc, hd⟩
  | r + 1 => by
    have := cdN_01 hc hd r
    exact ⟨rotB_01 this.1 _, rotB_01 this.2 _⟩
theorem keyB_length (l : List Int) (r : Nat) : (keyB l r).length = 48 := permB_length _ _
theorem keyB_01 {l : List Int} (h : Bit01 l) (r : Nat) : Bit01 (keyB l r) := by
  have := cdN_01 ((permB_01 h tabPC1).take 28) ((permB_01 h tabPC1).drop 28) (r + 1)
  exact permB_01 (this.1.app this.2) _
theorem in_pc1 : TabIn tabPC1 64 := by unfold TabIn; decide
theorem in_pc2 : TabIn tabPC2 56 := by unfold TabIn; decide
theorem in_ip : TabIn tabIP 64 := by unfold TabIn; decide
theorem in_p : TabIn tabP 32 := by unfold TabIn; decide
theorem comp_key {l : List Int} (h : l.length = 64) (r : Nat) : keyB (comp l) r = comp (keyB l r) := by
  simp only [keyB]
  rw [comp_perm (by rw [h]; exact in_pc1), ← comp_take, ← comp_drop, comp_cd, ← comp_append]
  refine comp_perm ?_
  have := cdN_length ((permB l tabPC1).take 28) ((permB l tabPC1).drop 28) (r + 1)
  have e : (permB l tabPC1).length = 56 := permB_length _ _
  rw [List.length_append, this.1, this.2, List.length_take, List.length_drop, e]
  exact in_pc2
theorem comp_six {h k : List Int} (hh : Bit01 h) (hk : Bit01 k) (lh : h.length = 32) (lk : k.length = 48) {i : Nat} (hi : i < 8) : sixB (comp h) (comp k) i = sixB h k i := by
  refine List.map_congr_left fun j hj => ?_
  have := List.mem_range.1 hj
  rw [comp_get _ (by omega), comp_get _ (by omega)]
  rcases hh.get ((4 * i + j + 31) % 32) with e | e <;> rcases hk.get (6 * i + j) with e' | e' <;> rw [e, e'] <;> rfl
theorem outB_comp {h k : List Int} (hh : Bit01 h) (hk : Bit01 k) (lh : h.length = 32) (lk : k.length = 48) : outB (comp h) (comp k) 8 = outB h k 8 := by
  rw [outB, outB, List.flatMap_def, List.flatMap_def]
  congr 1
  refine List.map_congr_left fun i hi => ?_
  rw [comp_six hh hk lh lk (List.mem_range.1 hi)]
theorem comp_mix {h k : List Int} (hh : Bit01 h) (hk : Bit01 k) (lh : h.length = 32) (lk : k.length = 48) : mixB (comp h) (comp k) = mixB h k := by
  rw [mixB, mixB, outB_comp hh hk lh lk]
theorem comp_xor {l : List Int} (hl : Bit01 l) (m : List Int) : xorB (comp l) m = comp (xorB l m) := by
  refine list_eq_of_get (by rw [xorB_length, comp_length, comp_length, xorB_length]) fun i hi => ?_
  rw [xorB_length, comp_length] at hi
  rw [xorB_get _ _ (by rw [comp_length]; exact hi), comp_get _ hi, comp_get _ (by rw [xorB_length]; exact hi), xorB_get _ _ hi]
  rcases hl.get i with e | e <;> rw [e] <;> omega
theorem comp_feist {K : Nat → List Int} (hK : ∀ r, Bit01 (K r)) (lK : ∀ r, (K r).length = 48) {s : List Int × List Int} (h : Halves s) :
    ∀ r, feist (fun r => comp (K r)) (comp s.1, comp s.2) r = (comp (feist K s r).1, comp (feist K s r).2)
  | 0 => rfl
  | r + 1 => by
    have hh := feist_halves K h r
    rw [feist, comp_feist hK lK h r, feist]
    simp only []
    rw [comp_mix hh.b2 (hK r) hh.l2 (lK r), comp_xor hh.b1]
theorem comp_unperm {l : List Int} (h : l.length = 64) : unpermB (comp l) = comp (unpermB l) := by
  show _ = ((List.range 64).map fun p => l.getD (backIP p) 0).map fun b => 1 - b
  rw [unpermB, List.map_map]
  refine List.map_congr_left fun i hi => ?_
  exact comp_get l (by rw [h]; exact (ip_at (List.mem_range.1 hi)).2.2.2.1)
theorem comp_block {K : Nat → List Int} (hK : ∀ r, Bit01 (K r)) (lK : ∀ r, (K r).length = 48) {b : List Int} (hb : Bit01 b) (h : b.length = 64) :
    blockB (fun r => comp (K r)) (comp b) = comp (blockB K b) := by
  have h0 : Halves ((permB b tabIP).take 32, (permB b tabIP).drop 32) := halves_of (permB_01 hb tabIP) (permB_length _ _)
  have hh := feist_halves K h0 16
  have := comp_feist hK lK h0 16
  rw [blockB, blockB, comp_perm (by rw [h]; exact in_ip), ← comp_take, ← comp_drop]
  rw [this]
  dsimp only
  rw [← comp_append, comp_unperm (by rw [List.length_append, hh.l1, hh.l2])]
theorem comp_comp (l : List Int) : comp (comp l) = l := by
  simp only [comp, List.map_map]
  conv => rhs; rw [← List.map_id l]
  refine List.map_congr_left fun x _ => ?_
  simp only [Function.comp, id]; omega
/-! ## A key's lowest bits say nothing -/
theorem pc1_low : ∀ x ∈ tabPC1, x % 8 ≠ 0 := by decide
theorem key_low {l m : List Int} (h : ∀ i : Nat, (i + 1) % 8 ≠ 0 → l.getD i 0 = m.getD i 0) (r : Nat) : keyB l r = keyB m r := by
  have e : permB l tabPC1 = permB m tabPC1 := by
    refine List.map_congr_left fun x hx => ?_
    have h1 := in_pc1 x hx
    have h2 := pc1_low x hx
    exact h _ (by omega)
  simp only [keyB, e]
/-! ## Bytes and bits -/
theorem bitsOf_append (a b : List Int) : bitsOf (a ++ b) = bitsOf a ++ bitsOf b := by simp [bitsOf]
theorem bitsOf_length : ∀ (bs : List Int), (bitsOf bs).length = 8 * bs.length
  | [] => rfl
  | b :: bs => by
    have := bitsOf_length bs
    rw [bitsOf, List.flatMap_cons, List.length_append, toBits_length]
    rw [bitsOf] at this
    rw [this, List.length_cons]; omega
theorem bitsOf_01 (bs : List Int) : Bit01 (bitsOf bs) := fun b hb => by
  obtain ⟨x, _, h⟩ := List.mem_flatMap.1 hb
  exact toBits_01 8 x b h
theorem bitsOf_at : ∀ (bs : List Int) (i : Nat), i < bs.length → ((bitsOf bs).drop (8 * i)).take 8 = toBits 8 (bs.getD i 0)
  | [], i, h => by simp at h
  | b :: bs, 0, _ => by
    rw [bitsOf, List.flatMap_cons]
    show (toBits 8 b ++ _).take 8 = _
    rw [List.take_left' (toBits_length _ _)]; rfl
  | b :: bs, i + 1, h => by
    have ih := bitsOf_at bs i (by simpa using h)
    rw [bitsOf, List.flatMap_cons, show 8 * (i + 1) = 8 + 8 * i by omega, ← List.drop_drop, List.drop_left' (toBits_length _ _)]
    exact ih
theorem bytesOf_bitsOf {bs : List Int} (h : Bytes bs) {n : Nat} (hn : bs.length = n) : bytesOf (bitsOf bs) n = bs := by
  refine rmap_eq hn fun i hi => ?_
  rw [bitsOf_at _ _ (by omega)]
  exact ofBits_toBits (h.get i).1 (by have := (h.get i).2; omega)
theorem bytesOf_bytes {l : List Int} (h : Bit01 l) {n : Nat} (hn : l.length = 8 * n) : Bytes (bytesOf l n) := fun x hx => by
  obtain ⟨i, hi, rfl⟩ := List.mem_map.1 hx
  have := List.mem_range.1 hi
  have hl : ((l.drop (8 * i)).take 8).length = 8 := by rw [List.length_take, List.length_drop]; omega
  have h2 := ofBits_lt ((h.drop (8 * i)).take 8)
  rw [hl] at h2
  exact ⟨h2.1, by have := h2.2; omega⟩
theorem bytesOf_length (l : List Int) (n : Nat) : (bytesOf l n).length = n := by simp [bytesOf]
theorem bitsOf_bytesOf : ∀ (n : Nat) {l : List Int}, Bit01 l → l.length = 8 * n → bitsOf (bytesOf l n) = l
  | 0, l, _, h => by
    have : l = [] := List.eq_nil_of_length_eq_zero h
    subst this; rfl
  | n + 1, l, h, hl => by
    have ih := bitsOf_bytesOf n (h.drop 8) (by rw [List.length_drop]; omega)
    rw [bytesOf, List.range_succ_eq_map, List.map_cons, List.map_map, bitsOf, List.flatMap_cons]
    have e1 : (l.take 8).length = 8 := by rw [List.length_take]; omega
    have e2 : toBits 8 (ofBits ((l.drop (8 * 0)).take 8)) = l.take 8 := toBits_ofBits (h.take 8) e1.symm
    rw [e2]
    have e3 : (List.range n).map ((fun i => ofBits ((l.drop (8 * i)).take 8)) ∘ Nat.succ) = bytesOf (l.drop 8) n := by
      refine List.map_congr_left fun i _ => ?_
      show ofBits ((l.drop (8 * (i + 1))).take 8) = _
      rw [List.drop_drop, show 8 + 8 * i = 8 * (i + 1) by omega]
    rw [e3]
    show l.take 8 ++ bitsOf (bytesOf (l.drop 8) n) = l
    rw [ih, List.take_append_drop]
theorem bitsOf_get (bs : List Int) (i : Nat) (h : i < 8 * bs.length) : (bitsOf bs).getD i 0 = bs.getD (i / 8) 0 / 2 ^ (7 - i % 8) % 2 := by
  have h1 := bitsOf_at bs (i / 8) (by omega)
  have h2 : (((bitsOf bs).drop (8 * (i / 8))).take 8).getD (i % 8) 0 = (bitsOf bs).getD i 0 := by
    rw [getD_take (by omega)]
    simp only [List.getD_eq_getElem?_getD, List.getElem?_drop]
    congr 2; omega
  rw [← h2, h1, toBits, rmap_get _ (by omega)]
end Sx
set_option linter.unusedVariables false
set_option linter.unusedSimpArgs false
namespace Sx
open Go
set_option maxRecDepth 100000
/-! Words of 64 bits, as rows of bits. -/
theorem wraps_u64 (n : Int) (h0 : 0 ≤ n) (h1 : n < 2 ^ 64) : IntKind.u64.wrap n = n := by rw [wr_u64]; omega
theorem shr_val {k : IntKind} {x n : Int} (h0 : 0 ≤ n) (h1 : n ≤ k.bits) : binI .shr k x n = x / 2 ^ n.toNat := by
  show x.fdiv _ = _
  rw [show min n.toNat k.bits = n.toNat by omega, fdiv2]
theorem shl64 {x n : Int} (h0 : 0 ≤ n) (h1 : n ≤ 64) : binI .shl .u64 x n = (x * 2 ^ n.toNat) % 2 ^ 64 := by
  show IntKind.u64.wrap (x * 2 ^ min n.toNat 64) = _
  rw [show min n.toNat 64 = n.toNat by omega, wr_u64]; rfl
theorem and64 {x : Int} (h0 : 0 ≤ x) (h1 : x < 2 ^ 64) (j : Nat) (hj : j ≤ 64) : binI .and .u64 x (2 ^ j - 1) = x % 2 ^ j :=
  bits_mask .u64 64 (by decide) wraps_u64 j hj x h0 h1
theorem or64 {x y : Int} (i : Nat) (hx0 : 0 ≤ x) (hx : x % 2 ^ i = 0) (hx1 : x < 2 ^ 64) (hy0 : 0 ≤ y) (hy : y < 2 ^ i) (hy1 : y < 2 ^ 64) : binI .or .u64 x y = x + y :=
  bits_join .u64 64 (by decide) wraps_u64 i x y hx0 hx hx1 hy0 hy hy1
theorem and1_64 {x : Int} (h0 : 0 ≤ x) (h1 : x < 2 ^ 64) : binI .and .u64 x 1 = x % 2 := and64 h0 h1 1 (by decide)
/-- A bit pushed in from the right. -/
theorem push1 {o x : Int} {p : Int} (h0 : 0 ≤ o) (h1 : o < 2 ^ 63) (x0 : 0 ≤ x) (x1 : x < 2 ^ 64) (p0 : 0 ≤ p) (p1 : p ≤ 64) :
    binI .or .u64 (binI .shl .u64 o 1) (binI .and .u64 (binI .shr .u64 x p) 1) = 2 * o + x / 2 ^ p.toNat % 2 := by
  rw [shr_val (k := .u64) p0 p1, shl64 (by decide) (by decide)]
  have hd0 : 0 ≤ x / 2 ^ p.toNat := Int.ediv_nonneg x0 (Int.le_of_lt (Int.pow_pos (show (0 : Int) < 2 by decide)))
  have hd1 : x / 2 ^ p.toNat ≤ x := Int.ediv_le_self _ x0
  rw [and1_64 hd0 (by omega)]
  have hb : 0 ≤ x / 2 ^ p.toNat % 2 ∧ x / 2 ^ p.toNat % 2 < 2 := by omega
  generalize x / 2 ^ p.toNat % 2 = b at *
  have e : o * 2 ^ (1 : Int).toNat % 2 ^ 64 = 2 * o := by
    rw [show (1 : Int).toNat = 1 from rfl]; omega
  rw [e, or64 1 (by omega) (by omega) (by omega) hb.1 (by omega) (by omega)]
theorem natxor_bit (x y k : Nat) : (x ^^^ y) / 2 ^ k % 2 = (x / 2 ^ k + y / 2 ^ k) % 2 := by
  have h := Nat.testBit_xor x y k
  rw [Nat.testBit_eq_decide_div_mod_eq, Nat.testBit_eq_decide_div_mod_eq, Nat.testBit_eq_decide_div_mod_eq] at h
  have a := Nat.mod_two_eq_zero_or_one ((x ^^^ y) / 2 ^ k)
  have b := Nat.mod_two_eq_zero_or_one (x / 2 ^ k)
  have c := Nat.mod_two_eq_zero_or_one (y / 2 ^ k)
  rcases a with a | a <;> rcases b with b | b <;> rcases c with c | c <;> simp [a, b, c] at h <;> omega
theorem xor64 {x y : Int} (x0 : 0 ≤ x) (x1 : x < 2 ^ 64) (y0 : 0 ≤ y) (y1 : y < 2 ^ 64) : binI .xor .u64 x y = ((x.toNat ^^^ y.toNat : Nat) : Int) := by
  exact u64_xor x y x0 (by omega) y0 (by omega)
theorem toBits_xor {x y : Int} (n : Nat) (x0 : 0 ≤ x) (x1 : x < 2 ^ 64) (y0 : 0 ≤ y) (y1 : y < 2 ^ 64) : toBits n (binI .xor .u64 x y) = xorB (toBits n x) (toBits n y) := by
  rw [xor64 x0 x1 y0 y1]
  refine list_eq_of_get (by rw [xorB_length, toBits_length, toBits_length]) fun i hi => ?_
  rw [toBits_length] at hi
  rw [xorB_get _ _ (by rw [toBits_length]; exact hi), toBits, toBits, toBits, rmap_get _ hi, rmap_get _ hi, rmap_get _ hi]
  have := natxor_bit x.toNat y.toNat (n - 1 - i)
  have ex : x = (x.toNat : Int) := by omega
  have ey : y = (y.toNat : Int) := by omega
  rw [ex, ey, Int.toNat_natCast, Int.toNat_natCast]
  have hp : ((2 : Int) ^ (n - 1 - i)) = ((2 ^ (n - 1 - i) : Nat) : Int) := by simp
  rw [hp]
  generalize (2 : Nat) ^ (n - 1 - i) = q at *
  have h1 : ((x.toNat ^^^ y.toNat : Nat) : Int) / (q : Int) = (((x.toNat ^^^ y.toNat) / q : Nat) : Int) := rfl
  have h2 : ((x.toNat : Nat) : Int) / (q : Int) = ((x.toNat / q : Nat) : Int) := rfl
  have h3 : ((y.toNat : Nat) : Int) / (q : Int) = ((y.toNat / q : Nat) : Int) := rfl
  rw [h1, h2, h3]
  omega
theorem xor_ofBits {a b : List Int} (ha : Bit01 a) (hb : Bit01 b) (e : a.length = b.length) (h : a.length ≤ 64) : binI .xor .u64 (ofBits a) (ofBits b) = ofBits (xorB a b) := by
  have h1 := ofBits_lt ha
  have h2 := ofBits_lt hb
  rw [← e] at h2
  have hp : (2 : Int) ^ a.length ≤ 2 ^ 64 := by
    have h1 := Nat.pow_le_pow_right (show 0 < 2 by decide) h
    have h2 : ((2 ^ a.length : Nat) : Int) ≤ ((2 ^ 64 : Nat) : Int) := Int.ofNat_le.2 h1
    rw [Int.natCast_pow] at h2
    exact h2
  have hx := xor64 (x := ofBits a) (y := ofBits b) h1.1 (by omega) h2.1 (by omega)
  have h3 : binI .xor .u64 (ofBits a) (ofBits b) < 2 ^ a.length := by
    rw [hx]
    have ha' : (ofBits a).toNat < 2 ^ a.length := by
      have : ((ofBits a).toNat : Int) < ((2 ^ a.length : Nat) : Int) := by simp; omega
      exact_mod_cast this
    have hb' : (ofBits b).toNat < 2 ^ a.length := by
      have : ((ofBits b).toNat : Int) < ((2 ^ a.length : Nat) : Int) := by simp; omega
      exact_mod_cast this
    have := Nat.xor_lt_two_pow ha' hb'
    exact_mod_cast this
  have h4 : 0 ≤ binI .xor .u64 (ofBits a) (ofBits b) := by rw [hx]; omega
  rw [← ofBits_toBits h4 h3, toBits_xor _ h1.1 (by omega) h2.1 (by omega), toBits_ofBits ha rfl, toBits_ofBits hb e]
theorem pow64 {n : Nat} (h : n ≤ 64) : (2 : Int) ^ n ≤ 18446744073709551616 := by
  have h1 := Nat.pow_le_pow_right (show 0 < 2 by decide) h
  have h2 : ((2 ^ n : Nat) : Int) ≤ ((18446744073709551616 : Nat) : Int) := Int.ofNat_le.2 h1
  rw [Int.natCast_pow] at h2
  exact h2
theorem ofBits_64 {l : List Int} (h : Bit01 l) (hl : l.length ≤ 64) : 0 ≤ ofBits l ∧ ofBits l < 18446744073709551616 := by
  have h1 := ofBits_lt h
  have h2 := pow64 hl
  exact ⟨h1.1, by omega⟩
theorem or_shl {a b : List Int} (ha : Bit01 a) (hb : Bit01 b) {n : Int} (hn : n = b.length) (h : a.length + b.length ≤ 64) : binI .or .u64 (binI .shl .u64 (ofBits a) n) (ofBits b) = ofBits (a ++ b) := by
  subst hn
  have h1 := ofBits_lt (ha.app hb)
  have h2 := ofBits_lt hb
  have h3 := ofBits_lt ha
  rw [List.length_append] at h1
  have hp := pow64 h
  have hq := pow64 (show b.length ≤ 64 by omega)
  rw [ofBits_append] at h1 ⊢
  have e : ofBits a * 2 ^ ((b.length : Int)).toNat % 2 ^ 64 = ofBits a * 2 ^ b.length := by
    rw [Int.toNat_natCast]
    refine Int.emod_eq_of_lt (Int.mul_nonneg h3.1 (Int.le_of_lt (Int.pow_pos (show (0 : Int) < 2 by decide)))) ?_
    have : (2 : Int) ^ 64 = 18446744073709551616 := rfl
    omega
  have h0 : 0 ≤ ofBits a * 2 ^ b.length := Int.mul_nonneg h3.1 (Int.le_of_lt (Int.pow_pos (show (0 : Int) < 2 by decide)))
  rw [shl64 (by omega) (by omega), e]
  refine or64 b.length h0 (Int.mul_emod_left _ _) ?_ h2.1 h2.2 ?_
  · have : (2 : Int) ^ 64 = 18446744073709551616 := rfl
    omega
  · have : (2 : Int) ^ 64 = 18446744073709551616 := rfl
    omega
theorem ofBits_drop {l : List Int} (h : Bit01 l) (i : Nat) (hi : i ≤ l.length) : ofBits (l.drop i) = ofBits l % 2 ^ (l.length - i) := by
  have := ofBits_mid h i (l.length - i) (by omega)
  rw [show l.length - i - (l.length - i) = 0 by omega, Int.pow_zero, Int.ediv_one, List.take_of_length_le (by rw [List.length_drop]; omega)] at this
  exact this.symm
theorem ofBits_take {l : List Int} (h : Bit01 l) (k : Nat) (hk : k ≤ l.length) : ofBits (l.take k) = ofBits l / 2 ^ (l.length - k) := by
  have h1 := ofBits_mid h 0 k (by omega)
  rw [List.drop_zero, Nat.sub_zero] at h1
  rw [← h1]
  refine Int.emod_eq_of_lt (Int.ediv_nonneg (ofBits_lt h).1 (Int.le_of_lt (Int.pow_pos (show (0 : Int) < 2 by decide)))) ?_
  refine Int.ediv_lt_of_lt_mul (Int.pow_pos (show (0 : Int) < 2 by decide)) ?_
  rw [← Int.pow_add, show k + (l.length - k) = l.length by omega]
  exact (ofBits_lt h).2
/-- Bits of a word in the middle. -/
theorem mid_and {l : List Int} (h : Bit01 l) (hl : l.length ≤ 64) {p : Int} (i k : Nat) (hk : i + k ≤ l.length) (hp : p = (l.length : Int) - i - k) :
    binI .and .u64 (binI .shr .u64 (ofBits l) p) (2 ^ k - 1) = ofBits ((l.drop i).take k) := by
  have h1 := ofBits_64 h hl
  rw [shr_val (by omega) (show p ≤ 64 by omega), ← ofBits_mid h i k hk, show p.toNat = l.length - i - k by omega]
  have h2 : 0 ≤ ofBits l / 2 ^ (l.length - i - k) := Int.ediv_nonneg h1.1 (Int.le_of_lt (Int.pow_pos (show (0 : Int) < 2 by decide)))
  have h3 : ofBits l / 2 ^ (l.length - i - k) ≤ ofBits l := Int.ediv_le_self _ h1.1
  exact and64 h2 (by omega) k (by omega)
theorem turn_eq {l : List Int} (h : Bit01 l) (hl : l.length = 28) {n : Int} (hn : n = 1 ∨ n = 2) :
    binI .and .u64 (binI .or .u64 (binI .shl .u64 (ofBits l) n) (binI .shr .u64 (ofBits l) (28 - n))) 268435455 = ofBits (rotB l n.toNat) := by
  have h1 := ofBits_lt h
  rw [hl] at h1
  rw [rotB, ofBits_append, ofBits_drop h _ (by omega), ofBits_take h _ (by omega), hl, List.length_take, hl]
  rw [show (268435455 : Int) = 2 ^ 28 - 1 from rfl]
  generalize ofBits l = x at *
  rcases hn with rfl | rfl
  · rw [shl64 (by omega) (by omega), shr_val (by omega) (by show (28 - 1 : Int) ≤ 64; decide)]
    show binI .and .u64 (binI .or .u64 (x * 2 ^ 1 % 2 ^ 64) (x / 2 ^ 27)) _ = x % 2 ^ 27 * 2 ^ 1 + x / 2 ^ 27
    rw [or64 1 (by omega) (by omega) (by omega) (by omega) (by omega) (by omega), and64 (by omega) (by omega) 28 (by decide)]
    omega
  · rw [shl64 (by omega) (by omega), shr_val (by omega) (by show (28 - 2 : Int) ≤ 64; decide)]
    show binI .and .u64 (binI .or .u64 (x * 2 ^ 2 % 2 ^ 64) (x / 2 ^ 26)) _ = x % 2 ^ 26 * 2 ^ 2 + x / 2 ^ 26
    rw [or64 2 (by omega) (by omega) (by omega) (by omega) (by omega) (by omega), and64 (by omega) (by omega) 28 (by decide)]
    omega
/-- The half with its last bit ahead, and its first one behind. -/
def wideB (h : List Int) : List Int := h.drop 31 ++ (h ++ h.take 1)
theorem wideB_length {h : List Int} (lh : h.length = 32) : (wideB h).length = 34 := by simp [wideB, lh]
theorem wideB_01 {h : List Int} (hh : Bit01 h) : Bit01 (wideB h) := (hh.drop _).app (hh.app (hh.take _))
theorem wide_eq {h : List Int} (hh : Bit01 h) (lh : h.length = 32) :
    binI .or .u64 (binI .or .u64 (binI .shl .u64 (binI .and .u64 (ofBits h) 1) 33) (binI .shl .u64 (ofBits h) 1)) (binI .shr .u64 (ofBits h) 31) = ofBits (wideB h) := by
  have h1 := ofBits_lt hh
  rw [lh] at h1
  have e1 : ofBits (h.drop 31) = ofBits h % 2 ^ 1 := by rw [ofBits_drop hh _ (by omega), lh]
  have e2 : ofBits (h.take 1) = ofBits h / 2 ^ 31 := by rw [ofBits_take hh _ (by omega), lh]
  have l1 : (h.take 1).length = 1 := by rw [List.length_take]; omega
  rw [wideB, ofBits_append, ofBits_append, e1, e2, List.length_append, l1, lh]
  rw [and1_64 (by omega) (by omega)]
  generalize ofBits h = x at *
  rw [shl64 (by omega) (by omega), shl64 (by omega) (by omega), shr_val (by omega) (by decide)]
  show binI .or .u64 (binI .or .u64 (x % 2 * 2 ^ 33 % 2 ^ 64) (x * 2 ^ 1 % 2 ^ 64)) (x / 2 ^ 31) = x % 2 ^ 1 * 2 ^ 33 + (x * 2 ^ 1 + x / 2 ^ 31)
  rw [or64 (x := x % 2 * 2 ^ 33 % 2 ^ 64) (y := x * 2 ^ 1 % 2 ^ 64) 33 (by omega) (by omega) (by omega) (by omega) (by omega) (by omega), or64 1 (by omega) (by omega) (by omega) (by omega) (by omega) (by omega)]
  omega
theorem wide_get {h : List Int} (lh : h.length = 32) {t : Nat} (ht : t < 34) : (wideB h).getD t 0 = h.getD ((t + 31) % 32) 0 := by
  simp only [wideB, List.getD_eq_getElem?_getD]
  by_cases h0 : t = 0
  · subst h0
    rw [List.getElem?_append_left (by rw [List.length_drop]; omega), List.getElem?_drop]
  · rw [List.getElem?_append_right (by rw [List.length_drop]; omega), List.length_drop, lh]
    by_cases h1 : t ≤ 32
    · rw [List.getElem?_append_left (by omega)]
      congr 2; omega
    · rw [List.getElem?_append_right (by omega), lh, List.getElem?_take, if_pos (by omega)]
      congr 2; omega
theorem six_eq {h k : List Int} (hh : Bit01 h) (hk : Bit01 k) (lh : h.length = 32) (lk : k.length = 48) {i : Nat} (hi : i < 8) {p q : Int} (hp : p = 28 - 4 * i) (hq : q = 42 - 6 * i) :
    binI .xor .u64 (binI .and .u64 (binI .shr .u64 (ofBits (wideB h)) p) 63) (binI .and .u64 (binI .shr .u64 (ofBits k) q) 63) = ofBits (sixB h k i) := by
  have lw := wideB_length lh
  have e1 := mid_and (wideB_01 hh) (by omega) (p := p) (4 * i) 6 (by omega) (by omega)
  have e2 := mid_and hk (by omega) (p := q) (6 * i) 6 (by omega) (by omega)
  rw [show (63 : Int) = 2 ^ 6 - 1 from rfl, e1, e2]
  have l1 : (((wideB h).drop (4 * i)).take 6).length = 6 := by rw [List.length_take, List.length_drop]; omega
  have l2 : ((k.drop (6 * i)).take 6).length = 6 := by rw [List.length_take, List.length_drop]; omega
  rw [xor_ofBits (((wideB_01 hh).drop _).take _) ((hk.drop _).take _) (by omega) (by omega)]
  congr 1
  refine list_eq_of_get (by rw [xorB_length, l1]; simp [sixB]) fun j hj => ?_
  rw [xorB_length, l1] at hj
  rw [xorB_get _ _ (by omega), sixB, rmap_get _ hj, getD_take hj, getD_take hj]
  have g1 : ((wideB h).drop (4 * i)).getD j 0 = (wideB h).getD (4 * i + j) 0 := by simp only [List.getD_eq_getElem?_getD, List.getElem?_drop]
  have g2 : (k.drop (6 * i)).getD j 0 = k.getD (6 * i + j) 0 := by simp only [List.getD_eq_getElem?_getD, List.getElem?_drop]
  rw [g1, g2, wide_get lh (by omega)]
theorem sixB_length (h k : List Int) (i : Nat) : (sixB h k i).length = 6 := by simp [sixB]
theorem sixB_01 (h k : List Int) (i : Nat) : Bit01 (sixB h k i) := bit01_map 6 fun j _ => by omega
/-- Where a box is looked into. -/
def idxE (x : Int) : Int := binI .add .u64 (binI .mul .u64 (binI .or .u64 (binI .and .u64 (binI .shr .u64 x 4) 2) (binI .and .u64 x 1)) 16) (binI .and .u64 (binI .shr .u64 x 1) 15)
def dig (c : Int) : Int := if c ≥ 97 then c - 97 + 10 else c - 48
theorem idx_all : ((List.range 64).all fun n => decide (idxE (n : Int) = sixI (toBits 6 (n : Int)) ∧ 0 ≤ idxE (n : Int) ∧ idxE (n : Int) < 64)) = true := by kernel_rfl
theorem idx_at {l : List Int} (h : Bit01 l) (hl : l.length = 6) : idxE (ofBits l) = sixI l ∧ 0 ≤ sixI l ∧ sixI l < 64 := by
  have h1 := ofBits_lt h
  rw [hl] at h1
  have := of_decide_eq_true (List.all_eq_true.1 idx_all (ofBits l).toNat (List.mem_range.2 (by omega)))
  rw [show (((ofBits l).toNat : Nat) : Int) = ofBits l by omega, toBits_ofBits h hl.symm] at this
  exact ⟨this.1, by omega, by omega⟩
theorem box_all : ((List.range 8).all fun i => decide ((boxS.getD i ByteArray.empty).size = 64) && (List.range 64).all fun j => decide (dig (byteAt (boxS.getD i ByteArray.empty) (j : Int)) = (boxes.getD i []).getD j 0 ∧ 0 ≤ (boxes.getD i []).getD j 0 ∧ (boxes.getD i []).getD j 0 < 16 ∧ 48 ≤ byteAt (boxS.getD i ByteArray.empty) (j : Int) ∧ byteAt (boxS.getD i ByteArray.empty) (j : Int) < 128)) = true := by kernel_rfl
theorem box_at {i j : Nat} (hi : i < 8) (hj : j < 64) : (boxS.getD i ByteArray.empty).size = 64 ∧ dig (byteAt (boxS.getD i ByteArray.empty) (j : Int)) = (boxes.getD i []).getD j 0 ∧ 0 ≤ (boxes.getD i []).getD j 0 ∧ (boxes.getD i []).getD j 0 < 16 ∧ 48 ≤ byteAt (boxS.getD i ByteArray.empty) (j : Int) ∧ byteAt (boxS.getD i ByteArray.empty) (j : Int) < 128 := by
  have h1 := List.all_eq_true.1 box_all i (List.mem_range.2 hi)
  rw [Bool.and_eq_true] at h1
  have h2 := of_decide_eq_true (List.all_eq_true.1 h1.2 j (List.mem_range.2 hj))
  exact ⟨of_decide_eq_true h1.1, h2⟩
theorem boxV_bd {i : Nat} (hi : i < 8) {l : List Int} (h : Bit01 l) (hl : l.length = 6) : 0 ≤ boxV i l ∧ boxV i l < 16 := by
  have h1 := idx_at h hl
  have h2 := box_at hi (j := (sixI l).toNat) (by omega)
  exact ⟨h2.2.2.1, h2.2.2.2.1⟩
theorem outB_succ (h k : List Int) (n : Nat) : outB h k (n + 1) = outB h k n ++ toBits 4 (boxV n (sixB h k n)) := by
  simp [outB, List.range_succ, List.flatMap_append]
theorem outB_length (h k : List Int) : ∀ n, (outB h k n).length = 4 * n
  | 0 => rfl
  | n + 1 => by rw [outB_succ, List.length_append, outB_length h k n, toBits_length]; omega
theorem outB_01 (h k : List Int) : ∀ n, Bit01 (outB h k n)
  | 0 => fun b hb => by simp [outB] at hb
  | n + 1 => by rw [outB_succ]; exact (outB_01 h k n).app (toBits_01 _ _)
theorem out_step {h k : List Int} {n : Nat} (hn : n < 8) {v : Int} (hv : v = boxV n (sixB h k n)) : binI .or .u64 (binI .shl .u64 (ofBits (outB h k n)) 4) v = ofBits (outB h k (n + 1)) := by
  have hb := boxV_bd hn (sixB_01 h k n) (sixB_length h k n)
  have e : v = ofBits (toBits 4 v) := (ofBits_toBits (by omega) (by omega)).symm
  rw [outB_succ, ← hv]
  conv => lhs; rw [e]
  exact or_shl (outB_01 _ _ _) (toBits_01 _ _) (by rw [toBits_length]; rfl) (by rw [outB_length, toBits_length]; omega)
end Sx
set_option linter.unusedVariables false
set_option linter.unusedSimpArgs false
namespace Sx
open Go
set_option maxRecDepth 100000
/-! The tables as texts; numbers laid place by place. -/
def tabAt (s : ByteArray) (j : Nat) : Int := (byteAt s (2 * j) - 48) % 256 * 10 + (byteAt s (2 * j + 1) - 48) % 256
theorem take_next (l : List Int) {j : Nat} (h : j < l.length) : l.take (j + 1) = l.take j ++ [l.getD j 0] := by
  rw [List.take_add_one, List.getElem?_eq_getElem h, List.getD_eq_getElem?_getD, List.getElem?_eq_getElem h]; rfl
def sIP : ByteArray := ⟨#[53, 56, 53, 48, 52, 50, 51, 52, 50, 54, 49, 56, 49, 48, 48, 50, 54, 48, 53, 50, 52, 52, 51, 54, 50, 56, 50, 48, 49, 50, 48, 52, 54, 50, 53, 52, 52, 54, 51, 56, 51, 48, 50, 50, 49, 52, 48, 54, 54, 52, 53, 54, 52, 56, 52, 48, 51, 50, 50, 52, 49, 54, 48, 56, 53, 55, 52, 57, 52, 49, 51, 51, 50, 53, 49, 55, 48, 57, 48, 49, 53, 57, 53, 49, 52, 51, 51, 53, 50, 55, 49, 57, 49, 49, 48, 51, 54, 49, 53, 51, 52, 53, 51, 55, 50, 57, 50, 49, 49, 51, 48, 53, 54, 51, 53, 53, 52, 55, 51, 57, 51, 49, 50, 51, 49, 53, 48, 55]⟩
theorem sIP_size : (sIP.size : Int) = 2 * tabIP.length := by kernel_rfl
theorem tabIP_ok : ((List.range tabIP.length).all fun j => decide (tabAt sIP j = tabIP.getD j 0 ∧ 1 ≤ tabIP.getD j 0 ∧ tabIP.getD j 0 ≤ 64)) = true := by kernel_rfl
theorem tabIP_at (j : Nat) (h : j < tabIP.length) : tabAt sIP j = tabIP.getD j 0 := (of_decide_eq_true (List.all_eq_true.1 tabIP_ok j (List.mem_range.2 h))).1
theorem tabIP_in (j : Nat) (h : j < tabIP.length) : 1 ≤ tabIP.getD j 0 ∧ tabIP.getD j 0 ≤ 64 := (of_decide_eq_true (List.all_eq_true.1 tabIP_ok j (List.mem_range.2 h))).2
def sP : ByteArray := ⟨#[49, 54, 48, 55, 50, 48, 50, 49, 50, 57, 49, 50, 50, 56, 49, 55, 48, 49, 49, 53, 50, 51, 50, 54, 48, 53, 49, 56, 51, 49, 49, 48, 48, 50, 48, 56, 50, 52, 49, 52, 51, 50, 50, 55, 48, 51, 48, 57, 49, 57, 49, 51, 51, 48, 48, 54, 50, 50, 49, 49, 48, 52, 50, 53]⟩
theorem sP_size : (sP.size : Int) = 2 * tabP.length := by kernel_rfl
theorem tabP_ok : ((List.range tabP.length).all fun j => decide (tabAt sP j = tabP.getD j 0 ∧ 1 ≤ tabP.getD j 0 ∧ tabP.getD j 0 ≤ 32)) = true := by kernel_rfl
theorem tabP_at (j : Nat) (h : j < tabP.length) : tabAt sP j = tabP.getD j 0 := (of_decide_eq_true (List.all_eq_true.1 tabP_ok j (List.mem_range.2 h))).1
theorem tabP_in (j : Nat) (h : j < tabP.length) : 1 ≤ tabP.getD j 0 ∧ tabP.getD j 0 ≤ 32 := (of_decide_eq_true (List.all_eq_true.1 tabP_ok j (List.mem_range.2 h))).2
def sPC1 : ByteArray := ⟨#[53, 55, 52, 57, 52, 49, 51, 51, 50, 53, 49, 55, 48, 57, 48, 49, 53, 56, 53, 48, 52, 50, 51, 52, 50, 54, 49, 56, 49, 48, 48, 50, 53, 57, 53, 49, 52, 51, 51, 53, 50, 55, 49, 57, 49, 49, 48, 51, 54, 48, 53, 50, 52, 52, 51, 54, 54, 51, 53, 53, 52, 55, 51, 57, 51, 49, 50, 51, 49, 53, 48, 55, 54, 50, 53, 52, 52, 54, 51, 56, 51, 48, 50, 50, 49, 52, 48, 54, 54, 49, 53, 51, 52, 53, 51, 55, 50, 57, 50, 49, 49, 51, 48, 53, 50, 56, 50, 48, 49, 50, 48, 52]⟩
theorem sPC1_size : (sPC1.size : Int) = 2 * tabPC1.length := by kernel_rfl
theorem tabPC1_ok : ((List.range tabPC1.length).all fun j => decide (tabAt sPC1 j = tabPC1.getD j 0 ∧ 1 ≤ tabPC1.getD j 0 ∧ tabPC1.getD j 0 ≤ 64)) = true := by kernel_rfl
theorem tabPC1_at (j : Nat) (h : j < tabPC1.length) : tabAt sPC1 j = tabPC1.getD j 0 := (of_decide_eq_true (List.all_eq_true.1 tabPC1_ok j (List.mem_range.2 h))).1
theorem tabPC1_in (j : Nat) (h : j < tabPC1.length) : 1 ≤ tabPC1.getD j 0 ∧ tabPC1.getD j 0 ≤ 64 := (of_decide_eq_true (List.all_eq_true.1 tabPC1_ok j (List.mem_range.2 h))).2
def sPC2 : ByteArray := ⟨#[49, 52, 49, 55, 49, 49, 50, 52, 48, 49, 48, 53, 48, 51, 50, 56, 49, 53, 48, 54, 50, 49, 49, 48, 50, 51, 49, 57, 49, 50, 48, 52, 50, 54, 48, 56, 49, 54, 48, 55, 50, 55, 50, 48, 49, 51, 48, 50, 52, 49, 53, 50, 51, 49, 51, 55, 52, 55, 53, 53, 51, 48, 52, 48, 53, 49, 52, 53, 51, 51, 52, 56, 52, 52, 52, 57, 51, 57, 53, 54, 51, 52, 53, 51, 52, 54, 52, 50, 53, 48, 51, 54, 50, 57, 51, 50]⟩
theorem sPC2_size : (sPC2.size : Int) = 2 * tabPC2.length := by kernel_rfl
theorem tabPC2_ok : ((List.range tabPC2.length).all fun j => decide (tabAt sPC2 j = tabPC2.getD j 0 ∧ 1 ≤ tabPC2.getD j 0 ∧ tabPC2.getD j 0 ≤ 56)) = true := by kernel_rfl
theorem tabPC2_at (j : Nat) (h : j < tabPC2.length) : tabAt sPC2 j = tabPC2.getD j 0 := (of_decide_eq_true (List.all_eq_true.1 tabPC2_ok j (List.mem_range.2 h))).1
theorem tabPC2_in (j : Nat) (h : j < tabPC2.length) : 1 ≤ tabPC2.getD j 0 ∧ tabPC2.getD j 0 ≤ 56 := (of_decide_eq_true (List.all_eq_true.1 tabPC2_ok j (List.mem_range.2 h))).2
theorem nator_bit (x y k : Nat) : (x ||| y) / 2 ^ k % 2 = if x / 2 ^ k % 2 + y / 2 ^ k % 2 = 0 then 0 else 1 := by
  have h := Nat.testBit_or x y k
  rw [Nat.testBit_eq_decide_div_mod_eq, Nat.testBit_eq_decide_div_mod_eq, Nat.testBit_eq_decide_div_mod_eq] at h
  have a := Nat.mod_two_eq_zero_or_one ((x ||| y) / 2 ^ k)
  have b := Nat.mod_two_eq_zero_or_one (x / 2 ^ k)
  have c := Nat.mod_two_eq_zero_or_one (y / 2 ^ k)
  rcases a with a | a <;> rcases b with b | b <;> rcases c with c | c <;> simp [a, b, c] at h ⊢
def orB (l m : List Int) : List Int := (List.range l.length).map fun i => if l.getD i 0 + m.getD i 0 = 0 then 0 else 1
theorem orB_01 (l m : List Int) : Bit01 (orB l m) := bit01_map _ fun i _ => by split <;> simp
theorem orB_length (l m : List Int) : (orB l m).length = l.length := by simp [orB]
theorem orB_get (l m : List Int) {i : Nat} (h : i < l.length) : (orB l m).getD i 0 = if l.getD i 0 + m.getD i 0 = 0 then 0 else 1 := rmap_get _ h
theorem toBits_or {x y : Int} (n : Nat) (x0 : 0 ≤ x) (x1 : x < 18446744073709551616) (y0 : 0 ≤ y) (y1 : y < 18446744073709551616) : toBits n (binI .or .u64 x y) = orB (toBits n x) (toBits n y) := by
  have hx : binI .or .u64 x y = ((x.toNat ||| y.toNat : Nat) : Int) := u64_or x y x0 x1 y0 y1
  rw [hx]
  refine list_eq_of_get (by rw [orB_length, toBits_length, toBits_length]) fun i hi => ?_
  rw [toBits_length] at hi
  rw [orB_get _ _ (by rw [toBits_length]; exact hi), toBits, toBits, toBits, rmap_get _ hi, rmap_get _ hi, rmap_get _ hi]
  have := nator_bit x.toNat y.toNat (n - 1 - i)
  have ex : x = (x.toNat : Int) := by omega
  have ey : y = (y.toNat : Int) := by omega
  rw [ex, ey, Int.toNat_natCast, Int.toNat_natCast]
  have hp : ((2 : Int) ^ (n - 1 - i)) = ((2 ^ (n - 1 - i) : Nat) : Int) := by simp
  rw [hp]
  generalize (2 : Nat) ^ (n - 1 - i) = q at *
  have h1 : ((x.toNat ||| y.toNat : Nat) : Int) / (q : Int) = (((x.toNat ||| y.toNat) / q : Nat) : Int) := rfl
  have h2 : ((x.toNat : Nat) : Int) / (q : Int) = ((x.toNat / q : Nat) : Int) := rfl
  have h3 : ((y.toNat : Nat) : Int) / (q : Int) = ((y.toNat / q : Nat) : Int) := rfl
  rw [h1, h2, h3]
  by_cases hz : x.toNat / q % 2 + y.toNat / q % 2 = 0
  · rw [if_pos hz] at this
    rw [if_pos (by omega)]; omega
  · rw [if_neg hz] at this
    rw [if_neg (by omega)]; omega
theorem or_ofBits {a b : List Int} (ha : Bit01 a) (hb : Bit01 b) (la : a.length = 64) (lb : b.length = 64) : binI .or .u64 (ofBits a) (ofBits b) = ofBits (orB a b) := by
  have h1 := ofBits_64 ha (by omega)
  have h2 := ofBits_64 hb (by omega)
  have hx : binI .or .u64 (ofBits a) (ofBits b) = (((ofBits a).toNat ||| (ofBits b).toNat : Nat) : Int) := u64_or _ _ h1.1 h1.2 h2.1 h2.2
  have h3 : binI .or .u64 (ofBits a) (ofBits b) < 18446744073709551616 := by
    rw [hx]
    have := Nat.or_lt_two_pow (n := 64) (x := (ofBits a).toNat) (y := (ofBits b).toNat) (by omega) (by omega)
    omega
  have h4 : 0 ≤ binI .or .u64 (ofBits a) (ofBits b) := by rw [hx]; omega
  rw [← ofBits_toBits (n := 64) h4 h3, toBits_or _ h1.1 h1.2 h2.1 h2.2, toBits_ofBits ha la.symm, toBits_ofBits hb lb.symm]
/-- One bit, at a place. -/
def oneB (p : Nat) (b : Int) : List Int := List.replicate p 0 ++ b :: List.replicate (63 - p) 0
theorem ofBits_zeros : ∀ n, ofBits (List.replicate n 0) = 0
  | 0 => rfl
  | n + 1 => by rw [List.replicate_succ, ofBits_cons, ofBits_zeros n]; simp
theorem oneB_val (p : Nat) (b : Int) : ofBits (oneB p b) = b * 2 ^ (63 - p) := by
  rw [oneB, ofBits_append, ofBits_zeros, ofBits_cons, ofBits_zeros, List.length_replicate]; simp
theorem oneB_length {p : Nat} (h : p < 64) (b : Int) : (oneB p b).length = 64 := by simp [oneB]; omega
theorem oneB_01 (p : Nat) {b : Int} (hb : b = 0 ∨ b = 1) : Bit01 (oneB p b) := fun x hx => by
  simp only [oneB, List.mem_append, List.mem_cons, List.mem_replicate] at hx
  rcases hx with h | h | h
  · exact .inl h.2
  · rw [h]; exact hb
  · exact .inl h.2
theorem oneB_get (p : Nat) (b : Int) (i : Nat) : (oneB p b).getD i 0 = if i = p then b else 0 := by
  simp only [oneB, List.getD_eq_getElem?_getD]
  by_cases h1 : i < p
  · rw [List.getElem?_append_left (by rw [List.length_replicate]; exact h1), if_neg (by omega), List.getElem?_replicate, if_pos h1]; rfl
  · rw [List.getElem?_append_right (by rw [List.length_replicate]; omega), List.length_replicate]
    by_cases h2 : i = p
    · subst h2; rw [Nat.sub_self, if_pos rfl]; rfl
    · obtain ⟨q, hq⟩ : ∃ q, i - p = q + 1 := ⟨i - p - 1, by omega⟩
      rw [hq, if_neg h2, List.getElem?_cons_succ, List.getElem?_replicate]
      split <;> rfl
def unpN (l : List Int) (j : Nat) : List Int := (List.range 64).map fun p => if backIP p < j then l.getD (backIP p) 0 else 0
theorem unpN_01 {l : List Int} (h : Bit01 l) (j : Nat) : Bit01 (unpN l j) := bit01_map _ fun i _ => by
  split
  · exact h.get _
  · exact .inl rfl
theorem unpN_length (l : List Int) (j : Nat) : (unpN l j).length = 64 := by simp [unpN]
theorem unpN_zero (l : List Int) : ofBits (unpN l 0) = 0 := by
  have : unpN l 0 = List.replicate 64 0 := by
    refine rmap_eq (by simp) fun i hi => ?_
    rw [if_neg (by omega), List.getD_eq_getElem?_getD, List.getElem?_replicate, if_pos hi]; rfl
  rw [this, ofBits_zeros]
theorem unpN_all (l : List Int) : unpN l 64 = unpermB l := by
  refine List.map_congr_left fun i hi => ?_
  rw [if_pos (ip_at (List.mem_range.1 hi)).2.2.2.1]
theorem unpN_next {l : List Int} (h : Bit01 l) {j : Nat} (hj : j < 64) : orB (unpN l j) (oneB ((tabIP.getD j 0) - 1).toNat (l.getD j 0)) = unpN l (j + 1) := by
  refine list_eq_of_get (by rw [orB_length, unpN_length, unpN_length]) fun i hi => ?_
  rw [orB_length, unpN_length] at hi
  have a := ip_at hj
  have b := ip_at hi
  rw [orB_get _ _ (by rw [unpN_length]; exact hi), oneB_get, unpN, unpN, rmap_get _ hi, rmap_get _ hi]
  have u : (if i = ((tabIP.getD j 0) - 1).toNat then l.getD j 0 else 0) = if backIP i = j then l.getD (backIP i) 0 else 0 := by
    by_cases e : i = ((tabIP.getD j 0) - 1).toNat
    · have e2 : backIP i = j := by rw [e]; exact a.1
      rw [if_pos e, if_pos e2, e2]
    · have e2 : backIP i ≠ j := fun q => e (by rw [← q]; exact b.2.2.2.2.symm)
      rw [if_neg e, if_neg e2]
  rw [u]
  have hq := h.get (backIP i)
  generalize l.getD (backIP i) 0 = v at *
  generalize backIP i = q at *
  clear u a b
  by_cases h1 : q < j
  · have h2 : ¬ q = j := by omega
    have h3 : q < j + 1 := by omega
    simp only [h1, h2, h3, if_true, if_false]
    rcases hq with h | h <;> rw [h] <;> rfl
  · by_cases h2 : q = j
    · have h3 : q < j + 1 := by omega
      simp only [h1, h2, h3, if_true, if_false, Nat.lt_irrefl, Nat.lt_succ_self]
      rcases hq with h | h <;> rw [h] <;> rfl
    · have h3 : ¬ q < j + 1 := by omega
      simp only [h1, h2, h3, if_true, if_false]
      rfl
/-- A bit laid at its place. -/
theorem unp_step {l : List Int} (h : Bit01 l) (hl : l.length = 64) {j : Nat} (hj : j < 64) {p q : Int} (hp : p = 63 - j) (hq : q = 64 - tabIP.getD j 0) :
    binI .or .u64 (ofBits (unpN l j)) (binI .shl .u64 (binI .and .u64 (binI .shr .u64 (ofBits l) p) 1) q) = ofBits (unpN l (j + 1)) := by
  have a := ip_at hj
  have e1 := mid_and h (by omega) (p := p) j 1 (by omega) (by omega)
  rw [show (2 : Int) ^ 1 - 1 = 1 from rfl] at e1
  have e2 : ofBits ((l.drop j).take 1) = l.getD j 0 := by
    rw [List.take_one, List.head?_drop, List.getElem?_eq_getElem (by omega), List.getD_eq_getElem?_getD, List.getElem?_eq_getElem (by omega)]
    simp [ofBits]
  rw [e1, e2, shl64 (by omega) (by omega)]
  have hb := h.get j
  have e3 : l.getD j 0 * 2 ^ q.toNat % 2 ^ 64 = ofBits (oneB ((tabIP.getD j 0) - 1).toNat (l.getD j 0)) := by
    rw [oneB_val, show q.toNat = 63 - ((tabIP.getD j 0) - 1).toNat by omega]
    have hp : (0 : Int) < 2 ^ (63 - ((tabIP.getD j 0) - 1).toNat) := Int.pow_pos (by decide)
    have hp2 : (2 : Int) ^ (63 - ((tabIP.getD j 0) - 1).toNat) < 2 ^ 64 := by
      have h1 := Nat.pow_lt_pow_right (show 1 < 2 by decide) (show 63 - ((tabIP.getD j 0) - 1).toNat < 64 by omega)
      have h2 : ((2 ^ (63 - ((tabIP.getD j 0) - 1).toNat) : Nat) : Int) < ((2 ^ 64 : Nat) : Int) := Int.ofNat_lt.2 h1
      rw [Int.natCast_pow] at h2
      exact h2
    refine Int.emod_eq_of_lt ?_ ?_
    · rcases hb with h | h <;> rw [h] <;> omega
    · rcases hb with h | h <;> rw [h] <;> omega
  rw [e3, or_ofBits (unpN_01 h j) (oneB_01 _ hb) (unpN_length _ _) (oneB_length (by omega) _), unpN_next h hj]
end Sx
set_option linter.unusedVariables false
namespace Sx
open Go
set_option maxRecDepth 100000
/-! DES at the document's example, reckoned out. -/
def exK : List Int := [19, 52, 87, 121, 155, 188, 223, 241]
def exB : List Int := [1, 35, 69, 103, 137, 171, 205, 239]
theorem exBits : bitsOf exK = [0, 0, 0, 1, 0, 0, 1, 1, 0, 0, 1, 1, 0, 1, 0, 0, 0, 1, 0, 1, 0, 1, 1, 1, 0, 1, 1, 1, 1, 0, 0, 1, 1, 0, 0, 1, 1, 0, 1, 1, 1, 0, 1, 1, 1, 1, 0, 0, 1, 1, 0, 1, 1, 1, 1, 1, 1, 1, 1, 1, 0, 0, 0, 1] := by kernel_rfl
theorem exT : (permB [0, 0, 0, 1, 0, 0, 1, 1, 0, 0, 1, 1, 0, 1, 0, 0, 0, 1, 0, 1, 0, 1, 1, 1, 0, 1, 1, 1, 1, 0, 0, 1, 1, 0, 0, 1, 1, 0, 1, 1, 1, 0, 1, 1, 1, 1, 0, 0, 1, 1, 0, 1, 1, 1, 1, 1, 1, 1, 1, 1, 0, 0, 0, 1] tabPC1).take 28 = [1, 1, 1, 1, 0, 0, 0, 0, 1, 1, 0, 0, 1, 1, 0, 0, 1, 0, 1, 0, 1, 0, 1, 0, 1, 1, 1, 1] := by kernel_rfl
theorem exD : (permB [0, 0, 0, 1, 0, 0, 1, 1, 0, 0, 1, 1, 0, 1, 0, 0, 0, 1, 0, 1, 0, 1, 1, 1, 0, 1, 1, 1, 1, 0, 0, 1, 1, 0, 0, 1, 1, 0, 1, 1, 1, 0, 1, 1, 1, 1, 0, 0, 1, 1, 0, 1, 1, 1, 1, 1, 1, 1, 1, 1, 0, 0, 0, 1] tabPC1).drop 28 = [0, 1, 0, 1, 0, 1, 0, 1, 0, 1, 1, 0, 0, 1, 1, 0, 0, 1, 1, 1, 1, 0, 0, 0, 1, 1, 1, 1] := by kernel_rfl
theorem exC0 : cdN [1, 1, 1, 1, 0, 0, 0, 0, 1, 1, 0, 0, 1, 1, 0, 0, 1, 0, 1, 0, 1, 0, 1, 0, 1, 1, 1, 1] [0, 1, 0, 1, 0, 1, 0, 1, 0, 1, 1, 0, 0, 1, 1, 0, 0, 1, 1, 1, 1, 0, 0, 0, 1, 1, 1, 1] 0 = ([1, 1, 1, 1, 0, 0, 0, 0, 1, 1, 0, 0, 1, 1, 0, 0, 1, 0, 1, 0, 1, 0, 1, 0, 1, 1, 1, 1], [0, 1, 0, 1, 0, 1, 0, 1, 0, 1, 1, 0, 0, 1, 1, 0, 0, 1, 1, 1, 1, 0, 0, 0, 1, 1, 1, 1]) := rfl
theorem exC1 : cdN [1, 1, 1, 1, 0, 0, 0, 0, 1, 1, 0, 0, 1, 1, 0, 0, 1, 0, 1, 0, 1, 0, 1, 0, 1, 1, 1, 1] [0, 1, 0, 1, 0, 1, 0, 1, 0, 1, 1, 0, 0, 1, 1, 0, 0, 1, 1, 1, 1, 0, 0, 0, 1, 1, 1, 1] 1 = ([1, 1, 1, 0, 0, 0, 0, 1, 1, 0, 0, 1, 1, 0, 0, 1, 0, 1, 0, 1, 0, 1, 0, 1, 1, 1, 1, 1], [1, 0, 1, 0, 1, 0, 1, 0, 1, 1, 0, 0, 1, 1, 0, 0, 1, 1, 1, 1, 0, 0, 0, 1, 1, 1, 1, 0]) := by rw [cdN, exC0]; kernel_rfl
theorem exKey0 : keyB (bitsOf exK) 0 = [0, 0, 0, 1, 1, 0, 1, 1, 0, 0, 0, 0, 0, 0, 1, 0, 1, 1, 1, 0, 1, 1, 1, 1, 1, 1, 1, 1, 1, 1, 0, 0, 0, 1, 1, 1, 0, 0, 0, 0, 0, 1, 1, 1, 0, 0, 1, 0] := by
  rw [exBits]
  show permB ((cdN ((permB [0, 0, 0, 1, 0, 0, 1, 1, 0, 0, 1, 1, 0, 1, 0, 0, 0, 1, 0, 1, 0, 1, 1, 1, 0, 1, 1, 1, 1, 0, 0, 1, 1, 0, 0, 1, 1, 0, 1, 1, 1, 0, 1, 1, 1, 1, 0, 0, 1, 1, 0, 1, 1, 1, 1, 1, 1, 1, 1, 1, 0, 0, 0, 1] tabPC1).take 28) ((permB [0, 0, 0, 1, 0, 0, 1, 1, 0, 0, 1, 1, 0, 1, 0, 0, 0, 1, 0, 1, 0, 1, 1, 1, 0, 1, 1, 1, 1, 0, 0, 1, 1, 0, 0, 1, 1, 0, 1, 1, 1, 0, 1, 1, 1, 1, 0, 0, 1, 1, 0, 1, 1, 1, 1, 1, 1, 1, 1, 1, 0, 0, 0, 1] tabPC1).drop 28) 1).1 ++ (cdN ((permB [0, 0, 0, 1, 0, 0, 1, 1, 0, 0, 1, 1, 0, 1, 0, 0, 0, 1, 0, 1, 0, 1, 1, 1, 0, 1, 1, 1, 1, 0, 0, 1, 1, 0, 0, 1, 1, 0, 1, 1, 1, 0, 1, 1, 1, 1, 0, 0, 1, 1, 0, 1, 1, 1, 1, 1, 1, 1, 1, 1, 0, 0, 0, 1] tabPC1).take 28) ((permB [0, 0, 0, 1, 0, 0, 1, 1, 0, 0, 1, 1, 0, 1, 0, 0, 0, 1, 0, 1, 0, 1, 1, 1, 0, 1, 1, 1, 1, 0, 0, 1, 1, 0, 0, 1, 1, 0, 1, 1, 1, 0, 1, 1, 1, 1, 0, 0, 1, 1, 0, 1, 1, 1, 1, 1, 1, 1, 1, 1, 0, 0, 0, 1] tabPC1).drop 28) 1).2) tabPC2 = _
  rw [exT, exD, exC1]; kernel_rfl
theorem exC2 : cdN [1, 1, 1, 1, 0, 0, 0, 0, 1, 1, 0, 0, 1, 1, 0, 0, 1, 0, 1, 0, 1, 0, 1, 0, 1, 1, 1, 1] [0, 1, 0, 1, 0, 1, 0, 1, 0, 1, 1, 0, 0, 1, 1, 0, 0, 1, 1, 1, 1, 0, 0, 0, 1, 1, 1, 1] 2 = ([1, 1, 0, 0, 0, 0, 1, 1, 0, 0, 1, 1, 0, 0, 1, 0, 1, 0, 1, 0, 1, 0, 1, 1, 1, 1, 1, 1], [0, 1, 0, 1, 0, 1, 0, 1, 1, 0, 0, 1, 1, 0, 0, 1, 1, 1, 1, 0, 0, 0, 1, 1, 1, 1, 0, 1]) := by rw [cdN, exC1]; kernel_rfl
theorem exKey1 : keyB (bitsOf exK) 1 = [0, 1, 1, 1, 1, 0, 0, 1, 1, 0, 1, 0, 1, 1, 1, 0, 1, 1, 0, 1, 1, 0, 0, 1, 1, 1, 0, 1, 1, 0, 1, 1, 1, 1, 0, 0, 1, 0, 0, 1, 1, 1, 1, 0, 0, 1, 0, 1] := by
  rw [exBits]
  show permB ((cdN ((permB [0, 0, 0, 1, 0, 0, 1, 1, 0, 0, 1, 1, 0, 1, 0, 0, 0, 1, 0, 1, 0, 1, 1, 1, 0, 1, 1, 1, 1, 0, 0, 1, 1, 0, 0, 1, 1, 0, 1, 1, 1, 0, 1, 1, 1, 1, 0, 0, 1, 1, 0, 1, 1, 1, 1, 1, 1, 1, 1, 1, 0, 0, 0, 1] tabPC1).take 28) ((permB [0, 0, 0, 1, 0, 0, 1, 1, 0, 0, 1, 1, 0, 1, 0, 0, 0, 1, 0, 1, 0, 1, 1, 1, 0, 1, 1, 1, 1, 0, 0, 1, 1, 0, 0, 1, 1, 0, 1, 1, 1, 0, 1, 1, 1, 1, 0, 0, 1, 1, 0, 1, 1, 1, 1, 1, 1, 1, 1, 1, 0, 0, 0, 1] tabPC1).drop 28) 2).1 ++ (cdN ((permB [0, 0, 0, 1, 0, 0, 1, 1, 0, 0, 1, 1, 0, 1, 0, 0, 0, 1, 0, 1, 0, 1, 1, 1, 0, 1, 1, 1, 1, 0, 0, 1, 1, 0, 0, 1, 1, 0, 1, 1, 1, 0, 1, 1, 1, 1, 0, 0, 1, 1, 0, 1, 1, 1, 1, 1, 1, 1, 1, 1, 0, 0, 0, 1] tabPC1).take 28) ((permB [0, 0, 0, 1, 0, 0, 1, 1, 0, 0, 1, 1, 0, 1, 0, 0, 0, 1, 0, 1, 0, 1, 1, 1, 0, 1, 1, 1, 1, 0, 0, 1, 1, 0, 0, 1, 1, 0, 1, 1, 1, 0, 1, 1, 1, 1, 0, 0, 1, 1, 0, 1, 1, 1, 1, 1, 1, 1, 1, 1, 0, 0, 0, 1] tabPC1).drop 28) 2).2) tabPC2 = _
  rw [exT, exD, exC2]; kernel_rfl
theorem exC3 : cdN [1, 1, 1, 1, 0, 0, 0, 0, 1, 1, 0, 0, 1, 1, 0, 0, 1, 0, 1, 0, 1, 0, 1, 0, 1, 1, 1, 1] [0, 1, 0, 1, 0, 1, 0, 1, 0, 1, 1, 0, 0, 1, 1, 0, 0, 1, 1, 1, 1, 0, 0, 0, 1, 1, 1, 1] 3 = ([0, 0, 0, 0, 1, 1, 0, 0, 1, 1, 0, 0, 1, 0, 1, 0, 1, 0, 1, 0, 1, 1, 1, 1, 1, 1, 1, 1], [0, 1, 0, 1, 0, 1, 1, 0, 0, 1, 1, 0, 0, 1, 1, 1, 1, 0, 0, 0, 1, 1, 1, 1, 0, 1, 0, 1]) := by rw [cdN, exC2]; kernel_rfl
theorem exKey2 : keyB (bitsOf exK) 2 = [0, 1, 0, 1, 0, 1, 0, 1, 1, 1, 1, 1, 1, 1, 0, 0, 1, 0, 0, 0, 1, 0, 1, 0, 0, 1, 0, 0, 0, 0, 1, 0, 1, 1, 0, 0, 1, 1, 1, 1, 1, 0, 0, 1, 1, 0, 0, 1] := by
  rw [exBits]
  show permB ((cdN ((permB [0, 0, 0, 1, 0, 0, 1, 1, 0, 0, 1, 1, 0, 1, 0, 0, 0, 1, 0, 1, 0, 1, 1, 1, 0, 1, 1, 1, 1, 0, 0, 1, 1, 0, 0, 1, 1, 0, 1, 1, 1, 0, 1, 1, 1, 1, 0, 0, 1, 1, 0, 1, 1, 1, 1, 1, 1, 1, 1, 1, 0, 0, 0, 1] tabPC1).take 28) ((permB [0, 0, 0, 1, 0, 0, 1, 1, 0, 0, 1, 1, 0, 1, 0, 0, 0, 1, 0, 1, 0, 1, 1, 1, 0, 1, 1, 1, 1, 0, 0, 1, 1, 0, 0, 1, 1, 0, 1, 1, 1, 0, 1, 1, 1, 1, 0, 0, 1, 1, 0, 1, 1, 1, 1, 1, 1, 1, 1, 1, 0, 0, 0, 1] tabPC1).drop 28) 3).1 ++ (cdN ((permB [0, 0, 0, 1, 0, 0, 1, 1, 0, 0, 1, 1, 0, 1, 0, 0, 0, 1, 0, 1, 0, 1, 1, 1, 0, 1, 1, 1, 1, 0, 0, 1, 1, 0, 0, 1, 1, 0, 1, 1, 1, 0, 1, 1, 1, 1, 0, 0, 1, 1, 0, 1, 1, 1, 1, 1, 1, 1, 1, 1, 0, 0, 0, 1] tabPC1).take 28) ((permB [0, 0, 0, 1, 0, 0, 1, 1, 0, 0, 1, 1, 0, 1, 0, 0, 0, 1, 0, 1, 0, 1, 1, 1, 0, 1, 1, 1, 1, 0, 0, 1, 1, 0, 0, 1, 1, 0, 1, 1, 1, 0, 1, 1, 1, 1, 0, 0, 1, 1, 0, 1, 1, 1, 1, 1, 1, 1, 1, 1, 0, 0, 0, 1] tabPC1).drop 28) 3).2) tabPC2 = _
  rw [exT, exD, exC3]; kernel_rfl
theorem exC4 : cdN [1, 1, 1, 1, 0, 0, 0, 0, 1, 1, 0, 0, 1, 1, 0, 0, 1, 0, 1, 0, 1, 0, 1, 0, 1, 1, 1, 1] [0, 1, 0, 1, 0, 1, 0, 1, 0, 1, 1, 0, 0, 1, 1, 0, 0, 1, 1, 1, 1, 0, 0, 0, 1, 1, 1, 1] 4 = ([0, 0, 1, 1, 0, 0, 1, 1, 0, 0, 1, 0, 1, 0, 1, 0, 1, 0, 1, 1, 1, 1, 1, 1, 1, 1, 0, 0], [0, 1, 0, 1, 1, 0, 0, 1, 1, 0, 0, 1, 1, 1, 1, 0, 0, 0, 1, 1, 1, 1, 0, 1, 0, 1, 0, 1]) := by rw [cdN, exC3]; kernel_rfl
theorem exKey3 : keyB (bitsOf exK) 3 = [0, 1, 1, 1, 0, 0, 1, 0, 1, 0, 1, 0, 1, 1, 0, 1, 1, 1, 0, 1, 0, 1, 1, 0, 1, 1, 0, 1, 1, 0, 1, 1, 0, 0, 1, 1, 0, 1, 0, 1, 0, 0, 0, 1, 1, 1, 0, 1] := by
  rw [exBits]
  show permB ((cdN ((permB [0, 0, 0, 1, 0, 0, 1, 1, 0, 0, 1, 1, 0, 1, 0, 0, 0, 1, 0, 1, 0, 1, 1, 1, 0, 1, 1, 1, 1, 0, 0, 1, 1, 0, 0, 1, 1, 0, 1, 1, 1, 0, 1, 1, 1, 1, 0, 0, 1, 1, 0, 1, 1, 1, 1, 1, 1, 1, 1, 1, 0, 0, 0, 1] tabPC1).take 28) ((permB [0, 0, 0, 1, 0, 0, 1, 1, 0, 0, 1, 1, 0, 1, 0, 0, 0, 1, 0, 1, 0, 1, 1, 1, 0, 1, 1, 1, 1, 0, 0, 1, 1, 0, 0, 1, 1, 0, 1, 1, 1, 0, 1, 1, 1, 1, 0, 0, 1, 1, 0, 1, 1, 1, 1, 1, 1, 1, 1, 1, 0, 0, 0, 1] tabPC1).drop 28) 4).1 ++ (cdN ((permB [0, 0, 0, 1, 0, 0, 1, 1, 0, 0, 1, 1, 0, 1, 0, 0, 0, 1, 0, 1, 0, 1, 1, 1, 0, 1, 1, 1, 1, 0, 0, 1, 1, 0, 0, 1, 1, 0, 1, 1, 1, 0, 1, 1, 1, 1, 0, 0, 1, 1, 0, 1, 1, 1, 1, 1, 1, 1, 1, 1, 0, 0, 0, 1] tabPC1).take 28) ((permB [0, 0, 0, 1, 0, 0, 1, 1, 0, 0, 1, 1, 0, 1, 0, 0, 0, 1, 0, 1, 0, 1, 1, 1, 0, 1, 1, 1, 1, 0, 0, 1, 1, 0, 0, 1, 1, 0, 1, 1, 1, 0, 1, 1, 1, 1, 0, 0, 1, 1, 0, 1, 1, 1, 1, 1, 1, 1, 1, 1, 0, 0, 0, 1] tabPC1).drop 28) 4).2) tabPC2 = _
  rw [exT, exD, exC4]; kernel_rfl
theorem exC5 : cdN [1, 1, 1, 1, 0, 0, 0, 0, 1, 1, 0, 0, 1, 1, 0, 0, 1, 0, 1, 0, 1, 0, 1, 0, 1, 1, 1, 1] [0, 1, 0, 1, 0, 1, 0, 1, 0, 1, 1, 0, 0, 1, 1, 0, 0, 1, 1, 1, 1, 0, 0, 0, 1, 1, 1, 1] 5 = ([1, 1, 0, 0, 1, 1, 0, 0, 1, 0, 1, 0, 1, 0, 1, 0, 1, 1, 1, 1, 1, 1, 1, 1, 0, 0, 0, 0], [0, 1, 1, 0, 0, 1, 1, 0, 0, 1, 1, 1, 1, 0, 0, 0, 1, 1, 1, 1, 0, 1, 0, 1, 0, 1, 0, 1]) := by rw [cdN, exC4]; kernel_rfl
theorem exKey4 : keyB (bitsOf exK) 4 = [0, 1, 1, 1, 1, 1, 0, 0, 1, 1, 1, 0, 1, 1, 0, 0, 0, 0, 0, 0, 0, 1, 1, 1, 1, 1, 1, 0, 1, 0, 1, 1, 0, 1, 0, 1, 0, 0, 1, 1, 1, 0, 1, 0, 1, 0, 0, 0] := by
  rw [exBits]
  show permB ((cdN ((permB [0, 0, 0, 1, 0, 0, 1, 1, 0, 0, 1, 1, 0, 1, 0, 0, 0, 1, 0, 1, 0, 1, 1, 1, 0, 1, 1, 1, 1, 0, 0, 1, 1, 0, 0, 1, 1, 0, 1, 1, 1, 0, 1, 1, 1, 1, 0, 0, 1, 1, 0, 1, 1, 1, 1, 1, 1, 1, 1, 1, 0, 0, 0, 1] tabPC1).take 28) ((permB [0, 0, 0, 1, 0, 0, 1, 1, 0, 0, 1, 1, 0, 1, 0, 0, 0, 1, 0, 1, 0, 1, 1, 1, 0, 1, 1, 1, 1, 0, 0, 1, 1, 0, 0, 1, 1, 0, 1, 1, 1, 0, 1, 1, 1, 1, 0, 0, 1, 1, 0, 1, 1, 1, 1, 1, 1, 1, 1, 1, 0, 0, 0, 1] tabPC1).drop 28) 5).1 ++ (cdN ((permB [0, 0, 0, 1, 0, 0, 1, 1, 0, 0, 1, 1, 0, 1, 0, 0, 0, 1, 0, 1, 0, 1, 1, 1, 0, 1, 1, 1, 1, 0, 0, 1, 1, 0, 0, 1, 1, 0, 1, 1, 1, 0, 1, 1, 1, 1, 0, 0, 1, 1, 0, 1, 1, 1, 1, 1, 1, 1, 1, 1, 0, 0, 0, 1] tabPC1).take 28) ((permB [0, 0, 0, 1, 0, 0, 1, 1, 0, 0, 1, 1, 0, 1, 0, 0, 0, 1, 0, 1, 0, 1, 1, 1, 0, 1, 1, 1, 1, 0, 0, 1, 1, 0, 0, 1, 1, 0, 1, 1, 1, 0, 1, 1, 1, 1, 0, 0, 1, 1, 0, 1, 1, 1, 1, 1, 1, 1, 1, 1, 0, 0, 0, 1] tabPC1).drop 28) 5).2) tabPC2 = _
  rw [exT, exD, exC5]; kernel_rfl
theorem exC6 : cdN [1, 1, 1, 1, 0, 0, 0, 0, 1, 1, 0, 0, 1, 1, 0, 0, 1, 0, 1, 0, 1, 0, 1, 0, 1, 1, 1, 1] [0, 1, 0, 1, 0, 1, 0, 1, 0, 1, 1, 0, 0, 1, 1, 0, 0, 1, 1, 1, 1, 0, 0, 0, 1, 1, 1, 1] 6 = ([0, 0, 1, 1, 0, 0, 1, 0, 1, 0, 1, 0, 1, 0, 1, 1, 1, 1, 1, 1, 1, 1, 0, 0, 0, 0, 1, 1], [1, 0, 0, 1, 1, 0, 0, 1, 1, 1, 1, 0, 0, 0, 1, 1, 1, 1, 0, 1, 0, 1, 0, 1, 0, 1, 0, 1]) := by rw [cdN, exC5]; kernel_rfl
theorem exKey5 : keyB (bitsOf exK) 5 = [0, 1, 1, 0, 0, 0, 1, 1, 1, 0, 1, 0, 0, 1, 0, 1, 0, 0, 1, 1, 1, 1, 1, 0, 0, 1, 0, 1, 0, 0, 0, 0, 0, 1, 1, 1, 1, 0, 1, 1, 0, 0, 1, 0, 1, 1, 1, 1] := by
  rw [exBits]
  show permB ((cdN ((permB [0, 0, 0, 1, 0, 0, 1, 1, 0, 0, 1, 1, 0, 1, 0, 0, 0, 1, 0, 1, 0, 1, 1, 1, 0, 1, 1, 1, 1, 0, 0, 1, 1, 0, 0, 1, 1, 0, 1, 1, 1, 0, 1, 1, 1, 1, 0, 0, 1, 1, 0, 1, 1, 1, 1, 1, 1, 1, 1, 1, 0, 0, 0, 1] tabPC1).take 28) ((permB [0, 0, 0, 1, 0, 0, 1, 1, 0, 0, 1, 1, 0, 1, 0, 0, 0, 1, 0, 1, 0, 1, 1, 1, 0, 1, 1, 1, 1, 0, 0, 1, 1, 0, 0, 1, 1, 0, 1, 1, 1, 0, 1, 1, 1, 1, 0, 0, 1, 1, 0, 1, 1, 1, 1, 1, 1, 1, 1, 1, 0, 0, 0, 1] tabPC1).drop 28) 6).1 ++ (cdN ((permB [0, 0, 0, 1, 0, 0, 1, 1, 0, 0, 1, 1, 0, 1, 0, 0, 0, 1, 0, 1, 0, 1, 1, 1, 0, 1, 1, 1, 1, 0, 0, 1, 1, 0, 0, 1, 1, 0, 1, 1, 1, 0, 1, 1, 1, 1, 0, 0, 1, 1, 0, 1, 1, 1, 1, 1, 1, 1, 1, 1, 0, 0, 0, 1] tabPC1).take 28) ((permB [0, 0, 0, 1, 0, 0, 1, 1, 0, 0, 1, 1, 0, 1, 0, 0, 0, 1, 0, 1, 0, 1, 1, 1, 0, 1, 1, 1, 1, 0, 0, 1, 1, 0, 0, 1, 1, 0, 1, 1, 1, 0, 1, 1, 1, 1, 0, 0, 1, 1, 0, 1, 1, 1, 1, 1, 1, 1, 1, 1, 0, 0, 0, 1] tabPC1).drop 28) 6).2) tabPC2 = _
  rw [exT, exD, exC6]; kernel_rfl
theorem exC7 : cdN [1, 1, 1, 1, 0, 0, 0, 0, 1, 1, 0, 0, 1, 1, 0, 0, 1, 0, 1, 0, 1, 0, 1, 0, 1, 1, 1, 1] [0, 1, 0, 1, 0, 1, 0, 1, 0, 1, 1, 0, 0, 1, 1, 0, 0, 1, 1, 1, 1, 0, 0, 0, 1, 1, 1, 1] 7 = ([1, 1, 0, 0, 1, 0, 1, 0, 1, 0, 1, 0, 1, 1, 1, 1, 1, 1, 1, 1, 0, 0, 0, 0, 1, 1, 0, 0], [0, 1, 1, 0, 0, 1, 1, 1, 1, 0, 0, 0, 1, 1, 1, 1, 0, 1, 0, 1, 0, 1, 0, 1, 0, 1, 1, 0]) := by rw [cdN, exC6]; kernel_rfl
theorem exKey6 : keyB (bitsOf exK) 6 = [1, 1, 1, 0, 1, 1, 0, 0, 1, 0, 0, 0, 0, 1, 0, 0, 1, 0, 1, 1, 0, 1, 1, 1, 1, 1, 1, 1, 0, 1, 1, 0, 0, 0, 0, 1, 1, 0, 0, 0, 1, 0, 1, 1, 1, 1, 0, 0] := by
  rw [exBits]
  show permB ((cdN ((permB [0, 0, 0, 1, 0, 0, 1, 1, 0, 0, 1, 1, 0, 1, 0, 0, 0, 1, 0, 1, 0, 1, 1, 1, 0, 1, 1, 1, 1, 0, 0, 1, 1, 0, 0, 1, 1, 0, 1, 1, 1, 0, 1, 1, 1, 1, 0, 0, 1, 1, 0, 1, 1, 1, 1, 1, 1, 1, 1, 1, 0, 0, 0, 1] tabPC1).take 28) ((permB [0, 0, 0, 1, 0, 0, 1, 1, 0, 0, 1, 1, 0, 1, 0, 0, 0, 1, 0, 1, 0, 1, 1, 1, 0, 1, 1, 1, 1, 0, 0, 1, 1, 0, 0, 1, 1, 0, 1, 1, 1, 0, 1, 1, 1, 1, 0, 0, 1, 1, 0, 1, 1, 1, 1, 1, 1, 1, 1, 1, 0, 0, 0, 1] tabPC1).drop 28) 7).1 ++ (cdN ((permB [0, 0, 0, 1, 0, 0, 1, 1, 0, 0, 1, 1, 0, 1, 0, 0, 0, 1, 0, 1, 0, 1, 1, 1, 0, 1, 1, 1, 1, 0, 0, 1, 1, 0, 0, 1, 1, 0, 1, 1, 1, 0, 1, 1, 1, 1, 0, 0, 1, 1, 0, 1, 1, 1, 1, 1, 1, 1, 1, 1, 0, 0, 0, 1] tabPC1).take 28) ((permB [0, 0, 0, 1, 0, 0, 1, 1, 0, 0, 1, 1, 0, 1, 0, 0, 0, 1, 0, 1, 0, 1, 1, 1, 0, 1, 1, 1, 1, 0, 0, 1, 1, 0, 0, 1, 1, 0, 1, 1, 1, 0, 1, 1, 1, 1, 0, 0, 1, 1, 0, 1, 1, 1, 1, 1, 1, 1, 1, 1, 0, 0, 0, 1] tabPC1).drop 28) 7).2) tabPC2 = _
  rw [exT, exD, exC7]; kernel_rfl
theorem exC8 : cdN [1, 1, 1, 1, 0, 0, 0, 0, 1, 1, 0, 0, 1, 1, 0, 0, 1, 0, 1, 0, 1, 0, 1, 0, 1, 1, 1, 1] [0, 1, 0, 1, 0, 1, 0, 1, 0, 1, 1, 0, 0, 1, 1, 0, 0, 1, 1, 1, 1, 0, 0, 0, 1, 1, 1, 1] 8 = ([0, 0, 1, 0, 1, 0, 1, 0, 1, 0, 1, 1, 1, 1, 1, 1, 1, 1, 0, 0, 0, 0, 1, 1, 0, 0, 1, 1], [1, 0, 0, 1, 1, 1, 1, 0, 0, 0, 1, 1, 1, 1, 0, 1, 0, 1, 0, 1, 0, 1, 0, 1, 1, 0, 0, 1]) := by rw [cdN, exC7]; kernel_rfl
theorem exKey7 : keyB (bitsOf exK) 7 = [1, 1, 1, 1, 0, 1, 1, 1, 1, 0, 0, 0, 1, 0, 1, 0, 0, 0, 1, 1, 1, 0, 1, 0, 1, 1, 0, 0, 0, 0, 0, 1, 0, 0, 1, 1, 1, 0, 1, 1, 1, 1, 1, 1, 1, 0, 1, 1] := by
  rw [exBits]
  show permB ((cdN ((permB [0, 0, 0, 1, 0, 0, 1, 1, 0, 0, 1, 1, 0, 1, 0, 0, 0, 1, 0, 1, 0, 1, 1, 1, 0, 1, 1, 1, 1, 0, 0, 1, 1, 0, 0, 1, 1, 0, 1, 1, 1, 0, 1, 1, 1, 1, 0, 0, 1, 1, 0, 1, 1, 1, 1, 1, 1, 1, 1, 1, 0, 0, 0, 1] tabPC1).take 28) ((permB [0, 0, 0, 1, 0, 0, 1, 1, 0, 0, 1, 1, 0, 1, 0, 0, 0, 1, 0, 1, 0, 1, 1, 1, 0, 1, 1, 1, 1, 0, 0, 1, 1, 0, 0, 1, 1, 0, 1, 1, 1, 0, 1, 1, 1, 1, 0, 0, 1, 1, 0, 1, 1, 1, 1, 1, 1, 1, 1, 1, 0, 0, 0, 1] tabPC1).drop 28) 8).1 ++ (cdN ((permB [0, 0, 0, 1, 0, 0, 1, 1, 0, 0, 1, 1, 0, 1, 0, 0, 0, 1, 0, 1, 0, 1, 1, 1, 0, 1, 1, 1, 1, 0, 0, 1, 1, 0, 0, 1, 1, 0, 1, 1, 1, 0, 1, 1, 1, 1, 0, 0, 1, 1, 0, 1, 1, 1, 1, 1, 1, 1, 1, 1, 0, 0, 0, 1] tabPC1).take 28) ((permB [0, 0, 0, 1, 0, 0, 1, 1, 0, 0, 1, 1, 0, 1, 0, 0, 0, 1, 0, 1, 0, 1, 1, 1, 0, 1, 1, 1, 1, 0, 0, 1, 1, 0, 0, 1, 1, 0, 1, 1, 1, 0, 1, 1, 1, 1, 0, 0, 1, 1, 0, 1, 1, 1, 1, 1, 1, 1, 1, 1, 0, 0, 0, 1] tabPC1).drop 28) 8).2) tabPC2 = _
  rw [exT, exD, exC8]; kernel_rfl
theorem exC9 : cdN [1, 1, 1, 1, 0, 0, 0, 0, 1, 1, 0, 0, 1, 1, 0, 0, 1, 0, 1, 0, 1, 0, 1, 0, 1, 1, 1, 1] [0, 1, 0, 1, 0, 1, 0, 1, 0, 1, 1, 0, 0, 1, 1, 0, 0, 1, 1, 1, 1, 0, 0, 0, 1, 1, 1, 1] 9 = ([0, 1, 0, 1, 0, 1, 0, 1, 0, 1, 1, 1, 1, 1, 1, 1, 1, 0, 0, 0, 0, 1, 1, 0, 0, 1, 1, 0], [0, 0, 1, 1, 1, 1, 0, 0, 0, 1, 1, 1, 1, 0, 1, 0, 1, 0, 1, 0, 1, 0, 1, 1, 0, 0, 1, 1]) := by rw [cdN, exC8]; kernel_rfl
theorem exKey8 : keyB (bitsOf exK) 8 = [1, 1, 1, 0, 0, 0, 0, 0, 1, 1, 0, 1, 1, 0, 1, 1, 1, 1, 1, 0, 1, 0, 1, 1, 1, 1, 1, 0, 1, 1, 0, 1, 1, 1, 1, 0, 0, 1, 1, 1, 1, 0, 0, 0, 0, 0, 0, 1] := by
  rw [exBits]
  show permB ((cdN ((permB [0, 0, 0, 1, 0, 0, 1, 1, 0, 0, 1, 1, 0, 1, 0, 0, 0, 1, 0, 1, 0, 1, 1, 1, 0, 1, 1, 1, 1, 0, 0, 1, 1, 0, 0, 1, 1, 0, 1, 1, 1, 0, 1, 1, 1, 1, 0, 0, 1, 1, 0, 1, 1, 1, 1, 1, 1, 1, 1, 1, 0, 0, 0, 1] tabPC1).take 28) ((permB [0, 0, 0, 1, 0, 0, 1, 1, 0, 0, 1, 1, 0, 1, 0, 0, 0, 1, 0, 1, 0, 1, 1, 1, 0, 1, 1, 1, 1, 0, 0, 1, 1, 0, 0, 1, 1, 0, 1, 1, 1, 0, 1, 1, 1, 1, 0, 0, 1, 1, 0, 1, 1, 1, 1, 1, 1, 1, 1, 1, 0, 0, 0, 1] tabPC1).drop 28) 9).1 ++ (cdN ((permB [0, 0, 0, 1, 0, 0, 1, 1, 0, 0, 1, 1, 0, 1, 0, 0, 0, 1, 0, 1, 0, 1, 1, 1, 0, 1, 1, 1, 1, 0, 0, 1, 1, 0, 0, 1, 1, 0, 1, 1, 1, 0, 1, 1, 1, 1, 0, 0, 1, 1, 0, 1, 1, 1, 1, 1, 1, 1, 1, 1, 0, 0, 0, 1] tabPC1).take 28) ((permB [0, 0, 0, 1, 0, 0, 1, 1, 0, 0, 1, 1, 0, 1, 0, 0, 0, 1, 0, 1, 0, 1, 1, 1, 0, 1, 1, 1, 1, 0, 0, 1, 1, 0, 0, 1, 1, 0, 1, 1, 1, 0, 1, 1, 1, 1, 0, 0, 1, 1, 0, 1, 1, 1, 1, 1, 1, 1, 1, 1, 0, 0, 0, 1] tabPC1).drop 28) 9).2) tabPC2 = _
  rw [exT, exD, exC9]; kernel_rfl
theorem exC10 : cdN [1, 1, 1, 1, 0, 0, 0, 0, 1, 1, 0, 0, 1, 1, 0, 0, 1, 0, 1, 0, 1, 0, 1, 0, 1, 1, 1, 1] [0, 1, 0, 1, 0, 1, 0, 1, 0, 1, 1, 0, 0, 1, 1, 0, 0, 1, 1, 1, 1, 0, 0, 0, 1, 1, 1, 1] 10 = ([0, 1, 0, 1, 0, 1, 0, 1, 1, 1, 1, 1, 1, 1, 1, 0, 0, 0, 0, 1, 1, 0, 0, 1, 1, 0, 0, 1], [1, 1, 1, 1, 0, 0, 0, 1, 1, 1, 1, 0, 1, 0, 1, 0, 1, 0, 1, 0, 1, 1, 0, 0, 1, 1, 0, 0]) := by rw [cdN, exC9]; kernel_rfl
theorem exKey9 : keyB (bitsOf exK) 9 = [1, 0, 1, 1, 0, 0, 0, 1, 1, 1, 1, 1, 0, 0, 1, 1, 0, 1, 0, 0, 0, 1, 1, 1, 1, 0, 1, 1, 1, 0, 1, 0, 0, 1, 0, 0, 0, 1, 1, 0, 0, 1, 0, 0, 1, 1, 1, 1] := by
  rw [exBits]
  show permB ((cdN ((permB [0, 0, 0, 1, 0, 0, 1, 1, 0, 0, 1, 1, 0, 1, 0, 0, 0, 1, 0, 1, 0, 1, 1, 1, 0, 1, 1, 1, 1, 0, 0, 1, 1, 0, 0, 1, 1, 0, 1, 1, 1, 0, 1, 1, 1, 1, 0, 0, 1, 1, 0, 1, 1, 1, 1, 1, 1, 1, 1, 1, 0, 0, 0, 1] tabPC1).take 28) ((permB [0, 0, 0, 1, 0, 0, 1, 1, 0, 0, 1, 1, 0, 1, 0, 0, 0, 1, 0, 1, 0, 1, 1, 1, 0, 1, 1, 1, 1, 0, 0, 1, 1, 0, 0, 1, 1, 0, 1, 1, 1, 0, 1, 1, 1, 1, 0, 0, 1, 1, 0, 1, 1, 1, 1, 1, 1, 1, 1, 1, 0, 0, 0, 1] tabPC1).drop 28) 10).1 ++ (cdN ((permB [0, 0, 0, 1, 0, 0, 1, 1, 0, 0, 1, 1, 0, 1, 0, 0, 0, 1, 0, 1, 0, 1, 1, 1, 0, 1, 1, 1, 1, 0, 0, 1, 1, 0, 0, 1, 1, 0, 1, 1, 1, 0, 1, 1, 1, 1, 0, 0, 1, 1, 0, 1, 1, 1, 1, 1, 1, 1, 1, 1, 0, 0, 0, 1] tabPC1).take 28) ((permB [0, 0, 0, 1, 0, 0, 1, 1, 0, 0, 1, 1, 0, 1, 0, 0, 0, 1, 0, 1, 0, 1, 1, 1, 0, 1, 1, 1, 1, 0, 0, 1, 1, 0, 0, 1, 1, 0, 1, 1, 1, 0, 1, 1, 1, 1, 0, 0, 1, 1, 0, 1, 1, 1, 1, 1, 1, 1, 1, 1, 0, 0, 0, 1] tabPC1).drop 28) 10).2) tabPC2 = _
  rw [exT, exD, exC10]; kernel_rfl
theorem exC11 : cdN [1, 1, 1, 1, 0, 0, 0, 0, 1, 1, 0, 0, 1, 1, 0, 0, 1, 0, 1, 0, 1, 0, 1, 0, 1, 1, 1, 1] [0, 1, 0, 1, 0, 1, 0, 1, 0, 1, 1, 0, 0, 1, 1, 0, 0, 1, 1, 1, 1, 0, 0, 0, 1, 1, 1, 1] 11 = ([0, 1, 0, 1, 0, 1, 1, 1, 1, 1, 1, 1, 1, 0, 0, 0, 0, 1, 1, 0, 0, 1, 1, 0, 0, 1, 0, 1], [1, 1, 0, 0, 0, 1, 1, 1, 1, 0, 1, 0, 1, 0, 1, 0, 1, 0, 1, 1, 0, 0, 1, 1, 0, 0, 1, 1]) := by rw [cdN, exC10]; kernel_rfl
theorem exKey10 : keyB (bitsOf exK) 10 = [0, 0, 1, 0, 0, 0, 0, 1, 0, 1, 0, 1, 1, 1, 1, 1, 1, 1, 0, 1, 0, 0, 1, 1, 1, 1, 0, 1, 1, 1, 1, 0, 1, 1, 0, 1, 0, 0, 1, 1, 1, 0, 0, 0, 0, 1, 1, 0] := by
  rw [exBits]
  show permB ((cdN ((permB [0, 0, 0, 1, 0, 0, 1, 1, 0, 0, 1, 1, 0, 1, 0, 0, 0, 1, 0, 1, 0, 1, 1, 1, 0, 1, 1, 1, 1, 0, 0, 1, 1, 0, 0, 1, 1, 0, 1, 1, 1, 0, 1, 1, 1, 1, 0, 0, 1, 1, 0, 1, 1, 1, 1, 1, 1, 1, 1, 1, 0, 0, 0, 1] tabPC1).take 28) ((permB [0, 0, 0, 1, 0, 0, 1, 1, 0, 0, 1, 1, 0, 1, 0, 0, 0, 1, 0, 1, 0, 1, 1, 1, 0, 1, 1, 1, 1, 0, 0, 1, 1, 0, 0, 1, 1, 0, 1, 1, 1, 0, 1, 1, 1, 1, 0, 0, 1, 1, 0, 1, 1, 1, 1, 1, 1, 1, 1, 1, 0, 0, 0, 1] tabPC1).drop 28) 11).1 ++ (cdN ((permB [0, 0, 0, 1, 0, 0, 1, 1, 0, 0, 1, 1, 0, 1, 0, 0, 0, 1, 0, 1, 0, 1, 1, 1, 0, 1, 1, 1, 1, 0, 0, 1, 1, 0, 0, 1, 1, 0, 1, 1, 1, 0, 1, 1, 1, 1, 0, 0, 1, 1, 0, 1, 1, 1, 1, 1, 1, 1, 1, 1, 0, 0, 0, 1] tabPC1).take 28) ((permB [0, 0, 0, 1, 0, 0, 1, 1, 0, 0, 1, 1, 0, 1, 0, 0, 0, 1, 0, 1, 0, 1, 1, 1, 0, 1, 1, 1, 1, 0, 0, 1, 1, 0, 0, 1, 1, 0, 1, 1, 1, 0, 1, 1, 1, 1, 0, 0, 1, 1, 0, 1, 1, 1, 1, 1, 1, 1, 1, 1, 0, 0, 0, 1] tabPC1).drop 28) 11).2) tabPC2 = _
  rw [exT, exD, exC11]; kernel_rfl
theorem exC12 : cdN [1, 1, 1, 1, 0, 0, 0, 0, 1, 1, 0, 0, 1, 1, 0, 0, 1, 0, 1, 0, 1, 0, 1, 0, 1, 1, 1, 1] [0, 1, 0, 1, 0, 1, 0, 1, 0, 1, 1, 0, 0, 1, 1, 0, 0, 1, 1, 1, 1, 0, 0, 0, 1, 1, 1, 1] 12 = ([0, 1, 0, 1, 1, 1, 1, 1, 1, 1, 1, 0, 0, 0, 0, 1, 1, 0, 0, 1, 1, 0, 0, 1, 0, 1, 0, 1], [0, 0, 0, 1, 1, 1, 1, 0, 1, 0, 1, 0, 1, 0, 1, 0, 1, 1, 0, 0, 1, 1, 0, 0, 1, 1, 1, 1]) := by rw [cdN, exC11]; kernel_rfl
theorem exKey11 : keyB (bitsOf exK) 11 = [0, 1, 1, 1, 0, 1, 0, 1, 0, 1, 1, 1, 0, 0, 0, 1, 1, 1, 1, 1, 0, 1, 0, 1, 1, 0, 0, 1, 0, 1, 0, 0, 0, 1, 1, 0, 0, 1, 1, 1, 1, 1, 1, 0, 1, 0, 0, 1] := by
  rw [exBits]
  show permB ((cdN ((permB [0, 0, 0, 1, 0, 0, 1, 1, 0, 0, 1, 1, 0, 1, 0, 0, 0, 1, 0, 1, 0, 1, 1, 1, 0, 1, 1, 1, 1, 0, 0, 1, 1, 0, 0, 1, 1, 0, 1, 1, 1, 0, 1, 1, 1, 1, 0, 0, 1, 1, 0, 1, 1, 1, 1, 1, 1, 1, 1, 1, 0, 0, 0, 1] tabPC1).take 28) ((permB [0, 0, 0, 1, 0, 0, 1, 1, 0, 0, 1, 1, 0, 1, 0, 0, 0, 1, 0, 1, 0, 1, 1, 1, 0, 1, 1, 1, 1, 0, 0, 1, 1, 0, 0, 1, 1, 0, 1, 1, 1, 0, 1, 1, 1, 1, 0, 0, 1, 1, 0, 1, 1, 1, 1, 1, 1, 1, 1, 1, 0, 0, 0, 1] tabPC1).drop 28) 12).1 ++ (cdN ((permB [0, 0, 0, 1, 0, 0, 1, 1, 0, 0, 1, 1, 0, 1, 0, 0, 0, 1, 0, 1, 0, 1, 1, 1, 0, 1, 1, 1, 1, 0, 0, 1, 1, 0, 0, 1, 1, 0, 1, 1, 1, 0, 1, 1, 1, 1, 0, 0, 1, 1, 0, 1, 1, 1, 1, 1, 1, 1, 1, 1, 0, 0, 0, 1] tabPC1).take 28) ((permB [0, 0, 0, 1, 0, 0, 1, 1, 0, 0, 1, 1, 0, 1, 0, 0, 0, 1, 0, 1, 0, 1, 1, 1, 0, 1, 1, 1, 1, 0, 0, 1, 1, 0, 0, 1, 1, 0, 1, 1, 1, 0, 1, 1, 1, 1, 0, 0, 1, 1, 0, 1, 1, 1, 1, 1, 1, 1, 1, 1, 0, 0, 0, 1] tabPC1).drop 28) 12).2) tabPC2 = _
  rw [exT, exD, exC12]; kernel_rfl
theorem exC13 : cdN [1, 1, 1, 1, 0, 0, 0, 0, 1, 1, 0, 0, 1, 1, 0, 0, 1, 0, 1, 0, 1, 0, 1, 0, 1, 1, 1, 1] [0, 1, 0, 1, 0, 1, 0, 1, 0, 1, 1, 0, 0, 1, 1, 0, 0, 1, 1, 1, 1, 0, 0, 0, 1, 1, 1, 1] 13 = ([0, 1, 1, 1, 1, 1, 1, 1, 1, 0, 0, 0, 0, 1, 1, 0, 0, 1, 1, 0, 0, 1, 0, 1, 0, 1, 0, 1], [0, 1, 1, 1, 1, 0, 1, 0, 1, 0, 1, 0, 1, 0, 1, 1, 0, 0, 1, 1, 0, 0, 1, 1, 1, 1, 0, 0]) := by rw [cdN, exC12]; kernel_rfl
theorem exKey12 : keyB (bitsOf exK) 12 = [1, 0, 0, 1, 0, 1, 1, 1, 1, 1, 0, 0, 0, 1, 0, 1, 1, 1, 0, 1, 0, 0, 0, 1, 1, 1, 1, 1, 1, 0, 1, 0, 1, 0, 1, 1, 1, 0, 1, 0, 0, 1, 0, 0, 0, 0, 0, 1] := by
  rw [exBits]
  show permB ((cdN ((permB [0, 0, 0, 1, 0, 0, 1, 1, 0, 0, 1, 1, 0, 1, 0, 0, 0, 1, 0, 1, 0, 1, 1, 1, 0, 1, 1, 1, 1, 0, 0, 1, 1, 0, 0, 1, 1, 0, 1, 1, 1, 0, 1, 1, 1, 1, 0, 0, 1, 1, 0, 1, 1, 1, 1, 1, 1, 1, 1, 1, 0, 0, 0, 1] tabPC1).take 28) ((permB [0, 0, 0, 1, 0, 0, 1, 1, 0, 0, 1, 1, 0, 1, 0, 0, 0, 1, 0, 1, 0, 1, 1, 1, 0, 1, 1, 1, 1, 0, 0, 1, 1, 0, 0, 1, 1, 0, 1, 1, 1, 0, 1, 1, 1, 1, 0, 0, 1, 1, 0, 1, 1, 1, 1, 1, 1, 1, 1, 1, 0, 0, 0, 1] tabPC1).drop 28) 13).1 ++ (cdN ((permB [0, 0, 0, 1, 0, 0, 1, 1, 0, 0, 1, 1, 0, 1, 0, 0, 0, 1, 0, 1, 0, 1, 1, 1, 0, 1, 1, 1, 1, 0, 0, 1, 1, 0, 0, 1, 1, 0, 1, 1, 1, 0, 1, 1, 1, 1, 0, 0, 1, 1, 0, 1, 1, 1, 1, 1, 1, 1, 1, 1, 0, 0, 0, 1] tabPC1).take 28) ((permB [0, 0, 0, 1, 0, 0, 1, 1, 0, 0, 1, 1, 0, 1, 0, 0, 0, 1, 0, 1, 0, 1, 1, 1, 0, 1, 1, 1, 1, 0, 0, 1, 1, 0, 0, 1, 1, 0, 1, 1, 1, 0, 1, 1, 1, 1, 0, 0, 1, 1, 0, 1, 1, 1, 1, 1, 1, 1, 1, 1, 0, 0, 0, 1] tabPC1).drop 28) 13).2) tabPC2 = _
  rw [exT, exD, exC13]; kernel_rfl
theorem exC14 : cdN [1, 1, 1, 1, 0, 0, 0, 0, 1, 1, 0, 0, 1, 1, 0, 0, 1, 0, 1, 0, 1, 0, 1, 0, 1, 1, 1, 1] [0, 1, 0, 1, 0, 1, 0, 1, 0, 1, 1, 0, 0, 1, 1, 0, 0, 1, 1, 1, 1, 0, 0, 0, 1, 1, 1, 1] 14 = ([1, 1, 1, 1, 1, 1, 1, 0, 0, 0, 0, 1, 1, 0, 0, 1, 1, 0, 0, 1, 0, 1, 0, 1, 0, 1, 0, 1], [1, 1, 1, 0, 1, 0, 1, 0, 1, 0, 1, 0, 1, 1, 0, 0, 1, 1, 0, 0, 1, 1, 1, 1, 0, 0, 0, 1]) := by rw [cdN, exC13]; kernel_rfl
theorem exKey13 : keyB (bitsOf exK) 13 = [0, 1, 0, 1, 1, 1, 1, 1, 0, 1, 0, 0, 0, 0, 1, 1, 1, 0, 1, 1, 0, 1, 1, 1, 1, 1, 1, 1, 0, 0, 1, 0, 1, 1, 1, 0, 0, 1, 1, 1, 0, 0, 1, 1, 1, 0, 1, 0] := by
  rw [exBits]
  show permB ((cdN ((permB [0, 0, 0, 1, 0, 0, 1, 1, 0, 0, 1, 1, 0, 1, 0, 0, 0, 1, 0, 1, 0, 1, 1, 1, 0, 1, 1, 1, 1, 0, 0, 1, 1, 0, 0, 1, 1, 0, 1, 1, 1, 0, 1, 1, 1, 1, 0, 0, 1, 1, 0, 1, 1, 1, 1, 1, 1, 1, 1, 1, 0, 0, 0, 1] tabPC1).take 28) ((permB [0, 0, 0, 1, 0, 0, 1, 1, 0, 0, 1, 1, 0, 1, 0, 0, 0, 1, 0, 1, 0, 1, 1, 1, 0, 1, 1, 1, 1, 0, 0, 1, 1, 0, 0, 1, 1, 0, 1, 1, 1, 0, 1, 1, 1, 1, 0, 0, 1, 1, 0, 1, 1, 1, 1, 1, 1, 1, 1, 1, 0, 0, 0, 1] tabPC1).drop 28) 14).1 ++ (cdN ((permB [0, 0, 0, 1, 0, 0, 1, 1, 0, 0, 1, 1, 0, 1, 0, 0, 0, 1, 0, 1, 0, 1, 1, 1, 0, 1, 1, 1, 1, 0, 0, 1, 1, 0, 0, 1, 1, 0, 1, 1, 1, 0, 1, 1, 1, 1, 0, 0, 1, 1, 0, 1, 1, 1, 1, 1, 1, 1, 1, 1, 0, 0, 0, 1] tabPC1).take 28) ((permB [0, 0, 0, 1, 0, 0, 1, 1, 0, 0, 1, 1, 0, 1, 0, 0, 0, 1, 0, 1, 0, 1, 1, 1, 0, 1, 1, 1, 1, 0, 0, 1, 1, 0, 0, 1, 1, 0, 1, 1, 1, 0, 1, 1, 1, 1, 0, 0, 1, 1, 0, 1, 1, 1, 1, 1, 1, 1, 1, 1, 0, 0, 0, 1] tabPC1).drop 28) 14).2) tabPC2 = _
  rw [exT, exD, exC14]; kernel_rfl
theorem exC15 : cdN [1, 1, 1, 1, 0, 0, 0, 0, 1, 1, 0, 0, 1, 1, 0, 0, 1, 0, 1, 0, 1, 0, 1, 0, 1, 1, 1, 1] [0, 1, 0, 1, 0, 1, 0, 1, 0, 1, 1, 0, 0, 1, 1, 0, 0, 1, 1, 1, 1, 0, 0, 0, 1, 1, 1, 1] 15 = ([1, 1, 1, 1, 1, 0, 0, 0, 0, 1, 1, 0, 0, 1, 1, 0, 0, 1, 0, 1, 0, 1, 0, 1, 0, 1, 1, 1], [1, 0, 1, 0, 1, 0, 1, 0, 1, 0, 1, 1, 0, 0, 1, 1, 0, 0, 1, 1, 1, 1, 0, 0, 0, 1, 1, 1]) := by rw [cdN, exC14]; kernel_rfl
theorem exKey14 : keyB (bitsOf exK) 14 = [1, 0, 1, 1, 1, 1, 1, 1, 1, 0, 0, 1, 0, 0, 0, 1, 1, 0, 0, 0, 1, 1, 0, 1, 0, 0, 1, 1, 1, 1, 0, 1, 0, 0, 1, 1, 1, 1, 1, 1, 0, 0, 0, 0, 1, 0, 1, 0] := by
  rw [exBits]
  show permB ((cdN ((permB [0, 0, 0, 1, 0, 0, 1, 1, 0, 0, 1, 1, 0, 1, 0, 0, 0, 1, 0, 1, 0, 1, 1, 1, 0, 1, 1, 1, 1, 0, 0, 1, 1, 0, 0, 1, 1, 0, 1, 1, 1, 0, 1, 1, 1, 1, 0, 0, 1, 1, 0, 1, 1, 1, 1, 1, 1, 1, 1, 1, 0, 0, 0, 1] tabPC1).take 28) ((permB [0, 0, 0, 1, 0, 0, 1, 1, 0, 0, 1, 1, 0, 1, 0, 0, 0, 1, 0, 1, 0, 1, 1, 1, 0, 1, 1, 1, 1, 0, 0, 1, 1, 0, 0, 1, 1, 0, 1, 1, 1, 0, 1, 1, 1, 1, 0, 0, 1, 1, 0, 1, 1, 1, 1, 1, 1, 1, 1, 1, 0, 0, 0, 1] tabPC1).drop 28) 15).1 ++ (cdN ((permB [0, 0, 0, 1, 0, 0, 1, 1, 0, 0, 1, 1, 0, 1, 0, 0, 0, 1, 0, 1, 0, 1, 1, 1, 0, 1, 1, 1, 1, 0, 0, 1, 1, 0, 0, 1, 1, 0, 1, 1, 1, 0, 1, 1, 1, 1, 0, 0, 1, 1, 0, 1, 1, 1, 1, 1, 1, 1, 1, 1, 0, 0, 0, 1] tabPC1).take 28) ((permB [0, 0, 0, 1, 0, 0, 1, 1, 0, 0, 1, 1, 0, 1, 0, 0, 0, 1, 0, 1, 0, 1, 1, 1, 0, 1, 1, 1, 1, 0, 0, 1, 1, 0, 0, 1, 1, 0, 1, 1, 1, 0, 1, 1, 1, 1, 0, 0, 1, 1, 0, 1, 1, 1, 1, 1, 1, 1, 1, 1, 0, 0, 0, 1] tabPC1).drop 28) 15).2) tabPC2 = _
  rw [exT, exD, exC15]; kernel_rfl
theorem exC16 : cdN [1, 1, 1, 1, 0, 0, 0, 0, 1, 1, 0, 0, 1, 1, 0, 0, 1, 0, 1, 0, 1, 0, 1, 0, 1, 1, 1, 1] [0, 1, 0, 1, 0, 1, 0, 1, 0, 1, 1, 0, 0, 1, 1, 0, 0, 1, 1, 1, 1, 0, 0, 0, 1, 1, 1, 1] 16 = ([1, 1, 1, 1, 0, 0, 0, 0, 1, 1, 0, 0, 1, 1, 0, 0, 1, 0, 1, 0, 1, 0, 1, 0, 1, 1, 1, 1], [0, 1, 0, 1, 0, 1, 0, 1, 0, 1, 1, 0, 0, 1, 1, 0, 0, 1, 1, 1, 1, 0, 0, 0, 1, 1, 1, 1]) := by rw [cdN, exC15]; kernel_rfl
theorem exKey15 : keyB (bitsOf exK) 15 = [1, 1, 0, 0, 1, 0, 1, 1, 0, 0, 1, 1, 1, 1, 0, 1, 1, 0, 0, 0, 1, 0, 1, 1, 0, 0, 0, 0, 1, 1, 1, 0, 0, 0, 0, 1, 0, 1, 1, 1, 1, 1, 1, 1, 0, 1, 0, 1] := by
  rw [exBits]
  show permB ((cdN ((permB [0, 0, 0, 1, 0, 0, 1, 1, 0, 0, 1, 1, 0, 1, 0, 0, 0, 1, 0, 1, 0, 1, 1, 1, 0, 1, 1, 1, 1, 0, 0, 1, 1, 0, 0, 1, 1, 0, 1, 1, 1, 0, 1, 1, 1, 1, 0, 0, 1, 1, 0, 1, 1, 1, 1, 1, 1, 1, 1, 1, 0, 0, 0, 1] tabPC1).take 28) ((permB [0, 0, 0, 1, 0, 0, 1, 1, 0, 0, 1, 1, 0, 1, 0, 0, 0, 1, 0, 1, 0, 1, 1, 1, 0, 1, 1, 1, 1, 0, 0, 1, 1, 0, 0, 1, 1, 0, 1, 1, 1, 0, 1, 1, 1, 1, 0, 0, 1, 1, 0, 1, 1, 1, 1, 1, 1, 1, 1, 1, 0, 0, 0, 1] tabPC1).drop 28) 16).1 ++ (cdN ((permB [0, 0, 0, 1, 0, 0, 1, 1, 0, 0, 1, 1, 0, 1, 0, 0, 0, 1, 0, 1, 0, 1, 1, 1, 0, 1, 1, 1, 1, 0, 0, 1, 1, 0, 0, 1, 1, 0, 1, 1, 1, 0, 1, 1, 1, 1, 0, 0, 1, 1, 0, 1, 1, 1, 1, 1, 1, 1, 1, 1, 0, 0, 0, 1] tabPC1).take 28) ((permB [0, 0, 0, 1, 0, 0, 1, 1, 0, 0, 1, 1, 0, 1, 0, 0, 0, 1, 0, 1, 0, 1, 1, 1, 0, 1, 1, 1, 1, 0, 0, 1, 1, 0, 0, 1, 1, 0, 1, 1, 1, 0, 1, 1, 1, 1, 0, 0, 1, 1, 0, 1, 1, 1, 1, 1, 1, 1, 1, 1, 0, 0, 0, 1] tabPC1).drop 28) 16).2) tabPC2 = _
  rw [exT, exD, exC16]; kernel_rfl
theorem exS : ((permB (bitsOf exB) tabIP).take 32, (permB (bitsOf exB) tabIP).drop 32) = ([1, 1, 0, 0, 1, 1, 0, 0, 0, 0, 0, 0, 0, 0, 0, 0, 1, 1, 0, 0, 1, 1, 0, 0, 1, 1, 1, 1, 1, 1, 1, 1], [1, 1, 1, 1, 0, 0, 0, 0, 1, 0, 1, 0, 1, 0, 1, 0, 1, 1, 1, 1, 0, 0, 0, 0, 1, 0, 1, 0, 1, 0, 1, 0]) := by kernel_rfl
theorem exF0 : feist (keyB (bitsOf exK)) ([1, 1, 0, 0, 1, 1, 0, 0, 0, 0, 0, 0, 0, 0, 0, 0, 1, 1, 0, 0, 1, 1, 0, 0, 1, 1, 1, 1, 1, 1, 1, 1], [1, 1, 1, 1, 0, 0, 0, 0, 1, 0, 1, 0, 1, 0, 1, 0, 1, 1, 1, 1, 0, 0, 0, 0, 1, 0, 1, 0, 1, 0, 1, 0]) 0 = ([1, 1, 0, 0, 1, 1, 0, 0, 0, 0, 0, 0, 0, 0, 0, 0, 1, 1, 0, 0, 1, 1, 0, 0, 1, 1, 1, 1, 1, 1, 1, 1], [1, 1, 1, 1, 0, 0, 0, 0, 1, 0, 1, 0, 1, 0, 1, 0, 1, 1, 1, 1, 0, 0, 0, 0, 1, 0, 1, 0, 1, 0, 1, 0]) := rfl
theorem exF1 : feist (keyB (bitsOf exK)) ([1, 1, 0, 0, 1, 1, 0, 0, 0, 0, 0, 0, 0, 0, 0, 0, 1, 1, 0, 0, 1, 1, 0, 0, 1, 1, 1, 1, 1, 1, 1, 1], [1, 1, 1, 1, 0, 0, 0, 0, 1, 0, 1, 0, 1, 0, 1, 0, 1, 1, 1, 1, 0, 0, 0, 0, 1, 0, 1, 0, 1, 0, 1, 0]) 1 = ([1, 1, 1, 1, 0, 0, 0, 0, 1, 0, 1, 0, 1, 0, 1, 0, 1, 1, 1, 1, 0, 0, 0, 0, 1, 0, 1, 0, 1, 0, 1, 0], [1, 1, 1, 0, 1, 1, 1, 1, 0, 1, 0, 0, 1, 0, 1, 0, 0, 1, 1, 0, 0, 1, 0, 1, 0, 1, 0, 0, 0, 1, 0, 0]) := by rw [feist, exF0, exKey0]; kernel_rfl
theorem exF2 : feist (keyB (bitsOf exK)) ([1, 1, 0, 0, 1, 1, 0, 0, 0, 0, 0, 0, 0, 0, 0, 0, 1, 1, 0, 0, 1, 1, 0, 0, 1, 1, 1, 1, 1, 1, 1, 1], [1, 1, 1, 1, 0, 0, 0, 0, 1, 0, 1, 0, 1, 0, 1, 0, 1, 1, 1, 1, 0, 0, 0, 0, 1, 0, 1, 0, 1, 0, 1, 0]) 2 = ([1, 1, 1, 0, 1, 1, 1, 1, 0, 1, 0, 0, 1, 0, 1, 0, 0, 1, 1, 0, 0, 1, 0, 1, 0, 1, 0, 0, 0, 1, 0, 0], [1, 1, 0, 0, 1, 1, 0, 0, 0, 0, 0, 0, 0, 0, 0, 1, 0, 1, 1, 1, 0, 1, 1, 1, 0, 0, 0, 0, 1, 0, 0, 1]) := by rw [feist, exF1, exKey1]; kernel_rfl
theorem exF3 : feist (keyB (bitsOf exK)) ([1, 1, 0, 0, 1, 1, 0, 0, 0, 0, 0, 0, 0, 0, 0, 0, 1, 1, 0, 0, 1, 1, 0, 0, 1, 1, 1, 1, 1, 1, 1, 1], [1, 1, 1, 1, 0, 0, 0, 0, 1, 0, 1, 0, 1, 0, 1, 0, 1, 1, 1, 1, 0, 0, 0, 0, 1, 0, 1, 0, 1, 0, 1, 0]) 3 = ([1, 1, 0, 0, 1, 1, 0, 0, 0, 0, 0, 0, 0, 0, 0, 1, 0, 1, 1, 1, 0, 1, 1, 1, 0, 0, 0, 0, 1, 0, 0, 1], [1, 0, 1, 0, 0, 0, 1, 0, 0, 1, 0, 1, 1, 1, 0, 0, 0, 0, 0, 0, 1, 0, 1, 1, 1, 1, 1, 1, 0, 1, 0, 0]) := by rw [feist, exF2, exKey2]; kernel_rfl
theorem exF4 : feist (keyB (bitsOf exK)) ([1, 1, 0, 0, 1, 1, 0, 0, 0, 0, 0, 0, 0, 0, 0, 0, 1, 1, 0, 0, 1, 1, 0, 0, 1, 1, 1, 1, 1, 1, 1, 1], [1, 1, 1, 1, 0, 0, 0, 0, 1, 0, 1, 0, 1, 0, 1, 0, 1, 1, 1, 1, 0, 0, 0, 0, 1, 0, 1, 0, 1, 0, 1, 0]) 4 = ([1, 0, 1, 0, 0, 0, 1, 0, 0, 1, 0, 1, 1, 1, 0, 0, 0, 0, 0, 0, 1, 0, 1, 1, 1, 1, 1, 1, 0, 1, 0, 0], [0, 1, 1, 1, 0, 1, 1, 1, 0, 0, 1, 0, 0, 0, 1, 0, 0, 0, 0, 0, 0, 0, 0, 0, 0, 1, 0, 0, 0, 1, 0, 1]) := by rw [feist, exF3, exKey3]; kernel_rfl
theorem exF5 : feist (keyB (bitsOf exK)) ([1, 1, 0, 0, 1, 1, 0, 0, 0, 0, 0, 0, 0, 0, 0, 0, 1, 1, 0, 0, 1, 1, 0, 0, 1, 1, 1, 1, 1, 1, 1, 1], [1, 1, 1, 1, 0, 0, 0, 0, 1, 0, 1, 0, 1, 0, 1, 0, 1, 1, 1, 1, 0, 0, 0, 0, 1, 0, 1, 0, 1, 0, 1, 0]) 5 = ([0, 1, 1, 1, 0, 1, 1, 1, 0, 0, 1, 0, 0, 0, 1, 0, 0, 0, 0, 0, 0, 0, 0, 0, 0, 1, 0, 0, 0, 1, 0, 1], [1, 0, 0, 0, 1, 0, 1, 0, 0, 1, 0, 0, 1, 1, 1, 1, 1, 0, 1, 0, 0, 1, 1, 0, 0, 0, 1, 1, 0, 1, 1, 1]) := by rw [feist, exF4, exKey4]; kernel_rfl
theorem exF6 : feist (keyB (bitsOf exK)) ([1, 1, 0, 0, 1, 1, 0, 0, 0, 0, 0, 0, 0, 0, 0, 0, 1, 1, 0, 0, 1, 1, 0, 0, 1, 1, 1, 1, 1, 1, 1, 1], [1, 1, 1, 1, 0, 0, 0, 0, 1, 0, 1, 0, 1, 0, 1, 0, 1, 1, 1, 1, 0, 0, 0, 0, 1, 0, 1, 0, 1, 0, 1, 0]) 6 = ([1, 0, 0, 0, 1, 0, 1, 0, 0, 1, 0, 0, 1, 1, 1, 1, 1, 0, 1, 0, 0, 1, 1, 0, 0, 0, 1, 1, 0, 1, 1, 1], [1, 1, 1, 0, 1, 0, 0, 1, 0, 1, 1, 0, 0, 1, 1, 1, 1, 1, 0, 0, 1, 1, 0, 1, 0, 1, 1, 0, 1, 0, 0, 1]) := by rw [feist, exF5, exKey5]; kernel_rfl
theorem exF7 : feist (keyB (bitsOf exK)) ([1, 1, 0, 0, 1, 1, 0, 0, 0, 0, 0, 0, 0, 0, 0, 0, 1, 1, 0, 0, 1, 1, 0, 0, 1, 1, 1, 1, 1, 1, 1, 1], [1, 1, 1, 1, 0, 0, 0, 0, 1, 0, 1, 0, 1, 0, 1, 0, 1, 1, 1, 1, 0, 0, 0, 0, 1, 0, 1, 0, 1, 0, 1, 0]) 7 = ([1, 1, 1, 0, 1, 0, 0, 1, 0, 1, 1, 0, 0, 1, 1, 1, 1, 1, 0, 0, 1, 1, 0, 1, 0, 1, 1, 0, 1, 0, 0, 1], [0, 0, 0, 0, 0, 1, 1, 0, 0, 1, 0, 0, 1, 0, 1, 0, 1, 0, 1, 1, 1, 0, 1, 0, 0, 0, 0, 1, 0, 0, 0, 0]) := by rw [feist, exF6, exKey6]; kernel_rfl
theorem exF8 : feist (keyB (bitsOf exK)) ([1, 1, 0, 0, 1, 1, 0, 0, 0, 0, 0, 0, 0, 0, 0, 0, 1, 1, 0, 0, 1, 1, 0, 0, 1, 1, 1, 1, 1, 1, 1, 1], [1, 1, 1, 1, 0, 0, 0, 0, 1, 0, 1, 0, 1, 0, 1, 0, 1, 1, 1, 1, 0, 0, 0, 0, 1, 0, 1, 0, 1, 0, 1, 0]) 8 = ([0, 0, 0, 0, 0, 1, 1, 0, 0, 1, 0, 0, 1, 0, 1, 0, 1, 0, 1, 1, 1, 0, 1, 0, 0, 0, 0, 1, 0, 0, 0, 0], [1, 1, 0, 1, 0, 1, 0, 1, 0, 1, 1, 0, 1, 0, 0, 1, 0, 1, 0, 0, 1, 0, 1, 1, 1, 0, 0, 1, 0, 0, 0, 0]) := by rw [feist, exF7, exKey7]; kernel_rfl
theorem exF9 : feist (keyB (bitsOf exK)) ([1, 1, 0, 0, 1, 1, 0, 0, 0, 0, 0, 0, 0, 0, 0, 0, 1, 1, 0, 0, 1, 1, 0, 0, 1, 1, 1, 1, 1, 1, 1, 1], [1, 1, 1, 1, 0, 0, 0, 0, 1, 0, 1, 0, 1, 0, 1, 0, 1, 1, 1, 1, 0, 0, 0, 0, 1, 0, 1, 0, 1, 0, 1, 0]) 9 = ([1, 1, 0, 1, 0, 1, 0, 1, 0, 1, 1, 0, 1, 0, 0, 1, 0, 1, 0, 0, 1, 0, 1, 1, 1, 0, 0, 1, 0, 0, 0, 0], [0, 0, 1, 0, 0, 1, 0, 0, 0, 1, 1, 1, 1, 1, 0, 0, 1, 1, 0, 0, 0, 1, 1, 0, 0, 1, 1, 1, 1, 0, 1, 0]) := by rw [feist, exF8, exKey8]; kernel_rfl
theorem exF10 : feist (keyB (bitsOf exK)) ([1, 1, 0, 0, 1, 1, 0, 0, 0, 0, 0, 0, 0, 0, 0, 0, 1, 1, 0, 0, 1, 1, 0, 0, 1, 1, 1, 1, 1, 1, 1, 1], [1, 1, 1, 1, 0, 0, 0, 0, 1, 0, 1, 0, 1, 0, 1, 0, 1, 1, 1, 1, 0, 0, 0, 0, 1, 0, 1, 0, 1, 0, 1, 0]) 10 = ([0, 0, 1, 0, 0, 1, 0, 0, 0, 1, 1, 1, 1, 1, 0, 0, 1, 1, 0, 0, 0, 1, 1, 0, 0, 1, 1, 1, 1, 0, 1, 0], [1, 0, 1, 1, 0, 1, 1, 1, 1, 1, 0, 1, 0, 1, 0, 1, 1, 1, 0, 1, 0, 1, 1, 1, 1, 0, 1, 1, 0, 0, 1, 0]) := by rw [feist, exF9, exKey9]; kernel_rfl
theorem exF11 : feist (keyB (bitsOf exK)) ([1, 1, 0, 0, 1, 1, 0, 0, 0, 0, 0, 0, 0, 0, 0, 0, 1, 1, 0, 0, 1, 1, 0, 0, 1, 1, 1, 1, 1, 1, 1, 1], [1, 1, 1, 1, 0, 0, 0, 0, 1, 0, 1, 0, 1, 0, 1, 0, 1, 1, 1, 1, 0, 0, 0, 0, 1, 0, 1, 0, 1, 0, 1, 0]) 11 = ([1, 0, 1, 1, 0, 1, 1, 1, 1, 1, 0, 1, 0, 1, 0, 1, 1, 1, 0, 1, 0, 1, 1, 1, 1, 0, 1, 1, 0, 0, 1, 0], [1, 1, 0, 0, 0, 1, 0, 1, 0, 1, 1, 1, 1, 0, 0, 0, 0, 0, 1, 1, 1, 1, 0, 0, 0, 1, 1, 1, 1, 0, 0, 0]) := by rw [feist, exF10, exKey10]; kernel_rfl
theorem exF12 : feist (keyB (bitsOf exK)) ([1, 1, 0, 0, 1, 1, 0, 0, 0, 0, 0, 0, 0, 0, 0, 0, 1, 1, 0, 0, 1, 1, 0, 0, 1, 1, 1, 1, 1, 1, 1, 1], [1, 1, 1, 1, 0, 0, 0, 0, 1, 0, 1, 0, 1, 0, 1, 0, 1, 1, 1, 1, 0, 0, 0, 0, 1, 0, 1, 0, 1, 0, 1, 0]) 12 = ([1, 1, 0, 0, 0, 1, 0, 1, 0, 1, 1, 1, 1, 0, 0, 0, 0, 0, 1, 1, 1, 1, 0, 0, 0, 1, 1, 1, 1, 0, 0, 0], [0, 1, 1, 1, 0, 1, 0, 1, 1, 0, 1, 1, 1, 1, 0, 1, 0, 0, 0, 1, 1, 0, 0, 0, 0, 1, 0, 1, 1, 0, 0, 0]) := by rw [feist, exF11, exKey11]; kernel_rfl
theorem exF13 : feist (keyB (bitsOf exK)) ([1, 1, 0, 0, 1, 1, 0, 0, 0, 0, 0, 0, 0, 0, 0, 0, 1, 1, 0, 0, 1, 1, 0, 0, 1, 1, 1, 1, 1, 1, 1, 1], [1, 1, 1, 1, 0, 0, 0, 0, 1, 0, 1, 0, 1, 0, 1, 0, 1, 1, 1, 1, 0, 0, 0, 0, 1, 0, 1, 0, 1, 0, 1, 0]) 13 = ([0, 1, 1, 1, 0, 1, 0, 1, 1, 0, 1, 1, 1, 1, 0, 1, 0, 0, 0, 1, 1, 0, 0, 0, 0, 1, 0, 1, 1, 0, 0, 0], [0, 0, 0, 1, 1, 0, 0, 0, 1, 1, 0, 0, 0, 0, 1, 1, 0, 0, 0, 1, 0, 1, 0, 1, 0, 1, 0, 1, 1, 0, 1, 0]) := by rw [feist, exF12, exKey12]; kernel_rfl
theorem exF14 : feist (keyB (bitsOf exK)) ([1, 1, 0, 0, 1, 1, 0, 0, 0, 0, 0, 0, 0, 0, 0, 0, 1, 1, 0, 0, 1, 1, 0, 0, 1, 1, 1, 1, 1, 1, 1, 1], [1, 1, 1, 1, 0, 0, 0, 0, 1, 0, 1, 0, 1, 0, 1, 0, 1, 1, 1, 1, 0, 0, 0, 0, 1, 0, 1, 0, 1, 0, 1, 0]) 14 = ([0, 0, 0, 1, 1, 0, 0, 0, 1, 1, 0, 0, 0, 0, 1, 1, 0, 0, 0, 1, 0, 1, 0, 1, 0, 1, 0, 1, 1, 0, 1, 0], [1, 1, 0, 0, 0, 0, 1, 0, 1, 0, 0, 0, 1, 1, 0, 0, 1, 0, 0, 1, 0, 1, 1, 0, 0, 0, 0, 0, 1, 1, 0, 1]) := by rw [feist, exF13, exKey13]; kernel_rfl
theorem exF15 : feist (keyB (bitsOf exK)) ([1, 1, 0, 0, 1, 1, 0, 0, 0, 0, 0, 0, 0, 0, 0, 0, 1, 1, 0, 0, 1, 1, 0, 0, 1, 1, 1, 1, 1, 1, 1, 1], [1, 1, 1, 1, 0, 0, 0, 0, 1, 0, 1, 0, 1, 0, 1, 0, 1, 1, 1, 1, 0, 0, 0, 0, 1, 0, 1, 0, 1, 0, 1, 0]) 15 = ([1, 1, 0, 0, 0, 0, 1, 0, 1, 0, 0, 0, 1, 1, 0, 0, 1, 0, 0, 1, 0, 1, 1, 0, 0, 0, 0, 0, 1, 1, 0, 1], [0, 1, 0, 0, 0, 0, 1, 1, 0, 1, 0, 0, 0, 0, 1, 0, 0, 0, 1, 1, 0, 0, 1, 0, 0, 0, 1, 1, 0, 1, 0, 0]) := by rw [feist, exF14, exKey14]; kernel_rfl
theorem exF16 : feist (keyB (bitsOf exK)) ([1, 1, 0, 0, 1, 1, 0, 0, 0, 0, 0, 0, 0, 0, 0, 0, 1, 1, 0, 0, 1, 1, 0, 0, 1, 1, 1, 1, 1, 1, 1, 1], [1, 1, 1, 1, 0, 0, 0, 0, 1, 0, 1, 0, 1, 0, 1, 0, 1, 1, 1, 1, 0, 0, 0, 0, 1, 0, 1, 0, 1, 0, 1, 0]) 16 = ([0, 1, 0, 0, 0, 0, 1, 1, 0, 1, 0, 0, 0, 0, 1, 0, 0, 0, 1, 1, 0, 0, 1, 0, 0, 0, 1, 1, 0, 1, 0, 0], [0, 0, 0, 0, 1, 0, 1, 0, 0, 1, 0, 0, 1, 1, 0, 0, 1, 1, 0, 1, 1, 0, 0, 1, 1, 0, 0, 1, 0, 1, 0, 1]) := by rw [feist, exF15, exKey15]; kernel_rfl
theorem exBlock : bytesOf (blockB (keyB (bitsOf exK)) (bitsOf exB)) 8 = [133, 232, 19, 84, 15, 10, 180, 5] := by
  show bytesOf (unpermB ((feist (keyB (bitsOf exK)) ((permB (bitsOf exB) tabIP).take 32, (permB (bitsOf exB) tabIP).drop 32) 16).2 ++ (feist (keyB (bitsOf exK)) ((permB (bitsOf exB) tabIP).take 32, (permB (bitsOf exB) tabIP).drop 32) 16).1)) 8 = _
  rw [exS, exF16]; kernel_rfl
end Sx
namespace Go.Proofs.YtpedilhijdjeoaaDoor
open Go Sx
set_option maxRecDepth 100000
set_option maxHeartbeats 1000000
theorem mixed : Tryd.prog.follows .mixedOrders = true := by kernel_rfl
theorem permute_ctr (x size : Int) (s : ByteArray) (t : List Int) (c : Int) (hx : 0 ≤ x ∧ x < 18446744073709551616) (hs : 0 ≤ size ∧ size ≤ 64) (hl : (s.size : Int) = 2 * t.length) (h64 : t.length ≤ 64) (ht : ∀ j : Nat, j < t.length → tabAt s j = t.getD j 0) (hi : ∀ j : Nat, j < t.length → 1 ≤ t.getD j 0 ∧ t.getD j 0 ≤ size) (hc : c = ofBits (permB (toBits size.toNat x) t)) :
    Ctr Tryd.prog 17 [] [.int .u64 (.sym x), .int .i64 (.sym size), .str (.sym s)] fun v H => v = .int .u64 (.sym c) ∧ H = [] := by
  have hp1 : Bit01 (permB (toBits size.toNat x) t) := permB_01 (toBits_01 _ _) _
  have hpl : (permB (toBits size.toNat x) t).length = t.length := permB_length _ _
  obtain ⟨uI, uB, uS, uL, uT, hu⟩ := words
  have hm := mixed
  have hT := tabOk
  obtain ⟨P, hP⟩ : ∃ P, P = Tryd.prog := ⟨_, rfl⟩
  rw [← hP] at hm hT ⊢
  refine Ctr.weak (ctr_of_vc hu hm hT (hP ▸ Tryd.func17) rfl (by kernel_rfl) ?_)
  clear hP hm hT
  generalize hR : Weak _ _ = R
  conv => cbv
  repeat' (first | ((with_reducible intro (h : _ = _)); (try subst h); (try simp only [hu.b, hu.i, iB, iI, cmpB, Iv.val_sym, Iv.val_lit, Lv.raw, Tv.raw, decide_eq_true_eq, decide_eq_false_iff_not, beq_iff_eq, beq_eq_false_iff_ne, ne_eq, ofN, Int.toNat_zero, Int.toNat_one, Int.reduceToNat, natc, hu.s, iS, Sv.val_lit, Sv.val_sym, true_iff, false_iff, Bool.false_eq_true, bne_iff_ne, bne_eq_false_iff_eq, Bool.not_eq_true', Bool.not_eq_false', Decidable.not_not, nil_toList, ByteArray.size_empty, nilS, not_true_eq_false, not_false_eq_true, hu.l, iL, hu.t, iT, bin_add, bin_sub, bin_mul, wr_u8, wr_u16, wr_u32, wr_u64, IntKind.wrap_i64, List.length_append, List.length_cons, List.length_nil, List.nil_append, List.append_nil, List.cons_append, lvals, List.length_replicate, List.length_set, linV_val hu, Int.add_zero, Int.zero_add, Int.mul_one, Int.sub_zero, Int.zero_mul, Bool.true_eq_false, false_and, and_false, true_and, and_true, List.all_cons, List.all_nil, id_eq, Bool.and_true] at h) <;> (try simp only [Int.ofNat_eq_natCast] at h) <;> (first | (have hF0 : False := by omega; exact hF0.elim) | (conv => cbv))) | (with_reducible refine And.intro ?_ ?_) | (refine Gen0.mk ?_; (conv => cbv)) | (simp only [hu.b, hu.i, iB, iI, cmpB, Iv.val_sym, Iv.val_lit, Lv.raw, Tv.raw, decide_eq_true_eq, decide_eq_false_iff_not, beq_iff_eq, beq_eq_false_iff_ne, ne_eq, ofN, Int.toNat_zero, Int.toNat_one, Int.reduceToNat, natc, hu.s, iS, Sv.val_lit, Sv.val_sym, true_iff, false_iff, Bool.false_eq_true, bne_iff_ne, bne_eq_false_iff_eq, Bool.not_eq_true', Bool.not_eq_false', Decidable.not_not, nil_toList, ByteArray.size_empty, nilS, not_true_eq_false, not_false_eq_true, hu.l, iL, hu.t, iT, bin_add, bin_sub, bin_mul, wr_u8, wr_u16, wr_u32, wr_u64, IntKind.wrap_i64, List.length_append, List.length_cons, List.length_nil, List.nil_append, List.append_nil, List.cons_append, lvals, List.length_replicate, List.length_set, linV_val hu, Int.add_zero, Int.zero_add, Int.mul_one, Int.sub_zero, Int.zero_mul, Bool.true_eq_false, false_and, and_false, true_and, and_true, List.all_cons, List.all_nil, id_eq, Bool.and_true]; (try simp only [Int.ofNat_eq_natCast]); done) | ((try simp only [hu.b, hu.i, iB, iI, cmpB, Iv.val_sym, Iv.val_lit, Lv.raw, Tv.raw, decide_eq_true_eq, decide_eq_false_iff_not, beq_iff_eq, beq_eq_false_iff_ne, ne_eq, ofN, Int.toNat_zero, Int.toNat_one, Int.reduceToNat, natc, hu.s, iS, Sv.val_lit, Sv.val_sym, true_iff, false_iff, Bool.false_eq_true, bne_iff_ne, bne_eq_false_iff_eq, Bool.not_eq_true', Bool.not_eq_false', Decidable.not_not, nil_toList, ByteArray.size_empty, nilS, not_true_eq_false, not_false_eq_true, hu.l, iL, hu.t, iT, bin_add, bin_sub, bin_mul, wr_u8, wr_u16, wr_u32, wr_u64, IntKind.wrap_i64, List.length_append, List.length_cons, List.length_nil, List.nil_append, List.append_nil, List.cons_append, lvals, List.length_replicate, List.length_set, linV_val hu, Int.add_zero, Int.zero_add, Int.mul_one, Int.sub_zero, Int.zero_mul, Bool.true_eq_false, false_and, and_false, true_and, and_true, List.all_cons, List.all_nil, id_eq, Bool.and_true]) <;> (try simp only [Int.ofNat_eq_natCast]) <;> omega))
  refine .inv (Int × Int) [7, 8] (fun g => ([.int .u64 (.sym g.2), .int .i64 (.sym g.1)], [])) (fun g => 0 ≤ g.1 ∧ g.1 ≤ s.size ∧ g.1 % 2 = 0 ∧ g.2 = ofBits ((permB (toBits size.toNat x) t).take (g.1 / 2).toNat)) (fun g => (s.size - g.1).toNat) (0, 0) (by kernel_rfl) (fun g hg => by kernel_rfl) ?_ ?_
  · refine ⟨⟨by dsimp only; omega, by dsimp only; omega, by dsimp only; omega, rfl⟩, ?_, ?_⟩
    all_goals
      ((conv => cbv); repeat' (first | exact True.intro | with_reducible rfl | (with_reducible exact fun h => h) | (with_reducible refine And.intro ?_ ?_)))
  rintro ⟨i, o⟩ hq
  simp only [] at hq
  have q0 := hq.1; have q1 := hq.2.1; have q2 := hq.2.2.1; have q3 := hq.2.2.2
  clear hq
  have hz : i < s.size → i + 2 ≤ s.size := by omega
  have f1 : i < s.size → (byteAt s i - 48) % 256 * 10 + (byteAt s (i + 1) - 48) % 256 = t.getD (i / 2).toNat 0 := fun h => by
    have := ht (i / 2).toNat (by omega)
    rw [tabAt, show 2 * (((i / 2).toNat : Nat) : Int) = i by omega] at this
    exact this
  have f2 : i < s.size → 1 ≤ t.getD (i / 2).toNat 0 ∧ t.getD (i / 2).toNat 0 ≤ size := fun h => hi _ (by omega)
  have e0 : i < s.size → (i + 1 + 9223372036854775808) % 18446744073709551616 - 9223372036854775808 = i + 1 := by omega
  have e1 : ((byteAt s i - 48) % 256 + 9223372036854775808) % 18446744073709551616 - 9223372036854775808 = (byteAt s i - 48) % 256 := by omega
  have e2 : ((byteAt s i - 48) % 256 * 10 + 9223372036854775808) % 18446744073709551616 - 9223372036854775808 = (byteAt s i - 48) % 256 * 10 := by omega
  have e3 : ((byteAt s (i + 1) - 48) % 256 + 9223372036854775808) % 18446744073709551616 - 9223372036854775808 = (byteAt s (i + 1) - 48) % 256 := by omega
  have e4 : ((byteAt s i - 48) % 256 * 10 + (byteAt s (i + 1) - 48) % 256 + 9223372036854775808) % 18446744073709551616 - 9223372036854775808 = (byteAt s i - 48) % 256 * 10 + (byteAt s (i + 1) - 48) % 256 := by omega
  have e0' : (i + 1 + 9223372036854775808) % 18446744073709551616 - 9223372036854775808 = i + 1 := by omega
  have e5 : i < s.size → (size - ((byteAt s i - 48) % 256 * 10 + (byteAt s (i + 1) - 48) % 256) + 9223372036854775808) % 18446744073709551616 - 9223372036854775808 = size - t.getD (i / 2).toNat 0 := fun h => by
    rw [f1 h]; have := f2 h; omega
  conv => cbv
  repeat' (first | ((with_reducible intro (h : _ = _)); (try subst h); (try simp only [hu.b, hu.i, iB, iI, cmpB, Iv.val_sym, Iv.val_lit, Lv.raw, Tv.raw, decide_eq_true_eq, decide_eq_false_iff_not, beq_iff_eq, beq_eq_false_iff_ne, ne_eq, ofN, Int.toNat_zero, Int.toNat_one, Int.reduceToNat, natc, hu.s, iS, Sv.val_lit, Sv.val_sym, true_iff, false_iff, Bool.false_eq_true, bne_iff_ne, bne_eq_false_iff_eq, Bool.not_eq_true', Bool.not_eq_false', Decidable.not_not, nil_toList, ByteArray.size_empty, nilS, not_true_eq_false, not_false_eq_true, hu.l, iL, hu.t, iT, bin_add, bin_sub, bin_mul, wr_u8, wr_u16, wr_u32, wr_u64, IntKind.wrap_i64, List.length_append, List.length_cons, List.length_nil, List.nil_append, List.append_nil, List.cons_append, lvals, List.length_replicate, List.length_set, linV_val hu, Int.add_zero, Int.zero_add, Int.mul_one, Int.sub_zero, Int.zero_mul, Bool.true_eq_false, false_and, and_false, true_and, and_true, List.all_cons, List.all_nil, id_eq, Bool.and_true, e0', e1, e2, e3, e4] at h) <;> (try simp only [Int.ofNat_eq_natCast] at h) <;> (first | (have hF0 : False := by omega; exact hF0.elim) | (conv => cbv))) | (with_reducible refine And.intro ?_ ?_) | (refine Gen0.mk ?_; (conv => cbv)) | (simp only [hu.b, hu.i, iB, iI, cmpB, Iv.val_sym, Iv.val_lit, Lv.raw, Tv.raw, decide_eq_true_eq, decide_eq_false_iff_not, beq_iff_eq, beq_eq_false_iff_ne, ne_eq, ofN, Int.toNat_zero, Int.toNat_one, Int.reduceToNat, natc, hu.s, iS, Sv.val_lit, Sv.val_sym, true_iff, false_iff, Bool.false_eq_true, bne_iff_ne, bne_eq_false_iff_eq, Bool.not_eq_true', Bool.not_eq_false', Decidable.not_not, nil_toList, ByteArray.size_empty, nilS, not_true_eq_false, not_false_eq_true, hu.l, iL, hu.t, iT, bin_add, bin_sub, bin_mul, wr_u8, wr_u16, wr_u32, wr_u64, IntKind.wrap_i64, List.length_append, List.length_cons, List.length_nil, List.nil_append, List.append_nil, List.cons_append, lvals, List.length_replicate, List.length_set, linV_val hu, Int.add_zero, Int.zero_add, Int.mul_one, Int.sub_zero, Int.zero_mul, Bool.true_eq_false, false_and, and_false, true_and, and_true, List.all_cons, List.all_nil, id_eq, Bool.and_true, e0', e1, e2, e3, e4]; (try simp only [Int.ofNat_eq_natCast]); done) | ((try simp only [hu.b, hu.i, iB, iI, cmpB, Iv.val_sym, Iv.val_lit, Lv.raw, Tv.raw, decide_eq_true_eq, decide_eq_false_iff_not, beq_iff_eq, beq_eq_false_iff_ne, ne_eq, ofN, Int.toNat_zero, Int.toNat_one, Int.reduceToNat, natc, hu.s, iS, Sv.val_lit, Sv.val_sym, true_iff, false_iff, Bool.false_eq_true, bne_iff_ne, bne_eq_false_iff_eq, Bool.not_eq_true', Bool.not_eq_false', Decidable.not_not, nil_toList, ByteArray.size_empty, nilS, not_true_eq_false, not_false_eq_true, hu.l, iL, hu.t, iT, bin_add, bin_sub, bin_mul, wr_u8, wr_u16, wr_u32, wr_u64, IntKind.wrap_i64, List.length_append, List.length_cons, List.length_nil, List.nil_append, List.append_nil, List.cons_append, lvals, List.length_replicate, List.length_set, linV_val hu, Int.add_zero, Int.zero_add, Int.mul_one, Int.sub_zero, Int.zero_mul, Bool.true_eq_false, false_and, and_false, true_and, and_true, List.all_cons, List.all_nil, id_eq, Bool.and_true, e0', e1, e2, e3, e4]) <;> (try simp only [Int.ofNat_eq_natCast]) <;> omega))
  · obtain ⟨i', ei⟩ : ∃ y, y = i + 2 := ⟨_, rfl⟩
    obtain ⟨o', eo⟩ : ∃ y, y = 2 * o + x / 2 ^ (size - t.getD (i / 2).toNat 0).toNat % 2 := ⟨_, rfl⟩
    have hlt : i < s.size := by assumption
    have g2 := f2 hlt
    have g3 := hz hlt
    have g4 : (↑s.size - (i + 2)).toNat < (↑s.size - i).toNat := by clear hc hi ht; omega
    have hj : (i / 2).toNat < t.length := by omega
    have hb : (permB (toBits size.toNat x) t).getD (i / 2).toNat 0 = x / 2 ^ (size - t.getD (i / 2).toNat 0).toNat % 2 := by
      rw [permB_get _ _ hj, toBits, rmap_get _ (by omega)]
      congr 3
      omega
    have h9 : o' = ofBits ((permB (toBits size.toNat x) t).take (i' / 2).toNat) := by
      rw [show (i' / 2).toNat = (i / 2).toNat + 1 by omega, take_next _ (by omega), ofBits_snoc, hb, eo, q3]
    have ho := ofBits_lt (hp1.take (i / 2).toNat)
    have hol : ((permB (toBits size.toNat x) t).take (i / 2).toNat).length ≤ 63 := by rw [List.length_take]; omega
    have hpw : (2 : Int) ^ ((permB (toBits size.toNat x) t).take (i / 2).toNat).length ≤ 2 ^ 63 := by
      have h1 := Nat.pow_le_pow_right (show 0 < 2 by decide) hol
      have h2 : ((2 ^ ((permB (toBits size.toNat x) t).take (i / 2).toNat).length : Nat) : Int) ≤ ((2 ^ 63 : Nat) : Int) := Int.ofNat_le.2 h1
      rw [Int.natCast_pow] at h2
      exact h2
    rw [← q3] at ho
    have hpush := push1 (o := o) (x := x) (p := size - t.getD (i / 2).toNat 0) ho.1 (by omega) hx.1 hx.2 (by omega) (by omega)
    refine ⟨(i', o'), ⟨by dsimp only; clear ho hpw; omega, by dsimp only; rw [ei]; exact g3, by dsimp only; clear ho hpw; omega, h9⟩, by dsimp only; rw [ei]; exact g4, ?_, ?_⟩
    all_goals
      ((conv => cbv); repeat' (first | exact True.intro | with_reducible rfl | (with_reducible exact fun h => h) | (with_reducible refine And.intro ?_ ?_)))
    · ((try simp only [hu.b, hu.i, iB, iI, cmpB, Iv.val_sym, Iv.val_lit, Lv.raw, Tv.raw, decide_eq_true_eq, decide_eq_false_iff_not, beq_iff_eq, beq_eq_false_iff_ne, ne_eq, ofN, Int.toNat_zero, Int.toNat_one, Int.reduceToNat, natc, hu.s, iS, Sv.val_lit, Sv.val_sym, true_iff, false_iff, Bool.false_eq_true, bne_iff_ne, bne_eq_false_iff_eq, Bool.not_eq_true', Bool.not_eq_false', Decidable.not_not, nil_toList, ByteArray.size_empty, nilS, not_true_eq_false, not_false_eq_true, hu.l, iL, hu.t, iT, bin_add, bin_sub, bin_mul, wr_u8, wr_u16, wr_u32, wr_u64, IntKind.wrap_i64, List.length_append, List.length_cons, List.length_nil, List.nil_append, List.append_nil, List.cons_append, lvals, List.length_replicate, List.length_set, linV_val hu, Int.add_zero, Int.zero_add, Int.mul_one, Int.sub_zero, Int.zero_mul, Bool.true_eq_false, false_and, and_false, true_and, and_true, List.all_cons, List.all_nil, id_eq, Bool.and_true, e0', e1, e2, e3, e4]) <;> (try simp only [Int.ofNat_eq_natCast]) <;> (try omega))
      rw [e5 hlt, hpush, eo]
    · ((try simp only [hu.b, hu.i, iB, iI, cmpB, Iv.val_sym, Iv.val_lit, Lv.raw, Tv.raw, decide_eq_true_eq, decide_eq_false_iff_not, beq_iff_eq, beq_eq_false_iff_ne, ne_eq, ofN, Int.toNat_zero, Int.toNat_one, Int.reduceToNat, natc, hu.s, iS, Sv.val_lit, Sv.val_sym, true_iff, false_iff, Bool.false_eq_true, bne_iff_ne, bne_eq_false_iff_eq, Bool.not_eq_true', Bool.not_eq_false', Decidable.not_not, nil_toList, ByteArray.size_empty, nilS, not_true_eq_false, not_false_eq_true, hu.l, iL, hu.t, iT, bin_add, bin_sub, bin_mul, wr_u8, wr_u16, wr_u32, wr_u64, IntKind.wrap_i64, List.length_append, List.length_cons, List.length_nil, List.nil_append, List.append_nil, List.cons_append, lvals, List.length_replicate, List.length_set, linV_val hu, Int.add_zero, Int.zero_add, Int.mul_one, Int.sub_zero, Int.zero_mul, Bool.true_eq_false, false_and, and_false, true_and, and_true, List.all_cons, List.all_nil, id_eq, Bool.and_true]) <;> (try simp only [Int.ofNat_eq_natCast]) <;> (try omega))
  · subst hR
    refine Weak.of (⟨rfl, rfl⟩) ?_ ?_ (by rfl)
    all_goals ((conv => cbv); repeat' (first | exact True.intro | with_reducible rfl | (with_reducible exact fun h => h) | (with_reducible refine And.intro ?_ ?_)))
    rw [q3, hc, List.take_of_length_le (by omega)]
theorem number_ctr (b : List Int) (c : Int) (hb : b.length = 8) (hB : Bytes b) (hc : c = ofBits (bitsOf b)) : Ctr Tryd.prog 18 [] [.cols 8 [.ints .u8 (.sym b)]] fun v H => v = .int .u64 (.sym c) ∧ H = [] := by
  obtain ⟨uI, uB, uS, uL, uT, hu⟩ := words
  have hm := mixed
  have hT := tabOk
  obtain ⟨P, hP⟩ : ∃ P, P = Tryd.prog := ⟨_, rfl⟩
  rw [← hP] at hm hT ⊢
  refine Ctr.weak (ctr_of_vc hu hm hT (hP ▸ Tryd.func18) rfl (by kernel_rfl) ?_)
  clear hP hm hT
  generalize hR : Weak _ _ = R
  conv => cbv
  repeat' (first | ((with_reducible intro (h : _ = _)); (try subst h); (try simp only [hu.b, hu.i, iB, iI, cmpB, Iv.val_sym, Iv.val_lit, Lv.raw, Tv.raw, decide_eq_true_eq, decide_eq_false_iff_not, beq_iff_eq, beq_eq_false_iff_ne, ne_eq, ofN, Int.toNat_zero, Int.toNat_one, Int.reduceToNat, natc, hu.s, iS, Sv.val_lit, Sv.val_sym, true_iff, false_iff, Bool.false_eq_true, bne_iff_ne, bne_eq_false_iff_eq, Bool.not_eq_true', Bool.not_eq_false', Decidable.not_not, nil_toList, ByteArray.size_empty, nilS, not_true_eq_false, not_false_eq_true, hu.l, iL, hu.t, iT, bin_add, bin_sub, bin_mul, wr_u8, wr_u16, wr_u32, wr_u64, IntKind.wrap_i64, List.length_append, List.length_cons, List.length_nil, List.nil_append, List.append_nil, List.cons_append, lvals, List.length_replicate, List.length_set, linV_val hu, Int.add_zero, Int.zero_add, Int.mul_one, Int.sub_zero, Int.zero_mul, Bool.true_eq_false, false_and, and_false, true_and, and_true, List.all_cons, List.all_nil, id_eq, Bool.and_true] at h) <;> (try simp only [Int.ofNat_eq_natCast] at h) <;> (first | (have hF0 : False := by omega; exact hF0.elim) | (conv => cbv))) | (with_reducible refine And.intro ?_ ?_) | (refine Gen0.mk ?_; (conv => cbv)) | (simp only [hu.b, hu.i, iB, iI, cmpB, Iv.val_sym, Iv.val_lit, Lv.raw, Tv.raw, decide_eq_true_eq, decide_eq_false_iff_not, beq_iff_eq, beq_eq_false_iff_ne, ne_eq, ofN, Int.toNat_zero, Int.toNat_one, Int.reduceToNat, natc, hu.s, iS, Sv.val_lit, Sv.val_sym, true_iff, false_iff, Bool.false_eq_true, bne_iff_ne, bne_eq_false_iff_eq, Bool.not_eq_true', Bool.not_eq_false', Decidable.not_not, nil_toList, ByteArray.size_empty, nilS, not_true_eq_false, not_false_eq_true, hu.l, iL, hu.t, iT, bin_add, bin_sub, bin_mul, wr_u8, wr_u16, wr_u32, wr_u64, IntKind.wrap_i64, List.length_append, List.length_cons, List.length_nil, List.nil_append, List.append_nil, List.cons_append, lvals, List.length_replicate, List.length_set, linV_val hu, Int.add_zero, Int.zero_add, Int.mul_one, Int.sub_zero, Int.zero_mul, Bool.true_eq_false, false_and, and_false, true_and, and_true, List.all_cons, List.all_nil, id_eq, Bool.and_true]; (try simp only [Int.ofNat_eq_natCast]); done) | ((try simp only [hu.b, hu.i, iB, iI, cmpB, Iv.val_sym, Iv.val_lit, Lv.raw, Tv.raw, decide_eq_true_eq, decide_eq_false_iff_not, beq_iff_eq, beq_eq_false_iff_ne, ne_eq, ofN, Int.toNat_zero, Int.toNat_one, Int.reduceToNat, natc, hu.s, iS, Sv.val_lit, Sv.val_sym, true_iff, false_iff, Bool.false_eq_true, bne_iff_ne, bne_eq_false_iff_eq, Bool.not_eq_true', Bool.not_eq_false', Decidable.not_not, nil_toList, ByteArray.size_empty, nilS, not_true_eq_false, not_false_eq_true, hu.l, iL, hu.t, iT, bin_add, bin_sub, bin_mul, wr_u8, wr_u16, wr_u32, wr_u64, IntKind.wrap_i64, List.length_append, List.length_cons, List.length_nil, List.nil_append, List.append_nil, List.cons_append, lvals, List.length_replicate, List.length_set, linV_val hu, Int.add_zero, Int.zero_add, Int.mul_one, Int.sub_zero, Int.zero_mul, Bool.true_eq_false, false_and, and_false, true_and, and_true, List.all_cons, List.all_nil, id_eq, Bool.and_true]) <;> (try simp only [Int.ofNat_eq_natCast]) <;> omega))
  refine .inv (Int × Int) [3, 7] (fun g => ([.int .u64 (.sym g.2), .int .i64 (.sym g.1)], [.cols .var 22 [.ints .u8 (.sym b)]])) (fun g => 0 ≤ g.1 ∧ g.1 ≤ 8 ∧ g.2 = ofBits (bitsOf (b.take g.1.toNat))) (fun g => (8 - g.1).toNat) (0, 0) (by kernel_rfl) (fun g hg => by kernel_rfl) ?_ ?_
  · refine ⟨⟨by dsimp only; omega, by dsimp only; omega, rfl⟩, ?_, ?_⟩
    all_goals
      ((conv => cbv); repeat' (first | exact True.intro | with_reducible rfl | (with_reducible exact fun h => h) | (with_reducible refine And.intro ?_ ?_)))
  rintro ⟨i, o⟩ hq
  simp only [] at hq
  have q0 := hq.1; have q1 := hq.2.1; have q2 := hq.2.2
  clear hq
  conv => cbv
  repeat' (first | ((with_reducible intro (h : _ = _)); (try subst h); (try simp only [hu.b, hu.i, iB, iI, cmpB, Iv.val_sym, Iv.val_lit, Lv.raw, Tv.raw, decide_eq_true_eq, decide_eq_false_iff_not, beq_iff_eq, beq_eq_false_iff_ne, ne_eq, ofN, Int.toNat_zero, Int.toNat_one, Int.reduceToNat, natc, hu.s, iS, Sv.val_lit, Sv.val_sym, true_iff, false_iff, Bool.false_eq_true, bne_iff_ne, bne_eq_false_iff_eq, Bool.not_eq_true', Bool.not_eq_false', Decidable.not_not, nil_toList, ByteArray.size_empty, nilS, not_true_eq_false, not_false_eq_true, hu.l, iL, hu.t, iT, bin_add, bin_sub, bin_mul, wr_u8, wr_u16, wr_u32, wr_u64, IntKind.wrap_i64, List.length_append, List.length_cons, List.length_nil, List.nil_append, List.append_nil, List.cons_append, lvals, List.length_replicate, List.length_set, linV_val hu, Int.add_zero, Int.zero_add, Int.mul_one, Int.sub_zero, Int.zero_mul, Bool.true_eq_false, false_and, and_false, true_and, and_true, List.all_cons, List.all_nil, id_eq, Bool.and_true] at h) <;> (try simp only [Int.ofNat_eq_natCast] at h) <;> (first | (have hF0 : False := by omega; exact hF0.elim) | (conv => cbv))) | (with_reducible refine And.intro ?_ ?_) | (refine Gen0.mk ?_; (conv => cbv)) | (simp only [hu.b, hu.i, iB, iI, cmpB, Iv.val_sym, Iv.val_lit, Lv.raw, Tv.raw, decide_eq_true_eq, decide_eq_false_iff_not, beq_iff_eq, beq_eq_false_iff_ne, ne_eq, ofN, Int.toNat_zero, Int.toNat_one, Int.reduceToNat, natc, hu.s, iS, Sv.val_lit, Sv.val_sym, true_iff, false_iff, Bool.false_eq_true, bne_iff_ne, bne_eq_false_iff_eq, Bool.not_eq_true', Bool.not_eq_false', Decidable.not_not, nil_toList, ByteArray.size_empty, nilS, not_true_eq_false, not_false_eq_true, hu.l, iL, hu.t, iT, bin_add, bin_sub, bin_mul, wr_u8, wr_u16, wr_u32, wr_u64, IntKind.wrap_i64, List.length_append, List.length_cons, List.length_nil, List.nil_append, List.append_nil, List.cons_append, lvals, List.length_replicate, List.length_set, linV_val hu, Int.add_zero, Int.zero_add, Int.mul_one, Int.sub_zero, Int.zero_mul, Bool.true_eq_false, false_and, and_false, true_and, and_true, List.all_cons, List.all_nil, id_eq, Bool.and_true]; (try simp only [Int.ofNat_eq_natCast]); done) | ((try simp only [hu.b, hu.i, iB, iI, cmpB, Iv.val_sym, Iv.val_lit, Lv.raw, Tv.raw, decide_eq_true_eq, decide_eq_false_iff_not, beq_iff_eq, beq_eq_false_iff_ne, ne_eq, ofN, Int.toNat_zero, Int.toNat_one, Int.reduceToNat, natc, hu.s, iS, Sv.val_lit, Sv.val_sym, true_iff, false_iff, Bool.false_eq_true, bne_iff_ne, bne_eq_false_iff_eq, Bool.not_eq_true', Bool.not_eq_false', Decidable.not_not, nil_toList, ByteArray.size_empty, nilS, not_true_eq_false, not_false_eq_true, hu.l, iL, hu.t, iT, bin_add, bin_sub, bin_mul, wr_u8, wr_u16, wr_u32, wr_u64, IntKind.wrap_i64, List.length_append, List.length_cons, List.length_nil, List.nil_append, List.append_nil, List.cons_append, lvals, List.length_replicate, List.length_set, linV_val hu, Int.add_zero, Int.zero_add, Int.mul_one, Int.sub_zero, Int.zero_mul, Bool.true_eq_false, false_and, and_false, true_and, and_true, List.all_cons, List.all_nil, id_eq, Bool.and_true]) <;> (try simp only [Int.ofNat_eq_natCast]) <;> omega))
  · obtain ⟨i', ei⟩ : ∃ y, y = i + 1 := ⟨_, rfl⟩
    have hlt : i < 8 := by assumption
    obtain ⟨o', eo⟩ : ∃ y, y = ofBits (bitsOf (b.take i'.toNat)) := ⟨_, rfl⟩
    have hbb := hB.get i.toNat
    have e1 : b.getD i.toNat 0 = ofBits (toBits 8 (b.getD i.toNat 0)) := (ofBits_toBits hbb.1 (by have := hbb.2; omega)).symm
    have hlen : (bitsOf (b.take i.toNat)).length = 8 * i.toNat := by rw [bitsOf_length, List.length_take]; omega
    have h9 : binI .or .u64 (binI .shl .u64 o 8) (b.getD i.toNat 0) = o' := by
      rw [eo, ei, show (i + 1).toNat = i.toNat + 1 by omega, take_next _ (by omega), bitsOf_append, q2]
      have e2 : bitsOf [b.getD i.toNat 0] = toBits 8 (b.getD i.toNat 0) := by simp [bitsOf]
      rw [e2]
      conv => lhs; rw [e1]
      exact or_shl (bitsOf_01 _) (toBits_01 _ _) (by rw [toBits_length]; rfl) (by rw [hlen, toBits_length]; omega)
    refine ⟨(i', o'), ⟨by dsimp only; omega, by dsimp only; omega, eo⟩, by dsimp only; omega, ?_, ?_⟩
    all_goals
      ((conv => cbv); repeat' (first | exact True.intro | with_reducible rfl | (with_reducible exact fun h => h) | (with_reducible refine And.intro ?_ ?_)))
    · have e3 : b.getD i.toNat 0 % 18446744073709551616 = b.getD i.toNat 0 := by omega
      ((try simp only [hu.b, hu.i, iB, iI, cmpB, Iv.val_sym, Iv.val_lit, Lv.raw, Tv.raw, decide_eq_true_eq, decide_eq_false_iff_not, beq_iff_eq, beq_eq_false_iff_ne, ne_eq, ofN, Int.toNat_zero, Int.toNat_one, Int.reduceToNat, natc, hu.s, iS, Sv.val_lit, Sv.val_sym, true_iff, false_iff, Bool.false_eq_true, bne_iff_ne, bne_eq_false_iff_eq, Bool.not_eq_true', Bool.not_eq_false', Decidable.not_not, nil_toList, ByteArray.size_empty, nilS, not_true_eq_false, not_false_eq_true, hu.l, iL, hu.t, iT, bin_add, bin_sub, bin_mul, wr_u8, wr_u16, wr_u32, wr_u64, IntKind.wrap_i64, List.length_append, List.length_cons, List.length_nil, List.nil_append, List.append_nil, List.cons_append, lvals, List.length_replicate, List.length_set, linV_val hu, Int.add_zero, Int.zero_add, Int.mul_one, Int.sub_zero, Int.zero_mul, Bool.true_eq_false, false_and, and_false, true_and, and_true, List.all_cons, List.all_nil, id_eq, Bool.and_true, e3]) <;> (try simp only [Int.ofNat_eq_natCast]) <;> (try omega))
      all_goals exact h9
    · ((try simp only [hu.b, hu.i, iB, iI, cmpB, Iv.val_sym, Iv.val_lit, Lv.raw, Tv.raw, decide_eq_true_eq, decide_eq_false_iff_not, beq_iff_eq, beq_eq_false_iff_ne, ne_eq, ofN, Int.toNat_zero, Int.toNat_one, Int.reduceToNat, natc, hu.s, iS, Sv.val_lit, Sv.val_sym, true_iff, false_iff, Bool.false_eq_true, bne_iff_ne, bne_eq_false_iff_eq, Bool.not_eq_true', Bool.not_eq_false', Decidable.not_not, nil_toList, ByteArray.size_empty, nilS, not_true_eq_false, not_false_eq_true, hu.l, iL, hu.t, iT, bin_add, bin_sub, bin_mul, wr_u8, wr_u16, wr_u32, wr_u64, IntKind.wrap_i64, List.length_append, List.length_cons, List.length_nil, List.nil_append, List.append_nil, List.cons_append, lvals, List.length_replicate, List.length_set, linV_val hu, Int.add_zero, Int.zero_add, Int.mul_one, Int.sub_zero, Int.zero_mul, Bool.true_eq_false, false_and, and_false, true_and, and_true, List.all_cons, List.all_nil, id_eq, Bool.and_true]) <;> (try simp only [Int.ofNat_eq_natCast]) <;> (try omega))
  · subst hR
    refine Weak.of (⟨rfl, rfl⟩) ?_ ?_ (by rfl)
    all_goals ((conv => cbv); repeat' (first | exact True.intro | with_reducible rfl | (with_reducible exact fun h => h) | (with_reducible refine And.intro ?_ ?_)))
    rw [q2, hc, List.take_of_length_le (by omega)]
theorem byte_eq (x : Int) (i : Nat) (hx : 0 ≤ x ∧ x < 18446744073709551616) (h : i < 8) : ofBits (((toBits 64 x).drop (8 * i)).take 8) = x / 2 ^ (56 - 8 * i) % 256 := by
  have := ofBits_mid (toBits_01 64 x) (8 * i) 8 (by rw [toBits_length]; omega)
  rw [toBits_length, ofBits_toBits hx.1 hx.2, show 64 - 8 * i - 8 = 56 - 8 * i by omega] at this
  exact this.symm
theorem bytes_ctr (x : Int) (c : List Int) (hx : 0 ≤ x ∧ x < 18446744073709551616) (hc : c = bytesOf (toBits 64 x) 8) : Ctr Tryd.prog 23 [] [.int .u64 (.sym x)] fun v H => v = .cols 8 [.ints .u8 (.sym c)] ∧ H = [] := by
  obtain ⟨uI, uB, uS, uL, uT, hu⟩ := words
  have hm := mixed
  have hT := tabOk
  obtain ⟨P, hP⟩ : ∃ P, P = Tryd.prog := ⟨_, rfl⟩
  rw [← hP] at hm hT ⊢
  refine Ctr.weak (ctr_of_vc hu hm hT (hP ▸ Tryd.func23) rfl (by kernel_rfl) ?_)
  clear hP hm hT
  generalize hR : Weak _ _ = R
  conv => cbv
  repeat' (first | ((with_reducible intro (h : _ = _)); (try subst h); (try simp only [hu.b, hu.i, iB, iI, cmpB, Iv.val_sym, Iv.val_lit, Lv.raw, Tv.raw, decide_eq_true_eq, decide_eq_false_iff_not, beq_iff_eq, beq_eq_false_iff_ne, ne_eq, ofN, Int.toNat_zero, Int.toNat_one, Int.reduceToNat, natc, hu.s, iS, Sv.val_lit, Sv.val_sym, true_iff, false_iff, Bool.false_eq_true, bne_iff_ne, bne_eq_false_iff_eq, Bool.not_eq_true', Bool.not_eq_false', Decidable.not_not, nil_toList, ByteArray.size_empty, nilS, not_true_eq_false, not_false_eq_true, hu.l, iL, hu.t, iT, bin_add, bin_sub, bin_mul, wr_u8, wr_u16, wr_u32, wr_u64, IntKind.wrap_i64, List.length_append, List.length_cons, List.length_nil, List.nil_append, List.append_nil, List.cons_append, lvals, List.length_replicate, List.length_set, linV_val hu, Int.add_zero, Int.zero_add, Int.mul_one, Int.sub_zero, Int.zero_mul, Bool.true_eq_false, false_and, and_false, true_and, and_true, List.all_cons, List.all_nil, id_eq, Bool.and_true] at h) <;> (try simp only [Int.ofNat_eq_natCast] at h) <;> (first | (have hF0 : False := by omega; exact hF0.elim) | (conv => cbv))) | (with_reducible refine And.intro ?_ ?_) | (refine Gen0.mk ?_; (conv => cbv)) | (simp only [hu.b, hu.i, iB, iI, cmpB, Iv.val_sym, Iv.val_lit, Lv.raw, Tv.raw, decide_eq_true_eq, decide_eq_false_iff_not, beq_iff_eq, beq_eq_false_iff_ne, ne_eq, ofN, Int.toNat_zero, Int.toNat_one, Int.reduceToNat, natc, hu.s, iS, Sv.val_lit, Sv.val_sym, true_iff, false_iff, Bool.false_eq_true, bne_iff_ne, bne_eq_false_iff_eq, Bool.not_eq_true', Bool.not_eq_false', Decidable.not_not, nil_toList, ByteArray.size_empty, nilS, not_true_eq_false, not_false_eq_true, hu.l, iL, hu.t, iT, bin_add, bin_sub, bin_mul, wr_u8, wr_u16, wr_u32, wr_u64, IntKind.wrap_i64, List.length_append, List.length_cons, List.length_nil, List.nil_append, List.append_nil, List.cons_append, lvals, List.length_replicate, List.length_set, linV_val hu, Int.add_zero, Int.zero_add, Int.mul_one, Int.sub_zero, Int.zero_mul, Bool.true_eq_false, false_and, and_false, true_and, and_true, List.all_cons, List.all_nil, id_eq, Bool.and_true]; (try simp only [Int.ofNat_eq_natCast]); done) | ((try simp only [hu.b, hu.i, iB, iI, cmpB, Iv.val_sym, Iv.val_lit, Lv.raw, Tv.raw, decide_eq_true_eq, decide_eq_false_iff_not, beq_iff_eq, beq_eq_false_iff_ne, ne_eq, ofN, Int.toNat_zero, Int.toNat_one, Int.reduceToNat, natc, hu.s, iS, Sv.val_lit, Sv.val_sym, true_iff, false_iff, Bool.false_eq_true, bne_iff_ne, bne_eq_false_iff_eq, Bool.not_eq_true', Bool.not_eq_false', Decidable.not_not, nil_toList, ByteArray.size_empty, nilS, not_true_eq_false, not_false_eq_true, hu.l, iL, hu.t, iT, bin_add, bin_sub, bin_mul, wr_u8, wr_u16, wr_u32, wr_u64, IntKind.wrap_i64, List.length_append, List.length_cons, List.length_nil, List.nil_append, List.append_nil, List.cons_append, lvals, List.length_replicate, List.length_set, linV_val hu, Int.add_zero, Int.zero_add, Int.mul_one, Int.sub_zero, Int.zero_mul, Bool.true_eq_false, false_and, and_false, true_and, and_true, List.all_cons, List.all_nil, id_eq, Bool.and_true]) <;> (try simp only [Int.ofNat_eq_natCast]) <;> omega))
  refine .inv (Int × List Int) [5] (fun g => ([.int .i64 (.sym g.1)], [.cols .var 22 [.ints .u8 (.lits [.lit 0, .lit 0, .lit 0, .lit 0, .lit 0, .lit 0, .lit 0, .lit 0])], .cols .var 22 [.ints .u8 (.sym g.2)]])) (fun g => 0 ≤ g.1 ∧ g.1 ≤ 8 ∧ Upto (fun i => ofBits (((toBits 64 x).drop (8 * i)).take 8)) [0, 0, 0, 0, 0, 0, 0, 0] g.1 g.2) (fun g => (8 - g.1).toNat) (0, [0, 0, 0, 0, 0, 0, 0, 0]) (by kernel_rfl) (fun g hg => by kernel_rfl) ?_ ?_
  · refine ⟨⟨by dsimp only; omega, by dsimp only; omega, Upto.zero _ _⟩, ?_, ?_⟩
    all_goals
      ((conv => cbv); repeat' (first | exact True.intro | with_reducible rfl | (with_reducible exact fun h => h) | (with_reducible refine And.intro ?_ ?_)))
  rintro ⟨i, ys⟩ hq
  simp only [] at hq
  have q0 := hq.1; have q1 := hq.2.1; have q2 := hq.2.2
  clear hq
  have q3 : ys.length = 8 := q2.len
  have e1 : (8 * i + 9223372036854775808) % 18446744073709551616 - 9223372036854775808 = 8 * i := by omega
  have e2 : (56 - 8 * i + 9223372036854775808) % 18446744073709551616 - 9223372036854775808 = 56 - 8 * i := by omega
  have q1' := q1
  conv => cbv
  repeat' (first | ((with_reducible intro (h : _ = _)); (try subst h); (try simp only [hu.b, hu.i, iB, iI, cmpB, Iv.val_sym, Iv.val_lit, Lv.raw, Tv.raw, decide_eq_true_eq, decide_eq_false_iff_not, beq_iff_eq, beq_eq_false_iff_ne, ne_eq, ofN, Int.toNat_zero, Int.toNat_one, Int.reduceToNat, natc, hu.s, iS, Sv.val_lit, Sv.val_sym, true_iff, false_iff, Bool.false_eq_true, bne_iff_ne, bne_eq_false_iff_eq, Bool.not_eq_true', Bool.not_eq_false', Decidable.not_not, nil_toList, ByteArray.size_empty, nilS, not_true_eq_false, not_false_eq_true, hu.l, iL, hu.t, iT, bin_add, bin_sub, bin_mul, wr_u8, wr_u16, wr_u32, wr_u64, IntKind.wrap_i64, List.length_append, List.length_cons, List.length_nil, List.nil_append, List.append_nil, List.cons_append, lvals, List.length_replicate, List.length_set, linV_val hu, Int.add_zero, Int.zero_add, Int.mul_one, Int.sub_zero, Int.zero_mul, Bool.true_eq_false, false_and, and_false, true_and, and_true, List.all_cons, List.all_nil, id_eq, Bool.and_true, e1, e2] at h) <;> (try simp only [Int.ofNat_eq_natCast] at h) <;> (first | (have hF0 : False := by omega; exact hF0.elim) | (conv => cbv))) | (with_reducible refine And.intro ?_ ?_) | (refine Gen0.mk ?_; (conv => cbv)) | (simp only [hu.b, hu.i, iB, iI, cmpB, Iv.val_sym, Iv.val_lit, Lv.raw, Tv.raw, decide_eq_true_eq, decide_eq_false_iff_not, beq_iff_eq, beq_eq_false_iff_ne, ne_eq, ofN, Int.toNat_zero, Int.toNat_one, Int.reduceToNat, natc, hu.s, iS, Sv.val_lit, Sv.val_sym, true_iff, false_iff, Bool.false_eq_true, bne_iff_ne, bne_eq_false_iff_eq, Bool.not_eq_true', Bool.not_eq_false', Decidable.not_not, nil_toList, ByteArray.size_empty, nilS, not_true_eq_false, not_false_eq_true, hu.l, iL, hu.t, iT, bin_add, bin_sub, bin_mul, wr_u8, wr_u16, wr_u32, wr_u64, IntKind.wrap_i64, List.length_append, List.length_cons, List.length_nil, List.nil_append, List.append_nil, List.cons_append, lvals, List.length_replicate, List.length_set, linV_val hu, Int.add_zero, Int.zero_add, Int.mul_one, Int.sub_zero, Int.zero_mul, Bool.true_eq_false, false_and, and_false, true_and, and_true, List.all_cons, List.all_nil, id_eq, Bool.and_true, e1, e2]; (try simp only [Int.ofNat_eq_natCast]); done) | ((try simp only [hu.b, hu.i, iB, iI, cmpB, Iv.val_sym, Iv.val_lit, Lv.raw, Tv.raw, decide_eq_true_eq, decide_eq_false_iff_not, beq_iff_eq, beq_eq_false_iff_ne, ne_eq, ofN, Int.toNat_zero, Int.toNat_one, Int.reduceToNat, natc, hu.s, iS, Sv.val_lit, Sv.val_sym, true_iff, false_iff, Bool.false_eq_true, bne_iff_ne, bne_eq_false_iff_eq, Bool.not_eq_true', Bool.not_eq_false', Decidable.not_not, nil_toList, ByteArray.size_empty, nilS, not_true_eq_false, not_false_eq_true, hu.l, iL, hu.t, iT, bin_add, bin_sub, bin_mul, wr_u8, wr_u16, wr_u32, wr_u64, IntKind.wrap_i64, List.length_append, List.length_cons, List.length_nil, List.nil_append, List.append_nil, List.cons_append, lvals, List.length_replicate, List.length_set, linV_val hu, Int.add_zero, Int.zero_add, Int.mul_one, Int.sub_zero, Int.zero_mul, Bool.true_eq_false, false_and, and_false, true_and, and_true, List.all_cons, List.all_nil, id_eq, Bool.and_true, e1, e2]) <;> (try simp only [Int.ofNat_eq_natCast]) <;> omega))
  · obtain ⟨i', ei⟩ : ∃ x, x = i + 1 := ⟨_, rfl⟩
    have hlt : i < 8 := by assumption
    have h1 := q2.next q0 (by show i < 8; omega)
    obtain ⟨zs, ez⟩ : ∃ z, z = ys.set i.toNat (ofBits (((toBits 64 x).drop (8 * i.toNat)).take 8)) := ⟨_, rfl⟩
    rw [← ez, ← ei] at h1
    refine ⟨(i', zs), ⟨by dsimp only; omega, by dsimp only; omega, h1⟩, by dsimp only; omega, ?_, ?_⟩
    all_goals
      ((conv => cbv); repeat' (first | exact True.intro | with_reducible rfl | (with_reducible exact fun h => h) | (with_reducible refine And.intro ?_ ?_)))
    · ((try simp only [hu.b, hu.i, iB, iI, cmpB, Iv.val_sym, Iv.val_lit, Lv.raw, Tv.raw, decide_eq_true_eq, decide_eq_false_iff_not, beq_iff_eq, beq_eq_false_iff_ne, ne_eq, ofN, Int.toNat_zero, Int.toNat_one, Int.reduceToNat, natc, hu.s, iS, Sv.val_lit, Sv.val_sym, true_iff, false_iff, Bool.false_eq_true, bne_iff_ne, bne_eq_false_iff_eq, Bool.not_eq_true', Bool.not_eq_false', Decidable.not_not, nil_toList, ByteArray.size_empty, nilS, not_true_eq_false, not_false_eq_true, hu.l, iL, hu.t, iT, bin_add, bin_sub, bin_mul, wr_u8, wr_u16, wr_u32, wr_u64, IntKind.wrap_i64, List.length_append, List.length_cons, List.length_nil, List.nil_append, List.append_nil, List.cons_append, lvals, List.length_replicate, List.length_set, linV_val hu, Int.add_zero, Int.zero_add, Int.mul_one, Int.sub_zero, Int.zero_mul, Bool.true_eq_false, false_and, and_false, true_and, and_true, List.all_cons, List.all_nil, id_eq, Bool.and_true]) <;> (try simp only [Int.ofNat_eq_natCast]) <;> (try omega))
    · rw [ez, byte_eq x _ hx (by omega)]
      ((try simp only [hu.b, hu.i, iB, iI, cmpB, Iv.val_sym, Iv.val_lit, Lv.raw, Tv.raw, decide_eq_true_eq, decide_eq_false_iff_not, beq_iff_eq, beq_eq_false_iff_ne, ne_eq, ofN, Int.toNat_zero, Int.toNat_one, Int.reduceToNat, natc, hu.s, iS, Sv.val_lit, Sv.val_sym, true_iff, false_iff, Bool.false_eq_true, bne_iff_ne, bne_eq_false_iff_eq, Bool.not_eq_true', Bool.not_eq_false', Decidable.not_not, nil_toList, ByteArray.size_empty, nilS, not_true_eq_false, not_false_eq_true, hu.l, iL, hu.t, iT, bin_add, bin_sub, bin_mul, wr_u8, wr_u16, wr_u32, wr_u64, IntKind.wrap_i64, List.length_append, List.length_cons, List.length_nil, List.nil_append, List.append_nil, List.cons_append, lvals, List.length_replicate, List.length_set, linV_val hu, Int.add_zero, Int.zero_add, Int.mul_one, Int.sub_zero, Int.zero_mul, Bool.true_eq_false, false_and, and_false, true_and, and_true, List.all_cons, List.all_nil, id_eq, Bool.and_true, e1, e2]) <;> (try simp only [Int.ofNat_eq_natCast]) <;> (try omega))
      rw [shr_val (k := .u64) (by omega) (by show 56 - 8 * i ≤ 64; omega), show (56 - 8 * i).toNat = 56 - 8 * i.toNat by omega]
  · have h1 := q2.done (by show (8 : Int) ≤ i; omega)
    subst hR
    refine Weak.of (⟨rfl, rfl⟩) ?_ ?_ (by rfl)
    all_goals ((conv => cbv); repeat' (first | exact True.intro | with_reducible rfl | (with_reducible exact fun h => h) | (with_reducible refine And.intro ?_ ?_)))
    rw [h1, hc]; rfl
theorem turn_ctr (l : List Int) (x n c : Int) (hl : l.length = 28) (hb : Bit01 l) (hx : x = ofBits l) (hn : n = 1 ∨ n = 2) (hc : c = ofBits (rotB l n.toNat)) :
    Ctr Tryd.prog 19 [] [.int .u64 (.sym x), .int .i64 (.sym n)] fun v H => v = .int .u64 (.sym c) ∧ H = [] := by
  obtain ⟨uI, uB, uS, uL, uT, hu⟩ := words
  have hm := mixed
  have hT := tabOk
  obtain ⟨P, hP⟩ : ∃ P, P = Tryd.prog := ⟨_, rfl⟩
  rw [← hP] at hm hT ⊢
  refine Ctr.weak (ctr_of_vc hu hm hT (hP ▸ Tryd.func19) rfl (by kernel_rfl) ?_)
  clear hP hm hT
  generalize hR : Weak _ _ = R
  conv => cbv
  repeat' (first | ((with_reducible intro (h : _ = _)); (try subst h); (try simp only [hu.b, hu.i, iB, iI, cmpB, Iv.val_sym, Iv.val_lit, Lv.raw, Tv.raw, decide_eq_true_eq, decide_eq_false_iff_not, beq_iff_eq, beq_eq_false_iff_ne, ne_eq, ofN, Int.toNat_zero, Int.toNat_one, Int.reduceToNat, natc, hu.s, iS, Sv.val_lit, Sv.val_sym, true_iff, false_iff, Bool.false_eq_true, bne_iff_ne, bne_eq_false_iff_eq, Bool.not_eq_true', Bool.not_eq_false', Decidable.not_not, nil_toList, ByteArray.size_empty, nilS, not_true_eq_false, not_false_eq_true, hu.l, iL, hu.t, iT, bin_add, bin_sub, bin_mul, wr_u8, wr_u16, wr_u32, wr_u64, IntKind.wrap_i64, List.length_append, List.length_cons, List.length_nil, List.nil_append, List.append_nil, List.cons_append, lvals, List.length_replicate, List.length_set, linV_val hu, Int.add_zero, Int.zero_add, Int.mul_one, Int.sub_zero, Int.zero_mul, Bool.true_eq_false, false_and, and_false, true_and, and_true, List.all_cons, List.all_nil, id_eq, Bool.and_true] at h) <;> (try simp only [Int.ofNat_eq_natCast] at h) <;> (first | (have hF0 : False := by omega; exact hF0.elim) | (conv => cbv))) | (with_reducible refine And.intro ?_ ?_) | (refine Gen0.mk ?_; (conv => cbv)) | (simp only [hu.b, hu.i, iB, iI, cmpB, Iv.val_sym, Iv.val_lit, Lv.raw, Tv.raw, decide_eq_true_eq, decide_eq_false_iff_not, beq_iff_eq, beq_eq_false_iff_ne, ne_eq, ofN, Int.toNat_zero, Int.toNat_one, Int.reduceToNat, natc, hu.s, iS, Sv.val_lit, Sv.val_sym, true_iff, false_iff, Bool.false_eq_true, bne_iff_ne, bne_eq_false_iff_eq, Bool.not_eq_true', Bool.not_eq_false', Decidable.not_not, nil_toList, ByteArray.size_empty, nilS, not_true_eq_false, not_false_eq_true, hu.l, iL, hu.t, iT, bin_add, bin_sub, bin_mul, wr_u8, wr_u16, wr_u32, wr_u64, IntKind.wrap_i64, List.length_append, List.length_cons, List.length_nil, List.nil_append, List.append_nil, List.cons_append, lvals, List.length_replicate, List.length_set, linV_val hu, Int.add_zero, Int.zero_add, Int.mul_one, Int.sub_zero, Int.zero_mul, Bool.true_eq_false, false_and, and_false, true_and, and_true, List.all_cons, List.all_nil, id_eq, Bool.and_true]; (try simp only [Int.ofNat_eq_natCast]); done) | ((try simp only [hu.b, hu.i, iB, iI, cmpB, Iv.val_sym, Iv.val_lit, Lv.raw, Tv.raw, decide_eq_true_eq, decide_eq_false_iff_not, beq_iff_eq, beq_eq_false_iff_ne, ne_eq, ofN, Int.toNat_zero, Int.toNat_one, Int.reduceToNat, natc, hu.s, iS, Sv.val_lit, Sv.val_sym, true_iff, false_iff, Bool.false_eq_true, bne_iff_ne, bne_eq_false_iff_eq, Bool.not_eq_true', Bool.not_eq_false', Decidable.not_not, nil_toList, ByteArray.size_empty, nilS, not_true_eq_false, not_false_eq_true, hu.l, iL, hu.t, iT, bin_add, bin_sub, bin_mul, wr_u8, wr_u16, wr_u32, wr_u64, IntKind.wrap_i64, List.length_append, List.length_cons, List.length_nil, List.nil_append, List.append_nil, List.cons_append, lvals, List.length_replicate, List.length_set, linV_val hu, Int.add_zero, Int.zero_add, Int.mul_one, Int.sub_zero, Int.zero_mul, Bool.true_eq_false, false_and, and_false, true_and, and_true, List.all_cons, List.all_nil, id_eq, Bool.and_true]) <;> (try simp only [Int.ofNat_eq_natCast]) <;> omega))
  subst hR
  refine Weak.of (⟨rfl, rfl⟩) ?_ ?_ (by rfl)
  all_goals ((conv => cbv); repeat' (first | exact True.intro | with_reducible rfl | (with_reducible exact fun h => h) | (with_reducible refine And.intro ?_ ?_)))
  have e1 : (28 - n + 9223372036854775808) % 18446744073709551616 - 9223372036854775808 = 28 - n := by omega
  ((try simp only [hu.b, hu.i, iB, iI, cmpB, Iv.val_sym, Iv.val_lit, Lv.raw, Tv.raw, decide_eq_true_eq, decide_eq_false_iff_not, beq_iff_eq, beq_eq_false_iff_ne, ne_eq, ofN, Int.toNat_zero, Int.toNat_one, Int.reduceToNat, natc, hu.s, iS, Sv.val_lit, Sv.val_sym, true_iff, false_iff, Bool.false_eq_true, bne_iff_ne, bne_eq_false_iff_eq, Bool.not_eq_true', Bool.not_eq_false', Decidable.not_not, nil_toList, ByteArray.size_empty, nilS, not_true_eq_false, not_false_eq_true, hu.l, iL, hu.t, iT, bin_add, bin_sub, bin_mul, wr_u8, wr_u16, wr_u32, wr_u64, IntKind.wrap_i64, List.length_append, List.length_cons, List.length_nil, List.nil_append, List.append_nil, List.cons_append, lvals, List.length_replicate, List.length_set, linV_val hu, Int.add_zero, Int.zero_add, Int.mul_one, Int.sub_zero, Int.zero_mul, Bool.true_eq_false, false_and, and_false, true_and, and_true, List.all_cons, List.all_nil, id_eq, Bool.and_true, e1]) <;> (try simp only [Int.ofNat_eq_natCast]) <;> (try omega))
  rw [hc, hx]
  exact turn_eq hb hl hn
theorem box_ctr (i : Int) (l : List Int) (six c : Int) (hi : 0 ≤ i ∧ i < 8) (hl : l.length = 6) (hb : Bit01 l) (hs : six = ofBits l) (hc : c = boxV i.toNat l) :
    Ctr Tryd.prog 30 [] [.int .i64 (.sym i), .int .u64 (.sym six)] fun v H => v = .int .u64 (.sym c) ∧ H = [] := by
  have k1 := idx_at hb hl
  rw [← hs] at k1
  have k2 := box_at (i := i.toNat) (j := (sixI l).toNat) (by omega) (by omega)
  have k3 := k1.1
  simp only [idxE, bin_add, bin_mul, wr_u64] at k3
  have k4 : 0 ≤ sixI l ∧ sixI l < ((boxS.getD i.toNat ByteArray.empty).size : Int) := by rw [k2.1]; exact k1.2
  rw [show (((sixI l).toNat : Nat) : Int) = sixI l by omega] at k2
  obtain ⟨uI, uB, uS, uL, uT, hu⟩ := words
  have hm := mixed
  have hT := tabOk
  obtain ⟨P, hP⟩ : ∃ P, P = Tryd.prog := ⟨_, rfl⟩
  rw [← hP] at hm hT ⊢
  refine Ctr.weak (ctr_of_vc hu hm hT (hP ▸ Tryd.func30) rfl (by kernel_rfl) ?_)
  clear hP hm hT
  generalize hR : Weak _ _ = R
  conv => cbv
  repeat' (first | ((with_reducible intro (h : _ = _)); (try subst h); (try simp only [hu.b, hu.i, iB, iI, cmpB, Iv.val_sym, Iv.val_lit, Lv.raw, Tv.raw, decide_eq_true_eq, decide_eq_false_iff_not, beq_iff_eq, beq_eq_false_iff_ne, ne_eq, ofN, Int.toNat_zero, Int.toNat_one, Int.reduceToNat, natc, hu.s, iS, Sv.val_lit, Sv.val_sym, true_iff, false_iff, Bool.false_eq_true, bne_iff_ne, bne_eq_false_iff_eq, Bool.not_eq_true', Bool.not_eq_false', Decidable.not_not, nil_toList, ByteArray.size_empty, nilS, not_true_eq_false, not_false_eq_true, hu.l, iL, hu.t, iT, bin_add, bin_sub, bin_mul, wr_u8, wr_u16, wr_u32, wr_u64, IntKind.wrap_i64, List.length_append, List.length_cons, List.length_nil, List.nil_append, List.append_nil, List.cons_append, lvals, List.length_replicate, List.length_set, linV_val hu, Int.add_zero, Int.zero_add, Int.mul_one, Int.sub_zero, Int.zero_mul, Bool.true_eq_false, false_and, and_false, true_and, and_true, List.all_cons, List.all_nil, id_eq, Bool.and_true, k3] at h) <;> (try simp only [Int.ofNat_eq_natCast] at h) <;> (first | (have hF0 : False := by omega; exact hF0.elim) | (conv => cbv))) | (with_reducible refine And.intro ?_ ?_) | ((try simp only [hu.b, hu.i, iB, iI, cmpB, Iv.val_sym, Iv.val_lit, Lv.raw, Tv.raw, decide_eq_true_eq, decide_eq_false_iff_not, beq_iff_eq, beq_eq_false_iff_ne, ne_eq, ofN, Int.toNat_zero, Int.toNat_one, Int.reduceToNat, natc, hu.s, iS, Sv.val_lit, Sv.val_sym, true_iff, false_iff, Bool.false_eq_true, bne_iff_ne, bne_eq_false_iff_eq, Bool.not_eq_true', Bool.not_eq_false', Decidable.not_not, nil_toList, ByteArray.size_empty, nilS, not_true_eq_false, not_false_eq_true, hu.l, iL, hu.t, iT, bin_add, bin_sub, bin_mul, wr_u8, wr_u16, wr_u32, wr_u64, IntKind.wrap_i64, List.length_append, List.length_cons, List.length_nil, List.nil_append, List.append_nil, List.cons_append, lvals, List.length_replicate, List.length_set, linV_val hu, Int.add_zero, Int.zero_add, Int.mul_one, Int.sub_zero, Int.zero_mul, Bool.true_eq_false, false_and, and_false, true_and, and_true, List.all_cons, List.all_nil, id_eq, Bool.and_true, k3]) <;> (try simp only [Int.ofNat_eq_natCast]) <;> exact k4) | (refine Gen0.mk ?_; (conv => cbv)) | (simp only [hu.b, hu.i, iB, iI, cmpB, Iv.val_sym, Iv.val_lit, Lv.raw, Tv.raw, decide_eq_true_eq, decide_eq_false_iff_not, beq_iff_eq, beq_eq_false_iff_ne, ne_eq, ofN, Int.toNat_zero, Int.toNat_one, Int.reduceToNat, natc, hu.s, iS, Sv.val_lit, Sv.val_sym, true_iff, false_iff, Bool.false_eq_true, bne_iff_ne, bne_eq_false_iff_eq, Bool.not_eq_true', Bool.not_eq_false', Decidable.not_not, nil_toList, ByteArray.size_empty, nilS, not_true_eq_false, not_false_eq_true, hu.l, iL, hu.t, iT, bin_add, bin_sub, bin_mul, wr_u8, wr_u16, wr_u32, wr_u64, IntKind.wrap_i64, List.length_append, List.length_cons, List.length_nil, List.nil_append, List.append_nil, List.cons_append, lvals, List.length_replicate, List.length_set, linV_val hu, Int.add_zero, Int.zero_add, Int.mul_one, Int.sub_zero, Int.zero_mul, Bool.true_eq_false, false_and, and_false, true_and, and_true, List.all_cons, List.all_nil, id_eq, Bool.and_true, k3]; (try simp only [Int.ofNat_eq_natCast]); done) | ((try simp only [hu.b, hu.i, iB, iI, cmpB, Iv.val_sym, Iv.val_lit, Lv.raw, Tv.raw, decide_eq_true_eq, decide_eq_false_iff_not, beq_iff_eq, beq_eq_false_iff_ne, ne_eq, ofN, Int.toNat_zero, Int.toNat_one, Int.reduceToNat, natc, hu.s, iS, Sv.val_lit, Sv.val_sym, true_iff, false_iff, Bool.false_eq_true, bne_iff_ne, bne_eq_false_iff_eq, Bool.not_eq_true', Bool.not_eq_false', Decidable.not_not, nil_toList, ByteArray.size_empty, nilS, not_true_eq_false, not_false_eq_true, hu.l, iL, hu.t, iT, bin_add, bin_sub, bin_mul, wr_u8, wr_u16, wr_u32, wr_u64, IntKind.wrap_i64, List.length_append, List.length_cons, List.length_nil, List.nil_append, List.append_nil, List.cons_append, lvals, List.length_replicate, List.length_set, linV_val hu, Int.add_zero, Int.zero_add, Int.mul_one, Int.sub_zero, Int.zero_mul, Bool.true_eq_false, false_and, and_false, true_and, and_true, List.all_cons, List.all_nil, id_eq, Bool.and_true, k3]) <;> (try simp only [Int.ofNat_eq_natCast]) <;> omega))
  · subst hR
    refine Weak.of (⟨rfl, rfl⟩) ?_ ?_ (by rfl)
    all_goals ((conv => cbv); repeat' (first | exact True.intro | with_reducible rfl | (with_reducible exact fun h => h) | (with_reducible refine And.intro ?_ ?_)))
    ((try simp only [hu.b, hu.i, iB, iI, cmpB, Iv.val_sym, Iv.val_lit, Lv.raw, Tv.raw, decide_eq_true_eq, decide_eq_false_iff_not, beq_iff_eq, beq_eq_false_iff_ne, ne_eq, ofN, Int.toNat_zero, Int.toNat_one, Int.reduceToNat, natc, hu.s, iS, Sv.val_lit, Sv.val_sym, true_iff, false_iff, Bool.false_eq_true, bne_iff_ne, bne_eq_false_iff_eq, Bool.not_eq_true', Bool.not_eq_false', Decidable.not_not, nil_toList, ByteArray.size_empty, nilS, not_true_eq_false, not_false_eq_true, hu.l, iL, hu.t, iT, bin_add, bin_sub, bin_mul, wr_u8, wr_u16, wr_u32, wr_u64, IntKind.wrap_i64, List.length_append, List.length_cons, List.length_nil, List.nil_append, List.append_nil, List.cons_append, lvals, List.length_replicate, List.length_set, linV_val hu, Int.add_zero, Int.zero_add, Int.mul_one, Int.sub_zero, Int.zero_mul, Bool.true_eq_false, false_and, and_false, true_and, and_true, List.all_cons, List.all_nil, id_eq, Bool.and_true, k3]) <;> (try simp only [Int.ofNat_eq_natCast]) <;> (try omega))
    have h' : byteAt (boxS.getD i.toNat ByteArray.empty) (sixI l) ≥ 97 := by assumption
    have e9 : dig (byteAt (boxS.getD i.toNat ByteArray.empty) (sixI l)) = byteAt (boxS.getD i.toNat ByteArray.empty) (sixI l) - 97 + 10 := if_pos h'
    rw [hc, boxV, ← k2.2.1, e9]
    show ((byteAt (boxS.getD i.toNat ByteArray.empty) (sixI l) - 97) % 256 % 18446744073709551616 + 10) % 18446744073709551616 = _
    clear k3; omega
  · subst hR
    refine Weak.of (⟨rfl, rfl⟩) ?_ ?_ (by rfl)
    all_goals ((conv => cbv); repeat' (first | exact True.intro | with_reducible rfl | (with_reducible exact fun h => h) | (with_reducible refine And.intro ?_ ?_)))
    ((try simp only [hu.b, hu.i, iB, iI, cmpB, Iv.val_sym, Iv.val_lit, Lv.raw, Tv.raw, decide_eq_true_eq, decide_eq_false_iff_not, beq_iff_eq, beq_eq_false_iff_ne, ne_eq, ofN, Int.toNat_zero, Int.toNat_one, Int.reduceToNat, natc, hu.s, iS, Sv.val_lit, Sv.val_sym, true_iff, false_iff, Bool.false_eq_true, bne_iff_ne, bne_eq_false_iff_eq, Bool.not_eq_true', Bool.not_eq_false', Decidable.not_not, nil_toList, ByteArray.size_empty, nilS, not_true_eq_false, not_false_eq_true, hu.l, iL, hu.t, iT, bin_add, bin_sub, bin_mul, wr_u8, wr_u16, wr_u32, wr_u64, IntKind.wrap_i64, List.length_append, List.length_cons, List.length_nil, List.nil_append, List.append_nil, List.cons_append, lvals, List.length_replicate, List.length_set, linV_val hu, Int.add_zero, Int.zero_add, Int.mul_one, Int.sub_zero, Int.zero_mul, Bool.true_eq_false, false_and, and_false, true_and, and_true, List.all_cons, List.all_nil, id_eq, Bool.and_true, k3]) <;> (try simp only [Int.ofNat_eq_natCast]) <;> (try omega))
    have h' : ¬ byteAt (boxS.getD i.toNat ByteArray.empty) (sixI l) ≥ 97 := by assumption
    have e9 : dig (byteAt (boxS.getD i.toNat ByteArray.empty) (sixI l)) = byteAt (boxS.getD i.toNat ByteArray.empty) (sixI l) - 48 := if_neg h'
    rw [hc, boxV, ← k2.2.1, e9]
    show (byteAt (boxS.getD i.toNat ByteArray.empty) (sixI l) - 48) % 256 % 18446744073709551616 = _
    clear k3; omega
end Go.Proofs.YtpedilhijdjeoaaDoor
