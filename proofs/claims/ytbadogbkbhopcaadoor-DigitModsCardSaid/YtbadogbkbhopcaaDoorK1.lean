import Derived.Test.YtbadogbkbhopcaaDoorSx3
import Derived.KernelRfl
import Derived.Test.YtbadogbkbhopcaaDoorProg
import Derived.WalkKit
import Derived.LaidEql
import Derived.Stop.Asserts
import Derived.RowKitTokens
import Derived.Outline
import Derived.Below
import Derived.Lib.Hide
import Derived.Lib.Strings
import Derived.Lib.Slices
import Derived.Lib.Walk
import Derived.Lib.Builder
import Derived.Lib.UnsafeStr
import Derived.Lib.Bytealg
import Derived.Laws.Externs
set_option linter.all false
set_option linter.unusedSectionVars false
namespace Go.Proofs.YtbadogbkbhopcaaDoor
open Go Sx
set_option maxRecDepth 100000
def tab : TypeId → Option TyI
  | 2 => some ⟨.int .i64, 1, 8, [.int .i64 0], [], []⟩
  | 3 => some ⟨.int .i64, 1, 8, [.int .i64 0], [], []⟩
  | 4 => some ⟨.bool, 1, 1, [.bool false], [], []⟩
  | 5 => some ⟨.int .u8, 1, 1, [.int .u8 0], [], []⟩
  | 9 => some ⟨.str, 1, 16, [.string ⟨#[]⟩], [], []⟩
  | 12 => some ⟨.int .u64, 1, 8, [.int .u64 0], [], []⟩
  | 13 => some ⟨.struct [(0, 9), (1, 12)], 2, 24, [.string ⟨#[]⟩, .int .u64 0], [], []⟩
  | 20 => some ⟨.iface, 1, 16, [.nilIface], [], []⟩
  | 21 => some ⟨.int .i32, 1, 4, [.int .i32 0], [], []⟩
  | 23 => some ⟨.iface, 1, 16, [.nilIface], [], []⟩
  | 24 => some ⟨.iface, 1, 16, [.nilIface], [], []⟩
  | 35 => some ⟨.slice 5, 1, 24, [.slice none 0 0], [], []⟩
  | 47 => some ⟨.int .i64, 1, 8, [.int .i64 0], [], []⟩
  | 49 => some ⟨.ptr 47, 1, 8, [.pointer none], [], []⟩
  | 50 => some ⟨.ptr 53, 1, 8, [.pointer none], [], []⟩
  | 51 => some ⟨.ptr 50, 1, 8, [.pointer none], [], []⟩
  | 52 => some ⟨.struct [(0, 3), (1, 24)], 2, 24, [.int .i64 0, .nilIface], [], []⟩
  | 53 => some ⟨.struct [(0, 3), (1, 24)], 2, 24, [.int .i64 0, .nilIface], [], []⟩
  | 54 => some ⟨.ptr 56, 1, 8, [.pointer none], [], []⟩
  | 55 => some ⟨.struct [(0, 54), (1, 35)], 2, 32, [.pointer none, .slice none 0 0], [], []⟩
  | 56 => some ⟨.struct [(0, 54), (1, 35)], 2, 32, [.pointer none, .slice none 0 0], [], []⟩
  | 60 => some ⟨.int .u64, 1, 8, [.int .u64 0], [], []⟩
  | 62 => some ⟨.slice 9, 1, 24, [.slice none 0 0], [], []⟩
  | 75 => some ⟨.ptr 5, 1, 8, [.pointer none], [], []⟩
  | 82 => some ⟨.iface, 1, 16, [.nilIface], [], []⟩
  | 85 => some ⟨.iface, 1, 16, [.nilIface], [], []⟩
  | 87 => some ⟨.iface, 1, 16, [.nilIface], [], []⟩
  | 88 => some ⟨.slice 24, 1, 24, [.slice none 0 0], [], []⟩
  | 98 => some ⟨.int .u32, 1, 4, [.int .u32 0], [], []⟩
  | 111 => some ⟨.int .u16, 1, 2, [.int .u16 0], [], []⟩
  | 118 => some ⟨.ptr 24, 1, 8, [.pointer none], [], []⟩
  | _ => none
theorem ty2 : TyOk Tryd.prog 2 ⟨.int .i64, 1, 8, [.int .i64 0], [], []⟩ :=
  TyOk.mk' (by kernel_rfl) (by kernel_rfl) (by kernel_rfl) ((by kernel_rfl : Tryd.prog.underlying 2 = _)) (fun h => absurd rfl h)
theorem ty3 : TyOk Tryd.prog 3 ⟨.int .i64, 1, 8, [.int .i64 0], [], []⟩ :=
  TyOk.mk' (by kernel_rfl) (by kernel_rfl) (by kernel_rfl) ((by kernel_rfl : Tryd.prog.underlying 3 = _)) (fun h => absurd rfl h)
theorem ty4 : TyOk Tryd.prog 4 ⟨.bool, 1, 1, [.bool false], [], []⟩ :=
  TyOk.mk' (by kernel_rfl) (by kernel_rfl) (by kernel_rfl) ((by kernel_rfl : Tryd.prog.underlying 4 = _)) (fun h => absurd rfl h)
theorem ty5 : TyOk Tryd.prog 5 ⟨.int .u8, 1, 1, [.int .u8 0], [], []⟩ :=
  TyOk.mk' (by kernel_rfl) (by kernel_rfl) (by kernel_rfl) ((by kernel_rfl : Tryd.prog.underlying 5 = _)) (fun h => absurd rfl h)
theorem ty9 : TyOk Tryd.prog 9 ⟨.str, 1, 16, [.string ⟨#[]⟩], [], []⟩ :=
  TyOk.mk' (by kernel_rfl) (by kernel_rfl) (by kernel_rfl) ((by kernel_rfl : Tryd.prog.underlying 9 = _)) (fun h => absurd rfl h)
theorem ty12 : TyOk Tryd.prog 12 ⟨.int .u64, 1, 8, [.int .u64 0], [], []⟩ :=
  TyOk.mk' (by kernel_rfl) (by kernel_rfl) (by kernel_rfl) ((by kernel_rfl : Tryd.prog.underlying 12 = _)) (fun h => absurd rfl h)
theorem ty13 : TyOk Tryd.prog 13 ⟨.struct [(0, 9), (1, 12)], 2, 24, [.string ⟨#[]⟩, .int .u64 0], [], []⟩ :=
  TyOk.mk' (by kernel_rfl) (by kernel_rfl) (by kernel_rfl) (⟨Tryd.prog.fieldsOf 13, by kernel_rfl, by kernel_rfl⟩) (fun h => absurd rfl h)
theorem ty20 : TyOk Tryd.prog 20 ⟨.iface, 1, 16, [.nilIface], [], []⟩ :=
  TyOk.mk' (by kernel_rfl) (by kernel_rfl) (by kernel_rfl) (DOk.iface_of (by kernel_rfl)) (fun h => absurd rfl h)
theorem ty21 : TyOk Tryd.prog 21 ⟨.int .i32, 1, 4, [.int .i32 0], [], []⟩ :=
  TyOk.mk' (by kernel_rfl) (by kernel_rfl) (by kernel_rfl) ((by kernel_rfl : Tryd.prog.underlying 21 = _)) (fun h => absurd rfl h)
theorem ty23 : TyOk Tryd.prog 23 ⟨.iface, 1, 16, [.nilIface], [], []⟩ :=
  TyOk.mk' (by kernel_rfl) (by kernel_rfl) (by kernel_rfl) (DOk.iface_of (by kernel_rfl)) (fun h => absurd rfl h)
theorem ty24 : TyOk Tryd.prog 24 ⟨.iface, 1, 16, [.nilIface], [], []⟩ :=
  TyOk.mk' (by kernel_rfl) (by kernel_rfl) (by kernel_rfl) (DOk.iface_of (by kernel_rfl)) (fun h => absurd rfl h)
theorem ty35 : TyOk Tryd.prog 35 ⟨.slice 5, 1, 24, [.slice none 0 0], [], []⟩ :=
  TyOk.mk' (by kernel_rfl) (by kernel_rfl) (by kernel_rfl) ((by kernel_rfl : Tryd.prog.underlying 35 = _)) (fun h => absurd rfl h)
theorem ty47 : TyOk Tryd.prog 47 ⟨.int .i64, 1, 8, [.int .i64 0], [], []⟩ :=
  TyOk.mk' (by kernel_rfl) (by kernel_rfl) (by kernel_rfl) ((by kernel_rfl : Tryd.prog.underlying 47 = _)) (fun h => absurd rfl h)
theorem ty49 : TyOk Tryd.prog 49 ⟨.ptr 47, 1, 8, [.pointer none], [], []⟩ :=
  TyOk.mk' (by kernel_rfl) (by kernel_rfl) (by kernel_rfl) ((by kernel_rfl : Tryd.prog.underlying 49 = _)) (fun h => absurd rfl h)
theorem ty50 : TyOk Tryd.prog 50 ⟨.ptr 53, 1, 8, [.pointer none], [], []⟩ :=
  TyOk.mk' (by kernel_rfl) (by kernel_rfl) (by kernel_rfl) ((by kernel_rfl : Tryd.prog.underlying 50 = _)) (fun h => absurd rfl h)
theorem ty51 : TyOk Tryd.prog 51 ⟨.ptr 50, 1, 8, [.pointer none], [], []⟩ :=
  TyOk.mk' (by kernel_rfl) (by kernel_rfl) (by kernel_rfl) ((by kernel_rfl : Tryd.prog.underlying 51 = _)) (fun h => absurd rfl h)
theorem ty52 : TyOk Tryd.prog 52 ⟨.struct [(0, 3), (1, 24)], 2, 24, [.int .i64 0, .nilIface], [], []⟩ :=
  TyOk.mk' (by kernel_rfl) (by kernel_rfl) (by kernel_rfl) (⟨Tryd.prog.fieldsOf 52, by kernel_rfl, by kernel_rfl⟩) (fun h => absurd rfl h)
theorem ty53 : TyOk Tryd.prog 53 ⟨.struct [(0, 3), (1, 24)], 2, 24, [.int .i64 0, .nilIface], [], []⟩ :=
  TyOk.mk' (by kernel_rfl) (by kernel_rfl) (by kernel_rfl) (⟨Tryd.prog.fieldsOf 53, by kernel_rfl, by kernel_rfl⟩) (fun h => absurd rfl h)
theorem ty54 : TyOk Tryd.prog 54 ⟨.ptr 56, 1, 8, [.pointer none], [], []⟩ :=
  TyOk.mk' (by kernel_rfl) (by kernel_rfl) (by kernel_rfl) ((by kernel_rfl : Tryd.prog.underlying 54 = _)) (fun h => absurd rfl h)
theorem ty55 : TyOk Tryd.prog 55 ⟨.struct [(0, 54), (1, 35)], 2, 32, [.pointer none, .slice none 0 0], [], []⟩ :=
  TyOk.mk' (by kernel_rfl) (by kernel_rfl) (by kernel_rfl) (⟨Tryd.prog.fieldsOf 55, by kernel_rfl, by kernel_rfl⟩) (fun h => absurd rfl h)
theorem ty56 : TyOk Tryd.prog 56 ⟨.struct [(0, 54), (1, 35)], 2, 32, [.pointer none, .slice none 0 0], [], []⟩ :=
  TyOk.mk' (by kernel_rfl) (by kernel_rfl) (by kernel_rfl) (⟨Tryd.prog.fieldsOf 56, by kernel_rfl, by kernel_rfl⟩) (fun h => absurd rfl h)
theorem ty60 : TyOk Tryd.prog 60 ⟨.int .u64, 1, 8, [.int .u64 0], [], []⟩ :=
  TyOk.mk' (by kernel_rfl) (by kernel_rfl) (by kernel_rfl) ((by kernel_rfl : Tryd.prog.underlying 60 = _)) (fun h => absurd rfl h)
theorem ty62 : TyOk Tryd.prog 62 ⟨.slice 9, 1, 24, [.slice none 0 0], [], []⟩ :=
  TyOk.mk' (by kernel_rfl) (by kernel_rfl) (by kernel_rfl) ((by kernel_rfl : Tryd.prog.underlying 62 = _)) (fun h => absurd rfl h)
theorem ty75 : TyOk Tryd.prog 75 ⟨.ptr 5, 1, 8, [.pointer none], [], []⟩ :=
  TyOk.mk' (by kernel_rfl) (by kernel_rfl) (by kernel_rfl) ((by kernel_rfl : Tryd.prog.underlying 75 = _)) (fun h => absurd rfl h)
theorem ty82 : TyOk Tryd.prog 82 ⟨.iface, 1, 16, [.nilIface], [], []⟩ :=
  TyOk.mk' (by kernel_rfl) (by kernel_rfl) (by kernel_rfl) (DOk.iface_of (by kernel_rfl)) (fun h => absurd rfl h)
theorem ty85 : TyOk Tryd.prog 85 ⟨.iface, 1, 16, [.nilIface], [], []⟩ :=
  TyOk.mk' (by kernel_rfl) (by kernel_rfl) (by kernel_rfl) (DOk.iface_of (by kernel_rfl)) (fun h => absurd rfl h)
theorem ty87 : TyOk Tryd.prog 87 ⟨.iface, 1, 16, [.nilIface], [], []⟩ :=
  TyOk.mk' (by kernel_rfl) (by kernel_rfl) (by kernel_rfl) (DOk.iface_of (by kernel_rfl)) (fun h => absurd rfl h)
theorem ty88 : TyOk Tryd.prog 88 ⟨.slice 24, 1, 24, [.slice none 0 0], [], []⟩ :=
  TyOk.mk' (by kernel_rfl) (by kernel_rfl) (by kernel_rfl) ((by kernel_rfl : Tryd.prog.underlying 88 = _)) (fun h => absurd rfl h)
theorem ty98 : TyOk Tryd.prog 98 ⟨.int .u32, 1, 4, [.int .u32 0], [], []⟩ :=
  TyOk.mk' (by kernel_rfl) (by kernel_rfl) (by kernel_rfl) ((by kernel_rfl : Tryd.prog.underlying 98 = _)) (fun h => absurd rfl h)
theorem ty111 : TyOk Tryd.prog 111 ⟨.int .u16, 1, 2, [.int .u16 0], [], []⟩ :=
  TyOk.mk' (by kernel_rfl) (by kernel_rfl) (by kernel_rfl) ((by kernel_rfl : Tryd.prog.underlying 111 = _)) (fun h => absurd rfl h)
theorem ty118 : TyOk Tryd.prog 118 ⟨.ptr 24, 1, 8, [.pointer none], [], []⟩ :=
  TyOk.mk' (by kernel_rfl) (by kernel_rfl) (by kernel_rfl) ((by kernel_rfl : Tryd.prog.underlying 118 = _)) (fun h => absurd rfl h)
theorem tabOk : TabOk Tryd.prog tab := by
  intro t i h
  unfold tab at h
  split at h
  · cases h; exact ty2
  · cases h; exact ty3
  · cases h; exact ty4
  · cases h; exact ty5
  · cases h; exact ty9
  · cases h; exact ty12
  · cases h; exact ty13
  · cases h; exact ty20
  · cases h; exact ty21
  · cases h; exact ty23
  · cases h; exact ty24
  · cases h; exact ty35
  · cases h; exact ty47
  · cases h; exact ty49
  · cases h; exact ty50
  · cases h; exact ty51
  · cases h; exact ty52
  · cases h; exact ty53
  · cases h; exact ty54
  · cases h; exact ty55
  · cases h; exact ty56
  · cases h; exact ty60
  · cases h; exact ty62
  · cases h; exact ty75
  · cases h; exact ty82
  · cases h; exact ty85
  · cases h; exact ty87
  · cases h; exact ty88
  · cases h; exact ty98
  · cases h; exact ty111
  · cases h; exact ty118
  · cases h
end Go.Proofs.YtbadogbkbhopcaaDoor
namespace Go.Proofs.YtbadogbkbhopcaaDoor
open Go Go.RowKit Go.Extern.Stop Go.Stop Go.Extern
set_option maxRecDepth 100000
namespace AsW
theorem valueOfPE (t : Addr) (w : World) : (ReflectliteValue.unpack (.iface 49 (.pointer (some t)))).run Tryd.prog w
    = .ok (.agg #[.pointer (some ⟨2, 49, none⟩), .pointer (some ⟨w.heap.size, 0, none⟩), .int .u64 150]) (w.alloc (.cells #[.pointer (some t)] 49)) := by kernel_rfl
theorem typePE (a : Addr) (w : World) : (ReflectliteValue.methodAny (ReflectliteValue.valueError "reflectlite.Value.Type" 0) (fun t _ _ _ => ReflectliteType.toType t) #[.agg #[.pointer (some ⟨2, 49, none⟩), .pointer (some a), .int .u64 150]]).run Tryd.prog w
    = .ok (.iface 77 (.agg #[.pointer (some ⟨2, 49, none⟩)])) w := by kernel_rfl
theorem methodKind (h : Value) (w : World) : (Go.method 219 77 (.agg #[h]) "Kind").run Tryd.prog w = .ok (56, h) w := by kernel_rfl
theorem kindPE (w : World) : ((ReflectliteType.abiMethod fun t => (fun a : Nat => Value.int IntKind.u8 (a : Int)) <$> Rtype.kind t) #[.pointer (some ⟨2, 49, none⟩)]).run Tryd.prog w = .ok (.int .u8 22) w := by kernel_rfl
theorem kindE (w : World) : ((ReflectliteType.abiMethod fun t => (fun a : Nat => Value.int IntKind.u8 (a : Int)) <$> Rtype.kind t) #[.pointer (some ⟨2, 47, none⟩)]).run Tryd.prog w = .ok (.int .u8 2) w := by kernel_rfl
theorem rlm (z : Sem Value) (f : TypeId → Addr → Nat → Nat → Sem Value) (v : Value) :
    ReflectliteValue.method z f #[v] = (do match ← ReflectliteValue.parts v with | none => z | some (t, a, fl) => f t a fl (fl % 32)) := rfl
theorem partsPE (a : Addr) (w : World) : (ReflectliteValue.parts (.agg #[.pointer (some ⟨2, 49, none⟩), .pointer (some a), .int .u64 150])).run Tryd.prog w = .ok (some (49, a, 150)) w := by kernel_rfl
theorem isNilPE (a p : Addr) (W : World) (ha : W.cell? a = some (.pointer (some p))) :
    (ReflectliteValue.method (ReflectliteValue.valueError "reflectlite.Value.IsNil" 0) ReflectliteValue.isNil #[.agg #[.pointer (some ⟨2, 49, none⟩), .pointer (some a), .int .u64 150]]).run Tryd.prog W = .ok (.bool false) W := by
  rw [rlm]
  simp only [Sem.run_bind, partsPE, Result.andThen]
  simp [ReflectliteValue.isNil, loadVar, isAgg, underlying, Tryd.underlying49, ha, Result.andThen]
theorem methodElem (h : Value) (w : World) : (Go.method 219 77 (.agg #[h]) "Elem").run Tryd.prog w = .ok (69, .agg #[h]) w := by kernel_rfl
theorem methodImplements (h : Value) (w : World) : (Go.method 219 77 (.agg #[h]) "Implements").run Tryd.prog w = .ok (70, .agg #[h]) w := by kernel_rfl
theorem methodAssignableTo (h : Value) (w : World) : (Go.method 219 77 (.agg #[h]) "AssignableTo").run Tryd.prog w = .ok (67, .agg #[h]) w := by kernel_rfl
theorem elemPE (w : World) : (ReflectliteType.method ReflectliteType.elem #[.agg #[.pointer (some ⟨2, 49, none⟩)]]).run Tryd.prog w = .ok (.iface 77 (.agg #[.pointer (some ⟨2, 47, none⟩)])) w := by kernel_rfl
theorem implementsE (w : World) : (ReflectliteType.relation "Implements" ReflectliteType.implements_ #[.agg #[.pointer (some ⟨2, 47, none⟩)], .iface 77 (.agg #[.pointer (some ⟨2, 24, none⟩)])]).run Tryd.prog w = .ok (.bool true) w := by kernel_rfl
theorem typeOfE (v : Value) (w : World) : (ReflectliteType.typeOf #[.iface 47 v]).run Tryd.prog w = .ok (.iface 77 (.agg #[.pointer (some ⟨2, 47, none⟩)])) w := by kernel_rfl
theorem assignableEE (w : World) : (ReflectliteType.relation "AssignableTo" ReflectliteType.assignableTo #[.agg #[.pointer (some ⟨2, 47, none⟩)], .iface 77 (.agg #[.pointer (some ⟨2, 47, none⟩)])]).run Tryd.prog w = .ok (.bool true) w := by kernel_rfl
theorem valueOfE (n : Int) (w : World) : (ReflectliteValue.unpack (.iface 47 (.int .i64 n))).run Tryd.prog w
    = .ok (.agg #[.pointer (some ⟨2, 47, none⟩), .pointer (some ⟨w.heap.size, 0, none⟩), .int .u64 130]) (w.alloc (.cells #[.int .i64 n] 47)) := by kernel_rfl
theorem elemOfPE (w : World) : (Rtype.elem? 49).run Tryd.prog w = .ok (some 47) w := by kernel_rfl
theorem mkE (p : Addr) (w : World) : (ReflectliteValue.mk 47 p ReflectliteValue.flagAddr).run Tryd.prog w = .ok (.agg #[.pointer (some ⟨2, 47, none⟩), .pointer (some p), .int .u64 386]) w := by kernel_rfl
theorem elemVPE (a p : Addr) (W : World) (ha : W.cell? a = some (.pointer (some p))) :
    (ReflectliteValue.method (ReflectliteValue.valueError "reflectlite.Value.Elem" 0) ReflectliteValue.elem #[.agg #[.pointer (some ⟨2, 49, none⟩), .pointer (some a), .int .u64 150]]).run Tryd.prog W
      = .ok (.agg #[.pointer (some ⟨2, 47, none⟩), .pointer (some p), .int .u64 386]) W := by
  rw [rlm]
  simp only [Sem.run_bind, partsPE, Result.andThen]
  simp [ReflectliteValue.elem, loadVar, isAgg, underlying, Tryd.underlying49, ha, Result.andThen, elemOfPE, mkE]
theorem rls (v x : Value) : ReflectliteValue.set #[v, x] = (do
    let (some (dst, a, fl), some (src, b, _)) := (← ReflectliteValue.parts v, ← ReflectliteValue.parts x)
      | unsupported (.noEntry "extern/(internal/reflectlite.Value).Set.zeroValue")
    if fl / ReflectliteValue.flagAddr % 2 == 0 then unsupported (.noEntry "extern/(internal/reflectlite.Value).Set.unaddressable")
    let val ← loadVar src b
    if ← Rtype.directlyAssignable dst src then storeVar dst a val
    else if ← Rtype.implements dst src then
      if (← Rtype.kind src) == 20 then
        match val with
        | .nilIface => unsupported (.noEntry "extern/reflectlite: a nil value of one interface type handed on as a value of another")
        | _ => storeVar dst a val
      else storeVar dst a (.iface src val)
    else panicString ("reflectlite.Set: value of type " ++ (← Rtype.spelt src) ++ " is not assignable to type " ++ (← Rtype.spelt dst))
    pure (.tuple #[])) := rfl
theorem partsEa (a : Addr) (w : World) : (ReflectliteValue.parts (.agg #[.pointer (some ⟨2, 47, none⟩), .pointer (some a), .int .u64 386])).run Tryd.prog w = .ok (some (47, a, 386)) w := by kernel_rfl
theorem partsE (a : Addr) (w : World) : (ReflectliteValue.parts (.agg #[.pointer (some ⟨2, 47, none⟩), .pointer (some a), .int .u64 130])).run Tryd.prog w = .ok (some (47, a, 130)) w := by kernel_rfl
theorem directE (w : World) : (Rtype.directlyAssignable 47 47).run Tryd.prog w = .ok true w := by kernel_rfl
theorem setE (ta b : Addr) (n : Int) (old : Value) (W : World) (hb : W.cell? b = some (.int .i64 n)) (ht : W.cell? ta = some old) (hf : W.frozen? ta = false) :
    (ReflectliteValue.set #[.agg #[.pointer (some ⟨2, 47, none⟩), .pointer (some ta), .int .u64 386], .agg #[.pointer (some ⟨2, 47, none⟩), .pointer (some b), .int .u64 130]]).run Tryd.prog W
      = .ok (.tuple #[]) (W.setCell ta (.int .i64 n)) := by
  rw [rls]
  simp only [Sem.run_bind, partsEa, partsE, Result.andThen]
  simp [ReflectliteValue.flagAddr, loadVar, isAgg, underlying, Tryd.underlying47, hb, Result.andThen, directE, storeVar, Value.cells, storeCells, Addr.add]
  rw [run_store Tryd.prog W ta _ _ (by rfl)]
  simp [ht, hf]
theorem valueOfPEF (t : Addr) (w : World) : (ReflectliteValue.unpack (.iface 51 (.pointer (some t)))).run Tryd.prog w
    = .ok (.agg #[.pointer (some ⟨2, 51, none⟩), .pointer (some ⟨w.heap.size, 0, none⟩), .int .u64 150]) (w.alloc (.cells #[.pointer (some t)] 51)) := by kernel_rfl
theorem typePEF (a : Addr) (w : World) : (ReflectliteValue.methodAny (ReflectliteValue.valueError "reflectlite.Value.Type" 0) (fun t _ _ _ => ReflectliteType.toType t) #[.agg #[.pointer (some ⟨2, 51, none⟩), .pointer (some a), .int .u64 150]]).run Tryd.prog w
    = .ok (.iface 77 (.agg #[.pointer (some ⟨2, 51, none⟩)])) w := by kernel_rfl
theorem kindPEF (w : World) : ((ReflectliteType.abiMethod fun t => (fun a : Nat => Value.int IntKind.u8 (a : Int)) <$> Rtype.kind t) #[.pointer (some ⟨2, 51, none⟩)]).run Tryd.prog w = .ok (.int .u8 22) w := by kernel_rfl
theorem partsPEF (a : Addr) (w : World) : (ReflectliteValue.parts (.agg #[.pointer (some ⟨2, 51, none⟩), .pointer (some a), .int .u64 150])).run Tryd.prog w = .ok (some (51, a, 150)) w := by kernel_rfl
theorem isNilPEF (a p : Addr) (W : World) (ha : W.cell? a = some (.pointer (some p))) :
    (ReflectliteValue.method (ReflectliteValue.valueError "reflectlite.Value.IsNil" 0) ReflectliteValue.isNil #[.agg #[.pointer (some ⟨2, 51, none⟩), .pointer (some a), .int .u64 150]]).run Tryd.prog W = .ok (.bool false) W := by
  rw [rlm]
  simp only [Sem.run_bind, partsPEF, Result.andThen]
  simp [ReflectliteValue.isNil, loadVar, isAgg, underlying, Tryd.underlying51, ha, Result.andThen]
theorem elemPEF (w : World) : (ReflectliteType.method ReflectliteType.elem #[.agg #[.pointer (some ⟨2, 51, none⟩)]]).run Tryd.prog w = .ok (.iface 77 (.agg #[.pointer (some ⟨2, 50, none⟩)])) w := by kernel_rfl
theorem implementsEF (w : World) : (ReflectliteType.relation "Implements" ReflectliteType.implements_ #[.agg #[.pointer (some ⟨2, 50, none⟩)], .iface 77 (.agg #[.pointer (some ⟨2, 24, none⟩)])]).run Tryd.prog w = .ok (.bool true) w := by kernel_rfl
theorem assignableEEF (w : World) : (ReflectliteType.relation "AssignableTo" ReflectliteType.assignableTo #[.agg #[.pointer (some ⟨2, 50, none⟩)], .iface 77 (.agg #[.pointer (some ⟨2, 50, none⟩)])]).run Tryd.prog w = .ok (.bool true) w := by kernel_rfl
theorem elemOfPEF (w : World) : (Rtype.elem? 51).run Tryd.prog w = .ok (some 50) w := by kernel_rfl
theorem typeOfEF (v : Value) (w : World) : (ReflectliteType.typeOf #[.iface 50 v]).run Tryd.prog w = .ok (.iface 77 (.agg #[.pointer (some ⟨2, 50, none⟩)])) w := by kernel_rfl
theorem kindEF (w : World) : ((ReflectliteType.abiMethod fun t => (fun a : Nat => Value.int IntKind.u8 (a : Int)) <$> Rtype.kind t) #[.pointer (some ⟨2, 50, none⟩)]).run Tryd.prog w = .ok (.int .u8 22) w := by kernel_rfl
theorem mkEF (p : Addr) (w : World) : (ReflectliteValue.mk 50 p ReflectliteValue.flagAddr).run Tryd.prog w = .ok (.agg #[.pointer (some ⟨2, 50, none⟩), .pointer (some p), .int .u64 406]) w := by kernel_rfl
theorem elemVPEF (a p : Addr) (W : World) (ha : W.cell? a = some (.pointer (some p))) :
    (ReflectliteValue.method (ReflectliteValue.valueError "reflectlite.Value.Elem" 0) ReflectliteValue.elem #[.agg #[.pointer (some ⟨2, 51, none⟩), .pointer (some a), .int .u64 150]]).run Tryd.prog W
      = .ok (.agg #[.pointer (some ⟨2, 50, none⟩), .pointer (some p), .int .u64 406]) W := by
  rw [rlm]
  simp only [Sem.run_bind, partsPEF, Result.andThen]
  simp [ReflectliteValue.elem, loadVar, isAgg, underlying, Tryd.underlying51, ha, Result.andThen, elemOfPEF, mkEF]
theorem partsEaF (a : Addr) (w : World) : (ReflectliteValue.parts (.agg #[.pointer (some ⟨2, 50, none⟩), .pointer (some a), .int .u64 406])).run Tryd.prog w = .ok (some (50, a, 406)) w := by kernel_rfl
theorem partsEF (a : Addr) (w : World) : (ReflectliteValue.parts (.agg #[.pointer (some ⟨2, 50, none⟩), .pointer (some a), .int .u64 150])).run Tryd.prog w = .ok (some (50, a, 150)) w := by kernel_rfl
theorem directEF (w : World) : (Rtype.directlyAssignable 50 50).run Tryd.prog w = .ok true w := by kernel_rfl
theorem setEF (ta b : Addr) (e : Addr) (old : Value) (W : World) (hb : W.cell? b = some (.pointer (some e))) (ht : W.cell? ta = some old) (hf : W.frozen? ta = false) :
    (ReflectliteValue.set #[.agg #[.pointer (some ⟨2, 50, none⟩), .pointer (some ta), .int .u64 406], .agg #[.pointer (some ⟨2, 50, none⟩), .pointer (some b), .int .u64 150]]).run Tryd.prog W
      = .ok (.tuple #[]) (W.setCell ta (.pointer (some e))) := by
  rw [rls]
  simp only [Sem.run_bind, partsEaF, partsEF, Result.andThen]
  simp [ReflectliteValue.flagAddr, loadVar, isAgg, underlying, Tryd.underlying50, hb, Result.andThen, directEF, storeVar, Value.cells, storeCells, Addr.add]
  rw [run_store Tryd.prog W ta _ _ (by rfl)]
  simp [ht, hf]

theorem valueOfEF (e : Addr) (w : World) : (ReflectliteValue.unpack (.iface 50 (.pointer (some e)))).run Tryd.prog w
    = .ok (.agg #[.pointer (some ⟨2, 50, none⟩), .pointer (some ⟨w.heap.size, 0, none⟩), .int .u64 150]) (w.alloc (.cells #[.pointer (some e)] 50)) := by kernel_rfl
theorem assignFE (w : World) : (ReflectliteType.relation "AssignableTo" ReflectliteType.assignableTo #[.agg #[.pointer (some ⟨2, 50, none⟩)], .iface 77 (.agg #[.pointer (some ⟨2, 47, none⟩)])]).run Tryd.prog w = .ok (.bool false) w := by kernel_rfl
theorem assignEF (w : World) : (ReflectliteType.relation "AssignableTo" ReflectliteType.assignableTo #[.agg #[.pointer (some ⟨2, 47, none⟩)], .iface 77 (.agg #[.pointer (some ⟨2, 50, none⟩)])]).run Tryd.prog w = .ok (.bool false) w := by kernel_rfl
theorem noAsF (v : Value) (w : World) : (Instr.typeAssert (.iface 50 v) 24 82 true).run Tryd.prog w = .ok (.tuple #[.nilIface, .bool false]) w := run_typeAssert_lacksB Tryd.underlying82 (by kernel_rfl) (by kernel_rfl) v _ w
theorem noAsE (v : Value) (w : World) : (Instr.typeAssert (.iface 47 v) 24 82 true).run Tryd.prog w = .ok (.tuple #[.nilIface, .bool false]) w := run_typeAssert_lacksB Tryd.underlying82 (by kernel_rfl) (by kernel_rfl) v _ w
theorem noUnE (v : Value) (w : World) : (Instr.typeAssert (.iface 47 v) 24 85 true).run Tryd.prog w = .ok (.tuple #[.nilIface, .bool false]) w := run_typeAssert_lacksB Tryd.underlying85 (by kernel_rfl) (by kernel_rfl) v _ w
theorem noUnsE (v : Value) (w : World) : (Instr.typeAssert (.iface 47 v) 24 87 true).run Tryd.prog w = .ok (.tuple #[.nilIface, .bool false]) w := run_typeAssert_lacksB Tryd.underlying87 (by kernel_rfl) (by kernel_rfl) v _ w
theorem unF (v : Value) (w : World) : (Instr.typeAssert (.iface 50 v) 24 85 true).run Tryd.prog w = .ok (.tuple #[.iface 50 v, .bool true]) w := run_typeAssert_hasB Tryd.underlying85 (by kernel_rfl) v _ w
theorem methodUn (h : Value) (w : World) : (Go.method 219 50 h "Unwrap").run Tryd.prog w = .ok (61, h) w := by kernel_rfl
/-- errors.as, the error an Errno, the target an Errno variable. -/
theorem as_hit (n : Int) (t a : Addr) (old : Value) (w : World) (ha : w.cell? a = some (.pointer (some t))) (ht0 : w.cell? t = some old) (hf0 : w.frozen? t = false) :
    Calls Tryd.prog 34 #[.iface 47 (.int .i64 n), .iface 49 (.pointer (some t)), .agg #[.pointer (some ⟨2, 49, none⟩), .pointer (some a), .int .u64 150], .iface 77 (.agg #[.pointer (some ⟨2, 47, none⟩)])] w
      fun ev w' => ev = .returned (.bool true) ∧ w' = ((w.alloc (.cells #[.pointer (some ⟨2, 49, none⟩), .pointer (some a), .int .u64 150] 66)).alloc (.cells #[.int .i64 n] 47)).setCell t (.int .i64 n) := by
  have hVO := @run_callFunc_extern Tryd.prog 31 _ (fun args => ReflectliteValue.unpack (args.getD 0 (.tuple #[]))) Tryd.func31 (by kernel_rfl) (by kernel_rfl) (by kernel_rfl) (by kernel_rfl)
  have hTO := @run_callFunc_extern Tryd.prog 37 _ ReflectliteType.typeOf Tryd.func37 (by kernel_rfl) (by kernel_rfl) (by kernel_rfl) (by kernel_rfl)
  have hAT := @run_callFunc_extern Tryd.prog 67 _ (ReflectliteType.relation "AssignableTo" ReflectliteType.assignableTo) Tryd.func67 (by kernel_rfl) (by kernel_rfl) (by kernel_rfl) (by kernel_rfl)
  have hVE := @run_callFunc_extern Tryd.prog 38 _ (ReflectliteValue.method (ReflectliteValue.valueError "reflectlite.Value.Elem" 0) ReflectliteValue.elem) Tryd.func38 (by kernel_rfl) (by kernel_rfl) (by kernel_rfl) (by kernel_rfl)
  have hVS := @run_callFunc_extern Tryd.prog 39 _ ReflectliteValue.set Tryd.func39 (by kernel_rfl) (by kernel_rfl) (by kernel_rfl) (by kernel_rfl)
  have tO := typeOfE
  have mA := methodAssignableTo
  have aE := assignableEE
  have vE := valueOfE
  have hal : a.block < w.heap.size := by
    rcases Nat.lt_or_ge a.block w.heap.size with h | h
    · exact h
    · simp [World.cell?, Array.getElem?_eq_none h] at ha
  have htl : t.block < w.heap.size := by
    rcases Nat.lt_or_ge t.block w.heap.size with h | h
    · exact h
    · simp [World.cell?, Array.getElem?_eq_none h] at ht0
  have el := elemVPE a t (w.alloc (.cells #[.pointer (some ⟨2, 49, none⟩), .pointer (some a), .int .u64 150] 66)) (by rw [World.cell?_alloc_lt _ _ a hal]; exact ha)
  have st := setE t ⟨w.heap.size + 1, 0, none⟩ n old ((w.alloc (.cells #[.pointer (some ⟨2, 49, none⟩), .pointer (some a), .int .u64 150] 66)).alloc (.cells #[.int .i64 n] 47))
    (by rw [World.cell?_alloc_at _ _ _ _ (by simp)]; rfl)
    (by rw [World.cell?_alloc_lt _ _ t (by simp; omega), World.cell?_alloc_lt _ _ t htl]; exact ht0)
    (by rw [World.frozen?_alloc_old _ _ t (by simp; omega), World.frozen?_alloc_old _ _ t (Nat.ne_of_lt htl)]; exact hf0)
  clear ha ht0 hf0
  go_enter Tryd.func34, Tryd.ntmps34
  go_wp2
  refine wp_loop_rounds 1 ?_
  rw [rounds_succ]
  go_wp2
  go_ret
  exact ⟨rfl, rfl⟩
/-- errors.As at an Errno variable, whatever errors.as answers. -/
theorem As_of (u : TypeId) (x : Value) (t : Addr) (w : World) (R : Bool → World → Prop) (hg : w.cell? ⟨0, 0, none⟩ = some (.iface 77 (.agg #[.pointer (some ⟨2, 24, none⟩)])))
    (h : Calls Tryd.prog 34 #[.iface u x, .iface 49 (.pointer (some t)), .agg #[.pointer (some ⟨2, 49, none⟩), .pointer (some ⟨w.heap.size, 0, none⟩), .int .u64 150], .iface 77 (.agg #[.pointer (some ⟨2, 47, none⟩)])]
      ((w.alloc (.cells #[.pointer (some t)] 49)).alloc (.cells #[.pointer (some ⟨2, 49, none⟩), .pointer (some ⟨w.heap.size, 0, none⟩), .int .u64 150] 66)) fun e w' => ∃ b, e = .returned (.bool b) ∧ R b w') :
    Calls Tryd.prog 26 #[.iface u x, .iface 49 (.pointer (some t))] w fun e w' => ∃ b, e = .returned (.bool b) ∧ R b w' := by
  have hVO := @run_callFunc_extern Tryd.prog 31 _ (fun args => ReflectliteValue.unpack (args.getD 0 (.tuple #[]))) Tryd.func31 (by kernel_rfl) (by kernel_rfl) (by kernel_rfl) (by kernel_rfl)
  have hVT := @run_callFunc_extern Tryd.prog 32 _ (ReflectliteValue.methodAny (ReflectliteValue.valueError "reflectlite.Value.Type" 0) (fun t _ _ _ => ReflectliteType.toType t)) Tryd.func32 (by kernel_rfl) (by kernel_rfl) (by kernel_rfl) (by kernel_rfl)
  have hIN := @run_callFunc_extern Tryd.prog 33 _ (ReflectliteValue.method (ReflectliteValue.valueError "reflectlite.Value.IsNil" 0) ReflectliteValue.isNil) Tryd.func33 (by kernel_rfl) (by kernel_rfl) (by kernel_rfl) (by kernel_rfl)
  have hK := @run_callFunc_extern Tryd.prog 56 _ (ReflectliteType.abiMethod fun t => do pure (.int .u8 (← Rtype.kind t))) Tryd.func56 (by kernel_rfl) (by kernel_rfl) (by kernel_rfl) (by kernel_rfl)
  have hRE := @run_callFunc_extern Tryd.prog 69 _ (ReflectliteType.method ReflectliteType.elem) Tryd.func69 (by kernel_rfl) (by kernel_rfl) (by kernel_rfl) (by kernel_rfl)
  have hIM := @run_callFunc_extern Tryd.prog 70 _ (ReflectliteType.relation "Implements" ReflectliteType.implements_) Tryd.func70 (by kernel_rfl) (by kernel_rfl) (by kernel_rfl) (by kernel_rfl)
  have f6 := valueOfPE
  have f7 := typePE
  have mK := methodKind
  have mE := methodElem
  have mI := methodImplements
  have kP := kindPE
  have kE := kindE
  have eP := elemPE
  have iE := implementsE
  have n8 := isNilPE ⟨w.heap.size, 0, none⟩ t ((w.alloc (.cells #[.pointer (some t)] 49)).alloc (.cells #[.pointer (some ⟨2, 49, none⟩), .pointer (some ⟨w.heap.size, 0, none⟩), .int .u64 150] 66)) (by simp)
  have hlt : 0 < w.heap.size := by
    rcases Nat.eq_zero_or_pos w.heap.size with h0 | h
    · simp [World.cell?, h0] at hg
    · exact h
  have hg2 : ((w.alloc (.cells #[.pointer (some t)] 49)).alloc (.cells #[.pointer (some ⟨2, 49, none⟩), .pointer (some ⟨w.heap.size, 0, none⟩), .int .u64 150] 66)).cell? ⟨0, 0, none⟩ = some (.iface 77 (.agg #[.pointer (some ⟨2, 24, none⟩)])) := by
    rw [World.cell?_alloc_lt _ _ ⟨0, 0, none⟩ (by simp), World.cell?_alloc_lt _ _ ⟨0, 0, none⟩ hlt]; exact hg
  clear hg
  have H := Lib.hid h
  clear h
  go_enter Tryd.func26, Tryd.ntmps26
  go_wp2_with ((go_at_call 34; refine H.out.mono ?_; rintro e w' ⟨b, rfl, hq⟩))
  go_ret
  exact ⟨b, rfl, hq⟩
theorem As_errno (n : Int) (t : Addr) (old : Value) (w : World) (hg : w.cell? ⟨0, 0, none⟩ = some (.iface 77 (.agg #[.pointer (some ⟨2, 24, none⟩)]))) (ht0 : w.cell? t = some old) (hf0 : w.frozen? t = false) :
    Calls Tryd.prog 26 #[.iface 47 (.int .i64 n), .iface 49 (.pointer (some t))] w fun e w' => ∃ b, e = .returned (.bool b) ∧ (b = true ∧ ∃ w1, Below w.heap.size w w1 ∧ w1.cell? t = some old ∧ w' = w1.setCell t (.int .i64 n)) := by
  refine As_of _ _ t w _ hg ((as_hit n t ⟨w.heap.size, 0, none⟩ old _ (by simp) ?_ ?_).mono ?_)
  · have htl : t.block < w.heap.size := by
      rcases Nat.lt_or_ge t.block w.heap.size with h | h
      · exact h
      · simp [World.cell?, Array.getElem?_eq_none h] at ht0
    rw [World.cell?_alloc_lt _ _ t (by simp; omega), World.cell?_alloc_lt _ _ t htl]; exact ht0
  · have htl : t.block < w.heap.size := by
      rcases Nat.lt_or_ge t.block w.heap.size with h | h
      · exact h
      · simp [World.cell?, Array.getElem?_eq_none h] at ht0
    rw [World.frozen?_alloc_old _ _ t (by simp; omega), World.frozen?_alloc_old _ _ t (Nat.ne_of_lt htl)]; exact hf0
  · rintro e w' ⟨rfl, rfl⟩
    have b4 : Below w.heap.size w ((((w.alloc (.cells #[.pointer (some t)] 49)).alloc (.cells #[.pointer (some ⟨2, 49, none⟩), .pointer (some ⟨w.heap.size, 0, none⟩), .int .u64 150] 66)).alloc (.cells #[.pointer (some ⟨2, 49, none⟩), .pointer (some ⟨w.heap.size, 0, none⟩), .int .u64 150] 66)).alloc (.cells #[.int .i64 n] 47)) :=
      ((((Below.refl _ _).alloc (Nat.le_refl _) _).alloc (by simp) _).alloc (by simp; omega) _).alloc (by simp; omega) _
    refine ⟨true, rfl, rfl, _, b4, ?_, rfl⟩
    have htl : t.block < w.heap.size := by
      rcases Nat.lt_or_ge t.block w.heap.size with h | h
      · exact h
      · simp [World.cell?, Array.getElem?_eq_none h] at ht0
    rw [b4.cell htl]; exact ht0
/-- api.Code of an Errno. -/
theorem code_errno (n : Int) (w : World) (hg : w.cell? ⟨0, 0, none⟩ = some (.iface 77 (.agg #[.pointer (some ⟨2, 24, none⟩)]))) :
    Calls Tryd.prog 10 #[.iface 47 (.int .i64 n)] w fun e w' => e = .returned (.int .i64 n) ∧ Below w.heap.size w w' := by
  have hlt : 0 < w.heap.size := by
    rcases Nat.eq_zero_or_pos w.heap.size with h0 | h
    · simp [World.cell?, h0] at hg
    · exact h
  have hgA : (w.alloc (.cells #[.int .i64 0] 47)).cell? ⟨0, 0, none⟩ = some (.iface 77 (.agg #[.pointer (some ⟨2, 24, none⟩)])) := by
    rw [World.cell?_alloc_lt _ _ ⟨0, 0, none⟩ hlt]; exact hg
  have H := Lib.hid (As_errno n ⟨w.heap.size, 0, none⟩ (.int .i64 0) _ hgA (by simp) (by simp))
  clear hg hgA
  go_enter Tryd.func10, Tryd.ntmps10
  go_wp2_with fail
  refine H.out.mono ?_
  rintro e w' ⟨b, rfl, rfl, w1, hb, ho, rfl⟩
  have hc : (w1.setCell ⟨w.heap.size, 0, none⟩ (.int .i64 n)).cell? ⟨w.heap.size, 0, none⟩ = some (.int .i64 n) := World.cell?_setCell_same' w1 _ _ (by rw [ho]; rfl)
  have HB := Lib.hid hb
  clear hb ho H
  go_wp2
  go_ret
  exact ⟨rfl, (((Below.refl _ _).alloc (Nat.le_refl _) _).trans (HB.out.mono (by simp))).setCell (by simp) _⟩
theorem code_nil (w : World) : Calls Tryd.prog 10 #[.nilIface] w fun e w' => e = .returned (.int .i64 0) ∧ Below w.heap.size w w' := by
  go_enter Tryd.func10, Tryd.ntmps10
  go_wp2
  go_ret
  exact ⟨rfl, (Below.refl _ _).alloc (Nat.le_refl _) _⟩
/-- errors.as, the error a fault over an Errno, the target an Errno variable. -/
theorem as_un (n : Int) (b : Nat) (t a : Addr) (old : Value) (w : World) (ha : w.cell? a = some (.pointer (some t))) (ht0 : w.cell? t = some old) (hf0 : w.frozen? t = false) (hb : w.cell? ⟨b, 1, none⟩ = some (.iface 47 (.int .i64 n))) :
    Calls Tryd.prog 34 #[.iface 50 (.pointer (some ⟨b, 0, none⟩)), .iface 49 (.pointer (some t)), .agg #[.pointer (some ⟨2, 49, none⟩), .pointer (some a), .int .u64 150], .iface 77 (.agg #[.pointer (some ⟨2, 47, none⟩)])] w
      fun ev w' => ev = .returned (.bool true) ∧ w' = ((w.alloc (.cells #[.pointer (some ⟨2, 49, none⟩), .pointer (some a), .int .u64 150] 66)).alloc (.cells #[.int .i64 n] 47)).setCell t (.int .i64 n) := by
  have hVO := @run_callFunc_extern Tryd.prog 31 _ (fun args => ReflectliteValue.unpack (args.getD 0 (.tuple #[]))) Tryd.func31 (by kernel_rfl) (by kernel_rfl) (by kernel_rfl) (by kernel_rfl)
  have hTO := @run_callFunc_extern Tryd.prog 37 _ ReflectliteType.typeOf Tryd.func37 (by kernel_rfl) (by kernel_rfl) (by kernel_rfl) (by kernel_rfl)
  have hAT := @run_callFunc_extern Tryd.prog 67 _ (ReflectliteType.relation "AssignableTo" ReflectliteType.assignableTo) Tryd.func67 (by kernel_rfl) (by kernel_rfl) (by kernel_rfl) (by kernel_rfl)
  have hVE := @run_callFunc_extern Tryd.prog 38 _ (ReflectliteValue.method (ReflectliteValue.valueError "reflectlite.Value.Elem" 0) ReflectliteValue.elem) Tryd.func38 (by kernel_rfl) (by kernel_rfl) (by kernel_rfl) (by kernel_rfl)
  have hVS := @run_callFunc_extern Tryd.prog 39 _ ReflectliteValue.set Tryd.func39 (by kernel_rfl) (by kernel_rfl) (by kernel_rfl) (by kernel_rfl)
  have tO := typeOfE
  have mA := methodAssignableTo
  have aE := assignableEE
  have vE := valueOfE
  have tF := typeOfEF
  have aF := assignFE
  have nF := noAsF
  have uF := unF
  have mU := methodUn
  have hbl : b < w.heap.size := by
    rcases Nat.lt_or_ge b w.heap.size with h | h
    · exact h
    · simp [World.cell?, Array.getElem?_eq_none h] at hb
  have hb2 : (w.alloc (.cells #[.pointer (some ⟨2, 49, none⟩), .pointer (some a), .int .u64 150] 66)).cell? ⟨b, 1, none⟩ = some (.iface 47 (.int .i64 n)) := by
    rw [World.cell?_alloc_lt _ _ ⟨b, 1, none⟩ hbl]; exact hb
  have hal : a.block < w.heap.size := by
    rcases Nat.lt_or_ge a.block w.heap.size with h | h
    · exact h
    · simp [World.cell?, Array.getElem?_eq_none h] at ha
  have htl : t.block < w.heap.size := by
    rcases Nat.lt_or_ge t.block w.heap.size with h | h
    · exact h
    · simp [World.cell?, Array.getElem?_eq_none h] at ht0
  have el := elemVPE a t (w.alloc (.cells #[.pointer (some ⟨2, 49, none⟩), .pointer (some a), .int .u64 150] 66)) (by rw [World.cell?_alloc_lt _ _ a hal]; exact ha)
  have st := setE t ⟨w.heap.size + 1, 0, none⟩ n old ((w.alloc (.cells #[.pointer (some ⟨2, 49, none⟩), .pointer (some a), .int .u64 150] 66)).alloc (.cells #[.int .i64 n] 47))
    (by rw [World.cell?_alloc_at _ _ _ _ (by simp)]; rfl)
    (by rw [World.cell?_alloc_lt _ _ t (by simp; omega), World.cell?_alloc_lt _ _ t htl]; exact ht0)
    (by rw [World.frozen?_alloc_old _ _ t (by simp; omega), World.frozen?_alloc_old _ _ t (Nat.ne_of_lt htl)]; exact hf0)
  clear ha ht0 hf0 hb
  go_enter Tryd.func34, Tryd.ntmps34
  go_wp2
  refine wp_loop_rounds 2 ?_
  rw [rounds_succ]
  go_wp2_with (go_in)
  rw [rounds_succ]
  go_wp2
  go_ret
  exact ⟨rfl, rfl⟩
/-- errors.as, the error an Errno, the target an Errno variable. -/
theorem as_hitF (e : Addr) (t a : Addr) (old : Value) (w : World) (ha : w.cell? a = some (.pointer (some t))) (ht0 : w.cell? t = some old) (hf0 : w.frozen? t = false) :
    Calls Tryd.prog 34 #[.iface 50 (.pointer (some e)), .iface 51 (.pointer (some t)), .agg #[.pointer (some ⟨2, 51, none⟩), .pointer (some a), .int .u64 150], .iface 77 (.agg #[.pointer (some ⟨2, 50, none⟩)])] w
      fun ev w' => ev = .returned (.bool true) ∧ w' = ((w.alloc (.cells #[.pointer (some ⟨2, 51, none⟩), .pointer (some a), .int .u64 150] 66)).alloc (.cells #[.pointer (some e)] 50)).setCell t (.pointer (some e)) := by
  have hVO := @run_callFunc_extern Tryd.prog 31 _ (fun args => ReflectliteValue.unpack (args.getD 0 (.tuple #[]))) Tryd.func31 (by kernel_rfl) (by kernel_rfl) (by kernel_rfl) (by kernel_rfl)
  have hTO := @run_callFunc_extern Tryd.prog 37 _ ReflectliteType.typeOf Tryd.func37 (by kernel_rfl) (by kernel_rfl) (by kernel_rfl) (by kernel_rfl)
  have hAT := @run_callFunc_extern Tryd.prog 67 _ (ReflectliteType.relation "AssignableTo" ReflectliteType.assignableTo) Tryd.func67 (by kernel_rfl) (by kernel_rfl) (by kernel_rfl) (by kernel_rfl)
  have hVE := @run_callFunc_extern Tryd.prog 38 _ (ReflectliteValue.method (ReflectliteValue.valueError "reflectlite.Value.Elem" 0) ReflectliteValue.elem) Tryd.func38 (by kernel_rfl) (by kernel_rfl) (by kernel_rfl) (by kernel_rfl)
  have hVS := @run_callFunc_extern Tryd.prog 39 _ ReflectliteValue.set Tryd.func39 (by kernel_rfl) (by kernel_rfl) (by kernel_rfl) (by kernel_rfl)
  have tO := typeOfEF
  have mA := methodAssignableTo
  have aE := assignableEEF
  have vE := valueOfEF
  have hal : a.block < w.heap.size := by
    rcases Nat.lt_or_ge a.block w.heap.size with h | h
    · exact h
    · simp [World.cell?, Array.getElem?_eq_none h] at ha
  have htl : t.block < w.heap.size := by
    rcases Nat.lt_or_ge t.block w.heap.size with h | h
    · exact h
    · simp [World.cell?, Array.getElem?_eq_none h] at ht0
  have el := elemVPEF a t (w.alloc (.cells #[.pointer (some ⟨2, 51, none⟩), .pointer (some a), .int .u64 150] 66)) (by rw [World.cell?_alloc_lt _ _ a hal]; exact ha)
  have st := setEF t ⟨w.heap.size + 1, 0, none⟩ e old ((w.alloc (.cells #[.pointer (some ⟨2, 51, none⟩), .pointer (some a), .int .u64 150] 66)).alloc (.cells #[.pointer (some e)] 50))
    (by rw [World.cell?_alloc_at _ _ _ _ (by simp)]; rfl)
    (by rw [World.cell?_alloc_lt _ _ t (by simp; omega), World.cell?_alloc_lt _ _ t htl]; exact ht0)
    (by rw [World.frozen?_alloc_old _ _ t (by simp; omega), World.frozen?_alloc_old _ _ t (Nat.ne_of_lt htl)]; exact hf0)
  clear ha ht0 hf0
  go_enter Tryd.func34, Tryd.ntmps34
  go_wp2
  refine wp_loop_rounds 1 ?_
  rw [rounds_succ]
  go_wp2
  go_ret
  exact ⟨rfl, rfl⟩
/-- errors.as, the error an Errno, the target a fault's variable. -/
theorem as_missF (n : Int) (t a : Addr) (w : World) :
    Calls Tryd.prog 34 #[.iface 47 (.int .i64 n), .iface 51 (.pointer (some t)), .agg #[.pointer (some ⟨2, 51, none⟩), .pointer (some a), .int .u64 150], .iface 77 (.agg #[.pointer (some ⟨2, 50, none⟩)])] w
      fun ev w' => ev = .returned (.bool false) ∧ w' = w.alloc (.cells #[.pointer (some ⟨2, 51, none⟩), .pointer (some a), .int .u64 150] 66) := by
  have hTO := @run_callFunc_extern Tryd.prog 37 _ ReflectliteType.typeOf Tryd.func37 (by kernel_rfl) (by kernel_rfl) (by kernel_rfl) (by kernel_rfl)
  have hAT := @run_callFunc_extern Tryd.prog 67 _ (ReflectliteType.relation "AssignableTo" ReflectliteType.assignableTo) Tryd.func67 (by kernel_rfl) (by kernel_rfl) (by kernel_rfl) (by kernel_rfl)
  have tO := typeOfE
  have mA := methodAssignableTo
  have aE := assignEF
  have n1 := noAsE
  have n2 := noUnE
  have n3 := noUnsE
  go_enter Tryd.func34, Tryd.ntmps34
  go_wp2
  refine wp_loop_rounds 1 ?_
  rw [rounds_succ]
  go_wp2
  go_ret
  exact ⟨rfl, rfl⟩
/-- errors.As at a fault's variable, whatever errors.as answers. -/
theorem As_ofF (u : TypeId) (x : Value) (t : Addr) (w : World) (R : Bool → World → Prop) (hg : w.cell? ⟨0, 0, none⟩ = some (.iface 77 (.agg #[.pointer (some ⟨2, 24, none⟩)])))
    (h : Calls Tryd.prog 34 #[.iface u x, .iface 51 (.pointer (some t)), .agg #[.pointer (some ⟨2, 51, none⟩), .pointer (some ⟨w.heap.size, 0, none⟩), .int .u64 150], .iface 77 (.agg #[.pointer (some ⟨2, 50, none⟩)])]
      ((w.alloc (.cells #[.pointer (some t)] 51)).alloc (.cells #[.pointer (some ⟨2, 51, none⟩), .pointer (some ⟨w.heap.size, 0, none⟩), .int .u64 150] 66)) fun e w' => ∃ b, e = .returned (.bool b) ∧ R b w') :
    Calls Tryd.prog 26 #[.iface u x, .iface 51 (.pointer (some t))] w fun e w' => ∃ b, e = .returned (.bool b) ∧ R b w' := by
  have hVO := @run_callFunc_extern Tryd.prog 31 _ (fun args => ReflectliteValue.unpack (args.getD 0 (.tuple #[]))) Tryd.func31 (by kernel_rfl) (by kernel_rfl) (by kernel_rfl) (by kernel_rfl)
  have hVT := @run_callFunc_extern Tryd.prog 32 _ (ReflectliteValue.methodAny (ReflectliteValue.valueError "reflectlite.Value.Type" 0) (fun t _ _ _ => ReflectliteType.toType t)) Tryd.func32 (by kernel_rfl) (by kernel_rfl) (by kernel_rfl) (by kernel_rfl)
  have hIN := @run_callFunc_extern Tryd.prog 33 _ (ReflectliteValue.method (ReflectliteValue.valueError "reflectlite.Value.IsNil" 0) ReflectliteValue.isNil) Tryd.func33 (by kernel_rfl) (by kernel_rfl) (by kernel_rfl) (by kernel_rfl)
  have hK := @run_callFunc_extern Tryd.prog 56 _ (ReflectliteType.abiMethod fun t => do pure (.int .u8 (← Rtype.kind t))) Tryd.func56 (by kernel_rfl) (by kernel_rfl) (by kernel_rfl) (by kernel_rfl)
  have hRE := @run_callFunc_extern Tryd.prog 69 _ (ReflectliteType.method ReflectliteType.elem) Tryd.func69 (by kernel_rfl) (by kernel_rfl) (by kernel_rfl) (by kernel_rfl)
  have hIM := @run_callFunc_extern Tryd.prog 70 _ (ReflectliteType.relation "Implements" ReflectliteType.implements_) Tryd.func70 (by kernel_rfl) (by kernel_rfl) (by kernel_rfl) (by kernel_rfl)
  have f6 := valueOfPEF
  have f7 := typePEF
  have mK := methodKind
  have mE := methodElem
  have mI := methodImplements
  have kP := kindPEF
  have kE := kindEF
  have eP := elemPEF
  have iE := implementsEF
  have n8 := isNilPEF ⟨w.heap.size, 0, none⟩ t ((w.alloc (.cells #[.pointer (some t)] 51)).alloc (.cells #[.pointer (some ⟨2, 51, none⟩), .pointer (some ⟨w.heap.size, 0, none⟩), .int .u64 150] 66)) (by simp)
  have hlt : 0 < w.heap.size := by
    rcases Nat.eq_zero_or_pos w.heap.size with h0 | h
    · simp [World.cell?, h0] at hg
    · exact h
  have hg2 : ((w.alloc (.cells #[.pointer (some t)] 51)).alloc (.cells #[.pointer (some ⟨2, 51, none⟩), .pointer (some ⟨w.heap.size, 0, none⟩), .int .u64 150] 66)).cell? ⟨0, 0, none⟩ = some (.iface 77 (.agg #[.pointer (some ⟨2, 24, none⟩)])) := by
    rw [World.cell?_alloc_lt _ _ ⟨0, 0, none⟩ (by simp), World.cell?_alloc_lt _ _ ⟨0, 0, none⟩ hlt]; exact hg
  clear hg
  have H := Lib.hid h
  clear h
  go_enter Tryd.func26, Tryd.ntmps26
  go_wp2_with ((go_at_call 34; refine H.out.mono ?_; rintro e w' ⟨b, rfl, hq⟩))
  go_ret
  exact ⟨b, rfl, hq⟩
theorem As_fault (n : Int) (b : Nat) (t : Addr) (old : Value) (w : World) (hg : w.cell? ⟨0, 0, none⟩ = some (.iface 77 (.agg #[.pointer (some ⟨2, 24, none⟩)]))) (ht0 : w.cell? t = some old) (hf0 : w.frozen? t = false) (hb : w.cell? ⟨b, 1, none⟩ = some (.iface 47 (.int .i64 n))) :
    Calls Tryd.prog 26 #[.iface 50 (.pointer (some ⟨b, 0, none⟩)), .iface 49 (.pointer (some t))] w fun e w' => ∃ b, e = .returned (.bool b) ∧ (b = true ∧ ∃ w1, Below w.heap.size w w1 ∧ w1.cell? t = some old ∧ w' = w1.setCell t (.int .i64 n)) := by
  refine As_of _ _ t w _ hg ((as_un n b t ⟨w.heap.size, 0, none⟩ old _ (by simp) ?_ ?_ ?_).mono ?_)
  · have htl : t.block < w.heap.size := by
      rcases Nat.lt_or_ge t.block w.heap.size with h | h
      · exact h
      · simp [World.cell?, Array.getElem?_eq_none h] at ht0
    rw [World.cell?_alloc_lt _ _ t (by simp; omega), World.cell?_alloc_lt _ _ t htl]; exact ht0
  · have htl : t.block < w.heap.size := by
      rcases Nat.lt_or_ge t.block w.heap.size with h | h
      · exact h
      · simp [World.cell?, Array.getElem?_eq_none h] at ht0
    rw [World.frozen?_alloc_old _ _ t (by simp; omega), World.frozen?_alloc_old _ _ t (Nat.ne_of_lt htl)]; exact hf0
  · have hbl : b < w.heap.size := by
      rcases Nat.lt_or_ge b w.heap.size with h | h
      · exact h
      · simp [World.cell?, Array.getElem?_eq_none h] at hb
    rw [World.cell?_alloc_lt _ _ ⟨b, 1, none⟩ (by simp; omega), World.cell?_alloc_lt _ _ ⟨b, 1, none⟩ hbl]; exact hb
  · rintro e w' ⟨rfl, rfl⟩
    have b4 : Below w.heap.size w ((((w.alloc (.cells #[.pointer (some t)] 49)).alloc (.cells #[.pointer (some ⟨2, 49, none⟩), .pointer (some ⟨w.heap.size, 0, none⟩), .int .u64 150] 66)).alloc (.cells #[.pointer (some ⟨2, 49, none⟩), .pointer (some ⟨w.heap.size, 0, none⟩), .int .u64 150] 66)).alloc (.cells #[.int .i64 n] 47)) :=
      ((((Below.refl _ _).alloc (Nat.le_refl _) _).alloc (by simp) _).alloc (by simp; omega) _).alloc (by simp; omega) _
    refine ⟨true, rfl, rfl, _, b4, ?_, rfl⟩
    have htl : t.block < w.heap.size := by
      rcases Nat.lt_or_ge t.block w.heap.size with h | h
      · exact h
      · simp [World.cell?, Array.getElem?_eq_none h] at ht0
    rw [b4.cell htl]; exact ht0
theorem As_faultF (e0 : Addr) (t : Addr) (old : Value) (w : World) (hg : w.cell? ⟨0, 0, none⟩ = some (.iface 77 (.agg #[.pointer (some ⟨2, 24, none⟩)]))) (ht0 : w.cell? t = some old) (hf0 : w.frozen? t = false) :
    Calls Tryd.prog 26 #[.iface 50 (.pointer (some e0)), .iface 51 (.pointer (some t))] w fun e w' => ∃ b, e = .returned (.bool b) ∧ (b = true ∧ ∃ w1, Below w.heap.size w w1 ∧ w1.cell? t = some old ∧ w' = w1.setCell t (.pointer (some e0))) := by
  refine As_ofF _ _ t w _ hg ((as_hitF e0 t ⟨w.heap.size, 0, none⟩ old _ (by simp) ?_ ?_).mono ?_)
  · have htl : t.block < w.heap.size := by
      rcases Nat.lt_or_ge t.block w.heap.size with h | h
      · exact h
      · simp [World.cell?, Array.getElem?_eq_none h] at ht0
    rw [World.cell?_alloc_lt _ _ t (by simp; omega), World.cell?_alloc_lt _ _ t htl]; exact ht0
  · have htl : t.block < w.heap.size := by
      rcases Nat.lt_or_ge t.block w.heap.size with h | h
      · exact h
      · simp [World.cell?, Array.getElem?_eq_none h] at ht0
    rw [World.frozen?_alloc_old _ _ t (by simp; omega), World.frozen?_alloc_old _ _ t (Nat.ne_of_lt htl)]; exact hf0
  · rintro e w' ⟨rfl, rfl⟩
    have b4 : Below w.heap.size w ((((w.alloc (.cells #[.pointer (some t)] 51)).alloc (.cells #[.pointer (some ⟨2, 51, none⟩), .pointer (some ⟨w.heap.size, 0, none⟩), .int .u64 150] 66)).alloc (.cells #[.pointer (some ⟨2, 51, none⟩), .pointer (some ⟨w.heap.size, 0, none⟩), .int .u64 150] 66)).alloc (.cells #[.pointer (some e0)] 50)) :=
      ((((Below.refl _ _).alloc (Nat.le_refl _) _).alloc (by simp) _).alloc (by simp; omega) _).alloc (by simp; omega) _
    refine ⟨true, rfl, rfl, _, b4, ?_, rfl⟩
    have htl : t.block < w.heap.size := by
      rcases Nat.lt_or_ge t.block w.heap.size with h | h
      · exact h
      · simp [World.cell?, Array.getElem?_eq_none h] at ht0
    rw [b4.cell htl]; exact ht0
theorem As_missF (n : Int) (t : Addr) (w : World) (hg : w.cell? ⟨0, 0, none⟩ = some (.iface 77 (.agg #[.pointer (some ⟨2, 24, none⟩)]))) :
    Calls Tryd.prog 26 #[.iface 47 (.int .i64 n), .iface 51 (.pointer (some t))] w fun e w' => ∃ b, e = .returned (.bool b) ∧ (b = false ∧ Below w.heap.size w w') := by
  refine As_ofF _ _ t w _ hg ((as_missF n t ⟨w.heap.size, 0, none⟩ _).mono ?_)
  rintro e w' ⟨rfl, rfl⟩
  exact ⟨false, rfl, rfl, (((Below.refl _ _).alloc (Nat.le_refl _) _).alloc (by simp) _).alloc (by simp; omega) _⟩
/-- api.Code of a fault. -/
theorem code_fault (n : Int) (b : Nat) (w : World) (hg : w.cell? ⟨0, 0, none⟩ = some (.iface 77 (.agg #[.pointer (some ⟨2, 24, none⟩)]))) (hb : w.cell? ⟨b, 1, none⟩ = some (.iface 47 (.int .i64 n))) :
    Calls Tryd.prog 10 #[.iface 50 (.pointer (some ⟨b, 0, none⟩))] w fun e w' => e = .returned (.int .i64 n) ∧ Below w.heap.size w w' := by
  have hlt : 0 < w.heap.size := by
    rcases Nat.eq_zero_or_pos w.heap.size with h0 | h
    · simp [World.cell?, h0] at hg
    · exact h
  have hgA : (w.alloc (.cells #[.int .i64 0] 47)).cell? ⟨0, 0, none⟩ = some (.iface 77 (.agg #[.pointer (some ⟨2, 24, none⟩)])) := by
    rw [World.cell?_alloc_lt _ _ ⟨0, 0, none⟩ hlt]; exact hg
  have hbl : b < w.heap.size := by
    rcases Nat.lt_or_ge b w.heap.size with h | h
    · exact h
    · simp [World.cell?, Array.getElem?_eq_none h] at hb
  have H := Lib.hid (As_fault n b ⟨w.heap.size, 0, none⟩ (.int .i64 0) _ hgA (by simp) (by simp) (by rw [World.cell?_alloc_lt _ _ ⟨b, 1, none⟩ hbl]; exact hb))
  clear hg hgA hb
  go_enter Tryd.func10, Tryd.ntmps10
  go_wp2_with fail
  refine H.out.mono ?_
  rintro e w' ⟨c, rfl, rfl, w1, hb, ho, rfl⟩
  have hc : (w1.setCell ⟨w.heap.size, 0, none⟩ (.int .i64 n)).cell? ⟨w.heap.size, 0, none⟩ = some (.int .i64 n) := World.cell?_setCell_same' w1 _ _ (by rw [ho]; rfl)
  have HB := Lib.hid hb
  clear hb ho H
  go_wp2
  go_ret
  exact ⟨rfl, (((Below.refl _ _).alloc (Nat.le_refl _) _).trans (HB.out.mono (by simp))).setCell (by simp) _⟩
/-- api.At. -/
theorem at_nil (w : World) : Calls Tryd.prog 11 #[.nilIface] w fun e w' => e = .returned (.int .i64 (-1)) ∧ Below w.heap.size w w' := by
  go_enter Tryd.func11, Tryd.ntmps11
  go_wp2
  go_ret
  exact ⟨rfl, (Below.refl _ _).alloc (Nat.le_refl _) _⟩
theorem at_errno (n : Int) (w : World) (hg : w.cell? ⟨0, 0, none⟩ = some (.iface 77 (.agg #[.pointer (some ⟨2, 24, none⟩)]))) :
    Calls Tryd.prog 11 #[.iface 47 (.int .i64 n)] w fun e w' => e = .returned (.int .i64 (-1)) ∧ Below w.heap.size w w' := by
  have hlt : 0 < w.heap.size := by
    rcases Nat.eq_zero_or_pos w.heap.size with h0 | h
    · simp [World.cell?, h0] at hg
    · exact h
  have hgA : (w.alloc (.cells #[.pointer none] 50)).cell? ⟨0, 0, none⟩ = some (.iface 77 (.agg #[.pointer (some ⟨2, 24, none⟩)])) := by
    rw [World.cell?_alloc_lt _ _ ⟨0, 0, none⟩ hlt]; exact hg
  have H := Lib.hid (As_missF n ⟨w.heap.size, 0, none⟩ _ hgA)
  clear hg hgA
  go_enter Tryd.func11, Tryd.ntmps11
  go_wp2_with fail
  refine H.out.mono ?_
  rintro e w' ⟨c, rfl, rfl, hb⟩
  have HB := Lib.hid hb
  clear hb H
  go_wp2
  go_ret
  exact ⟨rfl, ((Below.refl _ _).alloc (Nat.le_refl _) _).trans (HB.out.mono (by simp))⟩
theorem at_fault (k : Int) (b : Nat) (w : World) (hg : w.cell? ⟨0, 0, none⟩ = some (.iface 77 (.agg #[.pointer (some ⟨2, 24, none⟩)]))) (hb : w.cell? ⟨b, 0, none⟩ = some (.int .i64 k)) :
    Calls Tryd.prog 11 #[.iface 50 (.pointer (some ⟨b, 0, none⟩))] w fun e w' => e = .returned (.int .i64 k) ∧ Below w.heap.size w w' := by
  have hlt : 0 < w.heap.size := by
    rcases Nat.eq_zero_or_pos w.heap.size with h0 | h
    · simp [World.cell?, h0] at hg
    · exact h
  have hbl : b < w.heap.size := by
    rcases Nat.lt_or_ge b w.heap.size with h | h
    · exact h
    · simp [World.cell?, Array.getElem?_eq_none h] at hb
  have hgA : (w.alloc (.cells #[.pointer none] 50)).cell? ⟨0, 0, none⟩ = some (.iface 77 (.agg #[.pointer (some ⟨2, 24, none⟩)])) := by
    rw [World.cell?_alloc_lt _ _ ⟨0, 0, none⟩ hlt]; exact hg
  have hbA : (w.alloc (.cells #[.pointer none] 50)).cell? ⟨b, 0, none⟩ = some (.int .i64 k) := by
    rw [World.cell?_alloc_lt _ _ ⟨b, 0, none⟩ hbl]; exact hb
  have H := Lib.hid (As_faultF ⟨b, 0, none⟩ ⟨w.heap.size, 0, none⟩ (.pointer none) _ hgA (by simp) (by simp))
  clear hg hgA hb
  go_enter Tryd.func11, Tryd.ntmps11
  go_wp2_with fail
  refine H.out.mono ?_
  rintro e w' ⟨c, rfl, rfl, w1, hbel, ho, rfl⟩
  have hc : (w1.setCell ⟨w.heap.size, 0, none⟩ (.pointer (some ⟨b, 0, none⟩))).cell? ⟨w.heap.size, 0, none⟩ = some (.pointer (some ⟨b, 0, none⟩)) := World.cell?_setCell_same' w1 _ _ (by rw [ho]; rfl)
  have hd : (w1.setCell ⟨w.heap.size, 0, none⟩ (.pointer (some ⟨b, 0, none⟩))).cell? ⟨b, 0, none⟩ = some (.int .i64 k) := by
    refine (World.cell?_of_block (w := w1) (Below.heap_setCell w1 _ _ b (by show b ≠ w.heap.size; omega))).trans ?_
    rw [hbel.cell (p := ⟨b, 0, none⟩) (by simp; omega)]; exact hbA
  have HB := Lib.hid hbel
  clear hbel ho H hbA
  go_wp2
  go_ret
  exact ⟨rfl, (((Below.refl _ _).alloc (Nat.le_refl _) _).trans (HB.out.mono (by simp))).setCell (by simp) _⟩
end AsW
end Go.Proofs.YtbadogbkbhopcaaDoor
namespace Go.Proofs.YtbadogbkbhopcaaDoor
open Go Sx Go.RowKit
set_option maxRecDepth 100000
namespace AsW
theorem errAt {ow : Own} {w : World} (h : Glob Tryd.prog ow w) : w.cell? ⟨0, 0, none⟩ = some (.iface 77 (.agg #[.pointer (some ⟨2, 24, none⟩)])) := by
  have := globErr h (show Tryd.prog.globalNamed "errors.errorType" = some 0 by kernel_rfl) (show (Tryd.prog.cutTypes.find? (·.1 == "internal/reflectlite.rtype")).map (·.2) = some 77 by kernel_rfl)
    (show (List.range Tryd.prog.types.size).find? (fun t => Tryd.prog.rowNamed t [101, 114, 114, 111, 114]) = some 24 by kernel_rfl)
  rw [this, show typeHandle Tryd.prog 24 = .pointer (some ⟨2, 24, none⟩) by kernel_rfl]
theorem enterCode : Entered Tryd.prog 10 := ⟨Tryd.f10, Tryd.func10, by kernel_rfl, by kernel_rfl⟩
end AsW
theorem code_nil_c : Ctr Tryd.prog 10 [] [.nilif] fun v H => v = .int .i64 (.lit 0) ∧ H = [] := by
  refine Ctr.of_below AsW.enterCode fun w r vals hg hgl hv => ?_
  obtain ⟨x, rfl, hx⟩ := vrelL_one hv
  simp only [VRel] at hx
  subst hx
  exact (AsW.code_nil w).mono fun e w' ⟨h1, h2⟩ => ⟨_, h1, rfl, h2⟩
theorem code_c (n : Iv) : Ctr Tryd.prog 10 [] [.iface 47 (.int .i64 n)] fun v H => v = .int .i64 (.sym n.val) ∧ H = [] := by
  refine Ctr.of_below AsW.enterCode fun w r vals hg hgl hv => ?_
  obtain ⟨x, rfl, hx⟩ := vrelL_one hv
  simp only [VRel] at hx
  obtain ⟨u, rfl, rfl⟩ := hx
  exact (AsW.code_errno n.val w (AsW.errAt hgl)).mono fun e w' ⟨h1, h2⟩ => ⟨_, h1, rfl, h2⟩
/-- A fault's block, in a world. -/
theorem AsW.fault_in {r : Rho} {w : World} {own : Own} {a n : Iv} {x : Value} (hg : Sx.Good Tryd.prog own r [.cells 53 [.int .i64 a, .iface 47 (.int .i64 n)]] w) (hx : VRel r (.iface 50 (.ptr 0 ⟨.lit 0, 1, 0⟩)) x) :
    ∃ b, x = .iface 50 (.pointer (some ⟨b, 0, none⟩)) ∧ w.cell? ⟨b, 0, none⟩ = some (.int .i64 a.val) ∧ w.cell? ⟨b, 1, none⟩ = some (.iface 47 (.int .i64 n.val)) := by
  simp only [VRel] at hx
  obtain ⟨u, rfl, y, c, hy, hc, _, rfl⟩ := hx
  obtain ⟨z, hz, hb⟩ := hg.rel 0 (by simp [hget])
  rw [hy] at hz; cases hz
  simp only [hget, BRel] at hb
  obtain ⟨g, vals, h1, h2, h3, _⟩ := hb
  rw [h1] at hc; cases hc
  refine ⟨g, by simp [Addr.add, Off.nat], ?_⟩
  obtain ⟨l⟩ := vals
  simp only at h3
  match l, h3 with
  | [p, q], h3 =>
    simp only [VRelL, VRel] at h3
    obtain ⟨rfl, ⟨u, rfl, rfl⟩, _⟩ := h3
    exact ⟨by simp [World.cell?, h2], by simp [World.cell?, h2]⟩
  | [], h3 => simp [VRelL] at h3
  | [_], h3 => simp [VRelL] at h3
  | _ :: _ :: _ :: _, h3 => simp [VRelL] at h3
theorem AsW.enterAt : Entered Tryd.prog 11 := ⟨Tryd.f11, Tryd.func11, by kernel_rfl, by kernel_rfl⟩
theorem code_fault_c (a n : Iv) : Ctr Tryd.prog 10 [.cells 53 [.int .i64 a, .iface 47 (.int .i64 n)]] [.iface 50 (.ptr 0 ⟨.lit 0, 1, 0⟩)] fun v H => v = .int .i64 (.sym n.val) ∧ H = [.cells 53 [.int .i64 a, .iface 47 (.int .i64 n)]] := by
  refine Ctr.of_below AsW.enterCode fun w r vals hg hgl hv => ?_
  obtain ⟨x, rfl, hx⟩ := vrelL_one hv
  obtain ⟨b, rfl, _, h2⟩ := AsW.fault_in hg hx
  exact (AsW.code_fault n.val b w (AsW.errAt hgl) h2).mono fun e w' ⟨h1, h2⟩ => ⟨_, h1, rfl, h2⟩
theorem at_nil_c : Ctr Tryd.prog 11 [] [.nilif] fun v H => v = .int .i64 (.lit (-1)) ∧ H = [] := by
  refine Ctr.of_below AsW.enterAt fun w r vals hg hgl hv => ?_
  obtain ⟨x, rfl, hx⟩ := vrelL_one hv
  simp only [VRel] at hx
  subst hx
  exact (AsW.at_nil w).mono fun e w' ⟨h1, h2⟩ => ⟨_, h1, rfl, h2⟩
theorem at_c (n : Iv) : Ctr Tryd.prog 11 [] [.iface 47 (.int .i64 n)] fun v H => v = .int .i64 (.lit (-1)) ∧ H = [] := by
  refine Ctr.of_below AsW.enterAt fun w r vals hg hgl hv => ?_
  obtain ⟨x, rfl, hx⟩ := vrelL_one hv
  simp only [VRel] at hx
  obtain ⟨u, rfl, rfl⟩ := hx
  exact (AsW.at_errno n.val w (AsW.errAt hgl)).mono fun e w' ⟨h1, h2⟩ => ⟨_, h1, rfl, h2⟩
theorem at_fault_c (a n : Iv) : Ctr Tryd.prog 11 [.cells 53 [.int .i64 a, .iface 47 (.int .i64 n)]] [.iface 50 (.ptr 0 ⟨.lit 0, 1, 0⟩)] fun v H => v = .int .i64 (.sym a.val) ∧ H = [.cells 53 [.int .i64 a, .iface 47 (.int .i64 n)]] := by
  refine Ctr.of_below AsW.enterAt fun w r vals hg hgl hv => ?_
  obtain ⟨x, rfl, hx⟩ := vrelL_one hv
  obtain ⟨b, rfl, h1, _⟩ := AsW.fault_in hg hx
  exact (AsW.at_fault a.val b w (AsW.errAt hgl) h1).mono fun e w' ⟨h1, h2⟩ => ⟨_, h1, rfl, h2⟩
end Go.Proofs.YtbadogbkbhopcaaDoor
set_option linter.unusedVariables false
namespace Go.Proofs.YtbadogbkbhopcaaDoor
open Go Go.RowKit
set_option maxRecDepth 100000
namespace Bld
theorem copyCheck_used (b : Nat) (w : World) (h0 : w.cell? ⟨b, 0, none⟩ = some (.pointer (some ⟨b, 0, none⟩))) :
    Calls Tryd.prog 35 #[.pointer (some ⟨b, 0, none⟩)] w fun e w' => e = .returned (.tuple #[]) ∧ w' = w := by
  obtain ⟨j, hj, _⟩ := Option.map_eq_some_iff.1 (show (Tryd.prog.info? 56).map (·.size) = some 2 by kernel_rfl)
  go_enter Tryd.func35, Tryd.ntmps35
  go_wp2
  rw [Lib.run_neq_ptr_same w _ Tryd.underlying54 hj]
  go_wp2
  go_end0
  exact ⟨rfl, rfl⟩
theorem copyCheck_fresh (b : Nat) (w : World) (h0 : w.cell? ⟨b, 0, none⟩ = some (.pointer none)) (hsh : w.shape? b = some (56, 2)) (hfz : w.frozen? ⟨b, 0, none⟩ = false) :
    Calls Tryd.prog 35 #[.pointer (some ⟨b, 0, none⟩)] w fun e w' => e = .returned (.tuple #[]) ∧ w' = w.setCell ⟨b, 0, none⟩ (.pointer (some ⟨b, 0, none⟩)) := by
  obtain ⟨j, hj, hjs⟩ := Option.map_eq_some_iff.1 (show (Tryd.prog.info? 56).map (·.size) = some 2 by kernel_rfl)
  have lies : liesAt Tryd.prog Tryd.prog.depth 56 (2 / Tryd.prog.cellsOf 56) 0 56 1 = true := by kernel_rfl
  go_enter Tryd.func35, Tryd.ntmps35
  go_wp2
  rw [Lib.run_to_unsafe w ⟨b, 0, none⟩ Tryd.underlying54 Tryd.underlying63 hj (by rw [hjs]; decide) hsh (Nat.zero_lt_succ 1)]
  simp only [Result.andThen]
  rw [Oper.upon_value]
  go_wp2
  rw [run_callFunc_extern Tryd.func40 (by kernel_rfl) (by kernel_rfl) (by kernel_rfl) (e := Extern.AbiNoEscape.same) (by kernel_rfl)]
  rw [Lib.run_noEscape]
  simp only [Result.andThen]
  rw [Oper.upon_value]
  go_wp2
  rw [Lib.run_from_unsafe w ⟨b, 0, none⟩ Tryd.underlying63 Tryd.underlying54 hj hsh lies]
  simp only [Result.andThen]
  rw [Oper.upon_value]
  go_wp2
  go_end0
  exact ⟨rfl, rfl⟩
theorem indexByte0 (s : ByteArray) (c : Int) (w : World) :
    Calls Tryd.prog 36 #[.string s, .int .u8 c] w fun e w' => e = .returned (.int .i64 (Lib.indexByte s.data.toList c.toNat.toUInt8)) ∧ w' = w := by
  go_enter Tryd.func36, Tryd.ntmps36
  go_wp2
  rw [run_callFunc_extern Tryd.func41 (by kernel_rfl) (by kernel_rfl) (by kernel_rfl) (e := Extern.BytealgIndexByte.indexByte) (by kernel_rfl), Lib.run_indexByteString]
  simp only [Result.andThen]
  rw [Oper.upon_value]
  go_wp2
  go_ret
  exact ⟨rfl, rfl⟩
theorem string_row (b g cap : Nat) (p : Value) (l : List UInt8) (sz : Nat) (w : World) (h0 : l ≠ []) (hcap : l.length ≤ cap) (hmax : cap ≤ maxLen) (hsz : sz = cap)
    (hbk : w.heap[b]? = some (.cells #[p, .slice (some ⟨g, 0, none⟩) l.length cap] 56 (0, 0))) (hsh : w.shape? g = some (5, sz))
    (hcell : ∀ j x, l[j]? = some x → w.cell? ((⟨g, 0, none⟩ : Addr).add j) = some (.int .u8 x.toNat)) :
    Calls Tryd.prog 29 #[.pointer (some ⟨b, 0, none⟩)] w fun e w' => e = .returned (.string ⟨l.toArray⟩) ∧ w' = w.drew.freeze ⟨g, 0, none⟩ l.length := by
  have hl0 : l.length ≠ 0 := by simpa using h0
  have c1 : w.drew.cell? ⟨b, 1, none⟩ = some (.slice (some ⟨g, 0, none⟩) l.length cap) := by
    have : w.drew.heap[b]? = some (.cells #[p, .slice (some ⟨g, 0, none⟩) l.length cap] 56 (0, 0)) := hbk
    rw [Lib.cell_of_heap this]; rfl
  have hSD : (Builtin.unsafeSliceData_ #[35] 75 #[.slice (some ⟨g, 0, none⟩) l.length cap]).run Tryd.prog w.drew = .ok (.pointer (some ⟨g, 0, none⟩)) w.drew :=
    Lib.run_unsafeSliceData_row _ _ _ _ _ _ (by omega)
  have hUS : (Builtin.unsafeString_ #[75, 3] 9 #[.pointer (some ⟨g, 0, none⟩), .int .i64 l.length]).run Tryd.prog w.drew = .ok (.string ⟨l.toArray⟩) (w.drew.freeze ⟨g, 0, none⟩ l.length) := by
    refine Lib.run_unsafeString_row w.drew 75 3 9 5 Tryd.underlying75 (by kernel_rfl) g sz hsh l h0 (by omega) (by unfold maxLen at hmax; omega) ?_
    intro j x hx
    exact hcell j x hx
  clear hcell hsh hbk
  go_enter Tryd.func29, Tryd.ntmps29
  go_wp2
  go_region
  all_goals (go_wp2; go_ret; exact ⟨rfl, rfl⟩)
theorem unsafeString_none (W : World) (q : Option Addr) : (Builtin.unsafeString_ #[75, 3] 9 #[.pointer q, .int .i64 0]).run Tryd.prog W = .ok (.string .empty) W :=
  Lib.run_unsafeString_none W _ _ _ q
theorem string_nil (b : Nat) (p : Value) (w : World) (hbk : w.heap[b]? = some (.cells #[p, .slice none 0 0] 56 (0, 0))) :
    Calls Tryd.prog 29 #[.pointer (some ⟨b, 0, none⟩)] w fun e w' => e = .returned (.string ⟨#[]⟩) ∧ w' = w.drew := by
  have hUS := unsafeString_none
  have c1 : w.drew.cell? ⟨b, 1, none⟩ = some (.slice none 0 0) := by
    have : w.drew.heap[b]? = some (.cells #[p, .slice none 0 0] 56 (0, 0)) := hbk
    rw [Lib.cell_of_heap this]; rfl
  have hSD : (Builtin.unsafeSliceData_ #[35] 75 #[.slice none 0 0]).run Tryd.prog w.drew = .ok (.pointer none) w.drew := rfl
  clear hbk
  go_enter Tryd.func29, Tryd.ntmps29
  go_wp2
  go_region
  all_goals (go_wp2; go_ret; exact ⟨rfl, rfl⟩)
end Bld
end Go.Proofs.YtbadogbkbhopcaaDoor
namespace Go.Proofs.YtbadogbkbhopcaaDoor
open Go Sx Go.RowKit
set_option maxRecDepth 100000
set_option maxHeartbeats 2000000
namespace Bld
theorem enterCC : Entered Tryd.prog 35 := ⟨Tryd.f35, Tryd.func35, by kernel_rfl, by kernel_rfl⟩
theorem enterST : Entered Tryd.prog 29 := ⟨Tryd.f29, Tryd.func29, by kernel_rfl, by kernel_rfl⟩
theorem enterSI : Entered Tryd.prog 36 := ⟨Tryd.f36, Tryd.func36, by kernel_rfl, by kernel_rfl⟩
/-- A builder's block, in a world. -/
theorem two_in {r : Rho} {w : World} {own : Own} {p q : V} {E : List Blk} (hg : Sx.Good Tryd.prog own r (.cells 56 [p, q] :: E) w) :
    ∃ x g a b, r 0 = some x ∧ x.a = some ⟨g, 0, none⟩ ∧ w.heap[g]? = some (.cells #[a, b] 56 (0, 0)) ∧ VRel r p a ∧ VRel r q b ∧ OneCells [a, b] ∧ x.cap = 2 := by
  obtain ⟨z, hz, hb⟩ := hg.rel 0 (by simp [hget])
  simp only [hget, BRel] at hb
  obtain ⟨g, vals, h1, h2, h3, h4, h5⟩ := hb
  obtain ⟨l⟩ := vals
  simp only at h3
  match l, h3 with
  | [a, b], h3 =>
    simp only [VRelL] at h3
    exact ⟨z, g, a, b, hz, h1, h2, h3.1, h3.2.1, h4, h5⟩
theorem self {r : Rho} {x : RA} {g : Nat} {v : Value} (h1 : r 0 = some x) (h2 : x.a = some ⟨g, 0, none⟩) (h : VRel r (.ptr 0 ⟨.lit 0, 1, 0⟩) v) : v = .pointer (some ⟨g, 0, none⟩) := by
  simp only [VRel] at h
  obtain ⟨y, b, hy, hb, _, rfl⟩ := h
  rw [h1] at hy; cases hy
  rw [h2] at hb; cases hb
  simp [Off.nat, Addr.add]
theorem self_mk {r : Rho} {x : RA} {g : Nat} (h1 : r 0 = some x) (h2 : x.a = some ⟨g, 0, none⟩) : VRel r (.ptr 0 ⟨.lit 0, 1, 0⟩) (.pointer (some ⟨g, 0, none⟩)) := by
  simp only [VRel]
  exact ⟨x, ⟨g, 0, none⟩, h1, h2, by simp, by simp [Off.nat, Addr.add]⟩
theorem cc_used (n : Int) (xs : List Int) : Ctr Tryd.prog 35 [.cells 56 [.ptr 0 ⟨.lit 0, 1, 0⟩, .vec 1 (.sym n)], .cols (.row 1) 5 [.ints .u8 (.sym xs)]] [.ptr 0 ⟨.lit 0, 1, 0⟩] fun v H => v = .tup [] ∧ H = [.cells 56 [.ptr 0 ⟨.lit 0, 1, 0⟩, .vec 1 (.sym n)], .cols (.row 1) 5 [.ints .u8 (.sym xs)]] := by
  refine Ctr.of_below enterCC fun w r vals hg hgl hv => ?_
  obtain ⟨y, rfl, hy⟩ := vrelL_one hv
  obtain ⟨x, g, a, b, h1, h2, h3, h4, h5, _⟩ := two_in hg
  have e1 := self h1 h2 hy
  have e2 := self h1 h2 h4
  subst e1 e2
  exact (copyCheck_used g w (by rw [Lib.cell_of_heap h3]; rfl)).mono fun e w' ⟨p, q⟩ => ⟨_, p, ⟨#[], rfl, trivial⟩, q ▸ Below.refl _ _⟩
theorem cc_fresh : Ctr Tryd.prog 35 [.cells 56 [.nilp, .nilsl]] [.ptr 0 ⟨.lit 0, 1, 0⟩] fun v H => v = .tup [] ∧ H = [.cells 56 [.ptr 0 ⟨.lit 0, 1, 0⟩, .nilsl]] := by
  refine ⟨enterCC, fun w0 r0 vals hg hgl hv => ?_⟩
  obtain ⟨y, rfl, hy⟩ := vrelL_one hv
  obtain ⟨x, g, a, b, h1, h2, h3, h4, h5, h6, h7⟩ := two_in hg
  have e1 := self h1 h2 hy
  simp only [VRel] at h4 h5
  subst e1 h4 h5
  have hown : (ownOf r0 [.cells 56 [.nilp, .nilsl]] w0).wr g := hg.own 0 x ⟨g, 0, none⟩ rfl h1 h2
  refine (copyCheck_fresh g w0 (by rw [Lib.cell_of_heap h3]; rfl) (by simp [World.shape?, h3]) (Lib.frozen_of_heap h3 0)).mono ?_
  rintro e w ⟨rfl, rfl⟩
  have hs := heap_setCell_same w0 g 0 #[.pointer none, .slice none 0 0] 56 (.pointer (some ⟨g, 0, none⟩)) h3
  refine ⟨_, .tup [], [.cells 56 [.ptr 0 ⟨.lit 0, 1, 0⟩, .nilsl]], r0, rfl, ⟨#[], rfl, trivial⟩, ⟨rfl, rfl⟩, Rho.le_refl _, ?_, ?_⟩
  · have := hg.set (w' := w0.setCell ⟨g, 0, none⟩ (.pointer (some ⟨g, 0, none⟩))) (i := 0) (b := .cells 56 [.ptr 0 ⟨.lit 0, 1, 0⟩, .nilsl]) rfl h1 h2 rfl
      ⟨g, _, h2, hs, ⟨self_mk h1 h2, ⟨rfl, trivial⟩⟩, by intro v hv; simp at hv; rcases hv with rfl | rfl <;> rfl, by simpa using h7⟩
      (fun k hk => heap_setCell_other w0 ⟨g, 0, none⟩ k _ hk) (by simp)
    exact this
  · exact ⟨rfl, rfl, rfl, by simp, fun k _ hk => heap_setCell_other w0 ⟨g, 0, none⟩ k _ (fun e => hk (e ▸ hown))⟩
theorem heap_freeze_other (w : World) (g n k : Nat) (h : k ≠ g) : (w.freeze ⟨g, 0, none⟩ n).heap[k]? = w.heap[k]? := by
  unfold World.freeze
  split
  · rfl
  · simp [Array.getElem?_modify, Ne.symm h]
theorem byte_back {x : Int} (h : 0 ≤ x ∧ x < 256) : ((UInt8.ofNat x.toNat).toNat : Int) = x := by
  have : (UInt8.ofNat x.toNat).toNat = x.toNat % 256 := UInt8.toNat_ofNat'
  omega
theorem st_row (n : Int) (xs : List Int) (s : ByteArray) (hn : n = xs.length) (h0 : 0 < n) (hB : ∀ x ∈ xs, 0 ≤ x ∧ x < 256) (hs : s = strL xs) : Ctr Tryd.prog 29 [.cells 56 [.ptr 0 ⟨.lit 0, 1, 0⟩, .vec 1 (.sym n)], .cols (.row 1) 5 [.ints .u8 (.sym xs)]] [.ptr 0 ⟨.lit 0, 1, 0⟩] fun v H => v = .str (.sym s) ∧ H = [.dead, .dead] := by
  subst hs
  refine ⟨enterST, fun w0 r0 vals hg hgl hv => ?_⟩
  obtain ⟨y, rfl, hy⟩ := vrelL_one hv
  obtain ⟨x, g, a, b, h1, h2, h3, h4, h5, h6, h7⟩ := two_in hg
  have e1 := self h1 h2 hy
  have e2 := self h1 h2 h4
  subst e1 e2
  obtain ⟨z, hz, hb⟩ := hg.rel 1 (by simp [hget])
  simp only [hget, BRel] at hb
  obtain ⟨vals, q, m, k1, k2, k3, k4, k5⟩ := hb
  obtain ⟨rfl, k7⟩ := colsAt_ints k1
  simp only [Lv.raw] at k4 k5 k7
  rw [List.length_map, Nat.mul_one] at k4
  simp only [VRel] at h5
  obtain ⟨z', m', hz', hm', hle, _, rfl⟩ := h5
  rw [hz] at hz'; cases hz'
  simp only [Iv.val] at hm'
  have hmm : m' = m := by omega
  subst hmm
  have hm0 : 0 < m' := by omega
  obtain ⟨g', cap, cur, p1, p2, p3, p4, p5, p6, p7⟩ : ∃ g cap cur, Value.slice z.a m' z.cap = .slice (some ⟨g, 0, none⟩) m' cap ∧ 0 ≤ g ∧ w0.heap[g]? = some (.cells cur 5 (0, 0)) ∧ m' ≤ cap ∧ cap ≤ maxLen ∧ cur.size = cap * 1 ∧ cur.toList.take (m' * 1) = xs.map (Value.int .u8) := by
    rcases k5.2 with ⟨_, hz0⟩ | ⟨g, cap, cur, hv, r⟩
    · omega
    · exact ⟨g, cap, cur, hv, r⟩
  injection p1 with q1 q2 q3
  subst q3
  have hown : (ownOf r0 [.cells 56 [.ptr 0 ⟨.lit 0, 1, 0⟩, .vec 1 (.sym n)], .cols (.row 1) 5 [.ints .u8 (.sym xs)]] w0).wr g' := hg.own 1 z ⟨g', 0, none⟩ rfl hz q1
  obtain ⟨l, hl⟩ : ∃ l : List UInt8, l = xs.map fun n => UInt8.ofNat n.toNat := ⟨_, rfl⟩
  have hll : l.length = m' := by rw [hl, List.length_map]; exact k4
  have hne : l ≠ [] := by intro h; rw [h] at hll; simp at hll; omega
  rw [q1, ← hll] at h3
  have hcell : ∀ j x, l[j]? = some x → w0.cell? ((⟨g', 0, none⟩ : Addr).add j) = some (.int .u8 x.toNat) := by
    intro j x hx
    have hj : j < l.length := (List.getElem?_eq_some_iff.1 hx).1
    have hjx : j < xs.length := by rw [hl, List.length_map] at hj; exact hj
    have hc : cur[j]? = some (.int .u8 x.toNat) := by
      have : (cur.toList.take (m' * 1))[j]? = (xs.map (Value.int .u8))[j]? := by rw [p7]
      rw [List.getElem?_take_of_lt (by omega), List.getElem?_map, List.getElem?_eq_getElem hjx] at this
      rw [← Array.getElem?_toList, this]
      rw [hl, List.getElem?_map, List.getElem?_eq_getElem hjx] at hx
      simp only [Option.map_some, Option.some.injEq] at hx ⊢
      rw [← hx, byte_back (hB _ (List.getElem_mem hjx))]
    rw [add_mk, Lib.cell_of_heap p3, Nat.zero_add]; exact hc
  refine (string_row g g' z.cap _ l cur.size w0 hne (by omega) p5 (by omega) h3 (by simp [World.shape?, p3]) hcell).mono ?_
  rintro e w ⟨rfl, rfl⟩
  have hbel := Lib.below_freeze (Below.drew (Below.refl 0 w0)) (p := ⟨g', 0, none⟩) (Nat.zero_le _) l.length
  refine ⟨_, .str (.sym (strL xs)), [.dead, .dead], r0, rfl, by simp only [VRel, Sv.val, strL, hl], ⟨rfl, rfl⟩, Rho.le_refl _, ?_, ?_⟩
  · refine ⟨fun i hi => ?_, fun i hi => ?_, fun i x b hm => ?_, fun i j x y b g _ hm => ?_, fun i x g hm => ?_, fun i x g hm => ?_⟩
    · match i, hi with
      | 0, hi => simp [hget] at hi
      | 1, hi => simp [hget] at hi
      | i + 2, hi => exact hg.born (i + 2) (by simp [hget])
    · match i, hi with
      | 0, _ => exact ⟨x, h1, trivial⟩
      | 1, _ => exact ⟨z, hz, trivial⟩
      | i + 2, hi => simp [hget] at hi
    all_goals
      match i, hm with
      | 0, hm => simp [hget, Blk.mut, Blk.live] at hm
      | 1, hm => simp [hget, Blk.mut, Blk.live] at hm
      | i + 2, hm => simp [hget, Blk.mut, Blk.live] at hm
  · exact ⟨hbel.os, hbel.tape, hbel.output, hbel.size, fun k _ hk => heap_freeze_other _ g' _ k (fun e => hk (e ▸ hown))⟩
theorem st_nil : Ctr Tryd.prog 29 [.cells 56 [.nilp, .nilsl]] [.ptr 0 ⟨.lit 0, 1, 0⟩] fun v H => v = .str (.lit []) ∧ H = [.cells 56 [.nilp, .nilsl]] := by
  refine Ctr.of_below enterST fun w r vals hg hgl hv => ?_
  obtain ⟨y, rfl, hy⟩ := vrelL_one hv
  obtain ⟨x, g, a, b, h1, h2, h3, h4, h5, _⟩ := two_in hg
  have e1 := self h1 h2 hy
  simp only [VRel] at h4 h5
  subst e1 h4 h5
  exact (string_nil g _ w h3).mono fun e w' ⟨p, q⟩ => ⟨_, p, rfl, q ▸ Below.drew (Below.refl _ _)⟩
theorem si_ctr (s : ByteArray) (c n : Int) (hn : n = Lib.indexByte s.data.toList c.toNat.toUInt8) : Ctr Tryd.prog 36 [] [.str (.sym s), .int .u8 (.sym c)] fun v H => v = .int .i64 (.sym n) ∧ H = [] := by
  refine Ctr.of_below enterSI fun w r vals hg hgl hv => ?_
  match vals, hv with
  | [a, b], hv =>
    simp only [VRelL, VRel, Sv.val, Iv.val] at hv
    obtain ⟨rfl, rfl, _⟩ := hv
    exact (indexByte0 s c w).mono fun e w' ⟨p, q⟩ => ⟨_, p, by rw [hn]; rfl, q ▸ Below.refl _ _⟩
end Bld
end Go.Proofs.YtbadogbkbhopcaaDoor
set_option linter.unusedVariables false
set_option linter.unusedSimpArgs false
namespace Sx
open Go
set_option maxRecDepth 100000
/-! Digits: what is computed, no program in sight. -/
theorem strL_append (xs ys : List Int) : strL xs ++ strL ys = strL (xs ++ ys) := by
  apply ByteArray.ext
  simp [strL]
theorem strL_nil : strL [] = ⟨#[]⟩ := rfl
theorem size_byteAt (s : ByteArray) : (bytesL s).length = s.size := by rw [bytesL_length]
theorem bytesL_getD (s : ByteArray) (k : Nat) : (bytesL s).getD k 0 = byteAt s k := by
  simp only [bytesL, byteAt, List.getD_eq_getElem?_getD, List.getElem?_map, Int.toNat_natCast]
  cases s.data.toList[k]? <;> rfl
theorem byteAt_bd (s : ByteArray) (i : Int) : 0 ≤ byteAt s i ∧ byteAt s i < 256 := by
  have := (s.data.toList.getD i.toNat 0).toNat_lt
  simp only [byteAt]; omega
theorem byteAt_toNat (s : ByteArray) {i : Int} (h : 0 ≤ i) : byteAt s i = byteAt s (i.toNat : Int) := by rw [Int.toNat_of_nonneg h]
theorem byteAt_strL {xs : List Int} (h : Bytes xs) (i : Int) : byteAt (strL xs) i = xs.getD i.toNat 0 := by
  have := bytesL_getD (strL xs) i.toNat
  rw [bytesL_strL h] at this
  rw [this]
  simp only [byteAt, Int.toNat_natCast]
/-- All bytes, checked. -/
def chk (p : Nat → Bool) (n : Nat) : Bool := (List.range n).all p
theorem chk_at {p : Nat → Bool} {n : Nat} (h : chk p n = true) {x : Int} (h0 : 0 ≤ x) (h1 : x < n) : p x.toNat = true := List.all_eq_true.1 h x.toNat (List.mem_range.2 (by omega))
def val8 (c : Int) : Int := if 48 ≤ c ∧ c ≤ 57 then c - 48 else if 65 ≤ c ∧ c ≤ 70 then c - 55 else 99
def dig (n : Int) : Int := if n < 10 then 48 + n else 55 + n
theorem dig_bd {n : Int} (h0 : 0 ≤ n) (h1 : n < 16) : 0 ≤ dig n ∧ dig n < 256 := by rw [dig]; split <;> omega
theorem val_dig {n : Int} (h0 : 0 ≤ n) (h1 : n < 16) : val8 (dig n) = n := by
  rw [dig, val8]; split <;> (repeat' split) <;> omega
theorem dig_val {c : Int} (h : val8 c < 16) : dig (val8 c) = c := by
  rw [val8] at h ⊢; rw [dig]; (repeat' split) <;> (repeat' split at h) <;> omega
theorem val8_nn (c : Int) : 0 ≤ val8 c := by rw [val8]; (repeat' split) <;> omega
theorem val8_10 {c : Int} : val8 c < 10 ↔ 48 ≤ c ∧ c ≤ 57 := by rw [val8]; (repeat' split) <;> omega
theorem val8_dec {c : Int} (h : val8 c < 10) : val8 c = c - 48 := by rw [val8_10] at h; rw [val8, if_pos h]
def dg16 : List UInt8 := [48, 49, 50, 51, 52, 53, 54, 55, 56, 57, 65, 66, 67, 68, 69, 70]
def dg10 : List UInt8 := [48, 49, 50, 51, 52, 53, 54, 55, 56, 57]
theorem ix16_all : chk (fun c => decide (Lib.indexByte dg16 (UInt8.ofNat c) = if val8 c < 16 then val8 c else -1)) 256 = true := by kernel_rfl
theorem ix10_all : chk (fun c => decide (Lib.indexByte dg10 (UInt8.ofNat c) = if val8 c < 10 then val8 c else -1)) 256 = true := by kernel_rfl
theorem ix16_at {c : Int} (h : 0 ≤ c ∧ c < 256) : Lib.indexByte dg16 c.toNat.toUInt8 = if val8 c < 16 then val8 c else -1 := by
  have := of_decide_eq_true (chk_at ix16_all h.1 h.2)
  rw [Int.toNat_of_nonneg h.1] at this; exact this
theorem ix10_at {c : Int} (h : 0 ≤ c ∧ c < 256) : Lib.indexByte dg10 c.toNat.toUInt8 = if val8 c < 10 then val8 c else -1 := by
  have := of_decide_eq_true (chk_at ix10_all h.1 h.2)
  rw [Int.toNat_of_nonneg h.1] at this; exact this
/-- The first byte that is no digit below a base. -/
def IsFirst (s : ByteArray) (base i : Int) : Prop := (i = -1 ∧ ∀ k : Int, 0 ≤ k → k < s.size → val8 (byteAt s k) < base) ∨ (0 ≤ i ∧ i < s.size ∧ base ≤ val8 (byteAt s i) ∧ ∀ k : Int, 0 ≤ k → k < i → val8 (byteAt s k) < base)
theorem IsFirst.eq {s : ByteArray} {b i j : Int} (h : IsFirst s b i) (g : IsFirst s b j) : i = j := by
  rcases h with ⟨rfl, h⟩ | ⟨h0, h1, h2, h3⟩ <;> rcases g with ⟨rfl, g⟩ | ⟨g0, g1, g2, g3⟩
  · rfl
  · have := h j g0 g1; omega
  · have := g i h0 h1; omega
  · rcases Int.lt_trichotomy i j with e | e | e
    · have := g3 i h0 e; omega
    · exact e
    · have := h3 j g0 e; omega
theorem IsFirst.ge {s : ByteArray} {b i : Int} (h : IsFirst s b i) : -1 ≤ i := by rcases h with ⟨rfl, h⟩ | ⟨h0, _⟩ <;> omega
theorem IsFirst.lt {s : ByteArray} {b i : Int} (h : IsFirst s b i) : i < s.size := by rcases h with ⟨rfl, h⟩ | ⟨h0, h1, _⟩ <;> omega
theorem IsFirst.all {s : ByteArray} {b i : Int} (h : IsFirst s b i) (hi : i < 0) : ∀ k : Int, 0 ≤ k → k < s.size → val8 (byteAt s k) < b := by
  rcases h with ⟨rfl, h⟩ | ⟨h0, _⟩
  · exact h
  · omega
/-- Bytes as digits. -/
def hexL : List Int → List Int
  | [] => []
  | c :: r => dig (c / 16) :: dig (c % 16) :: hexL r
theorem hexL_app (xs ys : List Int) : hexL (xs ++ ys) = hexL xs ++ hexL ys := by
  induction xs with
  | nil => rfl
  | cons a r ih => simp [hexL, ih]
theorem hexL_length (xs : List Int) : (hexL xs).length = 2 * xs.length := by
  induction xs with
  | nil => rfl
  | cons a r ih => simp [hexL, ih]; omega
theorem hexL_bytes {xs : List Int} (h : Bytes xs) : Bytes (hexL xs) := by
  induction xs with
  | nil => intro x hx; simp [hexL] at hx
  | cons a r ih =>
    have ha := h a (by simp)
    intro x hx
    simp only [hexL, List.mem_cons] at hx
    rcases hx with rfl | rfl | hx
    · exact dig_bd (by omega) (by omega)
    · exact dig_bd (by omega) (by omega)
    · exact ih (fun y hy => h y (by simp [hy])) x hx
theorem take_next {xs : List Int} {i : Nat} (h : i < xs.length) : xs.take (i + 1) = xs.take i ++ [xs.getD i 0] := by
  rw [List.take_add_one, List.getElem?_eq_getElem h, List.getD_eq_getElem?_getD, List.getElem?_eq_getElem h]; rfl
theorem hex_next {xs : List Int} {i : Nat} (h : i < xs.length) : hexL (xs.take (i + 1)) = hexL (xs.take i) ++ [dig (xs.getD i 0 / 16), dig (xs.getD i 0 % 16)] := by
  rw [take_next h, hexL_app]; rfl
theorem hexL_at {xs : List Int} : ∀ {i : Nat}, i < xs.length → (hexL xs).getD (2 * i) 0 = dig (xs.getD i 0 / 16) ∧ (hexL xs).getD (2 * i + 1) 0 = dig (xs.getD i 0 % 16) := by
  induction xs with
  | nil => intro i h; simp at h
  | cons a r ih =>
    intro i h
    match i with
    | 0 => exact ⟨rfl, rfl⟩
    | i + 1 =>
      have := ih (i := i) (by simp at h; omega)
      rw [show 2 * (i + 1) = 2 * i + 1 + 1 by omega]
      simpa [hexL] using this
/-- The number of a text's digits that are read together. -/
def unF (s : ByteArray) (j : Nat) : Int := (16 * val8 (byteAt s (2 * j)) + val8 (byteAt s (2 * j + 1))) % 256
def unhexL (s : ByteArray) (n : Nat) : List Int := (List.range n).map (unF s)
theorem unhexL_next (s : ByteArray) (n : Nat) : unhexL s (n + 1) = unhexL s n ++ [unF s n] := by simp [unhexL, List.range_succ]
theorem unhexL_length (s : ByteArray) (n : Nat) : (unhexL s n).length = n := by simp [unhexL]
theorem unhexL_bytes (s : ByteArray) (n : Nat) : Bytes (unhexL s n) := fun x hx => by
  obtain ⟨i, _, rfl⟩ := List.mem_map.1 hx
  rw [unF]; omega
theorem unhex_hex {xs : List Int} (h : Bytes xs) : unhexL (strL (hexL xs)) xs.length = xs := by
  refine list_eq_of_get (by simp [unhexL]) fun k hk => ?_
  have hk' : k < xs.length := by simpa [unhexL] using hk
  have hb := h.get k
  rw [unhexL, List.getD_eq_getElem?_getD, List.getElem?_map, List.getElem?_range hk']
  simp only [Option.map_some, Option.getD_some, unF]
  rw [byteAt_strL (hexL_bytes h), byteAt_strL (hexL_bytes h), show (2 * (k : Int)).toNat = 2 * k by omega, show (2 * (k : Int) + 1).toNat = 2 * k + 1 by omega, (hexL_at hk').1, (hexL_at hk').2, val_dig (by omega) (by omega), val_dig (by omega) (by omega)]
  omega
theorem hex_first {xs : List Int} (h : Bytes xs) {i : Int} (hi : IsFirst (strL (hexL xs)) 16 i) : i = -1 := by
  rcases hi with ⟨rfl, _⟩ | ⟨h0, h1, h2, _⟩
  · rfl
  · rw [size_strL, hexL_length] at h1
    rw [byteAt_strL (hexL_bytes h)] at h2
    have hb := h.get (i.toNat / 2)
    have hat := hexL_at (xs := xs) (i := i.toNat / 2) (by omega)
    rcases Nat.mod_two_eq_zero_or_one i.toNat with e | e
    · rw [show i.toNat = 2 * (i.toNat / 2) by omega, hat.1, val_dig (by omega) (by omega)] at h2; omega
    · rw [show i.toNat = 2 * (i.toNat / 2) + 1 by omega, hat.2, val_dig (by omega) (by omega)] at h2; omega
theorem dg_at {n : Int} (h0 : 0 ≤ n) (h1 : n < 16) : byteAt ⟨dg16.toArray⟩ n = dig n := by
  have : chk (fun n => decide (byteAt ⟨dg16.toArray⟩ n = dig n)) 16 = true := by kernel_rfl
  have := of_decide_eq_true (chk_at this h0 h1)
  rw [Int.toNat_of_nonneg h0] at this; exact this
theorem hi_all : chk (fun c => decide (binI .shr .u8 c 4 = (c : Int) / 16 ∧ binI .and .u8 c 15 = (c : Int) % 16)) 256 = true := by kernel_rfl
theorem hi_at {c : Int} (h : 0 ≤ c ∧ c < 256) : binI .shr .u8 c 4 = c / 16 ∧ binI .and .u8 c 15 = c % 16 := by
  have := of_decide_eq_true (chk_at hi_all h.1 h.2)
  rw [Int.toNat_of_nonneg h.1] at this; exact this
theorem or_all : chk (fun a => chk (fun b => decide (binI .or .i64 (binI .shl .i64 a 4) b = 16 * (a : Int) + b)) 16) 16 = true := by kernel_rfl
theorem or_at {a b : Int} (ha : 0 ≤ a ∧ a < 16) (hb : 0 ≤ b ∧ b < 16) : binI .or .i64 (binI .shl .i64 a 4) b = 16 * a + b := by
  have h := of_decide_eq_true (chk_at (chk_at or_all ha.1 ha.2) hb.1 hb.2)
  rw [Int.toNat_of_nonneg ha.1, Int.toNat_of_nonneg hb.1] at h; exact h
/-- A check digit's sum: the k-th from the end. -/
def luhn (k d : Int) : Int := if k % 2 = 0 then (if 2 * d > 9 then 2 * d - 9 else 2 * d) else d
theorem luhn_eq {k d : Int} (h : 0 ≤ d ∧ d < 10) : luhn k d = (if k % 2 = 0 then 2 * d else d) % 10 + (if k % 2 = 0 then 2 * d else d) / 10 := by
  rw [luhn]; (repeat' split) <;> omega
theorem luhn_bd {k d : Int} (h : 0 ≤ d ∧ d < 10) : 0 ≤ luhn k d ∧ luhn k d < 10 := by
  rw [luhn]; (repeat' split) <;> omega
def sumL (s : ByteArray) : Nat → Int
  | 0 => 0
  | j + 1 => sumL s j + luhn j (val8 (byteAt s ((s.size : Int) - 1 - j)))
theorem sumL_bd {s : ByteArray} (h : ∀ k : Int, 0 ≤ k → k < s.size → val8 (byteAt s k) < 10) : ∀ j : Nat, j ≤ s.size → 0 ≤ sumL s j ∧ sumL s j ≤ 9 * j
  | 0, _ => by simp [sumL]
  | j + 1, hj => by
    have ih := sumL_bd h j (by omega)
    have hb := luhn_bd (k := j) (d := val8 (byteAt s ((s.size : Int) - 1 - j))) ⟨val8_nn _, h _ (by omega) (by omega)⟩
    rw [sumL]; omega
def checkD (s : ByteArray) : Int := 48 + (10 - sumL s s.size % 10) % 10
theorem checkD_bd (s : ByteArray) : 48 ≤ checkD s ∧ checkD s ≤ 57 := by rw [checkD]; omega
/-- Texts summed up. -/
def modF (a b : ByteArray) (back : Bool) (i : Nat) : Int := 48 + (if back = true then val8 (byteAt a i) - val8 (byteAt b i) + 10 else val8 (byteAt a i) + val8 (byteAt b i)) % 10
def modL (a b : ByteArray) (back : Bool) (n : Nat) : List Int := (List.range n).map (modF a b back)
theorem modL_next (a b : ByteArray) (back : Bool) (n : Nat) : modL a b back (n + 1) = modL a b back n ++ [modF a b back n] := by simp [modL, List.range_succ]
theorem modL_length (a b : ByteArray) (back : Bool) (n : Nat) : (modL a b back n).length = n := by simp [modL]
theorem modF_bd (a b : ByteArray) (back : Bool) (i : Nat) : 48 ≤ modF a b back i ∧ modF a b back i ≤ 57 := by rw [modF]; omega
theorem modL_bytes (a b : ByteArray) (back : Bool) (n : Nat) : Bytes (modL a b back n) := fun x hx => by
  obtain ⟨i, _, rfl⟩ := List.mem_map.1 hx
  have := modF_bd a b back i; omega
/-- A text through a table. -/
def thrF (s t : ByteArray) (i : Nat) : Int := byteAt t (val8 (byteAt s i))
def thrL (s t : ByteArray) (n : Nat) : List Int := (List.range n).map (thrF s t)
theorem thrL_next (s t : ByteArray) (n : Nat) : thrL s t (n + 1) = thrL s t n ++ [thrF s t n] := by simp [thrL, List.range_succ]
theorem thrL_length (s t : ByteArray) (n : Nat) : (thrL s t n).length = n := by simp [thrL]
theorem thrL_bytes (s t : ByteArray) (n : Nat) : Bytes (thrL s t n) := fun x hx => by
  obtain ⟨i, _, rfl⟩ := List.mem_map.1 hx
  exact byteAt_bd _ _
theorem size_data (s : ByteArray) : s.size = s.data.toList.length := rfl
theorem sub_one {s : ByteArray} {k : Int} (h0 : 0 ≤ k) (h1 : k < s.size) : s.extract k.toNat (k + 1).toNat = strL [byteAt s k] := by
  have hs := size_data s
  have hk : k.toNat < s.data.toList.length := by omega
  apply ByteArray.ext
  apply Array.ext'
  simp only [ByteArray.data_extract, Array.toList_extract, strL, List.map_cons, List.map_nil, List.extract_eq_take_drop]
  rw [show (k + 1).toNat - k.toNat = 1 by omega, List.take_one, List.head?_drop, List.getElem?_eq_getElem hk]
  simp [byteAt, List.getD_eq_getElem?_getD, List.getElem?_eq_getElem hk]
end Sx
namespace Go.Proofs.YtbadogbkbhopcaaDoor
open Go Sx
set_option maxRecDepth 100000
set_option maxHeartbeats 4000000
theorem mixed : Tryd.prog.follows .mixedOrders = true := by kernel_rfl
theorem wb_nil (c : Int) (ys : List Int) (hy : ys = [c]) : Ctr Tryd.prog 27 [.cells 56 [.nilp, .nilsl]] [.ptr 0 ⟨.lit 0, 1, 0⟩, .int .u8 (.sym c)] fun v H =>
    v = .nilif ∧ H = [.cells 56 [.ptr 0 ⟨.lit 0, 1, 0⟩, .vec 1 (.sym 1)], .cols (.row 1) 5 [.ints .u8 (.sym ys)]] := by
  obtain ⟨uI, uB, uS, uL, uT, hu⟩ := words
  have hm := mixed
  have hT := tabOk
  have hC := @Bld.cc_fresh
  obtain ⟨P, hP⟩ : ∃ P, P = Tryd.prog := ⟨_, rfl⟩
  rw [← hP] at hm hT hC ⊢
  refine Ctr.weak (ctr_of_vc hu hm hT (hP ▸ Tryd.func27) rfl (by kernel_rfl) ?_)
  clear hP hm hT
  generalize hR : Weak _ _ = R
  conv => cbv
  repeat' (first | ((with_reducible intro (h : _ = _)); (try subst h); (try simp only [hu.b, hu.i, iB, iI, cmpB, Iv.val_sym, Iv.val_lit, Lv.raw, Tv.raw, decide_eq_true_eq, decide_eq_false_iff_not, beq_iff_eq, beq_eq_false_iff_ne, ne_eq, ofN, Int.toNat_zero, Int.toNat_one, Int.reduceToNat, natc, hu.s, iS, Sv.val_lit, Sv.val_sym, true_iff, false_iff, Bool.false_eq_true, bne_iff_ne, bne_eq_false_iff_eq, Bool.not_eq_true', Bool.not_eq_false', Decidable.not_not, nil_toList, ByteArray.size_empty, nilS, not_true_eq_false, not_false_eq_true, hu.l, iL, hu.t, iT, bin_add, bin_sub, bin_mul, wr_u8, wr_u16, wr_u32, wr_u64, IntKind.wrap_i64, List.length_append, List.length_cons, List.length_nil, List.nil_append, List.append_nil, List.cons_append, lvals, List.length_replicate, List.length_set, linV_val hu, Int.add_zero, Int.zero_add, Int.mul_one, Int.sub_zero, Int.zero_mul, Bool.true_eq_false, false_and, and_false, true_and, and_true, List.all_cons, List.all_nil, id_eq, Bool.and_true] at h) <;> (try simp only [Int.ofNat_eq_natCast] at h) <;> (first | (have hF0 : False := by omega; exact hF0.elim) | (conv => cbv))) | (with_reducible refine And.intro ?_ ?_) | (refine CallVC.mk (Ctr.monoR ?_ (hC)); ((rintro v H ⟨rfl, rfl⟩) <;> (conv => cbv))) | (refine Gen0.mk ?_; (conv => cbv)) | (simp only [hu.b, hu.i, iB, iI, cmpB, Iv.val_sym, Iv.val_lit, Lv.raw, Tv.raw, decide_eq_true_eq, decide_eq_false_iff_not, beq_iff_eq, beq_eq_false_iff_ne, ne_eq, ofN, Int.toNat_zero, Int.toNat_one, Int.reduceToNat, natc, hu.s, iS, Sv.val_lit, Sv.val_sym, true_iff, false_iff, Bool.false_eq_true, bne_iff_ne, bne_eq_false_iff_eq, Bool.not_eq_true', Bool.not_eq_false', Decidable.not_not, nil_toList, ByteArray.size_empty, nilS, not_true_eq_false, not_false_eq_true, hu.l, iL, hu.t, iT, bin_add, bin_sub, bin_mul, wr_u8, wr_u16, wr_u32, wr_u64, IntKind.wrap_i64, List.length_append, List.length_cons, List.length_nil, List.nil_append, List.append_nil, List.cons_append, lvals, List.length_replicate, List.length_set, linV_val hu, Int.add_zero, Int.zero_add, Int.mul_one, Int.sub_zero, Int.zero_mul, Bool.true_eq_false, false_and, and_false, true_and, and_true, List.all_cons, List.all_nil, id_eq, Bool.and_true]; (try simp only [Int.ofNat_eq_natCast]); done) | ((try simp only [hu.b, hu.i, iB, iI, cmpB, Iv.val_sym, Iv.val_lit, Lv.raw, Tv.raw, decide_eq_true_eq, decide_eq_false_iff_not, beq_iff_eq, beq_eq_false_iff_ne, ne_eq, ofN, Int.toNat_zero, Int.toNat_one, Int.reduceToNat, natc, hu.s, iS, Sv.val_lit, Sv.val_sym, true_iff, false_iff, Bool.false_eq_true, bne_iff_ne, bne_eq_false_iff_eq, Bool.not_eq_true', Bool.not_eq_false', Decidable.not_not, nil_toList, ByteArray.size_empty, nilS, not_true_eq_false, not_false_eq_true, hu.l, iL, hu.t, iT, bin_add, bin_sub, bin_mul, wr_u8, wr_u16, wr_u32, wr_u64, IntKind.wrap_i64, List.length_append, List.length_cons, List.length_nil, List.nil_append, List.append_nil, List.cons_append, lvals, List.length_replicate, List.length_set, linV_val hu, Int.add_zero, Int.zero_add, Int.mul_one, Int.sub_zero, Int.zero_mul, Bool.true_eq_false, false_and, and_false, true_and, and_true, List.all_cons, List.all_nil, id_eq, Bool.and_true]) <;> (try simp only [Int.ofNat_eq_natCast]) <;> omega))
  subst hR
  refine Weak.of (⟨rfl, rfl⟩) ?_ ?_ (by rfl)
  all_goals ((conv => cbv); repeat' (first | exact True.intro | with_reducible rfl | (with_reducible exact fun h => h) | (with_reducible refine And.intro ?_ ?_)))
  all_goals
    ((try simp only [hu.b, hu.i, iB, iI, cmpB, Iv.val_sym, Iv.val_lit, Lv.raw, Tv.raw, decide_eq_true_eq, decide_eq_false_iff_not, beq_iff_eq, beq_eq_false_iff_ne, ne_eq, ofN, Int.toNat_zero, Int.toNat_one, Int.reduceToNat, natc, hu.s, iS, Sv.val_lit, Sv.val_sym, true_iff, false_iff, Bool.false_eq_true, bne_iff_ne, bne_eq_false_iff_eq, Bool.not_eq_true', Bool.not_eq_false', Decidable.not_not, nil_toList, ByteArray.size_empty, nilS, not_true_eq_false, not_false_eq_true, hu.l, iL, hu.t, iT, bin_add, bin_sub, bin_mul, wr_u8, wr_u16, wr_u32, wr_u64, IntKind.wrap_i64, List.length_append, List.length_cons, List.length_nil, List.nil_append, List.append_nil, List.cons_append, lvals, List.length_replicate, List.length_set, linV_val hu, Int.add_zero, Int.zero_add, Int.mul_one, Int.sub_zero, Int.zero_mul, Bool.true_eq_false, false_and, and_false, true_and, and_true, List.all_cons, List.all_nil, id_eq, Bool.and_true]) <;> (try simp only [Int.ofNat_eq_natCast]) <;> (try omega))
  all_goals exact hy.symm
theorem wb_row (n c m : Int) (xs ys : List Int) (hn : n = xs.length) (h9 : n ≤ 1000000) (hm1 : m = n + 1) (hy : ys = xs ++ [c]) : Ctr Tryd.prog 27 [.cells 56 [.ptr 0 ⟨.lit 0, 1, 0⟩, .vec 1 (.sym n)], .cols (.row 1) 5 [.ints .u8 (.sym xs)]] [.ptr 0 ⟨.lit 0, 1, 0⟩, .int .u8 (.sym c)] fun v H =>
    v = .nilif ∧ H = [.cells 56 [.ptr 0 ⟨.lit 0, 1, 0⟩, .vec 2 (.sym m)], .dead, .cols (.row 1) 5 [.ints .u8 (.sym ys)]] := by
  obtain ⟨uI, uB, uS, uL, uT, hu⟩ := words
  have hm := mixed
  have hT := tabOk
  have hC := @Bld.cc_used
  obtain ⟨P, hP⟩ : ∃ P, P = Tryd.prog := ⟨_, rfl⟩
  rw [← hP] at hm hT hC ⊢
  refine Ctr.weak (ctr_of_vc hu hm hT (hP ▸ Tryd.func27) rfl (by kernel_rfl) ?_)
  clear hP hm hT
  generalize hR : Weak _ _ = R
  conv => cbv
  repeat' (first | ((with_reducible intro (h : _ = _)); (try subst h); (try simp only [hu.b, hu.i, iB, iI, cmpB, Iv.val_sym, Iv.val_lit, Lv.raw, Tv.raw, decide_eq_true_eq, decide_eq_false_iff_not, beq_iff_eq, beq_eq_false_iff_ne, ne_eq, ofN, Int.toNat_zero, Int.toNat_one, Int.reduceToNat, natc, hu.s, iS, Sv.val_lit, Sv.val_sym, true_iff, false_iff, Bool.false_eq_true, bne_iff_ne, bne_eq_false_iff_eq, Bool.not_eq_true', Bool.not_eq_false', Decidable.not_not, nil_toList, ByteArray.size_empty, nilS, not_true_eq_false, not_false_eq_true, hu.l, iL, hu.t, iT, bin_add, bin_sub, bin_mul, wr_u8, wr_u16, wr_u32, wr_u64, IntKind.wrap_i64, List.length_append, List.length_cons, List.length_nil, List.nil_append, List.append_nil, List.cons_append, lvals, List.length_replicate, List.length_set, linV_val hu, Int.add_zero, Int.zero_add, Int.mul_one, Int.sub_zero, Int.zero_mul, Bool.true_eq_false, false_and, and_false, true_and, and_true, List.all_cons, List.all_nil, id_eq, Bool.and_true] at h) <;> (try simp only [Int.ofNat_eq_natCast] at h) <;> (first | (have hF0 : False := by omega; exact hF0.elim) | (conv => cbv))) | (with_reducible refine And.intro ?_ ?_) | (refine CallVC.mk (Ctr.monoR ?_ (hC _ _)); ((rintro v H ⟨rfl, rfl⟩) <;> (conv => cbv))) | (refine Gen0.mk ?_; (conv => cbv)) | (simp only [hu.b, hu.i, iB, iI, cmpB, Iv.val_sym, Iv.val_lit, Lv.raw, Tv.raw, decide_eq_true_eq, decide_eq_false_iff_not, beq_iff_eq, beq_eq_false_iff_ne, ne_eq, ofN, Int.toNat_zero, Int.toNat_one, Int.reduceToNat, natc, hu.s, iS, Sv.val_lit, Sv.val_sym, true_iff, false_iff, Bool.false_eq_true, bne_iff_ne, bne_eq_false_iff_eq, Bool.not_eq_true', Bool.not_eq_false', Decidable.not_not, nil_toList, ByteArray.size_empty, nilS, not_true_eq_false, not_false_eq_true, hu.l, iL, hu.t, iT, bin_add, bin_sub, bin_mul, wr_u8, wr_u16, wr_u32, wr_u64, IntKind.wrap_i64, List.length_append, List.length_cons, List.length_nil, List.nil_append, List.append_nil, List.cons_append, lvals, List.length_replicate, List.length_set, linV_val hu, Int.add_zero, Int.zero_add, Int.mul_one, Int.sub_zero, Int.zero_mul, Bool.true_eq_false, false_and, and_false, true_and, and_true, List.all_cons, List.all_nil, id_eq, Bool.and_true]; (try simp only [Int.ofNat_eq_natCast]); done) | ((try simp only [hu.b, hu.i, iB, iI, cmpB, Iv.val_sym, Iv.val_lit, Lv.raw, Tv.raw, decide_eq_true_eq, decide_eq_false_iff_not, beq_iff_eq, beq_eq_false_iff_ne, ne_eq, ofN, Int.toNat_zero, Int.toNat_one, Int.reduceToNat, natc, hu.s, iS, Sv.val_lit, Sv.val_sym, true_iff, false_iff, Bool.false_eq_true, bne_iff_ne, bne_eq_false_iff_eq, Bool.not_eq_true', Bool.not_eq_false', Decidable.not_not, nil_toList, ByteArray.size_empty, nilS, not_true_eq_false, not_false_eq_true, hu.l, iL, hu.t, iT, bin_add, bin_sub, bin_mul, wr_u8, wr_u16, wr_u32, wr_u64, IntKind.wrap_i64, List.length_append, List.length_cons, List.length_nil, List.nil_append, List.append_nil, List.cons_append, lvals, List.length_replicate, List.length_set, linV_val hu, Int.add_zero, Int.zero_add, Int.mul_one, Int.sub_zero, Int.zero_mul, Bool.true_eq_false, false_and, and_false, true_and, and_true, List.all_cons, List.all_nil, id_eq, Bool.and_true]) <;> (try simp only [Int.ofNat_eq_natCast]) <;> omega))
  subst hR
  refine Weak.of (⟨rfl, rfl⟩) ?_ ?_ (by rfl)
  all_goals ((conv => cbv); repeat' (first | exact True.intro | with_reducible rfl | (with_reducible exact fun h => h) | (with_reducible refine And.intro ?_ ?_)))
  all_goals
    ((try simp only [hu.b, hu.i, iB, iI, cmpB, Iv.val_sym, Iv.val_lit, Lv.raw, Tv.raw, decide_eq_true_eq, decide_eq_false_iff_not, beq_iff_eq, beq_eq_false_iff_ne, ne_eq, ofN, Int.toNat_zero, Int.toNat_one, Int.reduceToNat, natc, hu.s, iS, Sv.val_lit, Sv.val_sym, true_iff, false_iff, Bool.false_eq_true, bne_iff_ne, bne_eq_false_iff_eq, Bool.not_eq_true', Bool.not_eq_false', Decidable.not_not, nil_toList, ByteArray.size_empty, nilS, not_true_eq_false, not_false_eq_true, hu.l, iL, hu.t, iT, bin_add, bin_sub, bin_mul, wr_u8, wr_u16, wr_u32, wr_u64, IntKind.wrap_i64, List.length_append, List.length_cons, List.length_nil, List.nil_append, List.append_nil, List.cons_append, lvals, List.length_replicate, List.length_set, linV_val hu, Int.add_zero, Int.zero_add, Int.mul_one, Int.sub_zero, Int.zero_mul, Bool.true_eq_false, false_and, and_false, true_and, and_true, List.all_cons, List.all_nil, id_eq, Bool.and_true]) <;> (try simp only [Int.ofNat_eq_natCast]) <;> (try omega))
  all_goals first | exact hy.symm | omega
theorem ib_ctr (s : ByteArray) (c n : Int) (hn : n = Lib.indexByte s.data.toList c.toNat.toUInt8) : Ctr Tryd.prog 28 [] [.str (.sym s), .int .u8 (.sym c)] fun v H => v = .int .i64 (.sym n) ∧ H = [] := by
  obtain ⟨uI, uB, uS, uL, uT, hu⟩ := words
  have hm := mixed
  have hT := tabOk
  have hC := @Bld.si_ctr
  obtain ⟨P, hP⟩ : ∃ P, P = Tryd.prog := ⟨_, rfl⟩
  rw [← hP] at hm hT hC ⊢
  refine Ctr.weak (ctr_of_vc hu hm hT (hP ▸ Tryd.func28) rfl (by kernel_rfl) ?_)
  clear hP hm hT
  generalize hR : Weak _ _ = R
  conv => cbv
  repeat' (first | ((with_reducible intro (h : _ = _)); (try subst h); (try simp only [hu.b, hu.i, iB, iI, cmpB, Iv.val_sym, Iv.val_lit, Lv.raw, Tv.raw, decide_eq_true_eq, decide_eq_false_iff_not, beq_iff_eq, beq_eq_false_iff_ne, ne_eq, ofN, Int.toNat_zero, Int.toNat_one, Int.reduceToNat, natc, hu.s, iS, Sv.val_lit, Sv.val_sym, true_iff, false_iff, Bool.false_eq_true, bne_iff_ne, bne_eq_false_iff_eq, Bool.not_eq_true', Bool.not_eq_false', Decidable.not_not, nil_toList, ByteArray.size_empty, nilS, not_true_eq_false, not_false_eq_true, hu.l, iL, hu.t, iT, bin_add, bin_sub, bin_mul, wr_u8, wr_u16, wr_u32, wr_u64, IntKind.wrap_i64, List.length_append, List.length_cons, List.length_nil, List.nil_append, List.append_nil, List.cons_append, lvals, List.length_replicate, List.length_set, linV_val hu, Int.add_zero, Int.zero_add, Int.mul_one, Int.sub_zero, Int.zero_mul, Bool.true_eq_false, false_and, and_false, true_and, and_true, List.all_cons, List.all_nil, id_eq, Bool.and_true] at h) <;> (try simp only [Int.ofNat_eq_natCast] at h) <;> (first | (have hF0 : False := by omega; exact hF0.elim) | (conv => cbv))) | (with_reducible refine And.intro ?_ ?_) | (first | (refine CallDet.genR ?_ (fun x hx => hC _ _ x hx)) | (refine CallVC.genR ?_ (fun x hx => hC _ _ x hx))) | (refine Gen0.mk ?_; (conv => cbv)) | (refine Gen1.mk ?_; ((intro x hx) <;> (try simp only [hu.b, hu.i, iB, iI, cmpB, Iv.val_sym, Iv.val_lit, Lv.raw, Tv.raw, decide_eq_true_eq, decide_eq_false_iff_not, beq_iff_eq, beq_eq_false_iff_ne, ne_eq, ofN, Int.toNat_zero, Int.toNat_one, Int.reduceToNat, natc, hu.s, iS, Sv.val_lit, Sv.val_sym, true_iff, false_iff, Bool.false_eq_true, bne_iff_ne, bne_eq_false_iff_eq, Bool.not_eq_true', Bool.not_eq_false', Decidable.not_not, nil_toList, ByteArray.size_empty, nilS, not_true_eq_false, not_false_eq_true, hu.l, iL, hu.t, iT, bin_add, bin_sub, bin_mul, wr_u8, wr_u16, wr_u32, wr_u64, IntKind.wrap_i64, List.length_append, List.length_cons, List.length_nil, List.nil_append, List.append_nil, List.cons_append, lvals, List.length_replicate, List.length_set, linV_val hu, Int.add_zero, Int.zero_add, Int.mul_one, Int.sub_zero, Int.zero_mul, Bool.true_eq_false, false_and, and_false, true_and, and_true, List.all_cons, List.all_nil, id_eq, Bool.and_true] at hx) <;> (try simp only [Int.ofNat_eq_natCast] at hx) <;> (first | (have hF0 : False := by omega; exact hF0.elim) | (conv => cbv)))) | (simp only [hu.b, hu.i, iB, iI, cmpB, Iv.val_sym, Iv.val_lit, Lv.raw, Tv.raw, decide_eq_true_eq, decide_eq_false_iff_not, beq_iff_eq, beq_eq_false_iff_ne, ne_eq, ofN, Int.toNat_zero, Int.toNat_one, Int.reduceToNat, natc, hu.s, iS, Sv.val_lit, Sv.val_sym, true_iff, false_iff, Bool.false_eq_true, bne_iff_ne, bne_eq_false_iff_eq, Bool.not_eq_true', Bool.not_eq_false', Decidable.not_not, nil_toList, ByteArray.size_empty, nilS, not_true_eq_false, not_false_eq_true, hu.l, iL, hu.t, iT, bin_add, bin_sub, bin_mul, wr_u8, wr_u16, wr_u32, wr_u64, IntKind.wrap_i64, List.length_append, List.length_cons, List.length_nil, List.nil_append, List.append_nil, List.cons_append, lvals, List.length_replicate, List.length_set, linV_val hu, Int.add_zero, Int.zero_add, Int.mul_one, Int.sub_zero, Int.zero_mul, Bool.true_eq_false, false_and, and_false, true_and, and_true, List.all_cons, List.all_nil, id_eq, Bool.and_true]; (try simp only [Int.ofNat_eq_natCast]); done) | ((try simp only [hu.b, hu.i, iB, iI, cmpB, Iv.val_sym, Iv.val_lit, Lv.raw, Tv.raw, decide_eq_true_eq, decide_eq_false_iff_not, beq_iff_eq, beq_eq_false_iff_ne, ne_eq, ofN, Int.toNat_zero, Int.toNat_one, Int.reduceToNat, natc, hu.s, iS, Sv.val_lit, Sv.val_sym, true_iff, false_iff, Bool.false_eq_true, bne_iff_ne, bne_eq_false_iff_eq, Bool.not_eq_true', Bool.not_eq_false', Decidable.not_not, nil_toList, ByteArray.size_empty, nilS, not_true_eq_false, not_false_eq_true, hu.l, iL, hu.t, iT, bin_add, bin_sub, bin_mul, wr_u8, wr_u16, wr_u32, wr_u64, IntKind.wrap_i64, List.length_append, List.length_cons, List.length_nil, List.nil_append, List.append_nil, List.cons_append, lvals, List.length_replicate, List.length_set, linV_val hu, Int.add_zero, Int.zero_add, Int.mul_one, Int.sub_zero, Int.zero_mul, Bool.true_eq_false, false_and, and_false, true_and, and_true, List.all_cons, List.all_nil, id_eq, Bool.and_true]) <;> (try simp only [Int.ofNat_eq_natCast]) <;> omega))
  subst hR
  refine Weak.of (⟨rfl, rfl⟩) ?_ ?_ (by rfl)
  all_goals ((conv => cbv); repeat' (first | exact True.intro | with_reducible rfl | (with_reducible exact fun h => h) | (with_reducible refine And.intro ?_ ?_)))
  all_goals rw [hx, hn]
theorem first_ctr (s d : ByteArray) (base : Int) (hs : s.size ≤ 1000000) (hd : ∀ c n : Int, 0 ≤ c ∧ c < 256 → n = Lib.indexByte d.data.toList c.toNat.toUInt8 → (n < 0 ↔ base ≤ val8 c)) : Ctr Tryd.prog 24 [] [.str (.sym s), .str (.sym d)] fun v H => (∃ i, (IsFirst s base i ∧ -1 ≤ i ∧ i < s.size) ∧ v = .int .i64 (.sym i)) ∧ H = [] := by
  obtain ⟨n, hn⟩ : ∃ n : Int, n = s.size := ⟨_, rfl⟩
  obtain ⟨uI, uB, uS, uL, uT, hu⟩ := words
  have hm := mixed
  have hT := tabOk
  have hC := @ib_ctr
  obtain ⟨P, hP⟩ : ∃ P, P = Tryd.prog := ⟨_, rfl⟩
  rw [← hP] at hm hT hC ⊢
  refine Ctr.weak (ctr_of_vc hu hm hT (hP ▸ Tryd.func24) rfl (by kernel_rfl) ?_)
  clear hP hm hT
  generalize hR : Weak _ _ = R
  conv => cbv
  repeat' (first | ((with_reducible intro (h : _ = _)); (try subst h); (try simp only [hu.b, hu.i, iB, iI, cmpB, Iv.val_sym, Iv.val_lit, Lv.raw, Tv.raw, decide_eq_true_eq, decide_eq_false_iff_not, beq_iff_eq, beq_eq_false_iff_ne, ne_eq, ofN, Int.toNat_zero, Int.toNat_one, Int.reduceToNat, natc, hu.s, iS, Sv.val_lit, Sv.val_sym, true_iff, false_iff, Bool.false_eq_true, bne_iff_ne, bne_eq_false_iff_eq, Bool.not_eq_true', Bool.not_eq_false', Decidable.not_not, nil_toList, ByteArray.size_empty, nilS, not_true_eq_false, not_false_eq_true, hu.l, iL, hu.t, iT, bin_add, bin_sub, bin_mul, wr_u8, wr_u16, wr_u32, wr_u64, IntKind.wrap_i64, List.length_append, List.length_cons, List.length_nil, List.nil_append, List.append_nil, List.cons_append, lvals, List.length_replicate, List.length_set, linV_val hu, Int.add_zero, Int.zero_add, Int.mul_one, Int.sub_zero, Int.zero_mul, Bool.true_eq_false, false_and, and_false, true_and, and_true, List.all_cons, List.all_nil, id_eq, Bool.and_true] at h) <;> (try simp only [Int.ofNat_eq_natCast] at h) <;> (first | (have hF0 : False := by omega; exact hF0.elim) | (conv => cbv))) | (with_reducible refine And.intro ?_ ?_) | (refine Gen0.mk ?_; (conv => cbv)) | (simp only [hu.b, hu.i, iB, iI, cmpB, Iv.val_sym, Iv.val_lit, Lv.raw, Tv.raw, decide_eq_true_eq, decide_eq_false_iff_not, beq_iff_eq, beq_eq_false_iff_ne, ne_eq, ofN, Int.toNat_zero, Int.toNat_one, Int.reduceToNat, natc, hu.s, iS, Sv.val_lit, Sv.val_sym, true_iff, false_iff, Bool.false_eq_true, bne_iff_ne, bne_eq_false_iff_eq, Bool.not_eq_true', Bool.not_eq_false', Decidable.not_not, nil_toList, ByteArray.size_empty, nilS, not_true_eq_false, not_false_eq_true, hu.l, iL, hu.t, iT, bin_add, bin_sub, bin_mul, wr_u8, wr_u16, wr_u32, wr_u64, IntKind.wrap_i64, List.length_append, List.length_cons, List.length_nil, List.nil_append, List.append_nil, List.cons_append, lvals, List.length_replicate, List.length_set, linV_val hu, Int.add_zero, Int.zero_add, Int.mul_one, Int.sub_zero, Int.zero_mul, Bool.true_eq_false, false_and, and_false, true_and, and_true, List.all_cons, List.all_nil, id_eq, Bool.and_true]; (try simp only [Int.ofNat_eq_natCast]); done) | ((try simp only [hu.b, hu.i, iB, iI, cmpB, Iv.val_sym, Iv.val_lit, Lv.raw, Tv.raw, decide_eq_true_eq, decide_eq_false_iff_not, beq_iff_eq, beq_eq_false_iff_ne, ne_eq, ofN, Int.toNat_zero, Int.toNat_one, Int.reduceToNat, natc, hu.s, iS, Sv.val_lit, Sv.val_sym, true_iff, false_iff, Bool.false_eq_true, bne_iff_ne, bne_eq_false_iff_eq, Bool.not_eq_true', Bool.not_eq_false', Decidable.not_not, nil_toList, ByteArray.size_empty, nilS, not_true_eq_false, not_false_eq_true, hu.l, iL, hu.t, iT, bin_add, bin_sub, bin_mul, wr_u8, wr_u16, wr_u32, wr_u64, IntKind.wrap_i64, List.length_append, List.length_cons, List.length_nil, List.nil_append, List.append_nil, List.cons_append, lvals, List.length_replicate, List.length_set, linV_val hu, Int.add_zero, Int.zero_add, Int.mul_one, Int.sub_zero, Int.zero_mul, Bool.true_eq_false, false_and, and_false, true_and, and_true, List.all_cons, List.all_nil, id_eq, Bool.and_true]) <;> (try simp only [Int.ofNat_eq_natCast]) <;> omega))
  refine .inv Int [8] (fun i => ([.int .i64 (.sym i)], [])) (fun i => 0 ≤ i ∧ i ≤ n ∧ ∀ k : Int, 0 ≤ k → k < i → val8 (byteAt s k) < base) (fun i => (n - i).toNat) 0 (by kernel_rfl) (fun g hg => by kernel_rfl) ?_ ?_
  · refine ⟨⟨by omega, by omega, fun k h0 h1 => by omega⟩, ?_, ?_⟩
    all_goals
      ((conv => cbv); repeat' (first | exact True.intro | with_reducible rfl | (with_reducible exact fun h => h) | (with_reducible refine And.intro ?_ ?_)))
  intro i hq
  have q0 := hq.1; have q1 := hq.2.1; have q2 := hq.2.2
  clear hq
  have hb := byteAt_bd s i
  conv => cbv
  repeat' (first | ((with_reducible intro (h : _ = _)); (try subst h); (try simp only [hu.b, hu.i, iB, iI, cmpB, Iv.val_sym, Iv.val_lit, Lv.raw, Tv.raw, decide_eq_true_eq, decide_eq_false_iff_not, beq_iff_eq, beq_eq_false_iff_ne, ne_eq, ofN, Int.toNat_zero, Int.toNat_one, Int.reduceToNat, natc, hu.s, iS, Sv.val_lit, Sv.val_sym, true_iff, false_iff, Bool.false_eq_true, bne_iff_ne, bne_eq_false_iff_eq, Bool.not_eq_true', Bool.not_eq_false', Decidable.not_not, nil_toList, ByteArray.size_empty, nilS, not_true_eq_false, not_false_eq_true, hu.l, iL, hu.t, iT, bin_add, bin_sub, bin_mul, wr_u8, wr_u16, wr_u32, wr_u64, IntKind.wrap_i64, List.length_append, List.length_cons, List.length_nil, List.nil_append, List.append_nil, List.cons_append, lvals, List.length_replicate, List.length_set, linV_val hu, Int.add_zero, Int.zero_add, Int.mul_one, Int.sub_zero, Int.zero_mul, Bool.true_eq_false, false_and, and_false, true_and, and_true, List.all_cons, List.all_nil, id_eq, Bool.and_true] at h) <;> (try simp only [Int.ofNat_eq_natCast] at h) <;> (first | (have hF0 : False := by omega; exact hF0.elim) | (conv => cbv))) | (with_reducible refine And.intro ?_ ?_) | (first | (refine CallDet.genR ?_ (fun x hx => hC _ _ x hx)) | (refine CallVC.genR ?_ (fun x hx => hC _ _ x hx))) | (refine Gen0.mk ?_; (conv => cbv)) | (refine Gen1.mk ?_; ((intro x hx) <;> (try simp only [hu.b, hu.i, iB, iI, cmpB, Iv.val_sym, Iv.val_lit, Lv.raw, Tv.raw, decide_eq_true_eq, decide_eq_false_iff_not, beq_iff_eq, beq_eq_false_iff_ne, ne_eq, ofN, Int.toNat_zero, Int.toNat_one, Int.reduceToNat, natc, hu.s, iS, Sv.val_lit, Sv.val_sym, true_iff, false_iff, Bool.false_eq_true, bne_iff_ne, bne_eq_false_iff_eq, Bool.not_eq_true', Bool.not_eq_false', Decidable.not_not, nil_toList, ByteArray.size_empty, nilS, not_true_eq_false, not_false_eq_true, hu.l, iL, hu.t, iT, bin_add, bin_sub, bin_mul, wr_u8, wr_u16, wr_u32, wr_u64, IntKind.wrap_i64, List.length_append, List.length_cons, List.length_nil, List.nil_append, List.append_nil, List.cons_append, lvals, List.length_replicate, List.length_set, linV_val hu, Int.add_zero, Int.zero_add, Int.mul_one, Int.sub_zero, Int.zero_mul, Bool.true_eq_false, false_and, and_false, true_and, and_true, List.all_cons, List.all_nil, id_eq, Bool.and_true] at hx) <;> (try simp only [Int.ofNat_eq_natCast] at hx) <;> (first | (have hF0 : False := by omega; exact hF0.elim) | (conv => cbv)))) | (simp only [hu.b, hu.i, iB, iI, cmpB, Iv.val_sym, Iv.val_lit, Lv.raw, Tv.raw, decide_eq_true_eq, decide_eq_false_iff_not, beq_iff_eq, beq_eq_false_iff_ne, ne_eq, ofN, Int.toNat_zero, Int.toNat_one, Int.reduceToNat, natc, hu.s, iS, Sv.val_lit, Sv.val_sym, true_iff, false_iff, Bool.false_eq_true, bne_iff_ne, bne_eq_false_iff_eq, Bool.not_eq_true', Bool.not_eq_false', Decidable.not_not, nil_toList, ByteArray.size_empty, nilS, not_true_eq_false, not_false_eq_true, hu.l, iL, hu.t, iT, bin_add, bin_sub, bin_mul, wr_u8, wr_u16, wr_u32, wr_u64, IntKind.wrap_i64, List.length_append, List.length_cons, List.length_nil, List.nil_append, List.append_nil, List.cons_append, lvals, List.length_replicate, List.length_set, linV_val hu, Int.add_zero, Int.zero_add, Int.mul_one, Int.sub_zero, Int.zero_mul, Bool.true_eq_false, false_and, and_false, true_and, and_true, List.all_cons, List.all_nil, id_eq, Bool.and_true]; (try simp only [Int.ofNat_eq_natCast]); done) | ((try simp only [hu.b, hu.i, iB, iI, cmpB, Iv.val_sym, Iv.val_lit, Lv.raw, Tv.raw, decide_eq_true_eq, decide_eq_false_iff_not, beq_iff_eq, beq_eq_false_iff_ne, ne_eq, ofN, Int.toNat_zero, Int.toNat_one, Int.reduceToNat, natc, hu.s, iS, Sv.val_lit, Sv.val_sym, true_iff, false_iff, Bool.false_eq_true, bne_iff_ne, bne_eq_false_iff_eq, Bool.not_eq_true', Bool.not_eq_false', Decidable.not_not, nil_toList, ByteArray.size_empty, nilS, not_true_eq_false, not_false_eq_true, hu.l, iL, hu.t, iT, bin_add, bin_sub, bin_mul, wr_u8, wr_u16, wr_u32, wr_u64, IntKind.wrap_i64, List.length_append, List.length_cons, List.length_nil, List.nil_append, List.append_nil, List.cons_append, lvals, List.length_replicate, List.length_set, linV_val hu, Int.add_zero, Int.zero_add, Int.mul_one, Int.sub_zero, Int.zero_mul, Bool.true_eq_false, false_and, and_false, true_and, and_true, List.all_cons, List.all_nil, id_eq, Bool.and_true]) <;> (try simp only [Int.ofNat_eq_natCast]) <;> omega))
  · have hF : IsFirst s base i := .inr ⟨q0, by assumption, (hd _ _ hb hx).1 (by assumption), q2⟩
    subst hR
    refine Weak.of (⟨⟨i, ⟨hF, by omega, by omega⟩, rfl⟩, rfl⟩) ?_ ?_ (by rfl)
    all_goals ((conv => cbv); repeat' (first | exact True.intro | with_reducible rfl | (with_reducible exact fun h => h) | (with_reducible refine And.intro ?_ ?_)))
  · obtain ⟨i', ei⟩ : ∃ y, y = i + 1 := ⟨_, rfl⟩
    have hnd := hd _ _ hb hx
    refine ⟨i', ⟨by omega, by omega, fun k h0 h1 => ?_⟩, by omega, ?_, ?_⟩
    · rcases Int.lt_or_le k i with h | h
      · exact q2 k h0 h
      · have e : k = i := by omega
        subst e; omega
    all_goals
      ((conv => cbv); repeat' (first | exact True.intro | with_reducible rfl | (with_reducible exact fun h => h) | (with_reducible refine And.intro ?_ ?_)))
    all_goals
      ((try simp only [hu.b, hu.i, iB, iI, cmpB, Iv.val_sym, Iv.val_lit, Lv.raw, Tv.raw, decide_eq_true_eq, decide_eq_false_iff_not, beq_iff_eq, beq_eq_false_iff_ne, ne_eq, ofN, Int.toNat_zero, Int.toNat_one, Int.reduceToNat, natc, hu.s, iS, Sv.val_lit, Sv.val_sym, true_iff, false_iff, Bool.false_eq_true, bne_iff_ne, bne_eq_false_iff_eq, Bool.not_eq_true', Bool.not_eq_false', Decidable.not_not, nil_toList, ByteArray.size_empty, nilS, not_true_eq_false, not_false_eq_true, hu.l, iL, hu.t, iT, bin_add, bin_sub, bin_mul, wr_u8, wr_u16, wr_u32, wr_u64, IntKind.wrap_i64, List.length_append, List.length_cons, List.length_nil, List.nil_append, List.append_nil, List.cons_append, lvals, List.length_replicate, List.length_set, linV_val hu, Int.add_zero, Int.zero_add, Int.mul_one, Int.sub_zero, Int.zero_mul, Bool.true_eq_false, false_and, and_false, true_and, and_true, List.all_cons, List.all_nil, id_eq, Bool.and_true]) <;> (try simp only [Int.ofNat_eq_natCast]) <;> (try omega))
  · have hF : IsFirst s base (-1) := .inl ⟨rfl, fun k h0 h1 => q2 k h0 (by omega)⟩
    subst hR
    refine Weak.of (⟨⟨-1, ⟨hF, by omega, by omega⟩, rfl⟩, rfl⟩) ?_ ?_ (by rfl)
    all_goals ((conv => cbv); repeat' (first | exact True.intro | with_reducible rfl | (with_reducible exact fun h => h) | (with_reducible refine And.intro ?_ ?_)))
theorem hd16 (c n : Int) (h : 0 ≤ c ∧ c < 256) (hn : n = Lib.indexByte dg16 c.toNat.toUInt8) : n < 0 ↔ 16 ≤ val8 c := by
  rw [hn, ix16_at h]
  have := val8_nn c
  split <;> omega
theorem hd10 (c n : Int) (h : 0 ≤ c ∧ c < 256) (hn : n = Lib.indexByte dg10 c.toNat.toUInt8) : n < 0 ↔ 10 ≤ val8 c := by
  rw [hn, ix10_at h]
  have := val8_nn c
  split <;> omega
theorem first16 (s : ByteArray) (hs : s.size ≤ 1000000) : Ctr Tryd.prog 24 [] [.str (.sym s), .str (.sym ⟨#[48, 49, 50, 51, 52, 53, 54, 55, 56, 57, 65, 66, 67, 68, 69, 70]⟩)] fun v H => (∃ i, (IsFirst s 16 i ∧ -1 ≤ i ∧ i < s.size) ∧ v = .int .i64 (.sym i)) ∧ H = [] := first_ctr s _ 16 hs fun c n h hn => hd16 c n h hn
theorem first10 (s : ByteArray) (hs : s.size ≤ 1000000) : Ctr Tryd.prog 24 [] [.str (.sym s), .str (.sym ⟨#[48, 49, 50, 51, 52, 53, 54, 55, 56, 57]⟩)] fun v H => (∃ i, (IsFirst s 10 i ∧ -1 ≤ i ∧ i < s.size) ∧ v = .int .i64 (.sym i)) ∧ H = [] := first_ctr s _ 10 hs fun c n h hn => hd10 c n h hn
theorem dgL_at {n : Int} (h0 : 0 ≤ n) (h1 : n < 16) : byteAt ⟨#[48, 49, 50, 51, 52, 53, 54, 55, 56, 57, 65, 66, 67, 68, 69, 70]⟩ n = dig n := dg_at h0 h1
/-- A byte as two digits. -/
theorem hex_ctr (xs : List Int) (n : Int) (hn : n = xs.length) (h9 : n ≤ 100000) (hB : Bytes xs) : Ctr Tryd.prog 16 [.cols .ro 5 [.ints .u8 (.sym xs)]] [.sl 0 (.lit 0) (.sym n)] fun v H => (∃ s, s = strL (hexL xs) ∧ v = .str (.sym s)) ∧ H = [.cols .ro 5 [.ints .u8 (.sym xs)]] := by
  have e0 : subL xs 0 n = xs := by rw [hn]; simp [subL]
  have z1 := (hi_at (hB.get 0)).1
  have z2 := (hi_at (hB.get 0)).2
  have zb := hB.get 0
  obtain ⟨uI, uB, uS, uL, uT, hu⟩ := words
  have hm := mixed
  have hT := tabOk
  have hW := @wb_nil
  have hW2 := @wb_row
  have hS1 := @Bld.st_nil
  have hS2 := @Bld.st_row
  obtain ⟨P, hP⟩ : ∃ P, P = Tryd.prog := ⟨_, rfl⟩
  rw [← hP] at hm hT hW hW2 hS1 hS2 ⊢
  refine Ctr.weak (ctr_of_vc hu hm hT (hP ▸ Tryd.func16) rfl (by kernel_rfl) ?_)
  clear hP hm hT
  generalize hR : Weak _ _ = R
  conv => cbv
  repeat' (first | ((with_reducible intro (h : _ = _)); (try subst h); (try simp only [hu.b, hu.i, iB, iI, cmpB, Iv.val_sym, Iv.val_lit, Lv.raw, Tv.raw, decide_eq_true_eq, decide_eq_false_iff_not, beq_iff_eq, beq_eq_false_iff_ne, ne_eq, ofN, Int.toNat_zero, Int.toNat_one, Int.reduceToNat, natc, hu.s, iS, Sv.val_lit, Sv.val_sym, true_iff, false_iff, Bool.false_eq_true, bne_iff_ne, bne_eq_false_iff_eq, Bool.not_eq_true', Bool.not_eq_false', Decidable.not_not, nil_toList, ByteArray.size_empty, nilS, not_true_eq_false, not_false_eq_true, hu.l, iL, hu.t, iT, bin_add, bin_sub, bin_mul, wr_u8, wr_u16, wr_u32, wr_u64, IntKind.wrap_i64, List.length_append, List.length_cons, List.length_nil, List.nil_append, List.append_nil, List.cons_append, lvals, List.length_replicate, List.length_set, linV_val hu, Int.add_zero, Int.zero_add, Int.mul_one, Int.sub_zero, Int.zero_mul, Bool.true_eq_false, false_and, and_false, true_and, and_true, List.all_cons, List.all_nil, id_eq, Bool.and_true] at h) <;> (try simp only [Int.ofNat_eq_natCast] at h) <;> (first | (have hF0 : False := by omega; exact hF0.elim) | (conv => cbv))) | (with_reducible refine And.intro ?_ ?_) | (refine Gen0.mk ?_; (conv => cbv)) | (simp only [hu.b, hu.i, iB, iI, cmpB, Iv.val_sym, Iv.val_lit, Lv.raw, Tv.raw, decide_eq_true_eq, decide_eq_false_iff_not, beq_iff_eq, beq_eq_false_iff_ne, ne_eq, ofN, Int.toNat_zero, Int.toNat_one, Int.reduceToNat, natc, hu.s, iS, Sv.val_lit, Sv.val_sym, true_iff, false_iff, Bool.false_eq_true, bne_iff_ne, bne_eq_false_iff_eq, Bool.not_eq_true', Bool.not_eq_false', Decidable.not_not, nil_toList, ByteArray.size_empty, nilS, not_true_eq_false, not_false_eq_true, hu.l, iL, hu.t, iT, bin_add, bin_sub, bin_mul, wr_u8, wr_u16, wr_u32, wr_u64, IntKind.wrap_i64, List.length_append, List.length_cons, List.length_nil, List.nil_append, List.append_nil, List.cons_append, lvals, List.length_replicate, List.length_set, linV_val hu, Int.add_zero, Int.zero_add, Int.mul_one, Int.sub_zero, Int.zero_mul, Bool.true_eq_false, false_and, and_false, true_and, and_true, List.all_cons, List.all_nil, id_eq, Bool.and_true]; (try simp only [Int.ofNat_eq_natCast]); done) | ((try simp only [hu.b, hu.i, iB, iI, cmpB, Iv.val_sym, Iv.val_lit, Lv.raw, Tv.raw, decide_eq_true_eq, decide_eq_false_iff_not, beq_iff_eq, beq_eq_false_iff_ne, ne_eq, ofN, Int.toNat_zero, Int.toNat_one, Int.reduceToNat, natc, hu.s, iS, Sv.val_lit, Sv.val_sym, true_iff, false_iff, Bool.false_eq_true, bne_iff_ne, bne_eq_false_iff_eq, Bool.not_eq_true', Bool.not_eq_false', Decidable.not_not, nil_toList, ByteArray.size_empty, nilS, not_true_eq_false, not_false_eq_true, hu.l, iL, hu.t, iT, bin_add, bin_sub, bin_mul, wr_u8, wr_u16, wr_u32, wr_u64, IntKind.wrap_i64, List.length_append, List.length_cons, List.length_nil, List.nil_append, List.append_nil, List.cons_append, lvals, List.length_replicate, List.length_set, linV_val hu, Int.add_zero, Int.zero_add, Int.mul_one, Int.sub_zero, Int.zero_mul, Bool.true_eq_false, false_and, and_false, true_and, and_true, List.all_cons, List.all_nil, id_eq, Bool.and_true]) <;> (try simp only [Int.ofNat_eq_natCast]) <;> omega))
  refine .invr (Option (Int × Int × List Int)) [8] (fun g => match g with
    | none => ([.int .i64 (.lit 0)], [.cols .ro 5 [.ints .u8 (.sym xs)], .cells 56 [.nilp, .nilsl]])
    | some (i, m, ys) => ([.int .i64 (.sym i)], [.cols .ro 5 [.ints .u8 (.sym xs)], .cells 56 [.ptr 1 ⟨.lit 0, 1, 0⟩, .vec 2 (.sym m)], .cols (.row 1) 5 [.ints .u8 (.sym ys)]])) (fun g => match g with
    | none => True
    | some (i, m, ys) => 0 < i ∧ i ≤ n ∧ m = 2 * i ∧ (ys.length : Int) = m ∧ ys = hexL (xs.take i.toNat)) (fun g => match g with
    | none => n.toNat
    | some (i, m, ys) => (n - i).toNat) none (by kernel_rfl) (fun g hg => by rcases g with _ | ⟨i, m, ys⟩ <;> kernel_rfl) ?_ ?_
  · refine ⟨trivial, ?_, ?_⟩
    all_goals
      ((conv => cbv); repeat' (first | exact True.intro | with_reducible rfl | (with_reducible exact fun h => h) | (with_reducible refine And.intro ?_ ?_)))
  intro g
  rcases g with _ | ⟨i, m, ys⟩
  · intro hq
    clear hq
    dsimp only
    conv => cbv
    repeat' (first | ((with_reducible intro (h : _ = _)); (try subst h); (try simp only [hu.b, hu.i, iB, iI, cmpB, Iv.val_sym, Iv.val_lit, Lv.raw, Tv.raw, decide_eq_true_eq, decide_eq_false_iff_not, beq_iff_eq, beq_eq_false_iff_ne, ne_eq, ofN, Int.toNat_zero, Int.toNat_one, Int.reduceToNat, natc, hu.s, iS, Sv.val_lit, Sv.val_sym, true_iff, false_iff, Bool.false_eq_true, bne_iff_ne, bne_eq_false_iff_eq, Bool.not_eq_true', Bool.not_eq_false', Decidable.not_not, nil_toList, ByteArray.size_empty, nilS, not_true_eq_false, not_false_eq_true, hu.l, iL, hu.t, iT, bin_add, bin_sub, bin_mul, wr_u8, wr_u16, wr_u32, wr_u64, IntKind.wrap_i64, List.length_append, List.length_cons, List.length_nil, List.nil_append, List.append_nil, List.cons_append, lvals, List.length_replicate, List.length_set, linV_val hu, Int.add_zero, Int.zero_add, Int.mul_one, Int.sub_zero, Int.zero_mul, Bool.true_eq_false, false_and, and_false, true_and, and_true, List.all_cons, List.all_nil, id_eq, Bool.and_true, z1, z2, e0] at h) <;> (try simp only [Int.ofNat_eq_natCast] at h) <;> (first | (have hF0 : False := by omega; exact hF0.elim) | (conv => cbv))) | (with_reducible refine And.intro ?_ ?_) | (first | (refine CallDet.genR ?_ (fun ys hys => hW _ ys hys)) | (refine CallVC.genR ?_ (fun ys hys => hW _ ys hys))) | (first | (refine CallDet.genR2 ?_ (fun m1 zs hm1 hzs => hW2 _ _ m1 _ zs ?_ ?_ hm1 hzs)) | (refine CallVC.genR2 ?_ (fun m1 zs hm1 hzs => hW2 _ _ m1 _ zs ?_ ?_ hm1 hzs))) | (first | (refine CallDet.mkR ?_ (hS1)) | (refine CallVC.mkR ?_ (hS1))) | ((try simp only [hu.b, hu.i, iB, iI, cmpB, Iv.val_sym, Iv.val_lit, Lv.raw, Tv.raw, decide_eq_true_eq, decide_eq_false_iff_not, beq_iff_eq, beq_eq_false_iff_ne, ne_eq, ofN, Int.toNat_zero, Int.toNat_one, Int.reduceToNat, natc, hu.s, iS, Sv.val_lit, Sv.val_sym, true_iff, false_iff, Bool.false_eq_true, bne_iff_ne, bne_eq_false_iff_eq, Bool.not_eq_true', Bool.not_eq_false', Decidable.not_not, nil_toList, ByteArray.size_empty, nilS, not_true_eq_false, not_false_eq_true, hu.l, iL, hu.t, iT, bin_add, bin_sub, bin_mul, wr_u8, wr_u16, wr_u32, wr_u64, IntKind.wrap_i64, List.length_append, List.length_cons, List.length_nil, List.nil_append, List.append_nil, List.cons_append, lvals, List.length_replicate, List.length_set, linV_val hu, Int.add_zero, Int.zero_add, Int.mul_one, Int.sub_zero, Int.zero_mul, Bool.true_eq_false, false_and, and_false, true_and, and_true, List.all_cons, List.all_nil, id_eq, Bool.and_true, z1, z2, e0]) <;> (try simp only [Int.ofNat_eq_natCast]) <;> (subst_vars; simp only [List.length_append, List.length_cons, List.length_nil]; omega)) | (refine Gen0.mk ?_; (conv => cbv)) | (refine Gen1.mk ?_; ((intro ys hys) <;> (try simp only [hu.b, hu.i, iB, iI, cmpB, Iv.val_sym, Iv.val_lit, Lv.raw, Tv.raw, decide_eq_true_eq, decide_eq_false_iff_not, beq_iff_eq, beq_eq_false_iff_ne, ne_eq, ofN, Int.toNat_zero, Int.toNat_one, Int.reduceToNat, natc, hu.s, iS, Sv.val_lit, Sv.val_sym, true_iff, false_iff, Bool.false_eq_true, bne_iff_ne, bne_eq_false_iff_eq, Bool.not_eq_true', Bool.not_eq_false', Decidable.not_not, nil_toList, ByteArray.size_empty, nilS, not_true_eq_false, not_false_eq_true, hu.l, iL, hu.t, iT, bin_add, bin_sub, bin_mul, wr_u8, wr_u16, wr_u32, wr_u64, IntKind.wrap_i64, List.length_append, List.length_cons, List.length_nil, List.nil_append, List.append_nil, List.cons_append, lvals, List.length_replicate, List.length_set, linV_val hu, Int.add_zero, Int.zero_add, Int.mul_one, Int.sub_zero, Int.zero_mul, Bool.true_eq_false, false_and, and_false, true_and, and_true, List.all_cons, List.all_nil, id_eq, Bool.and_true, z1, z2, e0] at hys) <;> (try simp only [Int.ofNat_eq_natCast] at hys) <;> (first | (have hF0 : False := by omega; exact hF0.elim) | (conv => cbv)))) | (refine Gen2.mk ?_; ((intro m1 zs hm1 hzs) <;> (try simp only [hu.b, hu.i, iB, iI, cmpB, Iv.val_sym, Iv.val_lit, Lv.raw, Tv.raw, decide_eq_true_eq, decide_eq_false_iff_not, beq_iff_eq, beq_eq_false_iff_ne, ne_eq, ofN, Int.toNat_zero, Int.toNat_one, Int.reduceToNat, natc, hu.s, iS, Sv.val_lit, Sv.val_sym, true_iff, false_iff, Bool.false_eq_true, bne_iff_ne, bne_eq_false_iff_eq, Bool.not_eq_true', Bool.not_eq_false', Decidable.not_not, nil_toList, ByteArray.size_empty, nilS, not_true_eq_false, not_false_eq_true, hu.l, iL, hu.t, iT, bin_add, bin_sub, bin_mul, wr_u8, wr_u16, wr_u32, wr_u64, IntKind.wrap_i64, List.length_append, List.length_cons, List.length_nil, List.nil_append, List.append_nil, List.cons_append, lvals, List.length_replicate, List.length_set, linV_val hu, Int.add_zero, Int.zero_add, Int.mul_one, Int.sub_zero, Int.zero_mul, Bool.true_eq_false, false_and, and_false, true_and, and_true, List.all_cons, List.all_nil, id_eq, Bool.and_true, z1, z2, e0] at hm1) <;> (try simp only [Int.ofNat_eq_natCast] at hm1) <;> (try simp only [hu.b, hu.i, iB, iI, cmpB, Iv.val_sym, Iv.val_lit, Lv.raw, Tv.raw, decide_eq_true_eq, decide_eq_false_iff_not, beq_iff_eq, beq_eq_false_iff_ne, ne_eq, ofN, Int.toNat_zero, Int.toNat_one, Int.reduceToNat, natc, hu.s, iS, Sv.val_lit, Sv.val_sym, true_iff, false_iff, Bool.false_eq_true, bne_iff_ne, bne_eq_false_iff_eq, Bool.not_eq_true', Bool.not_eq_false', Decidable.not_not, nil_toList, ByteArray.size_empty, nilS, not_true_eq_false, not_false_eq_true, hu.l, iL, hu.t, iT, bin_add, bin_sub, bin_mul, wr_u8, wr_u16, wr_u32, wr_u64, IntKind.wrap_i64, List.length_append, List.length_cons, List.length_nil, List.nil_append, List.append_nil, List.cons_append, lvals, List.length_replicate, List.length_set, linV_val hu, Int.add_zero, Int.zero_add, Int.mul_one, Int.sub_zero, Int.zero_mul, Bool.true_eq_false, false_and, and_false, true_and, and_true, List.all_cons, List.all_nil, id_eq, Bool.and_true, z1, z2, e0] at hzs) <;> (try simp only [Int.ofNat_eq_natCast] at hzs) <;> (first | (have hF0 : False := by omega; exact hF0.elim) | (conv => cbv)))) | (simp only [hu.b, hu.i, iB, iI, cmpB, Iv.val_sym, Iv.val_lit, Lv.raw, Tv.raw, decide_eq_true_eq, decide_eq_false_iff_not, beq_iff_eq, beq_eq_false_iff_ne, ne_eq, ofN, Int.toNat_zero, Int.toNat_one, Int.reduceToNat, natc, hu.s, iS, Sv.val_lit, Sv.val_sym, true_iff, false_iff, Bool.false_eq_true, bne_iff_ne, bne_eq_false_iff_eq, Bool.not_eq_true', Bool.not_eq_false', Decidable.not_not, nil_toList, ByteArray.size_empty, nilS, not_true_eq_false, not_false_eq_true, hu.l, iL, hu.t, iT, bin_add, bin_sub, bin_mul, wr_u8, wr_u16, wr_u32, wr_u64, IntKind.wrap_i64, List.length_append, List.length_cons, List.length_nil, List.nil_append, List.append_nil, List.cons_append, lvals, List.length_replicate, List.length_set, linV_val hu, Int.add_zero, Int.zero_add, Int.mul_one, Int.sub_zero, Int.zero_mul, Bool.true_eq_false, false_and, and_false, true_and, and_true, List.all_cons, List.all_nil, id_eq, Bool.and_true, z1, z2, e0]; (try simp only [Int.ofNat_eq_natCast]); done) | ((try simp only [hu.b, hu.i, iB, iI, cmpB, Iv.val_sym, Iv.val_lit, Lv.raw, Tv.raw, decide_eq_true_eq, decide_eq_false_iff_not, beq_iff_eq, beq_eq_false_iff_ne, ne_eq, ofN, Int.toNat_zero, Int.toNat_one, Int.reduceToNat, natc, hu.s, iS, Sv.val_lit, Sv.val_sym, true_iff, false_iff, Bool.false_eq_true, bne_iff_ne, bne_eq_false_iff_eq, Bool.not_eq_true', Bool.not_eq_false', Decidable.not_not, nil_toList, ByteArray.size_empty, nilS, not_true_eq_false, not_false_eq_true, hu.l, iL, hu.t, iT, bin_add, bin_sub, bin_mul, wr_u8, wr_u16, wr_u32, wr_u64, IntKind.wrap_i64, List.length_append, List.length_cons, List.length_nil, List.nil_append, List.append_nil, List.cons_append, lvals, List.length_replicate, List.length_set, linV_val hu, Int.add_zero, Int.zero_add, Int.mul_one, Int.sub_zero, Int.zero_mul, Bool.true_eq_false, false_and, and_false, true_and, and_true, List.all_cons, List.all_nil, id_eq, Bool.and_true, z1, z2, e0]) <;> (try simp only [Int.ofNat_eq_natCast]) <;> omega))
    · have hz : zs = hexL (xs.take (1 : Int).toNat) := by
        rw [hzs, hys, dgL_at (by omega) (by omega), dgL_at (by omega) (by omega), show (1 : Int).toNat = 0 + 1 from rfl, hex_next (by omega)]; rfl
      refine ⟨some (1, m1, zs), ⟨by decide, by omega, hm1, by rw [hzs, hys, hm1]; rfl, hz⟩, by dsimp only; omega, [0, 1, 3], by kernel_rfl, by kernel_rfl, ?_, ?_⟩
      all_goals
        ((conv => cbv); repeat' (first | exact True.intro | with_reducible rfl | (with_reducible exact fun h => h) | (with_reducible refine And.intro ?_ ?_)))
      all_goals
        ((try simp only [hu.b, hu.i, iB, iI, cmpB, Iv.val_sym, Iv.val_lit, Lv.raw, Tv.raw, decide_eq_true_eq, decide_eq_false_iff_not, beq_iff_eq, beq_eq_false_iff_ne, ne_eq, ofN, Int.toNat_zero, Int.toNat_one, Int.reduceToNat, natc, hu.s, iS, Sv.val_lit, Sv.val_sym, true_iff, false_iff, Bool.false_eq_true, bne_iff_ne, bne_eq_false_iff_eq, Bool.not_eq_true', Bool.not_eq_false', Decidable.not_not, nil_toList, ByteArray.size_empty, nilS, not_true_eq_false, not_false_eq_true, hu.l, iL, hu.t, iT, bin_add, bin_sub, bin_mul, wr_u8, wr_u16, wr_u32, wr_u64, IntKind.wrap_i64, List.length_append, List.length_cons, List.length_nil, List.nil_append, List.append_nil, List.cons_append, lvals, List.length_replicate, List.length_set, linV_val hu, Int.add_zero, Int.zero_add, Int.mul_one, Int.sub_zero, Int.zero_mul, Bool.true_eq_false, false_and, and_false, true_and, and_true, List.all_cons, List.all_nil, id_eq, Bool.and_true]) <;> (try simp only [Int.ofNat_eq_natCast]) <;> (try omega))
    · have hx0 : xs = [] := List.length_eq_zero_iff.1 (by omega)
      have hs0 : (⟨#[]⟩ : ByteArray) = strL (hexL xs) := by rw [hx0]; rfl
      subst hR
      refine Weak.of (⟨⟨⟨#[]⟩, hs0, rfl⟩, rfl⟩) ?_ ?_ (by rfl)
      all_goals ((conv => cbv); repeat' (first | exact True.intro | with_reducible rfl | (with_reducible exact fun h => h) | (with_reducible refine And.intro ?_ ?_)))
  · intro hq
    dsimp only at hq ⊢
    have q0 := hq.1; have q1 := hq.2.1; have q2 := hq.2.2.1; have q3 := hq.2.2.2.1; have q4 := hq.2.2.2.2
    clear hq
    have e1 := (hi_at (hB.get i.toNat)).1
    have e2 := (hi_at (hB.get i.toNat)).2
    have hb := hB.get i.toNat
    conv => cbv
    repeat' (first | ((with_reducible intro (h : _ = _)); (try subst h); (try simp only [hu.b, hu.i, iB, iI, cmpB, Iv.val_sym, Iv.val_lit, Lv.raw, Tv.raw, decide_eq_true_eq, decide_eq_false_iff_not, beq_iff_eq, beq_eq_false_iff_ne, ne_eq, ofN, Int.toNat_zero, Int.toNat_one, Int.reduceToNat, natc, hu.s, iS, Sv.val_lit, Sv.val_sym, true_iff, false_iff, Bool.false_eq_true, bne_iff_ne, bne_eq_false_iff_eq, Bool.not_eq_true', Bool.not_eq_false', Decidable.not_not, nil_toList, ByteArray.size_empty, nilS, not_true_eq_false, not_false_eq_true, hu.l, iL, hu.t, iT, bin_add, bin_sub, bin_mul, wr_u8, wr_u16, wr_u32, wr_u64, IntKind.wrap_i64, List.length_append, List.length_cons, List.length_nil, List.nil_append, List.append_nil, List.cons_append, lvals, List.length_replicate, List.length_set, linV_val hu, Int.add_zero, Int.zero_add, Int.mul_one, Int.sub_zero, Int.zero_mul, Bool.true_eq_false, false_and, and_false, true_and, and_true, List.all_cons, List.all_nil, id_eq, Bool.and_true, e1, e2, e0] at h) <;> (try simp only [Int.ofNat_eq_natCast] at h) <;> (first | (have hF0 : False := by omega; exact hF0.elim) | (conv => cbv))) | (with_reducible refine And.intro ?_ ?_) | (first | (refine CallDet.genR2 ?_ (fun m1 zs hm1 hzs => hW2 _ _ m1 _ zs ?_ ?_ hm1 hzs)) | (refine CallVC.genR2 ?_ (fun m1 zs hm1 hzs => hW2 _ _ m1 _ zs ?_ ?_ hm1 hzs))) | (first | (refine CallDet.genR ?_ (fun t ht => hS2 _ _ t ?_ ?_ ?_ ht)) | (refine CallVC.genR ?_ (fun t ht => hS2 _ _ t ?_ ?_ ?_ ht))) | ((try simp only [hu.b, hu.i, iB, iI, cmpB, Iv.val_sym, Iv.val_lit, Lv.raw, Tv.raw, decide_eq_true_eq, decide_eq_false_iff_not, beq_iff_eq, beq_eq_false_iff_ne, ne_eq, ofN, Int.toNat_zero, Int.toNat_one, Int.reduceToNat, natc, hu.s, iS, Sv.val_lit, Sv.val_sym, true_iff, false_iff, Bool.false_eq_true, bne_iff_ne, bne_eq_false_iff_eq, Bool.not_eq_true', Bool.not_eq_false', Decidable.not_not, nil_toList, ByteArray.size_empty, nilS, not_true_eq_false, not_false_eq_true, hu.l, iL, hu.t, iT, bin_add, bin_sub, bin_mul, wr_u8, wr_u16, wr_u32, wr_u64, IntKind.wrap_i64, List.length_append, List.length_cons, List.length_nil, List.nil_append, List.append_nil, List.cons_append, lvals, List.length_replicate, List.length_set, linV_val hu, Int.add_zero, Int.zero_add, Int.mul_one, Int.sub_zero, Int.zero_mul, Bool.true_eq_false, false_and, and_false, true_and, and_true, List.all_cons, List.all_nil, id_eq, Bool.and_true, e1, e2, e0]) <;> (try simp only [Int.ofNat_eq_natCast]) <;> (subst_vars; simp only [List.length_append, List.length_cons, List.length_nil]; omega)) | ((try simp only [hu.b, hu.i, iB, iI, cmpB, Iv.val_sym, Iv.val_lit, Lv.raw, Tv.raw, decide_eq_true_eq, decide_eq_false_iff_not, beq_iff_eq, beq_eq_false_iff_ne, ne_eq, ofN, Int.toNat_zero, Int.toNat_one, Int.reduceToNat, natc, hu.s, iS, Sv.val_lit, Sv.val_sym, true_iff, false_iff, Bool.false_eq_true, bne_iff_ne, bne_eq_false_iff_eq, Bool.not_eq_true', Bool.not_eq_false', Decidable.not_not, nil_toList, ByteArray.size_empty, nilS, not_true_eq_false, not_false_eq_true, hu.l, iL, hu.t, iT, bin_add, bin_sub, bin_mul, wr_u8, wr_u16, wr_u32, wr_u64, IntKind.wrap_i64, List.length_append, List.length_cons, List.length_nil, List.nil_append, List.append_nil, List.cons_append, lvals, List.length_replicate, List.length_set, linV_val hu, Int.add_zero, Int.zero_add, Int.mul_one, Int.sub_zero, Int.zero_mul, Bool.true_eq_false, false_and, and_false, true_and, and_true, List.all_cons, List.all_nil, id_eq, Bool.and_true, e1, e2, e0]) <;> (try simp only [Int.ofNat_eq_natCast]) <;> (rw [q4]; exact hexL_bytes fun y hy => hB y (List.mem_of_mem_take hy))) | (refine Gen0.mk ?_; (conv => cbv)) | (refine Gen2.mk ?_; ((intro m1 zs hm1 hzs) <;> (try simp only [hu.b, hu.i, iB, iI, cmpB, Iv.val_sym, Iv.val_lit, Lv.raw, Tv.raw, decide_eq_true_eq, decide_eq_false_iff_not, beq_iff_eq, beq_eq_false_iff_ne, ne_eq, ofN, Int.toNat_zero, Int.toNat_one, Int.reduceToNat, natc, hu.s, iS, Sv.val_lit, Sv.val_sym, true_iff, false_iff, Bool.false_eq_true, bne_iff_ne, bne_eq_false_iff_eq, Bool.not_eq_true', Bool.not_eq_false', Decidable.not_not, nil_toList, ByteArray.size_empty, nilS, not_true_eq_false, not_false_eq_true, hu.l, iL, hu.t, iT, bin_add, bin_sub, bin_mul, wr_u8, wr_u16, wr_u32, wr_u64, IntKind.wrap_i64, List.length_append, List.length_cons, List.length_nil, List.nil_append, List.append_nil, List.cons_append, lvals, List.length_replicate, List.length_set, linV_val hu, Int.add_zero, Int.zero_add, Int.mul_one, Int.sub_zero, Int.zero_mul, Bool.true_eq_false, false_and, and_false, true_and, and_true, List.all_cons, List.all_nil, id_eq, Bool.and_true, e1, e2, e0] at hm1) <;> (try simp only [Int.ofNat_eq_natCast] at hm1) <;> (try simp only [hu.b, hu.i, iB, iI, cmpB, Iv.val_sym, Iv.val_lit, Lv.raw, Tv.raw, decide_eq_true_eq, decide_eq_false_iff_not, beq_iff_eq, beq_eq_false_iff_ne, ne_eq, ofN, Int.toNat_zero, Int.toNat_one, Int.reduceToNat, natc, hu.s, iS, Sv.val_lit, Sv.val_sym, true_iff, false_iff, Bool.false_eq_true, bne_iff_ne, bne_eq_false_iff_eq, Bool.not_eq_true', Bool.not_eq_false', Decidable.not_not, nil_toList, ByteArray.size_empty, nilS, not_true_eq_false, not_false_eq_true, hu.l, iL, hu.t, iT, bin_add, bin_sub, bin_mul, wr_u8, wr_u16, wr_u32, wr_u64, IntKind.wrap_i64, List.length_append, List.length_cons, List.length_nil, List.nil_append, List.append_nil, List.cons_append, lvals, List.length_replicate, List.length_set, linV_val hu, Int.add_zero, Int.zero_add, Int.mul_one, Int.sub_zero, Int.zero_mul, Bool.true_eq_false, false_and, and_false, true_and, and_true, List.all_cons, List.all_nil, id_eq, Bool.and_true, e1, e2, e0] at hzs) <;> (try simp only [Int.ofNat_eq_natCast] at hzs) <;> (first | (have hF0 : False := by omega; exact hF0.elim) | (conv => cbv)))) | (refine Gen1.mk ?_; ((intro t ht) <;> (try simp only [hu.b, hu.i, iB, iI, cmpB, Iv.val_sym, Iv.val_lit, Lv.raw, Tv.raw, decide_eq_true_eq, decide_eq_false_iff_not, beq_iff_eq, beq_eq_false_iff_ne, ne_eq, ofN, Int.toNat_zero, Int.toNat_one, Int.reduceToNat, natc, hu.s, iS, Sv.val_lit, Sv.val_sym, true_iff, false_iff, Bool.false_eq_true, bne_iff_ne, bne_eq_false_iff_eq, Bool.not_eq_true', Bool.not_eq_false', Decidable.not_not, nil_toList, ByteArray.size_empty, nilS, not_true_eq_false, not_false_eq_true, hu.l, iL, hu.t, iT, bin_add, bin_sub, bin_mul, wr_u8, wr_u16, wr_u32, wr_u64, IntKind.wrap_i64, List.length_append, List.length_cons, List.length_nil, List.nil_append, List.append_nil, List.cons_append, lvals, List.length_replicate, List.length_set, linV_val hu, Int.add_zero, Int.zero_add, Int.mul_one, Int.sub_zero, Int.zero_mul, Bool.true_eq_false, false_and, and_false, true_and, and_true, List.all_cons, List.all_nil, id_eq, Bool.and_true, e1, e2, e0] at ht) <;> (try simp only [Int.ofNat_eq_natCast] at ht) <;> (first | (have hF0 : False := by omega; exact hF0.elim) | (conv => cbv)))) | (simp only [hu.b, hu.i, iB, iI, cmpB, Iv.val_sym, Iv.val_lit, Lv.raw, Tv.raw, decide_eq_true_eq, decide_eq_false_iff_not, beq_iff_eq, beq_eq_false_iff_ne, ne_eq, ofN, Int.toNat_zero, Int.toNat_one, Int.reduceToNat, natc, hu.s, iS, Sv.val_lit, Sv.val_sym, true_iff, false_iff, Bool.false_eq_true, bne_iff_ne, bne_eq_false_iff_eq, Bool.not_eq_true', Bool.not_eq_false', Decidable.not_not, nil_toList, ByteArray.size_empty, nilS, not_true_eq_false, not_false_eq_true, hu.l, iL, hu.t, iT, bin_add, bin_sub, bin_mul, wr_u8, wr_u16, wr_u32, wr_u64, IntKind.wrap_i64, List.length_append, List.length_cons, List.length_nil, List.nil_append, List.append_nil, List.cons_append, lvals, List.length_replicate, List.length_set, linV_val hu, Int.add_zero, Int.zero_add, Int.mul_one, Int.sub_zero, Int.zero_mul, Bool.true_eq_false, false_and, and_false, true_and, and_true, List.all_cons, List.all_nil, id_eq, Bool.and_true, e1, e2, e0]; (try simp only [Int.ofNat_eq_natCast]); done) | ((try simp only [hu.b, hu.i, iB, iI, cmpB, Iv.val_sym, Iv.val_lit, Lv.raw, Tv.raw, decide_eq_true_eq, decide_eq_false_iff_not, beq_iff_eq, beq_eq_false_iff_ne, ne_eq, ofN, Int.toNat_zero, Int.toNat_one, Int.reduceToNat, natc, hu.s, iS, Sv.val_lit, Sv.val_sym, true_iff, false_iff, Bool.false_eq_true, bne_iff_ne, bne_eq_false_iff_eq, Bool.not_eq_true', Bool.not_eq_false', Decidable.not_not, nil_toList, ByteArray.size_empty, nilS, not_true_eq_false, not_false_eq_true, hu.l, iL, hu.t, iT, bin_add, bin_sub, bin_mul, wr_u8, wr_u16, wr_u32, wr_u64, IntKind.wrap_i64, List.length_append, List.length_cons, List.length_nil, List.nil_append, List.append_nil, List.cons_append, lvals, List.length_replicate, List.length_set, linV_val hu, Int.add_zero, Int.zero_add, Int.mul_one, Int.sub_zero, Int.zero_mul, Bool.true_eq_false, false_and, and_false, true_and, and_true, List.all_cons, List.all_nil, id_eq, Bool.and_true, e1, e2, e0]) <;> (try simp only [Int.ofNat_eq_natCast]) <;> omega))
    · rename_i m0 z0 hm0 hz0
      obtain ⟨i', ei⟩ : ∃ x, x = i + 1 := ⟨_, rfl⟩
      have hz : zs = hexL (xs.take i'.toNat) := by
        rw [hzs, hz0, dgL_at (by omega) (by omega), dgL_at (by omega) (by omega), show i'.toNat = i.toNat + 1 by omega, hex_next (by omega), q4, List.append_assoc]; rfl
      have hl : (zs.length : Int) = m1 := by rw [hzs, hz0, hm1, hm0, List.length_append, List.length_append, ← q3]; simp [Int.add_assoc]
      refine ⟨some (i', m1, zs), ⟨by omega, by omega, by omega, hl, hz⟩, by dsimp only; omega, [0, 1, 4], by kernel_rfl, by kernel_rfl, ?_, ?_⟩
      all_goals
        ((conv => cbv); repeat' (first | exact True.intro | with_reducible rfl | (with_reducible exact fun h => h) | (with_reducible refine And.intro ?_ ?_)))
      all_goals
        ((try simp only [hu.b, hu.i, iB, iI, cmpB, Iv.val_sym, Iv.val_lit, Lv.raw, Tv.raw, decide_eq_true_eq, decide_eq_false_iff_not, beq_iff_eq, beq_eq_false_iff_ne, ne_eq, ofN, Int.toNat_zero, Int.toNat_one, Int.reduceToNat, natc, hu.s, iS, Sv.val_lit, Sv.val_sym, true_iff, false_iff, Bool.false_eq_true, bne_iff_ne, bne_eq_false_iff_eq, Bool.not_eq_true', Bool.not_eq_false', Decidable.not_not, nil_toList, ByteArray.size_empty, nilS, not_true_eq_false, not_false_eq_true, hu.l, iL, hu.t, iT, bin_add, bin_sub, bin_mul, wr_u8, wr_u16, wr_u32, wr_u64, IntKind.wrap_i64, List.length_append, List.length_cons, List.length_nil, List.nil_append, List.append_nil, List.cons_append, lvals, List.length_replicate, List.length_set, linV_val hu, Int.add_zero, Int.zero_add, Int.mul_one, Int.sub_zero, Int.zero_mul, Bool.true_eq_false, false_and, and_false, true_and, and_true, List.all_cons, List.all_nil, id_eq, Bool.and_true]) <;> (try simp only [Int.ofNat_eq_natCast]) <;> (try omega))
    · have hs0 : t = strL (hexL xs) := by rw [ht, q4, List.take_of_length_le (by omega)]
      subst hR
      refine Weak.of (⟨⟨t, hs0, rfl⟩, rfl⟩) ?_ ?_ (by rfl)
      all_goals ((conv => cbv); repeat' (first | exact True.intro | with_reducible rfl | (with_reducible exact fun h => h) | (with_reducible refine And.intro ?_ ?_)))
theorem wrong_ctr (i : Int) : Ctr Tryd.prog 25 [] [.int .i64 (.sym i)] fun v H => v = .iface 50 (.ptr 0 ⟨.lit 0, 1, 0⟩) ∧ H = [.cells 53 [.int .i64 (.sym i), .iface 47 (.int .i64 (.sym 16))]] := by
  obtain ⟨uI, uB, uS, uL, uT, hu⟩ := words
  have hm := mixed
  have hT := tabOk
  obtain ⟨P, hP⟩ : ∃ P, P = Tryd.prog := ⟨_, rfl⟩
  rw [← hP] at hm hT ⊢
  refine Ctr.weak (ctr_of_vc hu hm hT (hP ▸ Tryd.func25) rfl (by kernel_rfl) ?_)
  clear hP hm hT
  generalize hR : Weak _ _ = R
  conv => cbv
  repeat' (first | ((with_reducible intro (h : _ = _)); (try subst h); (try simp only [hu.b, hu.i, iB, iI, cmpB, Iv.val_sym, Iv.val_lit, Lv.raw, Tv.raw, decide_eq_true_eq, decide_eq_false_iff_not, beq_iff_eq, beq_eq_false_iff_ne, ne_eq, ofN, Int.toNat_zero, Int.toNat_one, Int.reduceToNat, natc, hu.s, iS, Sv.val_lit, Sv.val_sym, true_iff, false_iff, Bool.false_eq_true, bne_iff_ne, bne_eq_false_iff_eq, Bool.not_eq_true', Bool.not_eq_false', Decidable.not_not, nil_toList, ByteArray.size_empty, nilS, not_true_eq_false, not_false_eq_true, hu.l, iL, hu.t, iT, bin_add, bin_sub, bin_mul, wr_u8, wr_u16, wr_u32, wr_u64, IntKind.wrap_i64, List.length_append, List.length_cons, List.length_nil, List.nil_append, List.append_nil, List.cons_append, lvals, List.length_replicate, List.length_set, linV_val hu, Int.add_zero, Int.zero_add, Int.mul_one, Int.sub_zero, Int.zero_mul, Bool.true_eq_false, false_and, and_false, true_and, and_true, List.all_cons, List.all_nil, id_eq, Bool.and_true] at h) <;> (try simp only [Int.ofNat_eq_natCast] at h) <;> (first | (have hF0 : False := by omega; exact hF0.elim) | (conv => cbv))) | (with_reducible refine And.intro ?_ ?_) | (refine Gen0.mk ?_; (conv => cbv)) | (simp only [hu.b, hu.i, iB, iI, cmpB, Iv.val_sym, Iv.val_lit, Lv.raw, Tv.raw, decide_eq_true_eq, decide_eq_false_iff_not, beq_iff_eq, beq_eq_false_iff_ne, ne_eq, ofN, Int.toNat_zero, Int.toNat_one, Int.reduceToNat, natc, hu.s, iS, Sv.val_lit, Sv.val_sym, true_iff, false_iff, Bool.false_eq_true, bne_iff_ne, bne_eq_false_iff_eq, Bool.not_eq_true', Bool.not_eq_false', Decidable.not_not, nil_toList, ByteArray.size_empty, nilS, not_true_eq_false, not_false_eq_true, hu.l, iL, hu.t, iT, bin_add, bin_sub, bin_mul, wr_u8, wr_u16, wr_u32, wr_u64, IntKind.wrap_i64, List.length_append, List.length_cons, List.length_nil, List.nil_append, List.append_nil, List.cons_append, lvals, List.length_replicate, List.length_set, linV_val hu, Int.add_zero, Int.zero_add, Int.mul_one, Int.sub_zero, Int.zero_mul, Bool.true_eq_false, false_and, and_false, true_and, and_true, List.all_cons, List.all_nil, id_eq, Bool.and_true]; (try simp only [Int.ofNat_eq_natCast]); done) | ((try simp only [hu.b, hu.i, iB, iI, cmpB, Iv.val_sym, Iv.val_lit, Lv.raw, Tv.raw, decide_eq_true_eq, decide_eq_false_iff_not, beq_iff_eq, beq_eq_false_iff_ne, ne_eq, ofN, Int.toNat_zero, Int.toNat_one, Int.reduceToNat, natc, hu.s, iS, Sv.val_lit, Sv.val_sym, true_iff, false_iff, Bool.false_eq_true, bne_iff_ne, bne_eq_false_iff_eq, Bool.not_eq_true', Bool.not_eq_false', Decidable.not_not, nil_toList, ByteArray.size_empty, nilS, not_true_eq_false, not_false_eq_true, hu.l, iL, hu.t, iT, bin_add, bin_sub, bin_mul, wr_u8, wr_u16, wr_u32, wr_u64, IntKind.wrap_i64, List.length_append, List.length_cons, List.length_nil, List.nil_append, List.append_nil, List.cons_append, lvals, List.length_replicate, List.length_set, linV_val hu, Int.add_zero, Int.zero_add, Int.mul_one, Int.sub_zero, Int.zero_mul, Bool.true_eq_false, false_and, and_false, true_and, and_true, List.all_cons, List.all_nil, id_eq, Bool.and_true]) <;> (try simp only [Int.ofNat_eq_natCast]) <;> omega))
  subst hR
  refine Weak.of (⟨rfl, rfl⟩) ?_ ?_ (by rfl)
  all_goals ((conv => cbv); repeat' (first | exact True.intro | with_reducible rfl | (with_reducible exact fun h => h) | (with_reducible refine And.intro ?_ ?_)))
theorem unhex_ctr (s : ByteArray) (hs : s.size ≤ 1000000) : Ctr Tryd.prog 15 [] [.str (.sym s)] fun v H =>
    (∃ i, (IsFirst s 16 i ∧ 0 ≤ i) ∧ v = .tup [.nilsl, .iface 50 (.ptr 0 ⟨.lit 0, 1, 0⟩)] ∧ H = [.cells 53 [.int .i64 (.sym i), .iface 47 (.int .i64 (.sym 16))]]) ∨
    ((IsFirst s 16 (-1) ∧ (s.size : Int) % 2 = 1) ∧ v = .tup [.nilsl, .iface 47 (.int .i64 (.sym 2))] ∧ H = []) ∨
    (∃ m ys, (IsFirst s 16 (-1) ∧ (s.size : Int) = 2 * m ∧ (ys.length : Int) = m ∧ ys = unhexL s m.toNat) ∧ v = .tup [.vec 0 (.sym m), .nilif] ∧ H = [.cols (.row 1) 5 [.ints .u8 (.sym ys)]]) := by
  obtain ⟨n, hn⟩ : ∃ n : Int, n = s.size := ⟨_, rfl⟩
  have n0 : 0 ≤ n := by omega
  have e0 : binI .rem .i64 (s.size : Int) 2 = n % 2 := by rw [← hn]; exact rem_nn n0
  obtain ⟨uI, uB, uS, uL, uT, hu⟩ := words
  have hm := mixed
  have hT := tabOk
  have hF16 := @first16
  have hI := @ib_ctr
  have hWr := @wrong_ctr
  obtain ⟨P, hP⟩ : ∃ P, P = Tryd.prog := ⟨_, rfl⟩
  rw [← hP] at hm hT hF16 hI hWr ⊢
  refine Ctr.weak (ctr_of_vc hu hm hT (hP ▸ Tryd.func15) rfl (by kernel_rfl) ?_)
  clear hP hm hT
  generalize hR : Weak _ _ = R
  conv => cbv
  repeat' (first | ((with_reducible intro (h : _ = _)); (try subst h); (try simp only [hu.b, hu.i, iB, iI, cmpB, Iv.val_sym, Iv.val_lit, Lv.raw, Tv.raw, decide_eq_true_eq, decide_eq_false_iff_not, beq_iff_eq, beq_eq_false_iff_ne, ne_eq, ofN, Int.toNat_zero, Int.toNat_one, Int.reduceToNat, natc, hu.s, iS, Sv.val_lit, Sv.val_sym, true_iff, false_iff, Bool.false_eq_true, bne_iff_ne, bne_eq_false_iff_eq, Bool.not_eq_true', Bool.not_eq_false', Decidable.not_not, nil_toList, ByteArray.size_empty, nilS, not_true_eq_false, not_false_eq_true, hu.l, iL, hu.t, iT, bin_add, bin_sub, bin_mul, wr_u8, wr_u16, wr_u32, wr_u64, IntKind.wrap_i64, List.length_append, List.length_cons, List.length_nil, List.nil_append, List.append_nil, List.cons_append, lvals, List.length_replicate, List.length_set, linV_val hu, Int.add_zero, Int.zero_add, Int.mul_one, Int.sub_zero, Int.zero_mul, Bool.true_eq_false, false_and, and_false, true_and, and_true, List.all_cons, List.all_nil, id_eq, Bool.and_true, e0] at h) <;> (try simp only [Int.ofNat_eq_natCast] at h) <;> (first | (have hF0 : False := by omega; exact hF0.elim) | (conv => cbv))) | (with_reducible refine And.intro ?_ ?_) | (refine CallVC.mk (Ctr.monoR ?_ (hF16 _ ?_)); ((rintro v H ⟨⟨i, ⟨hf, hf1, hf2⟩, rfl⟩, rfl⟩) <;> (try simp only [hu.b, hu.i, iB, iI, cmpB, Iv.val_sym, Iv.val_lit, Lv.raw, Tv.raw, decide_eq_true_eq, decide_eq_false_iff_not, beq_iff_eq, beq_eq_false_iff_ne, ne_eq, ofN, Int.toNat_zero, Int.toNat_one, Int.reduceToNat, natc, hu.s, iS, Sv.val_lit, Sv.val_sym, true_iff, false_iff, Bool.false_eq_true, bne_iff_ne, bne_eq_false_iff_eq, Bool.not_eq_true', Bool.not_eq_false', Decidable.not_not, nil_toList, ByteArray.size_empty, nilS, not_true_eq_false, not_false_eq_true, hu.l, iL, hu.t, iT, bin_add, bin_sub, bin_mul, wr_u8, wr_u16, wr_u32, wr_u64, IntKind.wrap_i64, List.length_append, List.length_cons, List.length_nil, List.nil_append, List.append_nil, List.cons_append, lvals, List.length_replicate, List.length_set, linV_val hu, Int.add_zero, Int.zero_add, Int.mul_one, Int.sub_zero, Int.zero_mul, Bool.true_eq_false, false_and, and_false, true_and, and_true, List.all_cons, List.all_nil, id_eq, Bool.and_true, e0] at hf) <;> (try simp only [Int.ofNat_eq_natCast] at hf) <;> (try simp only [hu.b, hu.i, iB, iI, cmpB, Iv.val_sym, Iv.val_lit, Lv.raw, Tv.raw, decide_eq_true_eq, decide_eq_false_iff_not, beq_iff_eq, beq_eq_false_iff_ne, ne_eq, ofN, Int.toNat_zero, Int.toNat_one, Int.reduceToNat, natc, hu.s, iS, Sv.val_lit, Sv.val_sym, true_iff, false_iff, Bool.false_eq_true, bne_iff_ne, bne_eq_false_iff_eq, Bool.not_eq_true', Bool.not_eq_false', Decidable.not_not, nil_toList, ByteArray.size_empty, nilS, not_true_eq_false, not_false_eq_true, hu.l, iL, hu.t, iT, bin_add, bin_sub, bin_mul, wr_u8, wr_u16, wr_u32, wr_u64, IntKind.wrap_i64, List.length_append, List.length_cons, List.length_nil, List.nil_append, List.append_nil, List.cons_append, lvals, List.length_replicate, List.length_set, linV_val hu, Int.add_zero, Int.zero_add, Int.mul_one, Int.sub_zero, Int.zero_mul, Bool.true_eq_false, false_and, and_false, true_and, and_true, List.all_cons, List.all_nil, id_eq, Bool.and_true, e0] at hf1) <;> (try simp only [Int.ofNat_eq_natCast] at hf1) <;> (try simp only [hu.b, hu.i, iB, iI, cmpB, Iv.val_sym, Iv.val_lit, Lv.raw, Tv.raw, decide_eq_true_eq, decide_eq_false_iff_not, beq_iff_eq, beq_eq_false_iff_ne, ne_eq, ofN, Int.toNat_zero, Int.toNat_one, Int.reduceToNat, natc, hu.s, iS, Sv.val_lit, Sv.val_sym, true_iff, false_iff, Bool.false_eq_true, bne_iff_ne, bne_eq_false_iff_eq, Bool.not_eq_true', Bool.not_eq_false', Decidable.not_not, nil_toList, ByteArray.size_empty, nilS, not_true_eq_false, not_false_eq_true, hu.l, iL, hu.t, iT, bin_add, bin_sub, bin_mul, wr_u8, wr_u16, wr_u32, wr_u64, IntKind.wrap_i64, List.length_append, List.length_cons, List.length_nil, List.nil_append, List.append_nil, List.cons_append, lvals, List.length_replicate, List.length_set, linV_val hu, Int.add_zero, Int.zero_add, Int.mul_one, Int.sub_zero, Int.zero_mul, Bool.true_eq_false, false_and, and_false, true_and, and_true, List.all_cons, List.all_nil, id_eq, Bool.and_true, e0] at hf2) <;> (try simp only [Int.ofNat_eq_natCast] at hf2) <;> (first | (have hF0 : False := by omega; exact hF0.elim) | (conv => cbv)))) | (refine CallVC.mk (Ctr.monoR ?_ (hWr _)); ((rintro v H ⟨rfl, rfl⟩) <;> (conv => cbv))) | (refine Gen0.mk ?_; (conv => cbv)) | (simp only [hu.b, hu.i, iB, iI, cmpB, Iv.val_sym, Iv.val_lit, Lv.raw, Tv.raw, decide_eq_true_eq, decide_eq_false_iff_not, beq_iff_eq, beq_eq_false_iff_ne, ne_eq, ofN, Int.toNat_zero, Int.toNat_one, Int.reduceToNat, natc, hu.s, iS, Sv.val_lit, Sv.val_sym, true_iff, false_iff, Bool.false_eq_true, bne_iff_ne, bne_eq_false_iff_eq, Bool.not_eq_true', Bool.not_eq_false', Decidable.not_not, nil_toList, ByteArray.size_empty, nilS, not_true_eq_false, not_false_eq_true, hu.l, iL, hu.t, iT, bin_add, bin_sub, bin_mul, wr_u8, wr_u16, wr_u32, wr_u64, IntKind.wrap_i64, List.length_append, List.length_cons, List.length_nil, List.nil_append, List.append_nil, List.cons_append, lvals, List.length_replicate, List.length_set, linV_val hu, Int.add_zero, Int.zero_add, Int.mul_one, Int.sub_zero, Int.zero_mul, Bool.true_eq_false, false_and, and_false, true_and, and_true, List.all_cons, List.all_nil, id_eq, Bool.and_true, e0]; (try simp only [Int.ofNat_eq_natCast]); done) | ((try simp only [hu.b, hu.i, iB, iI, cmpB, Iv.val_sym, Iv.val_lit, Lv.raw, Tv.raw, decide_eq_true_eq, decide_eq_false_iff_not, beq_iff_eq, beq_eq_false_iff_ne, ne_eq, ofN, Int.toNat_zero, Int.toNat_one, Int.reduceToNat, natc, hu.s, iS, Sv.val_lit, Sv.val_sym, true_iff, false_iff, Bool.false_eq_true, bne_iff_ne, bne_eq_false_iff_eq, Bool.not_eq_true', Bool.not_eq_false', Decidable.not_not, nil_toList, ByteArray.size_empty, nilS, not_true_eq_false, not_false_eq_true, hu.l, iL, hu.t, iT, bin_add, bin_sub, bin_mul, wr_u8, wr_u16, wr_u32, wr_u64, IntKind.wrap_i64, List.length_append, List.length_cons, List.length_nil, List.nil_append, List.append_nil, List.cons_append, lvals, List.length_replicate, List.length_set, linV_val hu, Int.add_zero, Int.zero_add, Int.mul_one, Int.sub_zero, Int.zero_mul, Bool.true_eq_false, false_and, and_false, true_and, and_true, List.all_cons, List.all_nil, id_eq, Bool.and_true, e0]) <;> (try simp only [Int.ofNat_eq_natCast]) <;> omega))
  · subst hR
    refine Weak.of ((.inl ⟨i, ⟨hf, by omega⟩, rfl, rfl⟩)) ?_ ?_ (by rfl)
    all_goals ((conv => cbv); repeat' (first | exact True.intro | with_reducible rfl | (with_reducible exact fun h => h) | (with_reducible refine And.intro ?_ ?_)))
  · have hi : i = -1 := by omega
    subst hi
    subst hR
    refine Weak.of ((.inr (.inl ⟨⟨hf, by omega⟩, rfl, rfl⟩))) ?_ ?_ (by rfl)
    all_goals ((conv => cbv); repeat' (first | exact True.intro | with_reducible rfl | (with_reducible exact fun h => h) | (with_reducible refine And.intro ?_ ?_)))
  have hi : i = -1 := by omega
  have hall := hf.all (by omega)
  refine .nilrow 5 5 .u8 (by kernel_rfl) rfl ?_
  refine .invr (Int × Int × List Int) [5, 6] (fun g => ([.vec 0 (.sym g.2.1), .int .i64 (.sym g.1)], [.cols (.row 1) 5 [.ints .u8 (.sym g.2.2)]])) (fun g => 0 ≤ g.2.1 ∧ g.1 = 2 * g.2.1 ∧ g.1 ≤ n ∧ (g.2.2.length : Int) = g.2.1 ∧ g.2.2 = unhexL s g.2.1.toNat) (fun g => (n - g.1).toNat) (0, 0, []) (by kernel_rfl) (fun g hg => by kernel_rfl) ?_ ?_
  · refine ⟨⟨by dsimp only; omega, by dsimp only; omega, by dsimp only; omega, rfl, rfl⟩, ?_, ?_⟩
    all_goals
      ((conv => cbv); repeat' (first | exact True.intro | with_reducible rfl | (with_reducible exact fun h => h) | (with_reducible refine And.intro ?_ ?_)))
  rintro ⟨k, m, ys⟩ hq
  simp only [] at hq
  have q0 := hq.1; have q1 := hq.2.1; have q2 := hq.2.2.1; have q3 := hq.2.2.2.1; have q4 := hq.2.2.2.2
  clear hq
  have e1 : (k + 1 + 9223372036854775808) % 18446744073709551616 - 9223372036854775808 = k + 1 := by omega
  conv => cbv
  repeat' (first | ((with_reducible intro (h : _ = _)); (try subst h); (try simp only [hu.b, hu.i, iB, iI, cmpB, Iv.val_sym, Iv.val_lit, Lv.raw, Tv.raw, decide_eq_true_eq, decide_eq_false_iff_not, beq_iff_eq, beq_eq_false_iff_ne, ne_eq, ofN, Int.toNat_zero, Int.toNat_one, Int.reduceToNat, natc, hu.s, iS, Sv.val_lit, Sv.val_sym, true_iff, false_iff, Bool.false_eq_true, bne_iff_ne, bne_eq_false_iff_eq, Bool.not_eq_true', Bool.not_eq_false', Decidable.not_not, nil_toList, ByteArray.size_empty, nilS, not_true_eq_false, not_false_eq_true, hu.l, iL, hu.t, iT, bin_add, bin_sub, bin_mul, wr_u8, wr_u16, wr_u32, wr_u64, IntKind.wrap_i64, List.length_append, List.length_cons, List.length_nil, List.nil_append, List.append_nil, List.cons_append, lvals, List.length_replicate, List.length_set, linV_val hu, Int.add_zero, Int.zero_add, Int.mul_one, Int.sub_zero, Int.zero_mul, Bool.true_eq_false, false_and, and_false, true_and, and_true, List.all_cons, List.all_nil, id_eq, Bool.and_true, e1] at h) <;> (try simp only [Int.ofNat_eq_natCast] at h) <;> (first | (have hF0 : False := by omega; exact hF0.elim) | (conv => cbv))) | (with_reducible refine And.intro ?_ ?_) | (first | (refine CallDet.genR ?_ (fun x hx => hI _ _ x hx)) | (refine CallVC.genR ?_ (fun x hx => hI _ _ x hx))) | (refine Gen0.mk ?_; (conv => cbv)) | (refine Gen1.mk ?_; ((intro x hx) <;> (try simp only [hu.b, hu.i, iB, iI, cmpB, Iv.val_sym, Iv.val_lit, Lv.raw, Tv.raw, decide_eq_true_eq, decide_eq_false_iff_not, beq_iff_eq, beq_eq_false_iff_ne, ne_eq, ofN, Int.toNat_zero, Int.toNat_one, Int.reduceToNat, natc, hu.s, iS, Sv.val_lit, Sv.val_sym, true_iff, false_iff, Bool.false_eq_true, bne_iff_ne, bne_eq_false_iff_eq, Bool.not_eq_true', Bool.not_eq_false', Decidable.not_not, nil_toList, ByteArray.size_empty, nilS, not_true_eq_false, not_false_eq_true, hu.l, iL, hu.t, iT, bin_add, bin_sub, bin_mul, wr_u8, wr_u16, wr_u32, wr_u64, IntKind.wrap_i64, List.length_append, List.length_cons, List.length_nil, List.nil_append, List.append_nil, List.cons_append, lvals, List.length_replicate, List.length_set, linV_val hu, Int.add_zero, Int.zero_add, Int.mul_one, Int.sub_zero, Int.zero_mul, Bool.true_eq_false, false_and, and_false, true_and, and_true, List.all_cons, List.all_nil, id_eq, Bool.and_true, e1] at hx) <;> (try simp only [Int.ofNat_eq_natCast] at hx) <;> (first | (have hF0 : False := by omega; exact hF0.elim) | (conv => cbv)))) | (simp only [hu.b, hu.i, iB, iI, cmpB, Iv.val_sym, Iv.val_lit, Lv.raw, Tv.raw, decide_eq_true_eq, decide_eq_false_iff_not, beq_iff_eq, beq_eq_false_iff_ne, ne_eq, ofN, Int.toNat_zero, Int.toNat_one, Int.reduceToNat, natc, hu.s, iS, Sv.val_lit, Sv.val_sym, true_iff, false_iff, Bool.false_eq_true, bne_iff_ne, bne_eq_false_iff_eq, Bool.not_eq_true', Bool.not_eq_false', Decidable.not_not, nil_toList, ByteArray.size_empty, nilS, not_true_eq_false, not_false_eq_true, hu.l, iL, hu.t, iT, bin_add, bin_sub, bin_mul, wr_u8, wr_u16, wr_u32, wr_u64, IntKind.wrap_i64, List.length_append, List.length_cons, List.length_nil, List.nil_append, List.append_nil, List.cons_append, lvals, List.length_replicate, List.length_set, linV_val hu, Int.add_zero, Int.zero_add, Int.mul_one, Int.sub_zero, Int.zero_mul, Bool.true_eq_false, false_and, and_false, true_and, and_true, List.all_cons, List.all_nil, id_eq, Bool.and_true, e1]; (try simp only [Int.ofNat_eq_natCast]); done) | ((try simp only [hu.b, hu.i, iB, iI, cmpB, Iv.val_sym, Iv.val_lit, Lv.raw, Tv.raw, decide_eq_true_eq, decide_eq_false_iff_not, beq_iff_eq, beq_eq_false_iff_ne, ne_eq, ofN, Int.toNat_zero, Int.toNat_one, Int.reduceToNat, natc, hu.s, iS, Sv.val_lit, Sv.val_sym, true_iff, false_iff, Bool.false_eq_true, bne_iff_ne, bne_eq_false_iff_eq, Bool.not_eq_true', Bool.not_eq_false', Decidable.not_not, nil_toList, ByteArray.size_empty, nilS, not_true_eq_false, not_false_eq_true, hu.l, iL, hu.t, iT, bin_add, bin_sub, bin_mul, wr_u8, wr_u16, wr_u32, wr_u64, IntKind.wrap_i64, List.length_append, List.length_cons, List.length_nil, List.nil_append, List.append_nil, List.cons_append, lvals, List.length_replicate, List.length_set, linV_val hu, Int.add_zero, Int.zero_add, Int.mul_one, Int.sub_zero, Int.zero_mul, Bool.true_eq_false, false_and, and_false, true_and, and_true, List.all_cons, List.all_nil, id_eq, Bool.and_true, e1]) <;> (try simp only [Int.ofNat_eq_natCast]) <;> omega))
  · rename_i x0 h0
    have hlt : k < s.size := by assumption
    have v0 := hall k (by omega) hlt
    have v1 := hall (k + 1) (by omega) (by omega)
    have p0 := val8_nn (byteAt s k)
    have p1 := val8_nn (byteAt s (k + 1))
    have hx0 : x0 = val8 (byteAt s k) := h0.trans ((ix16_at (byteAt_bd s k)).trans (if_pos v0))
    have hx1 : x = val8 (byteAt s (k + 1)) := hx.trans ((ix16_at (byteAt_bd s (k + 1))).trans (if_pos v1))
    have hor := or_at (a := x0) (b := x) (by omega) (by omega)
    obtain ⟨k', ek⟩ : ∃ y, y = k + 2 := ⟨_, rfl⟩
    obtain ⟨m', em⟩ : ∃ y, y = m + 1 := ⟨_, rfl⟩
    obtain ⟨zs, ez⟩ : ∃ y, y = unhexL s m'.toNat := ⟨_, rfl⟩
    have hnx : zs = ys ++ [(16 * x0 + x) % 256] := by
      rw [ez, show m'.toNat = m.toNat + 1 by omega, unhexL_next, ← q4, unF, show (2 * ((m.toNat : Nat) : Int)) = k by omega, ← hx0, ← hx1]
    have hl : (zs.length : Int) = m' := by rw [ez, unhexL_length]; omega
    refine ⟨(k', m', zs), ⟨by dsimp only; omega, by dsimp only; omega, by dsimp only; omega, hl, ez⟩, by dsimp only; omega, [2], by kernel_rfl, by kernel_rfl, ?_, ?_⟩
    all_goals
      ((conv => cbv); repeat' (first | exact True.intro | with_reducible rfl | (with_reducible exact fun h => h) | (with_reducible refine And.intro ?_ ?_)))
    all_goals
      ((try simp only [hu.b, hu.i, iB, iI, cmpB, Iv.val_sym, Iv.val_lit, Lv.raw, Tv.raw, decide_eq_true_eq, decide_eq_false_iff_not, beq_iff_eq, beq_eq_false_iff_ne, ne_eq, ofN, Int.toNat_zero, Int.toNat_one, Int.reduceToNat, natc, hu.s, iS, Sv.val_lit, Sv.val_sym, true_iff, false_iff, Bool.false_eq_true, bne_iff_ne, bne_eq_false_iff_eq, Bool.not_eq_true', Bool.not_eq_false', Decidable.not_not, nil_toList, ByteArray.size_empty, nilS, not_true_eq_false, not_false_eq_true, hu.l, iL, hu.t, iT, bin_add, bin_sub, bin_mul, wr_u8, wr_u16, wr_u32, wr_u64, IntKind.wrap_i64, List.length_append, List.length_cons, List.length_nil, List.nil_append, List.append_nil, List.cons_append, lvals, List.length_replicate, List.length_set, linV_val hu, Int.add_zero, Int.zero_add, Int.mul_one, Int.sub_zero, Int.zero_mul, Bool.true_eq_false, false_and, and_false, true_and, and_true, List.all_cons, List.all_nil, id_eq, Bool.and_true, hor]) <;> (try simp only [Int.ofNat_eq_natCast]) <;> (try omega))
    all_goals exact hnx.symm
  · subst hR
    refine Weak.of ((.inr (.inr ⟨m, ys, ⟨hi ▸ hf, by omega, q3, q4⟩, rfl, rfl⟩))) ?_ ?_ (by rfl)
    all_goals ((conv => cbv); repeat' (first | exact True.intro | with_reducible rfl | (with_reducible exact fun h => h) | (with_reducible refine And.intro ?_ ?_)))
end Go.Proofs.YtbadogbkbhopcaaDoor
