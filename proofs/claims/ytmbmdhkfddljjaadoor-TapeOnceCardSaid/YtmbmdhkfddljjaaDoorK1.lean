import Derived.Test.YtmbmdhkfddljjaaDoorSx3
import Derived.KernelRfl
import Derived.Test.YtmbmdhkfddljjaaDoorProg
import Derived.WalkKit
import Derived.LaidEql
import Derived.Stop.Asserts
import Derived.RowKitTokens
import Derived.Outline
import Derived.Below
import Derived.Lib.Hide
set_option linter.all false
set_option linter.unusedSectionVars false
namespace Go.Proofs.YtmbmdhkfddljjaaDoor
open Go Sx
set_option maxRecDepth 100000
def tab : TypeId → Option TyI
  | 2 => some ⟨.int .i64, 1, 8, [.int .i64 0], [], []⟩
  | 3 => some ⟨.int .i64, 1, 8, [.int .i64 0], [], []⟩
  | 4 => some ⟨.bool, 1, 1, [.bool false], [], []⟩
  | 5 => some ⟨.int .u8, 1, 1, [.int .u8 0], [], []⟩
  | 9 => some ⟨.str, 1, 16, [.string ⟨#[]⟩], [], []⟩
  | 12 => some ⟨.int .u64, 1, 8, [.int .u64 0], [], []⟩
  | 13 => some ⟨.struct [(0, 9), (1, 12)], 2, 24, [.string ⟨#[]⟩, .int .u64 0], [], []⟩
  | 20 => some ⟨.iface, 1, 16, [.nilIface], [], []⟩
  | 21 => some ⟨.int .i32, 1, 4, [.int .i32 0], [], []⟩
  | 22 => some ⟨.slice 5, 1, 24, [.slice none 0 0], [], []⟩
  | 23 => some ⟨.slice 3, 1, 24, [.slice none 0 0], [], []⟩
  | 25 => some ⟨.ptr 45, 1, 8, [.pointer none], [], []⟩
  | 26 => some ⟨.iface, 1, 16, [.nilIface], [], []⟩
  | 27 => some ⟨.iface, 1, 16, [.nilIface], [], []⟩
  | 39 => some ⟨.int .u16, 1, 2, [.int .u16 0], [], []⟩
  | 42 => some ⟨.int .i64, 1, 8, [.int .i64 0], [], []⟩
  | 44 => some ⟨.struct [(0, 22)], 1, 24, [.slice none 0 0], [], []⟩
  | 45 => some ⟨.struct [(0, 22)], 1, 24, [.slice none 0 0], [], []⟩
  | 48 => some ⟨.ptr 42, 1, 8, [.pointer none], [], []⟩
  | 49 => some ⟨.ptr 52, 1, 8, [.pointer none], [], []⟩
  | 50 => some ⟨.ptr 49, 1, 8, [.pointer none], [], []⟩
  | 51 => some ⟨.struct [(0, 3), (1, 27)], 2, 24, [.int .i64 0, .nilIface], [], []⟩
  | 52 => some ⟨.struct [(0, 3), (1, 27)], 2, 24, [.int .i64 0, .nilIface], [], []⟩
  | 71 => some ⟨.iface, 1, 16, [.nilIface], [], []⟩
  | 74 => some ⟨.iface, 1, 16, [.nilIface], [], []⟩
  | 75 => some ⟨.iface, 1, 16, [.nilIface], [], []⟩
  | 76 => some ⟨.slice 27, 1, 24, [.slice none 0 0], [], []⟩
  | 85 => some ⟨.int .u32, 1, 4, [.int .u32 0], [], []⟩
  | 88 => some ⟨.ptr 5, 1, 8, [.pointer none], [], []⟩
  | 105 => some ⟨.ptr 27, 1, 8, [.pointer none], [], []⟩
  | _ => none
theorem ty2 : TyOk Tryd.prog 2 ⟨.int .i64, 1, 8, [.int .i64 0], [], []⟩ :=
  TyOk.mk' (by kernel_rfl) (by kernel_rfl) (by kernel_rfl) ((by kernel_rfl : Tryd.prog.underlying 2 = _)) (fun h => absurd rfl h)
theorem ty3 : TyOk Tryd.prog 3 ⟨.int .i64, 1, 8, [.int .i64 0], [], []⟩ :=
  TyOk.mk' (by kernel_rfl) (by kernel_rfl) (by kernel_rfl) ((by kernel_rfl : Tryd.prog.underlying 3 = _)) (fun h => absurd rfl h)
theorem ty4 : TyOk Tryd.prog 4 ⟨.bool, 1, 1, [.bool false], [], []⟩ :=
  TyOk.mk' (by kernel_rfl) (by kernel_rfl) (by kernel_rfl) ((by kernel_rfl : Tryd.prog.underlying 4 = _)) (fun h => absurd rfl h)
theorem ty5 : TyOk Tryd.prog 5 ⟨.int .u8, 1, 1, [.int .u8 0], [], []⟩ :=
  TyOk.mk' (by kernel_rfl) (by kernel_rfl) (by kernel_rfl) ((by kernel_rfl : Tryd.prog.underlying 5 = _)) (fun h => absurd rfl h)
theorem ty9 : TyOk Tryd.prog 9 ⟨.str, 1, 16, [.string ⟨#[]⟩], [], []⟩ :=
  TyOk.mk' (by kernel_rfl) (by kernel_rfl) (by kernel_rfl) ((by kernel_rfl : Tryd.prog.underlying 9 = _)) (fun h => absurd rfl h)
theorem ty12 : TyOk Tryd.prog 12 ⟨.int .u64, 1, 8, [.int .u64 0], [], []⟩ :=
  TyOk.mk' (by kernel_rfl) (by kernel_rfl) (by kernel_rfl) ((by kernel_rfl : Tryd.prog.underlying 12 = _)) (fun h => absurd rfl h)
theorem ty13 : TyOk Tryd.prog 13 ⟨.struct [(0, 9), (1, 12)], 2, 24, [.string ⟨#[]⟩, .int .u64 0], [], []⟩ :=
  TyOk.mk' (by kernel_rfl) (by kernel_rfl) (by kernel_rfl) (⟨Tryd.prog.fieldsOf 13, by kernel_rfl, by kernel_rfl⟩) (fun h => absurd rfl h)
theorem ty20 : TyOk Tryd.prog 20 ⟨.iface, 1, 16, [.nilIface], [], []⟩ :=
  TyOk.mk' (by kernel_rfl) (by kernel_rfl) (by kernel_rfl) (DOk.iface_of (by kernel_rfl)) (fun h => absurd rfl h)
theorem ty21 : TyOk Tryd.prog 21 ⟨.int .i32, 1, 4, [.int .i32 0], [], []⟩ :=
  TyOk.mk' (by kernel_rfl) (by kernel_rfl) (by kernel_rfl) ((by kernel_rfl : Tryd.prog.underlying 21 = _)) (fun h => absurd rfl h)
theorem ty22 : TyOk Tryd.prog 22 ⟨.slice 5, 1, 24, [.slice none 0 0], [], []⟩ :=
  TyOk.mk' (by kernel_rfl) (by kernel_rfl) (by kernel_rfl) ((by kernel_rfl : Tryd.prog.underlying 22 = _)) (fun h => absurd rfl h)
theorem ty23 : TyOk Tryd.prog 23 ⟨.slice 3, 1, 24, [.slice none 0 0], [], []⟩ :=
  TyOk.mk' (by kernel_rfl) (by kernel_rfl) (by kernel_rfl) ((by kernel_rfl : Tryd.prog.underlying 23 = _)) (fun h => absurd rfl h)
theorem ty25 : TyOk Tryd.prog 25 ⟨.ptr 45, 1, 8, [.pointer none], [], []⟩ :=
  TyOk.mk' (by kernel_rfl) (by kernel_rfl) (by kernel_rfl) ((by kernel_rfl : Tryd.prog.underlying 25 = _)) (fun h => absurd rfl h)
theorem ty26 : TyOk Tryd.prog 26 ⟨.iface, 1, 16, [.nilIface], [], []⟩ :=
  TyOk.mk' (by kernel_rfl) (by kernel_rfl) (by kernel_rfl) (DOk.iface_of (by kernel_rfl)) (fun h => absurd rfl h)
theorem ty27 : TyOk Tryd.prog 27 ⟨.iface, 1, 16, [.nilIface], [], []⟩ :=
  TyOk.mk' (by kernel_rfl) (by kernel_rfl) (by kernel_rfl) (DOk.iface_of (by kernel_rfl)) (fun h => absurd rfl h)
theorem ty39 : TyOk Tryd.prog 39 ⟨.int .u16, 1, 2, [.int .u16 0], [], []⟩ :=
  TyOk.mk' (by kernel_rfl) (by kernel_rfl) (by kernel_rfl) ((by kernel_rfl : Tryd.prog.underlying 39 = _)) (fun h => absurd rfl h)
theorem ty42 : TyOk Tryd.prog 42 ⟨.int .i64, 1, 8, [.int .i64 0], [], []⟩ :=
  TyOk.mk' (by kernel_rfl) (by kernel_rfl) (by kernel_rfl) ((by kernel_rfl : Tryd.prog.underlying 42 = _)) (fun h => absurd rfl h)
theorem ty44 : TyOk Tryd.prog 44 ⟨.struct [(0, 22)], 1, 24, [.slice none 0 0], [], []⟩ :=
  TyOk.mk' (by kernel_rfl) (by kernel_rfl) (by kernel_rfl) (⟨Tryd.prog.fieldsOf 44, by kernel_rfl, by kernel_rfl⟩) (fun h => absurd rfl h)
theorem ty45 : TyOk Tryd.prog 45 ⟨.struct [(0, 22)], 1, 24, [.slice none 0 0], [], []⟩ :=
  TyOk.mk' (by kernel_rfl) (by kernel_rfl) (by kernel_rfl) (⟨Tryd.prog.fieldsOf 45, by kernel_rfl, by kernel_rfl⟩) (fun h => absurd rfl h)
theorem ty48 : TyOk Tryd.prog 48 ⟨.ptr 42, 1, 8, [.pointer none], [], []⟩ :=
  TyOk.mk' (by kernel_rfl) (by kernel_rfl) (by kernel_rfl) ((by kernel_rfl : Tryd.prog.underlying 48 = _)) (fun h => absurd rfl h)
theorem ty49 : TyOk Tryd.prog 49 ⟨.ptr 52, 1, 8, [.pointer none], [], []⟩ :=
  TyOk.mk' (by kernel_rfl) (by kernel_rfl) (by kernel_rfl) ((by kernel_rfl : Tryd.prog.underlying 49 = _)) (fun h => absurd rfl h)
theorem ty50 : TyOk Tryd.prog 50 ⟨.ptr 49, 1, 8, [.pointer none], [], []⟩ :=
  TyOk.mk' (by kernel_rfl) (by kernel_rfl) (by kernel_rfl) ((by kernel_rfl : Tryd.prog.underlying 50 = _)) (fun h => absurd rfl h)
theorem ty51 : TyOk Tryd.prog 51 ⟨.struct [(0, 3), (1, 27)], 2, 24, [.int .i64 0, .nilIface], [], []⟩ :=
  TyOk.mk' (by kernel_rfl) (by kernel_rfl) (by kernel_rfl) (⟨Tryd.prog.fieldsOf 51, by kernel_rfl, by kernel_rfl⟩) (fun h => absurd rfl h)
theorem ty52 : TyOk Tryd.prog 52 ⟨.struct [(0, 3), (1, 27)], 2, 24, [.int .i64 0, .nilIface], [], []⟩ :=
  TyOk.mk' (by kernel_rfl) (by kernel_rfl) (by kernel_rfl) (⟨Tryd.prog.fieldsOf 52, by kernel_rfl, by kernel_rfl⟩) (fun h => absurd rfl h)
theorem ty71 : TyOk Tryd.prog 71 ⟨.iface, 1, 16, [.nilIface], [], []⟩ :=
  TyOk.mk' (by kernel_rfl) (by kernel_rfl) (by kernel_rfl) (DOk.iface_of (by kernel_rfl)) (fun h => absurd rfl h)
theorem ty74 : TyOk Tryd.prog 74 ⟨.iface, 1, 16, [.nilIface], [], []⟩ :=
  TyOk.mk' (by kernel_rfl) (by kernel_rfl) (by kernel_rfl) (DOk.iface_of (by kernel_rfl)) (fun h => absurd rfl h)
theorem ty75 : TyOk Tryd.prog 75 ⟨.iface, 1, 16, [.nilIface], [], []⟩ :=
  TyOk.mk' (by kernel_rfl) (by kernel_rfl) (by kernel_rfl) (DOk.iface_of (by kernel_rfl)) (fun h => absurd rfl h)
theorem ty76 : TyOk Tryd.prog 76 ⟨.slice 27, 1, 24, [.slice none 0 0], [], []⟩ :=
  TyOk.mk' (by kernel_rfl) (by kernel_rfl) (by kernel_rfl) ((by kernel_rfl : Tryd.prog.underlying 76 = _)) (fun h => absurd rfl h)
theorem ty85 : TyOk Tryd.prog 85 ⟨.int .u32, 1, 4, [.int .u32 0], [], []⟩ :=
  TyOk.mk' (by kernel_rfl) (by kernel_rfl) (by kernel_rfl) ((by kernel_rfl : Tryd.prog.underlying 85 = _)) (fun h => absurd rfl h)
theorem ty88 : TyOk Tryd.prog 88 ⟨.ptr 5, 1, 8, [.pointer none], [], []⟩ :=
  TyOk.mk' (by kernel_rfl) (by kernel_rfl) (by kernel_rfl) ((by kernel_rfl : Tryd.prog.underlying 88 = _)) (fun h => absurd rfl h)
theorem ty105 : TyOk Tryd.prog 105 ⟨.ptr 27, 1, 8, [.pointer none], [], []⟩ :=
  TyOk.mk' (by kernel_rfl) (by kernel_rfl) (by kernel_rfl) ((by kernel_rfl : Tryd.prog.underlying 105 = _)) (fun h => absurd rfl h)
theorem tabOk : TabOk Tryd.prog tab := by
  intro t i h
  unfold tab at h
  split at h
  · cases h; exact ty2
  · cases h; exact ty3
  · cases h; exact ty4
  · cases h; exact ty5
  · cases h; exact ty9
  · cases h; exact ty12
  · cases h; exact ty13
  · cases h; exact ty20
  · cases h; exact ty21
  · cases h; exact ty22
  · cases h; exact ty23
  · cases h; exact ty25
  · cases h; exact ty26
  · cases h; exact ty27
  · cases h; exact ty39
  · cases h; exact ty42
  · cases h; exact ty44
  · cases h; exact ty45
  · cases h; exact ty48
  · cases h; exact ty49
  · cases h; exact ty50
  · cases h; exact ty51
  · cases h; exact ty52
  · cases h; exact ty71
  · cases h; exact ty74
  · cases h; exact ty75
  · cases h; exact ty76
  · cases h; exact ty85
  · cases h; exact ty88
  · cases h; exact ty105
  · cases h
end Go.Proofs.YtmbmdhkfddljjaaDoor
namespace Go.Proofs.YtmbmdhkfddljjaaDoor
open Go Go.RowKit Go.Extern.Stop Go.Stop Go.Extern
set_option maxRecDepth 100000
namespace AsW
theorem valueOfPE (t : Addr) (w : World) : (ReflectliteValue.unpack (.iface 48 (.pointer (some t)))).run Tryd.prog w
    = .ok (.agg #[.pointer (some ⟨1, 48, none⟩), .pointer (some ⟨w.heap.size, 0, none⟩), .int .u64 150]) (w.alloc (.cells #[.pointer (some t)] 48)) := by kernel_rfl
theorem typePE (a : Addr) (w : World) : (ReflectliteValue.methodAny (ReflectliteValue.valueError "reflectlite.Value.Type" 0) (fun t _ _ _ => ReflectliteType.toType t) #[.agg #[.pointer (some ⟨1, 48, none⟩), .pointer (some a), .int .u64 150]]).run Tryd.prog w
    = .ok (.iface 66 (.agg #[.pointer (some ⟨1, 48, none⟩)])) w := by kernel_rfl
theorem methodKind (h : Value) (w : World) : (Go.method 206 66 (.agg #[h]) "Kind").run Tryd.prog w = .ok (39, h) w := by kernel_rfl
theorem kindPE (w : World) : ((ReflectliteType.abiMethod fun t => (fun a : Nat => Value.int IntKind.u8 (a : Int)) <$> Rtype.kind t) #[.pointer (some ⟨1, 48, none⟩)]).run Tryd.prog w = .ok (.int .u8 22) w := by kernel_rfl
theorem kindE (w : World) : ((ReflectliteType.abiMethod fun t => (fun a : Nat => Value.int IntKind.u8 (a : Int)) <$> Rtype.kind t) #[.pointer (some ⟨1, 42, none⟩)]).run Tryd.prog w = .ok (.int .u8 2) w := by kernel_rfl
theorem rlm (z : Sem Value) (f : TypeId → Addr → Nat → Nat → Sem Value) (v : Value) :
    ReflectliteValue.method z f #[v] = (do match ← ReflectliteValue.parts v with | none => z | some (t, a, fl) => f t a fl (fl % 32)) := rfl
theorem partsPE (a : Addr) (w : World) : (ReflectliteValue.parts (.agg #[.pointer (some ⟨1, 48, none⟩), .pointer (some a), .int .u64 150])).run Tryd.prog w = .ok (some (48, a, 150)) w := by kernel_rfl
theorem isNilPE (a p : Addr) (W : World) (ha : W.cell? a = some (.pointer (some p))) :
    (ReflectliteValue.method (ReflectliteValue.valueError "reflectlite.Value.IsNil" 0) ReflectliteValue.isNil #[.agg #[.pointer (some ⟨1, 48, none⟩), .pointer (some a), .int .u64 150]]).run Tryd.prog W = .ok (.bool false) W := by
  rw [rlm]
  simp only [Sem.run_bind, partsPE, Result.andThen]
  simp [ReflectliteValue.isNil, loadVar, isAgg, underlying, Tryd.underlying48, ha, Result.andThen]
theorem methodElem (h : Value) (w : World) : (Go.method 206 66 (.agg #[h]) "Elem").run Tryd.prog w = .ok (51, .agg #[h]) w := by kernel_rfl
theorem methodImplements (h : Value) (w : World) : (Go.method 206 66 (.agg #[h]) "Implements").run Tryd.prog w = .ok (52, .agg #[h]) w := by kernel_rfl
theorem methodAssignableTo (h : Value) (w : World) : (Go.method 206 66 (.agg #[h]) "AssignableTo").run Tryd.prog w = .ok (49, .agg #[h]) w := by kernel_rfl
theorem elemPE (w : World) : (ReflectliteType.method ReflectliteType.elem #[.agg #[.pointer (some ⟨1, 48, none⟩)]]).run Tryd.prog w = .ok (.iface 66 (.agg #[.pointer (some ⟨1, 42, none⟩)])) w := by kernel_rfl
theorem implementsE (w : World) : (ReflectliteType.relation "Implements" ReflectliteType.implements_ #[.agg #[.pointer (some ⟨1, 42, none⟩)], .iface 66 (.agg #[.pointer (some ⟨1, 27, none⟩)])]).run Tryd.prog w = .ok (.bool true) w := by kernel_rfl
theorem typeOfE (v : Value) (w : World) : (ReflectliteType.typeOf #[.iface 42 v]).run Tryd.prog w = .ok (.iface 66 (.agg #[.pointer (some ⟨1, 42, none⟩)])) w := by kernel_rfl
theorem assignableEE (w : World) : (ReflectliteType.relation "AssignableTo" ReflectliteType.assignableTo #[.agg #[.pointer (some ⟨1, 42, none⟩)], .iface 66 (.agg #[.pointer (some ⟨1, 42, none⟩)])]).run Tryd.prog w = .ok (.bool true) w := by kernel_rfl
theorem valueOfE (n : Int) (w : World) : (ReflectliteValue.unpack (.iface 42 (.int .i64 n))).run Tryd.prog w
    = .ok (.agg #[.pointer (some ⟨1, 42, none⟩), .pointer (some ⟨w.heap.size, 0, none⟩), .int .u64 130]) (w.alloc (.cells #[.int .i64 n] 42)) := by kernel_rfl
theorem elemOfPE (w : World) : (Rtype.elem? 48).run Tryd.prog w = .ok (some 42) w := by kernel_rfl
theorem mkE (p : Addr) (w : World) : (ReflectliteValue.mk 42 p ReflectliteValue.flagAddr).run Tryd.prog w = .ok (.agg #[.pointer (some ⟨1, 42, none⟩), .pointer (some p), .int .u64 386]) w := by kernel_rfl
theorem elemVPE (a p : Addr) (W : World) (ha : W.cell? a = some (.pointer (some p))) :
    (ReflectliteValue.method (ReflectliteValue.valueError "reflectlite.Value.Elem" 0) ReflectliteValue.elem #[.agg #[.pointer (some ⟨1, 48, none⟩), .pointer (some a), .int .u64 150]]).run Tryd.prog W
      = .ok (.agg #[.pointer (some ⟨1, 42, none⟩), .pointer (some p), .int .u64 386]) W := by
  rw [rlm]
  simp only [Sem.run_bind, partsPE, Result.andThen]
  simp [ReflectliteValue.elem, loadVar, isAgg, underlying, Tryd.underlying48, ha, Result.andThen, elemOfPE, mkE]
theorem rls (v x : Value) : ReflectliteValue.set #[v, x] = (do
    let (some (dst, a, fl), some (src, b, _)) := (← ReflectliteValue.parts v, ← ReflectliteValue.parts x)
      | unsupported (.noEntry "extern/(internal/reflectlite.Value).Set.zeroValue")
    if fl / ReflectliteValue.flagAddr % 2 == 0 then unsupported (.noEntry "extern/(internal/reflectlite.Value).Set.unaddressable")
    let val ← loadVar src b
    if ← Rtype.directlyAssignable dst src then storeVar dst a val
    else if ← Rtype.implements dst src then
      if (← Rtype.kind src) == 20 then
        match val with
        | .nilIface => unsupported (.noEntry "extern/reflectlite: a nil value of one interface type handed on as a value of another")
        | _ => storeVar dst a val
      else storeVar dst a (.iface src val)
    else panicString ("reflectlite.Set: value of type " ++ (← Rtype.spelt src) ++ " is not assignable to type " ++ (← Rtype.spelt dst))
    pure (.tuple #[])) := rfl
theorem partsEa (a : Addr) (w : World) : (ReflectliteValue.parts (.agg #[.pointer (some ⟨1, 42, none⟩), .pointer (some a), .int .u64 386])).run Tryd.prog w = .ok (some (42, a, 386)) w := by kernel_rfl
theorem partsE (a : Addr) (w : World) : (ReflectliteValue.parts (.agg #[.pointer (some ⟨1, 42, none⟩), .pointer (some a), .int .u64 130])).run Tryd.prog w = .ok (some (42, a, 130)) w := by kernel_rfl
theorem directE (w : World) : (Rtype.directlyAssignable 42 42).run Tryd.prog w = .ok true w := by kernel_rfl
theorem setE (ta b : Addr) (n : Int) (old : Value) (W : World) (hb : W.cell? b = some (.int .i64 n)) (ht : W.cell? ta = some old) (hf : W.frozen? ta = false) :
    (ReflectliteValue.set #[.agg #[.pointer (some ⟨1, 42, none⟩), .pointer (some ta), .int .u64 386], .agg #[.pointer (some ⟨1, 42, none⟩), .pointer (some b), .int .u64 130]]).run Tryd.prog W
      = .ok (.tuple #[]) (W.setCell ta (.int .i64 n)) := by
  rw [rls]
  simp only [Sem.run_bind, partsEa, partsE, Result.andThen]
  simp [ReflectliteValue.flagAddr, loadVar, isAgg, underlying, Tryd.underlying42, hb, Result.andThen, directE, storeVar, Value.cells, storeCells, Addr.add]
  rw [run_store Tryd.prog W ta _ _ (by rfl)]
  simp [ht, hf]
theorem valueOfPEF (t : Addr) (w : World) : (ReflectliteValue.unpack (.iface 50 (.pointer (some t)))).run Tryd.prog w
    = .ok (.agg #[.pointer (some ⟨1, 50, none⟩), .pointer (some ⟨w.heap.size, 0, none⟩), .int .u64 150]) (w.alloc (.cells #[.pointer (some t)] 50)) := by kernel_rfl
theorem typePEF (a : Addr) (w : World) : (ReflectliteValue.methodAny (ReflectliteValue.valueError "reflectlite.Value.Type" 0) (fun t _ _ _ => ReflectliteType.toType t) #[.agg #[.pointer (some ⟨1, 50, none⟩), .pointer (some a), .int .u64 150]]).run Tryd.prog w
    = .ok (.iface 66 (.agg #[.pointer (some ⟨1, 50, none⟩)])) w := by kernel_rfl
theorem kindPEF (w : World) : ((ReflectliteType.abiMethod fun t => (fun a : Nat => Value.int IntKind.u8 (a : Int)) <$> Rtype.kind t) #[.pointer (some ⟨1, 50, none⟩)]).run Tryd.prog w = .ok (.int .u8 22) w := by kernel_rfl
theorem partsPEF (a : Addr) (w : World) : (ReflectliteValue.parts (.agg #[.pointer (some ⟨1, 50, none⟩), .pointer (some a), .int .u64 150])).run Tryd.prog w = .ok (some (50, a, 150)) w := by kernel_rfl
theorem isNilPEF (a p : Addr) (W : World) (ha : W.cell? a = some (.pointer (some p))) :
    (ReflectliteValue.method (ReflectliteValue.valueError "reflectlite.Value.IsNil" 0) ReflectliteValue.isNil #[.agg #[.pointer (some ⟨1, 50, none⟩), .pointer (some a), .int .u64 150]]).run Tryd.prog W = .ok (.bool false) W := by
  rw [rlm]
  simp only [Sem.run_bind, partsPEF, Result.andThen]
  simp [ReflectliteValue.isNil, loadVar, isAgg, underlying, Tryd.underlying50, ha, Result.andThen]
theorem elemPEF (w : World) : (ReflectliteType.method ReflectliteType.elem #[.agg #[.pointer (some ⟨1, 50, none⟩)]]).run Tryd.prog w = .ok (.iface 66 (.agg #[.pointer (some ⟨1, 49, none⟩)])) w := by kernel_rfl
theorem implementsEF (w : World) : (ReflectliteType.relation "Implements" ReflectliteType.implements_ #[.agg #[.pointer (some ⟨1, 49, none⟩)], .iface 66 (.agg #[.pointer (some ⟨1, 27, none⟩)])]).run Tryd.prog w = .ok (.bool true) w := by kernel_rfl
theorem assignableEEF (w : World) : (ReflectliteType.relation "AssignableTo" ReflectliteType.assignableTo #[.agg #[.pointer (some ⟨1, 49, none⟩)], .iface 66 (.agg #[.pointer (some ⟨1, 49, none⟩)])]).run Tryd.prog w = .ok (.bool true) w := by kernel_rfl
theorem elemOfPEF (w : World) : (Rtype.elem? 50).run Tryd.prog w = .ok (some 49) w := by kernel_rfl
theorem typeOfEF (v : Value) (w : World) : (ReflectliteType.typeOf #[.iface 49 v]).run Tryd.prog w = .ok (.iface 66 (.agg #[.pointer (some ⟨1, 49, none⟩)])) w := by kernel_rfl
theorem kindEF (w : World) : ((ReflectliteType.abiMethod fun t => (fun a : Nat => Value.int IntKind.u8 (a : Int)) <$> Rtype.kind t) #[.pointer (some ⟨1, 49, none⟩)]).run Tryd.prog w = .ok (.int .u8 22) w := by kernel_rfl
theorem mkEF (p : Addr) (w : World) : (ReflectliteValue.mk 49 p ReflectliteValue.flagAddr).run Tryd.prog w = .ok (.agg #[.pointer (some ⟨1, 49, none⟩), .pointer (some p), .int .u64 406]) w := by kernel_rfl
theorem elemVPEF (a p : Addr) (W : World) (ha : W.cell? a = some (.pointer (some p))) :
    (ReflectliteValue.method (ReflectliteValue.valueError "reflectlite.Value.Elem" 0) ReflectliteValue.elem #[.agg #[.pointer (some ⟨1, 50, none⟩), .pointer (some a), .int .u64 150]]).run Tryd.prog W
      = .ok (.agg #[.pointer (some ⟨1, 49, none⟩), .pointer (some p), .int .u64 406]) W := by
  rw [rlm]
  simp only [Sem.run_bind, partsPEF, Result.andThen]
  simp [ReflectliteValue.elem, loadVar, isAgg, underlying, Tryd.underlying50, ha, Result.andThen, elemOfPEF, mkEF]
theorem partsEaF (a : Addr) (w : World) : (ReflectliteValue.parts (.agg #[.pointer (some ⟨1, 49, none⟩), .pointer (some a), .int .u64 406])).run Tryd.prog w = .ok (some (49, a, 406)) w := by kernel_rfl
theorem partsEF (a : Addr) (w : World) : (ReflectliteValue.parts (.agg #[.pointer (some ⟨1, 49, none⟩), .pointer (some a), .int .u64 150])).run Tryd.prog w = .ok (some (49, a, 150)) w := by kernel_rfl
theorem directEF (w : World) : (Rtype.directlyAssignable 49 49).run Tryd.prog w = .ok true w := by kernel_rfl
theorem setEF (ta b : Addr) (e : Addr) (old : Value) (W : World) (hb : W.cell? b = some (.pointer (some e))) (ht : W.cell? ta = some old) (hf : W.frozen? ta = false) :
    (ReflectliteValue.set #[.agg #[.pointer (some ⟨1, 49, none⟩), .pointer (some ta), .int .u64 406], .agg #[.pointer (some ⟨1, 49, none⟩), .pointer (some b), .int .u64 150]]).run Tryd.prog W
      = .ok (.tuple #[]) (W.setCell ta (.pointer (some e))) := by
  rw [rls]
  simp only [Sem.run_bind, partsEaF, partsEF, Result.andThen]
  simp [ReflectliteValue.flagAddr, loadVar, isAgg, underlying, Tryd.underlying49, hb, Result.andThen, directEF, storeVar, Value.cells, storeCells, Addr.add]
  rw [run_store Tryd.prog W ta _ _ (by rfl)]
  simp [ht, hf]

theorem valueOfEF (e : Addr) (w : World) : (ReflectliteValue.unpack (.iface 49 (.pointer (some e)))).run Tryd.prog w
    = .ok (.agg #[.pointer (some ⟨1, 49, none⟩), .pointer (some ⟨w.heap.size, 0, none⟩), .int .u64 150]) (w.alloc (.cells #[.pointer (some e)] 49)) := by kernel_rfl
theorem assignFE (w : World) : (ReflectliteType.relation "AssignableTo" ReflectliteType.assignableTo #[.agg #[.pointer (some ⟨1, 49, none⟩)], .iface 66 (.agg #[.pointer (some ⟨1, 42, none⟩)])]).run Tryd.prog w = .ok (.bool false) w := by kernel_rfl
theorem assignEF (w : World) : (ReflectliteType.relation "AssignableTo" ReflectliteType.assignableTo #[.agg #[.pointer (some ⟨1, 42, none⟩)], .iface 66 (.agg #[.pointer (some ⟨1, 49, none⟩)])]).run Tryd.prog w = .ok (.bool false) w := by kernel_rfl
theorem noAsF (v : Value) (w : World) : (Instr.typeAssert (.iface 49 v) 27 71 true).run Tryd.prog w = .ok (.tuple #[.nilIface, .bool false]) w := run_typeAssert_lacksB Tryd.underlying71 (by kernel_rfl) (by kernel_rfl) v _ w
theorem noAsE (v : Value) (w : World) : (Instr.typeAssert (.iface 42 v) 27 71 true).run Tryd.prog w = .ok (.tuple #[.nilIface, .bool false]) w := run_typeAssert_lacksB Tryd.underlying71 (by kernel_rfl) (by kernel_rfl) v _ w
theorem noUnE (v : Value) (w : World) : (Instr.typeAssert (.iface 42 v) 27 74 true).run Tryd.prog w = .ok (.tuple #[.nilIface, .bool false]) w := run_typeAssert_lacksB Tryd.underlying74 (by kernel_rfl) (by kernel_rfl) v _ w
theorem noUnsE (v : Value) (w : World) : (Instr.typeAssert (.iface 42 v) 27 75 true).run Tryd.prog w = .ok (.tuple #[.nilIface, .bool false]) w := run_typeAssert_lacksB Tryd.underlying75 (by kernel_rfl) (by kernel_rfl) v _ w
theorem unF (v : Value) (w : World) : (Instr.typeAssert (.iface 49 v) 27 74 true).run Tryd.prog w = .ok (.tuple #[.iface 49 v, .bool true]) w := run_typeAssert_hasB Tryd.underlying74 (by kernel_rfl) v _ w
theorem methodUn (h : Value) (w : World) : (Go.method 206 49 h "Unwrap").run Tryd.prog w = .ok (44, h) w := by kernel_rfl
/-- errors.as, the error an Errno, the target an Errno variable. -/
theorem as_hit (n : Int) (t a : Addr) (old : Value) (w : World) (ha : w.cell? a = some (.pointer (some t))) (ht0 : w.cell? t = some old) (hf0 : w.frozen? t = false) :
    Calls Tryd.prog 21 #[.iface 42 (.int .i64 n), .iface 48 (.pointer (some t)), .agg #[.pointer (some ⟨1, 48, none⟩), .pointer (some a), .int .u64 150], .iface 66 (.agg #[.pointer (some ⟨1, 42, none⟩)])] w
      fun ev w' => ev = .returned (.bool true) ∧ w' = ((w.alloc (.cells #[.pointer (some ⟨1, 48, none⟩), .pointer (some a), .int .u64 150] 56)).alloc (.cells #[.int .i64 n] 42)).setCell t (.int .i64 n) := by
  have hVO := @run_callFunc_extern Tryd.prog 18 _ (fun args => ReflectliteValue.unpack (args.getD 0 (.tuple #[]))) Tryd.func18 (by kernel_rfl) (by kernel_rfl) (by kernel_rfl) (by kernel_rfl)
  have hTO := @run_callFunc_extern Tryd.prog 22 _ ReflectliteType.typeOf Tryd.func22 (by kernel_rfl) (by kernel_rfl) (by kernel_rfl) (by kernel_rfl)
  have hAT := @run_callFunc_extern Tryd.prog 49 _ (ReflectliteType.relation "AssignableTo" ReflectliteType.assignableTo) Tryd.func49 (by kernel_rfl) (by kernel_rfl) (by kernel_rfl) (by kernel_rfl)
  have hVE := @run_callFunc_extern Tryd.prog 23 _ (ReflectliteValue.method (ReflectliteValue.valueError "reflectlite.Value.Elem" 0) ReflectliteValue.elem) Tryd.func23 (by kernel_rfl) (by kernel_rfl) (by kernel_rfl) (by kernel_rfl)
  have hVS := @run_callFunc_extern Tryd.prog 24 _ ReflectliteValue.set Tryd.func24 (by kernel_rfl) (by kernel_rfl) (by kernel_rfl) (by kernel_rfl)
  have tO := typeOfE
  have mA := methodAssignableTo
  have aE := assignableEE
  have vE := valueOfE
  have hal : a.block < w.heap.size := by
    rcases Nat.lt_or_ge a.block w.heap.size with h | h
    · exact h
    · simp [World.cell?, Array.getElem?_eq_none h] at ha
  have htl : t.block < w.heap.size := by
    rcases Nat.lt_or_ge t.block w.heap.size with h | h
    · exact h
    · simp [World.cell?, Array.getElem?_eq_none h] at ht0
  have el := elemVPE a t (w.alloc (.cells #[.pointer (some ⟨1, 48, none⟩), .pointer (some a), .int .u64 150] 56)) (by rw [World.cell?_alloc_lt _ _ a hal]; exact ha)
  have st := setE t ⟨w.heap.size + 1, 0, none⟩ n old ((w.alloc (.cells #[.pointer (some ⟨1, 48, none⟩), .pointer (some a), .int .u64 150] 56)).alloc (.cells #[.int .i64 n] 42))
    (by rw [World.cell?_alloc_at _ _ _ _ (by simp)]; rfl)
    (by rw [World.cell?_alloc_lt _ _ t (by simp; omega), World.cell?_alloc_lt _ _ t htl]; exact ht0)
    (by rw [World.frozen?_alloc_old _ _ t (by simp; omega), World.frozen?_alloc_old _ _ t (Nat.ne_of_lt htl)]; exact hf0)
  clear ha ht0 hf0
  go_enter Tryd.func21, Tryd.ntmps21
  go_wp2
  refine wp_loop_rounds 1 ?_
  rw [rounds_succ]
  go_wp2
  go_ret
  exact ⟨rfl, rfl⟩
/-- errors.As at an Errno variable, whatever errors.as answers. -/
theorem As_of (u : TypeId) (x : Value) (t : Addr) (w : World) (R : Bool → World → Prop) (hg : w.cell? ⟨0, 0, none⟩ = some (.iface 66 (.agg #[.pointer (some ⟨1, 27, none⟩)])))
    (h : Calls Tryd.prog 21 #[.iface u x, .iface 48 (.pointer (some t)), .agg #[.pointer (some ⟨1, 48, none⟩), .pointer (some ⟨w.heap.size, 0, none⟩), .int .u64 150], .iface 66 (.agg #[.pointer (some ⟨1, 42, none⟩)])]
      ((w.alloc (.cells #[.pointer (some t)] 48)).alloc (.cells #[.pointer (some ⟨1, 48, none⟩), .pointer (some ⟨w.heap.size, 0, none⟩), .int .u64 150] 56)) fun e w' => ∃ b, e = .returned (.bool b) ∧ R b w') :
    Calls Tryd.prog 17 #[.iface u x, .iface 48 (.pointer (some t))] w fun e w' => ∃ b, e = .returned (.bool b) ∧ R b w' := by
  have hVO := @run_callFunc_extern Tryd.prog 18 _ (fun args => ReflectliteValue.unpack (args.getD 0 (.tuple #[]))) Tryd.func18 (by kernel_rfl) (by kernel_rfl) (by kernel_rfl) (by kernel_rfl)
  have hVT := @run_callFunc_extern Tryd.prog 19 _ (ReflectliteValue.methodAny (ReflectliteValue.valueError "reflectlite.Value.Type" 0) (fun t _ _ _ => ReflectliteType.toType t)) Tryd.func19 (by kernel_rfl) (by kernel_rfl) (by kernel_rfl) (by kernel_rfl)
  have hIN := @run_callFunc_extern Tryd.prog 20 _ (ReflectliteValue.method (ReflectliteValue.valueError "reflectlite.Value.IsNil" 0) ReflectliteValue.isNil) Tryd.func20 (by kernel_rfl) (by kernel_rfl) (by kernel_rfl) (by kernel_rfl)
  have hK := @run_callFunc_extern Tryd.prog 39 _ (ReflectliteType.abiMethod fun t => do pure (.int .u8 (← Rtype.kind t))) Tryd.func39 (by kernel_rfl) (by kernel_rfl) (by kernel_rfl) (by kernel_rfl)
  have hRE := @run_callFunc_extern Tryd.prog 51 _ (ReflectliteType.method ReflectliteType.elem) Tryd.func51 (by kernel_rfl) (by kernel_rfl) (by kernel_rfl) (by kernel_rfl)
  have hIM := @run_callFunc_extern Tryd.prog 52 _ (ReflectliteType.relation "Implements" ReflectliteType.implements_) Tryd.func52 (by kernel_rfl) (by kernel_rfl) (by kernel_rfl) (by kernel_rfl)
  have f6 := valueOfPE
  have f7 := typePE
  have mK := methodKind
  have mE := methodElem
  have mI := methodImplements
  have kP := kindPE
  have kE := kindE
  have eP := elemPE
  have iE := implementsE
  have n8 := isNilPE ⟨w.heap.size, 0, none⟩ t ((w.alloc (.cells #[.pointer (some t)] 48)).alloc (.cells #[.pointer (some ⟨1, 48, none⟩), .pointer (some ⟨w.heap.size, 0, none⟩), .int .u64 150] 56)) (by simp)
  have hlt : 0 < w.heap.size := by
    rcases Nat.eq_zero_or_pos w.heap.size with h0 | h
    · simp [World.cell?, h0] at hg
    · exact h
  have hg2 : ((w.alloc (.cells #[.pointer (some t)] 48)).alloc (.cells #[.pointer (some ⟨1, 48, none⟩), .pointer (some ⟨w.heap.size, 0, none⟩), .int .u64 150] 56)).cell? ⟨0, 0, none⟩ = some (.iface 66 (.agg #[.pointer (some ⟨1, 27, none⟩)])) := by
    rw [World.cell?_alloc_lt _ _ ⟨0, 0, none⟩ (by simp), World.cell?_alloc_lt _ _ ⟨0, 0, none⟩ hlt]; exact hg
  clear hg
  have H := Lib.hid h
  clear h
  go_enter Tryd.func17, Tryd.ntmps17
  go_wp2_with ((go_at_call 21; refine H.out.mono ?_; rintro e w' ⟨b, rfl, hq⟩))
  go_ret
  exact ⟨b, rfl, hq⟩
theorem As_errno (n : Int) (t : Addr) (old : Value) (w : World) (hg : w.cell? ⟨0, 0, none⟩ = some (.iface 66 (.agg #[.pointer (some ⟨1, 27, none⟩)]))) (ht0 : w.cell? t = some old) (hf0 : w.frozen? t = false) :
    Calls Tryd.prog 17 #[.iface 42 (.int .i64 n), .iface 48 (.pointer (some t))] w fun e w' => ∃ b, e = .returned (.bool b) ∧ (b = true ∧ ∃ w1, Below w.heap.size w w1 ∧ w1.cell? t = some old ∧ w' = w1.setCell t (.int .i64 n)) := by
  refine As_of _ _ t w _ hg ((as_hit n t ⟨w.heap.size, 0, none⟩ old _ (by simp) ?_ ?_).mono ?_)
  · have htl : t.block < w.heap.size := by
      rcases Nat.lt_or_ge t.block w.heap.size with h | h
      · exact h
      · simp [World.cell?, Array.getElem?_eq_none h] at ht0
    rw [World.cell?_alloc_lt _ _ t (by simp; omega), World.cell?_alloc_lt _ _ t htl]; exact ht0
  · have htl : t.block < w.heap.size := by
      rcases Nat.lt_or_ge t.block w.heap.size with h | h
      · exact h
      · simp [World.cell?, Array.getElem?_eq_none h] at ht0
    rw [World.frozen?_alloc_old _ _ t (by simp; omega), World.frozen?_alloc_old _ _ t (Nat.ne_of_lt htl)]; exact hf0
  · rintro e w' ⟨rfl, rfl⟩
    have b4 : Below w.heap.size w ((((w.alloc (.cells #[.pointer (some t)] 48)).alloc (.cells #[.pointer (some ⟨1, 48, none⟩), .pointer (some ⟨w.heap.size, 0, none⟩), .int .u64 150] 56)).alloc (.cells #[.pointer (some ⟨1, 48, none⟩), .pointer (some ⟨w.heap.size, 0, none⟩), .int .u64 150] 56)).alloc (.cells #[.int .i64 n] 42)) :=
      ((((Below.refl _ _).alloc (Nat.le_refl _) _).alloc (by simp) _).alloc (by simp; omega) _).alloc (by simp; omega) _
    refine ⟨true, rfl, rfl, _, b4, ?_, rfl⟩
    have htl : t.block < w.heap.size := by
      rcases Nat.lt_or_ge t.block w.heap.size with h | h
      · exact h
      · simp [World.cell?, Array.getElem?_eq_none h] at ht0
    rw [b4.cell htl]; exact ht0
/-- api.Code of an Errno. -/
theorem code_errno (n : Int) (w : World) (hg : w.cell? ⟨0, 0, none⟩ = some (.iface 66 (.agg #[.pointer (some ⟨1, 27, none⟩)]))) :
    Calls Tryd.prog 11 #[.iface 42 (.int .i64 n)] w fun e w' => e = .returned (.int .i64 n) ∧ Below w.heap.size w w' := by
  have hlt : 0 < w.heap.size := by
    rcases Nat.eq_zero_or_pos w.heap.size with h0 | h
    · simp [World.cell?, h0] at hg
    · exact h
  have hgA : (w.alloc (.cells #[.int .i64 0] 42)).cell? ⟨0, 0, none⟩ = some (.iface 66 (.agg #[.pointer (some ⟨1, 27, none⟩)])) := by
    rw [World.cell?_alloc_lt _ _ ⟨0, 0, none⟩ hlt]; exact hg
  have H := Lib.hid (As_errno n ⟨w.heap.size, 0, none⟩ (.int .i64 0) _ hgA (by simp) (by simp))
  clear hg hgA
  go_enter Tryd.func11, Tryd.ntmps11
  go_wp2_with fail
  refine H.out.mono ?_
  rintro e w' ⟨b, rfl, rfl, w1, hb, ho, rfl⟩
  have hc : (w1.setCell ⟨w.heap.size, 0, none⟩ (.int .i64 n)).cell? ⟨w.heap.size, 0, none⟩ = some (.int .i64 n) := World.cell?_setCell_same' w1 _ _ (by rw [ho]; rfl)
  have HB := Lib.hid hb
  clear hb ho H
  go_wp2
  go_ret
  exact ⟨rfl, (((Below.refl _ _).alloc (Nat.le_refl _) _).trans (HB.out.mono (by simp))).setCell (by simp) _⟩
theorem code_nil (w : World) : Calls Tryd.prog 11 #[.nilIface] w fun e w' => e = .returned (.int .i64 0) ∧ Below w.heap.size w w' := by
  go_enter Tryd.func11, Tryd.ntmps11
  go_wp2
  go_ret
  exact ⟨rfl, (Below.refl _ _).alloc (Nat.le_refl _) _⟩
/-- errors.as, the error a fault over an Errno, the target an Errno variable. -/
theorem as_un (n : Int) (b : Nat) (t a : Addr) (old : Value) (w : World) (ha : w.cell? a = some (.pointer (some t))) (ht0 : w.cell? t = some old) (hf0 : w.frozen? t = false) (hb : w.cell? ⟨b, 1, none⟩ = some (.iface 42 (.int .i64 n))) :
    Calls Tryd.prog 21 #[.iface 49 (.pointer (some ⟨b, 0, none⟩)), .iface 48 (.pointer (some t)), .agg #[.pointer (some ⟨1, 48, none⟩), .pointer (some a), .int .u64 150], .iface 66 (.agg #[.pointer (some ⟨1, 42, none⟩)])] w
      fun ev w' => ev = .returned (.bool true) ∧ w' = ((w.alloc (.cells #[.pointer (some ⟨1, 48, none⟩), .pointer (some a), .int .u64 150] 56)).alloc (.cells #[.int .i64 n] 42)).setCell t (.int .i64 n) := by
  have hVO := @run_callFunc_extern Tryd.prog 18 _ (fun args => ReflectliteValue.unpack (args.getD 0 (.tuple #[]))) Tryd.func18 (by kernel_rfl) (by kernel_rfl) (by kernel_rfl) (by kernel_rfl)
  have hTO := @run_callFunc_extern Tryd.prog 22 _ ReflectliteType.typeOf Tryd.func22 (by kernel_rfl) (by kernel_rfl) (by kernel_rfl) (by kernel_rfl)
  have hAT := @run_callFunc_extern Tryd.prog 49 _ (ReflectliteType.relation "AssignableTo" ReflectliteType.assignableTo) Tryd.func49 (by kernel_rfl) (by kernel_rfl) (by kernel_rfl) (by kernel_rfl)
  have hVE := @run_callFunc_extern Tryd.prog 23 _ (ReflectliteValue.method (ReflectliteValue.valueError "reflectlite.Value.Elem" 0) ReflectliteValue.elem) Tryd.func23 (by kernel_rfl) (by kernel_rfl) (by kernel_rfl) (by kernel_rfl)
  have hVS := @run_callFunc_extern Tryd.prog 24 _ ReflectliteValue.set Tryd.func24 (by kernel_rfl) (by kernel_rfl) (by kernel_rfl) (by kernel_rfl)
  have tO := typeOfE
  have mA := methodAssignableTo
  have aE := assignableEE
  have vE := valueOfE
  have tF := typeOfEF
  have aF := assignFE
  have nF := noAsF
  have uF := unF
  have mU := methodUn
  have hbl : b < w.heap.size := by
    rcases Nat.lt_or_ge b w.heap.size with h | h
    · exact h
    · simp [World.cell?, Array.getElem?_eq_none h] at hb
  have hb2 : (w.alloc (.cells #[.pointer (some ⟨1, 48, none⟩), .pointer (some a), .int .u64 150] 56)).cell? ⟨b, 1, none⟩ = some (.iface 42 (.int .i64 n)) := by
    rw [World.cell?_alloc_lt _ _ ⟨b, 1, none⟩ hbl]; exact hb
  have hal : a.block < w.heap.size := by
    rcases Nat.lt_or_ge a.block w.heap.size with h | h
    · exact h
    · simp [World.cell?, Array.getElem?_eq_none h] at ha
  have htl : t.block < w.heap.size := by
    rcases Nat.lt_or_ge t.block w.heap.size with h | h
    · exact h
    · simp [World.cell?, Array.getElem?_eq_none h] at ht0
  have el := elemVPE a t (w.alloc (.cells #[.pointer (some ⟨1, 48, none⟩), .pointer (some a), .int .u64 150] 56)) (by rw [World.cell?_alloc_lt _ _ a hal]; exact ha)
  have st := setE t ⟨w.heap.size + 1, 0, none⟩ n old ((w.alloc (.cells #[.pointer (some ⟨1, 48, none⟩), .pointer (some a), .int .u64 150] 56)).alloc (.cells #[.int .i64 n] 42))
    (by rw [World.cell?_alloc_at _ _ _ _ (by simp)]; rfl)
    (by rw [World.cell?_alloc_lt _ _ t (by simp; omega), World.cell?_alloc_lt _ _ t htl]; exact ht0)
    (by rw [World.frozen?_alloc_old _ _ t (by simp; omega), World.frozen?_alloc_old _ _ t (Nat.ne_of_lt htl)]; exact hf0)
  clear ha ht0 hf0 hb
  go_enter Tryd.func21, Tryd.ntmps21
  go_wp2
  refine wp_loop_rounds 2 ?_
  rw [rounds_succ]
  go_wp2_with (go_in)
  rw [rounds_succ]
  go_wp2
  go_ret
  exact ⟨rfl, rfl⟩
/-- errors.as, the error an Errno, the target an Errno variable. -/
theorem as_hitF (e : Addr) (t a : Addr) (old : Value) (w : World) (ha : w.cell? a = some (.pointer (some t))) (ht0 : w.cell? t = some old) (hf0 : w.frozen? t = false) :
    Calls Tryd.prog 21 #[.iface 49 (.pointer (some e)), .iface 50 (.pointer (some t)), .agg #[.pointer (some ⟨1, 50, none⟩), .pointer (some a), .int .u64 150], .iface 66 (.agg #[.pointer (some ⟨1, 49, none⟩)])] w
      fun ev w' => ev = .returned (.bool true) ∧ w' = ((w.alloc (.cells #[.pointer (some ⟨1, 50, none⟩), .pointer (some a), .int .u64 150] 56)).alloc (.cells #[.pointer (some e)] 49)).setCell t (.pointer (some e)) := by
  have hVO := @run_callFunc_extern Tryd.prog 18 _ (fun args => ReflectliteValue.unpack (args.getD 0 (.tuple #[]))) Tryd.func18 (by kernel_rfl) (by kernel_rfl) (by kernel_rfl) (by kernel_rfl)
  have hTO := @run_callFunc_extern Tryd.prog 22 _ ReflectliteType.typeOf Tryd.func22 (by kernel_rfl) (by kernel_rfl) (by kernel_rfl) (by kernel_rfl)
  have hAT := @run_callFunc_extern Tryd.prog 49 _ (ReflectliteType.relation "AssignableTo" ReflectliteType.assignableTo) Tryd.func49 (by kernel_rfl) (by kernel_rfl) (by kernel_rfl) (by kernel_rfl)
  have hVE := @run_callFunc_extern Tryd.prog 23 _ (ReflectliteValue.method (ReflectliteValue.valueError "reflectlite.Value.Elem" 0) ReflectliteValue.elem) Tryd.func23 (by kernel_rfl) (by kernel_rfl) (by kernel_rfl) (by kernel_rfl)
  have hVS := @run_callFunc_extern Tryd.prog 24 _ ReflectliteValue.set Tryd.func24 (by kernel_rfl) (by kernel_rfl) (by kernel_rfl) (by kernel_rfl)
  have tO := typeOfEF
  have mA := methodAssignableTo
  have aE := assignableEEF
  have vE := valueOfEF
  have hal : a.block < w.heap.size := by
    rcases Nat.lt_or_ge a.block w.heap.size with h | h
    · exact h
    · simp [World.cell?, Array.getElem?_eq_none h] at ha
  have htl : t.block < w.heap.size := by
    rcases Nat.lt_or_ge t.block w.heap.size with h | h
    · exact h
    · simp [World.cell?, Array.getElem?_eq_none h] at ht0
  have el := elemVPEF a t (w.alloc (.cells #[.pointer (some ⟨1, 50, none⟩), .pointer (some a), .int .u64 150] 56)) (by rw [World.cell?_alloc_lt _ _ a hal]; exact ha)
  have st := setEF t ⟨w.heap.size + 1, 0, none⟩ e old ((w.alloc (.cells #[.pointer (some ⟨1, 50, none⟩), .pointer (some a), .int .u64 150] 56)).alloc (.cells #[.pointer (some e)] 49))
    (by rw [World.cell?_alloc_at _ _ _ _ (by simp)]; rfl)
    (by rw [World.cell?_alloc_lt _ _ t (by simp; omega), World.cell?_alloc_lt _ _ t htl]; exact ht0)
    (by rw [World.frozen?_alloc_old _ _ t (by simp; omega), World.frozen?_alloc_old _ _ t (Nat.ne_of_lt htl)]; exact hf0)
  clear ha ht0 hf0
  go_enter Tryd.func21, Tryd.ntmps21
  go_wp2
  refine wp_loop_rounds 1 ?_
  rw [rounds_succ]
  go_wp2
  go_ret
  exact ⟨rfl, rfl⟩
/-- errors.as, the error an Errno, the target a fault's variable. -/
theorem as_missF (n : Int) (t a : Addr) (w : World) :
    Calls Tryd.prog 21 #[.iface 42 (.int .i64 n), .iface 50 (.pointer (some t)), .agg #[.pointer (some ⟨1, 50, none⟩), .pointer (some a), .int .u64 150], .iface 66 (.agg #[.pointer (some ⟨1, 49, none⟩)])] w
      fun ev w' => ev = .returned (.bool false) ∧ w' = w.alloc (.cells #[.pointer (some ⟨1, 50, none⟩), .pointer (some a), .int .u64 150] 56) := by
  have hTO := @run_callFunc_extern Tryd.prog 22 _ ReflectliteType.typeOf Tryd.func22 (by kernel_rfl) (by kernel_rfl) (by kernel_rfl) (by kernel_rfl)
  have hAT := @run_callFunc_extern Tryd.prog 49 _ (ReflectliteType.relation "AssignableTo" ReflectliteType.assignableTo) Tryd.func49 (by kernel_rfl) (by kernel_rfl) (by kernel_rfl) (by kernel_rfl)
  have tO := typeOfE
  have mA := methodAssignableTo
  have aE := assignEF
  have n1 := noAsE
  have n2 := noUnE
  have n3 := noUnsE
  go_enter Tryd.func21, Tryd.ntmps21
  go_wp2
  refine wp_loop_rounds 1 ?_
  rw [rounds_succ]
  go_wp2
  go_ret
  exact ⟨rfl, rfl⟩
/-- errors.As at a fault's variable, whatever errors.as answers. -/
theorem As_ofF (u : TypeId) (x : Value) (t : Addr) (w : World) (R : Bool → World → Prop) (hg : w.cell? ⟨0, 0, none⟩ = some (.iface 66 (.agg #[.pointer (some ⟨1, 27, none⟩)])))
    (h : Calls Tryd.prog 21 #[.iface u x, .iface 50 (.pointer (some t)), .agg #[.pointer (some ⟨1, 50, none⟩), .pointer (some ⟨w.heap.size, 0, none⟩), .int .u64 150], .iface 66 (.agg #[.pointer (some ⟨1, 49, none⟩)])]
      ((w.alloc (.cells #[.pointer (some t)] 50)).alloc (.cells #[.pointer (some ⟨1, 50, none⟩), .pointer (some ⟨w.heap.size, 0, none⟩), .int .u64 150] 56)) fun e w' => ∃ b, e = .returned (.bool b) ∧ R b w') :
    Calls Tryd.prog 17 #[.iface u x, .iface 50 (.pointer (some t))] w fun e w' => ∃ b, e = .returned (.bool b) ∧ R b w' := by
  have hVO := @run_callFunc_extern Tryd.prog 18 _ (fun args => ReflectliteValue.unpack (args.getD 0 (.tuple #[]))) Tryd.func18 (by kernel_rfl) (by kernel_rfl) (by kernel_rfl) (by kernel_rfl)
  have hVT := @run_callFunc_extern Tryd.prog 19 _ (ReflectliteValue.methodAny (ReflectliteValue.valueError "reflectlite.Value.Type" 0) (fun t _ _ _ => ReflectliteType.toType t)) Tryd.func19 (by kernel_rfl) (by kernel_rfl) (by kernel_rfl) (by kernel_rfl)
  have hIN := @run_callFunc_extern Tryd.prog 20 _ (ReflectliteValue.method (ReflectliteValue.valueError "reflectlite.Value.IsNil" 0) ReflectliteValue.isNil) Tryd.func20 (by kernel_rfl) (by kernel_rfl) (by kernel_rfl) (by kernel_rfl)
  have hK := @run_callFunc_extern Tryd.prog 39 _ (ReflectliteType.abiMethod fun t => do pure (.int .u8 (← Rtype.kind t))) Tryd.func39 (by kernel_rfl) (by kernel_rfl) (by kernel_rfl) (by kernel_rfl)
  have hRE := @run_callFunc_extern Tryd.prog 51 _ (ReflectliteType.method ReflectliteType.elem) Tryd.func51 (by kernel_rfl) (by kernel_rfl) (by kernel_rfl) (by kernel_rfl)
  have hIM := @run_callFunc_extern Tryd.prog 52 _ (ReflectliteType.relation "Implements" ReflectliteType.implements_) Tryd.func52 (by kernel_rfl) (by kernel_rfl) (by kernel_rfl) (by kernel_rfl)
  have f6 := valueOfPEF
  have f7 := typePEF
  have mK := methodKind
  have mE := methodElem
  have mI := methodImplements
  have kP := kindPEF
  have kE := kindEF
  have eP := elemPEF
  have iE := implementsEF
  have n8 := isNilPEF ⟨w.heap.size, 0, none⟩ t ((w.alloc (.cells #[.pointer (some t)] 50)).alloc (.cells #[.pointer (some ⟨1, 50, none⟩), .pointer (some ⟨w.heap.size, 0, none⟩), .int .u64 150] 56)) (by simp)
  have hlt : 0 < w.heap.size := by
    rcases Nat.eq_zero_or_pos w.heap.size with h0 | h
    · simp [World.cell?, h0] at hg
    · exact h
  have hg2 : ((w.alloc (.cells #[.pointer (some t)] 50)).alloc (.cells #[.pointer (some ⟨1, 50, none⟩), .pointer (some ⟨w.heap.size, 0, none⟩), .int .u64 150] 56)).cell? ⟨0, 0, none⟩ = some (.iface 66 (.agg #[.pointer (some ⟨1, 27, none⟩)])) := by
    rw [World.cell?_alloc_lt _ _ ⟨0, 0, none⟩ (by simp), World.cell?_alloc_lt _ _ ⟨0, 0, none⟩ hlt]; exact hg
  clear hg
  have H := Lib.hid h
  clear h
  go_enter Tryd.func17, Tryd.ntmps17
  go_wp2_with ((go_at_call 21; refine H.out.mono ?_; rintro e w' ⟨b, rfl, hq⟩))
  go_ret
  exact ⟨b, rfl, hq⟩
theorem As_fault (n : Int) (b : Nat) (t : Addr) (old : Value) (w : World) (hg : w.cell? ⟨0, 0, none⟩ = some (.iface 66 (.agg #[.pointer (some ⟨1, 27, none⟩)]))) (ht0 : w.cell? t = some old) (hf0 : w.frozen? t = false) (hb : w.cell? ⟨b, 1, none⟩ = some (.iface 42 (.int .i64 n))) :
    Calls Tryd.prog 17 #[.iface 49 (.pointer (some ⟨b, 0, none⟩)), .iface 48 (.pointer (some t))] w fun e w' => ∃ b, e = .returned (.bool b) ∧ (b = true ∧ ∃ w1, Below w.heap.size w w1 ∧ w1.cell? t = some old ∧ w' = w1.setCell t (.int .i64 n)) := by
  refine As_of _ _ t w _ hg ((as_un n b t ⟨w.heap.size, 0, none⟩ old _ (by simp) ?_ ?_ ?_).mono ?_)
  · have htl : t.block < w.heap.size := by
      rcases Nat.lt_or_ge t.block w.heap.size with h | h
      · exact h
      · simp [World.cell?, Array.getElem?_eq_none h] at ht0
    rw [World.cell?_alloc_lt _ _ t (by simp; omega), World.cell?_alloc_lt _ _ t htl]; exact ht0
  · have htl : t.block < w.heap.size := by
      rcases Nat.lt_or_ge t.block w.heap.size with h | h
      · exact h
      · simp [World.cell?, Array.getElem?_eq_none h] at ht0
    rw [World.frozen?_alloc_old _ _ t (by simp; omega), World.frozen?_alloc_old _ _ t (Nat.ne_of_lt htl)]; exact hf0
  · have hbl : b < w.heap.size := by
      rcases Nat.lt_or_ge b w.heap.size with h | h
      · exact h
      · simp [World.cell?, Array.getElem?_eq_none h] at hb
    rw [World.cell?_alloc_lt _ _ ⟨b, 1, none⟩ (by simp; omega), World.cell?_alloc_lt _ _ ⟨b, 1, none⟩ hbl]; exact hb
  · rintro e w' ⟨rfl, rfl⟩
    have b4 : Below w.heap.size w ((((w.alloc (.cells #[.pointer (some t)] 48)).alloc (.cells #[.pointer (some ⟨1, 48, none⟩), .pointer (some ⟨w.heap.size, 0, none⟩), .int .u64 150] 56)).alloc (.cells #[.pointer (some ⟨1, 48, none⟩), .pointer (some ⟨w.heap.size, 0, none⟩), .int .u64 150] 56)).alloc (.cells #[.int .i64 n] 42)) :=
      ((((Below.refl _ _).alloc (Nat.le_refl _) _).alloc (by simp) _).alloc (by simp; omega) _).alloc (by simp; omega) _
    refine ⟨true, rfl, rfl, _, b4, ?_, rfl⟩
    have htl : t.block < w.heap.size := by
      rcases Nat.lt_or_ge t.block w.heap.size with h | h
      · exact h
      · simp [World.cell?, Array.getElem?_eq_none h] at ht0
    rw [b4.cell htl]; exact ht0
theorem As_faultF (e0 : Addr) (t : Addr) (old : Value) (w : World) (hg : w.cell? ⟨0, 0, none⟩ = some (.iface 66 (.agg #[.pointer (some ⟨1, 27, none⟩)]))) (ht0 : w.cell? t = some old) (hf0 : w.frozen? t = false) :
    Calls Tryd.prog 17 #[.iface 49 (.pointer (some e0)), .iface 50 (.pointer (some t))] w fun e w' => ∃ b, e = .returned (.bool b) ∧ (b = true ∧ ∃ w1, Below w.heap.size w w1 ∧ w1.cell? t = some old ∧ w' = w1.setCell t (.pointer (some e0))) := by
  refine As_ofF _ _ t w _ hg ((as_hitF e0 t ⟨w.heap.size, 0, none⟩ old _ (by simp) ?_ ?_).mono ?_)
  · have htl : t.block < w.heap.size := by
      rcases Nat.lt_or_ge t.block w.heap.size with h | h
      · exact h
      · simp [World.cell?, Array.getElem?_eq_none h] at ht0
    rw [World.cell?_alloc_lt _ _ t (by simp; omega), World.cell?_alloc_lt _ _ t htl]; exact ht0
  · have htl : t.block < w.heap.size := by
      rcases Nat.lt_or_ge t.block w.heap.size with h | h
      · exact h
      · simp [World.cell?, Array.getElem?_eq_none h] at ht0
    rw [World.frozen?_alloc_old _ _ t (by simp; omega), World.frozen?_alloc_old _ _ t (Nat.ne_of_lt htl)]; exact hf0
  · rintro e w' ⟨rfl, rfl⟩
    have b4 : Below w.heap.size w ((((w.alloc (.cells #[.pointer (some t)] 50)).alloc (.cells #[.pointer (some ⟨1, 50, none⟩), .pointer (some ⟨w.heap.size, 0, none⟩), .int .u64 150] 56)).alloc (.cells #[.pointer (some ⟨1, 50, none⟩), .pointer (some ⟨w.heap.size, 0, none⟩), .int .u64 150] 56)).alloc (.cells #[.pointer (some e0)] 49)) :=
      ((((Below.refl _ _).alloc (Nat.le_refl _) _).alloc (by simp) _).alloc (by simp; omega) _).alloc (by simp; omega) _
    refine ⟨true, rfl, rfl, _, b4, ?_, rfl⟩
    have htl : t.block < w.heap.size := by
      rcases Nat.lt_or_ge t.block w.heap.size with h | h
      · exact h
      · simp [World.cell?, Array.getElem?_eq_none h] at ht0
    rw [b4.cell htl]; exact ht0
theorem As_missF (n : Int) (t : Addr) (w : World) (hg : w.cell? ⟨0, 0, none⟩ = some (.iface 66 (.agg #[.pointer (some ⟨1, 27, none⟩)]))) :
    Calls Tryd.prog 17 #[.iface 42 (.int .i64 n), .iface 50 (.pointer (some t))] w fun e w' => ∃ b, e = .returned (.bool b) ∧ (b = false ∧ Below w.heap.size w w') := by
  refine As_ofF _ _ t w _ hg ((as_missF n t ⟨w.heap.size, 0, none⟩ _).mono ?_)
  rintro e w' ⟨rfl, rfl⟩
  exact ⟨false, rfl, rfl, (((Below.refl _ _).alloc (Nat.le_refl _) _).alloc (by simp) _).alloc (by simp; omega) _⟩
/-- api.Code of a fault. -/
theorem code_fault (n : Int) (b : Nat) (w : World) (hg : w.cell? ⟨0, 0, none⟩ = some (.iface 66 (.agg #[.pointer (some ⟨1, 27, none⟩)]))) (hb : w.cell? ⟨b, 1, none⟩ = some (.iface 42 (.int .i64 n))) :
    Calls Tryd.prog 11 #[.iface 49 (.pointer (some ⟨b, 0, none⟩))] w fun e w' => e = .returned (.int .i64 n) ∧ Below w.heap.size w w' := by
  have hlt : 0 < w.heap.size := by
    rcases Nat.eq_zero_or_pos w.heap.size with h0 | h
    · simp [World.cell?, h0] at hg
    · exact h
  have hgA : (w.alloc (.cells #[.int .i64 0] 42)).cell? ⟨0, 0, none⟩ = some (.iface 66 (.agg #[.pointer (some ⟨1, 27, none⟩)])) := by
    rw [World.cell?_alloc_lt _ _ ⟨0, 0, none⟩ hlt]; exact hg
  have hbl : b < w.heap.size := by
    rcases Nat.lt_or_ge b w.heap.size with h | h
    · exact h
    · simp [World.cell?, Array.getElem?_eq_none h] at hb
  have H := Lib.hid (As_fault n b ⟨w.heap.size, 0, none⟩ (.int .i64 0) _ hgA (by simp) (by simp) (by rw [World.cell?_alloc_lt _ _ ⟨b, 1, none⟩ hbl]; exact hb))
  clear hg hgA hb
  go_enter Tryd.func11, Tryd.ntmps11
  go_wp2_with fail
  refine H.out.mono ?_
  rintro e w' ⟨c, rfl, rfl, w1, hb, ho, rfl⟩
  have hc : (w1.setCell ⟨w.heap.size, 0, none⟩ (.int .i64 n)).cell? ⟨w.heap.size, 0, none⟩ = some (.int .i64 n) := World.cell?_setCell_same' w1 _ _ (by rw [ho]; rfl)
  have HB := Lib.hid hb
  clear hb ho H
  go_wp2
  go_ret
  exact ⟨rfl, (((Below.refl _ _).alloc (Nat.le_refl _) _).trans (HB.out.mono (by simp))).setCell (by simp) _⟩
/-- api.At. -/
theorem at_nil (w : World) : Calls Tryd.prog 12 #[.nilIface] w fun e w' => e = .returned (.int .i64 (-1)) ∧ Below w.heap.size w w' := by
  go_enter Tryd.func12, Tryd.ntmps12
  go_wp2
  go_ret
  exact ⟨rfl, (Below.refl _ _).alloc (Nat.le_refl _) _⟩
theorem at_errno (n : Int) (w : World) (hg : w.cell? ⟨0, 0, none⟩ = some (.iface 66 (.agg #[.pointer (some ⟨1, 27, none⟩)]))) :
    Calls Tryd.prog 12 #[.iface 42 (.int .i64 n)] w fun e w' => e = .returned (.int .i64 (-1)) ∧ Below w.heap.size w w' := by
  have hlt : 0 < w.heap.size := by
    rcases Nat.eq_zero_or_pos w.heap.size with h0 | h
    · simp [World.cell?, h0] at hg
    · exact h
  have hgA : (w.alloc (.cells #[.pointer none] 49)).cell? ⟨0, 0, none⟩ = some (.iface 66 (.agg #[.pointer (some ⟨1, 27, none⟩)])) := by
    rw [World.cell?_alloc_lt _ _ ⟨0, 0, none⟩ hlt]; exact hg
  have H := Lib.hid (As_missF n ⟨w.heap.size, 0, none⟩ _ hgA)
  clear hg hgA
  go_enter Tryd.func12, Tryd.ntmps12
  go_wp2_with fail
  refine H.out.mono ?_
  rintro e w' ⟨c, rfl, rfl, hb⟩
  have HB := Lib.hid hb
  clear hb H
  go_wp2
  go_ret
  exact ⟨rfl, ((Below.refl _ _).alloc (Nat.le_refl _) _).trans (HB.out.mono (by simp))⟩
theorem at_fault (k : Int) (b : Nat) (w : World) (hg : w.cell? ⟨0, 0, none⟩ = some (.iface 66 (.agg #[.pointer (some ⟨1, 27, none⟩)]))) (hb : w.cell? ⟨b, 0, none⟩ = some (.int .i64 k)) :
    Calls Tryd.prog 12 #[.iface 49 (.pointer (some ⟨b, 0, none⟩))] w fun e w' => e = .returned (.int .i64 k) ∧ Below w.heap.size w w' := by
  have hlt : 0 < w.heap.size := by
    rcases Nat.eq_zero_or_pos w.heap.size with h0 | h
    · simp [World.cell?, h0] at hg
    · exact h
  have hbl : b < w.heap.size := by
    rcases Nat.lt_or_ge b w.heap.size with h | h
    · exact h
    · simp [World.cell?, Array.getElem?_eq_none h] at hb
  have hgA : (w.alloc (.cells #[.pointer none] 49)).cell? ⟨0, 0, none⟩ = some (.iface 66 (.agg #[.pointer (some ⟨1, 27, none⟩)])) := by
    rw [World.cell?_alloc_lt _ _ ⟨0, 0, none⟩ hlt]; exact hg
  have hbA : (w.alloc (.cells #[.pointer none] 49)).cell? ⟨b, 0, none⟩ = some (.int .i64 k) := by
    rw [World.cell?_alloc_lt _ _ ⟨b, 0, none⟩ hbl]; exact hb
  have H := Lib.hid (As_faultF ⟨b, 0, none⟩ ⟨w.heap.size, 0, none⟩ (.pointer none) _ hgA (by simp) (by simp))
  clear hg hgA hb
  go_enter Tryd.func12, Tryd.ntmps12
  go_wp2_with fail
  refine H.out.mono ?_
  rintro e w' ⟨c, rfl, rfl, w1, hbel, ho, rfl⟩
  have hc : (w1.setCell ⟨w.heap.size, 0, none⟩ (.pointer (some ⟨b, 0, none⟩))).cell? ⟨w.heap.size, 0, none⟩ = some (.pointer (some ⟨b, 0, none⟩)) := World.cell?_setCell_same' w1 _ _ (by rw [ho]; rfl)
  have hd : (w1.setCell ⟨w.heap.size, 0, none⟩ (.pointer (some ⟨b, 0, none⟩))).cell? ⟨b, 0, none⟩ = some (.int .i64 k) := by
    refine (World.cell?_of_block (w := w1) (Below.heap_setCell w1 _ _ b (by show b ≠ w.heap.size; omega))).trans ?_
    rw [hbel.cell (p := ⟨b, 0, none⟩) (by simp; omega)]; exact hbA
  have HB := Lib.hid hbel
  clear hbel ho H hbA
  go_wp2
  go_ret
  exact ⟨rfl, (((Below.refl _ _).alloc (Nat.le_refl _) _).trans (HB.out.mono (by simp))).setCell (by simp) _⟩
end AsW
end Go.Proofs.YtmbmdhkfddljjaaDoor
namespace Go.Proofs.YtmbmdhkfddljjaaDoor
open Go Sx Go.RowKit
set_option maxRecDepth 100000
namespace AsW
theorem errAt {ow : Own} {w : World} (h : Glob Tryd.prog ow w) : w.cell? ⟨0, 0, none⟩ = some (.iface 66 (.agg #[.pointer (some ⟨1, 27, none⟩)])) := by
  have := globErr h (show Tryd.prog.globalNamed "errors.errorType" = some 0 by kernel_rfl) (show (Tryd.prog.cutTypes.find? (·.1 == "internal/reflectlite.rtype")).map (·.2) = some 66 by kernel_rfl)
    (show (List.range Tryd.prog.types.size).find? (fun t => Tryd.prog.rowNamed t [101, 114, 114, 111, 114]) = some 27 by kernel_rfl)
  rw [this, show typeHandle Tryd.prog 27 = .pointer (some ⟨1, 27, none⟩) by kernel_rfl]
theorem enterCode : Entered Tryd.prog 11 := ⟨Tryd.f11, Tryd.func11, by kernel_rfl, by kernel_rfl⟩
end AsW
theorem code_nil_c : Ctr Tryd.prog 11 [] [.nilif] fun v H => v = .int .i64 (.lit 0) ∧ H = [] := by
  refine Ctr.of_below AsW.enterCode fun w r vals hg hgl hv => ?_
  obtain ⟨x, rfl, hx⟩ := vrelL_one hv
  simp only [VRel] at hx
  subst hx
  exact (AsW.code_nil w).mono fun e w' ⟨h1, h2⟩ => ⟨_, h1, rfl, h2⟩
theorem code_c (n : Iv) : Ctr Tryd.prog 11 [] [.iface 42 (.int .i64 n)] fun v H => v = .int .i64 (.sym n.val) ∧ H = [] := by
  refine Ctr.of_below AsW.enterCode fun w r vals hg hgl hv => ?_
  obtain ⟨x, rfl, hx⟩ := vrelL_one hv
  simp only [VRel] at hx
  obtain ⟨u, rfl, rfl⟩ := hx
  exact (AsW.code_errno n.val w (AsW.errAt hgl)).mono fun e w' ⟨h1, h2⟩ => ⟨_, h1, rfl, h2⟩
/-- A fault's block, in a world. -/
theorem AsW.fault_in {r : Rho} {w : World} {own : Own} {a n : Iv} {x : Value} (hg : Sx.Good Tryd.prog own r [.cells 52 [.int .i64 a, .iface 42 (.int .i64 n)]] w) (hx : VRel r (.iface 49 (.ptr 0 ⟨.lit 0, 1, 0⟩)) x) :
    ∃ b, x = .iface 49 (.pointer (some ⟨b, 0, none⟩)) ∧ w.cell? ⟨b, 0, none⟩ = some (.int .i64 a.val) ∧ w.cell? ⟨b, 1, none⟩ = some (.iface 42 (.int .i64 n.val)) := by
  simp only [VRel] at hx
  obtain ⟨u, rfl, y, c, hy, hc, _, rfl⟩ := hx
  obtain ⟨z, hz, hb⟩ := hg.rel 0 (by simp [hget])
  rw [hy] at hz; cases hz
  simp only [hget, BRel] at hb
  obtain ⟨g, vals, h1, h2, h3, _⟩ := hb
  rw [h1] at hc; cases hc
  refine ⟨g, by simp [Addr.add, Off.nat], ?_⟩
  obtain ⟨l⟩ := vals
  simp only at h3
  match l, h3 with
  | [p, q], h3 =>
    simp only [VRelL, VRel] at h3
    obtain ⟨rfl, ⟨u, rfl, rfl⟩, _⟩ := h3
    exact ⟨by simp [World.cell?, h2], by simp [World.cell?, h2]⟩
  | [], h3 => simp [VRelL] at h3
  | [_], h3 => simp [VRelL] at h3
  | _ :: _ :: _ :: _, h3 => simp [VRelL] at h3
theorem AsW.enterAt : Entered Tryd.prog 12 := ⟨Tryd.f12, Tryd.func12, by kernel_rfl, by kernel_rfl⟩
theorem code_fault_c (a n : Iv) : Ctr Tryd.prog 11 [.cells 52 [.int .i64 a, .iface 42 (.int .i64 n)]] [.iface 49 (.ptr 0 ⟨.lit 0, 1, 0⟩)] fun v H => v = .int .i64 (.sym n.val) ∧ H = [.cells 52 [.int .i64 a, .iface 42 (.int .i64 n)]] := by
  refine Ctr.of_below AsW.enterCode fun w r vals hg hgl hv => ?_
  obtain ⟨x, rfl, hx⟩ := vrelL_one hv
  obtain ⟨b, rfl, _, h2⟩ := AsW.fault_in hg hx
  exact (AsW.code_fault n.val b w (AsW.errAt hgl) h2).mono fun e w' ⟨h1, h2⟩ => ⟨_, h1, rfl, h2⟩
theorem at_nil_c : Ctr Tryd.prog 12 [] [.nilif] fun v H => v = .int .i64 (.lit (-1)) ∧ H = [] := by
  refine Ctr.of_below AsW.enterAt fun w r vals hg hgl hv => ?_
  obtain ⟨x, rfl, hx⟩ := vrelL_one hv
  simp only [VRel] at hx
  subst hx
  exact (AsW.at_nil w).mono fun e w' ⟨h1, h2⟩ => ⟨_, h1, rfl, h2⟩
theorem at_c (n : Iv) : Ctr Tryd.prog 12 [] [.iface 42 (.int .i64 n)] fun v H => v = .int .i64 (.lit (-1)) ∧ H = [] := by
  refine Ctr.of_below AsW.enterAt fun w r vals hg hgl hv => ?_
  obtain ⟨x, rfl, hx⟩ := vrelL_one hv
  simp only [VRel] at hx
  obtain ⟨u, rfl, rfl⟩ := hx
  exact (AsW.at_errno n.val w (AsW.errAt hgl)).mono fun e w' ⟨h1, h2⟩ => ⟨_, h1, rfl, h2⟩
theorem at_fault_c (a n : Iv) : Ctr Tryd.prog 12 [.cells 52 [.int .i64 a, .iface 42 (.int .i64 n)]] [.iface 49 (.ptr 0 ⟨.lit 0, 1, 0⟩)] fun v H => v = .int .i64 (.sym a.val) ∧ H = [.cells 52 [.int .i64 a, .iface 42 (.int .i64 n)]] := by
  refine Ctr.of_below AsW.enterAt fun w r vals hg hgl hv => ?_
  obtain ⟨x, rfl, hx⟩ := vrelL_one hv
  obtain ⟨b, rfl, h1, _⟩ := AsW.fault_in hg hx
  exact (AsW.at_fault a.val b w (AsW.errAt hgl) h1).mono fun e w' ⟨h1, h2⟩ => ⟨_, h1, rfl, h2⟩
end Go.Proofs.YtmbmdhkfddljjaaDoor
namespace Go.Proofs.YtmbmdhkfddljjaaDoor
open Go Sx
set_option maxRecDepth 100000
set_option maxHeartbeats 4000000
theorem mixed : Tryd.prog.follows .mixedOrders = true := by kernel_rfl
theorem clone_ctr (ys : List Int) (n : Int) (hn : n = ys.length) (hb : n ≤ 1099511627776) : Ctr Tryd.prog 15 [.cols .ro 5 [.ints .u8 (.sym ys)]] [.sl 0 (.lit 0) (.sym n)]
    fun v H => v = .vec 1 (.sym n) ∧ H = [.cols .ro 5 [.ints .u8 (.sym ys)], .cols (.row 1) 5 [.ints .u8 (.sym ys)]] := by
  have n0 : 0 ≤ n := by omega
  have nlen : n = ys.length := hn
  refine Ctr.weak (Ctr.mono (R := fun v H => ∃ (m : Iv) (zs : Lv), m.val = n ∧ zs.raw = ys ∧ v = .vec 1 m ∧ H = [.cols .ro 5 [.ints .u8 (.sym ys)], .cols (.row 1) 5 [.ints .u8 zs]])
    (Ctr.nil_row (R := fun v H => (n = 0 ∧ v = .nilsl ∧ H = [.cols .ro 5 [.ints .u8 (.sym ys)]]) ∨ (v = .vec 1 (.sym n) ∧ H = [.cols .ro 5 [.ints .u8 (.sym ys)], .cols (.row 1) 5 [.ints .u8 (.sym ys)]])) ?_ ?_) ?_)
  · obtain ⟨uI, uB, uS, uL, uT, hu⟩ := words
    have hm := mixed
    have hT := tabOk
    obtain ⟨P, hP⟩ : ∃ P, P = Tryd.prog := ⟨_, rfl⟩
    rw [← hP] at hm hT ⊢
    refine Ctr.weak (ctr_of_vc hu hm hT (hP ▸ Tryd.func15) rfl (by kernel_rfl) ?_)
    clear hP hm hT
    generalize hR : Weak _ _ = R
    cbv
    repeat' (first | (intro h; (try subst h); cbv) | (refine And.intro ?_ ?_))
    all_goals have e0 : subL ys 0 (ys.length : Int) = ys := subL_all ys _ rfl
    · subst hR
      exact Weak.of (.inl ⟨rfl, rfl, rfl⟩) trivial ⟨⟨rfl, ⟨rfl, rfl⟩, trivial⟩, trivial⟩ rfl
    · clear hR
      simp only [hu.b, hu.i, iB, iI, cmpB, Iv.val_sym, Iv.val_lit, Lv.raw, Tv.raw, decide_eq_true_eq, decide_eq_false_iff_not, beq_iff_eq, beq_eq_false_iff_ne, ne_eq, ofN, Int.toNat_zero, Int.toNat_one, Int.reduceToNat, natc, hu.s, iS, Sv.val_lit, Sv.val_sym, true_iff, false_iff, Bool.false_eq_true, bne_iff_ne, bne_eq_false_iff_eq, Bool.not_eq_true', Bool.not_eq_false', Decidable.not_not, nil_toList, ByteArray.size_empty, nilS, not_true_eq_false, not_false_eq_true] at *
      try simp only [Int.ofNat_eq_natCast] at *
      omega
    · clear hR
      simp only [hu.b, hu.i, iB, iI, cmpB, Iv.val_sym, Iv.val_lit, Lv.raw, Tv.raw, decide_eq_true_eq, decide_eq_false_iff_not, beq_iff_eq, beq_eq_false_iff_ne, ne_eq, ofN, Int.toNat_zero, Int.toNat_one, Int.reduceToNat, natc, hu.s, iS, Sv.val_lit, Sv.val_sym, true_iff, false_iff, Bool.false_eq_true, bne_iff_ne, bne_eq_false_iff_eq, Bool.not_eq_true', Bool.not_eq_false', Decidable.not_not, nil_toList, ByteArray.size_empty, nilS, not_true_eq_false, not_false_eq_true, hu.l, iL] at *
      try simp only [Int.ofNat_eq_natCast] at *
      have hl : (subL ys 0 n).length = ys.length := by rw [hn, e0]
      omega
    · subst hR
      refine Weak.of (.inr ⟨rfl, rfl⟩) ⟨rfl, ?_⟩ ⟨⟨rfl, ⟨rfl, rfl⟩, trivial⟩, ⟨rfl, rfl, ⟨rfl, ?_⟩, trivial⟩, trivial⟩ rfl
      · simp only [Iv.val_sym, Iv.val_lit, hu.i, hu.l, iI, iL, Lv.raw, lvals, List.nil_append, ofN, natc]
        rw [hn]; simp only [Int.ofNat_eq_natCast, e0]
      · simp only [Iv.val_sym, Iv.val_lit, hu.i, hu.l, iI, iL, Lv.raw, lvals, List.nil_append, ofN, natc]
        rw [hn]; simp only [Int.ofNat_eq_natCast, e0]
  · rintro v H (⟨h0, rfl, rfl⟩ | ⟨rfl, rfl⟩)
    · have hy : ys = [] := List.eq_nil_of_length_eq_zero (by omega)
      exact .inr ⟨rfl, by simp, 5, .u8, .lit 0, .lits [], h0.symm, hy.symm, rfl, rfl⟩
    · exact .inl ⟨.sym n, .sym ys, rfl, rfl, rfl, rfl⟩
  · rintro v H ⟨m, zs, hm, hz, rfl, rfl⟩
    exact Weak.of ⟨rfl, rfl⟩ ⟨rfl, hm⟩ ⟨⟨rfl, ⟨rfl, rfl⟩, trivial⟩, ⟨rfl, rfl, ⟨rfl, hz⟩, trivial⟩, trivial⟩ rfl
theorem clone_c (ys : Lv) (n : Iv) (hn : n.val = ys.raw.length) (hb : n.val ≤ 1099511627776) : Ctr Tryd.prog 15 [.cols .ro 5 [.ints .u8 ys]] [.sl 0 (.lit 0) n]
    fun v H => v = .vec 1 (.sym n.val) ∧ H = [.cols .ro 5 [.ints .u8 (.sym ys.raw)], .cols (.row 1) 5 [.ints .u8 (.sym ys.raw)]] :=
  Ctr.conv (clone_ctr ys.raw n.val hn hb) ⟨⟨⟨rfl, ⟨rfl, rfl⟩, trivial⟩, rfl⟩, trivial⟩ ⟨⟨rfl, rfl, rfl⟩, trivial⟩
/-- New. -/
theorem new_ctr (ys : List Int) (n : Int) (hn : n = ys.length) : Ctr Tryd.prog 8 [.cols .ro 5 [.ints .u8 (.sym ys)]] [.sl 0 (.lit 0) (.sym n)]
    fun v H => (65536 < n ∧ v = .tup [.nilp, .iface 42 (.int .i64 (.sym 2))] ∧ H = [.cols .ro 5 [.ints .u8 (.sym ys)]]) ∨
      (n ≤ 65536 ∧ v = .tup [.ptr 1 ⟨.lit 0, 1, 0⟩, .nilif] ∧ H = [.cols .ro 5 [.ints .u8 (.sym ys)], .cells 45 [.sl 2 (.sym 0) (.sym n)], .cols (.row 1) 5 [.ints .u8 (.sym ys)]]) := by
  have n0 : 0 ≤ n := by omega
  obtain ⟨uI, uB, uS, uL, uT, hu⟩ := words
  have hm := mixed
  have hT := tabOk
  have hc := @clone_c
  obtain ⟨P, hP⟩ : ∃ P, P = Tryd.prog := ⟨_, rfl⟩
  rw [← hP] at hm hT hc ⊢
  refine Ctr.weak (ctr_of_vc hu hm hT (hP ▸ Tryd.func8) rfl (by kernel_rfl) ?_)
  clear hP hm hT
  generalize hR : Weak _ _ = R
  have e0 : uL (.sub ys 0 n) = ys := by rw [hu.l]; exact subL_all ys n hn
  cbv
  repeat' (first | (intro h; (try subst h); cbv) | (refine And.intro ?_ ?_) | (refine CallVC.mk (Ctr.mono (hc _ _ (by simp only [Lv.raw, Iv.val_sym, Iv.val_lit, e0]; exact hn) (by clear hc hR e0; simp only [hu.b, hu.i, iB, iI, cmpB, Iv.val_sym, Iv.val_lit, Lv.raw, Tv.raw, decide_eq_true_eq, decide_eq_false_iff_not, beq_iff_eq, beq_eq_false_iff_ne, ne_eq, ofN, Int.toNat_zero, Int.toNat_one, Int.reduceToNat, natc, hu.s, iS, Sv.val_lit, Sv.val_sym, true_iff, false_iff, Bool.false_eq_true, bne_iff_ne, bne_eq_false_iff_eq, Bool.not_eq_true', Bool.not_eq_false', Decidable.not_not, nil_toList, ByteArray.size_empty, nilS, not_true_eq_false, not_false_eq_true, hu.l, iL] at *; (try simp only [Int.ofNat_eq_natCast] at *); omega)) ?_); rintro v H ⟨rfl, rfl⟩ <;> cbv))
  all_goals clear hc
  · subst hR
    refine Weak.of (.inl ⟨?_, rfl, rfl⟩) ⟨trivial, ⟨rfl, rfl, rfl⟩, trivial⟩ ⟨⟨rfl, ⟨rfl, rfl⟩, trivial⟩, trivial⟩ rfl
    simp only [hu.b, hu.i, iB, iI, cmpB, Iv.val_sym, Iv.val_lit, Lv.raw, Tv.raw, decide_eq_true_eq, decide_eq_false_iff_not, beq_iff_eq, beq_eq_false_iff_ne, ne_eq, ofN, Int.toNat_zero, Int.toNat_one, Int.reduceToNat, natc, hu.s, iS, Sv.val_lit, Sv.val_sym, true_iff, false_iff, Bool.false_eq_true, bne_iff_ne, bne_eq_false_iff_eq, Bool.not_eq_true', Bool.not_eq_false', Decidable.not_not, nil_toList, ByteArray.size_empty, nilS, not_true_eq_false, not_false_eq_true] at *
    try simp only [Int.ofNat_eq_natCast] at *
    omega
  · clear hR
    simp only [hu.b, hu.i, iB, iI, cmpB, Iv.val_sym, Iv.val_lit, Lv.raw, Tv.raw, decide_eq_true_eq, decide_eq_false_iff_not, beq_iff_eq, beq_eq_false_iff_ne, ne_eq, ofN, Int.toNat_zero, Int.toNat_one, Int.reduceToNat, natc, hu.s, iS, Sv.val_lit, Sv.val_sym, true_iff, false_iff, Bool.false_eq_true, bne_iff_ne, bne_eq_false_iff_eq, Bool.not_eq_true', Bool.not_eq_false', Decidable.not_not, nil_toList, ByteArray.size_empty, nilS, not_true_eq_false, not_false_eq_true] at *
    try simp only [Int.ofNat_eq_natCast] at *
    omega
  · subst hR
    refine Weak.of (.inr ⟨?_, rfl, rfl⟩) ⟨⟨rfl, rfl, fun _ => Int.le_refl 0⟩, trivial, trivial⟩ ⟨⟨rfl, ⟨rfl, rfl⟩, trivial⟩, ⟨rfl, ⟨rfl, rfl, rfl⟩, trivial⟩, ⟨rfl, rfl, ⟨rfl, ?_⟩, trivial⟩, trivial⟩ rfl
    · simp only [hu.b, hu.i, iB, iI, cmpB, Iv.val_sym, Iv.val_lit, Lv.raw, Tv.raw, decide_eq_true_eq, decide_eq_false_iff_not, beq_iff_eq, beq_eq_false_iff_ne, ne_eq, ofN, Int.toNat_zero, Int.toNat_one, Int.reduceToNat, natc, hu.s, iS, Sv.val_lit, Sv.val_sym, true_iff, false_iff, Bool.false_eq_true, bne_iff_ne, bne_eq_false_iff_eq, Bool.not_eq_true', Bool.not_eq_false', Decidable.not_not, nil_toList, ByteArray.size_empty, nilS, not_true_eq_false, not_false_eq_true] at *
      try simp only [Int.ofNat_eq_natCast] at *
      omega
    · exact e0
theorem new_c (ys : Lv) (n : Iv) (hn : n.val = ys.raw.length) : Ctr Tryd.prog 8 [.cols .ro 5 [.ints .u8 ys]] [.sl 0 (.lit 0) n]
    fun v H => (65536 < n.val ∧ v = .tup [.nilp, .iface 42 (.int .i64 (.sym 2))] ∧ H = [.cols .ro 5 [.ints .u8 (.sym ys.raw)]]) ∨
      (n.val ≤ 65536 ∧ v = .tup [.ptr 1 ⟨.lit 0, 1, 0⟩, .nilif] ∧ H = [.cols .ro 5 [.ints .u8 (.sym ys.raw)], .cells 45 [.sl 2 (.sym 0) (.sym n.val)], .cols (.row 1) 5 [.ints .u8 (.sym ys.raw)]]) :=
  Ctr.conv (new_ctr ys.raw n.val hn) ⟨⟨⟨rfl, ⟨rfl, rfl⟩, trivial⟩, rfl⟩, trivial⟩ ⟨⟨rfl, rfl, rfl⟩, trivial⟩
/-- Left. -/
theorem left_ctr (bs : List Int) (o n : Int) : Ctr Tryd.prog 9 [.cells 45 [.sl 1 (.sym o) (.sym n)], .cols (.row 1) 5 [.ints .u8 (.sym bs)]] [.ptr 0 ⟨.lit 0, 1, 0⟩]
    fun v H => v = .int .i64 (.sym n) ∧ H = [.cells 45 [.sl 1 (.sym o) (.sym n)], .cols (.row 1) 5 [.ints .u8 (.sym bs)]] := by
  obtain ⟨uI, uB, uS, uL, uT, hu⟩ := words
  have hm := mixed
  have hT := tabOk
  obtain ⟨P, hP⟩ : ∃ P, P = Tryd.prog := ⟨_, rfl⟩
  rw [← hP] at hm hT ⊢
  refine Ctr.weak (ctr_of_vc hu hm hT (hP ▸ Tryd.func9) rfl (by kernel_rfl) ?_)
  clear hP hm hT
  generalize hR : Weak _ _ = R
  cbv
  repeat' (first | (intro h; (try subst h); cbv) | (refine And.intro ?_ ?_))
  subst hR
  exact Weak.of ⟨rfl, rfl⟩ ⟨rfl, rfl⟩ ⟨⟨rfl, ⟨rfl, rfl, rfl⟩, trivial⟩, ⟨rfl, rfl, ⟨rfl, rfl⟩, trivial⟩, trivial⟩ rfl
theorem short_ctr (bs : List Int) (o n : Int) : Ctr Tryd.prog 16 [.cells 45 [.sl 1 (.sym o) (.sym n)], .cols (.row 1) 5 [.ints .u8 (.sym bs)]] [.ptr 0 ⟨.lit 0, 1, 0⟩]
    fun v H => v = .iface 49 (.ptr 2 ⟨.lit 0, 1, 0⟩) ∧ H = [.cells 45 [.sl 1 (.sym o) (.sym n)], .cols (.row 1) 5 [.ints .u8 (.sym bs)], .cells 52 [.int .i64 (.sym n), .iface 42 (.int .i64 (.sym 13))]] := by
  obtain ⟨uI, uB, uS, uL, uT, hu⟩ := words
  have hm := mixed
  have hT := tabOk
  obtain ⟨P, hP⟩ : ∃ P, P = Tryd.prog := ⟨_, rfl⟩
  rw [← hP] at hm hT ⊢
  refine Ctr.weak (ctr_of_vc hu hm hT (hP ▸ Tryd.func16) rfl (by kernel_rfl) ?_)
  clear hP hm hT
  generalize hR : Weak _ _ = R
  cbv
  repeat' (first | (intro h; (try subst h); cbv) | (refine And.intro ?_ ?_))
  subst hR
  exact Weak.of ⟨rfl, rfl⟩ ⟨rfl, rfl, rfl, fun _ => Int.le_refl 0⟩ ⟨⟨rfl, ⟨rfl, rfl, rfl⟩, trivial⟩, ⟨rfl, rfl, ⟨rfl, rfl⟩, trivial⟩, ⟨rfl, ⟨rfl, rfl⟩, ⟨rfl, rfl, rfl⟩, trivial⟩, trivial⟩ rfl
def TakeR (bs : List Int) (o n k : Int) (v : V) (H : Hp) : Prop :=
  (k < 0 ∧ v = .tup [.nilsl, .iface 42 (.int .i64 (.sym 1))] ∧ H = [.cells 45 [.sl 1 (.sym o) (.sym n)], .cols (.row 1) 5 [.ints .u8 (.sym bs)]]) ∨
  (0 ≤ k ∧ n < k ∧ v = .tup [.nilsl, .iface 49 (.ptr 2 ⟨.lit 0, 1, 0⟩)] ∧ H = [.cells 45 [.sl 1 (.sym o) (.sym n)], .cols (.row 1) 5 [.ints .u8 (.sym bs)], .cells 52 [.int .i64 (.sym n), .iface 42 (.int .i64 (.sym 13))]]) ∨
  (0 ≤ k ∧ k ≤ n ∧ v = .tup [.vec 2 (.sym k), .nilif] ∧ H = [.cells 45 [.sl 1 (.sym (o + k)) (.sym (n - k))], .cols (.row 1) 5 [.ints .u8 (.sym bs)], .cols (.row 1) 5 [.ints .u8 (.sym (subL bs o k))]])
theorem take_ctr (bs : List Int) (o n k : Int) (ho : 0 ≤ o) (hn : 0 ≤ n) (hb : o + n ≤ bs.length) (hl : n ≤ 65536) : Ctr Tryd.prog 10 [.cells 45 [.sl 1 (.sym o) (.sym n)], .cols (.row 1) 5 [.ints .u8 (.sym bs)]] [.ptr 0 ⟨.lit 0, 1, 0⟩, .int .i64 (.sym k)] (TakeR bs o n k) := by
  obtain ⟨uI, uB, uS, uL, uT, hu⟩ := words
  have hm := mixed
  have hT := tabOk
  have hc := @clone_c
  have hs := @short_ctr
  obtain ⟨P, hP⟩ : ∃ P, P = Tryd.prog := ⟨_, rfl⟩
  rw [← hP] at hm hT hc hs ⊢
  refine Ctr.weak (ctr_of_vc hu hm hT (hP ▸ Tryd.func10) rfl (by kernel_rfl) ?_)
  clear hP hm hT
  generalize hR : Weak _ _ = R
  cbv
  repeat' (first | (intro h; (try subst h); cbv) | (refine And.intro ?_ ?_) | (refine CallVC.mk (Ctr.mono (hs _ _ _) ?_); rintro v H ⟨rfl, rfl⟩ <;> cbv) | (refine CallVC.mk (Ctr.mono (hc _ _ (by clear hc hs hR; simp only [hu.b, hu.i, iB, iI, cmpB, Iv.val_sym, Iv.val_lit, Lv.raw, Tv.raw, decide_eq_true_eq, decide_eq_false_iff_not, beq_iff_eq, beq_eq_false_iff_ne, ne_eq, ofN, Int.toNat_zero, Int.toNat_one, Int.reduceToNat, natc, hu.s, iS, Sv.val_lit, Sv.val_sym, true_iff, false_iff, Bool.false_eq_true, bne_iff_ne, bne_eq_false_iff_eq, Bool.not_eq_true', Bool.not_eq_false', Decidable.not_not, nil_toList, ByteArray.size_empty, nilS, not_true_eq_false, not_false_eq_true, hu.l, iL] at *; (try simp only [Int.ofNat_eq_natCast] at *); exact (subL_length ho (by omega) (by omega)).symm) (by clear hc hs hR; simp only [hu.b, hu.i, iB, iI, cmpB, Iv.val_sym, Iv.val_lit, Lv.raw, Tv.raw, decide_eq_true_eq, decide_eq_false_iff_not, beq_iff_eq, beq_eq_false_iff_ne, ne_eq, ofN, Int.toNat_zero, Int.toNat_one, Int.reduceToNat, natc, hu.s, iS, Sv.val_lit, Sv.val_sym, true_iff, false_iff, Bool.false_eq_true, bne_iff_ne, bne_eq_false_iff_eq, Bool.not_eq_true', Bool.not_eq_false', Decidable.not_not, nil_toList, ByteArray.size_empty, nilS, not_true_eq_false, not_false_eq_true, hu.l, iL] at *; (try simp only [Int.ofNat_eq_natCast] at *); omega)) ?_); rintro v H ⟨rfl, rfl⟩ <;> cbv))
  all_goals clear hc hs
  all_goals
    simp only [hu.b, hu.i, iB, iI, cmpB, Iv.val_sym, Iv.val_lit, Lv.raw, Tv.raw, decide_eq_true_eq, decide_eq_false_iff_not, beq_iff_eq, beq_eq_false_iff_ne, ne_eq, ofN, Int.toNat_zero, Int.toNat_one, Int.reduceToNat, natc, hu.s, iS, Sv.val_lit, Sv.val_sym, true_iff, false_iff, Bool.false_eq_true, bne_iff_ne, bne_eq_false_iff_eq, Bool.not_eq_true', Bool.not_eq_false', Decidable.not_not, nil_toList, ByteArray.size_empty, nilS, not_true_eq_false, not_false_eq_true, hu.l, iL] at *
    try simp only [Int.ofNat_eq_natCast] at *
  all_goals try omega
  all_goals subst hR
  · exact Weak.of (.inl ⟨by omega, rfl, rfl⟩) ⟨trivial, ⟨rfl, rfl, rfl⟩, trivial⟩ ⟨⟨rfl, ⟨rfl, rfl, rfl⟩, trivial⟩, ⟨rfl, rfl, ⟨rfl, rfl⟩, trivial⟩, trivial⟩ rfl
  · exact Weak.of (.inr (.inl ⟨by omega, by omega, rfl, rfl⟩)) ⟨trivial, ⟨rfl, rfl, rfl, fun _ => Int.le_refl 0⟩, trivial⟩ ⟨⟨rfl, ⟨rfl, rfl, rfl⟩, trivial⟩, ⟨rfl, rfl, ⟨rfl, rfl⟩, trivial⟩, ⟨rfl, ⟨rfl, rfl⟩, ⟨rfl, rfl, rfl⟩, trivial⟩, trivial⟩ rfl
  · exact Weak.of (.inr (.inr ⟨by omega, by omega, rfl, rfl⟩)) ⟨⟨rfl, rfl⟩, trivial, trivial⟩ ⟨⟨rfl, ⟨rfl, by show k * 1 + o = o + k; omega, rfl⟩, trivial⟩, ⟨rfl, rfl, ⟨rfl, rfl⟩, trivial⟩, ⟨rfl, rfl, ⟨rfl, rfl⟩, trivial⟩, trivial⟩ rfl
end Go.Proofs.YtmbmdhkfddljjaaDoor
namespace Go.Proofs.YtmbmdhkfddljjaaDoor
open Go Sx
set_option maxRecDepth 100000
set_option maxHeartbeats 4000000
/-- The digits drawn from bytes. -/
def dig (l : List Int) : List Int := (l.filter (fun b => b < 250)).map (fun b => 48 + b % 10)
theorem dig_snoc (l : List Int) (b : Int) : dig (l ++ [b]) = if b < 250 then dig l ++ [48 + b % 10] else dig l := by
  unfold dig
  by_cases h : b < 250 <;> simp [h]
theorem subL_snoc {xs : List Int} {o j : Int} (ho : 0 ≤ o) (hj : 0 ≤ j) (h : o + j < xs.length) : subL xs o (j + 1) = subL xs o j ++ [xs.getD (o + j).toNat 0] := by
  rw [← subL_cat ho hj (by omega : (0:Int) ≤ 1)]
  congr 1
  simp only [subL]
  rw [show (1 : Int).toNat = 1 from rfl, List.take_one, List.head?_drop, List.getD_eq_getElem?_getD, List.getElem?_eq_getElem (by omega)]
  rfl
/-- What Digits answers. -/
def DigitsR (bs : List Int) (o n k : Int) (v : V) (H : Hp) : Prop :=
  (k < 0 ∧ v = .tup [.str (.lit []), .iface 42 (.int .i64 (.sym 1))] ∧ H = [.cells 45 [.sl 1 (.sym o) (.sym n)], .cols (.row 1) 5 [.ints .u8 (.sym bs)]]) ∨
  (0 ≤ k ∧ ((dig (subL bs o n)).length : Int) < k ∧ v = .tup [.str (.lit []), .iface 49 (.ptr 2 ⟨.lit 0, 1, 0⟩)] ∧ H = [.cells 45 [.sl 1 (.sym o) (.sym n)], .cols (.row 1) 5 [.ints .u8 (.sym bs)], .cells 52 [.int .i64 (.sym n), .iface 42 (.int .i64 (.sym 13))]]) ∨
  (0 ≤ k ∧ ∃ (j : Int) (s : ByteArray), 0 ≤ j ∧ j ≤ n ∧ ((dig (subL bs o j)).length : Int) = k ∧ s = strL (dig (subL bs o j)) ∧ (∀ i : Int, 0 ≤ i → i < j → ((dig (subL bs o i)).length : Int) < k) ∧ v = .tup [.str (.sym s), .nilif] ∧ H = [.cells 45 [.sl 1 (.sym (o + j)) (.sym (n - j))], .cols (.row 1) 5 [.ints .u8 (.sym bs)]])
theorem digits_ctr (bs : List Int) (o n k : Int) (ho : 0 ≤ o) (hn : 0 ≤ n) (hb : o + n ≤ bs.length) (hl : n ≤ 65536) (hx : Bytes bs) : Ctr Tryd.prog 14 [.cells 45 [.sl 1 (.sym o) (.sym n)], .cols (.row 1) 5 [.ints .u8 (.sym bs)]] [.ptr 0 ⟨.lit 0, 1, 0⟩, .int .i64 (.sym k)] (DigitsR bs o n k) := by
  obtain ⟨uI, uB, uS, uL, uT, hu⟩ := words
  have hm := mixed
  have hT := tabOk
  have hs := @short_ctr
  obtain ⟨P, hP⟩ : ∃ P, P = Tryd.prog := ⟨_, rfl⟩
  rw [← hP] at hm hT hs ⊢
  refine Ctr.weak (ctr_of_vc hu hm hT (hP ▸ Tryd.func14) rfl (by kernel_rfl) ?_)
  clear hP hm hT
  generalize hR : Weak _ _ = R
  cbv
  repeat' (first | (intro h; (try subst h); cbv) | (refine And.intro ?_ ?_) | (refine CallVC.mk (Ctr.mono (hs _ _ _) ?_); rintro v H ⟨rfl, rfl⟩ <;> cbv))
  · subst hR
    exact Weak.of (.inl ⟨by
      simp only [hu.b, hu.i, iB, iI, cmpB, Iv.val_sym, Iv.val_lit, Lv.raw, Tv.raw, decide_eq_true_eq, decide_eq_false_iff_not, beq_iff_eq, beq_eq_false_iff_ne, ne_eq, ofN, Int.toNat_zero, Int.toNat_one, Int.reduceToNat, natc, hu.s, iS, Sv.val_lit, Sv.val_sym, true_iff, false_iff, Bool.false_eq_true, bne_iff_ne, bne_eq_false_iff_eq, Bool.not_eq_true', Bool.not_eq_false', Decidable.not_not, nil_toList, ByteArray.size_empty, nilS, not_true_eq_false, not_false_eq_true, hu.l, iL] at *
      try simp only [Int.ofNat_eq_natCast] at *
      omega, rfl, rfl⟩) ⟨rfl, ⟨rfl, rfl, rfl⟩, trivial⟩ ⟨⟨rfl, ⟨rfl, rfl, rfl⟩, trivial⟩, ⟨rfl, rfl, ⟨rfl, rfl⟩, trivial⟩, trivial⟩ rfl
  · refine .nilrow 6 5 .u8 (by kernel_rfl) rfl ?_
    refine .invr (Int × Int × List Int) [6, 7] (fun g => ([.vec 2 (.sym g.2.1), .int .i64 (.sym g.1)], [.cells 45 [.sl 1 (.sym o) (.sym n)], .cols (.row 1) 5 [.ints .u8 (.sym bs)], .cols (.row 1) 5 [.ints .u8 (.sym g.2.2)]])) (fun g => 0 ≤ g.1 ∧ g.1 ≤ n ∧ g.2.1 ≤ k ∧ g.2.1 ≤ g.1 ∧ g.2.1 = g.2.2.length ∧ g.2.2 = dig (subL bs o g.1) ∧ ∀ i : Int, 0 ≤ i → i < g.1 → ((dig (subL bs o i)).length : Int) < k) (fun g => (n - g.1).toNat) (0, 0, []) (by kernel_rfl) (fun j hj => by kernel_rfl) ?_ ?_
    · refine ⟨⟨Int.le_refl 0, hn, ?_, Int.le_refl 0, rfl, ?_, fun i h0 h1 => absurd h1 (Int.not_lt.2 h0)⟩, ⟨⟨rfl, rfl⟩, ⟨rfl, rfl⟩, trivial⟩, ⟨⟨rfl, ⟨rfl, rfl, rfl⟩, trivial⟩, ⟨rfl, rfl, ⟨rfl, rfl⟩, trivial⟩, ⟨rfl, rfl, ⟨rfl, rfl⟩, trivial⟩, trivial⟩⟩
      · clear hs
        simp only [hu.b, hu.i, iB, iI, cmpB, Iv.val_sym, Iv.val_lit, Lv.raw, Tv.raw, decide_eq_true_eq, decide_eq_false_iff_not, beq_iff_eq, beq_eq_false_iff_ne, ne_eq, ofN, Int.toNat_zero, Int.toNat_one, Int.reduceToNat, natc, hu.s, iS, Sv.val_lit, Sv.val_sym, true_iff, false_iff, Bool.false_eq_true, bne_iff_ne, bne_eq_false_iff_eq, Bool.not_eq_true', Bool.not_eq_false', Decidable.not_not, nil_toList, ByteArray.size_empty, nilS, not_true_eq_false, not_false_eq_true, hu.l, iL] at *
        try simp only [Int.ofNat_eq_natCast] at *
        omega
      · show [] = dig (subL bs o 0)
        simp [subL, dig]
    · rintro ⟨j, m, l⟩ hj
      cbv
      repeat' (first | (intro h; (try subst h); cbv) | (refine And.intro ?_ ?_) | (refine CallVC.mk (Ctr.mono (hs _ _ _) ?_); rintro v H ⟨rfl, rfl⟩ <;> cbv))
      all_goals clear hs
      all_goals simp only [] at hj
      all_goals
        simp only [hu.b, hu.i, iB, iI, cmpB, Iv.val_sym, Iv.val_lit, Lv.raw, Tv.raw, decide_eq_true_eq, decide_eq_false_iff_not, beq_iff_eq, beq_eq_false_iff_ne, ne_eq, ofN, Int.toNat_zero, Int.toNat_one, Int.reduceToNat, natc, hu.s, iS, Sv.val_lit, Sv.val_sym, true_iff, false_iff, Bool.false_eq_true, bne_iff_ne, bne_eq_false_iff_eq, Bool.not_eq_true', Bool.not_eq_false', Decidable.not_not, nil_toList, ByteArray.size_empty, nilS, not_true_eq_false, not_false_eq_true, hu.l, iL] at *
        try simp only [Int.ofNat_eq_natCast] at *
      all_goals try omega
      · have hb0 := hx.get (j * 1 + o).toNat
        have e1 : binI .add .i64 j 1 = j + 1 := wr_i64 _ (by omega) (by omega)
        have e2 : binI .add .u8 48 (binI .rem .u8 (bs.getD (j * 1 + o).toNat 0) 10) = 48 + bs.getD (j * 1 + o).toNat 0 % 10 := by
          rw [rem_nn (by omega)]
          show IntKind.u8.wrap (48 + _) = _
          rw [wr_u8]; omega
        have e3 : lvals [.sym (binI .add .u8 48 (binI .rem .u8 (bs.getD (j * 1 + o).toNat 0) 10))] = [48 + bs.getD (j * 1 + o).toNat 0 % 10] := by rw [← e2]; rfl
        refine ⟨(j + 1, m + 1, l ++ [48 + bs.getD (j * 1 + o).toNat 0 % 10]), ⟨?_, ?_, ?_, ?_, ?_, ?_, ?_⟩, ?_, [0, 1, 4], by kernel_rfl, by kernel_rfl, ?_, ?_⟩
        · show 0 ≤ j + 1; omega
        · show j + 1 ≤ n; omega
        · show m + 1 ≤ k; omega
        · show m + 1 ≤ j + 1; omega
        · show m + 1 = ((l ++ [_]).length : Int)
          simp only [List.length_append, List.length_singleton]; omega
        · show l ++ [_] = dig (subL bs o (j + 1))
          rw [subL_snoc ho (by omega) (by omega), dig_snoc, ← hj.2.2.2.2.2.1, show j * 1 + o = o + j by omega]
          rw [if_pos (by rw [show o + j = j * 1 + o by omega]; assumption)]
        · intro i hi0 hij
          by_cases hlt : i < j
          · exact hj.2.2.2.2.2.2 i hi0 hlt
          · have : i = j := by have : i < j + 1 := hij; omega
            subst this; rw [← hj.2.2.2.2.2.1]; omega
        · show (n - (j + 1)).toNat < (n - j).toNat; omega
        · refine ⟨⟨rfl, ?_⟩, ⟨rfl, e1⟩, trivial⟩
          show ((l ++ lvals _).length : Int) = m + 1
          rw [e3]; simp only [List.length_append, List.length_singleton]; omega
        · refine ⟨⟨rfl, ⟨rfl, rfl, rfl⟩, trivial⟩, ⟨rfl, rfl, ⟨rfl, rfl⟩, trivial⟩, ⟨rfl, rfl, ⟨rfl, ?_⟩, trivial⟩, trivial⟩
          show l ++ lvals _ = l ++ [_]
          rw [e3]
      · have e1 : binI .add .i64 j 1 = j + 1 := wr_i64 _ (by omega) (by omega)
        refine ⟨(j + 1, m, l), ⟨?_, ?_, ?_, ?_, ?_, ?_, ?_⟩, ?_, [0, 1, 2], by kernel_rfl, by kernel_rfl, ?_, ?_⟩
        · show 0 ≤ j + 1; omega
        · show j + 1 ≤ n; omega
        · show m ≤ k; omega
        · show m ≤ j + 1; omega
        · show m = (l.length : Int); omega
        · show l = dig (subL bs o (j + 1))
          rw [subL_snoc ho (by omega) (by omega), dig_snoc, ← hj.2.2.2.2.2.1]
          rw [if_neg (by rw [show o + j = j * 1 + o by omega]; assumption)]
        · intro i hi0 hij
          by_cases hlt : i < j
          · exact hj.2.2.2.2.2.2 i hi0 hlt
          · have : i = j := by have : i < j + 1 := hij; omega
            subst this; rw [← hj.2.2.2.2.2.1]; omega
        · show (n - (j + 1)).toNat < (n - j).toNat; omega
        · exact ⟨⟨rfl, rfl⟩, ⟨rfl, e1⟩, trivial⟩
        · exact ⟨⟨rfl, ⟨rfl, rfl, rfl⟩, trivial⟩, ⟨rfl, rfl, ⟨rfl, rfl⟩, trivial⟩, ⟨rfl, rfl, ⟨rfl, rfl⟩, trivial⟩, trivial⟩
      · subst hR
        have : j = n := by omega
        subst this
        exact Weak.of (.inr (.inl ⟨by omega, by rw [← hj.2.2.2.2.2.1]; omega, rfl, rfl⟩)) ⟨rfl, ⟨rfl, rfl, rfl, fun _ => Int.le_refl 0⟩, trivial⟩ ⟨⟨rfl, ⟨rfl, rfl, rfl⟩, trivial⟩, ⟨rfl, rfl, ⟨rfl, rfl⟩, trivial⟩, ⟨rfl, ⟨rfl, rfl⟩, ⟨rfl, rfl, rfl⟩, trivial⟩, trivial⟩ rfl
      · subst hR
        exact Weak.of (.inr (.inr ⟨by omega, j, strL l, by omega, by omega, by rw [← hj.2.2.2.2.2.1]; omega, by rw [← hj.2.2.2.2.2.1], hj.2.2.2.2.2.2, rfl, rfl⟩)) ⟨rfl, trivial, trivial⟩ ⟨⟨rfl, ⟨rfl, by show j * 1 + o = o + j; omega, rfl⟩, trivial⟩, ⟨rfl, rfl, ⟨rfl, rfl⟩, trivial⟩, trivial⟩ rfl
end Go.Proofs.YtmbmdhkfddljjaaDoor
namespace Go.Proofs.YtmbmdhkfddljjaaDoor
open Go Sx
set_option maxRecDepth 100000
set_option maxHeartbeats 4000000
theorem left_c (bs : Lv) (o n : Iv) : Ctr Tryd.prog 9 [.cells 45 [.sl 1 o n], .cols (.row 1) 5 [.ints .u8 bs]] [.ptr 0 ⟨.lit 0, 1, 0⟩]
    fun v H => v = .int .i64 (.sym n.val) ∧ H = [.cells 45 [.sl 1 (.sym o.val) (.sym n.val)], .cols (.row 1) 5 [.ints .u8 (.sym bs.raw)]] :=
  Ctr.conv (left_ctr bs.raw o.val n.val) ⟨⟨⟨rfl, ⟨rfl, rfl, rfl⟩, trivial⟩, rfl⟩, ⟨⟨rfl, rfl, ⟨rfl, rfl⟩, trivial⟩, rfl⟩, trivial⟩ ⟨⟨rfl, rfl, fun _ => Int.le_refl 0⟩, trivial⟩
theorem take_c (bs : Lv) (o n k : Iv) (ho : 0 ≤ o.val) (hn : 0 ≤ n.val) (hb : o.val + n.val ≤ bs.raw.length) (hl : n.val ≤ 65536) : Ctr Tryd.prog 10 [.cells 45 [.sl 1 o n], .cols (.row 1) 5 [.ints .u8 bs]] [.ptr 0 ⟨.lit 0, 1, 0⟩, .int .i64 k] (TakeR bs.raw o.val n.val k.val) :=
  Ctr.conv (take_ctr bs.raw o.val n.val k.val ho hn hb hl) ⟨⟨⟨rfl, ⟨rfl, rfl, rfl⟩, trivial⟩, rfl⟩, ⟨⟨rfl, rfl, ⟨rfl, rfl⟩, trivial⟩, rfl⟩, trivial⟩ ⟨⟨rfl, rfl, fun _ => Int.le_refl 0⟩, ⟨rfl, rfl⟩, trivial⟩
theorem digits_c (bs : Lv) (o n k : Iv) (ho : 0 ≤ o.val) (hn : 0 ≤ n.val) (hb : o.val + n.val ≤ bs.raw.length) (hl : n.val ≤ 65536) (hx : Bytes bs.raw) : Ctr Tryd.prog 14 [.cells 45 [.sl 1 o n], .cols (.row 1) 5 [.ints .u8 bs]] [.ptr 0 ⟨.lit 0, 1, 0⟩, .int .i64 k] (DigitsR bs.raw o.val n.val k.val) :=
  Ctr.conv (digits_ctr bs.raw o.val n.val k.val ho hn hb hl hx) ⟨⟨⟨rfl, ⟨rfl, rfl, rfl⟩, trivial⟩, rfl⟩, ⟨⟨rfl, rfl, ⟨rfl, rfl⟩, trivial⟩, rfl⟩, trivial⟩ ⟨⟨rfl, rfl, fun _ => Int.le_refl 0⟩, ⟨rfl, rfl⟩, trivial⟩
theorem new_s (ys : Lv) (n : Iv) (hn : n.val = ys.raw.length) (hl : n.val ≤ 65536) : Ctr Tryd.prog 8 [.cols .ro 5 [.ints .u8 ys]] [.sl 0 (.lit 0) n]
    fun v H => v = .tup [.ptr 1 ⟨.lit 0, 1, 0⟩, .nilif] ∧ H = [.cols .ro 5 [.ints .u8 (.sym ys.raw)], .cells 45 [.sl 2 (.sym 0) (.sym n.val)], .cols (.row 1) 5 [.ints .u8 (.sym ys.raw)]] :=
  Ctr.mono (new_c ys n hn) fun v H h => by
    rcases h with ⟨h, _⟩ | ⟨_, h1, h2⟩
    · omega
    · exact ⟨h1, h2⟩
theorem take_ok (bs : Lv) (o n k : Iv) (ho : 0 ≤ o.val) (hk : 0 ≤ k.val) (hkn : k.val ≤ n.val) (hb : o.val + n.val ≤ bs.raw.length) (hl : n.val ≤ 65536) : Ctr Tryd.prog 10 [.cells 45 [.sl 1 o n], .cols (.row 1) 5 [.ints .u8 bs]] [.ptr 0 ⟨.lit 0, 1, 0⟩, .int .i64 k]
    fun v H => v = .tup [.vec 2 (.sym k.val), .nilif] ∧ H = [.cells 45 [.sl 1 (.sym (o.val + k.val)) (.sym (n.val - k.val))], .cols (.row 1) 5 [.ints .u8 (.sym bs.raw)], .cols (.row 1) 5 [.ints .u8 (.sym (subL bs.raw o.val k.val))]] :=
  Ctr.mono (take_c bs o n k ho (by omega) hb hl) fun v H h => by
    rcases h with ⟨h, _⟩ | ⟨_, h, _⟩ | ⟨_, _, h1, h2⟩
    · omega
    · omega
    · exact ⟨h1, h2⟩
theorem take_few (bs : Lv) (o n k : Iv) (ho : 0 ≤ o.val) (hn : 0 ≤ n.val) (hkn : n.val < k.val) (hb : o.val + n.val ≤ bs.raw.length) (hl : n.val ≤ 65536) : Ctr Tryd.prog 10 [.cells 45 [.sl 1 o n], .cols (.row 1) 5 [.ints .u8 bs]] [.ptr 0 ⟨.lit 0, 1, 0⟩, .int .i64 k]
    fun v H => v = .tup [.nilsl, .iface 49 (.ptr 2 ⟨.lit 0, 1, 0⟩)] ∧ H = [.cells 45 [.sl 1 (.sym o.val) (.sym n.val)], .cols (.row 1) 5 [.ints .u8 (.sym bs.raw)], .cells 52 [.int .i64 (.sym n.val), .iface 42 (.int .i64 (.sym 13))]] :=
  Ctr.mono (take_c bs o n k ho hn hb hl) fun v H h => by
    rcases h with ⟨h, _⟩ | ⟨_, _, h1, h2⟩ | ⟨_, h, _⟩
    · omega
    · exact ⟨h1, h2⟩
    · omega
/-- Digits where they suffice: how many bytes they take is a premise. -/
theorem digits_ok (bs : Lv) (o n k : Iv) (j : Int) (ho : 0 ≤ o.val) (hj : 0 ≤ j) (hjn : j ≤ n.val) (hk : ((dig (subL bs.raw o.val j)).length : Int) = k.val) (hm : ∀ i : Int, 0 ≤ i → i < j → ((dig (subL bs.raw o.val i)).length : Int) < k.val) (hb : o.val + n.val ≤ bs.raw.length) (hl : n.val ≤ 65536) (hx : Bytes bs.raw) : Ctr Tryd.prog 14 [.cells 45 [.sl 1 o n], .cols (.row 1) 5 [.ints .u8 bs]] [.ptr 0 ⟨.lit 0, 1, 0⟩, .int .i64 k]
    fun v H => v = .tup [.str (.sym (strL (dig (subL bs.raw o.val j)))), .nilif] ∧ H = [.cells 45 [.sl 1 (.sym (o.val + j)) (.sym (n.val - j))], .cols (.row 1) 5 [.ints .u8 (.sym bs.raw)]] :=
  Ctr.mono (digits_c bs o n k ho (by omega) hb hl hx) fun v H h => by
    have mono : ∀ i i' : Int, 0 ≤ i → i ≤ i' → (dig (subL bs.raw o.val i)).length ≤ (dig (subL bs.raw o.val i')).length := fun i i' h0 h1 => by
      have := subL_cat (xs := bs.raw) ho h0 (show (0:Int) ≤ i' - i by omega)
      rw [show i + (i' - i) = i' by omega] at this
      rw [← this]; unfold dig
      rw [List.filter_append, List.map_append, List.length_append]; omega
    rcases h with ⟨h, _⟩ | ⟨_, h, _⟩ | ⟨_, j', s, h0, h1, h2, h3, h4, h5, h6⟩
    · omega
    · have := mono j n.val hj hjn; omega
    · have : j' = j := by
        rcases Int.lt_trichotomy j' j with q | q | q
        · have := hm j' h0 q; omega
        · exact q
        · have := h4 j hj q; omega
      subst this; subst h3; exact ⟨h5, h6⟩
/-- Digits, its sums under names of their own (cbv leaves those alone). -/
theorem digits_d (bs : Lv) (o n k : Iv) (ho : 0 ≤ o.val) (hn : 0 ≤ n.val) (hb : o.val + n.val ≤ bs.raw.length) (hl : n.val ≤ 65536) (hx : Bytes bs.raw) : Ctr Tryd.prog 14 [.cells 45 [.sl 1 o n], .cols (.row 1) 5 [.ints .u8 bs]] [.ptr 0 ⟨.lit 0, 1, 0⟩, .int .i64 k] fun v H =>
    (k.val < 0 ∧ v = .tup [.str (.lit []), .iface 42 (.int .i64 (.sym 1))] ∧ H = [.cells 45 [.sl 1 (.sym o.val) (.sym n.val)], .cols (.row 1) 5 [.ints .u8 (.sym bs.raw)]]) ∨
    ((0 ≤ k.val ∧ ((dig (subL bs.raw o.val n.val)).length : Int) < k.val) ∧ v = .tup [.str (.lit []), .iface 49 (.ptr 2 ⟨.lit 0, 1, 0⟩)] ∧ H = [.cells 45 [.sl 1 (.sym o.val) (.sym n.val)], .cols (.row 1) 5 [.ints .u8 (.sym bs.raw)], .cells 52 [.int .i64 (.sym n.val), .iface 42 (.int .i64 (.sym 13))]]) ∨
    (∃ (j a c : Int) (s : ByteArray), (0 ≤ k.val ∧ 0 ≤ j ∧ j ≤ n.val ∧ a = o.val + j ∧ c = n.val - j ∧ ((dig (subL bs.raw o.val j)).length : Int) = k.val ∧ s = strL (dig (subL bs.raw o.val j)) ∧ ∀ i : Int, 0 ≤ i → i < j → ((dig (subL bs.raw o.val i)).length : Int) < k.val) ∧ v = .tup [.str (.sym s), .nilif] ∧ H = [.cells 45 [.sl 1 (.sym a) (.sym c)], .cols (.row 1) 5 [.ints .u8 (.sym bs.raw)]]) :=
  Ctr.mono (digits_c bs o n k ho hn hb hl hx) fun v H h => by
    rcases h with ⟨h, h1, h2⟩ | ⟨h, h', h1, h2⟩ | ⟨h, j', s, h0, h1, h2, h3, h4, h5, h6⟩
    · exact .inl ⟨h, h1, h2⟩
    · exact .inr (.inl ⟨⟨h, h'⟩, h1, h2⟩)
    · exact .inr (.inr ⟨j', _, _, s, ⟨h, h0, h1, rfl, rfl, h2, h3, h4⟩, h5, h6⟩)
end Go.Proofs.YtmbmdhkfddljjaaDoor
namespace Go.Proofs.YtmbmdhkfddljjaaDoor
open Go Sx
set_option maxRecDepth 100000
set_option maxHeartbeats 4000000
theorem awake_ctr : Ctr Tryd.prog 7 [] [] fun v H => v = .bool true ∧ H = [] := by
  obtain ⟨uI, uB, uS, uL, uT, hu⟩ := words
  have hm := mixed
  have hT := tabOk
  have hN := @new_s
  have hD := @digits_ok
  have hK := @take_ok
  have hF := @take_few
  have hL := @left_c
  have hC := @code_fault_c
  have hA := @at_fault_c
  obtain ⟨P, hP⟩ : ∃ P, P = Tryd.prog := ⟨_, rfl⟩
  rw [← hP] at hm hT hN hD hK hF hL hC hA ⊢
  refine Ctr.weak (ctr_of_vc hu hm hT (hP ▸ Tryd.func7) rfl (by kernel_rfl) ?_)
  clear hP hm hT
  generalize hR : Weak _ _ = R
  cbv
  repeat' (first | (intro h; (try subst h); cbv) | (refine And.intro ?_ ?_) | (refine CallVC.mk (Ctr.mono (hN _ _ (by rfl) (by decide +kernel)) ?_); rintro v H ⟨rfl, rfl⟩ <;> cbv) | (refine CallVC.mk (Ctr.mono (hD _ _ _ _ 3 (by decide +kernel) (by decide +kernel) (by decide +kernel) (by decide +kernel) (fun i h0 h1 => by rcases (show i = 0 ∨ i = 1 ∨ i = 2 by omega) with rfl | rfl | rfl <;> decide +kernel) (by decide +kernel) (by decide +kernel) (by unfold Bytes; decide +kernel)) ?_); rintro v H ⟨rfl, rfl⟩ <;> cbv) | (refine CallVC.mk (Ctr.mono (hF _ _ _ _ (by decide +kernel) (by decide +kernel) (by decide +kernel) (by decide +kernel) (by decide +kernel)) ?_); rintro v H ⟨rfl, rfl⟩ <;> cbv) | (refine CallVC.mk (Ctr.mono (hK _ _ _ _ (by decide +kernel) (by decide +kernel) (by decide +kernel) (by decide +kernel) (by decide +kernel)) ?_); rintro v H ⟨rfl, rfl⟩ <;> cbv) | (refine CallVC.mk (Ctr.mono (hC _ _) ?_); rintro v H ⟨rfl, rfl⟩ <;> cbv) | (refine CallVC.mk (Ctr.mono (hA _ _) ?_); rintro v H ⟨rfl, rfl⟩ <;> cbv) | (refine CallVC.mk (Ctr.mono (hL _ _ _) ?_); rintro v H ⟨rfl, rfl⟩ <;> cbv))
  all_goals clear hD hN hK hF hL hC hA
  all_goals first
    | (rw [hu.b]; simp only [iB, cmpB, hu.i, iI, Iv.val_sym, Iv.val_lit, List.length_cons, List.length_nil]; decide +kernel)
    | (subst hR; exact Weak.of ⟨rfl, rfl⟩ rfl trivial rfl)
    | (clear hR
       obtain rfl : uI = iI := funext hu.i
       obtain rfl : uS = iS := funext hu.s
       obtain rfl : uB = iB := funext hu.b
       exfalso
       repeat (first | exact absurd h (by decide +kernel) | clear h))
end Go.Proofs.YtmbmdhkfddljjaaDoor
namespace Go.Proofs.YtmbmdhkfddljjaaDoor
open Go Sx
set_option maxRecDepth 100000
set_option maxHeartbeats 4000000
theorem dig_mono {xs : List Int} {o i j : Int} (ho : 0 ≤ o) (h0 : 0 ≤ i) (h : i ≤ j) : (dig (subL xs o i)).length ≤ (dig (subL xs o j)).length := by
  have := subL_cat (xs := xs) ho h0 (show (0:Int) ≤ j - i by omega)
  rw [show i + (j - i) = j by omega] at this
  rw [← this]; unfold dig
  rw [List.filter_append, List.map_append, List.length_append]; omega
/-- One round more: a digit, none. -/
theorem dig_next {bs : List Int} {q : Int} (h0 : 0 ≤ q) (h : q < bs.length) : dig (subL bs 0 (q + 1)) = if bs.getD q.toNat 0 < 250 then dig (subL bs 0 q) ++ [48 + bs.getD q.toNat 0 % 10] else dig (subL bs 0 q) := by
  rw [subL_snoc (by omega) h0 (by omega), dig_snoc, Int.zero_add]
theorem digits_neg (bs : Lv) (o n k : Iv) (ho : 0 ≤ o.val) (hn : 0 ≤ n.val) (hb : o.val + n.val ≤ bs.raw.length) (hl : n.val ≤ 65536) (hx : Bytes bs.raw) (hk : k.val < 0) : Ctr Tryd.prog 14 [.cells 45 [.sl 1 o n], .cols (.row 1) 5 [.ints .u8 bs]] [.ptr 0 ⟨.lit 0, 1, 0⟩, .int .i64 k]
    fun v H => v = .tup [.str (.lit []), .iface 42 (.int .i64 (.sym 1))] ∧ H = [.cells 45 [.sl 1 (.sym o.val) (.sym n.val)], .cols (.row 1) 5 [.ints .u8 (.sym bs.raw)]] :=
  Ctr.mono (digits_c bs o n k ho hn hb hl hx) fun v H h => by
    rcases h with ⟨h, h1, h2⟩ | ⟨h, h', h1, h2⟩ | ⟨h, _⟩
    · exact ⟨h1, h2⟩
    · omega
    · omega
theorem digits_few (bs : Lv) (o n k : Iv) (ho : 0 ≤ o.val) (hn : 0 ≤ n.val) (hb : o.val + n.val ≤ bs.raw.length) (hl : n.val ≤ 65536) (hx : Bytes bs.raw) (hk : ((dig (subL bs.raw o.val n.val)).length : Int) < k.val) : Ctr Tryd.prog 14 [.cells 45 [.sl 1 o n], .cols (.row 1) 5 [.ints .u8 bs]] [.ptr 0 ⟨.lit 0, 1, 0⟩, .int .i64 k]
    fun v H => v = .tup [.str (.lit []), .iface 49 (.ptr 2 ⟨.lit 0, 1, 0⟩)] ∧ H = [.cells 45 [.sl 1 (.sym o.val) (.sym n.val)], .cols (.row 1) 5 [.ints .u8 (.sym bs.raw)], .cells 52 [.int .i64 (.sym n.val), .iface 42 (.int .i64 (.sym 13))]] :=
  Ctr.mono (digits_c bs o n k ho hn hb hl hx) fun v H h => by
    rcases h with ⟨h, h1, h2⟩ | ⟨h, h', h1, h2⟩ | ⟨h, j, s, h0, h1, h2, _⟩
    · omega
    · exact ⟨h1, h2⟩
    · have := dig_mono (xs := bs.raw) ho h0 h1; omega
theorem digits_v (bs : Lv) (o n k : Iv) (j a c : Int) (s : ByteArray) (ho : 0 ≤ o.val) (hj : 0 ≤ j) (hjn : j ≤ n.val) (ha : a = o.val + j) (hc : c = n.val - j) (hs : s = strL (dig (subL bs.raw o.val j))) (hk : ((dig (subL bs.raw o.val j)).length : Int) = k.val) (hm : ∀ i : Int, 0 ≤ i → i < j → ((dig (subL bs.raw o.val i)).length : Int) < k.val) (hb : o.val + n.val ≤ bs.raw.length) (hl : n.val ≤ 65536) (hx : Bytes bs.raw) : Ctr Tryd.prog 14 [.cells 45 [.sl 1 o n], .cols (.row 1) 5 [.ints .u8 bs]] [.ptr 0 ⟨.lit 0, 1, 0⟩, .int .i64 k]
    fun v H => v = .tup [.str (.sym s), .nilif] ∧ H = [.cells 45 [.sl 1 (.sym a) (.sym c)], .cols (.row 1) 5 [.ints .u8 (.sym bs.raw)]] := by
  subst hs ha hc
  exact digits_ok bs o n k j ho hj hjn hk hm hb hl hx
theorem dig_le (bs : List Int) (q : Int) (h0 : 0 ≤ q) : ((dig (subL bs 0 q)).length : Int) ≤ q := by
  unfold dig subL
  rw [List.length_map]
  have := List.length_filter_le (fun b => decide (b < 250)) (List.take q.toNat (List.drop (0 : Int).toNat bs))
  rw [List.length_take] at this
  omega
theorem dig_len {bs : List Int} {q : Int} (h0 : 0 ≤ q) (h : q < bs.length) : (dig (subL bs 0 (q + 1))).length ≤ (dig (subL bs 0 q)).length + 1 := by
  rw [dig_next h0 h]; split <;> simp
theorem dig_least (bs : List Int) (k : Int) (k0 : 0 ≤ k) (hf : k ≤ (dig bs).length) : ∃ j : Int, 0 ≤ j ∧ j ≤ bs.length ∧ ((dig (subL bs 0 j)).length : Int) = k ∧ ∀ i : Int, 0 ≤ i → i < j → ((dig (subL bs 0 i)).length : Int) < k := by
  have key : ∀ m : Nat, m ≤ bs.length → (∃ j : Int, 0 ≤ j ∧ j ≤ m ∧ ((dig (subL bs 0 j)).length : Int) = k ∧ ∀ i : Int, 0 ≤ i → i < j → ((dig (subL bs 0 i)).length : Int) < k) ∨ ∀ i : Int, 0 ≤ i → i ≤ m → ((dig (subL bs 0 i)).length : Int) < k := by
    intro m
    induction m with
    | zero =>
      intro _
      have e : dig (subL bs 0 0) = [] := rfl
      by_cases hk : k = 0
      · exact .inl ⟨0, by omega, by omega, by rw [e]; simp [hk], fun i h0 h1 => by omega⟩
      · refine .inr fun i h0 h1 => ?_
        obtain rfl : i = 0 := by omega
        rw [e]; simp; omega
    | succ m ih =>
      intro hm
      rcases ih (by omega) with ⟨j, h1, h2, h3⟩ | hall
      · exact .inl ⟨j, h1, by omega, h3⟩
      · by_cases hk : ((dig (subL bs 0 ((m : Int) + 1))).length : Int) < k
        · refine .inr fun i h0 h1 => ?_
          by_cases hi : i ≤ m
          · exact hall i h0 hi
          · obtain rfl : i = (m : Int) + 1 := by omega
            exact hk
        · have := dig_len (bs := bs) (q := m) (by omega) (by omega)
          have := hall m (by omega) (by omega)
          exact .inl ⟨m + 1, by omega, by omega, by omega, fun i h0 h1 => hall i h0 (by omega)⟩
  rcases key bs.length (Nat.le_refl _) with h | h
  · exact h
  · have := h bs.length (by omega) (by omega)
    rw [subL_all bs _ rfl] at this
    omega
theorem digitsLaw_ctr (bs : List Int) (k nb : Int) (hb : nb = bs.length) (hx : Bytes bs) : Ctr Tryd.prog 4 [.cols .ro 5 [.ints .u8 (.sym bs)]] [.sl 0 (.lit 0) (.sym nb), .int .i64 (.sym k)] fun v H => v = .bool true := by
  have n0 : 0 ≤ nb := by omega
  have hs := subL_all bs nb hb
  by_cases k0 : k < 0
  · obtain ⟨uI, uB, uS, uL, uT, hu⟩ := words
    have hm := mixed
    have hT := tabOk
    have h6 := @awake_ctr
    have hN := @new_s
    have hD := @digits_neg
    have hL := @left_c
    have hC := @code_c
    have hC1 := @code_nil_c
    have hF := @code_fault_c
    have hA := @at_fault_c
    obtain ⟨P, hP⟩ : ∃ P, P = Tryd.prog := ⟨_, rfl⟩
    rw [← hP] at hm hT h6 hN hD hL hC hC1 hF hA ⊢
    refine Ctr.weak (ctr_of_vc hu hm hT (hP ▸ Tryd.func4) rfl (by kernel_rfl) ?_)
    clear hP hm hT
    generalize hR : Weak _ _ = R
    conv => cbv
    repeat' (first | ((with_reducible intro (h : _ = _)); (try subst h); (try simp only [hu.b, hu.i, iB, iI, cmpB, Iv.val_sym, Iv.val_lit, Lv.raw, Tv.raw, decide_eq_true_eq, decide_eq_false_iff_not, beq_iff_eq, beq_eq_false_iff_ne, ne_eq, ofN, Int.toNat_zero, Int.toNat_one, Int.reduceToNat, natc, hu.s, iS, Sv.val_lit, Sv.val_sym, true_iff, false_iff, Bool.false_eq_true, bne_iff_ne, bne_eq_false_iff_eq, Bool.not_eq_true', Bool.not_eq_false', Decidable.not_not, nil_toList, ByteArray.size_empty, nilS, not_true_eq_false, not_false_eq_true, hu.l, iL, hu.t, iT, bin_add, bin_sub, bin_mul, wr_u8, wr_u16, wr_u32, wr_u64, IntKind.wrap_i64, hs] at h) <;> (try simp only [Int.ofNat_eq_natCast] at h) <;> (first | (have hF0 : False := by omega; exact hF0.elim) | (conv => cbv))) | (with_reducible refine And.intro ?_ ?_) | (refine CallVC.mk (Ctr.monoR ?_ (h6)); ((rintro v H ⟨rfl, rfl⟩) <;> (conv => cbv))) | (refine CallVC.mk (Ctr.monoR ?_ (hN _ _ ?_ ?_)); ((rintro v H ⟨rfl, rfl⟩) <;> (conv => cbv))) | (refine CallVC.mk (Ctr.monoR ?_ (hD _ _ _ _ ?_ ?_ ?_ ?_ ?_ ?_)); ((rintro v H ⟨rfl, rfl⟩) <;> (conv => cbv))) | (refine CallVC.mk (Ctr.monoR ?_ (hL _ _ _)); ((rintro v H ⟨rfl, rfl⟩) <;> (conv => cbv))) | (refine CallVC.mk (Ctr.monoR ?_ (hC _)); ((rintro v H ⟨rfl, rfl⟩) <;> (conv => cbv))) | (refine CallVC.mk (Ctr.monoR ?_ (hC1)); ((rintro v H ⟨rfl, rfl⟩) <;> (conv => cbv))) | (refine CallVC.mk (Ctr.monoR ?_ (hF _ _)); ((rintro v H ⟨rfl, rfl⟩) <;> (conv => cbv))) | (refine CallVC.mk (Ctr.monoR ?_ (hA _ _)); ((rintro v H ⟨rfl, rfl⟩) <;> (conv => cbv))) | (simp only [hu.b, hu.i, iB, iI, cmpB, Iv.val_sym, Iv.val_lit, Lv.raw, Tv.raw, decide_eq_true_eq, decide_eq_false_iff_not, beq_iff_eq, beq_eq_false_iff_ne, ne_eq, ofN, Int.toNat_zero, Int.toNat_one, Int.reduceToNat, natc, hu.s, iS, Sv.val_lit, Sv.val_sym, true_iff, false_iff, Bool.false_eq_true, bne_iff_ne, bne_eq_false_iff_eq, Bool.not_eq_true', Bool.not_eq_false', Decidable.not_not, nil_toList, ByteArray.size_empty, nilS, not_true_eq_false, not_false_eq_true, hu.l, iL, hu.t, iT, bin_add, bin_sub, bin_mul, wr_u8, wr_u16, wr_u32, wr_u64, IntKind.wrap_i64, hs]; (try simp only [Int.ofNat_eq_natCast]); done) | ((try simp only [hu.b, hu.i, iB, iI, cmpB, Iv.val_sym, Iv.val_lit, Lv.raw, Tv.raw, decide_eq_true_eq, decide_eq_false_iff_not, beq_iff_eq, beq_eq_false_iff_ne, ne_eq, ofN, Int.toNat_zero, Int.toNat_one, Int.reduceToNat, natc, hu.s, iS, Sv.val_lit, Sv.val_sym, true_iff, false_iff, Bool.false_eq_true, bne_iff_ne, bne_eq_false_iff_eq, Bool.not_eq_true', Bool.not_eq_false', Decidable.not_not, nil_toList, ByteArray.size_empty, nilS, not_true_eq_false, not_false_eq_true, hu.l, iL, hu.t, iT, bin_add, bin_sub, bin_mul, wr_u8, wr_u16, wr_u32, wr_u64, IntKind.wrap_i64, hs]) <;> (try simp only [Int.ofNat_eq_natCast]) <;> omega))
    all_goals try (subst hR; exact Weak.law (by rfl) (by rfl))
  by_cases hf : ((dig bs).length : Int) < k
  · obtain ⟨uI, uB, uS, uL, uT, hu⟩ := words
    have hm := mixed
    have hT := tabOk
    have h6 := @awake_ctr
    have hN := @new_s
    have hD := @digits_few
    have hL := @left_c
    have hC := @code_c
    have hC1 := @code_nil_c
    have hF := @code_fault_c
    have hA := @at_fault_c
    obtain ⟨P, hP⟩ : ∃ P, P = Tryd.prog := ⟨_, rfl⟩
    rw [← hP] at hm hT h6 hN hD hL hC hC1 hF hA ⊢
    refine Ctr.weak (ctr_of_vc hu hm hT (hP ▸ Tryd.func4) rfl (by kernel_rfl) ?_)
    clear hP hm hT
    generalize hR : Weak _ _ = R
    conv => cbv
    repeat' (first | ((with_reducible intro (h : _ = _)); (try subst h); (try simp only [hu.b, hu.i, iB, iI, cmpB, Iv.val_sym, Iv.val_lit, Lv.raw, Tv.raw, decide_eq_true_eq, decide_eq_false_iff_not, beq_iff_eq, beq_eq_false_iff_ne, ne_eq, ofN, Int.toNat_zero, Int.toNat_one, Int.reduceToNat, natc, hu.s, iS, Sv.val_lit, Sv.val_sym, true_iff, false_iff, Bool.false_eq_true, bne_iff_ne, bne_eq_false_iff_eq, Bool.not_eq_true', Bool.not_eq_false', Decidable.not_not, nil_toList, ByteArray.size_empty, nilS, not_true_eq_false, not_false_eq_true, hu.l, iL, hu.t, iT, bin_add, bin_sub, bin_mul, wr_u8, wr_u16, wr_u32, wr_u64, IntKind.wrap_i64, hs] at h) <;> (try simp only [Int.ofNat_eq_natCast] at h) <;> (first | (have hF0 : False := by omega; exact hF0.elim) | (conv => cbv))) | (with_reducible refine And.intro ?_ ?_) | (refine CallVC.mk (Ctr.monoR ?_ (h6)); ((rintro v H ⟨rfl, rfl⟩) <;> (conv => cbv))) | (refine CallVC.mk (Ctr.monoR ?_ (hN _ _ ?_ ?_)); ((rintro v H ⟨rfl, rfl⟩) <;> (conv => cbv))) | (refine CallVC.mk (Ctr.monoR ?_ (hD _ _ _ _ ?_ ?_ ?_ ?_ ?_ ?_)); ((rintro v H ⟨rfl, rfl⟩) <;> (conv => cbv))) | (refine CallVC.mk (Ctr.monoR ?_ (hL _ _ _)); ((rintro v H ⟨rfl, rfl⟩) <;> (conv => cbv))) | (refine CallVC.mk (Ctr.monoR ?_ (hC _)); ((rintro v H ⟨rfl, rfl⟩) <;> (conv => cbv))) | (refine CallVC.mk (Ctr.monoR ?_ (hC1)); ((rintro v H ⟨rfl, rfl⟩) <;> (conv => cbv))) | (refine CallVC.mk (Ctr.monoR ?_ (hF _ _)); ((rintro v H ⟨rfl, rfl⟩) <;> (conv => cbv))) | (refine CallVC.mk (Ctr.monoR ?_ (hA _ _)); ((rintro v H ⟨rfl, rfl⟩) <;> (conv => cbv))) | (simp only [hu.b, hu.i, iB, iI, cmpB, Iv.val_sym, Iv.val_lit, Lv.raw, Tv.raw, decide_eq_true_eq, decide_eq_false_iff_not, beq_iff_eq, beq_eq_false_iff_ne, ne_eq, ofN, Int.toNat_zero, Int.toNat_one, Int.reduceToNat, natc, hu.s, iS, Sv.val_lit, Sv.val_sym, true_iff, false_iff, Bool.false_eq_true, bne_iff_ne, bne_eq_false_iff_eq, Bool.not_eq_true', Bool.not_eq_false', Decidable.not_not, nil_toList, ByteArray.size_empty, nilS, not_true_eq_false, not_false_eq_true, hu.l, iL, hu.t, iT, bin_add, bin_sub, bin_mul, wr_u8, wr_u16, wr_u32, wr_u64, IntKind.wrap_i64, hs]; (try simp only [Int.ofNat_eq_natCast]); done) | ((try simp only [hu.b, hu.i, iB, iI, cmpB, Iv.val_sym, Iv.val_lit, Lv.raw, Tv.raw, decide_eq_true_eq, decide_eq_false_iff_not, beq_iff_eq, beq_eq_false_iff_ne, ne_eq, ofN, Int.toNat_zero, Int.toNat_one, Int.reduceToNat, natc, hu.s, iS, Sv.val_lit, Sv.val_sym, true_iff, false_iff, Bool.false_eq_true, bne_iff_ne, bne_eq_false_iff_eq, Bool.not_eq_true', Bool.not_eq_false', Decidable.not_not, nil_toList, ByteArray.size_empty, nilS, not_true_eq_false, not_false_eq_true, hu.l, iL, hu.t, iT, bin_add, bin_sub, bin_mul, wr_u8, wr_u16, wr_u32, wr_u64, IntKind.wrap_i64, hs]) <;> (try simp only [Int.ofNat_eq_natCast]) <;> omega))
    all_goals try (subst hR; exact Weak.law (by rfl) (by rfl))
    · refine .nilrow 9 5 .u8 (by kernel_rfl) rfl ?_
      refine .invr (Int × Int × List Int) [9, 10] (fun g => ([.vec 4 (.sym g.2.1), .int .i64 (.sym g.1)], [.cols .ro 5 [.ints .u8 (.sym bs)], .cells 45 [.sl 2 (.sym 0) (.sym nb)], .cols (.row 1) 5 [.ints .u8 (.sym bs)], .cells 52 [.int .i64 (.sym nb), .iface 42 (.int .i64 (.sym 13))], .cols (.row 1) 5 [.ints .u8 (.sym g.2.2)]])) (fun g => 0 ≤ g.1 ∧ g.1 ≤ nb ∧ g.2.1 = g.2.2.length ∧ g.2.2 = dig (subL bs 0 g.1)) (fun g => (nb - g.1).toNat) (0, 0, []) (by kernel_rfl) (fun g hg => by kernel_rfl) ?_ ?_
      · refine ⟨⟨by decide, by dsimp only; omega, rfl, rfl⟩, ?_, ?_⟩
        all_goals
          ((conv => cbv); repeat' (first | exact True.intro | with_reducible rfl | (with_reducible refine And.intro ?_ ?_)))
        all_goals (simp only [hu.l, iL, Lv.raw, Iv.val_sym, Iv.val_lit]; exact hs)
      · rintro ⟨q, m, l⟩ hq
        simp only [] at hq
        have q0 := hq.1; have q1 := hq.2.1; have q2 := hq.2.2.1; have q3 := hq.2.2.2
        clear hq
        have q5 := dig_le bs q q0
        rw [← q3] at q5
        have hb0 := hx.get q.toNat
        have e1 : binI .add .i64 q 1 = q + 1 := wr_i64 _ (by omega) (by omega)
        have e2 : binI .add .u8 48 (binI .rem .u8 (bs.getD q.toNat 0) 10) = 48 + bs.getD q.toNat 0 % 10 := by
          rw [rem_nn (by omega)]
          show IntKind.u8.wrap (48 + _) = _
          rw [wr_u8]; omega
        have e3 : ∀ h : q < bs.length, dig (subL bs 0 (q + 1)) = if bs.getD q.toNat 0 < 250 then dig (subL bs 0 q) ++ [48 + bs.getD q.toNat 0 % 10] else dig (subL bs 0 q) := fun h => dig_next q0 h
        rw [← q3] at e3
        have q4 : (l.length : Int) < k := by
          have := dig_mono (xs := bs) (o := 0) (by omega) q0 q1
          rw [hs, ← q3] at this; omega
        conv => cbv
        repeat' (first | ((with_reducible intro (h : _ = _)); (try subst h); (try simp only [hu.b, hu.i, iB, iI, cmpB, Iv.val_sym, Iv.val_lit, Lv.raw, Tv.raw, decide_eq_true_eq, decide_eq_false_iff_not, beq_iff_eq, beq_eq_false_iff_ne, ne_eq, ofN, Int.toNat_zero, Int.toNat_one, Int.reduceToNat, natc, hu.s, iS, Sv.val_lit, Sv.val_sym, true_iff, false_iff, Bool.false_eq_true, bne_iff_ne, bne_eq_false_iff_eq, Bool.not_eq_true', Bool.not_eq_false', Decidable.not_not, nil_toList, ByteArray.size_empty, nilS, not_true_eq_false, not_false_eq_true, hu.l, iL, hu.t, iT, bin_add, bin_sub, bin_mul, wr_u8, wr_u16, wr_u32, wr_u64, IntKind.wrap_i64, hs] at h) <;> (try simp only [Int.ofNat_eq_natCast] at h) <;> (first | (have hF0 : False := by omega; exact hF0.elim) | (conv => cbv))) | (with_reducible refine And.intro ?_ ?_) | (refine CallVC.mk (Ctr.monoR ?_ (hL _ _ _)); ((rintro v H ⟨rfl, rfl⟩) <;> (conv => cbv))) | (refine CallVC.mk (Ctr.monoR ?_ (hC _)); ((rintro v H ⟨rfl, rfl⟩) <;> (conv => cbv))) | (refine CallVC.mk (Ctr.monoR ?_ (hC1)); ((rintro v H ⟨rfl, rfl⟩) <;> (conv => cbv))) | (refine CallVC.mk (Ctr.monoR ?_ (hF _ _)); ((rintro v H ⟨rfl, rfl⟩) <;> (conv => cbv))) | (refine CallVC.mk (Ctr.monoR ?_ (hA _ _)); ((rintro v H ⟨rfl, rfl⟩) <;> (conv => cbv))) | (simp only [hu.b, hu.i, iB, iI, cmpB, Iv.val_sym, Iv.val_lit, Lv.raw, Tv.raw, decide_eq_true_eq, decide_eq_false_iff_not, beq_iff_eq, beq_eq_false_iff_ne, ne_eq, ofN, Int.toNat_zero, Int.toNat_one, Int.reduceToNat, natc, hu.s, iS, Sv.val_lit, Sv.val_sym, true_iff, false_iff, Bool.false_eq_true, bne_iff_ne, bne_eq_false_iff_eq, Bool.not_eq_true', Bool.not_eq_false', Decidable.not_not, nil_toList, ByteArray.size_empty, nilS, not_true_eq_false, not_false_eq_true, hu.l, iL, hu.t, iT, bin_add, bin_sub, bin_mul, wr_u8, wr_u16, wr_u32, wr_u64, IntKind.wrap_i64, hs]; (try simp only [Int.ofNat_eq_natCast]); done) | ((try simp only [hu.b, hu.i, iB, iI, cmpB, Iv.val_sym, Iv.val_lit, Lv.raw, Tv.raw, decide_eq_true_eq, decide_eq_false_iff_not, beq_iff_eq, beq_eq_false_iff_ne, ne_eq, ofN, Int.toNat_zero, Int.toNat_one, Int.reduceToNat, natc, hu.s, iS, Sv.val_lit, Sv.val_sym, true_iff, false_iff, Bool.false_eq_true, bne_iff_ne, bne_eq_false_iff_eq, Bool.not_eq_true', Bool.not_eq_false', Decidable.not_not, nil_toList, ByteArray.size_empty, nilS, not_true_eq_false, not_false_eq_true, hu.l, iL, hu.t, iT, bin_add, bin_sub, bin_mul, wr_u8, wr_u16, wr_u32, wr_u64, IntKind.wrap_i64, hs]) <;> (try simp only [Int.ofNat_eq_natCast]) <;> omega))
        all_goals try (subst hR; exact Weak.law (by rfl) (by rfl))
        all_goals clear hL hC hC1 hF hA
        · have h1 := e3 (by omega)
          rw [if_pos (by assumption)] at h1
          obtain ⟨q', eq'⟩ : ∃ x, x = q + 1 := ⟨_, rfl⟩
          obtain ⟨m', em'⟩ : ∃ x, x = m + 1 := ⟨_, rfl⟩
          obtain ⟨l', el'⟩ : ∃ x, x = l ++ [48 + bs.getD q.toNat 0 % 10] := ⟨_, rfl⟩
          rw [← eq'] at h1
          refine ⟨(q', m', l'), ⟨by dsimp only; omega, by dsimp only; omega, by dsimp only; rw [el']; simp; omega, by dsimp only; rw [h1, el']⟩, by dsimp only; omega, [0, 1, 2, 3, 6], by kernel_rfl, by kernel_rfl, ?_, ?_⟩
          all_goals
            ((conv => cbv); repeat' (first | exact True.intro | with_reducible rfl | (with_reducible refine And.intro ?_ ?_)))
          · simp only [hu.b, hu.i, iB, iI, cmpB, Iv.val_sym, Iv.val_lit, Lv.raw, Tv.raw, decide_eq_true_eq, decide_eq_false_iff_not, beq_iff_eq, beq_eq_false_iff_ne, ne_eq, ofN, Int.toNat_zero, Int.toNat_one, Int.reduceToNat, natc, hu.s, iS, Sv.val_lit, Sv.val_sym, true_iff, false_iff, Bool.false_eq_true, bne_iff_ne, bne_eq_false_iff_eq, Bool.not_eq_true', Bool.not_eq_false', Decidable.not_not, nil_toList, ByteArray.size_empty, nilS, not_true_eq_false, not_false_eq_true, hu.l, iL, lvals]; simp; omega
          · rw [hu.i, eq']; exact e1
          · rw [el']; simp only [hu.b, hu.i, iB, iI, cmpB, Iv.val_sym, Iv.val_lit, Lv.raw, Tv.raw, decide_eq_true_eq, decide_eq_false_iff_not, beq_iff_eq, beq_eq_false_iff_ne, ne_eq, ofN, Int.toNat_zero, Int.toNat_one, Int.reduceToNat, natc, hu.s, iS, Sv.val_lit, Sv.val_sym, true_iff, false_iff, Bool.false_eq_true, bne_iff_ne, bne_eq_false_iff_eq, Bool.not_eq_true', Bool.not_eq_false', Decidable.not_not, nil_toList, ByteArray.size_empty, nilS, not_true_eq_false, not_false_eq_true, hu.l, iL, lvals, e2]
        · have h1 := e3 (by omega)
          rw [if_neg (by assumption)] at h1
          obtain ⟨q', eq'⟩ : ∃ x, x = q + 1 := ⟨_, rfl⟩
          rw [← eq'] at h1
          refine ⟨(q', m, l), ⟨by dsimp only; omega, by dsimp only; omega, q2, h1.symm⟩, by dsimp only; omega, [0, 1, 2, 3, 4], by kernel_rfl, by kernel_rfl, ?_, ?_⟩
          all_goals
            ((conv => cbv); repeat' (first | exact True.intro | with_reducible rfl | (with_reducible refine And.intro ?_ ?_)))
          · rw [hu.i, eq']; exact e1
  · obtain ⟨j, j0, j1, j2, j3⟩ : ∃ j : Int, 0 ≤ j ∧ j ≤ nb ∧ ((dig (subL bs 0 j)).length : Int) = k ∧ ∀ i : Int, 0 ≤ i → i < j → ((dig (subL bs 0 i)).length : Int) < k := by rw [hb]; exact dig_least bs k (by omega) (by omega)
    obtain ⟨s, es⟩ : ∃ s, s = strL (dig (subL bs 0 j)) := ⟨_, rfl⟩
    obtain ⟨c, ec⟩ : ∃ c, c = nb - j := ⟨_, rfl⟩
    obtain ⟨uI, uB, uS, uL, uT, hu⟩ := words
    have hm := mixed
    have hT := tabOk
    have h6 := @awake_ctr
    have hN := @new_s
    have hD := @digits_v
    have hL := @left_c
    have hC := @code_c
    have hC1 := @code_nil_c
    have hF := @code_fault_c
    have hA := @at_fault_c
    obtain ⟨P, hP⟩ : ∃ P, P = Tryd.prog := ⟨_, rfl⟩
    rw [← hP] at hm hT h6 hN hD hL hC hC1 hF hA ⊢
    refine Ctr.weak (ctr_of_vc hu hm hT (hP ▸ Tryd.func4) rfl (by kernel_rfl) ?_)
    clear hP hm hT
    generalize hR : Weak _ _ = R
    conv => cbv
    repeat' (first | ((with_reducible intro (h : _ = _)); (try subst h); (try simp only [hu.b, hu.i, iB, iI, cmpB, Iv.val_sym, Iv.val_lit, Lv.raw, Tv.raw, decide_eq_true_eq, decide_eq_false_iff_not, beq_iff_eq, beq_eq_false_iff_ne, ne_eq, ofN, Int.toNat_zero, Int.toNat_one, Int.reduceToNat, natc, hu.s, iS, Sv.val_lit, Sv.val_sym, true_iff, false_iff, Bool.false_eq_true, bne_iff_ne, bne_eq_false_iff_eq, Bool.not_eq_true', Bool.not_eq_false', Decidable.not_not, nil_toList, ByteArray.size_empty, nilS, not_true_eq_false, not_false_eq_true, hu.l, iL, hu.t, iT, bin_add, bin_sub, bin_mul, wr_u8, wr_u16, wr_u32, wr_u64, IntKind.wrap_i64, hs] at h) <;> (try simp only [Int.ofNat_eq_natCast] at h) <;> (first | (have hF0 : False := by omega; exact hF0.elim) | (conv => cbv))) | (with_reducible refine And.intro ?_ ?_) | (refine CallVC.mk (Ctr.monoR ?_ (h6)); ((rintro v H ⟨rfl, rfl⟩) <;> (conv => cbv))) | (refine CallVC.mk (Ctr.monoR ?_ (hN _ _ ?_ ?_)); ((rintro v H ⟨rfl, rfl⟩) <;> (conv => cbv))) | (refine CallVC.mk (Ctr.monoR ?_ (hD _ _ _ _ j j c s ?_ ?_ ?_ ?_ ?_ ?_ ?_ ?_ ?_ ?_ ?_)); ((rintro v H ⟨rfl, rfl⟩) <;> (conv => cbv))) | (refine CallVC.mk (Ctr.monoR ?_ (hL _ _ _)); ((rintro v H ⟨rfl, rfl⟩) <;> (conv => cbv))) | (refine CallVC.mk (Ctr.monoR ?_ (hC _)); ((rintro v H ⟨rfl, rfl⟩) <;> (conv => cbv))) | (refine CallVC.mk (Ctr.monoR ?_ (hC1)); ((rintro v H ⟨rfl, rfl⟩) <;> (conv => cbv))) | (refine CallVC.mk (Ctr.monoR ?_ (hF _ _)); ((rintro v H ⟨rfl, rfl⟩) <;> (conv => cbv))) | (refine CallVC.mk (Ctr.monoR ?_ (hA _ _)); ((rintro v H ⟨rfl, rfl⟩) <;> (conv => cbv))) | ((try simp only [hu.b, hu.i, iB, iI, cmpB, Iv.val_sym, Iv.val_lit, Lv.raw, Tv.raw, decide_eq_true_eq, decide_eq_false_iff_not, beq_iff_eq, beq_eq_false_iff_ne, ne_eq, ofN, Int.toNat_zero, Int.toNat_one, Int.reduceToNat, natc, hu.s, iS, Sv.val_lit, Sv.val_sym, true_iff, false_iff, Bool.false_eq_true, bne_iff_ne, bne_eq_false_iff_eq, Bool.not_eq_true', Bool.not_eq_false', Decidable.not_not, nil_toList, ByteArray.size_empty, nilS, not_true_eq_false, not_false_eq_true, hu.l, iL, hu.t, iT, bin_add, bin_sub, bin_mul, wr_u8, wr_u16, wr_u32, wr_u64, IntKind.wrap_i64, hs]) <;> (try simp only [Int.ofNat_eq_natCast]) <;> exact j3) | (simp only [hu.b, hu.i, iB, iI, cmpB, Iv.val_sym, Iv.val_lit, Lv.raw, Tv.raw, decide_eq_true_eq, decide_eq_false_iff_not, beq_iff_eq, beq_eq_false_iff_ne, ne_eq, ofN, Int.toNat_zero, Int.toNat_one, Int.reduceToNat, natc, hu.s, iS, Sv.val_lit, Sv.val_sym, true_iff, false_iff, Bool.false_eq_true, bne_iff_ne, bne_eq_false_iff_eq, Bool.not_eq_true', Bool.not_eq_false', Decidable.not_not, nil_toList, ByteArray.size_empty, nilS, not_true_eq_false, not_false_eq_true, hu.l, iL, hu.t, iT, bin_add, bin_sub, bin_mul, wr_u8, wr_u16, wr_u32, wr_u64, IntKind.wrap_i64, hs]; (try simp only [Int.ofNat_eq_natCast]); done) | ((try simp only [hu.b, hu.i, iB, iI, cmpB, Iv.val_sym, Iv.val_lit, Lv.raw, Tv.raw, decide_eq_true_eq, decide_eq_false_iff_not, beq_iff_eq, beq_eq_false_iff_ne, ne_eq, ofN, Int.toNat_zero, Int.toNat_one, Int.reduceToNat, natc, hu.s, iS, Sv.val_lit, Sv.val_sym, true_iff, false_iff, Bool.false_eq_true, bne_iff_ne, bne_eq_false_iff_eq, Bool.not_eq_true', Bool.not_eq_false', Decidable.not_not, nil_toList, ByteArray.size_empty, nilS, not_true_eq_false, not_false_eq_true, hu.l, iL, hu.t, iT, bin_add, bin_sub, bin_mul, wr_u8, wr_u16, wr_u32, wr_u64, IntKind.wrap_i64, hs]) <;> (try simp only [Int.ofNat_eq_natCast]) <;> omega))
    all_goals try (subst hR; exact Weak.law (by rfl) (by rfl))
    · refine .nilrow 9 5 .u8 (by kernel_rfl) rfl ?_
      refine .invr (Int × Int × List Int) [9, 10] (fun g => ([.vec 3 (.sym g.2.1), .int .i64 (.sym g.1)], [.cols .ro 5 [.ints .u8 (.sym bs)], .cells 45 [.sl 2 (.sym j) (.sym c)], .cols (.row 1) 5 [.ints .u8 (.sym bs)], .cols (.row 1) 5 [.ints .u8 (.sym g.2.2)]])) (fun g => 0 ≤ g.1 ∧ g.1 ≤ j ∧ g.2.1 = g.2.2.length ∧ g.2.2 = dig (subL bs 0 g.1)) (fun g => (nb - g.1).toNat) (0, 0, []) (by kernel_rfl) (fun g hg => by kernel_rfl) ?_ ?_
      · refine ⟨⟨by decide, by dsimp only; omega, rfl, rfl⟩, ?_, ?_⟩
        all_goals
          ((conv => cbv); repeat' (first | exact True.intro | with_reducible rfl | (with_reducible refine And.intro ?_ ?_)))
        all_goals (simp only [hu.l, iL, Lv.raw, Iv.val_sym, Iv.val_lit]; exact hs)
      · rintro ⟨q, m, l⟩ hq
        simp only [] at hq
        have q0 := hq.1; have q1 := hq.2.1; have q2 := hq.2.2.1; have q3 := hq.2.2.2
        clear hq
        have q5 := dig_le bs q q0
        rw [← q3] at q5
        have hb0 := hx.get q.toNat
        have e1 : binI .add .i64 q 1 = q + 1 := wr_i64 _ (by omega) (by omega)
        have e2 : binI .add .u8 48 (binI .rem .u8 (bs.getD q.toNat 0) 10) = 48 + bs.getD q.toNat 0 % 10 := by
          rw [rem_nn (by omega)]
          show IntKind.u8.wrap (48 + _) = _
          rw [wr_u8]; omega
        have e3 : ∀ h : q < bs.length, dig (subL bs 0 (q + 1)) = if bs.getD q.toNat 0 < 250 then dig (subL bs 0 q) ++ [48 + bs.getD q.toNat 0 % 10] else dig (subL bs 0 q) := fun h => dig_next q0 h
        rw [← q3] at e3
        have e4 : binI .sub .i64 nb q = nb - q := wr_i64 _ (by omega) (by omega)
        have e6 : ¬ q < j → s.toList = (strL l).toList := fun h => by
          have : q = j := by omega
          rw [es, ← this, ← q3]
        have q4 : (l.length : Int) ≤ k ∧ (q < j ↔ (l.length : Int) < k) := by
          have h1 := dig_mono (xs := bs) (o := 0) (by omega) q0 q1
          rw [← q3] at h1
          refine ⟨by omega, fun h => ?_, fun h => ?_⟩
          · have := j3 q q0 h; rw [← q3] at this; exact this
          · rcases Int.lt_or_le q j with h2 | h2
            · exact h2
            · obtain rfl : q = j := by omega
              rw [← q3] at j2; omega
        conv => cbv
        repeat' (first | ((with_reducible intro (h : _ = _)); (try subst h); (try simp only [hu.b, hu.i, iB, iI, cmpB, Iv.val_sym, Iv.val_lit, Lv.raw, Tv.raw, decide_eq_true_eq, decide_eq_false_iff_not, beq_iff_eq, beq_eq_false_iff_ne, ne_eq, ofN, Int.toNat_zero, Int.toNat_one, Int.reduceToNat, natc, hu.s, iS, Sv.val_lit, Sv.val_sym, true_iff, false_iff, Bool.false_eq_true, bne_iff_ne, bne_eq_false_iff_eq, Bool.not_eq_true', Bool.not_eq_false', Decidable.not_not, nil_toList, ByteArray.size_empty, nilS, not_true_eq_false, not_false_eq_true, hu.l, iL, hu.t, iT, bin_add, bin_sub, bin_mul, wr_u8, wr_u16, wr_u32, wr_u64, IntKind.wrap_i64, hs] at h) <;> (try simp only [Int.ofNat_eq_natCast] at h) <;> (first | (have hF0 : False := by omega; exact hF0.elim) | (conv => cbv))) | (with_reducible refine And.intro ?_ ?_) | (refine CallVC.mk (Ctr.monoR ?_ (hL _ _ _)); ((rintro v H ⟨rfl, rfl⟩) <;> (conv => cbv))) | (refine CallVC.mk (Ctr.monoR ?_ (hC _)); ((rintro v H ⟨rfl, rfl⟩) <;> (conv => cbv))) | (refine CallVC.mk (Ctr.monoR ?_ (hC1)); ((rintro v H ⟨rfl, rfl⟩) <;> (conv => cbv))) | (refine CallVC.mk (Ctr.monoR ?_ (hF _ _)); ((rintro v H ⟨rfl, rfl⟩) <;> (conv => cbv))) | (refine CallVC.mk (Ctr.monoR ?_ (hA _ _)); ((rintro v H ⟨rfl, rfl⟩) <;> (conv => cbv))) | (simp only [hu.b, hu.i, iB, iI, cmpB, Iv.val_sym, Iv.val_lit, Lv.raw, Tv.raw, decide_eq_true_eq, decide_eq_false_iff_not, beq_iff_eq, beq_eq_false_iff_ne, ne_eq, ofN, Int.toNat_zero, Int.toNat_one, Int.reduceToNat, natc, hu.s, iS, Sv.val_lit, Sv.val_sym, true_iff, false_iff, Bool.false_eq_true, bne_iff_ne, bne_eq_false_iff_eq, Bool.not_eq_true', Bool.not_eq_false', Decidable.not_not, nil_toList, ByteArray.size_empty, nilS, not_true_eq_false, not_false_eq_true, hu.l, iL, hu.t, iT, bin_add, bin_sub, bin_mul, wr_u8, wr_u16, wr_u32, wr_u64, IntKind.wrap_i64, hs]; (try simp only [Int.ofNat_eq_natCast]); done) | ((try simp only [hu.b, hu.i, iB, iI, cmpB, Iv.val_sym, Iv.val_lit, Lv.raw, Tv.raw, decide_eq_true_eq, decide_eq_false_iff_not, beq_iff_eq, beq_eq_false_iff_ne, ne_eq, ofN, Int.toNat_zero, Int.toNat_one, Int.reduceToNat, natc, hu.s, iS, Sv.val_lit, Sv.val_sym, true_iff, false_iff, Bool.false_eq_true, bne_iff_ne, bne_eq_false_iff_eq, Bool.not_eq_true', Bool.not_eq_false', Decidable.not_not, nil_toList, ByteArray.size_empty, nilS, not_true_eq_false, not_false_eq_true, hu.l, iL, hu.t, iT, bin_add, bin_sub, bin_mul, wr_u8, wr_u16, wr_u32, wr_u64, IntKind.wrap_i64, hs]) <;> (try simp only [Int.ofNat_eq_natCast]) <;> omega))
        all_goals try (subst hR; exact Weak.law (by rfl) (by rfl))
        all_goals clear hL hC hC1 hF hA
        · have h1 := e3 (by omega)
          rw [if_pos (by assumption)] at h1
          obtain ⟨q', eq'⟩ : ∃ x, x = q + 1 := ⟨_, rfl⟩
          obtain ⟨m', em'⟩ : ∃ x, x = m + 1 := ⟨_, rfl⟩
          obtain ⟨l', el'⟩ : ∃ x, x = l ++ [48 + bs.getD q.toNat 0 % 10] := ⟨_, rfl⟩
          rw [← eq'] at h1
          refine ⟨(q', m', l'), ⟨by dsimp only; omega, by dsimp only; omega, by dsimp only; rw [el']; simp; omega, by dsimp only; rw [h1, el']⟩, by dsimp only; omega, [0, 1, 2, 5], by kernel_rfl, by kernel_rfl, ?_, ?_⟩
          all_goals
            ((conv => cbv); repeat' (first | exact True.intro | with_reducible rfl | (with_reducible refine And.intro ?_ ?_)))
          · simp only [hu.b, hu.i, iB, iI, cmpB, Iv.val_sym, Iv.val_lit, Lv.raw, Tv.raw, decide_eq_true_eq, decide_eq_false_iff_not, beq_iff_eq, beq_eq_false_iff_ne, ne_eq, ofN, Int.toNat_zero, Int.toNat_one, Int.reduceToNat, natc, hu.s, iS, Sv.val_lit, Sv.val_sym, true_iff, false_iff, Bool.false_eq_true, bne_iff_ne, bne_eq_false_iff_eq, Bool.not_eq_true', Bool.not_eq_false', Decidable.not_not, nil_toList, ByteArray.size_empty, nilS, not_true_eq_false, not_false_eq_true, hu.l, iL, lvals]; simp; omega
          · rw [hu.i, eq']; exact e1
          · rw [el']; simp only [hu.b, hu.i, iB, iI, cmpB, Iv.val_sym, Iv.val_lit, Lv.raw, Tv.raw, decide_eq_true_eq, decide_eq_false_iff_not, beq_iff_eq, beq_eq_false_iff_ne, ne_eq, ofN, Int.toNat_zero, Int.toNat_one, Int.reduceToNat, natc, hu.s, iS, Sv.val_lit, Sv.val_sym, true_iff, false_iff, Bool.false_eq_true, bne_iff_ne, bne_eq_false_iff_eq, Bool.not_eq_true', Bool.not_eq_false', Decidable.not_not, nil_toList, ByteArray.size_empty, nilS, not_true_eq_false, not_false_eq_true, hu.l, iL, lvals, e2]
        · have h1 := e3 (by omega)
          rw [if_neg (by assumption)] at h1
          obtain ⟨q', eq'⟩ : ∃ x, x = q + 1 := ⟨_, rfl⟩
          rw [← eq'] at h1
          refine ⟨(q', m, l), ⟨by dsimp only; omega, by dsimp only; omega, q2, h1.symm⟩, by dsimp only; omega, [0, 1, 2, 3], by kernel_rfl, by kernel_rfl, ?_, ?_⟩
          all_goals
            ((conv => cbv); repeat' (first | exact True.intro | with_reducible rfl | (with_reducible refine And.intro ?_ ?_)))
          · rw [hu.i, eq']; exact e1
        all_goals exact absurd (e6 (by omega)) (by assumption)
end Go.Proofs.YtmbmdhkfddljjaaDoor
namespace Go.Proofs.YtmbmdhkfddljjaaDoor
open Go Sx
set_option maxRecDepth 100000
set_option maxHeartbeats 4000000
/-- The same bytes? -/
theorem same_ctr (xs ys : List Int) (n m : Int) (hn : n = xs.length) (hm0 : m = ys.length) (hb : n ≤ 4611686018427387904) : Ctr Tryd.prog 13 [.cols .ro 5 [.ints .u8 (.sym xs)], .cols .ro 5 [.ints .u8 (.sym ys)]] [.sl 0 (.lit 0) (.sym n), .sl 1 (.lit 0) (.sym m)]
    fun v H => (∃ b : Bool, (b = true ↔ xs = ys) ∧ v = .sbool b) ∧ H = [.cols .ro 5 [.ints .u8 (.sym xs)], .cols .ro 5 [.ints .u8 (.sym ys)]] := by
  have n0 : 0 ≤ n := by omega
  have m0 : 0 ≤ m := by omega
  obtain ⟨uI, uB, uS, uL, uT, hu⟩ := words
  have hm := mixed
  have hT := tabOk
  obtain ⟨P, hP⟩ : ∃ P, P = Tryd.prog := ⟨_, rfl⟩
  rw [← hP] at hm hT ⊢
  refine Ctr.weak (ctr_of_vc hu hm hT (hP ▸ Tryd.func13) rfl (by kernel_rfl) ?_)
  clear hP hm hT
  generalize hR : Weak _ _ = R
  cbv
  repeat' (first | (intro h; (try subst h); cbv) | (refine And.intro ?_ ?_))
  · subst hR
    refine Weak.of ⟨⟨false, ?_, rfl⟩, rfl⟩ rfl ⟨⟨rfl, ⟨rfl, rfl⟩, trivial⟩, ⟨rfl, ⟨rfl, rfl⟩, trivial⟩, trivial⟩ rfl
    simp only [hu.b, hu.i, iB, iI, cmpB, Iv.val_sym, Iv.val_lit, Lv.raw, Tv.raw, decide_eq_true_eq, decide_eq_false_iff_not, beq_iff_eq, beq_eq_false_iff_ne, ne_eq, ofN, Int.toNat_zero, Int.toNat_one, Int.reduceToNat, natc, hu.s, iS, Sv.val_lit, Sv.val_sym, true_iff, false_iff, Bool.false_eq_true, bne_iff_ne, bne_eq_false_iff_eq, Bool.not_eq_true', Bool.not_eq_false', Decidable.not_not, nil_toList, ByteArray.size_empty, nilS, not_true_eq_false, not_false_eq_true] at *
    try simp only [Int.ofNat_eq_natCast] at *
    intro e
    subst e
    omega
  · have hl : n = m := by
      clear hR
      simp only [hu.b, hu.i, iB, iI, cmpB, Iv.val_sym, Iv.val_lit, Lv.raw, Tv.raw, decide_eq_true_eq, decide_eq_false_iff_not, beq_iff_eq, beq_eq_false_iff_ne, ne_eq, ofN, Int.toNat_zero, Int.toNat_one, Int.reduceToNat, natc, hu.s, iS, Sv.val_lit, Sv.val_sym, true_iff, false_iff, Bool.false_eq_true, bne_iff_ne, bne_eq_false_iff_eq, Bool.not_eq_true', Bool.not_eq_false', Decidable.not_not, nil_toList, ByteArray.size_empty, nilS, not_true_eq_false, not_false_eq_true] at *
      try simp only [Int.ofNat_eq_natCast] at *
      exact h
    refine .inv Int [5] (fun i => ([.int .i64 (.sym i)], [.cols .ro 5 [.ints .u8 (.sym xs)], .cols .ro 5 [.ints .u8 (.sym ys)]])) (fun i => 0 ≤ i ∧ i ≤ n ∧ ∀ k : Nat, k < i → xs.getD k 0 = ys.getD k 0) (fun i => (n - i).toNat) 0 (by kernel_rfl) (fun i hi => by kernel_rfl) ?_ ?_
    · refine ⟨⟨by omega, by omega, fun k hk => by omega⟩, ?_, ?_⟩
      · cbv
        repeat' (first | exact trivial | rfl | refine And.intro ?_ ?_)
      · cbv
        repeat' (first | exact trivial | rfl | refine And.intro ?_ ?_)
    · intro i hi
      cbv
      repeat' (first | (intro h; (try subst h); cbv) | (refine And.intro ?_ ?_))
      all_goals
        simp only [hu.b, hu.i, iB, iI, cmpB, Iv.val_sym, Iv.val_lit, Lv.raw, Tv.raw, decide_eq_true_eq, decide_eq_false_iff_not, beq_iff_eq, beq_eq_false_iff_ne, ne_eq, ofN, Int.toNat_zero, Int.toNat_one, Int.reduceToNat, natc, hu.s, iS, Sv.val_lit, Sv.val_sym, true_iff, false_iff, Bool.false_eq_true, bne_iff_ne, bne_eq_false_iff_eq, Bool.not_eq_true', Bool.not_eq_false', Decidable.not_not, nil_toList, ByteArray.size_empty, nilS, not_true_eq_false, not_false_eq_true, hu.l, iL] at *
        try simp only [Int.ofNat_eq_natCast] at *
      all_goals try omega
      · subst hR
        refine Weak.of ⟨⟨false, ?_, rfl⟩, rfl⟩ rfl ⟨⟨rfl, ⟨rfl, rfl⟩, trivial⟩, ⟨rfl, ⟨rfl, rfl⟩, trivial⟩, trivial⟩ rfl
        simp only [false_iff, Bool.false_eq_true]
        intro e
        subst e
        exact h rfl
      · refine ⟨i + 1, ⟨by omega, by omega, fun k hk => ?_⟩, by omega, ⟨⟨rfl, ?_⟩, trivial⟩, ?_⟩
        · by_cases hk' : (k : Int) < i
          · exact hi.2.2 k hk'
          · have e : k = i.toNat := by omega
            subst e; exact h
        · exact add_i64 (by omega) (by omega)
        · cbv
          repeat' (first | exact trivial | rfl | refine And.intro ?_ ?_)
      · subst hR
        refine Weak.of ⟨⟨true, ?_, rfl⟩, rfl⟩ rfl ⟨⟨rfl, ⟨rfl, rfl⟩, trivial⟩, ⟨rfl, ⟨rfl, rfl⟩, trivial⟩, trivial⟩ rfl
        simp only [true_iff]
        exact list_eq_of_get (by omega) (fun k hk => hi.2.2 k (by omega))
/-- .. as it is taken. -/
theorem same_c (xs ys : Lv) (n m : Iv) (hn : n.val = xs.raw.length) (hm : m.val = ys.raw.length) (hb : n.val ≤ 4611686018427387904) : Ctr Tryd.prog 13 [.cols .ro 5 [.ints .u8 xs], .cols .ro 5 [.ints .u8 ys]] [.sl 0 (.lit 0) n, .sl 1 (.lit 0) m]
    fun v H => ∃ b : Bool, (b = true ↔ xs.raw = ys.raw) ∧ v = .sbool b ∧ H = [.cols .ro 5 [.ints .u8 (.sym xs.raw)], .cols .ro 5 [.ints .u8 (.sym ys.raw)]] :=
  Ctr.mono (Ctr.conv (E1 := [.cols .ro 5 [.ints .u8 xs], .cols .ro 5 [.ints .u8 ys]]) (args1 := [.sl 0 (.lit 0) n, .sl 1 (.lit 0) m]) (same_ctr xs.raw ys.raw n.val m.val hn hm hb) ⟨⟨⟨rfl, ⟨rfl, rfl⟩, trivial⟩, rfl⟩, ⟨⟨rfl, ⟨rfl, rfl⟩, trivial⟩, rfl⟩, trivial⟩ ⟨⟨rfl, rfl, rfl⟩, ⟨rfl, rfl, rfl⟩, trivial⟩)
    fun v H ⟨⟨b, h1, h2⟩, h3⟩ => ⟨b, h1, h2, h3⟩
theorem same_nil_c : Ctr Tryd.prog 13 [] [.nilsl, .nilsl] fun v H => v = .bool true ∧ H = [] := by
  obtain ⟨uI, uB, uS, uL, uT, hu⟩ := words
  have hm := mixed
  have hT := tabOk
  obtain ⟨P, hP⟩ : ∃ P, P = Tryd.prog := ⟨_, rfl⟩
  rw [← hP] at hm hT ⊢
  refine Ctr.weak (ctr_of_vc hu hm hT (hP ▸ Tryd.func13) rfl (by kernel_rfl) ?_)
  clear hP hm hT
  generalize hR : Weak _ _ = R
  cbv
  repeat' (first | (intro h; (try subst h); cbv) | (refine And.intro ?_ ?_))
  refine .unroll 1 ?_
  cbv
  repeat' (first | (intro h; (try subst h); cbv) | (refine And.intro ?_ ?_))
  subst hR
  exact Weak.of ⟨rfl, rfl⟩ rfl trivial rfl
theorem same_nil1_ctr (ys : List Int) (m : Int) (h1 : 0 < m) : Ctr Tryd.prog 13 [.cols .ro 5 [.ints .u8 (.sym ys)]] [.nilsl, .sl 0 (.lit 0) (.sym m)] fun v H => v = .bool false ∧ H = [.cols .ro 5 [.ints .u8 (.sym ys)]] := by
  obtain ⟨uI, uB, uS, uL, uT, hu⟩ := words
  have hm := mixed
  have hT := tabOk
  obtain ⟨P, hP⟩ : ∃ P, P = Tryd.prog := ⟨_, rfl⟩
  rw [← hP] at hm hT ⊢
  refine Ctr.weak (ctr_of_vc hu hm hT (hP ▸ Tryd.func13) rfl (by kernel_rfl) ?_)
  clear hP hm hT
  generalize hR : Weak _ _ = R
  cbv
  repeat' (first | (intro h; (try subst h); cbv) | (refine And.intro ?_ ?_))
  · subst hR
    exact Weak.of ⟨rfl, rfl⟩ rfl ⟨⟨rfl, ⟨rfl, rfl⟩, trivial⟩, trivial⟩ rfl
  · exfalso
    clear hR
    simp only [hu.b, hu.i, iB, iI, cmpB, Iv.val_sym, Iv.val_lit, Lv.raw, Tv.raw, decide_eq_true_eq, decide_eq_false_iff_not, beq_iff_eq, beq_eq_false_iff_ne, ne_eq, ofN, Int.toNat_zero, Int.toNat_one, Int.reduceToNat, natc, hu.s, iS, Sv.val_lit, Sv.val_sym, true_iff, false_iff, Bool.false_eq_true, bne_iff_ne, bne_eq_false_iff_eq, Bool.not_eq_true', Bool.not_eq_false', Decidable.not_not, nil_toList, ByteArray.size_empty, nilS, not_true_eq_false, not_false_eq_true] at *
    try simp only [Int.ofNat_eq_natCast] at *
    omega
theorem same_nil1_c (ys : Lv) (m : Iv) (h1 : 0 < m.val) : Ctr Tryd.prog 13 [.cols .ro 5 [.ints .u8 ys]] [.nilsl, .sl 0 (.lit 0) m] fun v H => v = .bool false ∧ H = [.cols .ro 5 [.ints .u8 (.sym ys.raw)]] :=
  Ctr.conv (same_nil1_ctr ys.raw m.val h1) ⟨⟨⟨rfl, ⟨rfl, rfl⟩, trivial⟩, rfl⟩, trivial⟩ ⟨trivial, ⟨rfl, rfl, rfl⟩, trivial⟩
end Go.Proofs.YtmbmdhkfddljjaaDoor
namespace Go.Proofs.YtmbmdhkfddljjaaDoor
open Go Sx
set_option maxRecDepth 100000
set_option maxHeartbeats 4000000
theorem same_t (xs ys : List Int) (n m : Int) (hn : n = xs.length) (hm : m = ys.length) (hb : n ≤ 4611686018427387904) (he : xs = ys) : Ctr Tryd.prog 13 [.cols .ro 5 [.ints .u8 (.sym xs)], .cols .ro 5 [.ints .u8 (.sym ys)]] [.sl 0 (.lit 0) (.sym n), .sl 1 (.lit 0) (.sym m)]
    fun v H => v = .bool true ∧ H = [.cols .ro 5 [.ints .u8 (.sym xs)], .cols .ro 5 [.ints .u8 (.sym ys)]] := by
  refine Ctr.weak ((same_ctr xs ys n m hn hm hb).mono ?_)
  rintro v H ⟨⟨b, h1, rfl⟩, rfl⟩
  refine Weak.of ⟨rfl, rfl⟩ (h1.2 he) ⟨⟨rfl, ⟨rfl, rfl⟩, trivial⟩, ⟨rfl, ⟨rfl, rfl⟩, trivial⟩, trivial⟩ rfl
theorem take_v (bs : List Int) (o n k : Int) (ho : 0 ≤ o) (hn : 0 ≤ n) (hb : o + n ≤ bs.length) (hl : n ≤ 65536) : Ctr Tryd.prog 10 [.cells 45 [.sl 1 (.sym o) (.sym n)], .cols (.row 1) 5 [.ints .u8 (.sym bs)]] [.ptr 0 ⟨.lit 0, 1, 0⟩, .int .i64 (.sym k)] fun v H =>
  (k < 0 ∧ v = .tup [.nilsl, .iface 42 (.int .i64 (.sym 1))] ∧ H = [.cells 45 [.sl 1 (.sym o) (.sym n)], .cols (.row 1) 5 [.ints .u8 (.sym bs)]]) ∨
  ((0 ≤ k ∧ n < k) ∧ v = .tup [.nilsl, .iface 49 (.ptr 2 ⟨.lit 0, 1, 0⟩)] ∧ H = [.cells 45 [.sl 1 (.sym o) (.sym n)], .cols (.row 1) 5 [.ints .u8 (.sym bs)], .cells 52 [.int .i64 (.sym n), .iface 42 (.int .i64 (.sym 13))]]) ∨
  (∃ (a c : Int) (ys : List Int), (0 ≤ k ∧ k ≤ n ∧ a = o + k ∧ c = n - k ∧ (ys.length : Int) = k ∧ ys = subL bs o k) ∧ v = .tup [.vec 2 (.sym k), .nilif] ∧ H = [.cells 45 [.sl 1 (.sym a) (.sym c)], .cols (.row 1) 5 [.ints .u8 (.sym bs)], .cols (.row 1) 5 [.ints .u8 (.sym ys)]]) :=
  (take_ctr bs o n k ho hn hb hl).mono fun v H h => by
    rcases h with h | ⟨h0, h1, h2⟩ | ⟨h0, h1, h2, h3⟩
    · exact .inl h
    · exact .inr (.inl ⟨⟨h0, h1⟩, h2⟩)
    · exact .inr (.inr ⟨_, _, _, ⟨h0, h1, rfl, rfl, subL_length ho h0 (by omega), rfl⟩, h2, h3⟩)
theorem takes_ctr (bs ps : List Int) (nb np : Int) (hb : nb = bs.length) (hp : np = ps.length) (hx : Bytes bs) (hy : ∀ x ∈ ps, -9223372036854775808 ≤ x ∧ x ≤ 9223372036854775807) : Ctr Tryd.prog 3 [.cols .ro 5 [.ints .u8 (.sym bs)], .cols .ro 3 [.ints .i64 (.sym ps)]] [.sl 0 (.lit 0) (.sym nb), .sl 1 (.lit 0) (.sym np)] fun v H => v = .bool true := by
  have n0 : 0 ≤ nb := by omega
  have p0 : 0 ≤ np := by omega
  have hs := subL_all bs nb hb
  obtain ⟨uI, uB, uS, uL, uT, hu⟩ := words
  have hm := mixed
  have hT := tabOk
  have h6 := @awake_ctr
  have hN := @new_s
  have hL := @left_ctr
  have hK := @take_v
  have hC := @code_c
  have hC1 := @code_nil_c
  have hF := @code_fault_c
  have hA := @at_fault_c
  have hS := @same_t
  obtain ⟨P, hP⟩ : ∃ P, P = Tryd.prog := ⟨_, rfl⟩
  rw [← hP] at hm hT h6 hN hL hK hC hC1 hF hA hS ⊢
  refine Ctr.weak (ctr_of_vc hu hm hT (hP ▸ Tryd.func3) rfl (by kernel_rfl) ?_)
  clear hP hm hT
  generalize hR : Weak _ _ = R
  conv => cbv
  repeat' (first | ((with_reducible intro (h : _ = _)); (try subst h); (try simp only [hu.b, hu.i, iB, iI, cmpB, Iv.val_sym, Iv.val_lit, Lv.raw, Tv.raw, decide_eq_true_eq, decide_eq_false_iff_not, beq_iff_eq, beq_eq_false_iff_ne, ne_eq, ofN, Int.toNat_zero, Int.toNat_one, Int.reduceToNat, natc, hu.s, iS, Sv.val_lit, Sv.val_sym, true_iff, false_iff, Bool.false_eq_true, bne_iff_ne, bne_eq_false_iff_eq, Bool.not_eq_true', Bool.not_eq_false', Decidable.not_not, nil_toList, ByteArray.size_empty, nilS, not_true_eq_false, not_false_eq_true, hu.l, iL, hu.t, iT, bin_add, bin_sub, bin_mul, wr_u8, wr_u16, wr_u32, wr_u64, IntKind.wrap_i64, List.length_append, List.length_cons, List.length_nil, List.nil_append, List.append_nil, List.cons_append, lvals, List.length_replicate, List.length_set, linV_val hu, hs] at h) <;> (try simp only [Int.ofNat_eq_natCast] at h) <;> (first | (have hF0 : False := by omega; exact hF0.elim) | (conv => cbv))) | (with_reducible refine And.intro ?_ ?_) | (refine CallVC.mk (Ctr.monoR ?_ (h6)); ((rintro v H ⟨rfl, rfl⟩) <;> (conv => cbv))) | (refine CallVC.mk (Ctr.monoR ?_ (hN _ _ ?_ ?_)); ((rintro v H ⟨rfl, rfl⟩) <;> (conv => cbv))) | (refine CallVC.mk (Ctr.monoR ?_ (hL _ _ _)); ((rintro v H ⟨rfl, rfl⟩) <;> (conv => cbv))) | (simp only [hu.b, hu.i, iB, iI, cmpB, Iv.val_sym, Iv.val_lit, Lv.raw, Tv.raw, decide_eq_true_eq, decide_eq_false_iff_not, beq_iff_eq, beq_eq_false_iff_ne, ne_eq, ofN, Int.toNat_zero, Int.toNat_one, Int.reduceToNat, natc, hu.s, iS, Sv.val_lit, Sv.val_sym, true_iff, false_iff, Bool.false_eq_true, bne_iff_ne, bne_eq_false_iff_eq, Bool.not_eq_true', Bool.not_eq_false', Decidable.not_not, nil_toList, ByteArray.size_empty, nilS, not_true_eq_false, not_false_eq_true, hu.l, iL, hu.t, iT, bin_add, bin_sub, bin_mul, wr_u8, wr_u16, wr_u32, wr_u64, IntKind.wrap_i64, List.length_append, List.length_cons, List.length_nil, List.nil_append, List.append_nil, List.cons_append, lvals, List.length_replicate, List.length_set, linV_val hu, hs]; (try simp only [Int.ofNat_eq_natCast]); done) | ((try simp only [hu.b, hu.i, iB, iI, cmpB, Iv.val_sym, Iv.val_lit, Lv.raw, Tv.raw, decide_eq_true_eq, decide_eq_false_iff_not, beq_iff_eq, beq_eq_false_iff_ne, ne_eq, ofN, Int.toNat_zero, Int.toNat_one, Int.reduceToNat, natc, hu.s, iS, Sv.val_lit, Sv.val_sym, true_iff, false_iff, Bool.false_eq_true, bne_iff_ne, bne_eq_false_iff_eq, Bool.not_eq_true', Bool.not_eq_false', Decidable.not_not, nil_toList, ByteArray.size_empty, nilS, not_true_eq_false, not_false_eq_true, hu.l, iL, hu.t, iT, bin_add, bin_sub, bin_mul, wr_u8, wr_u16, wr_u32, wr_u64, IntKind.wrap_i64, List.length_append, List.length_cons, List.length_nil, List.nil_append, List.append_nil, List.cons_append, lvals, List.length_replicate, List.length_set, linV_val hu, hs]) <;> (try simp only [Int.ofNat_eq_natCast]) <;> omega))
  all_goals try (subst hR; exact Weak.law (by rfl) (by rfl))
  refine .inv (Int × Int × Int) [7, 8] (fun g => ([.int .i64 (.sym g.2.1), .int .i64 (.sym g.1)], [.cols .ro 5 [.ints .u8 (.sym bs)], .cols .ro 3 [.ints .i64 (.sym ps)], .cells 45 [.sl 3 (.sym g.2.1) (.sym g.2.2)], .cols (.row 1) 5 [.ints .u8 (.sym bs)]])) (fun g => 0 ≤ g.1 ∧ g.1 ≤ np ∧ 0 ≤ g.2.1 ∧ g.2.1 ≤ nb ∧ g.2.2 = nb - g.2.1) (fun g => (np - g.1).toNat) (0, 0, nb) (by kernel_rfl) (fun g hg => by kernel_rfl) ?_ ?_
  · refine ⟨⟨by dsimp only; omega, p0, by dsimp only; omega, n0, by dsimp only; omega⟩, ?_, ?_⟩
    all_goals
      ((conv => cbv); repeat' (first | exact True.intro | with_reducible rfl | (with_reducible refine And.intro ?_ ?_)))
    all_goals (simp only [hu.l, iL, Lv.raw, Iv.val_sym, Iv.val_lit]; exact hs)
  · rintro ⟨i, a, c⟩ hq
    simp only [] at hq
    have q0 := hq.1; have q1 := hq.2.1; have q2 := hq.2.2.1; have q3 := hq.2.2.2.1; have q4 := hq.2.2.2.2
    clear hq
    conv => cbv
    repeat' (first | ((with_reducible intro (h : _ = _)); (try subst h); (try simp only [hu.b, hu.i, iB, iI, cmpB, Iv.val_sym, Iv.val_lit, Lv.raw, Tv.raw, decide_eq_true_eq, decide_eq_false_iff_not, beq_iff_eq, beq_eq_false_iff_ne, ne_eq, ofN, Int.toNat_zero, Int.toNat_one, Int.reduceToNat, natc, hu.s, iS, Sv.val_lit, Sv.val_sym, true_iff, false_iff, Bool.false_eq_true, bne_iff_ne, bne_eq_false_iff_eq, Bool.not_eq_true', Bool.not_eq_false', Decidable.not_not, nil_toList, ByteArray.size_empty, nilS, not_true_eq_false, not_false_eq_true, hu.l, iL, hu.t, iT, bin_add, bin_sub, bin_mul, wr_u8, wr_u16, wr_u32, wr_u64, IntKind.wrap_i64, List.length_append, List.length_cons, List.length_nil, List.nil_append, List.append_nil, List.cons_append, lvals, List.length_replicate, List.length_set, linV_val hu, hs] at h) <;> (try simp only [Int.ofNat_eq_natCast] at h) <;> (first | (have hF0 : False := by omega; exact hF0.elim) | (conv => cbv))) | (with_reducible refine And.intro ?_ ?_) | (refine CallVC.mk (Ctr.monoR ?_ (hK _ _ _ _ ?_ ?_ ?_ ?_)); ((rintro v H (⟨hd, rfl, rfl⟩ | ⟨hd, rfl, rfl⟩ | ⟨a', c', ys, hd, rfl, rfl⟩)) <;> (try simp only [hu.b, hu.i, iB, iI, cmpB, Iv.val_sym, Iv.val_lit, Lv.raw, Tv.raw, decide_eq_true_eq, decide_eq_false_iff_not, beq_iff_eq, beq_eq_false_iff_ne, ne_eq, ofN, Int.toNat_zero, Int.toNat_one, Int.reduceToNat, natc, hu.s, iS, Sv.val_lit, Sv.val_sym, true_iff, false_iff, Bool.false_eq_true, bne_iff_ne, bne_eq_false_iff_eq, Bool.not_eq_true', Bool.not_eq_false', Decidable.not_not, nil_toList, ByteArray.size_empty, nilS, not_true_eq_false, not_false_eq_true, hu.l, iL, hu.t, iT, bin_add, bin_sub, bin_mul, wr_u8, wr_u16, wr_u32, wr_u64, IntKind.wrap_i64, List.length_append, List.length_cons, List.length_nil, List.nil_append, List.append_nil, List.cons_append, lvals, List.length_replicate, List.length_set, linV_val hu, hs] at hd) <;> (try simp only [Int.ofNat_eq_natCast] at hd) <;> (try simp only [hu.b, hu.i, iB, iI, cmpB, Iv.val_sym, Iv.val_lit, Lv.raw, Tv.raw, decide_eq_true_eq, decide_eq_false_iff_not, beq_iff_eq, beq_eq_false_iff_ne, ne_eq, ofN, Int.toNat_zero, Int.toNat_one, Int.reduceToNat, natc, hu.s, iS, Sv.val_lit, Sv.val_sym, true_iff, false_iff, Bool.false_eq_true, bne_iff_ne, bne_eq_false_iff_eq, Bool.not_eq_true', Bool.not_eq_false', Decidable.not_not, nil_toList, ByteArray.size_empty, nilS, not_true_eq_false, not_false_eq_true, hu.l, iL, hu.t, iT, bin_add, bin_sub, bin_mul, wr_u8, wr_u16, wr_u32, wr_u64, IntKind.wrap_i64, List.length_append, List.length_cons, List.length_nil, List.nil_append, List.append_nil, List.cons_append, lvals, List.length_replicate, List.length_set, linV_val hu, hs] at hd) <;> (try simp only [Int.ofNat_eq_natCast] at hd) <;> (try simp only [hu.b, hu.i, iB, iI, cmpB, Iv.val_sym, Iv.val_lit, Lv.raw, Tv.raw, decide_eq_true_eq, decide_eq_false_iff_not, beq_iff_eq, beq_eq_false_iff_ne, ne_eq, ofN, Int.toNat_zero, Int.toNat_one, Int.reduceToNat, natc, hu.s, iS, Sv.val_lit, Sv.val_sym, true_iff, false_iff, Bool.false_eq_true, bne_iff_ne, bne_eq_false_iff_eq, Bool.not_eq_true', Bool.not_eq_false', Decidable.not_not, nil_toList, ByteArray.size_empty, nilS, not_true_eq_false, not_false_eq_true, hu.l, iL, hu.t, iT, bin_add, bin_sub, bin_mul, wr_u8, wr_u16, wr_u32, wr_u64, IntKind.wrap_i64, List.length_append, List.length_cons, List.length_nil, List.nil_append, List.append_nil, List.cons_append, lvals, List.length_replicate, List.length_set, linV_val hu, hs] at hd) <;> (try simp only [Int.ofNat_eq_natCast] at hd) <;> (first | (have hF0 : False := by omega; exact hF0.elim) | (conv => cbv)))) | (refine CallVC.mk (Ctr.monoR ?_ (hL _ _ _)); ((rintro v H ⟨rfl, rfl⟩) <;> (conv => cbv))) | (refine CallVC.mk (Ctr.monoR ?_ (hC _)); ((rintro v H ⟨rfl, rfl⟩) <;> (conv => cbv))) | (refine CallVC.mk (Ctr.monoR ?_ (hC1)); ((rintro v H ⟨rfl, rfl⟩) <;> (conv => cbv))) | (refine CallVC.mk (Ctr.monoR ?_ (hF _ _)); ((rintro v H ⟨rfl, rfl⟩) <;> (conv => cbv))) | (refine CallVC.mk (Ctr.monoR ?_ (hA _ _)); ((rintro v H ⟨rfl, rfl⟩) <;> (conv => cbv))) | (refine CallVC.mk (Ctr.monoR ?_ (hS _ _ _ _ ?_ ?_ ?_ ?_)); ((rintro v H ⟨rfl, rfl⟩) <;> (conv => cbv))) | (simp only [hu.b, hu.i, iB, iI, cmpB, Iv.val_sym, Iv.val_lit, Lv.raw, Tv.raw, decide_eq_true_eq, decide_eq_false_iff_not, beq_iff_eq, beq_eq_false_iff_ne, ne_eq, ofN, Int.toNat_zero, Int.toNat_one, Int.reduceToNat, natc, hu.s, iS, Sv.val_lit, Sv.val_sym, true_iff, false_iff, Bool.false_eq_true, bne_iff_ne, bne_eq_false_iff_eq, Bool.not_eq_true', Bool.not_eq_false', Decidable.not_not, nil_toList, ByteArray.size_empty, nilS, not_true_eq_false, not_false_eq_true, hu.l, iL, hu.t, iT, bin_add, bin_sub, bin_mul, wr_u8, wr_u16, wr_u32, wr_u64, IntKind.wrap_i64, List.length_append, List.length_cons, List.length_nil, List.nil_append, List.append_nil, List.cons_append, lvals, List.length_replicate, List.length_set, linV_val hu, hs]; (try simp only [Int.ofNat_eq_natCast]); done) | ((try simp only [hu.b, hu.i, iB, iI, cmpB, Iv.val_sym, Iv.val_lit, Lv.raw, Tv.raw, decide_eq_true_eq, decide_eq_false_iff_not, beq_iff_eq, beq_eq_false_iff_ne, ne_eq, ofN, Int.toNat_zero, Int.toNat_one, Int.reduceToNat, natc, hu.s, iS, Sv.val_lit, Sv.val_sym, true_iff, false_iff, Bool.false_eq_true, bne_iff_ne, bne_eq_false_iff_eq, Bool.not_eq_true', Bool.not_eq_false', Decidable.not_not, nil_toList, ByteArray.size_empty, nilS, not_true_eq_false, not_false_eq_true, hu.l, iL, hu.t, iT, bin_add, bin_sub, bin_mul, wr_u8, wr_u16, wr_u32, wr_u64, IntKind.wrap_i64, List.length_append, List.length_cons, List.length_nil, List.nil_append, List.append_nil, List.cons_append, lvals, List.length_replicate, List.length_set, linV_val hu, hs]) <;> (try simp only [Int.ofNat_eq_natCast]) <;> omega))
    all_goals try (subst hR; exact Weak.law (by rfl) (by rfl))
    all_goals clear hK hL hC hC1 hF hA hS
    all_goals
      obtain ⟨i', ei⟩ : ∃ x, x = i + 1 := ⟨_, rfl⟩
    · refine ⟨(i', a, c), ⟨by dsimp only; omega, by dsimp only; omega, q2, q3, q4⟩, by dsimp only; omega, ?_, ?_⟩
      all_goals
        ((conv => cbv); repeat' (first | exact True.intro | with_reducible rfl | (with_reducible refine And.intro ?_ ?_)))
      ((try simp only [hu.b, hu.i, iB, iI, cmpB, Iv.val_sym, Iv.val_lit, Lv.raw, Tv.raw, decide_eq_true_eq, decide_eq_false_iff_not, beq_iff_eq, beq_eq_false_iff_ne, ne_eq, ofN, Int.toNat_zero, Int.toNat_one, Int.reduceToNat, natc, hu.s, iS, Sv.val_lit, Sv.val_sym, true_iff, false_iff, Bool.false_eq_true, bne_iff_ne, bne_eq_false_iff_eq, Bool.not_eq_true', Bool.not_eq_false', Decidable.not_not, nil_toList, ByteArray.size_empty, nilS, not_true_eq_false, not_false_eq_true, hu.l, iL, hu.t, iT, bin_add, bin_sub, bin_mul, wr_u8, wr_u16, wr_u32, wr_u64, IntKind.wrap_i64, List.length_append, List.length_cons, List.length_nil, List.nil_append, List.append_nil, List.cons_append, lvals, List.length_replicate, List.length_set, linV_val hu]) <;> (try simp only [Int.ofNat_eq_natCast]) <;> (try omega))
    · refine ⟨(i', a, c), ⟨by dsimp only; omega, by dsimp only; omega, q2, q3, q4⟩, by dsimp only; omega, ?_, ?_⟩
      all_goals
        ((conv => cbv); repeat' (first | exact True.intro | with_reducible rfl | (with_reducible refine And.intro ?_ ?_)))
      ((try simp only [hu.b, hu.i, iB, iI, cmpB, Iv.val_sym, Iv.val_lit, Lv.raw, Tv.raw, decide_eq_true_eq, decide_eq_false_iff_not, beq_iff_eq, beq_eq_false_iff_ne, ne_eq, ofN, Int.toNat_zero, Int.toNat_one, Int.reduceToNat, natc, hu.s, iS, Sv.val_lit, Sv.val_sym, true_iff, false_iff, Bool.false_eq_true, bne_iff_ne, bne_eq_false_iff_eq, Bool.not_eq_true', Bool.not_eq_false', Decidable.not_not, nil_toList, ByteArray.size_empty, nilS, not_true_eq_false, not_false_eq_true, hu.l, iL, hu.t, iT, bin_add, bin_sub, bin_mul, wr_u8, wr_u16, wr_u32, wr_u64, IntKind.wrap_i64, List.length_append, List.length_cons, List.length_nil, List.nil_append, List.append_nil, List.cons_append, lvals, List.length_replicate, List.length_set, linV_val hu]) <;> (try simp only [Int.ofNat_eq_natCast]) <;> (try omega))
    · refine ⟨(i', a', c'), ⟨by dsimp only; omega, by dsimp only; omega, by dsimp only; omega, by dsimp only; omega, by dsimp only; omega⟩, by dsimp only; omega, ?_, ?_⟩
      all_goals
        ((conv => cbv); repeat' (first | exact True.intro | with_reducible rfl | (with_reducible refine And.intro ?_ ?_)))
      all_goals
        ((try simp only [hu.b, hu.i, iB, iI, cmpB, Iv.val_sym, Iv.val_lit, Lv.raw, Tv.raw, decide_eq_true_eq, decide_eq_false_iff_not, beq_iff_eq, beq_eq_false_iff_ne, ne_eq, ofN, Int.toNat_zero, Int.toNat_one, Int.reduceToNat, natc, hu.s, iS, Sv.val_lit, Sv.val_sym, true_iff, false_iff, Bool.false_eq_true, bne_iff_ne, bne_eq_false_iff_eq, Bool.not_eq_true', Bool.not_eq_false', Decidable.not_not, nil_toList, ByteArray.size_empty, nilS, not_true_eq_false, not_false_eq_true, hu.l, iL, hu.t, iT, bin_add, bin_sub, bin_mul, wr_u8, wr_u16, wr_u32, wr_u64, IntKind.wrap_i64, List.length_append, List.length_cons, List.length_nil, List.nil_append, List.append_nil, List.cons_append, lvals, List.length_replicate, List.length_set, linV_val hu]) <;> (try simp only [Int.ofNat_eq_natCast]) <;> (try omega))
    · have e : (a + ps.getD i.toNat 0 + 9223372036854775808) % 18446744073709551616 - 9223372036854775808 - a = ps.getD i.toNat 0 := by omega
      ((try simp only [hu.b, hu.i, iB, iI, cmpB, Iv.val_sym, Iv.val_lit, Lv.raw, Tv.raw, decide_eq_true_eq, decide_eq_false_iff_not, beq_iff_eq, beq_eq_false_iff_ne, ne_eq, ofN, Int.toNat_zero, Int.toNat_one, Int.reduceToNat, natc, hu.s, iS, Sv.val_lit, Sv.val_sym, true_iff, false_iff, Bool.false_eq_true, bne_iff_ne, bne_eq_false_iff_eq, Bool.not_eq_true', Bool.not_eq_false', Decidable.not_not, nil_toList, ByteArray.size_empty, nilS, not_true_eq_false, not_false_eq_true, hu.l, iL, hu.t, iT, bin_add, bin_sub, bin_mul, wr_u8, wr_u16, wr_u32, wr_u64, IntKind.wrap_i64, List.length_append, List.length_cons, List.length_nil, List.nil_append, List.append_nil, List.cons_append, lvals, List.length_replicate, List.length_set, linV_val hu, e]) <;> (try simp only [Int.ofNat_eq_natCast]) <;> (try omega))
      rw [← hd.2.2.2.2.2]; omega
    · have e : (a + ps.getD i.toNat 0 + 9223372036854775808) % 18446744073709551616 - 9223372036854775808 - a = ps.getD i.toNat 0 := by omega
      ((try simp only [hu.b, hu.i, iB, iI, cmpB, Iv.val_sym, Iv.val_lit, Lv.raw, Tv.raw, decide_eq_true_eq, decide_eq_false_iff_not, beq_iff_eq, beq_eq_false_iff_ne, ne_eq, ofN, Int.toNat_zero, Int.toNat_one, Int.reduceToNat, natc, hu.s, iS, Sv.val_lit, Sv.val_sym, true_iff, false_iff, Bool.false_eq_true, bne_iff_ne, bne_eq_false_iff_eq, Bool.not_eq_true', Bool.not_eq_false', Decidable.not_not, nil_toList, ByteArray.size_empty, nilS, not_true_eq_false, not_false_eq_true, hu.l, iL, hu.t, iT, bin_add, bin_sub, bin_mul, wr_u8, wr_u16, wr_u32, wr_u64, IntKind.wrap_i64, List.length_append, List.length_cons, List.length_nil, List.nil_append, List.append_nil, List.cons_append, lvals, List.length_replicate, List.length_set, linV_val hu, e]) <;> (try simp only [Int.ofNat_eq_natCast]) <;> (try omega))
      exact hd.2.2.2.2.2
theorem once_ctr (bs : List Int) (nb cut : Int) (hb : nb = bs.length) (hx : Bytes bs) (hc : 0 ≤ cut ∧ cut < 65536) : Ctr Tryd.prog 5 [.cols .ro 5 [.ints .u8 (.sym bs)]] [.sl 0 (.lit 0) (.sym nb), .int .u16 (.sym cut)] fun v H => v = .bool true := by
  have n0 : 0 ≤ nb := by omega
  have hs := subL_all bs nb hb
  obtain ⟨k, e1, k0⟩ : ∃ k, binI .rem .i64 ((cut + 9223372036854775808) % 18446744073709551616 - 9223372036854775808) ((nb + 1 + 9223372036854775808) % 18446744073709551616 - 9223372036854775808) = k ∧ (nb ≤ 1000 → 0 ≤ k ∧ k ≤ nb) := by
    rw [show (cut + 9223372036854775808) % 18446744073709551616 - 9223372036854775808 = cut by omega]
    refine ⟨_, rfl, fun h => ?_⟩
    rw [show (nb + 1 + 9223372036854775808) % 18446744073709551616 - 9223372036854775808 = nb + 1 by omega, rem_nn hc.1]
    have h1 := Int.emod_nonneg cut (show nb + 1 ≠ 0 by omega)
    have h2 := Int.emod_lt_of_pos cut (show 0 < nb + 1 by omega)
    omega
  obtain ⟨uI, uB, uS, uL, uT, hu⟩ := words
  have hm := mixed
  have hT := tabOk
  have h6 := @awake_ctr
  have hN := @new_s
  have hL := @left_ctr
  have hK := @take_v
  have hS := @same_t
  obtain ⟨P, hP⟩ : ∃ P, P = Tryd.prog := ⟨_, rfl⟩
  rw [← hP] at hm hT h6 hN hL hK hS ⊢
  refine Ctr.weak (ctr_of_vc hu hm hT (hP ▸ Tryd.func5) rfl (by kernel_rfl) ?_)
  clear hP hm hT
  generalize hR : Weak _ _ = R
  conv => cbv
  repeat' (first | ((with_reducible intro (h : _ = _)); (try subst h); (try simp only [hu.b, hu.i, iB, iI, cmpB, Iv.val_sym, Iv.val_lit, Lv.raw, Tv.raw, decide_eq_true_eq, decide_eq_false_iff_not, beq_iff_eq, beq_eq_false_iff_ne, ne_eq, ofN, Int.toNat_zero, Int.toNat_one, Int.reduceToNat, natc, hu.s, iS, Sv.val_lit, Sv.val_sym, true_iff, false_iff, Bool.false_eq_true, bne_iff_ne, bne_eq_false_iff_eq, Bool.not_eq_true', Bool.not_eq_false', Decidable.not_not, nil_toList, ByteArray.size_empty, nilS, not_true_eq_false, not_false_eq_true, hu.l, iL, hu.t, iT, bin_add, bin_sub, bin_mul, wr_u8, wr_u16, wr_u32, wr_u64, IntKind.wrap_i64, List.length_append, List.length_cons, List.length_nil, List.nil_append, List.append_nil, List.cons_append, lvals, List.length_replicate, List.length_set, linV_val hu, hs, e1] at h) <;> (try simp only [Int.ofNat_eq_natCast] at h) <;> (first | (have hF0 : False := by omega; exact hF0.elim) | (conv => cbv))) | (with_reducible refine And.intro ?_ ?_) | (refine CallVC.mk (Ctr.monoR ?_ (h6)); ((rintro v H ⟨rfl, rfl⟩) <;> (conv => cbv))) | (refine CallVC.mk (Ctr.monoR ?_ (hN _ _ ?_ ?_)); ((rintro v H ⟨rfl, rfl⟩) <;> (conv => cbv))) | (refine CallVC.mk (Ctr.monoR ?_ (hL _ _ _)); ((rintro v H ⟨rfl, rfl⟩) <;> (conv => cbv))) | (refine CallVC.mk (Ctr.monoR ?_ (hK _ _ _ _ ?_ ?_ ?_ ?_)); ((rintro v H (⟨hd, rfl, rfl⟩ | ⟨hd, rfl, rfl⟩ | ⟨a', c', ys, hd, rfl, rfl⟩)) <;> (try simp only [hu.b, hu.i, iB, iI, cmpB, Iv.val_sym, Iv.val_lit, Lv.raw, Tv.raw, decide_eq_true_eq, decide_eq_false_iff_not, beq_iff_eq, beq_eq_false_iff_ne, ne_eq, ofN, Int.toNat_zero, Int.toNat_one, Int.reduceToNat, natc, hu.s, iS, Sv.val_lit, Sv.val_sym, true_iff, false_iff, Bool.false_eq_true, bne_iff_ne, bne_eq_false_iff_eq, Bool.not_eq_true', Bool.not_eq_false', Decidable.not_not, nil_toList, ByteArray.size_empty, nilS, not_true_eq_false, not_false_eq_true, hu.l, iL, hu.t, iT, bin_add, bin_sub, bin_mul, wr_u8, wr_u16, wr_u32, wr_u64, IntKind.wrap_i64, List.length_append, List.length_cons, List.length_nil, List.nil_append, List.append_nil, List.cons_append, lvals, List.length_replicate, List.length_set, linV_val hu, hs, e1] at hd) <;> (try simp only [Int.ofNat_eq_natCast] at hd) <;> (try simp only [hu.b, hu.i, iB, iI, cmpB, Iv.val_sym, Iv.val_lit, Lv.raw, Tv.raw, decide_eq_true_eq, decide_eq_false_iff_not, beq_iff_eq, beq_eq_false_iff_ne, ne_eq, ofN, Int.toNat_zero, Int.toNat_one, Int.reduceToNat, natc, hu.s, iS, Sv.val_lit, Sv.val_sym, true_iff, false_iff, Bool.false_eq_true, bne_iff_ne, bne_eq_false_iff_eq, Bool.not_eq_true', Bool.not_eq_false', Decidable.not_not, nil_toList, ByteArray.size_empty, nilS, not_true_eq_false, not_false_eq_true, hu.l, iL, hu.t, iT, bin_add, bin_sub, bin_mul, wr_u8, wr_u16, wr_u32, wr_u64, IntKind.wrap_i64, List.length_append, List.length_cons, List.length_nil, List.nil_append, List.append_nil, List.cons_append, lvals, List.length_replicate, List.length_set, linV_val hu, hs, e1] at hd) <;> (try simp only [Int.ofNat_eq_natCast] at hd) <;> (try simp only [hu.b, hu.i, iB, iI, cmpB, Iv.val_sym, Iv.val_lit, Lv.raw, Tv.raw, decide_eq_true_eq, decide_eq_false_iff_not, beq_iff_eq, beq_eq_false_iff_ne, ne_eq, ofN, Int.toNat_zero, Int.toNat_one, Int.reduceToNat, natc, hu.s, iS, Sv.val_lit, Sv.val_sym, true_iff, false_iff, Bool.false_eq_true, bne_iff_ne, bne_eq_false_iff_eq, Bool.not_eq_true', Bool.not_eq_false', Decidable.not_not, nil_toList, ByteArray.size_empty, nilS, not_true_eq_false, not_false_eq_true, hu.l, iL, hu.t, iT, bin_add, bin_sub, bin_mul, wr_u8, wr_u16, wr_u32, wr_u64, IntKind.wrap_i64, List.length_append, List.length_cons, List.length_nil, List.nil_append, List.append_nil, List.cons_append, lvals, List.length_replicate, List.length_set, linV_val hu, hs, e1] at hd) <;> (try simp only [Int.ofNat_eq_natCast] at hd) <;> (first | (have hF0 : False := by omega; exact hF0.elim) | (conv => cbv)))) | (refine CallVC.mk (Ctr.monoR ?_ (hS _ _ _ _ ?_ ?_ ?_ ?_)); ((rintro v H ⟨rfl, rfl⟩) <;> (conv => cbv))) | ((try simp only [hu.b, hu.i, iB, iI, cmpB, Iv.val_sym, Iv.val_lit, Lv.raw, Tv.raw, decide_eq_true_eq, decide_eq_false_iff_not, beq_iff_eq, beq_eq_false_iff_ne, ne_eq, ofN, Int.toNat_zero, Int.toNat_one, Int.reduceToNat, natc, hu.s, iS, Sv.val_lit, Sv.val_sym, true_iff, false_iff, Bool.false_eq_true, bne_iff_ne, bne_eq_false_iff_eq, Bool.not_eq_true', Bool.not_eq_false', Decidable.not_not, nil_toList, ByteArray.size_empty, nilS, not_true_eq_false, not_false_eq_true, hu.l, iL, hu.t, iT, bin_add, bin_sub, bin_mul, wr_u8, wr_u16, wr_u32, wr_u64, IntKind.wrap_i64, List.length_append, List.length_cons, List.length_nil, List.nil_append, List.append_nil, List.cons_append, lvals, List.length_replicate, List.length_set, linV_val hu, hs, e1]) <;> (try simp only [Int.ofNat_eq_natCast]) <;> exact hd.2.2.2.2.2) | (simp only [hu.b, hu.i, iB, iI, cmpB, Iv.val_sym, Iv.val_lit, Lv.raw, Tv.raw, decide_eq_true_eq, decide_eq_false_iff_not, beq_iff_eq, beq_eq_false_iff_ne, ne_eq, ofN, Int.toNat_zero, Int.toNat_one, Int.reduceToNat, natc, hu.s, iS, Sv.val_lit, Sv.val_sym, true_iff, false_iff, Bool.false_eq_true, bne_iff_ne, bne_eq_false_iff_eq, Bool.not_eq_true', Bool.not_eq_false', Decidable.not_not, nil_toList, ByteArray.size_empty, nilS, not_true_eq_false, not_false_eq_true, hu.l, iL, hu.t, iT, bin_add, bin_sub, bin_mul, wr_u8, wr_u16, wr_u32, wr_u64, IntKind.wrap_i64, List.length_append, List.length_cons, List.length_nil, List.nil_append, List.append_nil, List.cons_append, lvals, List.length_replicate, List.length_set, linV_val hu, hs, e1]; (try simp only [Int.ofNat_eq_natCast]); done) | ((try simp only [hu.b, hu.i, iB, iI, cmpB, Iv.val_sym, Iv.val_lit, Lv.raw, Tv.raw, decide_eq_true_eq, decide_eq_false_iff_not, beq_iff_eq, beq_eq_false_iff_ne, ne_eq, ofN, Int.toNat_zero, Int.toNat_one, Int.reduceToNat, natc, hu.s, iS, Sv.val_lit, Sv.val_sym, true_iff, false_iff, Bool.false_eq_true, bne_iff_ne, bne_eq_false_iff_eq, Bool.not_eq_true', Bool.not_eq_false', Decidable.not_not, nil_toList, ByteArray.size_empty, nilS, not_true_eq_false, not_false_eq_true, hu.l, iL, hu.t, iT, bin_add, bin_sub, bin_mul, wr_u8, wr_u16, wr_u32, wr_u64, IntKind.wrap_i64, List.length_append, List.length_cons, List.length_nil, List.nil_append, List.append_nil, List.cons_append, lvals, List.length_replicate, List.length_set, linV_val hu, hs, e1]) <;> (try simp only [Int.ofNat_eq_natCast]) <;> omega))
  all_goals try (subst hR; exact Weak.law (by rfl) (by rfl))
  rename_i a1 c1 ys1 hd1 a2 c2 ys2 hd2
  have e2 : (nb - k + 9223372036854775808) % 18446744073709551616 - 9223372036854775808 = nb - k := by omega
  ((try simp only [hu.b, hu.i, iB, iI, cmpB, Iv.val_sym, Iv.val_lit, Lv.raw, Tv.raw, decide_eq_true_eq, decide_eq_false_iff_not, beq_iff_eq, beq_eq_false_iff_ne, ne_eq, ofN, Int.toNat_zero, Int.toNat_one, Int.reduceToNat, natc, hu.s, iS, Sv.val_lit, Sv.val_sym, true_iff, false_iff, Bool.false_eq_true, bne_iff_ne, bne_eq_false_iff_eq, Bool.not_eq_true', Bool.not_eq_false', Decidable.not_not, nil_toList, ByteArray.size_empty, nilS, not_true_eq_false, not_false_eq_true, hu.l, iL, hu.t, iT, bin_add, bin_sub, bin_mul, wr_u8, wr_u16, wr_u32, wr_u64, IntKind.wrap_i64, List.length_append, List.length_cons, List.length_nil, List.nil_append, List.append_nil, List.cons_append, lvals, List.length_replicate, List.length_set, linV_val hu]) <;> (try simp only [Int.ofNat_eq_natCast]) <;> (try omega))
  rw [hd.2.2.2.2.2, hd2.2.2.2.2.2, hd1.2.2.2.2.2, hd1.2.2.1, e2, subL_cat (by omega) (by omega) (by omega), show k + (nb - k) = nb by omega, hs]
theorem keeps_ctr (bs : List Int) (nb : Int) (hb : nb = bs.length) (hx : Bytes bs) : Ctr Tryd.prog 6 [.cols .ro 5 [.ints .u8 (.sym bs)]] [.sl 0 (.lit 0) (.sym nb)] fun v H => v = .bool true := by
  have n0 : 0 ≤ nb := by omega
  have hs := subL_all bs nb hb
  by_cases hbig : 1000 < nb
  · obtain ⟨uI, uB, uS, uL, uT, hu⟩ := words
    have hm := mixed
    have hT := tabOk
    have h6 := @awake_ctr
    obtain ⟨P, hP⟩ : ∃ P, P = Tryd.prog := ⟨_, rfl⟩
    rw [← hP] at hm hT h6 ⊢
    refine Ctr.weak (ctr_of_vc hu hm hT (hP ▸ Tryd.func6) rfl (by kernel_rfl) ?_)
    clear hP hm hT
    generalize hR : Weak _ _ = R
    conv => cbv
    repeat' (first | ((with_reducible intro (h : _ = _)); (try subst h); (try simp only [hu.b, hu.i, iB, iI, cmpB, Iv.val_sym, Iv.val_lit, Lv.raw, Tv.raw, decide_eq_true_eq, decide_eq_false_iff_not, beq_iff_eq, beq_eq_false_iff_ne, ne_eq, ofN, Int.toNat_zero, Int.toNat_one, Int.reduceToNat, natc, hu.s, iS, Sv.val_lit, Sv.val_sym, true_iff, false_iff, Bool.false_eq_true, bne_iff_ne, bne_eq_false_iff_eq, Bool.not_eq_true', Bool.not_eq_false', Decidable.not_not, nil_toList, ByteArray.size_empty, nilS, not_true_eq_false, not_false_eq_true, hu.l, iL, hu.t, iT, bin_add, bin_sub, bin_mul, wr_u8, wr_u16, wr_u32, wr_u64, IntKind.wrap_i64, List.length_append, List.length_cons, List.length_nil, List.nil_append, List.append_nil, List.cons_append, lvals, List.length_replicate, List.length_set, linV_val hu, hs] at h) <;> (try simp only [Int.ofNat_eq_natCast] at h) <;> (first | (have hF0 : False := by omega; exact hF0.elim) | (conv => cbv))) | (with_reducible refine And.intro ?_ ?_) | (refine CallVC.mk (Ctr.monoR ?_ (h6)); ((rintro v H ⟨rfl, rfl⟩) <;> (conv => cbv))) | (simp only [hu.b, hu.i, iB, iI, cmpB, Iv.val_sym, Iv.val_lit, Lv.raw, Tv.raw, decide_eq_true_eq, decide_eq_false_iff_not, beq_iff_eq, beq_eq_false_iff_ne, ne_eq, ofN, Int.toNat_zero, Int.toNat_one, Int.reduceToNat, natc, hu.s, iS, Sv.val_lit, Sv.val_sym, true_iff, false_iff, Bool.false_eq_true, bne_iff_ne, bne_eq_false_iff_eq, Bool.not_eq_true', Bool.not_eq_false', Decidable.not_not, nil_toList, ByteArray.size_empty, nilS, not_true_eq_false, not_false_eq_true, hu.l, iL, hu.t, iT, bin_add, bin_sub, bin_mul, wr_u8, wr_u16, wr_u32, wr_u64, IntKind.wrap_i64, List.length_append, List.length_cons, List.length_nil, List.nil_append, List.append_nil, List.cons_append, lvals, List.length_replicate, List.length_set, linV_val hu, hs]; (try simp only [Int.ofNat_eq_natCast]); done) | ((try simp only [hu.b, hu.i, iB, iI, cmpB, Iv.val_sym, Iv.val_lit, Lv.raw, Tv.raw, decide_eq_true_eq, decide_eq_false_iff_not, beq_iff_eq, beq_eq_false_iff_ne, ne_eq, ofN, Int.toNat_zero, Int.toNat_one, Int.reduceToNat, natc, hu.s, iS, Sv.val_lit, Sv.val_sym, true_iff, false_iff, Bool.false_eq_true, bne_iff_ne, bne_eq_false_iff_eq, Bool.not_eq_true', Bool.not_eq_false', Decidable.not_not, nil_toList, ByteArray.size_empty, nilS, not_true_eq_false, not_false_eq_true, hu.l, iL, hu.t, iT, bin_add, bin_sub, bin_mul, wr_u8, wr_u16, wr_u32, wr_u64, IntKind.wrap_i64, List.length_append, List.length_cons, List.length_nil, List.nil_append, List.append_nil, List.cons_append, lvals, List.length_replicate, List.length_set, linV_val hu, hs]) <;> (try simp only [Int.ofNat_eq_natCast]) <;> omega))
    all_goals try (subst hR; exact Weak.law (by rfl) (by rfl))
  have e1 : binI .quo .i64 nb 2 = nb / 2 := quo_i64 n0 (by omega) (by omega)
  obtain ⟨uI, uB, uS, uL, uT, hu⟩ := words
  have hm := mixed
  have hT := tabOk
  have h6 := @awake_ctr
  have hN := @new_ctr
  have hL := @left_ctr
  have hK := @take_v
  have hS := @same_t
  have hC := @code_c
  obtain ⟨P, hP⟩ : ∃ P, P = Tryd.prog := ⟨_, rfl⟩
  rw [← hP] at hm hT h6 hN hL hK hS hC ⊢
  refine Ctr.weak (ctr_of_vc hu hm hT (hP ▸ Tryd.func6) rfl (by kernel_rfl) ?_)
  clear hP hm hT
  generalize hR : Weak _ _ = R
  conv => cbv
  repeat' (first | ((with_reducible intro (h : _ = _)); (try subst h); (try simp only [hu.b, hu.i, iB, iI, cmpB, Iv.val_sym, Iv.val_lit, Lv.raw, Tv.raw, decide_eq_true_eq, decide_eq_false_iff_not, beq_iff_eq, beq_eq_false_iff_ne, ne_eq, ofN, Int.toNat_zero, Int.toNat_one, Int.reduceToNat, natc, hu.s, iS, Sv.val_lit, Sv.val_sym, true_iff, false_iff, Bool.false_eq_true, bne_iff_ne, bne_eq_false_iff_eq, Bool.not_eq_true', Bool.not_eq_false', Decidable.not_not, nil_toList, ByteArray.size_empty, nilS, not_true_eq_false, not_false_eq_true, hu.l, iL, hu.t, iT, bin_add, bin_sub, bin_mul, wr_u8, wr_u16, wr_u32, wr_u64, IntKind.wrap_i64, List.length_append, List.length_cons, List.length_nil, List.nil_append, List.append_nil, List.cons_append, lvals, List.length_replicate, List.length_set, linV_val hu, hs] at h) <;> (try simp only [Int.ofNat_eq_natCast] at h) <;> (first | (have hF0 : False := by omega; exact hF0.elim) | (conv => cbv))) | (with_reducible refine And.intro ?_ ?_) | (refine CallVC.mk (Ctr.monoR ?_ (h6)); ((rintro v H ⟨rfl, rfl⟩) <;> (conv => cbv))) | (refine CallVC.mk (Ctr.monoR ?_ (hN _ _ ?_)); ((rintro v H (⟨hd, rfl, rfl⟩ | ⟨hd, rfl, rfl⟩)) <;> (try simp only [hu.b, hu.i, iB, iI, cmpB, Iv.val_sym, Iv.val_lit, Lv.raw, Tv.raw, decide_eq_true_eq, decide_eq_false_iff_not, beq_iff_eq, beq_eq_false_iff_ne, ne_eq, ofN, Int.toNat_zero, Int.toNat_one, Int.reduceToNat, natc, hu.s, iS, Sv.val_lit, Sv.val_sym, true_iff, false_iff, Bool.false_eq_true, bne_iff_ne, bne_eq_false_iff_eq, Bool.not_eq_true', Bool.not_eq_false', Decidable.not_not, nil_toList, ByteArray.size_empty, nilS, not_true_eq_false, not_false_eq_true, hu.l, iL, hu.t, iT, bin_add, bin_sub, bin_mul, wr_u8, wr_u16, wr_u32, wr_u64, IntKind.wrap_i64, List.length_append, List.length_cons, List.length_nil, List.nil_append, List.append_nil, List.cons_append, lvals, List.length_replicate, List.length_set, linV_val hu, hs] at hd) <;> (try simp only [Int.ofNat_eq_natCast] at hd) <;> (try simp only [hu.b, hu.i, iB, iI, cmpB, Iv.val_sym, Iv.val_lit, Lv.raw, Tv.raw, decide_eq_true_eq, decide_eq_false_iff_not, beq_iff_eq, beq_eq_false_iff_ne, ne_eq, ofN, Int.toNat_zero, Int.toNat_one, Int.reduceToNat, natc, hu.s, iS, Sv.val_lit, Sv.val_sym, true_iff, false_iff, Bool.false_eq_true, bne_iff_ne, bne_eq_false_iff_eq, Bool.not_eq_true', Bool.not_eq_false', Decidable.not_not, nil_toList, ByteArray.size_empty, nilS, not_true_eq_false, not_false_eq_true, hu.l, iL, hu.t, iT, bin_add, bin_sub, bin_mul, wr_u8, wr_u16, wr_u32, wr_u64, IntKind.wrap_i64, List.length_append, List.length_cons, List.length_nil, List.nil_append, List.append_nil, List.cons_append, lvals, List.length_replicate, List.length_set, linV_val hu, hs] at hd) <;> (try simp only [Int.ofNat_eq_natCast] at hd) <;> (first | (have hF0 : False := by omega; exact hF0.elim) | (conv => cbv)))) | (refine CallVC.mk (Ctr.monoR ?_ (hC _)); ((rintro v H ⟨rfl, rfl⟩) <;> (conv => cbv))) | (simp only [hu.b, hu.i, iB, iI, cmpB, Iv.val_sym, Iv.val_lit, Lv.raw, Tv.raw, decide_eq_true_eq, decide_eq_false_iff_not, beq_iff_eq, beq_eq_false_iff_ne, ne_eq, ofN, Int.toNat_zero, Int.toNat_one, Int.reduceToNat, natc, hu.s, iS, Sv.val_lit, Sv.val_sym, true_iff, false_iff, Bool.false_eq_true, bne_iff_ne, bne_eq_false_iff_eq, Bool.not_eq_true', Bool.not_eq_false', Decidable.not_not, nil_toList, ByteArray.size_empty, nilS, not_true_eq_false, not_false_eq_true, hu.l, iL, hu.t, iT, bin_add, bin_sub, bin_mul, wr_u8, wr_u16, wr_u32, wr_u64, IntKind.wrap_i64, List.length_append, List.length_cons, List.length_nil, List.nil_append, List.append_nil, List.cons_append, lvals, List.length_replicate, List.length_set, linV_val hu, hs]; (try simp only [Int.ofNat_eq_natCast]); done) | ((try simp only [hu.b, hu.i, iB, iI, cmpB, Iv.val_sym, Iv.val_lit, Lv.raw, Tv.raw, decide_eq_true_eq, decide_eq_false_iff_not, beq_iff_eq, beq_eq_false_iff_ne, ne_eq, ofN, Int.toNat_zero, Int.toNat_one, Int.reduceToNat, natc, hu.s, iS, Sv.val_lit, Sv.val_sym, true_iff, false_iff, Bool.false_eq_true, bne_iff_ne, bne_eq_false_iff_eq, Bool.not_eq_true', Bool.not_eq_false', Decidable.not_not, nil_toList, ByteArray.size_empty, nilS, not_true_eq_false, not_false_eq_true, hu.l, iL, hu.t, iT, bin_add, bin_sub, bin_mul, wr_u8, wr_u16, wr_u32, wr_u64, IntKind.wrap_i64, List.length_append, List.length_cons, List.length_nil, List.nil_append, List.append_nil, List.cons_append, lvals, List.length_replicate, List.length_set, linV_val hu, hs]) <;> (try simp only [Int.ofNat_eq_natCast]) <;> omega))
  clear h6 hN hC
  refine .inv (Int × List Int) [10] (fun g => ([.int .i64 (.sym g.1)], [.cols .ro 5 [.ints .u8 (.sym bs)], .dead, .cols (.row 1) 5 [.ints .u8 (.sym g.2)], .cells 45 [.sl 4 (.sym 0) (.sym nb)], .cols (.row 1) 5 [.ints .u8 (.sym bs)], .cells 45 [.sl 6 (.sym 0) (.sym nb)], .cols (.row 1) 5 [.ints .u8 (.sym bs)], .dead])) (fun g => 0 ≤ g.1 ∧ g.1 ≤ nb ∧ (g.2.length : Int) = nb) (fun g => (nb - g.1).toNat) (0, bs) (by kernel_rfl) (fun g hg => by kernel_rfl) ?_ ?_
  · refine ⟨⟨by dsimp only; omega, n0, hb.symm⟩, ?_, ?_⟩
    all_goals
      ((conv => cbv); repeat' (first | exact True.intro | with_reducible rfl | (with_reducible refine And.intro ?_ ?_)))
    all_goals
      ((try simp only [hu.b, hu.i, iB, iI, cmpB, Iv.val_sym, Iv.val_lit, Lv.raw, Tv.raw, decide_eq_true_eq, decide_eq_false_iff_not, beq_iff_eq, beq_eq_false_iff_ne, ne_eq, ofN, Int.toNat_zero, Int.toNat_one, Int.reduceToNat, natc, hu.s, iS, Sv.val_lit, Sv.val_sym, true_iff, false_iff, Bool.false_eq_true, bne_iff_ne, bne_eq_false_iff_eq, Bool.not_eq_true', Bool.not_eq_false', Decidable.not_not, nil_toList, ByteArray.size_empty, nilS, not_true_eq_false, not_false_eq_true, hu.l, iL, hu.t, iT, bin_add, bin_sub, bin_mul, wr_u8, wr_u16, wr_u32, wr_u64, IntKind.wrap_i64, List.length_append, List.length_cons, List.length_nil, List.nil_append, List.append_nil, List.cons_append, lvals, List.length_replicate, List.length_set, linV_val hu, hs]) <;> (try simp only [Int.ofNat_eq_natCast]) <;> (try omega))
  rintro ⟨i, zs⟩ hq
  simp only [] at hq
  have q0 := hq.1; have q1 := hq.2.1; have q2 := hq.2.2
  clear hq
  conv => cbv
  repeat' (first | ((with_reducible intro (h : _ = _)); (try subst h); (try simp only [hu.b, hu.i, iB, iI, cmpB, Iv.val_sym, Iv.val_lit, Lv.raw, Tv.raw, decide_eq_true_eq, decide_eq_false_iff_not, beq_iff_eq, beq_eq_false_iff_ne, ne_eq, ofN, Int.toNat_zero, Int.toNat_one, Int.reduceToNat, natc, hu.s, iS, Sv.val_lit, Sv.val_sym, true_iff, false_iff, Bool.false_eq_true, bne_iff_ne, bne_eq_false_iff_eq, Bool.not_eq_true', Bool.not_eq_false', Decidable.not_not, nil_toList, ByteArray.size_empty, nilS, not_true_eq_false, not_false_eq_true, hu.l, iL, hu.t, iT, bin_add, bin_sub, bin_mul, wr_u8, wr_u16, wr_u32, wr_u64, IntKind.wrap_i64, List.length_append, List.length_cons, List.length_nil, List.nil_append, List.append_nil, List.cons_append, lvals, List.length_replicate, List.length_set, linV_val hu, hs, e1] at h) <;> (try simp only [Int.ofNat_eq_natCast] at h) <;> (first | (have hF0 : False := by omega; exact hF0.elim) | (conv => cbv))) | (with_reducible refine And.intro ?_ ?_) | (refine CallVC.mk (Ctr.monoR ?_ (hK _ _ _ _ ?_ ?_ ?_ ?_)); ((rintro v H (⟨hd, rfl, rfl⟩ | ⟨hd, rfl, rfl⟩ | ⟨m, c, ys, hd, rfl, rfl⟩)) <;> (try simp only [hu.b, hu.i, iB, iI, cmpB, Iv.val_sym, Iv.val_lit, Lv.raw, Tv.raw, decide_eq_true_eq, decide_eq_false_iff_not, beq_iff_eq, beq_eq_false_iff_ne, ne_eq, ofN, Int.toNat_zero, Int.toNat_one, Int.reduceToNat, natc, hu.s, iS, Sv.val_lit, Sv.val_sym, true_iff, false_iff, Bool.false_eq_true, bne_iff_ne, bne_eq_false_iff_eq, Bool.not_eq_true', Bool.not_eq_false', Decidable.not_not, nil_toList, ByteArray.size_empty, nilS, not_true_eq_false, not_false_eq_true, hu.l, iL, hu.t, iT, bin_add, bin_sub, bin_mul, wr_u8, wr_u16, wr_u32, wr_u64, IntKind.wrap_i64, List.length_append, List.length_cons, List.length_nil, List.nil_append, List.append_nil, List.cons_append, lvals, List.length_replicate, List.length_set, linV_val hu, hs, e1] at hd) <;> (try simp only [Int.ofNat_eq_natCast] at hd) <;> (try simp only [hu.b, hu.i, iB, iI, cmpB, Iv.val_sym, Iv.val_lit, Lv.raw, Tv.raw, decide_eq_true_eq, decide_eq_false_iff_not, beq_iff_eq, beq_eq_false_iff_ne, ne_eq, ofN, Int.toNat_zero, Int.toNat_one, Int.reduceToNat, natc, hu.s, iS, Sv.val_lit, Sv.val_sym, true_iff, false_iff, Bool.false_eq_true, bne_iff_ne, bne_eq_false_iff_eq, Bool.not_eq_true', Bool.not_eq_false', Decidable.not_not, nil_toList, ByteArray.size_empty, nilS, not_true_eq_false, not_false_eq_true, hu.l, iL, hu.t, iT, bin_add, bin_sub, bin_mul, wr_u8, wr_u16, wr_u32, wr_u64, IntKind.wrap_i64, List.length_append, List.length_cons, List.length_nil, List.nil_append, List.append_nil, List.cons_append, lvals, List.length_replicate, List.length_set, linV_val hu, hs, e1] at hd) <;> (try simp only [Int.ofNat_eq_natCast] at hd) <;> (try simp only [hu.b, hu.i, iB, iI, cmpB, Iv.val_sym, Iv.val_lit, Lv.raw, Tv.raw, decide_eq_true_eq, decide_eq_false_iff_not, beq_iff_eq, beq_eq_false_iff_ne, ne_eq, ofN, Int.toNat_zero, Int.toNat_one, Int.reduceToNat, natc, hu.s, iS, Sv.val_lit, Sv.val_sym, true_iff, false_iff, Bool.false_eq_true, bne_iff_ne, bne_eq_false_iff_eq, Bool.not_eq_true', Bool.not_eq_false', Decidable.not_not, nil_toList, ByteArray.size_empty, nilS, not_true_eq_false, not_false_eq_true, hu.l, iL, hu.t, iT, bin_add, bin_sub, bin_mul, wr_u8, wr_u16, wr_u32, wr_u64, IntKind.wrap_i64, List.length_append, List.length_cons, List.length_nil, List.nil_append, List.append_nil, List.cons_append, lvals, List.length_replicate, List.length_set, linV_val hu, hs, e1] at hd) <;> (try simp only [Int.ofNat_eq_natCast] at hd) <;> (first | (have hF0 : False := by omega; exact hF0.elim) | (conv => cbv)))) | (simp only [hu.b, hu.i, iB, iI, cmpB, Iv.val_sym, Iv.val_lit, Lv.raw, Tv.raw, decide_eq_true_eq, decide_eq_false_iff_not, beq_iff_eq, beq_eq_false_iff_ne, ne_eq, ofN, Int.toNat_zero, Int.toNat_one, Int.reduceToNat, natc, hu.s, iS, Sv.val_lit, Sv.val_sym, true_iff, false_iff, Bool.false_eq_true, bne_iff_ne, bne_eq_false_iff_eq, Bool.not_eq_true', Bool.not_eq_false', Decidable.not_not, nil_toList, ByteArray.size_empty, nilS, not_true_eq_false, not_false_eq_true, hu.l, iL, hu.t, iT, bin_add, bin_sub, bin_mul, wr_u8, wr_u16, wr_u32, wr_u64, IntKind.wrap_i64, List.length_append, List.length_cons, List.length_nil, List.nil_append, List.append_nil, List.cons_append, lvals, List.length_replicate, List.length_set, linV_val hu, hs, e1]; (try simp only [Int.ofNat_eq_natCast]); done) | ((try simp only [hu.b, hu.i, iB, iI, cmpB, Iv.val_sym, Iv.val_lit, Lv.raw, Tv.raw, decide_eq_true_eq, decide_eq_false_iff_not, beq_iff_eq, beq_eq_false_iff_ne, ne_eq, ofN, Int.toNat_zero, Int.toNat_one, Int.reduceToNat, natc, hu.s, iS, Sv.val_lit, Sv.val_sym, true_iff, false_iff, Bool.false_eq_true, bne_iff_ne, bne_eq_false_iff_eq, Bool.not_eq_true', Bool.not_eq_false', Decidable.not_not, nil_toList, ByteArray.size_empty, nilS, not_true_eq_false, not_false_eq_true, hu.l, iL, hu.t, iT, bin_add, bin_sub, bin_mul, wr_u8, wr_u16, wr_u32, wr_u64, IntKind.wrap_i64, List.length_append, List.length_cons, List.length_nil, List.nil_append, List.append_nil, List.cons_append, lvals, List.length_replicate, List.length_set, linV_val hu, hs, e1]) <;> (try simp only [Int.ofNat_eq_natCast]) <;> omega))
  · obtain ⟨i', ei⟩ : ∃ x, x = i + 1 := ⟨_, rfl⟩
    obtain ⟨zs', ez⟩ : ∃ x, x = zs.set i.toNat (binI .xor .u8 (zs.getD i.toNat 0) 255) := ⟨_, rfl⟩
    refine ⟨(i', zs'), ⟨by dsimp only; omega, by dsimp only; omega, by dsimp only; rw [ez, List.length_set]; exact q2⟩, by dsimp only; omega, ?_, ?_⟩
    all_goals
      ((conv => cbv); repeat' (first | exact True.intro | with_reducible rfl | (with_reducible refine And.intro ?_ ?_)))
    all_goals
      ((try simp only [hu.b, hu.i, iB, iI, cmpB, Iv.val_sym, Iv.val_lit, Lv.raw, Tv.raw, decide_eq_true_eq, decide_eq_false_iff_not, beq_iff_eq, beq_eq_false_iff_ne, ne_eq, ofN, Int.toNat_zero, Int.toNat_one, Int.reduceToNat, natc, hu.s, iS, Sv.val_lit, Sv.val_sym, true_iff, false_iff, Bool.false_eq_true, bne_iff_ne, bne_eq_false_iff_eq, Bool.not_eq_true', Bool.not_eq_false', Decidable.not_not, nil_toList, ByteArray.size_empty, nilS, not_true_eq_false, not_false_eq_true, hu.l, iL, hu.t, iT, bin_add, bin_sub, bin_mul, wr_u8, wr_u16, wr_u32, wr_u64, IntKind.wrap_i64, List.length_append, List.length_cons, List.length_nil, List.nil_append, List.append_nil, List.cons_append, lvals, List.length_replicate, List.length_set, linV_val hu, hs]) <;> (try simp only [Int.ofNat_eq_natCast]) <;> (try omega))
    all_goals exact ez.symm
  refine .inv (Int × List Int) [13] (fun g => ([.int .i64 (.sym g.1)], [.cols .ro 5 [.ints .u8 (.sym bs)], .dead, .dead, .cells 45 [.sl 4 (.sym m) (.sym c)], .cols (.row 1) 5 [.ints .u8 (.sym bs)], .cells 45 [.sl 6 (.sym 0) (.sym nb)], .cols (.row 1) 5 [.ints .u8 (.sym bs)], .dead, .cols (.row 1) 5 [.ints .u8 (.sym g.2)]])) (fun g => 0 ≤ g.1 ∧ g.1 ≤ nb / 2 ∧ (g.2.length : Int) = nb / 2) (fun g => (nb / 2 - g.1).toNat) (0, ys) (by kernel_rfl) (fun g hg => by kernel_rfl) ?_ ?_
  · refine ⟨⟨by dsimp only; omega, by dsimp only; omega, by dsimp only; omega⟩, ?_, ?_⟩
    all_goals
      ((conv => cbv); repeat' (first | exact True.intro | with_reducible rfl | (with_reducible refine And.intro ?_ ?_)))
    all_goals
      ((try simp only [hu.b, hu.i, iB, iI, cmpB, Iv.val_sym, Iv.val_lit, Lv.raw, Tv.raw, decide_eq_true_eq, decide_eq_false_iff_not, beq_iff_eq, beq_eq_false_iff_ne, ne_eq, ofN, Int.toNat_zero, Int.toNat_one, Int.reduceToNat, natc, hu.s, iS, Sv.val_lit, Sv.val_sym, true_iff, false_iff, Bool.false_eq_true, bne_iff_ne, bne_eq_false_iff_eq, Bool.not_eq_true', Bool.not_eq_false', Decidable.not_not, nil_toList, ByteArray.size_empty, nilS, not_true_eq_false, not_false_eq_true, hu.l, iL, hu.t, iT, bin_add, bin_sub, bin_mul, wr_u8, wr_u16, wr_u32, wr_u64, IntKind.wrap_i64, List.length_append, List.length_cons, List.length_nil, List.nil_append, List.append_nil, List.cons_append, lvals, List.length_replicate, List.length_set, linV_val hu, hs]) <;> (try simp only [Int.ofNat_eq_natCast]) <;> (try omega))
  rintro ⟨j, us⟩ hq
  simp only [] at hq
  have r0 := hq.1; have r1 := hq.2.1; have r2 := hq.2.2
  clear hq
  conv => cbv
  repeat' (first | ((with_reducible intro (h : _ = _)); (try subst h); (try simp only [hu.b, hu.i, iB, iI, cmpB, Iv.val_sym, Iv.val_lit, Lv.raw, Tv.raw, decide_eq_true_eq, decide_eq_false_iff_not, beq_iff_eq, beq_eq_false_iff_ne, ne_eq, ofN, Int.toNat_zero, Int.toNat_one, Int.reduceToNat, natc, hu.s, iS, Sv.val_lit, Sv.val_sym, true_iff, false_iff, Bool.false_eq_true, bne_iff_ne, bne_eq_false_iff_eq, Bool.not_eq_true', Bool.not_eq_false', Decidable.not_not, nil_toList, ByteArray.size_empty, nilS, not_true_eq_false, not_false_eq_true, hu.l, iL, hu.t, iT, bin_add, bin_sub, bin_mul, wr_u8, wr_u16, wr_u32, wr_u64, IntKind.wrap_i64, List.length_append, List.length_cons, List.length_nil, List.nil_append, List.append_nil, List.cons_append, lvals, List.length_replicate, List.length_set, linV_val hu, hs, e1] at h) <;> (try simp only [Int.ofNat_eq_natCast] at h) <;> (first | (have hF0 : False := by omega; exact hF0.elim) | (conv => cbv))) | (with_reducible refine And.intro ?_ ?_) | (refine CallVC.mk (Ctr.monoR ?_ (hL _ _ _)); ((rintro v H ⟨rfl, rfl⟩) <;> (conv => cbv))) | (refine CallVC.mk (Ctr.monoR ?_ (hK _ _ _ _ ?_ ?_ ?_ ?_)); ((rintro v H (⟨hd, rfl, rfl⟩ | ⟨hd, rfl, rfl⟩ | ⟨m', c', ys', hd, rfl, rfl⟩)) <;> (try simp only [hu.b, hu.i, iB, iI, cmpB, Iv.val_sym, Iv.val_lit, Lv.raw, Tv.raw, decide_eq_true_eq, decide_eq_false_iff_not, beq_iff_eq, beq_eq_false_iff_ne, ne_eq, ofN, Int.toNat_zero, Int.toNat_one, Int.reduceToNat, natc, hu.s, iS, Sv.val_lit, Sv.val_sym, true_iff, false_iff, Bool.false_eq_true, bne_iff_ne, bne_eq_false_iff_eq, Bool.not_eq_true', Bool.not_eq_false', Decidable.not_not, nil_toList, ByteArray.size_empty, nilS, not_true_eq_false, not_false_eq_true, hu.l, iL, hu.t, iT, bin_add, bin_sub, bin_mul, wr_u8, wr_u16, wr_u32, wr_u64, IntKind.wrap_i64, List.length_append, List.length_cons, List.length_nil, List.nil_append, List.append_nil, List.cons_append, lvals, List.length_replicate, List.length_set, linV_val hu, hs, e1] at hd) <;> (try simp only [Int.ofNat_eq_natCast] at hd) <;> (try simp only [hu.b, hu.i, iB, iI, cmpB, Iv.val_sym, Iv.val_lit, Lv.raw, Tv.raw, decide_eq_true_eq, decide_eq_false_iff_not, beq_iff_eq, beq_eq_false_iff_ne, ne_eq, ofN, Int.toNat_zero, Int.toNat_one, Int.reduceToNat, natc, hu.s, iS, Sv.val_lit, Sv.val_sym, true_iff, false_iff, Bool.false_eq_true, bne_iff_ne, bne_eq_false_iff_eq, Bool.not_eq_true', Bool.not_eq_false', Decidable.not_not, nil_toList, ByteArray.size_empty, nilS, not_true_eq_false, not_false_eq_true, hu.l, iL, hu.t, iT, bin_add, bin_sub, bin_mul, wr_u8, wr_u16, wr_u32, wr_u64, IntKind.wrap_i64, List.length_append, List.length_cons, List.length_nil, List.nil_append, List.append_nil, List.cons_append, lvals, List.length_replicate, List.length_set, linV_val hu, hs, e1] at hd) <;> (try simp only [Int.ofNat_eq_natCast] at hd) <;> (try simp only [hu.b, hu.i, iB, iI, cmpB, Iv.val_sym, Iv.val_lit, Lv.raw, Tv.raw, decide_eq_true_eq, decide_eq_false_iff_not, beq_iff_eq, beq_eq_false_iff_ne, ne_eq, ofN, Int.toNat_zero, Int.toNat_one, Int.reduceToNat, natc, hu.s, iS, Sv.val_lit, Sv.val_sym, true_iff, false_iff, Bool.false_eq_true, bne_iff_ne, bne_eq_false_iff_eq, Bool.not_eq_true', Bool.not_eq_false', Decidable.not_not, nil_toList, ByteArray.size_empty, nilS, not_true_eq_false, not_false_eq_true, hu.l, iL, hu.t, iT, bin_add, bin_sub, bin_mul, wr_u8, wr_u16, wr_u32, wr_u64, IntKind.wrap_i64, List.length_append, List.length_cons, List.length_nil, List.nil_append, List.append_nil, List.cons_append, lvals, List.length_replicate, List.length_set, linV_val hu, hs, e1] at hd) <;> (try simp only [Int.ofNat_eq_natCast] at hd) <;> (first | (have hF0 : False := by omega; exact hF0.elim) | (conv => cbv)))) | (refine CallVC.mk (Ctr.monoR ?_ (hS _ _ _ _ ?_ ?_ ?_ ?_)); ((rintro v H ⟨rfl, rfl⟩) <;> (conv => cbv))) | (simp only [hu.b, hu.i, iB, iI, cmpB, Iv.val_sym, Iv.val_lit, Lv.raw, Tv.raw, decide_eq_true_eq, decide_eq_false_iff_not, beq_iff_eq, beq_eq_false_iff_ne, ne_eq, ofN, Int.toNat_zero, Int.toNat_one, Int.reduceToNat, natc, hu.s, iS, Sv.val_lit, Sv.val_sym, true_iff, false_iff, Bool.false_eq_true, bne_iff_ne, bne_eq_false_iff_eq, Bool.not_eq_true', Bool.not_eq_false', Decidable.not_not, nil_toList, ByteArray.size_empty, nilS, not_true_eq_false, not_false_eq_true, hu.l, iL, hu.t, iT, bin_add, bin_sub, bin_mul, wr_u8, wr_u16, wr_u32, wr_u64, IntKind.wrap_i64, List.length_append, List.length_cons, List.length_nil, List.nil_append, List.append_nil, List.cons_append, lvals, List.length_replicate, List.length_set, linV_val hu, hs, e1]; (try simp only [Int.ofNat_eq_natCast]); done) | ((try simp only [hu.b, hu.i, iB, iI, cmpB, Iv.val_sym, Iv.val_lit, Lv.raw, Tv.raw, decide_eq_true_eq, decide_eq_false_iff_not, beq_iff_eq, beq_eq_false_iff_ne, ne_eq, ofN, Int.toNat_zero, Int.toNat_one, Int.reduceToNat, natc, hu.s, iS, Sv.val_lit, Sv.val_sym, true_iff, false_iff, Bool.false_eq_true, bne_iff_ne, bne_eq_false_iff_eq, Bool.not_eq_true', Bool.not_eq_false', Decidable.not_not, nil_toList, ByteArray.size_empty, nilS, not_true_eq_false, not_false_eq_true, hu.l, iL, hu.t, iT, bin_add, bin_sub, bin_mul, wr_u8, wr_u16, wr_u32, wr_u64, IntKind.wrap_i64, List.length_append, List.length_cons, List.length_nil, List.nil_append, List.append_nil, List.cons_append, lvals, List.length_replicate, List.length_set, linV_val hu, hs, e1]) <;> (try simp only [Int.ofNat_eq_natCast]) <;> omega))
  all_goals try (subst hR; exact Weak.law (by rfl) (by rfl))
  · obtain ⟨j', ej⟩ : ∃ x, x = j + 1 := ⟨_, rfl⟩
    obtain ⟨us', ez⟩ : ∃ x, x = us.set j.toNat (binI .xor .u8 (us.getD j.toNat 0) 255) := ⟨_, rfl⟩
    refine ⟨(j', us'), ⟨by dsimp only; omega, by dsimp only; omega, by dsimp only; rw [ez, List.length_set]; exact r2⟩, by dsimp only; omega, ?_, ?_⟩
    all_goals
      ((conv => cbv); repeat' (first | exact True.intro | with_reducible rfl | (with_reducible refine And.intro ?_ ?_)))
    all_goals
      ((try simp only [hu.b, hu.i, iB, iI, cmpB, Iv.val_sym, Iv.val_lit, Lv.raw, Tv.raw, decide_eq_true_eq, decide_eq_false_iff_not, beq_iff_eq, beq_eq_false_iff_ne, ne_eq, ofN, Int.toNat_zero, Int.toNat_one, Int.reduceToNat, natc, hu.s, iS, Sv.val_lit, Sv.val_sym, true_iff, false_iff, Bool.false_eq_true, bne_iff_ne, bne_eq_false_iff_eq, Bool.not_eq_true', Bool.not_eq_false', Decidable.not_not, nil_toList, ByteArray.size_empty, nilS, not_true_eq_false, not_false_eq_true, hu.l, iL, hu.t, iT, bin_add, bin_sub, bin_mul, wr_u8, wr_u16, wr_u32, wr_u64, IntKind.wrap_i64, List.length_append, List.length_cons, List.length_nil, List.nil_append, List.append_nil, List.cons_append, lvals, List.length_replicate, List.length_set, linV_val hu, hs]) <;> (try simp only [Int.ofNat_eq_natCast]) <;> (try omega))
    all_goals exact ez.symm
  · rename_i m1 c1 ys1 hd1 m2 c2 ys2 hd2
    rw [hd1.2.2.2.2.2, hd.2.2.2.2.2, show m2 = m by omega, show c2 = c by omega]
end Go.Proofs.YtmbmdhkfddljjaaDoor
