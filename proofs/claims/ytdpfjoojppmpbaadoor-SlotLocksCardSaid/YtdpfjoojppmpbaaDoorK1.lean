import Derived.Test.YtdpfjoojppmpbaaDoorSx2
import Derived.KernelRfl
import Derived.Test.YtdpfjoojppmpbaaDoorProg
import Derived.Test.YtdpfjoojppmpbaaDoorSx3
import Derived.Test.YtdpfjoojppmpbaaDoorRows
import Derived.WalkKit
import Derived.LaidEql
import Derived.Stop.Asserts
import Derived.RowKitTokens
import Derived.Outline
import Derived.Below
import Derived.Lib.Hide
set_option linter.all false
set_option linter.unusedSectionVars false
namespace Go.Proofs.YtdpfjoojppmpbaaDoor
open Go Sx
set_option maxRecDepth 100000
def tab : TypeId → Option TyI
  | 2 => some ⟨.int .i64, 1, 8, [.int .i64 0], [], []⟩
  | 3 => some ⟨.int .i64, 1, 8, [.int .i64 0], [], []⟩
  | 4 => some ⟨.bool, 1, 1, [.bool false], [], []⟩
  | 5 => some ⟨.int .u8, 1, 1, [.int .u8 0], [], []⟩
  | 9 => some ⟨.str, 1, 16, [.string ⟨#[]⟩], [], []⟩
  | 12 => some ⟨.int .u64, 1, 8, [.int .u64 0], [], []⟩
  | 13 => some ⟨.struct [(0, 9), (1, 12)], 2, 24, [.string ⟨#[]⟩, .int .u64 0], [], []⟩
  | 20 => some ⟨.iface, 1, 16, [.nilIface], [], []⟩
  | 21 => some ⟨.int .i32, 1, 4, [.int .i32 0], [], []⟩
  | 22 => some ⟨.struct [(0, 9), (1, 3), (2, 3)], 3, 32, [.string ⟨#[]⟩, .int .i64 0, .int .i64 0], [], [.str, .int .i64, .int .i64]⟩
  | 23 => some ⟨.struct [(0, 9), (1, 3), (2, 3)], 3, 32, [.string ⟨#[]⟩, .int .i64 0, .int .i64 0], [], [.str, .int .i64, .int .i64]⟩
  | 25 => some ⟨.slice 5, 1, 24, [.slice none 0 0], [], []⟩
  | 26 => some ⟨.iface, 1, 16, [.nilIface], [], []⟩
  | 27 => some ⟨.iface, 1, 16, [.nilIface], [], []⟩
  | 36 => some ⟨.int .u16, 1, 2, [.int .u16 0], [], []⟩
  | 37 => some ⟨.arr 8 23, 24, 256, [.string ⟨#[]⟩, .int .i64 0, .int .i64 0, .string ⟨#[]⟩, .int .i64 0, .int .i64 0, .string ⟨#[]⟩, .int .i64 0, .int .i64 0, .string ⟨#[]⟩, .int .i64 0, .int .i64 0, .string ⟨#[]⟩, .int .i64 0, .int .i64 0, .string ⟨#[]⟩, .int .i64 0, .int .i64 0, .string ⟨#[]⟩, .int .i64 0, .int .i64 0, .string ⟨#[]⟩, .int .i64 0, .int .i64 0], [.str, .int .i64, .int .i64], [.str, .int .i64, .int .i64, .str, .int .i64, .int .i64, .str, .int .i64, .int .i64, .str, .int .i64, .int .i64, .str, .int .i64, .int .i64, .str, .int .i64, .int .i64, .str, .int .i64, .int .i64, .str, .int .i64, .int .i64]⟩
  | 38 => some ⟨.arr 8 23, 24, 256, [.string ⟨#[]⟩, .int .i64 0, .int .i64 0, .string ⟨#[]⟩, .int .i64 0, .int .i64 0, .string ⟨#[]⟩, .int .i64 0, .int .i64 0, .string ⟨#[]⟩, .int .i64 0, .int .i64 0, .string ⟨#[]⟩, .int .i64 0, .int .i64 0, .string ⟨#[]⟩, .int .i64 0, .int .i64 0, .string ⟨#[]⟩, .int .i64 0, .int .i64 0, .string ⟨#[]⟩, .int .i64 0, .int .i64 0], [.str, .int .i64, .int .i64], [.str, .int .i64, .int .i64, .str, .int .i64, .int .i64, .str, .int .i64, .int .i64, .str, .int .i64, .int .i64, .str, .int .i64, .int .i64, .str, .int .i64, .int .i64, .str, .int .i64, .int .i64, .str, .int .i64, .int .i64]⟩
  | 45 => some ⟨.int .i64, 1, 8, [.int .i64 0], [], []⟩
  | 46 => some ⟨.int .u64, 1, 8, [.int .u64 0], [], []⟩
  | 48 => some ⟨.ptr 45, 1, 8, [.pointer none], [], []⟩
  | 68 => some ⟨.iface, 1, 16, [.nilIface], [], []⟩
  | 71 => some ⟨.iface, 1, 16, [.nilIface], [], []⟩
  | 73 => some ⟨.iface, 1, 16, [.nilIface], [], []⟩
  | 74 => some ⟨.slice 27, 1, 24, [.slice none 0 0], [], []⟩
  | 84 => some ⟨.int .u32, 1, 4, [.int .u32 0], [], []⟩
  | 87 => some ⟨.ptr 5, 1, 8, [.pointer none], [], []⟩
  | 104 => some ⟨.ptr 27, 1, 8, [.pointer none], [], []⟩
  | _ => none
theorem ty2 : TyOk Tryd.prog 2 ⟨.int .i64, 1, 8, [.int .i64 0], [], []⟩ :=
  TyOk.mk' (by kernel_rfl) (by kernel_rfl) (by kernel_rfl) ((by kernel_rfl : Tryd.prog.underlying 2 = _)) (fun h => absurd rfl h)
theorem ty3 : TyOk Tryd.prog 3 ⟨.int .i64, 1, 8, [.int .i64 0], [], []⟩ :=
  TyOk.mk' (by kernel_rfl) (by kernel_rfl) (by kernel_rfl) ((by kernel_rfl : Tryd.prog.underlying 3 = _)) (fun h => absurd rfl h)
theorem ty4 : TyOk Tryd.prog 4 ⟨.bool, 1, 1, [.bool false], [], []⟩ :=
  TyOk.mk' (by kernel_rfl) (by kernel_rfl) (by kernel_rfl) ((by kernel_rfl : Tryd.prog.underlying 4 = _)) (fun h => absurd rfl h)
theorem ty5 : TyOk Tryd.prog 5 ⟨.int .u8, 1, 1, [.int .u8 0], [], []⟩ :=
  TyOk.mk' (by kernel_rfl) (by kernel_rfl) (by kernel_rfl) ((by kernel_rfl : Tryd.prog.underlying 5 = _)) (fun h => absurd rfl h)
theorem ty9 : TyOk Tryd.prog 9 ⟨.str, 1, 16, [.string ⟨#[]⟩], [], []⟩ :=
  TyOk.mk' (by kernel_rfl) (by kernel_rfl) (by kernel_rfl) ((by kernel_rfl : Tryd.prog.underlying 9 = _)) (fun h => absurd rfl h)
theorem ty12 : TyOk Tryd.prog 12 ⟨.int .u64, 1, 8, [.int .u64 0], [], []⟩ :=
  TyOk.mk' (by kernel_rfl) (by kernel_rfl) (by kernel_rfl) ((by kernel_rfl : Tryd.prog.underlying 12 = _)) (fun h => absurd rfl h)
theorem ty13 : TyOk Tryd.prog 13 ⟨.struct [(0, 9), (1, 12)], 2, 24, [.string ⟨#[]⟩, .int .u64 0], [], []⟩ :=
  TyOk.mk' (by kernel_rfl) (by kernel_rfl) (by kernel_rfl) (⟨Tryd.prog.fieldsOf 13, by kernel_rfl, by kernel_rfl⟩) (fun h => absurd rfl h)
theorem ty20 : TyOk Tryd.prog 20 ⟨.iface, 1, 16, [.nilIface], [], []⟩ :=
  TyOk.mk' (by kernel_rfl) (by kernel_rfl) (by kernel_rfl) (DOk.iface_of (by kernel_rfl)) (fun h => absurd rfl h)
theorem ty21 : TyOk Tryd.prog 21 ⟨.int .i32, 1, 4, [.int .i32 0], [], []⟩ :=
  TyOk.mk' (by kernel_rfl) (by kernel_rfl) (by kernel_rfl) ((by kernel_rfl : Tryd.prog.underlying 21 = _)) (fun h => absurd rfl h)
theorem ty22 : TyOk Tryd.prog 22 ⟨.struct [(0, 9), (1, 3), (2, 3)], 3, 32, [.string ⟨#[]⟩, .int .i64 0, .int .i64 0], [], [.str, .int .i64, .int .i64]⟩ :=
  TyOk.mk' (by kernel_rfl) (by kernel_rfl) (by kernel_rfl) (⟨Tryd.prog.fieldsOf 22, by kernel_rfl, by kernel_rfl⟩) (fun _ => EqOk.of 8 (by decide) (by kernel_rfl) (by kernel_rfl) (by kernel_rfl))
theorem ty23 : TyOk Tryd.prog 23 ⟨.struct [(0, 9), (1, 3), (2, 3)], 3, 32, [.string ⟨#[]⟩, .int .i64 0, .int .i64 0], [], [.str, .int .i64, .int .i64]⟩ :=
  TyOk.mk' (by kernel_rfl) (by kernel_rfl) (by kernel_rfl) (⟨Tryd.prog.fieldsOf 23, by kernel_rfl, by kernel_rfl⟩) (fun _ => EqOk.of 8 (by decide) (by kernel_rfl) (by kernel_rfl) (by kernel_rfl))
theorem ty25 : TyOk Tryd.prog 25 ⟨.slice 5, 1, 24, [.slice none 0 0], [], []⟩ :=
  TyOk.mk' (by kernel_rfl) (by kernel_rfl) (by kernel_rfl) ((by kernel_rfl : Tryd.prog.underlying 25 = _)) (fun h => absurd rfl h)
theorem ty26 : TyOk Tryd.prog 26 ⟨.iface, 1, 16, [.nilIface], [], []⟩ :=
  TyOk.mk' (by kernel_rfl) (by kernel_rfl) (by kernel_rfl) (DOk.iface_of (by kernel_rfl)) (fun h => absurd rfl h)
theorem ty27 : TyOk Tryd.prog 27 ⟨.iface, 1, 16, [.nilIface], [], []⟩ :=
  TyOk.mk' (by kernel_rfl) (by kernel_rfl) (by kernel_rfl) (DOk.iface_of (by kernel_rfl)) (fun h => absurd rfl h)
theorem ty36 : TyOk Tryd.prog 36 ⟨.int .u16, 1, 2, [.int .u16 0], [], []⟩ :=
  TyOk.mk' (by kernel_rfl) (by kernel_rfl) (by kernel_rfl) ((by kernel_rfl : Tryd.prog.underlying 36 = _)) (fun h => absurd rfl h)
theorem ty37 : TyOk Tryd.prog 37 ⟨.arr 8 23, 24, 256, [.string ⟨#[]⟩, .int .i64 0, .int .i64 0, .string ⟨#[]⟩, .int .i64 0, .int .i64 0, .string ⟨#[]⟩, .int .i64 0, .int .i64 0, .string ⟨#[]⟩, .int .i64 0, .int .i64 0, .string ⟨#[]⟩, .int .i64 0, .int .i64 0, .string ⟨#[]⟩, .int .i64 0, .int .i64 0, .string ⟨#[]⟩, .int .i64 0, .int .i64 0, .string ⟨#[]⟩, .int .i64 0, .int .i64 0], [.str, .int .i64, .int .i64], [.str, .int .i64, .int .i64, .str, .int .i64, .int .i64, .str, .int .i64, .int .i64, .str, .int .i64, .int .i64, .str, .int .i64, .int .i64, .str, .int .i64, .int .i64, .str, .int .i64, .int .i64, .str, .int .i64, .int .i64]⟩ :=
  TyOk.mk' (by kernel_rfl) (by kernel_rfl) (by kernel_rfl) ((by kernel_rfl : Tryd.prog.underlying 37 = _)) (fun _ => EqOk.of 8 (by decide) (by kernel_rfl) (by kernel_rfl) (by kernel_rfl))
theorem ty38 : TyOk Tryd.prog 38 ⟨.arr 8 23, 24, 256, [.string ⟨#[]⟩, .int .i64 0, .int .i64 0, .string ⟨#[]⟩, .int .i64 0, .int .i64 0, .string ⟨#[]⟩, .int .i64 0, .int .i64 0, .string ⟨#[]⟩, .int .i64 0, .int .i64 0, .string ⟨#[]⟩, .int .i64 0, .int .i64 0, .string ⟨#[]⟩, .int .i64 0, .int .i64 0, .string ⟨#[]⟩, .int .i64 0, .int .i64 0, .string ⟨#[]⟩, .int .i64 0, .int .i64 0], [.str, .int .i64, .int .i64], [.str, .int .i64, .int .i64, .str, .int .i64, .int .i64, .str, .int .i64, .int .i64, .str, .int .i64, .int .i64, .str, .int .i64, .int .i64, .str, .int .i64, .int .i64, .str, .int .i64, .int .i64, .str, .int .i64, .int .i64]⟩ :=
  TyOk.mk' (by kernel_rfl) (by kernel_rfl) (by kernel_rfl) ((by kernel_rfl : Tryd.prog.underlying 38 = _)) (fun _ => EqOk.of 8 (by decide) (by kernel_rfl) (by kernel_rfl) (by kernel_rfl))
theorem ty45 : TyOk Tryd.prog 45 ⟨.int .i64, 1, 8, [.int .i64 0], [], []⟩ :=
  TyOk.mk' (by kernel_rfl) (by kernel_rfl) (by kernel_rfl) ((by kernel_rfl : Tryd.prog.underlying 45 = _)) (fun h => absurd rfl h)
theorem ty46 : TyOk Tryd.prog 46 ⟨.int .u64, 1, 8, [.int .u64 0], [], []⟩ :=
  TyOk.mk' (by kernel_rfl) (by kernel_rfl) (by kernel_rfl) ((by kernel_rfl : Tryd.prog.underlying 46 = _)) (fun h => absurd rfl h)
theorem ty48 : TyOk Tryd.prog 48 ⟨.ptr 45, 1, 8, [.pointer none], [], []⟩ :=
  TyOk.mk' (by kernel_rfl) (by kernel_rfl) (by kernel_rfl) ((by kernel_rfl : Tryd.prog.underlying 48 = _)) (fun h => absurd rfl h)
theorem ty68 : TyOk Tryd.prog 68 ⟨.iface, 1, 16, [.nilIface], [], []⟩ :=
  TyOk.mk' (by kernel_rfl) (by kernel_rfl) (by kernel_rfl) (DOk.iface_of (by kernel_rfl)) (fun h => absurd rfl h)
theorem ty71 : TyOk Tryd.prog 71 ⟨.iface, 1, 16, [.nilIface], [], []⟩ :=
  TyOk.mk' (by kernel_rfl) (by kernel_rfl) (by kernel_rfl) (DOk.iface_of (by kernel_rfl)) (fun h => absurd rfl h)
theorem ty73 : TyOk Tryd.prog 73 ⟨.iface, 1, 16, [.nilIface], [], []⟩ :=
  TyOk.mk' (by kernel_rfl) (by kernel_rfl) (by kernel_rfl) (DOk.iface_of (by kernel_rfl)) (fun h => absurd rfl h)
theorem ty74 : TyOk Tryd.prog 74 ⟨.slice 27, 1, 24, [.slice none 0 0], [], []⟩ :=
  TyOk.mk' (by kernel_rfl) (by kernel_rfl) (by kernel_rfl) ((by kernel_rfl : Tryd.prog.underlying 74 = _)) (fun h => absurd rfl h)
theorem ty84 : TyOk Tryd.prog 84 ⟨.int .u32, 1, 4, [.int .u32 0], [], []⟩ :=
  TyOk.mk' (by kernel_rfl) (by kernel_rfl) (by kernel_rfl) ((by kernel_rfl : Tryd.prog.underlying 84 = _)) (fun h => absurd rfl h)
theorem ty87 : TyOk Tryd.prog 87 ⟨.ptr 5, 1, 8, [.pointer none], [], []⟩ :=
  TyOk.mk' (by kernel_rfl) (by kernel_rfl) (by kernel_rfl) ((by kernel_rfl : Tryd.prog.underlying 87 = _)) (fun h => absurd rfl h)
theorem ty104 : TyOk Tryd.prog 104 ⟨.ptr 27, 1, 8, [.pointer none], [], []⟩ :=
  TyOk.mk' (by kernel_rfl) (by kernel_rfl) (by kernel_rfl) ((by kernel_rfl : Tryd.prog.underlying 104 = _)) (fun h => absurd rfl h)
theorem tabOk : TabOk Tryd.prog tab := by
  intro t i h
  unfold tab at h
  split at h
  · cases h; exact ty2
  · cases h; exact ty3
  · cases h; exact ty4
  · cases h; exact ty5
  · cases h; exact ty9
  · cases h; exact ty12
  · cases h; exact ty13
  · cases h; exact ty20
  · cases h; exact ty21
  · cases h; exact ty22
  · cases h; exact ty23
  · cases h; exact ty25
  · cases h; exact ty26
  · cases h; exact ty27
  · cases h; exact ty36
  · cases h; exact ty37
  · cases h; exact ty38
  · cases h; exact ty45
  · cases h; exact ty46
  · cases h; exact ty48
  · cases h; exact ty68
  · cases h; exact ty71
  · cases h; exact ty73
  · cases h; exact ty74
  · cases h; exact ty84
  · cases h; exact ty87
  · cases h; exact ty104
  · cases h
end Go.Proofs.YtdpfjoojppmpbaaDoor
namespace Go.Proofs.YtdpfjoojppmpbaaDoor
open Go Sx
set_option maxRecDepth 100000
set_option maxHeartbeats 4000000
theorem mixed : Tryd.prog.follows .mixedOrders = true := by kernel_rfl
theorem slotted_ctr (n : Int) : Ctr Tryd.prog 13 [] [.int .i64 (.sym n)] fun v H => v = .sbool (decide (0 ≤ n ∧ n < 8)) ∧ H = [] := by
  obtain ⟨uI, uB, uS, uL, uT, hu⟩ := words
  have hm := mixed
  have hT := tabOk
  obtain ⟨P, hP⟩ : ∃ P, P = Tryd.prog := ⟨_, rfl⟩
  rw [← hP] at hm hT ⊢
  refine Ctr.weak (ctr_of_vc hu hm hT (hP ▸ Tryd.func13) rfl (by kernel_rfl) ?_)
  clear hP hm hT
  generalize hR : Weak _ _ = R
  cbv
  repeat' (first | (intro _; cbv) | (refine And.intro ?_ ?_))
  all_goals
    subst hR
    refine ⟨.sbool (decide (0 ≤ n ∧ n < 8)), [], ?_, trivial, rfl, rfl, rfl⟩
    simp only [ren, tupV, V.sub, hu.b, iB, cmpB, Iv.val_sym, Iv.val_lit, decide_eq_true_eq, decide_eq_false_iff_not] at *
    symm
    first | (rw [decide_eq_true_eq]; omega) | (rw [decide_eq_false_iff_not]; omega)
theorem number_ctr (n : Int) : Ctr Tryd.prog 14 [] [.int .i64 (.sym n)] fun v H => v = .sbool (decide (0 ≤ n ∧ n ≤ 65535)) ∧ H = [] := by
  obtain ⟨uI, uB, uS, uL, uT, hu⟩ := words
  have hm := mixed
  have hT := tabOk
  obtain ⟨P, hP⟩ : ∃ P, P = Tryd.prog := ⟨_, rfl⟩
  rw [← hP] at hm hT ⊢
  refine Ctr.weak (ctr_of_vc hu hm hT (hP ▸ Tryd.func14) rfl (by kernel_rfl) ?_)
  clear hP hm hT
  generalize hR : Weak _ _ = R
  cbv
  repeat' (first | (intro _; cbv) | (refine And.intro ?_ ?_))
  all_goals
    subst hR
    refine ⟨.sbool (decide (0 ≤ n ∧ n ≤ 65535)), [], ?_, trivial, rfl, rfl, rfl⟩
    simp only [ren, tupV, V.sub, hu.b, iB, cmpB, Iv.val_sym, Iv.val_lit, decide_eq_true_eq, decide_eq_false_iff_not] at *
    symm
    first | (rw [decide_eq_true_eq]; omega) | (rw [decide_eq_false_iff_not]; omega)
/-- formed. -/
def Formed (xs : List Int) : Bool := decide ((xs.getD 0 0 = 1 ∧ 6 < xs.length ∧ xs.length ≤ 206) ∨ (2 ≤ xs.getD 0 0 ∧ xs.getD 0 0 ≤ 4 ∧ xs.length = 2))
theorem formed_ctr (xs : List Int) (n : Int) (hn : n = xs.length) : Ctr Tryd.prog 16 [.cols .ro 5 [.ints .u8 (.sym xs)]] [.sl 0 (.lit 0) (.sym n)] fun v H => v = .sbool (Formed xs) ∧ H = [.cols .ro 5 [.ints .u8 (.sym xs)]] := by
  obtain ⟨uI, uB, uS, uL, uT, hu⟩ := words
  have hm := mixed
  have hT := tabOk
  obtain ⟨P, hP⟩ : ∃ P, P = Tryd.prog := ⟨_, rfl⟩
  rw [← hP] at hm hT ⊢
  refine Ctr.weak (ctr_of_vc hu hm hT (hP ▸ Tryd.func16) rfl (by kernel_rfl) ?_)
  clear hP hm hT
  generalize hR : Weak _ _ = R
  cbv
  repeat' (first | (intro _; cbv) | (refine And.intro ?_ ?_))
  all_goals
    simp only [hu.b, hu.i, iB, iI, cmpB, Iv.val_sym, Iv.val_lit, Lv.raw, decide_eq_true_eq, decide_eq_false_iff_not, beq_iff_eq, beq_eq_false_iff_ne, ne_eq, ofN, Int.toNat_zero, natc] at *
    simp only [Int.ofNat_eq_natCast] at *
  all_goals first
    | (subst hR
       refine ⟨V.sbool (Formed xs), [.cols .ro 5 [.ints .u8 (.sym xs)]], ?_, ?_, rfl, rfl, rfl⟩
       · show _ = Formed xs
         unfold Formed
         symm
         first
           | (rw [decide_eq_true_eq]; omega)
           | (rw [decide_eq_false_iff_not]; omega)
       · exact ⟨⟨rfl, ⟨rfl, rfl⟩, trivial⟩, trivial⟩)
    | omega
theorem slotted_c (n : Int) : Ctr Tryd.prog 13 [] [.int .i64 (.sym n)] fun v H => ∃ b : Bool, (b = true ↔ 0 ≤ n ∧ n < 8) ∧ v = .sbool b ∧ H = [] :=
  (slotted_ctr n).mono fun v H h => ⟨_, decide_eq_true_iff, h.1, h.2⟩
theorem number_c (n : Int) : Ctr Tryd.prog 14 [] [.int .i64 (.sym n)] fun v H => ∃ b : Bool, (b = true ↔ 0 ≤ n ∧ n ≤ 65535) ∧ v = .sbool b ∧ H = [] :=
  (number_ctr n).mono fun v H h => ⟨_, decide_eq_true_iff, h.1, h.2⟩
theorem wraps_i64 (n : Int) (h₀ : 0 ≤ n) (h₁ : n < 2 ^ 32) : IntKind.i64.wrap n = n := by rw [IntKind.wrap_i64]; omega
theorem or16 {x y : Int} (h0 : 0 ≤ x) (h1 : x < 256) (h2 : 0 ≤ y) (h3 : y < 256) : binI .or .i64 (binI .shl .i64 x 8) y = 256 * x + y := by
  have e : binI .shl .i64 x 8 = x * 256 := by
    show IntKind.i64.wrap (x * 2 ^ (min 8 64)) = _
    rw [show (2 : Int) ^ (min 8 64) = 256 from rfl, IntKind.wrap_i64]; omega
  rw [e]
  show bits .or .i64 (x * 256) y = _
  rw [bits_join .i64 32 (by decide) wraps_i64 8 (x * 256) y (by omega) (by omega) (by omega) h2 (by omega) (by omega)]
  omega
theorem formed_c (xs : List Int) (n : Int) (hn : n = xs.length) : Ctr Tryd.prog 16 [.cols .ro 5 [.ints .u8 (.sym xs)]] [.sl 0 (.lit 0) (.sym n)] fun v H => ∃ b : Bool, (b = true ↔ (xs.getD 0 0 = 1 ∧ 6 < xs.length ∧ xs.length ≤ 206) ∨ (2 ≤ xs.getD 0 0 ∧ xs.getD 0 0 ≤ 4 ∧ xs.length = 2)) ∧ v = .sbool b ∧ H = [.cols .ro 5 [.ints .u8 (.sym xs)]] :=
  (formed_ctr xs n hn).mono fun v H h => ⟨_, decide_eq_true_iff, h.1, h.2⟩
/-- What Apply makes of a table. -/
def applyS (ts : List ByteArray) (ls fs xs : List Int) : (List ByteArray × List Int × List Int) × Option Int :=
  let i := (xs.getD 1 0).toNat
  if ¬ ((xs.getD 0 0 = 1 ∧ 6 < xs.length ∧ xs.length ≤ 206) ∨ (2 ≤ xs.getD 0 0 ∧ xs.getD 0 0 ≤ 4 ∧ xs.length = 2)) then ((ts, ls, fs), some 6)
  else if ¬ xs.getD 1 0 < 8 then ((ts, ls, fs), some 1)
  else if xs.getD 0 0 ≠ 1 ∧ (ts.getD i ByteArray.empty).toList = [] then ((ts, ls, fs), some 8)
  else if xs.getD 0 0 = 1 then ((ts.set i (strL (xs.drop 6)), ls.set i (256 * xs.getD 2 0 + xs.getD 3 0), fs.set i (256 * xs.getD 4 0 + xs.getD 5 0)), none)
  else if xs.getD 0 0 = 2 then ((ts.set i ByteArray.empty, ls.set i 0, fs.set i 0), none)
  else if xs.getD 0 0 = 3 then ((ts, ls, if fs.getD i 0 < 65535 then fs.set i (IntKind.i64.wrap (fs.getD i 0 + 1)) else fs), none)
  else ((ts, ls, fs.set i 0), none)
def tbV (t : List ByteArray × List Int × List Int) : V := .cols 24 [.strs (.sym t.1), .ints .i64 (.sym t.2.1), .ints .i64 (.sym t.2.2)]
def errV : Option Int → V
  | none => .nilif
  | some e => .iface 45 (.int .i64 (.sym e))
theorem apply_ctr (ts : List ByteArray) (ls fs : List Int) (xs : List Int) (n : Int) (hn : n = xs.length) (ht : ts.length = 8) (hl : ls.length = 8) (hf : fs.length = 8) (hx : ∀ i, 0 ≤ xs.getD i 0 ∧ xs.getD i 0 < 256) :
    Ctr Tryd.prog 11 [.cols .ro 5 [.ints .u8 (.sym xs)]] [tbV (ts, ls, fs), .sl 0 (.lit 0) (.sym n)] fun v H =>
      v = .tup [tbV (applyS ts ls fs xs).1, errV (applyS ts ls fs xs).2] ∧ H = [.cols .ro 5 [.ints .u8 (.sym xs)]] := by
  obtain ⟨uI, uB, uS, uL, uT, hu⟩ := words
  have hm := mixed
  have hT := tabOk
  have h15 := slotted_c
  have h14 := formed_c
  have w64 : ∀ i, IntKind.i64.wrap (xs.getD i 0) = xs.getD i 0 := fun i => by
    have := hx i
    rw [IntKind.wrap_i64]; omega
  have e0 : uL (.sub xs 0 n) = xs := by rw [hu.l]; simp [iL, subL, hn]
  obtain ⟨P, hP⟩ : ∃ P, P = Tryd.prog := ⟨_, rfl⟩
  rw [← hP] at hm hT h15 h14 ⊢
  refine Ctr.weak (ctr_of_vc hu hm hT (hP ▸ Tryd.func11) rfl (by kernel_rfl) ?_)
  clear hP hm hT
  unfold tbV
  generalize hR : Weak _ _ = R
  cbv
  repeat' (first | (intro h; (try subst h); cbv) | (refine And.intro ?_ ?_) | (refine CallVC.mk (Ctr.mono (h15 _) ?_); rintro v H ⟨b, hb, rfl, rfl⟩; cbv) | (refine CallVC.mk (Ctr.mono (h14 _ _ (by rw [hu.l]; simp [iL, subL, Lv.raw, hn])) ?_); rintro v H ⟨b, hb, rfl, rfl⟩; cbv))
  all_goals clear h14 h15
  all_goals
    simp only [hu.b, hu.i, iB, iI, cmpB, Iv.val_sym, Iv.val_lit, Lv.raw, decide_eq_true_eq, decide_eq_false_iff_not, beq_iff_eq, beq_eq_false_iff_ne, ne_eq, ofN, Int.toNat_zero, Int.toNat_one, Int.reduceToNat, natc, w64, e0, hu.s, iS, Sv.val_lit, Sv.val_sym, Tv.raw, true_iff, false_iff, Bool.false_eq_true, bne_iff_ne, bne_eq_false_iff_eq, Bool.not_eq_true', Decidable.not_not] at *
    try simp only [Int.ofNat_eq_natCast] at *
  all_goals try (have h0 := hx 0; have h1 := hx 1; omega)
  all_goals
    obtain ⟨q, hq⟩ : ∃ q, applyS ts ls fs xs = q := ⟨_, rfl⟩
    rw [hq] at hR
    unfold applyS at hq
    simp only [] at hq
    repeat' split at hq
  all_goals try (exfalso; have h0 := hx 0; have h1 := hx 1; omega)
  all_goals try (exfalso; simp_all; done)
  all_goals
    subst hq
    subst hR
    refine ⟨_, _, ?_, ?_, ?_, rfl, rfl⟩
  all_goals try exact ⟨⟨rfl, ⟨rfl, rfl⟩, trivial⟩, trivial⟩
  all_goals try rfl
  all_goals try (simp [V.sub, V.subL, ren, renL, tupV, colsSub, Col.sub, errV, Tv.raw, Lv.raw, hu.t, hu.l, hu.s, iT, iL, iS, binI]; done)
  · refine ⟨⟨rfl, ⟨?_, ⟨⟨rfl, ?_⟩, ⟨⟨rfl, ?_⟩, trivial⟩⟩⟩⟩, trivial, trivial⟩
    · show uT _ = _; rw [hu.t]; rfl
    · show uL _ = _; rw [hu.l]; rfl
    · show uL _ = _; rw [hu.l]; rfl
  · refine ⟨⟨rfl, ⟨?_, ⟨⟨rfl, ?_⟩, ⟨⟨rfl, ?_⟩, trivial⟩⟩⟩⟩, trivial, trivial⟩
    · show uT _ = _; rw [hu.t, hu.l]
      simp only [iT, iL, subL, Tv.raw, hn, Int.reduceToNat]
      rw [List.take_of_length_le (by simp; omega)]
    · show uL _ = _; rw [hu.l, or16 (hx 2).1 (hx 2).2 (hx 3).1 (hx 3).2]; rfl
    · show uL _ = _; rw [hu.l, or16 (hx 4).1 (hx 4).2 (hx 5).1 (hx 5).2]; rfl
/-- Put's error. -/
def putE (i l f : Int) (s : ByteArray) : Option Int :=
  if ¬ (0 ≤ i ∧ i < 8 ∧ 0 ≤ l ∧ l ≤ 65535 ∧ 0 ≤ f ∧ f ≤ 65535) then some 1
  else if s.size < 1 ∨ 200 < s.size then some 2 else none
/-- Put's bytes. -/
def putL (i l f : Int) (s : ByteArray) : List Int := [1, i, l / 256, l % 256, f / 256, f % 256] ++ bytesL s
def PutR (i l f : Int) (s : ByteArray) (v : V) (H : Hp) : Prop :=
  (∃ e, putE i l f s = some e ∧ v = .tup [.nilsl, .iface 45 (.int .i64 (.sym e))] ∧ H = []) ∨
  (putE i l f s = none ∧ v = .tup [.vec 0 (.sym (6 + s.size)), .nilif] ∧ H = [.cols (.row 1) 5 [.ints .u8 (.sym (putL i l f s))]])
theorem put_ctr (i l f : Int) (s : ByteArray) : Ctr Tryd.prog 6 [] [.int .i64 (.sym i), .agg [.str (.sym s), .int .i64 (.sym l), .int .i64 (.sym f)]] (PutR i l f s) := by
  obtain ⟨uI, uB, uS, uL, uT, hu⟩ := words
  have hm := mixed
  have hT := tabOk
  have h15 := @slotted_c
  have h17 := @number_c
  obtain ⟨P, hP⟩ : ∃ P, P = Tryd.prog := ⟨_, rfl⟩
  rw [← hP] at hm hT h15 h17 ⊢
  refine Ctr.weak (ctr_of_vc hu hm hT (hP ▸ Tryd.func6) rfl (by kernel_rfl) ?_)
  clear hP hm hT
  generalize hR : Weak _ _ = R
  cbv
  repeat' (first | (intro h; (try subst h); cbv) | (refine And.intro ?_ ?_) | (refine CallVC.mk (Ctr.mono (h15 _) ?_); rintro v H ⟨b, hb, rfl, rfl⟩ <;> cbv) | (refine CallVC.mk (Ctr.mono (h17 _) ?_); rintro v H ⟨b, hb, rfl, rfl⟩ <;> cbv))
  all_goals clear h15 h17
  all_goals
    simp only [hu.b, hu.i, iB, iI, cmpB, Iv.val_sym, Iv.val_lit, Lv.raw, Tv.raw, decide_eq_true_eq, decide_eq_false_iff_not, beq_iff_eq, beq_eq_false_iff_ne, ne_eq, ofN, Int.toNat_zero, Int.toNat_one, Int.reduceToNat, natc, hu.s, iS, Sv.val_lit, Sv.val_sym, true_iff, false_iff, Bool.false_eq_true, bne_iff_ne, bne_eq_false_iff_eq, Bool.not_eq_true', Decidable.not_not, nil_toList, ByteArray.size_empty, nilS, hu.l, iL] at *
    try simp only [Int.ofNat_eq_natCast] at *
  all_goals try omega
  · subst hR
    exact Weak.of (.inl ⟨2, by (unfold putE; repeat' split) <;> first | rfl | (exfalso; omega), rfl, rfl⟩) ⟨trivial, ⟨rfl, rfl, rfl⟩, trivial⟩ trivial rfl
  · subst hR
    exact Weak.of (.inl ⟨2, by (unfold putE; repeat' split) <;> first | rfl | (exfalso; omega), rfl, rfl⟩) ⟨trivial, ⟨rfl, rfl, rfl⟩, trivial⟩ trivial rfl
  · subst hR
    have e1 : ∀ n : Int, IntKind.u8.wrap n = n % 256 := wr_u8
    have e2 : ∀ n : Int, binI .shr .i64 n 8 = n / 256 := fun n => fdiv2 n 8
    refine Weak.of (.inr ⟨by (unfold putE; repeat' split) <;> first | rfl | (exfalso; omega), rfl, rfl⟩) ⟨⟨rfl, ?_⟩, trivial, trivial⟩ ⟨⟨rfl, rfl, ⟨⟨rfl, ?_⟩, trivial⟩⟩, trivial⟩ rfl
    · simp only [Iv.val_sym, hu.i, hu.l, iI, iL, Lv.raw, List.length_append, bytesL_length, lvals, List.length_cons, List.length_nil]; omega
    · simp only [Iv.val_sym, Iv.val_lit, hu.i, hu.l, iI, iL, Lv.raw, lvals, e1, e2, putL]
      congr 1
      simp only [List.cons.injEq, and_true, true_and]
      omega
  all_goals
    subst hR
    exact Weak.of (.inl ⟨1, by (unfold putE; repeat' split) <;> first | rfl | (exfalso; omega), rfl, rfl⟩) ⟨trivial, ⟨rfl, rfl, rfl⟩, trivial⟩ trivial rfl
theorem put_c (i l f : Iv) (s : Sv) : Ctr Tryd.prog 6 [] [.int .i64 i, .agg [.str s, .int .i64 l, .int .i64 f]] (PutR i.val l.val f.val s.val) :=
  (put_ctr i.val l.val f.val s.val).conv trivial ⟨⟨rfl, rfl⟩, ⟨rfl, ⟨rfl, rfl⟩, ⟨rfl, rfl⟩, trivial⟩, trivial⟩
/-- Mark. -/
def MarkR (k i : Int) (v : V) (H : Hp) : Prop :=
  (¬ (2 ≤ k ∧ k ≤ 4 ∧ 0 ≤ i ∧ i < 8) ∧ v = .tup [.nilsl, .iface 45 (.int .i64 (.sym 1))] ∧ H = []) ∨
  ((2 ≤ k ∧ k ≤ 4 ∧ 0 ≤ i ∧ i < 8) ∧ v = .tup [.vec 0 (.lit 2), .nilif] ∧ H = [.cols (.row 1) 5 [.ints .u8 (.sym [k, i])]])
theorem mark_ctr (k i : Int) : Ctr Tryd.prog 10 [] [.int .i64 (.sym k), .int .i64 (.sym i)] (MarkR k i) := by
  obtain ⟨uI, uB, uS, uL, uT, hu⟩ := words
  have hm := mixed
  have hT := tabOk
  have h15 := @slotted_c
  obtain ⟨P, hP⟩ : ∃ P, P = Tryd.prog := ⟨_, rfl⟩
  rw [← hP] at hm hT h15 ⊢
  refine Ctr.weak (ctr_of_vc hu hm hT (hP ▸ Tryd.func10) rfl (by kernel_rfl) ?_)
  clear hP hm hT
  generalize hR : Weak _ _ = R
  cbv
  repeat' (first | (intro h; (try subst h); cbv) | (refine And.intro ?_ ?_) | (refine CallVC.mk (Ctr.mono (h15 _) ?_); rintro v H ⟨b, hb, rfl, rfl⟩ <;> cbv))
  all_goals clear h15
  all_goals
    simp only [hu.b, hu.i, iB, iI, cmpB, Iv.val_sym, Iv.val_lit, Lv.raw, Tv.raw, decide_eq_true_eq, decide_eq_false_iff_not, beq_iff_eq, beq_eq_false_iff_ne, ne_eq, ofN, Int.toNat_zero, Int.toNat_one, Int.reduceToNat, natc, hu.s, iS, Sv.val_lit, Sv.val_sym, true_iff, false_iff, Bool.false_eq_true, bne_iff_ne, bne_eq_false_iff_eq, Bool.not_eq_true', Decidable.not_not, nil_toList, ByteArray.size_empty, nilS, hu.l, iL] at *
    try simp only [Int.ofNat_eq_natCast] at *
  all_goals subst hR
  all_goals first
    | exact Weak.of (.inl ⟨by omega, rfl, rfl⟩) ⟨trivial, ⟨rfl, rfl, rfl⟩, trivial⟩ trivial rfl
    | (refine Weak.of (.inr ⟨by omega, rfl, rfl⟩) ⟨⟨rfl, rfl⟩, trivial, trivial⟩ ⟨⟨rfl, rfl, ⟨⟨rfl, ?_⟩, trivial⟩⟩, trivial⟩ rfl
       simp only [Iv.val_sym, Iv.val_lit, hu.i, hu.l, iI, iL, Lv.raw, lvals, wr_u8, List.cons.injEq, and_true]
       omega)
theorem mark_c (k i : Iv) : Ctr Tryd.prog 10 [] [.int .i64 k, .int .i64 i] (MarkR k.val i.val) :=
  (mark_ctr k.val i.val).conv trivial ⟨⟨rfl, rfl⟩, ⟨rfl, rfl⟩, trivial⟩
/-- Apply, as it is taken. -/
def ApplyR (ts : List ByteArray) (ls fs xs : List Int) (v : V) : Prop :=
  (∃ t, applyS ts ls fs xs = (t, none) ∧ v = .tup [tbV t, .nilif]) ∨ (∃ e, applyS ts ls fs xs = ((ts, ls, fs), some e) ∧ v = .tup [tbV (ts, ls, fs), .iface 45 (.int .i64 (.sym e))])
theorem applyS_err {ts ls fs xs t e} (h : applyS ts ls fs xs = (t, some e)) : t = (ts, ls, fs) := by
  unfold applyS at h
  simp only [] at h
  repeat' split at h
  all_goals first
    | (simp only [Prod.mk.injEq] at h; exact h.1.symm)
    | (simp at h; done)
theorem apply_c (ts : Tv) (ls fs xs : Lv) (n : Iv) (hn : n.val = xs.raw.length) (ht : ts.raw.length = 8) (hl : ls.raw.length = 8) (hf : fs.raw.length = 8) (hx : Bytes xs.raw) :
    Ctr Tryd.prog 11 [.cols .ro 5 [.ints .u8 xs]] [.cols 24 [.strs ts, .ints .i64 ls, .ints .i64 fs], .sl 0 (.lit 0) n] fun v H => ApplyR ts.raw ls.raw fs.raw xs.raw v ∧ H = [.cols .ro 5 [.ints .u8 (.sym xs.raw)]] := by
  refine Ctr.mono ((apply_ctr ts.raw ls.raw fs.raw xs.raw n.val hn ht hl hf (fun i => hx.get i)).conv ⟨⟨⟨rfl, ⟨rfl, rfl⟩, trivial⟩, rfl⟩, trivial⟩ ⟨⟨rfl, rfl, ⟨rfl, rfl⟩, ⟨rfl, rfl⟩, trivial⟩, ⟨rfl, rfl, rfl⟩, trivial⟩) ?_
  rintro v H ⟨rfl, rfl⟩
  refine ⟨?_, rfl⟩
  obtain ⟨⟨t, e⟩, hq⟩ : ∃ q, applyS ts.raw ls.raw fs.raw xs.raw = q := ⟨_, rfl⟩
  rw [hq]
  cases e with
  | none => exact .inl ⟨t, hq, rfl⟩
  | some e => exact .inr ⟨e, by rw [hq, applyS_err hq], by simp only [errV, applyS_err hq]⟩
/-- Locked. -/
def LockedR (ts : List ByteArray) (ls fs : List Int) (i : Int) (v : V) : Prop :=
  (¬ (0 ≤ i ∧ i < 8) ∧ v = .tup [.bool false, .iface 45 (.int .i64 (.sym 1))]) ∨ ((0 ≤ i ∧ i < 8) ∧ (ts.getD i.toNat ByteArray.empty).size = 0 ∧ v = .tup [.bool false, .iface 45 (.int .i64 (.sym 8))]) ∨
  ((0 ≤ i ∧ i < 8) ∧ (ts.getD i.toNat ByteArray.empty).size ≠ 0 ∧ ∃ b : Bool, (b = true ↔ 0 < ls.getD i.toNat 0 ∧ ls.getD i.toNat 0 ≤ fs.getD i.toNat 0) ∧ v = .tup [.sbool b, .nilif])
theorem locked_ctr (ts : List ByteArray) (ls fs : List Int) (i : Int) (ht : ts.length = 8) (hl : ls.length = 8) (hf : fs.length = 8) : Ctr Tryd.prog 12 [] [tbV (ts, ls, fs), .int .i64 (.sym i)] fun v H => LockedR ts ls fs i v ∧ H = [] := by
  unfold tbV
  obtain ⟨uI, uB, uS, uL, uT, hu⟩ := words
  have hm := mixed
  have hT := tabOk
  have h15 := @slotted_c
  obtain ⟨P, hP⟩ : ∃ P, P = Tryd.prog := ⟨_, rfl⟩
  rw [← hP] at hm hT h15 ⊢
  refine Ctr.weak (ctr_of_vc hu hm hT (hP ▸ Tryd.func12) rfl (by kernel_rfl) ?_)
  clear hP hm hT
  generalize hR : Weak _ _ = R
  cbv
  repeat' (first | (intro h; (try subst h); cbv) | (refine And.intro ?_ ?_) | (refine CallVC.mk (Ctr.mono (h15 _) ?_); rintro v H ⟨b, hb, rfl, rfl⟩ <;> cbv))
  all_goals clear h15
  all_goals
    simp only [hu.b, hu.i, iB, iI, cmpB, Iv.val_sym, Iv.val_lit, Lv.raw, Tv.raw, decide_eq_true_eq, decide_eq_false_iff_not, beq_iff_eq, beq_eq_false_iff_ne, ne_eq, ofN, Int.toNat_zero, Int.toNat_one, Int.reduceToNat, natc, hu.s, iS, Sv.val_lit, Sv.val_sym, true_iff, false_iff, Bool.false_eq_true, bne_iff_ne, bne_eq_false_iff_eq, Bool.not_eq_true', Decidable.not_not, nil_toList, ByteArray.size_empty, nilS, hu.l, iL] at *
    try simp only [Int.ofNat_eq_natCast] at *
  all_goals try omega
  all_goals subst hR
  all_goals first
    | exact Weak.of ⟨.inl ⟨by omega, rfl⟩, rfl⟩ ⟨rfl, ⟨rfl, rfl, rfl⟩, trivial⟩ trivial rfl
    | exact Weak.of ⟨.inr (.inl ⟨by omega, by omega, rfl⟩), rfl⟩ ⟨rfl, ⟨rfl, rfl, rfl⟩, trivial⟩ trivial rfl
    | exact Weak.of ⟨.inr (.inr ⟨by omega, by omega, true, by simp only [true_iff]; omega, rfl⟩), rfl⟩ ⟨rfl, trivial, trivial⟩ trivial rfl
    | exact Weak.of ⟨.inr (.inr ⟨by omega, by omega, false, by simp only [false_iff, Bool.false_eq_true]; omega, rfl⟩), rfl⟩ ⟨rfl, trivial, trivial⟩ trivial rfl
theorem locked_c (ts : Tv) (ls fs : Lv) (i : Iv) (ht : ts.raw.length = 8) (hl : ls.raw.length = 8) (hf : fs.raw.length = 8) : Ctr Tryd.prog 12 [] [.cols 24 [.strs ts, .ints .i64 ls, .ints .i64 fs], .int .i64 i] fun v H => LockedR ts.raw ls.raw fs.raw i.val v ∧ H = [] :=
  (locked_ctr ts.raw ls.raw fs.raw i.val ht hl hf).conv trivial ⟨⟨rfl, rfl, ⟨rfl, rfl⟩, ⟨rfl, rfl⟩, trivial⟩, ⟨rfl, rfl⟩, trivial⟩
def Len8 (t : List ByteArray × List Int × List Int) : Prop := t.1.length = 8 ∧ t.2.1.length = 8 ∧ t.2.2.length = 8
theorem applyS_len {ts ls fs xs t e} (h : applyS ts ls fs xs = (t, e)) (ht : ts.length = 8) (hl : ls.length = 8) (hf : fs.length = 8) : Len8 t := by
  unfold applyS at h
  simp only [] at h
  repeat' split at h
  all_goals
    simp only [Prod.mk.injEq] at h
    obtain ⟨rfl, rfl⟩ := h
    first | exact ⟨ht, hl, hf⟩ | (refine ⟨?_, ?_, ?_⟩ <;> simp [ht, hl, hf])
/-! What is so where it is known how it ends. -/
theorem put_y (i l f : Iv) (s : Sv) (h : (putE i.val l.val f.val s.val).isNone = true) : Ctr Tryd.prog 6 [] [.int .i64 i, .agg [.str s, .int .i64 l, .int .i64 f]] fun v H => v = .tup [.vec 0 (.sym (6 + s.val.size)), .nilif] ∧ H = [.cols (.row 1) 5 [.ints .u8 (.sym (putL i.val l.val f.val s.val))]] :=
  (put_c i l f s).mono fun v H h' => by
    rcases h' with ⟨e, he, _⟩ | ⟨_, h1, h2⟩
    · rw [he] at h; cases h
    · exact ⟨h1, h2⟩
theorem mark_y (k i : Iv) (h : 2 ≤ k.val ∧ k.val ≤ 4 ∧ 0 ≤ i.val ∧ i.val < 8) : Ctr Tryd.prog 10 [] [.int .i64 k, .int .i64 i] fun v H => v = .tup [.vec 0 (.lit 2), .nilif] ∧ H = [.cols (.row 1) 5 [.ints .u8 (.sym [k.val, i.val])]] :=
  (mark_c k i).mono fun v H h' => by
    rcases h' with ⟨he, _⟩ | ⟨_, h1, h2⟩
    · exact absurd h he
    · exact ⟨h1, h2⟩
theorem apply_y (ts : Tv) (ls fs xs : Lv) (n : Iv) (hn : n.val = xs.raw.length) (ht : ts.raw.length = 8) (hl : ls.raw.length = 8) (hf : fs.raw.length = 8) (hx : Bytes xs.raw) (h : (applyS ts.raw ls.raw fs.raw xs.raw).2.isNone = true) :
    Ctr Tryd.prog 11 [.cols .ro 5 [.ints .u8 xs]] [.cols 24 [.strs ts, .ints .i64 ls, .ints .i64 fs], .sl 0 (.lit 0) n] fun v H => v = .tup [tbV (applyS ts.raw ls.raw fs.raw xs.raw).1, .nilif] ∧ H = [.cols .ro 5 [.ints .u8 (.sym xs.raw)]] := by
  refine Ctr.mono (apply_c ts ls fs xs n hn ht hl hf hx) ?_
  rintro v H ⟨(⟨t, h1, rfl⟩ | ⟨e, h1, rfl⟩), rfl⟩
  · exact ⟨by rw [h1], rfl⟩
  · rw [h1] at h; cases h
theorem locked_y (ts : Tv) (ls fs : Lv) (i : Iv) (b : Bool) (ht : ts.raw.length = 8) (hl : ls.raw.length = 8) (hf : fs.raw.length = 8) (hi : 0 ≤ i.val ∧ i.val < 8) (hs : (ts.raw.getD i.val.toNat ByteArray.empty).size ≠ 0) (hb : decide (0 < ls.raw.getD i.val.toNat 0 ∧ ls.raw.getD i.val.toNat 0 ≤ fs.raw.getD i.val.toNat 0) = b) :
    Ctr Tryd.prog 12 [] [.cols 24 [.strs ts, .ints .i64 ls, .ints .i64 fs], .int .i64 i] fun v H => v = .tup [.bool b, .nilif] ∧ H = [] := by
  refine Ctr.weak (Ctr.mono (locked_c ts ls fs i ht hl hf) ?_)
  rintro v H ⟨(⟨h, _⟩ | ⟨_, h, _⟩ | ⟨_, _, c, hc, rfl⟩), rfl⟩
  · exact absurd hi h
  · exact absurd h hs
  · refine Weak.of ⟨rfl, rfl⟩ ⟨?_, trivial, trivial⟩ trivial rfl
    show c = b
    rw [← hb, eq_comm, Bool.eq_iff_iff, decide_eq_true_iff, hc]
theorem awake_ctr : Ctr Tryd.prog 5 [] [] fun v H => v = .bool true ∧ H = [] := by
  obtain ⟨uI, uB, uS, uL, uT, hu⟩ := words
  have hm := mixed
  have hT := tabOk
  have h11 := @put_y
  have h12 := @mark_y
  have h8 := @apply_y
  have h13 := @locked_y
  obtain ⟨P, hP⟩ : ∃ P, P = Tryd.prog := ⟨_, rfl⟩
  rw [← hP] at hm hT h11 h12 h8 h13 ⊢
  refine Ctr.weak (ctr_of_vc hu hm hT (hP ▸ Tryd.func5) rfl (by kernel_rfl) ?_)
  clear hP hm hT
  generalize hR : Weak _ _ = R
  cbv
  repeat' (first | (intro h; (try subst h); cbv) | (refine And.intro ?_ ?_) | (refine CallVC.mk (Ctr.mono (h11 _ _ _ _ (by decide +kernel)) ?_); rintro v H ⟨rfl, rfl⟩ <;> cbv) | (refine CallVC.mk (Ctr.mono (h12 _ _ (by decide +kernel)) ?_); rintro v H ⟨rfl, rfl⟩ <;> cbv) | (refine CallVC.mk (Ctr.mono (h8 _ _ _ _ _ (by rfl) (by rfl) (by rfl) (by rfl) (by unfold Bytes; decide +kernel) (by decide +kernel)) ?_); rintro v H ⟨rfl, rfl⟩ <;> cbv) | (refine CallVC.mk (Ctr.mono (h13 _ _ _ _ _ (by rfl) (by rfl) (by rfl) (by decide +kernel) (by decide +kernel) (by rfl)) ?_); rintro v H ⟨rfl, rfl⟩ <;> cbv))
  all_goals clear h8 h11 h12 h13
  all_goals first
    | (rw [hu.b]; simp only [iB, cmpB, hu.i, iI, Iv.val_sym, Iv.val_lit, List.length_cons, List.length_nil]; decide +kernel)
    | (subst hR; exact Weak.of ⟨rfl, rfl⟩ rfl trivial rfl)
    | (clear hR
       obtain rfl : uI = iI := funext hu.i
       obtain rfl : uS = iS := funext hu.s
       obtain rfl : uB = iB := funext hu.b
       exfalso
       repeat (first | exact absurd h (by decide +kernel) | clear h))
end Go.Proofs.YtdpfjoojppmpbaaDoor
namespace Go.Proofs.YtdpfjoojppmpbaaDoor
open Go Go.RowKit Go.Extern.Stop Go.Stop Go.Extern
set_option maxRecDepth 100000
namespace AsW
theorem valueOfPE (t : Addr) (w : World) : (ReflectliteValue.unpack (.iface 48 (.pointer (some t)))).run Tryd.prog w
    = .ok (.agg #[.pointer (some ⟨1, 48, none⟩), .pointer (some ⟨w.heap.size, 0, none⟩), .int .u64 150]) (w.alloc (.cells #[.pointer (some t)] 48)) := by kernel_rfl
theorem typePE (a : Addr) (w : World) : (ReflectliteValue.methodAny (ReflectliteValue.valueError "reflectlite.Value.Type" 0) (fun t _ _ _ => ReflectliteType.toType t) #[.agg #[.pointer (some ⟨1, 48, none⟩), .pointer (some a), .int .u64 150]]).run Tryd.prog w
    = .ok (.iface 63 (.agg #[.pointer (some ⟨1, 48, none⟩)])) w := by kernel_rfl
theorem methodKind (h : Value) (w : World) : (Go.method 205 63 (.agg #[h]) "Kind").run Tryd.prog w = .ok (38, h) w := by kernel_rfl
theorem kindPE (w : World) : ((ReflectliteType.abiMethod fun t => (fun a : Nat => Value.int IntKind.u8 (a : Int)) <$> Rtype.kind t) #[.pointer (some ⟨1, 48, none⟩)]).run Tryd.prog w = .ok (.int .u8 22) w := by kernel_rfl
theorem kindE (w : World) : ((ReflectliteType.abiMethod fun t => (fun a : Nat => Value.int IntKind.u8 (a : Int)) <$> Rtype.kind t) #[.pointer (some ⟨1, 45, none⟩)]).run Tryd.prog w = .ok (.int .u8 2) w := by kernel_rfl
theorem rlm (z : Sem Value) (f : TypeId → Addr → Nat → Nat → Sem Value) (v : Value) :
    ReflectliteValue.method z f #[v] = (do match ← ReflectliteValue.parts v with | none => z | some (t, a, fl) => f t a fl (fl % 32)) := rfl
theorem partsPE (a : Addr) (w : World) : (ReflectliteValue.parts (.agg #[.pointer (some ⟨1, 48, none⟩), .pointer (some a), .int .u64 150])).run Tryd.prog w = .ok (some (48, a, 150)) w := by kernel_rfl
theorem isNilPE (a p : Addr) (W : World) (ha : W.cell? a = some (.pointer (some p))) :
    (ReflectliteValue.method (ReflectliteValue.valueError "reflectlite.Value.IsNil" 0) ReflectliteValue.isNil #[.agg #[.pointer (some ⟨1, 48, none⟩), .pointer (some a), .int .u64 150]]).run Tryd.prog W = .ok (.bool false) W := by
  rw [rlm]
  simp only [Sem.run_bind, partsPE, Result.andThen]
  simp [ReflectliteValue.isNil, loadVar, isAgg, underlying, Tryd.underlying48, ha, Result.andThen]
theorem methodElem (h : Value) (w : World) : (Go.method 205 63 (.agg #[h]) "Elem").run Tryd.prog w = .ok (48, .agg #[h]) w := by kernel_rfl
theorem methodImplements (h : Value) (w : World) : (Go.method 205 63 (.agg #[h]) "Implements").run Tryd.prog w = .ok (49, .agg #[h]) w := by kernel_rfl
theorem methodAssignableTo (h : Value) (w : World) : (Go.method 205 63 (.agg #[h]) "AssignableTo").run Tryd.prog w = .ok (46, .agg #[h]) w := by kernel_rfl
theorem elemPE (w : World) : (ReflectliteType.method ReflectliteType.elem #[.agg #[.pointer (some ⟨1, 48, none⟩)]]).run Tryd.prog w = .ok (.iface 63 (.agg #[.pointer (some ⟨1, 45, none⟩)])) w := by kernel_rfl
theorem implementsE (w : World) : (ReflectliteType.relation "Implements" ReflectliteType.implements_ #[.agg #[.pointer (some ⟨1, 45, none⟩)], .iface 63 (.agg #[.pointer (some ⟨1, 27, none⟩)])]).run Tryd.prog w = .ok (.bool true) w := by kernel_rfl
theorem typeOfE (v : Value) (w : World) : (ReflectliteType.typeOf #[.iface 45 v]).run Tryd.prog w = .ok (.iface 63 (.agg #[.pointer (some ⟨1, 45, none⟩)])) w := by kernel_rfl
theorem assignableEE (w : World) : (ReflectliteType.relation "AssignableTo" ReflectliteType.assignableTo #[.agg #[.pointer (some ⟨1, 45, none⟩)], .iface 63 (.agg #[.pointer (some ⟨1, 45, none⟩)])]).run Tryd.prog w = .ok (.bool true) w := by kernel_rfl
theorem valueOfE (n : Int) (w : World) : (ReflectliteValue.unpack (.iface 45 (.int .i64 n))).run Tryd.prog w
    = .ok (.agg #[.pointer (some ⟨1, 45, none⟩), .pointer (some ⟨w.heap.size, 0, none⟩), .int .u64 130]) (w.alloc (.cells #[.int .i64 n] 45)) := by kernel_rfl
theorem elemOfPE (w : World) : (Rtype.elem? 48).run Tryd.prog w = .ok (some 45) w := by kernel_rfl
theorem mkE (p : Addr) (w : World) : (ReflectliteValue.mk 45 p ReflectliteValue.flagAddr).run Tryd.prog w = .ok (.agg #[.pointer (some ⟨1, 45, none⟩), .pointer (some p), .int .u64 386]) w := by kernel_rfl
theorem elemVPE (a p : Addr) (W : World) (ha : W.cell? a = some (.pointer (some p))) :
    (ReflectliteValue.method (ReflectliteValue.valueError "reflectlite.Value.Elem" 0) ReflectliteValue.elem #[.agg #[.pointer (some ⟨1, 48, none⟩), .pointer (some a), .int .u64 150]]).run Tryd.prog W
      = .ok (.agg #[.pointer (some ⟨1, 45, none⟩), .pointer (some p), .int .u64 386]) W := by
  rw [rlm]
  simp only [Sem.run_bind, partsPE, Result.andThen]
  simp [ReflectliteValue.elem, loadVar, isAgg, underlying, Tryd.underlying48, ha, Result.andThen, elemOfPE, mkE]
theorem rls (v x : Value) : ReflectliteValue.set #[v, x] = (do
    let (some (dst, a, fl), some (src, b, _)) := (← ReflectliteValue.parts v, ← ReflectliteValue.parts x)
      | unsupported (.noEntry "extern/(internal/reflectlite.Value).Set.zeroValue")
    if fl / ReflectliteValue.flagAddr % 2 == 0 then unsupported (.noEntry "extern/(internal/reflectlite.Value).Set.unaddressable")
    let val ← loadVar src b
    if ← Rtype.directlyAssignable dst src then storeVar dst a val
    else if ← Rtype.implements dst src then
      if (← Rtype.kind src) == 20 then
        match val with
        | .nilIface => unsupported (.noEntry "extern/reflectlite: a nil value of one interface type handed on as a value of another")
        | _ => storeVar dst a val
      else storeVar dst a (.iface src val)
    else panicString ("reflectlite.Set: value of type " ++ (← Rtype.spelt src) ++ " is not assignable to type " ++ (← Rtype.spelt dst))
    pure (.tuple #[])) := rfl
theorem partsEa (a : Addr) (w : World) : (ReflectliteValue.parts (.agg #[.pointer (some ⟨1, 45, none⟩), .pointer (some a), .int .u64 386])).run Tryd.prog w = .ok (some (45, a, 386)) w := by kernel_rfl
theorem partsE (a : Addr) (w : World) : (ReflectliteValue.parts (.agg #[.pointer (some ⟨1, 45, none⟩), .pointer (some a), .int .u64 130])).run Tryd.prog w = .ok (some (45, a, 130)) w := by kernel_rfl
theorem directE (w : World) : (Rtype.directlyAssignable 45 45).run Tryd.prog w = .ok true w := by kernel_rfl
theorem setE (ta b : Addr) (n : Int) (old : Value) (W : World) (hb : W.cell? b = some (.int .i64 n)) (ht : W.cell? ta = some old) (hf : W.frozen? ta = false) :
    (ReflectliteValue.set #[.agg #[.pointer (some ⟨1, 45, none⟩), .pointer (some ta), .int .u64 386], .agg #[.pointer (some ⟨1, 45, none⟩), .pointer (some b), .int .u64 130]]).run Tryd.prog W
      = .ok (.tuple #[]) (W.setCell ta (.int .i64 n)) := by
  rw [rls]
  simp only [Sem.run_bind, partsEa, partsE, Result.andThen]
  simp [ReflectliteValue.flagAddr, loadVar, isAgg, underlying, Tryd.underlying45, hb, Result.andThen, directE, storeVar, Value.cells, storeCells, Addr.add]
  rw [run_store Tryd.prog W ta _ _ (by rfl)]
  simp [ht, hf]
/-- errors.as, the error an Errno, the target an Errno variable. -/
theorem as_hit (n : Int) (t a : Addr) (old : Value) (w : World) (ha : w.cell? a = some (.pointer (some t))) (ht0 : w.cell? t = some old) (hf0 : w.frozen? t = false) :
    Calls Tryd.prog 20 #[.iface 45 (.int .i64 n), .iface 48 (.pointer (some t)), .agg #[.pointer (some ⟨1, 48, none⟩), .pointer (some a), .int .u64 150], .iface 63 (.agg #[.pointer (some ⟨1, 45, none⟩)])] w
      fun ev w' => ev = .returned (.bool true) ∧ w' = ((w.alloc (.cells #[.pointer (some ⟨1, 48, none⟩), .pointer (some a), .int .u64 150] 53)).alloc (.cells #[.int .i64 n] 45)).setCell t (.int .i64 n) := by
  have hVO := @run_callFunc_extern Tryd.prog 17 _ (fun args => ReflectliteValue.unpack (args.getD 0 (.tuple #[]))) Tryd.func17 (by kernel_rfl) (by kernel_rfl) (by kernel_rfl) (by kernel_rfl)
  have hTO := @run_callFunc_extern Tryd.prog 21 _ ReflectliteType.typeOf Tryd.func21 (by kernel_rfl) (by kernel_rfl) (by kernel_rfl) (by kernel_rfl)
  have hAT := @run_callFunc_extern Tryd.prog 46 _ (ReflectliteType.relation "AssignableTo" ReflectliteType.assignableTo) Tryd.func46 (by kernel_rfl) (by kernel_rfl) (by kernel_rfl) (by kernel_rfl)
  have hVE := @run_callFunc_extern Tryd.prog 22 _ (ReflectliteValue.method (ReflectliteValue.valueError "reflectlite.Value.Elem" 0) ReflectliteValue.elem) Tryd.func22 (by kernel_rfl) (by kernel_rfl) (by kernel_rfl) (by kernel_rfl)
  have hVS := @run_callFunc_extern Tryd.prog 23 _ ReflectliteValue.set Tryd.func23 (by kernel_rfl) (by kernel_rfl) (by kernel_rfl) (by kernel_rfl)
  have tO := typeOfE
  have mA := methodAssignableTo
  have aE := assignableEE
  have vE := valueOfE
  have hal : a.block < w.heap.size := by
    rcases Nat.lt_or_ge a.block w.heap.size with h | h
    · exact h
    · simp [World.cell?, Array.getElem?_eq_none h] at ha
  have htl : t.block < w.heap.size := by
    rcases Nat.lt_or_ge t.block w.heap.size with h | h
    · exact h
    · simp [World.cell?, Array.getElem?_eq_none h] at ht0
  have el := elemVPE a t (w.alloc (.cells #[.pointer (some ⟨1, 48, none⟩), .pointer (some a), .int .u64 150] 53)) (by rw [World.cell?_alloc_lt _ _ a hal]; exact ha)
  have st := setE t ⟨w.heap.size + 1, 0, none⟩ n old ((w.alloc (.cells #[.pointer (some ⟨1, 48, none⟩), .pointer (some a), .int .u64 150] 53)).alloc (.cells #[.int .i64 n] 45))
    (by rw [World.cell?_alloc_at _ _ _ _ (by simp)]; rfl)
    (by rw [World.cell?_alloc_lt _ _ t (by simp; omega), World.cell?_alloc_lt _ _ t htl]; exact ht0)
    (by rw [World.frozen?_alloc_old _ _ t (by simp; omega), World.frozen?_alloc_old _ _ t (Nat.ne_of_lt htl)]; exact hf0)
  clear ha ht0 hf0
  go_enter Tryd.func20, Tryd.ntmps20
  go_wp2
  refine wp_loop_rounds 1 ?_
  rw [rounds_succ]
  go_wp2
  go_ret
  exact ⟨rfl, rfl⟩
/-- errors.As at an Errno variable, whatever errors.as answers. -/
theorem As_of (u : TypeId) (x : Value) (t : Addr) (w : World) (R : Bool → World → Prop) (hg : w.cell? ⟨0, 0, none⟩ = some (.iface 63 (.agg #[.pointer (some ⟨1, 27, none⟩)])))
    (h : Calls Tryd.prog 20 #[.iface u x, .iface 48 (.pointer (some t)), .agg #[.pointer (some ⟨1, 48, none⟩), .pointer (some ⟨w.heap.size, 0, none⟩), .int .u64 150], .iface 63 (.agg #[.pointer (some ⟨1, 45, none⟩)])]
      ((w.alloc (.cells #[.pointer (some t)] 48)).alloc (.cells #[.pointer (some ⟨1, 48, none⟩), .pointer (some ⟨w.heap.size, 0, none⟩), .int .u64 150] 53)) fun e w' => ∃ b, e = .returned (.bool b) ∧ R b w') :
    Calls Tryd.prog 15 #[.iface u x, .iface 48 (.pointer (some t))] w fun e w' => ∃ b, e = .returned (.bool b) ∧ R b w' := by
  have hVO := @run_callFunc_extern Tryd.prog 17 _ (fun args => ReflectliteValue.unpack (args.getD 0 (.tuple #[]))) Tryd.func17 (by kernel_rfl) (by kernel_rfl) (by kernel_rfl) (by kernel_rfl)
  have hVT := @run_callFunc_extern Tryd.prog 18 _ (ReflectliteValue.methodAny (ReflectliteValue.valueError "reflectlite.Value.Type" 0) (fun t _ _ _ => ReflectliteType.toType t)) Tryd.func18 (by kernel_rfl) (by kernel_rfl) (by kernel_rfl) (by kernel_rfl)
  have hIN := @run_callFunc_extern Tryd.prog 19 _ (ReflectliteValue.method (ReflectliteValue.valueError "reflectlite.Value.IsNil" 0) ReflectliteValue.isNil) Tryd.func19 (by kernel_rfl) (by kernel_rfl) (by kernel_rfl) (by kernel_rfl)
  have hK := @run_callFunc_extern Tryd.prog 38 _ (ReflectliteType.abiMethod fun t => do pure (.int .u8 (← Rtype.kind t))) Tryd.func38 (by kernel_rfl) (by kernel_rfl) (by kernel_rfl) (by kernel_rfl)
  have hRE := @run_callFunc_extern Tryd.prog 48 _ (ReflectliteType.method ReflectliteType.elem) Tryd.func48 (by kernel_rfl) (by kernel_rfl) (by kernel_rfl) (by kernel_rfl)
  have hIM := @run_callFunc_extern Tryd.prog 49 _ (ReflectliteType.relation "Implements" ReflectliteType.implements_) Tryd.func49 (by kernel_rfl) (by kernel_rfl) (by kernel_rfl) (by kernel_rfl)
  have f6 := valueOfPE
  have f7 := typePE
  have mK := methodKind
  have mE := methodElem
  have mI := methodImplements
  have kP := kindPE
  have kE := kindE
  have eP := elemPE
  have iE := implementsE
  have n8 := isNilPE ⟨w.heap.size, 0, none⟩ t ((w.alloc (.cells #[.pointer (some t)] 48)).alloc (.cells #[.pointer (some ⟨1, 48, none⟩), .pointer (some ⟨w.heap.size, 0, none⟩), .int .u64 150] 53)) (by simp)
  have hlt : 0 < w.heap.size := by
    rcases Nat.eq_zero_or_pos w.heap.size with h0 | h
    · simp [World.cell?, h0] at hg
    · exact h
  have hg2 : ((w.alloc (.cells #[.pointer (some t)] 48)).alloc (.cells #[.pointer (some ⟨1, 48, none⟩), .pointer (some ⟨w.heap.size, 0, none⟩), .int .u64 150] 53)).cell? ⟨0, 0, none⟩ = some (.iface 63 (.agg #[.pointer (some ⟨1, 27, none⟩)])) := by
    rw [World.cell?_alloc_lt _ _ ⟨0, 0, none⟩ (by simp), World.cell?_alloc_lt _ _ ⟨0, 0, none⟩ hlt]; exact hg
  clear hg
  have H := Lib.hid h
  clear h
  go_enter Tryd.func15, Tryd.ntmps15
  go_wp2_with ((go_at_call 20; refine H.out.mono ?_; rintro e w' ⟨b, rfl, hq⟩))
  go_ret
  exact ⟨b, rfl, hq⟩
theorem As_errno (n : Int) (t : Addr) (old : Value) (w : World) (hg : w.cell? ⟨0, 0, none⟩ = some (.iface 63 (.agg #[.pointer (some ⟨1, 27, none⟩)]))) (ht0 : w.cell? t = some old) (hf0 : w.frozen? t = false) :
    Calls Tryd.prog 15 #[.iface 45 (.int .i64 n), .iface 48 (.pointer (some t))] w fun e w' => ∃ b, e = .returned (.bool b) ∧ (b = true ∧ ∃ w1, Below w.heap.size w w1 ∧ w1.cell? t = some old ∧ w' = w1.setCell t (.int .i64 n)) := by
  refine As_of _ _ t w _ hg ((as_hit n t ⟨w.heap.size, 0, none⟩ old _ (by simp) ?_ ?_).mono ?_)
  · have htl : t.block < w.heap.size := by
      rcases Nat.lt_or_ge t.block w.heap.size with h | h
      · exact h
      · simp [World.cell?, Array.getElem?_eq_none h] at ht0
    rw [World.cell?_alloc_lt _ _ t (by simp; omega), World.cell?_alloc_lt _ _ t htl]; exact ht0
  · have htl : t.block < w.heap.size := by
      rcases Nat.lt_or_ge t.block w.heap.size with h | h
      · exact h
      · simp [World.cell?, Array.getElem?_eq_none h] at ht0
    rw [World.frozen?_alloc_old _ _ t (by simp; omega), World.frozen?_alloc_old _ _ t (Nat.ne_of_lt htl)]; exact hf0
  · rintro e w' ⟨rfl, rfl⟩
    have b4 : Below w.heap.size w ((((w.alloc (.cells #[.pointer (some t)] 48)).alloc (.cells #[.pointer (some ⟨1, 48, none⟩), .pointer (some ⟨w.heap.size, 0, none⟩), .int .u64 150] 53)).alloc (.cells #[.pointer (some ⟨1, 48, none⟩), .pointer (some ⟨w.heap.size, 0, none⟩), .int .u64 150] 53)).alloc (.cells #[.int .i64 n] 45)) :=
      ((((Below.refl _ _).alloc (Nat.le_refl _) _).alloc (by simp) _).alloc (by simp; omega) _).alloc (by simp; omega) _
    refine ⟨true, rfl, rfl, _, b4, ?_, rfl⟩
    have htl : t.block < w.heap.size := by
      rcases Nat.lt_or_ge t.block w.heap.size with h | h
      · exact h
      · simp [World.cell?, Array.getElem?_eq_none h] at ht0
    rw [b4.cell htl]; exact ht0
/-- api.Code of an Errno. -/
theorem code_errno (n : Int) (w : World) (hg : w.cell? ⟨0, 0, none⟩ = some (.iface 63 (.agg #[.pointer (some ⟨1, 27, none⟩)]))) :
    Calls Tryd.prog 8 #[.iface 45 (.int .i64 n)] w fun e w' => e = .returned (.int .i64 n) ∧ Below w.heap.size w w' := by
  have hlt : 0 < w.heap.size := by
    rcases Nat.eq_zero_or_pos w.heap.size with h0 | h
    · simp [World.cell?, h0] at hg
    · exact h
  have hgA : (w.alloc (.cells #[.int .i64 0] 45)).cell? ⟨0, 0, none⟩ = some (.iface 63 (.agg #[.pointer (some ⟨1, 27, none⟩)])) := by
    rw [World.cell?_alloc_lt _ _ ⟨0, 0, none⟩ hlt]; exact hg
  have H := Lib.hid (As_errno n ⟨w.heap.size, 0, none⟩ (.int .i64 0) _ hgA (by simp) (by simp))
  clear hg hgA
  go_enter Tryd.func8, Tryd.ntmps8
  go_wp2_with fail
  refine H.out.mono ?_
  rintro e w' ⟨b, rfl, rfl, w1, hb, ho, rfl⟩
  have hc : (w1.setCell ⟨w.heap.size, 0, none⟩ (.int .i64 n)).cell? ⟨w.heap.size, 0, none⟩ = some (.int .i64 n) := World.cell?_setCell_same' w1 _ _ (by rw [ho]; rfl)
  have HB := Lib.hid hb
  clear hb ho H
  go_wp2
  go_ret
  exact ⟨rfl, (((Below.refl _ _).alloc (Nat.le_refl _) _).trans (HB.out.mono (by simp))).setCell (by simp) _⟩
theorem code_nil (w : World) : Calls Tryd.prog 8 #[.nilIface] w fun e w' => e = .returned (.int .i64 0) ∧ Below w.heap.size w w' := by
  go_enter Tryd.func8, Tryd.ntmps8
  go_wp2
  go_ret
  exact ⟨rfl, (Below.refl _ _).alloc (Nat.le_refl _) _⟩
end AsW
end Go.Proofs.YtdpfjoojppmpbaaDoor
namespace Go.Proofs.YtdpfjoojppmpbaaDoor
open Go Sx Go.RowKit
set_option maxRecDepth 100000
namespace AsW
theorem errAt {ow : Own} {w : World} (h : Glob Tryd.prog ow w) : w.cell? ⟨0, 0, none⟩ = some (.iface 63 (.agg #[.pointer (some ⟨1, 27, none⟩)])) := by
  have := globErr h (show Tryd.prog.globalNamed "errors.errorType" = some 0 by kernel_rfl) (show (Tryd.prog.cutTypes.find? (·.1 == "internal/reflectlite.rtype")).map (·.2) = some 63 by kernel_rfl)
    (show (List.range Tryd.prog.types.size).find? (fun t => Tryd.prog.rowNamed t [101, 114, 114, 111, 114]) = some 27 by kernel_rfl)
  rw [this, show typeHandle Tryd.prog 27 = .pointer (some ⟨1, 27, none⟩) by kernel_rfl]
theorem enterCode : Entered Tryd.prog 8 := ⟨Tryd.f8, Tryd.func8, by kernel_rfl, by kernel_rfl⟩
end AsW
theorem code_nil_c : Ctr Tryd.prog 8 [] [.nilif] fun v H => v = .int .i64 (.lit 0) ∧ H = [] := by
  refine Ctr.of_below AsW.enterCode fun w r vals hg hgl hv => ?_
  obtain ⟨x, rfl, hx⟩ := vrelL_one hv
  simp only [VRel] at hx
  subst hx
  exact (AsW.code_nil w).mono fun e w' ⟨h1, h2⟩ => ⟨_, h1, rfl, h2⟩
theorem code_c (n : Iv) : Ctr Tryd.prog 8 [] [.iface 45 (.int .i64 n)] fun v H => v = .int .i64 (.sym n.val) ∧ H = [] := by
  refine Ctr.of_below AsW.enterCode fun w r vals hg hgl hv => ?_
  obtain ⟨x, rfl, hx⟩ := vrelL_one hv
  simp only [VRel] at hx
  obtain ⟨u, rfl, rfl⟩ := hx
  exact (AsW.code_errno n.val w (AsW.errAt hgl)).mono fun e w' ⟨h1, h2⟩ => ⟨_, h1, rfl, h2⟩
end Go.Proofs.YtdpfjoojppmpbaaDoor
namespace Go.Proofs.YtdpfjoojppmpbaaDoor
open Go Sx
set_option maxRecDepth 100000
set_option maxHeartbeats 4000000
/-- The document's put. -/
def RefPutR (i l f : Int) (s : ByteArray) (v : V) (H : Hp) : Prop :=
  (∃ e, putE i l f s = some e ∧ v = .tup [.nilsl, .int .i64 (.sym e)] ∧ H = []) ∨
  (putE i l f s = none ∧ v = .tup [.vec 0 (.sym (6 + s.size)), .int .i64 (.lit 0)] ∧ H = [.cols (.row 1) 5 [.ints .u8 (.sym (putL i l f s))]])
theorem refPut_ctr (i l f : Int) (s : ByteArray) : Ctr Tryd.prog 7 [] [.int .i64 (.sym i), .agg [.str (.sym s), .int .i64 (.sym l), .int .i64 (.sym f)]] (RefPutR i l f s) := by
  obtain ⟨uI, uB, uS, uL, uT, hu⟩ := words
  have hm := mixed
  have hT := tabOk
  obtain ⟨P, hP⟩ : ∃ P, P = Tryd.prog := ⟨_, rfl⟩
  rw [← hP] at hm hT ⊢
  refine Ctr.weak (ctr_of_vc hu hm hT (hP ▸ Tryd.func7) rfl (by kernel_rfl) ?_)
  clear hP hm hT
  generalize hR : Weak _ _ = R
  cbv
  repeat' (first | (intro h; (try subst h); cbv) | (refine And.intro ?_ ?_))
  all_goals
    simp only [hu.b, hu.i, iB, iI, cmpB, Iv.val_sym, Iv.val_lit, Lv.raw, Tv.raw, decide_eq_true_eq, decide_eq_false_iff_not, beq_iff_eq, beq_eq_false_iff_ne, ne_eq, ofN, Int.toNat_zero, Int.toNat_one, Int.reduceToNat, natc, hu.s, iS, Sv.val_lit, Sv.val_sym, true_iff, false_iff, Bool.false_eq_true, bne_iff_ne, bne_eq_false_iff_eq, Bool.not_eq_true', Bool.not_eq_false', Decidable.not_not, nil_toList, ByteArray.size_empty, nilS, not_true_eq_false, not_false_eq_true, hu.l, iL] at *
    try simp only [Int.ofNat_eq_natCast] at *
  all_goals have sb := subL_bytes s
  all_goals have lb := bytesL_length s
  all_goals try (first | omega | (rw [sb]; omega))
  all_goals subst hR
  all_goals first
    | exact Weak.of (.inl ⟨1, by (unfold putE; repeat' split) <;> first | rfl | (exfalso; omega), rfl, rfl⟩) ⟨trivial, ⟨rfl, rfl⟩, trivial⟩ trivial rfl
    | exact Weak.of (.inl ⟨2, by (unfold putE; repeat' split) <;> first | rfl | (exfalso; omega), rfl, rfl⟩) ⟨trivial, ⟨rfl, rfl⟩, trivial⟩ trivial rfl
    | skip
  refine Weak.of (.inr ⟨by (unfold putE; repeat' split) <;> first | rfl | (exfalso; omega), rfl, rfl⟩) ⟨⟨rfl, ?_⟩, ⟨rfl, rfl⟩, trivial⟩ ⟨⟨rfl, rfl, ⟨⟨rfl, ?_⟩, trivial⟩⟩, trivial⟩ rfl
  · simp only [Iv.val_sym, sb, List.length_append, lb, lvals, List.length_cons, List.length_nil]; omega
  · have e1 : ∀ n : Int, IntKind.u8.wrap n = n % 256 := wr_u8
    simp only [Lv.raw, lvals, Iv.val_sym, Iv.val_lit, e1, sb, putL, quo_i64 (x := l) (d := 256) (by omega) (by omega) (by omega), quo_i64 (x := f) (d := 256) (by omega) (by omega) (by omega), rem_nn (k := .i64) (x := l) (d := 256) (by omega), rem_nn (k := .i64) (x := f) (d := 256) (by omega)]
    congr 1
    simp only [List.cons.injEq, and_true, true_and]
    omega
theorem refPut_c (i l f : Iv) (s : Sv) : Ctr Tryd.prog 7 [] [.int .i64 i, .agg [.str s, .int .i64 l, .int .i64 f]] (RefPutR i.val l.val f.val s.val) :=
  (refPut_ctr i.val l.val f.val s.val).conv trivial ⟨⟨rfl, rfl⟩, ⟨rfl, ⟨rfl, rfl⟩, ⟨rfl, rfl⟩, trivial⟩, trivial⟩
/-- The same bytes? -/
theorem same_ctr (xs ys : List Int) (n m : Int) (hn : n = xs.length) (hm0 : m = ys.length) (hb : n ≤ 4611686018427387904) : Ctr Tryd.prog 9 [.cols .ro 5 [.ints .u8 (.sym xs)], .cols .ro 5 [.ints .u8 (.sym ys)]] [.sl 0 (.lit 0) (.sym n), .sl 1 (.lit 0) (.sym m)]
    fun v H => (∃ b : Bool, (b = true ↔ xs = ys) ∧ v = .sbool b) ∧ H = [.cols .ro 5 [.ints .u8 (.sym xs)], .cols .ro 5 [.ints .u8 (.sym ys)]] := by
  have n0 : 0 ≤ n := by omega
  have m0 : 0 ≤ m := by omega
  obtain ⟨uI, uB, uS, uL, uT, hu⟩ := words
  have hm := mixed
  have hT := tabOk
  obtain ⟨P, hP⟩ : ∃ P, P = Tryd.prog := ⟨_, rfl⟩
  rw [← hP] at hm hT ⊢
  refine Ctr.weak (ctr_of_vc hu hm hT (hP ▸ Tryd.func9) rfl (by kernel_rfl) ?_)
  clear hP hm hT
  generalize hR : Weak _ _ = R
  cbv
  repeat' (first | (intro h; (try subst h); cbv) | (refine And.intro ?_ ?_))
  · subst hR
    refine Weak.of ⟨⟨false, ?_, rfl⟩, rfl⟩ rfl ⟨⟨rfl, ⟨rfl, rfl⟩, trivial⟩, ⟨rfl, ⟨rfl, rfl⟩, trivial⟩, trivial⟩ rfl
    simp only [hu.b, hu.i, iB, iI, cmpB, Iv.val_sym, Iv.val_lit, Lv.raw, Tv.raw, decide_eq_true_eq, decide_eq_false_iff_not, beq_iff_eq, beq_eq_false_iff_ne, ne_eq, ofN, Int.toNat_zero, Int.toNat_one, Int.reduceToNat, natc, hu.s, iS, Sv.val_lit, Sv.val_sym, true_iff, false_iff, Bool.false_eq_true, bne_iff_ne, bne_eq_false_iff_eq, Bool.not_eq_true', Bool.not_eq_false', Decidable.not_not, nil_toList, ByteArray.size_empty, nilS, not_true_eq_false, not_false_eq_true] at *
    try simp only [Int.ofNat_eq_natCast] at *
    intro e
    subst e
    omega
  · have hl : n = m := by
      clear hR
      simp only [hu.b, hu.i, iB, iI, cmpB, Iv.val_sym, Iv.val_lit, Lv.raw, Tv.raw, decide_eq_true_eq, decide_eq_false_iff_not, beq_iff_eq, beq_eq_false_iff_ne, ne_eq, ofN, Int.toNat_zero, Int.toNat_one, Int.reduceToNat, natc, hu.s, iS, Sv.val_lit, Sv.val_sym, true_iff, false_iff, Bool.false_eq_true, bne_iff_ne, bne_eq_false_iff_eq, Bool.not_eq_true', Bool.not_eq_false', Decidable.not_not, nil_toList, ByteArray.size_empty, nilS, not_true_eq_false, not_false_eq_true] at *
      try simp only [Int.ofNat_eq_natCast] at *
      exact h
    refine .inv Int [5] (fun i => ([.int .i64 (.sym i)], [.cols .ro 5 [.ints .u8 (.sym xs)], .cols .ro 5 [.ints .u8 (.sym ys)]])) (fun i => 0 ≤ i ∧ i ≤ n ∧ ∀ k : Nat, k < i → xs.getD k 0 = ys.getD k 0) (fun i => (n - i).toNat) 0 (by kernel_rfl) (fun i hi => by kernel_rfl) ?_ ?_
    · refine ⟨⟨by omega, by omega, fun k hk => by omega⟩, ?_, ?_⟩
      · cbv
        repeat' (first | exact trivial | rfl | refine And.intro ?_ ?_)
      · cbv
        repeat' (first | exact trivial | rfl | refine And.intro ?_ ?_)
    · intro i hi
      cbv
      repeat' (first | (intro h; (try subst h); cbv) | (refine And.intro ?_ ?_))
      all_goals
        simp only [hu.b, hu.i, iB, iI, cmpB, Iv.val_sym, Iv.val_lit, Lv.raw, Tv.raw, decide_eq_true_eq, decide_eq_false_iff_not, beq_iff_eq, beq_eq_false_iff_ne, ne_eq, ofN, Int.toNat_zero, Int.toNat_one, Int.reduceToNat, natc, hu.s, iS, Sv.val_lit, Sv.val_sym, true_iff, false_iff, Bool.false_eq_true, bne_iff_ne, bne_eq_false_iff_eq, Bool.not_eq_true', Bool.not_eq_false', Decidable.not_not, nil_toList, ByteArray.size_empty, nilS, not_true_eq_false, not_false_eq_true, hu.l, iL] at *
        try simp only [Int.ofNat_eq_natCast] at *
      all_goals try omega
      · subst hR
        refine Weak.of ⟨⟨false, ?_, rfl⟩, rfl⟩ rfl ⟨⟨rfl, ⟨rfl, rfl⟩, trivial⟩, ⟨rfl, ⟨rfl, rfl⟩, trivial⟩, trivial⟩ rfl
        simp only [false_iff, Bool.false_eq_true]
        intro e
        subst e
        exact h rfl
      · refine ⟨i + 1, ⟨by omega, by omega, fun k hk => ?_⟩, by omega, ⟨⟨rfl, ?_⟩, trivial⟩, ?_⟩
        · by_cases hk' : (k : Int) < i
          · exact hi.2.2 k hk'
          · have e : k = i.toNat := by omega
            subst e; exact h
        · exact add_i64 (by omega) (by omega)
        · cbv
          repeat' (first | exact trivial | rfl | refine And.intro ?_ ?_)
      · subst hR
        refine Weak.of ⟨⟨true, ?_, rfl⟩, rfl⟩ rfl ⟨⟨rfl, ⟨rfl, rfl⟩, trivial⟩, ⟨rfl, ⟨rfl, rfl⟩, trivial⟩, trivial⟩ rfl
        simp only [true_iff]
        exact list_eq_of_get (by omega) (fun k hk => hi.2.2 k (by omega))
/-- .. as it is taken. -/
theorem same_c (xs ys : Lv) (n m : Iv) (hn : n.val = xs.raw.length) (hm : m.val = ys.raw.length) (hb : n.val ≤ 4611686018427387904) : Ctr Tryd.prog 9 [.cols .ro 5 [.ints .u8 xs], .cols .ro 5 [.ints .u8 ys]] [.sl 0 (.lit 0) n, .sl 1 (.lit 0) m]
    fun v H => ∃ b : Bool, (b = true ↔ xs.raw = ys.raw) ∧ v = .sbool b ∧ H = [.cols .ro 5 [.ints .u8 (.sym xs.raw)], .cols .ro 5 [.ints .u8 (.sym ys.raw)]] :=
  Ctr.mono (Ctr.conv (E1 := [.cols .ro 5 [.ints .u8 xs], .cols .ro 5 [.ints .u8 ys]]) (args1 := [.sl 0 (.lit 0) n, .sl 1 (.lit 0) m]) (same_ctr xs.raw ys.raw n.val m.val hn hm hb) ⟨⟨⟨rfl, ⟨rfl, rfl⟩, trivial⟩, rfl⟩, ⟨⟨rfl, ⟨rfl, rfl⟩, trivial⟩, rfl⟩, trivial⟩ ⟨⟨rfl, rfl, rfl⟩, ⟨rfl, rfl, rfl⟩, trivial⟩)
    fun v H ⟨⟨b, h1, h2⟩, h3⟩ => ⟨b, h1, h2, h3⟩
theorem same_nil_c : Ctr Tryd.prog 9 [] [.nilsl, .nilsl] fun v H => v = .bool true ∧ H = [] := by
  obtain ⟨uI, uB, uS, uL, uT, hu⟩ := words
  have hm := mixed
  have hT := tabOk
  obtain ⟨P, hP⟩ : ∃ P, P = Tryd.prog := ⟨_, rfl⟩
  rw [← hP] at hm hT ⊢
  refine Ctr.weak (ctr_of_vc hu hm hT (hP ▸ Tryd.func9) rfl (by kernel_rfl) ?_)
  clear hP hm hT
  generalize hR : Weak _ _ = R
  cbv
  repeat' (first | (intro h; (try subst h); cbv) | (refine And.intro ?_ ?_))
  refine .unroll 1 ?_
  cbv
  repeat' (first | (intro h; (try subst h); cbv) | (refine And.intro ?_ ?_))
  subst hR
  exact Weak.of ⟨rfl, rfl⟩ rfl trivial rfl
theorem same_nil1_ctr (ys : List Int) (m : Int) (h1 : 0 < m) : Ctr Tryd.prog 9 [.cols .ro 5 [.ints .u8 (.sym ys)]] [.nilsl, .sl 0 (.lit 0) (.sym m)] fun v H => v = .bool false ∧ H = [.cols .ro 5 [.ints .u8 (.sym ys)]] := by
  obtain ⟨uI, uB, uS, uL, uT, hu⟩ := words
  have hm := mixed
  have hT := tabOk
  obtain ⟨P, hP⟩ : ∃ P, P = Tryd.prog := ⟨_, rfl⟩
  rw [← hP] at hm hT ⊢
  refine Ctr.weak (ctr_of_vc hu hm hT (hP ▸ Tryd.func9) rfl (by kernel_rfl) ?_)
  clear hP hm hT
  generalize hR : Weak _ _ = R
  cbv
  repeat' (first | (intro h; (try subst h); cbv) | (refine And.intro ?_ ?_))
  · subst hR
    exact Weak.of ⟨rfl, rfl⟩ rfl ⟨⟨rfl, ⟨rfl, rfl⟩, trivial⟩, trivial⟩ rfl
  · exfalso
    clear hR
    simp only [hu.b, hu.i, iB, iI, cmpB, Iv.val_sym, Iv.val_lit, Lv.raw, Tv.raw, decide_eq_true_eq, decide_eq_false_iff_not, beq_iff_eq, beq_eq_false_iff_ne, ne_eq, ofN, Int.toNat_zero, Int.toNat_one, Int.reduceToNat, natc, hu.s, iS, Sv.val_lit, Sv.val_sym, true_iff, false_iff, Bool.false_eq_true, bne_iff_ne, bne_eq_false_iff_eq, Bool.not_eq_true', Bool.not_eq_false', Decidable.not_not, nil_toList, ByteArray.size_empty, nilS, not_true_eq_false, not_false_eq_true] at *
    try simp only [Int.ofNat_eq_natCast] at *
    omega
theorem same_nil1_c (ys : Lv) (m : Iv) (h1 : 0 < m.val) : Ctr Tryd.prog 9 [.cols .ro 5 [.ints .u8 ys]] [.nilsl, .sl 0 (.lit 0) m] fun v H => v = .bool false ∧ H = [.cols .ro 5 [.ints .u8 (.sym ys.raw)]] :=
  Ctr.conv (same_nil1_ctr ys.raw m.val h1) ⟨⟨⟨rfl, ⟨rfl, rfl⟩, trivial⟩, rfl⟩, trivial⟩ ⟨trivial, ⟨rfl, rfl, rfl⟩, trivial⟩
end Go.Proofs.YtdpfjoojppmpbaaDoor
namespace Go.Proofs.YtdpfjoojppmpbaaDoor
open Go Sx
set_option maxRecDepth 100000
set_option maxHeartbeats 4000000
theorem putL_bytes {i l f : Int} {s : ByteArray} (h : putE i l f s = none) : (putL i l f s).length = 6 + s.size := by
  simp [putL, bytesL_length]; omega
/-! What comes back, as variables. -/
theorem put_v (i l f : Iv) (s : Sv) : Ctr Tryd.prog 6 [] [.int .i64 i, .agg [.str s, .int .i64 l, .int .i64 f]] fun v H => (∃ e, putE i.val l.val f.val s.val = some e ∧ v = .tup [.nilsl, .iface 45 (.int .i64 (.sym e))] ∧ H = []) ∨
    (putE i.val l.val f.val s.val = none ∧ ∃ (n : Int) (xs : List Int), n = 6 + s.val.size ∧ xs = putL i.val l.val f.val s.val ∧ v = .tup [.vec 0 (.sym n), .nilif] ∧ H = [.cols (.row 1) 5 [.ints .u8 (.sym xs)]]) :=
  (put_c i l f s).mono fun v H h => h.imp id fun ⟨a, b, c⟩ => ⟨a, _, _, rfl, rfl, b, c⟩
theorem refPut_v (i l f : Iv) (s : Sv) : Ctr Tryd.prog 7 [] [.int .i64 i, .agg [.str s, .int .i64 l, .int .i64 f]] fun v H => (∃ e, putE i.val l.val f.val s.val = some e ∧ v = .tup [.nilsl, .int .i64 (.sym e)] ∧ H = []) ∨
    (putE i.val l.val f.val s.val = none ∧ ∃ (n : Int) (xs : List Int), n = 6 + s.val.size ∧ xs = putL i.val l.val f.val s.val ∧ v = .tup [.vec 0 (.sym n), .int .i64 (.lit 0)] ∧ H = [.cols (.row 1) 5 [.ints .u8 (.sym xs)]]) :=
  (refPut_c i l f s).mono fun v H h => h.imp id fun ⟨a, b, c⟩ => ⟨a, _, _, rfl, rfl, b, c⟩
theorem puts_ctr (i l f kind : Int) (s : ByteArray) : Ctr Tryd.prog 3 [] [.int .i64 (.sym i), .agg [.str (.sym s), .int .i64 (.sym l), .int .i64 (.sym f)], .int .i64 (.sym kind)] fun v H => v = .bool true := by
  have l0 : ∀ xs : List Int, xs = putL i l f s → (xs.length : Int) = 6 + s.size := fun xs h => by rw [h]; simp [putL, bytesL_length]; omega
  obtain ⟨uI, uB, uS, uL, uT, hu⟩ := words
  have hm := mixed
  have hT := tabOk
  have h6 := @awake_ctr
  have hPu := @put_v
  have hR0 := @refPut_v
  have hC := @code_c
  have hC0 := @code_nil_c
  have hS := @same_c
  have hS0 := @same_nil_c
  have hS1 := @same_nil1_c
  have hM := @mark_c
  obtain ⟨P, hP⟩ : ∃ P, P = Tryd.prog := ⟨_, rfl⟩
  rw [← hP] at hm hT h6 hPu hR0 hC hC0 hS hS0 hS1 hM ⊢
  refine Ctr.weak (ctr_of_vc hu hm hT (hP ▸ Tryd.func3) rfl (by kernel_rfl) ?_)
  clear hP hm hT
  generalize hR : Weak _ _ = R
  cbv
  repeat' (first | (intro h; (try subst h); cbv) | (refine And.intro ?_ ?_) | (refine CallVC.mk (Ctr.mono (h6) ?_); rintro v H ⟨rfl, rfl⟩ <;> cbv) | (refine CallVC.mk (Ctr.mono (hPu _ _ _ _) ?_); rintro v H (⟨e, he1, rfl, rfl⟩ | ⟨he1, n, xs, hn, hx, rfl, rfl⟩) <;> cbv) | (refine CallVC.mk (Ctr.mono (hR0 _ _ _ _) ?_); rintro v H (⟨e, he2, rfl, rfl⟩ | ⟨he2, m, ys, hm, hy, rfl, rfl⟩) <;> ((rw [he1] at he2; cases he2)) <;> cbv) | (refine CallVC.mk (Ctr.mono (hC _) ?_); rintro v H ⟨rfl, rfl⟩ <;> cbv) | (refine CallVC.mk (Ctr.mono (hC0) ?_); rintro v H ⟨rfl, rfl⟩ <;> cbv) | (refine CallVC.mk (Ctr.mono (hS0) ?_); rintro v H ⟨rfl, rfl⟩ <;> cbv) | (refine CallVC.mk (Ctr.mono (hS _ _ _ _ (by first | rfl | (simp only [Iv.val_sym, Lv.raw]; rw [hn]; exact (l0 _ hx).symm)) (by first | rfl | (simp only [Iv.val_sym, Lv.raw]; rw [hm]; exact (l0 _ hy).symm)) (by first | decide | (have h' := h; rw [hu.b] at h'; simp only [iB, cmpB, hu.i, iI, Iv.val_sym, Iv.val_lit, decide_eq_false_iff_not, ofN] at h'; simp only [Iv.val_sym]; rw [hn]; show (6 : Int) + s.size ≤ _; omega))) ?_); rintro v H ⟨b, hb, rfl, rfl⟩ <;> cbv) | (refine CallVC.mk (Ctr.mono (hM _ _) ?_); rintro v H (⟨hf, rfl, rfl⟩ | ⟨hf, rfl, rfl⟩) <;> cbv))
  all_goals clear h6 hPu hR0 hC hC0 hS hS0 hS1 hM
  all_goals try (subst hR; exact Weak.law (by rfl) (by rfl))
  all_goals clear hR
  all_goals
    simp only [hu.b, hu.i, iB, iI, cmpB, Iv.val_sym, Iv.val_lit, Lv.raw, Tv.raw, decide_eq_true_eq, decide_eq_false_iff_not, beq_iff_eq, beq_eq_false_iff_ne, ne_eq, ofN, Int.toNat_zero, Int.toNat_one, Int.reduceToNat, natc, hu.s, iS, Sv.val_lit, Sv.val_sym, true_iff, false_iff, Bool.false_eq_true, bne_iff_ne, bne_eq_false_iff_eq, Bool.not_eq_true', Bool.not_eq_false', Decidable.not_not, nil_toList, ByteArray.size_empty, nilS, not_true_eq_false, not_false_eq_true, hu.l, iL] at *
    try simp only [Int.ofNat_eq_natCast] at *
  all_goals try omega
  all_goals try rfl
  all_goals try (first | (rw [hn]; exact (l0 _ hx).symm) | (rw [hm]; exact (l0 _ hy).symm) | (exact absurd (hx.trans hy.symm) hb))
  all_goals
    exfalso
    refine hb ?_
    have e1 : ∀ x : Int, 0 ≤ x ∧ x < 256 → IntKind.u8.wrap x = x := fun x hx => by rw [wr_u8]; omega
    simp only [lvals, Iv.val_sym]
    rw [e1 kind (by omega), e1 i (by omega)]
end Go.Proofs.YtdpfjoojppmpbaaDoor
namespace Go.Proofs.YtdpfjoojppmpbaaDoor
open Go Sx
set_option maxRecDepth 100000
set_option maxHeartbeats 4000000
/-- A table whose fifth slot alone is taken, with a limit and so many failures. -/
structure T5 (ts : List ByteArray) (ls fs : List Int) (l i : Int) : Prop where
  nt : ts.length = 8
  nl : ls.length = 8
  nf : fs.length = 8
  s5 : (ts.getD 5 ByteArray.empty).size ≠ 0
  so : ∀ k : Nat, k < 5 → (ts.getD k ByteArray.empty).size = 0
  l5 : ls.getD 5 0 = l
  f5 : fs.getD 5 0 = i
theorem e8 : ∀ k : Nat, ([ByteArray.empty, ByteArray.empty, ByteArray.empty, ByteArray.empty, ByteArray.empty, ByteArray.empty, ByteArray.empty, ByteArray.empty].getD k ByteArray.empty) = ByteArray.empty := by
  intro k
  match k with
  | 0 | 1 | 2 | 3 | 4 | 5 | 6 | 7 => rfl
  | n + 8 => rfl
/-- The put into an empty table. -/
theorem apply_put (xs : Lv) (n : Iv) (l : Int) (ts : Tv) (ls fs : Lv) (hts : ts.raw = [⟨#[]⟩, ⟨#[]⟩, ⟨#[]⟩, ⟨#[]⟩, ⟨#[]⟩, ⟨#[]⟩, ⟨#[]⟩, ⟨#[]⟩]) (hls : ls.raw = [0, 0, 0, 0, 0, 0, 0, 0]) (hfs : fs.raw = [0, 0, 0, 0, 0, 0, 0, 0])
    (hx : xs.raw = [1, 5, l / 256, l % 256, 0, 0, 107]) (hn : n.val = 7) (hl : 0 ≤ l ∧ l < 65536) :
    Ctr Tryd.prog 11 [.cols .ro 5 [.ints .u8 xs]] [.cols 24 [.strs ts, .ints .i64 ls, .ints .i64 fs], .sl 0 (.lit 0) n] fun v H => (∃ ta tl tf, T5 ta tl tf l 0 ∧ v = .tup [.cols 24 [.strs (.sym ta), .ints .i64 (.sym tl), .ints .i64 (.sym tf)], .nilif]) ∧ H = [.cols .ro 5 [.ints .u8 (.sym xs.raw)]] := by
  have hb : Bytes xs.raw := by
    rw [hx]
    intro x h
    simp only [List.mem_cons, List.not_mem_nil, or_false] at h
    omega
  refine Ctr.mono (apply_c ts ls fs xs n (by rw [hx, hn]; rfl) (by rw [hts]; rfl) (by rw [hls]; rfl) (by rw [hfs]; rfl) hb) ?_
  have ha : applyS ts.raw ls.raw fs.raw xs.raw = ((ts.raw.set 5 (strL [107]), ls.raw.set 5 (256 * (l / 256) + l % 256), fs.raw.set 5 0), none) := by
    rw [hx]
    unfold applyS
    simp
  rintro v H ⟨(⟨⟨ta, tl, tf⟩, h, rfl⟩ | ⟨e, h, rfl⟩), rfl⟩
  · rw [ha] at h
    simp only [Prod.mk.injEq, and_true] at h
    obtain ⟨rfl, rfl, rfl⟩ := h
    refine ⟨⟨_, _, _, ⟨by simp [hts], by simp [hls], by simp [hfs], ?_, fun k hk => ?_, ?_, ?_⟩, rfl⟩, rfl⟩
    · rw [hts, lgetD_set_eq _ _ _ (by decide)]; decide +kernel
    · rw [hts, lgetD_set_ne _ _ _ (by omega)]
      match k with
      | 0 | 1 | 2 | 3 | 4 => rfl
    · rw [hls, lgetD_set_eq _ _ _ (by decide)]; omega
    · rw [hfs, lgetD_set_eq _ _ _ (by decide)]
  · rw [ha] at h; simp at h
/-- A mark. -/
theorem apply_mark (xs : Lv) (n : Iv) (l i k : Int) (ts : Tv) (ls fs : Lv) (h5 : T5 ts.raw ls.raw fs.raw l i) (hk : k = 3 ∨ k = 4) (hx : xs.raw = [k, 5]) (hn : n.val = 2) (hi : 0 ≤ i ∧ i < 65535) :
    Ctr Tryd.prog 11 [.cols .ro 5 [.ints .u8 xs]] [.cols 24 [.strs ts, .ints .i64 ls, .ints .i64 fs], .sl 0 (.lit 0) n] fun v H => (∃ tf, T5 ts.raw ls.raw tf l (if k = 3 then i + 1 else 0) ∧ v = .tup [.cols 24 [.strs (.sym ts.raw), .ints .i64 (.sym ls.raw), .ints .i64 (.sym tf)], .nilif]) ∧ H = [.cols .ro 5 [.ints .u8 (.sym xs.raw)]] := by
  have hb : Bytes xs.raw := by
    rw [hx]
    intro x h
    simp only [List.mem_cons, List.not_mem_nil, or_false] at h
    omega
  refine Ctr.mono (apply_c ts ls fs xs n (by rw [hx, hn]; rfl) h5.nt h5.nl h5.nf hb) ?_
  have hne : ¬ (ts.raw.getD 5 ByteArray.empty).toList = [] := fun e => h5.s5 (nil_toList.1 e)
  have hf5 := h5.f5
  have ha : applyS ts.raw ls.raw fs.raw xs.raw = ((ts.raw, ls.raw, fs.raw.set 5 (if k = 3 then i + 1 else 0)), none) := by
    rw [hx]
    unfold applyS
    have w1 : IntKind.i64.wrap (i + 1) = i + 1 := wr_i64 _ (by omega) (by omega)
    have e0 : ([k, 5] : List Int).getD 0 0 = k := rfl
    have e1 : ([k, 5] : List Int).getD 1 0 = 5 := rfl
    have e2 : ([k, 5] : List Int).length = 2 := rfl
    have e5 : (5 : Int).toNat = 5 := rfl
    simp only [e0, e1, e2, e5, hf5]
    rw [w1]
    repeat' split
    all_goals first
      | rfl
      | (exfalso; omega)
      | (exfalso; simp_all; done)
  rintro v H ⟨(⟨⟨ta, tl, tf⟩, h, rfl⟩ | ⟨e, h, rfl⟩), rfl⟩
  · rw [ha] at h
    simp only [Prod.mk.injEq, and_true] at h
    obtain ⟨rfl, rfl, rfl⟩ := h
    exact ⟨⟨_, ⟨h5.nt, h5.nl, by simp [h5.nf], h5.s5, h5.so, h5.l5, lgetD_set_eq _ _ _ (by have := h5.nf; omega)⟩, rfl⟩, rfl⟩
  · rw [ha] at h; simp at h
theorem locked5 (l i : Int) (ts : Tv) (ls fs : Lv) (h5 : T5 ts.raw ls.raw fs.raw l i) :
    Ctr Tryd.prog 12 [] [.cols 24 [.strs ts, .ints .i64 ls, .ints .i64 fs], .int .i64 (.lit 5)] fun v H => ∃ b : Bool, (b = true ↔ 0 < l ∧ l ≤ i) ∧ v = .tup [.sbool b, .nilif] ∧ H = [] := by
  refine Ctr.mono (locked_c ts ls fs (.lit 5) h5.nt h5.nl h5.nf) ?_
  rintro v H ⟨(⟨h, _⟩ | ⟨_, h, _⟩ | ⟨_, _, c, hc, rfl⟩), rfl⟩
  · exact absurd (by simp) h
  · exact absurd h h5.s5
  · refine ⟨c, ?_, rfl, rfl⟩
    rw [hc, ← h5.l5, ← h5.f5]; rfl
theorem lockedO (l i : Int) (ts : Tv) (ls fs : Lv) (k : Iv) (h5 : T5 ts.raw ls.raw fs.raw l i) (hk : 0 ≤ k.val ∧ k.val < 5) :
    Ctr Tryd.prog 12 [] [.cols 24 [.strs ts, .ints .i64 ls, .ints .i64 fs], .int .i64 k] fun v H => v = .tup [.bool false, .iface 45 (.int .i64 (.sym 8))] ∧ H = [] := by
  refine Ctr.mono (locked_c ts ls fs k h5.nt h5.nl h5.nf) ?_
  rintro v H ⟨(⟨h, _⟩ | ⟨_, _, rfl⟩ | ⟨_, h, _⟩), rfl⟩
  · exact absurd (by omega) h
  · exact ⟨rfl, rfl⟩
  · exact absurd (h5.so k.val.toNat (by omega)) h
theorem put5 (l : Iv) (hl : 0 ≤ l.val ∧ l.val < 50) : Ctr Tryd.prog 6 [] [.int .i64 (.lit 5), .agg [.str (.lit [107]), .int .i64 l, .int .i64 (.lit 0)]] fun v H => ∃ (n : Int) (xs : List Int), n = 7 ∧ xs = [1, 5, l.val / 256, l.val % 256, 0, 0, 107] ∧ v = .tup [.vec 0 (.sym n), .nilif] ∧ H = [.cols (.row 1) 5 [.ints .u8 (.sym xs)]] := by
  refine Ctr.mono (put_v (.lit 5) l (.lit 0) (.lit [107])) ?_
  rintro v H (⟨e, h, _⟩ | ⟨_, n, xs, hn, hx, rfl, rfl⟩)
  · exfalso
    unfold putE at h
    rw [if_neg (by simp only [Iv.val_lit]; omega), if_neg (by decide +kernel)] at h
    cases h
  · exact ⟨n, xs, hn, hx, rfl, rfl⟩
end Go.Proofs.YtdpfjoojppmpbaaDoor
namespace Go.Proofs.YtdpfjoojppmpbaaDoor
open Go Sx
set_option maxRecDepth 100000
set_option maxHeartbeats 4000000
theorem locks_ctr (limit more other : Int) (h1 : 0 ≤ limit ∧ limit < 65536) (h2 : 0 ≤ more ∧ more < 256) (h3 : 0 ≤ other ∧ other < 256) : Ctr Tryd.prog 4 [] [.int .u16 (.sym limit), .int .u8 (.sym more), .int .u8 (.sym other)] fun v H => v = .bool true := by
  have r1 : binI .rem .u16 limit 50 = limit % 50 := rem_nn h1.1
  have r2 : binI .rem .u8 more 5 = more % 5 := rem_nn h2.1
  have r3 : binI .rem .u8 other 5 = other % 5 := rem_nn h3.1
  obtain ⟨uI, uB, uS, uL, uT, hu⟩ := words
  have hm := mixed
  have hT := tabOk
  have h6 := @awake_ctr
  have hPu := @put5
  have hA := @apply_put
  have hB := @apply_mark
  have hL := @locked5
  have hO := @lockedO
  have hC := @code_c
  have hM := @mark_y
  obtain ⟨P, hP⟩ : ∃ P, P = Tryd.prog := ⟨_, rfl⟩
  rw [← hP] at hm hT h6 hPu hA hB hL hO hC hM ⊢
  refine Ctr.weak (ctr_of_vc hu hm hT (hP ▸ Tryd.func4) rfl (by kernel_rfl) ?_)
  clear hP hm hT
  generalize hR : Weak _ _ = R
  cbv
  repeat' (first | (intro h; (try subst h); cbv) | (refine And.intro ?_ ?_) | (refine CallVC.mk (Ctr.mono (hPu _ (by simp only [Iv.val_sym, hu.i, iI, Iv.val_lit, ofN]; rw [r1, wr_i64 _ (by omega) (by omega)]; omega)) ?_); rintro v H ⟨n, xs, hn, hx, rfl, rfl⟩ <;> cbv) | (refine CallVC.mk (Ctr.mono (h6) ?_); rintro v H ⟨rfl, rfl⟩ <;> cbv) | (refine CallVC.mk (Ctr.mono (hM _ _ (by decide +kernel)) ?_); rintro v H ⟨rfl, rfl⟩ <;> cbv) | (refine CallVC.mk (Ctr.mono (hA _ _ (limit % 50) _ _ _ (by rfl) (by rfl) (by rfl) (by simp only [Lv.raw]; rw [hx]; simp only [Iv.val_sym, hu.i, iI, Iv.val_lit, ofN]; rw [r1, wr_i64 (limit % 50) (by omega) (by omega)]) (by simp only [Iv.val_sym]; exact hn) (by omega)) ?_); rintro v H ⟨⟨ta, tl, tf, h5, rfl⟩, rfl⟩ <;> cbv))
  · clear hR
    simp only [hu.b, hu.i, iB, iI, cmpB, Iv.val_sym, Iv.val_lit, Lv.raw, Tv.raw, decide_eq_true_eq, decide_eq_false_iff_not, beq_iff_eq, beq_eq_false_iff_ne, ne_eq, ofN, Int.toNat_zero, Int.toNat_one, Int.reduceToNat, natc, hu.s, iS, Sv.val_lit, Sv.val_sym, true_iff, false_iff, Bool.false_eq_true, bne_iff_ne, bne_eq_false_iff_eq, Bool.not_eq_true', Bool.not_eq_false', Decidable.not_not, nil_toList, ByteArray.size_empty, nilS, not_true_eq_false, not_false_eq_true] at *
    try simp only [Int.ofNat_eq_natCast] at *
    rw [hn, hx]; rfl
  · clear hA hPu hM h6
    obtain ⟨q, hq⟩ : ∃ q, q = limit % 50 := ⟨_, rfl⟩
    obtain ⟨p, hp⟩ : ∃ p, p = more % 5 := ⟨_, rfl⟩
    rw [← hq] at h5 r1
    rw [← hp] at r2
    refine .inv2 Int (List Int) [16] (fun i tg => ([.int .i64 (.sym i)], [.cols (.row 1) 5 [.ints .u8 (.sym xs)], .cols .var 38 [.strs (.sym ta), .ints .i64 (.sym tl), .ints .i64 (.sym tg)], .cols (.row 1) 5 [.ints .u8 (.sym [3, 5])], .cols (.row 1) 5 [.ints .u8 (.sym [4, 5])]]))
      (fun i tg => 0 ≤ i ∧ i ≤ q + p ∧ T5 ta tl tg q i) (fun i tg => (q + p - i).toNat) 0 tf (by kernel_rfl) (fun i tg hi => by kernel_rfl) ?_ ?_
    · refine ⟨⟨by omega, by omega, h5⟩, ?_, ?_⟩
      · cbv
        repeat' (first | exact trivial | rfl | refine And.intro ?_ ?_)
      · cbv
        repeat' (first | exact trivial | rfl | refine And.intro ?_ ?_)
    · intro i tg hi
      have hi1 := hi.1
      have hi2 := hi.2.1
      have h5' := hi.2.2
      clear hi
      have q0 : 0 ≤ q ∧ q < 50 := by omega
      have p0 : 0 ≤ p ∧ p < 5 := by omega
      have wq : IntKind.i64.wrap q = q := wr_i64 _ (by omega) (by omega)
      have wp : IntKind.i64.wrap p = p := wr_i64 _ (by omega) (by omega)
      have wqp : binI .add .i64 q p = q + p := add_i64 (by omega) (by omega)
      have wi : binI .add .i64 i 1 = i + 1 := add_i64 (by omega) (by omega)
      cbv
      repeat' (first | (intro h; (try subst h); cbv) | (refine And.intro ?_ ?_) | (refine CallVC.mk (Ctr.mono (hL q _ _ _ _ h5') ?_); rintro v H ⟨b, hb, rfl, rfl⟩ <;> cbv) | (refine CallVC.mk (Ctr.mono (hB _ _ q i 3 _ _ _ h5' (.inl rfl) (by rfl) (by rfl) (by omega)) ?_); rintro v H ⟨⟨th, h6, rfl⟩, rfl⟩ <;> cbv) | (refine CallVC.mk (Ctr.mono (hB _ _ q i 4 _ _ _ h5' (.inr rfl) (by rfl) (by rfl) (by omega)) ?_); rintro v H ⟨⟨th, h6, rfl⟩, rfl⟩ <;> cbv) | (refine CallVC.mk (Ctr.mono (hL q _ _ _ _ h6) ?_); rintro v H ⟨c, hc, rfl, rfl⟩ <;> cbv) | (refine CallVC.mk (Ctr.mono (hO q _ _ _ _ _ h5' (by simp only [Iv.val_sym, hu.i, iI, Iv.val_lit, ofN]; rw [r3, wr_i64 _ (by omega) (by omega)]; omega)) ?_); rintro v H ⟨rfl, rfl⟩ <;> cbv) | (refine CallVC.mk (Ctr.mono (hC _) ?_); rintro v H ⟨rfl, rfl⟩ <;> cbv))
      all_goals clear hL hO hC hB
      all_goals clear hx hn h5
      all_goals try (subst hR; exact Weak.law (by rfl) (by rfl))
      all_goals
        simp only [hu.b, hu.i, iB, iI, cmpB, Iv.val_sym, Iv.val_lit, Lv.raw, Tv.raw, decide_eq_true_eq, decide_eq_false_iff_not, beq_iff_eq, beq_eq_false_iff_ne, ne_eq, ofN, Int.toNat_zero, Int.toNat_one, Int.reduceToNat, natc, hu.s, iS, Sv.val_lit, Sv.val_sym, true_iff, false_iff, Bool.false_eq_true, bne_iff_ne, bne_eq_false_iff_eq, Bool.not_eq_true', Bool.not_eq_false', Decidable.not_not, nil_toList, ByteArray.size_empty, nilS, not_true_eq_false, not_false_eq_true, hu.l, iL, r1, r2, wq, wp, wqp, wi] at *
        try simp only [Int.ofNat_eq_natCast] at *
      all_goals try omega
      all_goals try rfl
      all_goals
        simp only [if_true] at h6
        refine ⟨(i + 1, th), ⟨by show 0 ≤ i + 1; omega, by show i + 1 ≤ q + p; omega, h6⟩, by show (q + p - (i + 1)).toNat < (q + p - i).toNat; omega, ?_, ?_⟩
        · cbv
          repeat' (first | exact trivial | rfl | refine And.intro ?_ ?_)
        · cbv
          repeat' (first | exact trivial | rfl | refine And.intro ?_ ?_)
end Go.Proofs.YtdpfjoojppmpbaaDoor
