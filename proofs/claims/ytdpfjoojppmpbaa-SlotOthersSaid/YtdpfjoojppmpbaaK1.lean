import Derived.Test.YtdpfjoojppmpbaaSx2
import Derived.KernelRfl
import Derived.Test.YtdpfjoojppmpbaaProg
import Derived.Test.YtdpfjoojppmpbaaRows
import Derived.Test.YtdpfjoojppmpbaaSx3
set_option linter.all false
set_option linter.unusedSectionVars false
namespace Go.Proofs.Ytdpfjoojppmpbaa
open Go Sx
set_option maxRecDepth 100000
def tab : TypeId → Option TyI
  | 2 => some ⟨.int .i64, 1, 8, [.int .i64 0], [], []⟩
  | 3 => some ⟨.int .i64, 1, 8, [.int .i64 0], [], []⟩
  | 4 => some ⟨.bool, 1, 1, [.bool false], [], []⟩
  | 5 => some ⟨.int .u8, 1, 1, [.int .u8 0], [], []⟩
  | 9 => some ⟨.str, 1, 16, [.string ⟨#[]⟩], [], []⟩
  | 12 => some ⟨.int .u64, 1, 8, [.int .u64 0], [], []⟩
  | 13 => some ⟨.struct [(0, 9), (1, 12)], 2, 24, [.string ⟨#[]⟩, .int .u64 0], [], []⟩
  | 20 => some ⟨.iface, 1, 16, [.nilIface], [], []⟩
  | 21 => some ⟨.int .i32, 1, 4, [.int .i32 0], [], []⟩
  | 22 => some ⟨.struct [(0, 9), (1, 3), (2, 3)], 3, 32, [.string ⟨#[]⟩, .int .i64 0, .int .i64 0], [], [.str, .int .i64, .int .i64]⟩
  | 23 => some ⟨.struct [(0, 9), (1, 3), (2, 3)], 3, 32, [.string ⟨#[]⟩, .int .i64 0, .int .i64 0], [], [.str, .int .i64, .int .i64]⟩
  | 24 => some ⟨.arr 8 23, 24, 256, [.string ⟨#[]⟩, .int .i64 0, .int .i64 0, .string ⟨#[]⟩, .int .i64 0, .int .i64 0, .string ⟨#[]⟩, .int .i64 0, .int .i64 0, .string ⟨#[]⟩, .int .i64 0, .int .i64 0, .string ⟨#[]⟩, .int .i64 0, .int .i64 0, .string ⟨#[]⟩, .int .i64 0, .int .i64 0, .string ⟨#[]⟩, .int .i64 0, .int .i64 0, .string ⟨#[]⟩, .int .i64 0, .int .i64 0], [.str, .int .i64, .int .i64], [.str, .int .i64, .int .i64, .str, .int .i64, .int .i64, .str, .int .i64, .int .i64, .str, .int .i64, .int .i64, .str, .int .i64, .int .i64, .str, .int .i64, .int .i64, .str, .int .i64, .int .i64, .str, .int .i64, .int .i64]⟩
  | 25 => some ⟨.arr 8 23, 24, 256, [.string ⟨#[]⟩, .int .i64 0, .int .i64 0, .string ⟨#[]⟩, .int .i64 0, .int .i64 0, .string ⟨#[]⟩, .int .i64 0, .int .i64 0, .string ⟨#[]⟩, .int .i64 0, .int .i64 0, .string ⟨#[]⟩, .int .i64 0, .int .i64 0, .string ⟨#[]⟩, .int .i64 0, .int .i64 0, .string ⟨#[]⟩, .int .i64 0, .int .i64 0, .string ⟨#[]⟩, .int .i64 0, .int .i64 0], [.str, .int .i64, .int .i64], [.str, .int .i64, .int .i64, .str, .int .i64, .int .i64, .str, .int .i64, .int .i64, .str, .int .i64, .int .i64, .str, .int .i64, .int .i64, .str, .int .i64, .int .i64, .str, .int .i64, .int .i64, .str, .int .i64, .int .i64]⟩
  | 26 => some ⟨.slice 5, 1, 24, [.slice none 0 0], [], []⟩
  | 29 => some ⟨.iface, 1, 16, [.nilIface], [], []⟩
  | 30 => some ⟨.iface, 1, 16, [.nilIface], [], []⟩
  | 34 => some ⟨.slice 26, 1, 24, [.slice none 0 0], [], []⟩
  | 44 => some ⟨.int .i64, 1, 8, [.int .i64 0], [], []⟩
  | 46 => some ⟨.int .u64, 1, 8, [.int .u64 0], [], []⟩
  | 56 => some ⟨.int .u32, 1, 4, [.int .u32 0], [], []⟩
  | 60 => some ⟨.ptr 5, 1, 8, [.pointer none], [], []⟩
  | _ => none
theorem ty2 : TyOk Try.prog 2 ⟨.int .i64, 1, 8, [.int .i64 0], [], []⟩ :=
  TyOk.mk' (by kernel_rfl) (by kernel_rfl) (by kernel_rfl) ((by kernel_rfl : Try.prog.underlying 2 = _)) (fun h => absurd rfl h)
theorem ty3 : TyOk Try.prog 3 ⟨.int .i64, 1, 8, [.int .i64 0], [], []⟩ :=
  TyOk.mk' (by kernel_rfl) (by kernel_rfl) (by kernel_rfl) ((by kernel_rfl : Try.prog.underlying 3 = _)) (fun h => absurd rfl h)
theorem ty4 : TyOk Try.prog 4 ⟨.bool, 1, 1, [.bool false], [], []⟩ :=
  TyOk.mk' (by kernel_rfl) (by kernel_rfl) (by kernel_rfl) ((by kernel_rfl : Try.prog.underlying 4 = _)) (fun h => absurd rfl h)
theorem ty5 : TyOk Try.prog 5 ⟨.int .u8, 1, 1, [.int .u8 0], [], []⟩ :=
  TyOk.mk' (by kernel_rfl) (by kernel_rfl) (by kernel_rfl) ((by kernel_rfl : Try.prog.underlying 5 = _)) (fun h => absurd rfl h)
theorem ty9 : TyOk Try.prog 9 ⟨.str, 1, 16, [.string ⟨#[]⟩], [], []⟩ :=
  TyOk.mk' (by kernel_rfl) (by kernel_rfl) (by kernel_rfl) ((by kernel_rfl : Try.prog.underlying 9 = _)) (fun h => absurd rfl h)
theorem ty12 : TyOk Try.prog 12 ⟨.int .u64, 1, 8, [.int .u64 0], [], []⟩ :=
  TyOk.mk' (by kernel_rfl) (by kernel_rfl) (by kernel_rfl) ((by kernel_rfl : Try.prog.underlying 12 = _)) (fun h => absurd rfl h)
theorem ty13 : TyOk Try.prog 13 ⟨.struct [(0, 9), (1, 12)], 2, 24, [.string ⟨#[]⟩, .int .u64 0], [], []⟩ :=
  TyOk.mk' (by kernel_rfl) (by kernel_rfl) (by kernel_rfl) (⟨Try.prog.fieldsOf 13, by kernel_rfl, by kernel_rfl⟩) (fun h => absurd rfl h)
theorem ty20 : TyOk Try.prog 20 ⟨.iface, 1, 16, [.nilIface], [], []⟩ :=
  TyOk.mk' (by kernel_rfl) (by kernel_rfl) (by kernel_rfl) (DOk.iface_of (by kernel_rfl)) (fun h => absurd rfl h)
theorem ty21 : TyOk Try.prog 21 ⟨.int .i32, 1, 4, [.int .i32 0], [], []⟩ :=
  TyOk.mk' (by kernel_rfl) (by kernel_rfl) (by kernel_rfl) ((by kernel_rfl : Try.prog.underlying 21 = _)) (fun h => absurd rfl h)
theorem ty22 : TyOk Try.prog 22 ⟨.struct [(0, 9), (1, 3), (2, 3)], 3, 32, [.string ⟨#[]⟩, .int .i64 0, .int .i64 0], [], [.str, .int .i64, .int .i64]⟩ :=
  TyOk.mk' (by kernel_rfl) (by kernel_rfl) (by kernel_rfl) (⟨Try.prog.fieldsOf 22, by kernel_rfl, by kernel_rfl⟩) (fun _ => EqOk.of 8 (by decide) (by kernel_rfl) (by kernel_rfl) (by kernel_rfl))
theorem ty23 : TyOk Try.prog 23 ⟨.struct [(0, 9), (1, 3), (2, 3)], 3, 32, [.string ⟨#[]⟩, .int .i64 0, .int .i64 0], [], [.str, .int .i64, .int .i64]⟩ :=
  TyOk.mk' (by kernel_rfl) (by kernel_rfl) (by kernel_rfl) (⟨Try.prog.fieldsOf 23, by kernel_rfl, by kernel_rfl⟩) (fun _ => EqOk.of 8 (by decide) (by kernel_rfl) (by kernel_rfl) (by kernel_rfl))
theorem ty24 : TyOk Try.prog 24 ⟨.arr 8 23, 24, 256, [.string ⟨#[]⟩, .int .i64 0, .int .i64 0, .string ⟨#[]⟩, .int .i64 0, .int .i64 0, .string ⟨#[]⟩, .int .i64 0, .int .i64 0, .string ⟨#[]⟩, .int .i64 0, .int .i64 0, .string ⟨#[]⟩, .int .i64 0, .int .i64 0, .string ⟨#[]⟩, .int .i64 0, .int .i64 0, .string ⟨#[]⟩, .int .i64 0, .int .i64 0, .string ⟨#[]⟩, .int .i64 0, .int .i64 0], [.str, .int .i64, .int .i64], [.str, .int .i64, .int .i64, .str, .int .i64, .int .i64, .str, .int .i64, .int .i64, .str, .int .i64, .int .i64, .str, .int .i64, .int .i64, .str, .int .i64, .int .i64, .str, .int .i64, .int .i64, .str, .int .i64, .int .i64]⟩ :=
  TyOk.mk' (by kernel_rfl) (by kernel_rfl) (by kernel_rfl) ((by kernel_rfl : Try.prog.underlying 24 = _)) (fun _ => EqOk.of 8 (by decide) (by kernel_rfl) (by kernel_rfl) (by kernel_rfl))
theorem ty25 : TyOk Try.prog 25 ⟨.arr 8 23, 24, 256, [.string ⟨#[]⟩, .int .i64 0, .int .i64 0, .string ⟨#[]⟩, .int .i64 0, .int .i64 0, .string ⟨#[]⟩, .int .i64 0, .int .i64 0, .string ⟨#[]⟩, .int .i64 0, .int .i64 0, .string ⟨#[]⟩, .int .i64 0, .int .i64 0, .string ⟨#[]⟩, .int .i64 0, .int .i64 0, .string ⟨#[]⟩, .int .i64 0, .int .i64 0, .string ⟨#[]⟩, .int .i64 0, .int .i64 0], [.str, .int .i64, .int .i64], [.str, .int .i64, .int .i64, .str, .int .i64, .int .i64, .str, .int .i64, .int .i64, .str, .int .i64, .int .i64, .str, .int .i64, .int .i64, .str, .int .i64, .int .i64, .str, .int .i64, .int .i64, .str, .int .i64, .int .i64]⟩ :=
  TyOk.mk' (by kernel_rfl) (by kernel_rfl) (by kernel_rfl) ((by kernel_rfl : Try.prog.underlying 25 = _)) (fun _ => EqOk.of 8 (by decide) (by kernel_rfl) (by kernel_rfl) (by kernel_rfl))
theorem ty26 : TyOk Try.prog 26 ⟨.slice 5, 1, 24, [.slice none 0 0], [], []⟩ :=
  TyOk.mk' (by kernel_rfl) (by kernel_rfl) (by kernel_rfl) ((by kernel_rfl : Try.prog.underlying 26 = _)) (fun h => absurd rfl h)
theorem ty29 : TyOk Try.prog 29 ⟨.iface, 1, 16, [.nilIface], [], []⟩ :=
  TyOk.mk' (by kernel_rfl) (by kernel_rfl) (by kernel_rfl) (DOk.iface_of (by kernel_rfl)) (fun h => absurd rfl h)
theorem ty30 : TyOk Try.prog 30 ⟨.iface, 1, 16, [.nilIface], [], []⟩ :=
  TyOk.mk' (by kernel_rfl) (by kernel_rfl) (by kernel_rfl) (DOk.iface_of (by kernel_rfl)) (fun h => absurd rfl h)
theorem ty34 : TyOk Try.prog 34 ⟨.slice 26, 1, 24, [.slice none 0 0], [], []⟩ :=
  TyOk.mk' (by kernel_rfl) (by kernel_rfl) (by kernel_rfl) ((by kernel_rfl : Try.prog.underlying 34 = _)) (fun h => absurd rfl h)
theorem ty44 : TyOk Try.prog 44 ⟨.int .i64, 1, 8, [.int .i64 0], [], []⟩ :=
  TyOk.mk' (by kernel_rfl) (by kernel_rfl) (by kernel_rfl) ((by kernel_rfl : Try.prog.underlying 44 = _)) (fun h => absurd rfl h)
theorem ty46 : TyOk Try.prog 46 ⟨.int .u64, 1, 8, [.int .u64 0], [], []⟩ :=
  TyOk.mk' (by kernel_rfl) (by kernel_rfl) (by kernel_rfl) ((by kernel_rfl : Try.prog.underlying 46 = _)) (fun h => absurd rfl h)
theorem ty56 : TyOk Try.prog 56 ⟨.int .u32, 1, 4, [.int .u32 0], [], []⟩ :=
  TyOk.mk' (by kernel_rfl) (by kernel_rfl) (by kernel_rfl) ((by kernel_rfl : Try.prog.underlying 56 = _)) (fun h => absurd rfl h)
theorem ty60 : TyOk Try.prog 60 ⟨.ptr 5, 1, 8, [.pointer none], [], []⟩ :=
  TyOk.mk' (by kernel_rfl) (by kernel_rfl) (by kernel_rfl) ((by kernel_rfl : Try.prog.underlying 60 = _)) (fun h => absurd rfl h)
theorem tabOk : TabOk Try.prog tab := by
  intro t i h
  unfold tab at h
  split at h
  · cases h; exact ty2
  · cases h; exact ty3
  · cases h; exact ty4
  · cases h; exact ty5
  · cases h; exact ty9
  · cases h; exact ty12
  · cases h; exact ty13
  · cases h; exact ty20
  · cases h; exact ty21
  · cases h; exact ty22
  · cases h; exact ty23
  · cases h; exact ty24
  · cases h; exact ty25
  · cases h; exact ty26
  · cases h; exact ty29
  · cases h; exact ty30
  · cases h; exact ty34
  · cases h; exact ty44
  · cases h; exact ty46
  · cases h; exact ty56
  · cases h; exact ty60
  · cases h
end Go.Proofs.Ytdpfjoojppmpbaa
namespace Go.Proofs.Ytdpfjoojppmpbaa
open Go Sx
set_option maxRecDepth 100000
set_option maxHeartbeats 4000000
theorem mixed : Try.prog.follows .mixedOrders = true := by kernel_rfl
theorem slotted_ctr (n : Int) : Ctr Try.prog 15 [] [.int .i64 (.sym n)] fun v H => v = .sbool (decide (0 ≤ n ∧ n < 8)) ∧ H = [] := by
  obtain ⟨uI, uB, uS, uL, uT, hu⟩ := words
  have hm := mixed
  have hT := tabOk
  obtain ⟨P, hP⟩ : ∃ P, P = Try.prog := ⟨_, rfl⟩
  rw [← hP] at hm hT ⊢
  refine Ctr.weak (ctr_of_vc hu hm hT (hP ▸ Try.func15) rfl (by kernel_rfl) ?_)
  clear hP hm hT
  generalize hR : Weak _ _ = R
  cbv
  repeat' (first | (intro _; cbv) | (refine And.intro ?_ ?_))
  all_goals
    subst hR
    refine ⟨.sbool (decide (0 ≤ n ∧ n < 8)), [], ?_, trivial, rfl, rfl, rfl⟩
    simp only [ren, tupV, V.sub, hu.b, iB, cmpB, Iv.val_sym, Iv.val_lit, decide_eq_true_eq, decide_eq_false_iff_not] at *
    symm
    first | (rw [decide_eq_true_eq]; omega) | (rw [decide_eq_false_iff_not]; omega)
theorem number_ctr (n : Int) : Ctr Try.prog 17 [] [.int .i64 (.sym n)] fun v H => v = .sbool (decide (0 ≤ n ∧ n ≤ 65535)) ∧ H = [] := by
  obtain ⟨uI, uB, uS, uL, uT, hu⟩ := words
  have hm := mixed
  have hT := tabOk
  obtain ⟨P, hP⟩ : ∃ P, P = Try.prog := ⟨_, rfl⟩
  rw [← hP] at hm hT ⊢
  refine Ctr.weak (ctr_of_vc hu hm hT (hP ▸ Try.func17) rfl (by kernel_rfl) ?_)
  clear hP hm hT
  generalize hR : Weak _ _ = R
  cbv
  repeat' (first | (intro _; cbv) | (refine And.intro ?_ ?_))
  all_goals
    subst hR
    refine ⟨.sbool (decide (0 ≤ n ∧ n ≤ 65535)), [], ?_, trivial, rfl, rfl, rfl⟩
    simp only [ren, tupV, V.sub, hu.b, iB, cmpB, Iv.val_sym, Iv.val_lit, decide_eq_true_eq, decide_eq_false_iff_not] at *
    symm
    first | (rw [decide_eq_true_eq]; omega) | (rw [decide_eq_false_iff_not]; omega)
/-- formed. -/
def Formed (xs : List Int) : Bool := decide ((xs.getD 0 0 = 1 ∧ 6 < xs.length ∧ xs.length ≤ 206) ∨ (2 ≤ xs.getD 0 0 ∧ xs.getD 0 0 ≤ 4 ∧ xs.length = 2))
theorem formed_ctr (xs : List Int) (n : Int) (hn : n = xs.length) : Ctr Try.prog 14 [.cols .ro 5 [.ints .u8 (.sym xs)]] [.sl 0 (.lit 0) (.sym n)] fun v H => v = .sbool (Formed xs) ∧ H = [.cols .ro 5 [.ints .u8 (.sym xs)]] := by
  obtain ⟨uI, uB, uS, uL, uT, hu⟩ := words
  have hm := mixed
  have hT := tabOk
  obtain ⟨P, hP⟩ : ∃ P, P = Try.prog := ⟨_, rfl⟩
  rw [← hP] at hm hT ⊢
  refine Ctr.weak (ctr_of_vc hu hm hT (hP ▸ Try.func14) rfl (by kernel_rfl) ?_)
  clear hP hm hT
  generalize hR : Weak _ _ = R
  cbv
  repeat' (first | (intro _; cbv) | (refine And.intro ?_ ?_))
  all_goals
    simp only [hu.b, hu.i, iB, iI, cmpB, Iv.val_sym, Iv.val_lit, Lv.raw, decide_eq_true_eq, decide_eq_false_iff_not, beq_iff_eq, beq_eq_false_iff_ne, ne_eq, ofN, Int.toNat_zero, natc] at *
    simp only [Int.ofNat_eq_natCast] at *
  all_goals first
    | (subst hR
       refine ⟨V.sbool (Formed xs), [.cols .ro 5 [.ints .u8 (.sym xs)]], ?_, ?_, rfl, rfl, rfl⟩
       · show _ = Formed xs
         unfold Formed
         symm
         first
           | (rw [decide_eq_true_eq]; omega)
           | (rw [decide_eq_false_iff_not]; omega)
       · exact ⟨⟨rfl, ⟨rfl, rfl⟩, trivial⟩, trivial⟩)
    | omega
theorem slotted_c (n : Int) : Ctr Try.prog 15 [] [.int .i64 (.sym n)] fun v H => ∃ b : Bool, (b = true ↔ 0 ≤ n ∧ n < 8) ∧ v = .sbool b ∧ H = [] :=
  (slotted_ctr n).mono fun v H h => ⟨_, decide_eq_true_iff, h.1, h.2⟩
theorem number_c (n : Int) : Ctr Try.prog 17 [] [.int .i64 (.sym n)] fun v H => ∃ b : Bool, (b = true ↔ 0 ≤ n ∧ n ≤ 65535) ∧ v = .sbool b ∧ H = [] :=
  (number_ctr n).mono fun v H h => ⟨_, decide_eq_true_iff, h.1, h.2⟩
end Go.Proofs.Ytdpfjoojppmpbaa
namespace Go.Proofs.Ytdpfjoojppmpbaa
open Go Sx
set_option maxRecDepth 100000
set_option maxHeartbeats 4000000
theorem wraps_i64 (n : Int) (h₀ : 0 ≤ n) (h₁ : n < 2 ^ 32) : IntKind.i64.wrap n = n := by rw [IntKind.wrap_i64]; omega
theorem or16 {x y : Int} (h0 : 0 ≤ x) (h1 : x < 256) (h2 : 0 ≤ y) (h3 : y < 256) : binI .or .i64 (binI .shl .i64 x 8) y = 256 * x + y := by
  have e : binI .shl .i64 x 8 = x * 256 := by
    show IntKind.i64.wrap (x * 2 ^ (min 8 64)) = _
    rw [show (2 : Int) ^ (min 8 64) = 256 from rfl, IntKind.wrap_i64]; omega
  rw [e]
  show bits .or .i64 (x * 256) y = _
  rw [bits_join .i64 32 (by decide) wraps_i64 8 (x * 256) y (by omega) (by omega) (by omega) h2 (by omega) (by omega)]
  omega
theorem formed_c (xs : List Int) (n : Int) (hn : n = xs.length) : Ctr Try.prog 14 [.cols .ro 5 [.ints .u8 (.sym xs)]] [.sl 0 (.lit 0) (.sym n)] fun v H => ∃ b : Bool, (b = true ↔ (xs.getD 0 0 = 1 ∧ 6 < xs.length ∧ xs.length ≤ 206) ∨ (2 ≤ xs.getD 0 0 ∧ xs.getD 0 0 ≤ 4 ∧ xs.length = 2)) ∧ v = .sbool b ∧ H = [.cols .ro 5 [.ints .u8 (.sym xs)]] :=
  (formed_ctr xs n hn).mono fun v H h => ⟨_, decide_eq_true_iff, h.1, h.2⟩
/-- What Apply makes of a table. -/
def applyS (ts : List ByteArray) (ls fs xs : List Int) : (List ByteArray × List Int × List Int) × Option Int :=
  let i := (xs.getD 1 0).toNat
  if ¬ ((xs.getD 0 0 = 1 ∧ 6 < xs.length ∧ xs.length ≤ 206) ∨ (2 ≤ xs.getD 0 0 ∧ xs.getD 0 0 ≤ 4 ∧ xs.length = 2)) then ((ts, ls, fs), some 6)
  else if ¬ xs.getD 1 0 < 8 then ((ts, ls, fs), some 1)
  else if xs.getD 0 0 ≠ 1 ∧ (ts.getD i ByteArray.empty).toList = [] then ((ts, ls, fs), some 8)
  else if xs.getD 0 0 = 1 then ((ts.set i (strL (xs.drop 6)), ls.set i (256 * xs.getD 2 0 + xs.getD 3 0), fs.set i (256 * xs.getD 4 0 + xs.getD 5 0)), none)
  else if xs.getD 0 0 = 2 then ((ts.set i ByteArray.empty, ls.set i 0, fs.set i 0), none)
  else if xs.getD 0 0 = 3 then ((ts, ls, if fs.getD i 0 < 65535 then fs.set i (IntKind.i64.wrap (fs.getD i 0 + 1)) else fs), none)
  else ((ts, ls, fs.set i 0), none)
def tbV (t : List ByteArray × List Int × List Int) : V := .cols 24 [.strs (.sym t.1), .ints .i64 (.sym t.2.1), .ints .i64 (.sym t.2.2)]
def errV : Option Int → V
  | none => .nilif
  | some e => .iface 44 (.int .i64 (.sym e))
theorem apply_ctr (ts : List ByteArray) (ls fs : List Int) (xs : List Int) (n : Int) (hn : n = xs.length) (ht : ts.length = 8) (hl : ls.length = 8) (hf : fs.length = 8) (hx : ∀ i, 0 ≤ xs.getD i 0 ∧ xs.getD i 0 < 256) :
    Ctr Try.prog 8 [.cols .ro 5 [.ints .u8 (.sym xs)]] [tbV (ts, ls, fs), .sl 0 (.lit 0) (.sym n)] fun v H =>
      v = .tup [tbV (applyS ts ls fs xs).1, errV (applyS ts ls fs xs).2] ∧ H = [.cols .ro 5 [.ints .u8 (.sym xs)]] := by
  obtain ⟨uI, uB, uS, uL, uT, hu⟩ := words
  have hm := mixed
  have hT := tabOk
  have h15 := slotted_c
  have h14 := formed_c
  have w64 : ∀ i, IntKind.i64.wrap (xs.getD i 0) = xs.getD i 0 := fun i => by
    have := hx i
    rw [IntKind.wrap_i64]; omega
  have e0 : uL (.sub xs 0 n) = xs := by rw [hu.l]; simp [iL, subL, hn]
  obtain ⟨P, hP⟩ : ∃ P, P = Try.prog := ⟨_, rfl⟩
  rw [← hP] at hm hT h15 h14 ⊢
  refine Ctr.weak (ctr_of_vc hu hm hT (hP ▸ Try.func8) rfl (by kernel_rfl) ?_)
  clear hP hm hT
  unfold tbV
  generalize hR : Weak _ _ = R
  cbv
  repeat' (first | (intro h; (try subst h); cbv) | (refine And.intro ?_ ?_) | (refine CallVC.mk (Ctr.mono (h15 _) ?_); rintro v H ⟨b, hb, rfl, rfl⟩; cbv) | (refine CallVC.mk (Ctr.mono (h14 _ _ (by rw [hu.l]; simp [iL, subL, Lv.raw, hn])) ?_); rintro v H ⟨b, hb, rfl, rfl⟩; cbv))
  all_goals clear h14 h15
  all_goals
    simp only [hu.b, hu.i, iB, iI, cmpB, Iv.val_sym, Iv.val_lit, Lv.raw, decide_eq_true_eq, decide_eq_false_iff_not, beq_iff_eq, beq_eq_false_iff_ne, ne_eq, ofN, Int.toNat_zero, Int.toNat_one, Int.reduceToNat, natc, w64, e0, hu.s, iS, Sv.val_lit, Sv.val_sym, Tv.raw, true_iff, false_iff, Bool.false_eq_true, bne_iff_ne, bne_eq_false_iff_eq, Bool.not_eq_true', Decidable.not_not] at *
    try simp only [Int.ofNat_eq_natCast] at *
  all_goals try (have h0 := hx 0; have h1 := hx 1; omega)
  all_goals
    obtain ⟨q, hq⟩ : ∃ q, applyS ts ls fs xs = q := ⟨_, rfl⟩
    rw [hq] at hR
    unfold applyS at hq
    simp only [] at hq
    repeat' split at hq
  all_goals try (exfalso; have h0 := hx 0; have h1 := hx 1; omega)
  all_goals try (exfalso; simp_all; done)
  all_goals
    subst hq
    subst hR
    refine ⟨_, _, ?_, ?_, ?_, rfl, rfl⟩
  all_goals try exact ⟨⟨rfl, ⟨rfl, rfl⟩, trivial⟩, trivial⟩
  all_goals try rfl
  all_goals try (simp [V.sub, V.subL, ren, renL, tupV, colsSub, Col.sub, errV, Tv.raw, Lv.raw, hu.t, hu.l, hu.s, iT, iL, iS, binI]; done)
  · refine ⟨⟨rfl, ⟨?_, ⟨⟨rfl, ?_⟩, ⟨⟨rfl, ?_⟩, trivial⟩⟩⟩⟩, trivial, trivial⟩
    · show uT _ = _; rw [hu.t]; rfl
    · show uL _ = _; rw [hu.l]; rfl
    · show uL _ = _; rw [hu.l]; rfl
  · refine ⟨⟨rfl, ⟨?_, ⟨⟨rfl, ?_⟩, ⟨⟨rfl, ?_⟩, trivial⟩⟩⟩⟩, trivial, trivial⟩
    · show uT _ = _; rw [hu.t, hu.l]
      simp only [iT, iL, subL, Tv.raw, hn, Int.reduceToNat]
      rw [List.take_of_length_le (by simp; omega)]
    · show uL _ = _; rw [hu.l, or16 (hx 2).1 (hx 2).2 (hx 3).1 (hx 3).2]; rfl
    · show uL _ = _; rw [hu.l, or16 (hx 4).1 (hx 4).2 (hx 5).1 (hx 5).2]; rfl
end Go.Proofs.Ytdpfjoojppmpbaa
namespace Go.Proofs.Ytdpfjoojppmpbaa
open Go Sx
set_option maxRecDepth 100000
set_option maxHeartbeats 4000000
/-- Put's error. -/
def putE (i l f : Int) (s : ByteArray) : Option Int :=
  if ¬ (0 ≤ i ∧ i < 8 ∧ 0 ≤ l ∧ l ≤ 65535 ∧ 0 ≤ f ∧ f ≤ 65535) then some 1
  else if s.size < 1 ∨ 200 < s.size then some 2 else none
/-- Put's bytes. -/
def putL (i l f : Int) (s : ByteArray) : List Int := [1, i, l / 256, l % 256, f / 256, f % 256] ++ bytesL s
def PutR (i l f : Int) (s : ByteArray) (v : V) (H : Hp) : Prop :=
  (∃ e, putE i l f s = some e ∧ v = .tup [.nilsl, .iface 44 (.int .i64 (.sym e))] ∧ H = []) ∨
  (putE i l f s = none ∧ v = .tup [.vec 0 (.sym (6 + s.size)), .nilif] ∧ H = [.cols (.row 1) 5 [.ints .u8 (.sym (putL i l f s))]])
theorem put_ctr (i l f : Int) (s : ByteArray) : Ctr Try.prog 11 [] [.int .i64 (.sym i), .agg [.str (.sym s), .int .i64 (.sym l), .int .i64 (.sym f)]] (PutR i l f s) := by
  obtain ⟨uI, uB, uS, uL, uT, hu⟩ := words
  have hm := mixed
  have hT := tabOk
  have h15 := @slotted_c
  have h17 := @number_c
  obtain ⟨P, hP⟩ : ∃ P, P = Try.prog := ⟨_, rfl⟩
  rw [← hP] at hm hT h15 h17 ⊢
  refine Ctr.weak (ctr_of_vc hu hm hT (hP ▸ Try.func11) rfl (by kernel_rfl) ?_)
  clear hP hm hT
  generalize hR : Weak _ _ = R
  cbv
  repeat' (first | (intro h; (try subst h); cbv) | (refine And.intro ?_ ?_) | (refine CallVC.mk (Ctr.mono (h15 _) ?_); rintro v H ⟨b, hb, rfl, rfl⟩ <;> cbv) | (refine CallVC.mk (Ctr.mono (h17 _) ?_); rintro v H ⟨b, hb, rfl, rfl⟩ <;> cbv))
  all_goals clear h15 h17
  all_goals
    simp only [hu.b, hu.i, iB, iI, cmpB, Iv.val_sym, Iv.val_lit, Lv.raw, Tv.raw, decide_eq_true_eq, decide_eq_false_iff_not, beq_iff_eq, beq_eq_false_iff_ne, ne_eq, ofN, Int.toNat_zero, Int.toNat_one, Int.reduceToNat, natc, hu.s, iS, Sv.val_lit, Sv.val_sym, true_iff, false_iff, Bool.false_eq_true, bne_iff_ne, bne_eq_false_iff_eq, Bool.not_eq_true', Decidable.not_not, nil_toList, ByteArray.size_empty, nilS, hu.l, iL] at *
    try simp only [Int.ofNat_eq_natCast] at *
  all_goals try omega
  · subst hR
    exact Weak.of (.inl ⟨2, by (unfold putE; repeat' split) <;> first | rfl | (exfalso; omega), rfl, rfl⟩) ⟨trivial, ⟨rfl, rfl, rfl⟩, trivial⟩ trivial rfl
  · subst hR
    exact Weak.of (.inl ⟨2, by (unfold putE; repeat' split) <;> first | rfl | (exfalso; omega), rfl, rfl⟩) ⟨trivial, ⟨rfl, rfl, rfl⟩, trivial⟩ trivial rfl
  · subst hR
    have e1 : ∀ n : Int, IntKind.u8.wrap n = n % 256 := wr_u8
    have e2 : ∀ n : Int, binI .shr .i64 n 8 = n / 256 := fun n => fdiv2 n 8
    refine Weak.of (.inr ⟨by (unfold putE; repeat' split) <;> first | rfl | (exfalso; omega), rfl, rfl⟩) ⟨⟨rfl, ?_⟩, trivial, trivial⟩ ⟨⟨rfl, rfl, ⟨⟨rfl, ?_⟩, trivial⟩⟩, trivial⟩ rfl
    · simp only [Iv.val_sym, hu.i, hu.l, iI, iL, Lv.raw, List.length_append, bytesL_length, lvals, List.length_cons, List.length_nil]; omega
    · simp only [Iv.val_sym, Iv.val_lit, hu.i, hu.l, iI, iL, Lv.raw, lvals, e1, e2, putL]
      congr 1
      simp only [List.cons.injEq, and_true, true_and]
      omega
  all_goals
    subst hR
    exact Weak.of (.inl ⟨1, by (unfold putE; repeat' split) <;> first | rfl | (exfalso; omega), rfl, rfl⟩) ⟨trivial, ⟨rfl, rfl, rfl⟩, trivial⟩ trivial rfl
theorem put_c (i l f : Iv) (s : Sv) : Ctr Try.prog 11 [] [.int .i64 i, .agg [.str s, .int .i64 l, .int .i64 f]] (PutR i.val l.val f.val s.val) :=
  (put_ctr i.val l.val f.val s.val).conv trivial ⟨⟨rfl, rfl⟩, ⟨rfl, ⟨rfl, rfl⟩, ⟨rfl, rfl⟩, trivial⟩, trivial⟩
/-- Mark. -/
def MarkR (k i : Int) (v : V) (H : Hp) : Prop :=
  (¬ (2 ≤ k ∧ k ≤ 4 ∧ 0 ≤ i ∧ i < 8) ∧ v = .tup [.nilsl, .iface 44 (.int .i64 (.sym 1))] ∧ H = []) ∨
  ((2 ≤ k ∧ k ≤ 4 ∧ 0 ≤ i ∧ i < 8) ∧ v = .tup [.vec 0 (.lit 2), .nilif] ∧ H = [.cols (.row 1) 5 [.ints .u8 (.sym [k, i])]])
theorem mark_ctr (k i : Int) : Ctr Try.prog 12 [] [.int .i64 (.sym k), .int .i64 (.sym i)] (MarkR k i) := by
  obtain ⟨uI, uB, uS, uL, uT, hu⟩ := words
  have hm := mixed
  have hT := tabOk
  have h15 := @slotted_c
  obtain ⟨P, hP⟩ : ∃ P, P = Try.prog := ⟨_, rfl⟩
  rw [← hP] at hm hT h15 ⊢
  refine Ctr.weak (ctr_of_vc hu hm hT (hP ▸ Try.func12) rfl (by kernel_rfl) ?_)
  clear hP hm hT
  generalize hR : Weak _ _ = R
  cbv
  repeat' (first | (intro h; (try subst h); cbv) | (refine And.intro ?_ ?_) | (refine CallVC.mk (Ctr.mono (h15 _) ?_); rintro v H ⟨b, hb, rfl, rfl⟩ <;> cbv))
  all_goals clear h15
  all_goals
    simp only [hu.b, hu.i, iB, iI, cmpB, Iv.val_sym, Iv.val_lit, Lv.raw, Tv.raw, decide_eq_true_eq, decide_eq_false_iff_not, beq_iff_eq, beq_eq_false_iff_ne, ne_eq, ofN, Int.toNat_zero, Int.toNat_one, Int.reduceToNat, natc, hu.s, iS, Sv.val_lit, Sv.val_sym, true_iff, false_iff, Bool.false_eq_true, bne_iff_ne, bne_eq_false_iff_eq, Bool.not_eq_true', Decidable.not_not, nil_toList, ByteArray.size_empty, nilS, hu.l, iL] at *
    try simp only [Int.ofNat_eq_natCast] at *
  all_goals subst hR
  all_goals first
    | exact Weak.of (.inl ⟨by omega, rfl, rfl⟩) ⟨trivial, ⟨rfl, rfl, rfl⟩, trivial⟩ trivial rfl
    | (refine Weak.of (.inr ⟨by omega, rfl, rfl⟩) ⟨⟨rfl, rfl⟩, trivial, trivial⟩ ⟨⟨rfl, rfl, ⟨⟨rfl, ?_⟩, trivial⟩⟩, trivial⟩ rfl
       simp only [Iv.val_sym, Iv.val_lit, hu.i, hu.l, iI, iL, Lv.raw, lvals, wr_u8, List.cons.injEq, and_true]
       omega)
theorem mark_c (k i : Iv) : Ctr Try.prog 12 [] [.int .i64 k, .int .i64 i] (MarkR k.val i.val) :=
  (mark_ctr k.val i.val).conv trivial ⟨⟨rfl, rfl⟩, ⟨rfl, rfl⟩, trivial⟩
/-- Apply, as it is taken. -/
def ApplyR (ts : List ByteArray) (ls fs xs : List Int) (v : V) : Prop :=
  (∃ t, applyS ts ls fs xs = (t, none) ∧ v = .tup [tbV t, .nilif]) ∨ (∃ e, applyS ts ls fs xs = ((ts, ls, fs), some e) ∧ v = .tup [tbV (ts, ls, fs), .iface 44 (.int .i64 (.sym e))])
theorem applyS_err {ts ls fs xs t e} (h : applyS ts ls fs xs = (t, some e)) : t = (ts, ls, fs) := by
  unfold applyS at h
  simp only [] at h
  repeat' split at h
  all_goals first
    | (simp only [Prod.mk.injEq] at h; exact h.1.symm)
    | (simp at h; done)
theorem apply_c (ts : Tv) (ls fs xs : Lv) (n : Iv) (hn : n.val = xs.raw.length) (ht : ts.raw.length = 8) (hl : ls.raw.length = 8) (hf : fs.raw.length = 8) (hx : Bytes xs.raw) :
    Ctr Try.prog 8 [.cols .ro 5 [.ints .u8 xs]] [.cols 24 [.strs ts, .ints .i64 ls, .ints .i64 fs], .sl 0 (.lit 0) n] fun v H => ApplyR ts.raw ls.raw fs.raw xs.raw v ∧ H = [.cols .ro 5 [.ints .u8 (.sym xs.raw)]] := by
  refine Ctr.mono ((apply_ctr ts.raw ls.raw fs.raw xs.raw n.val hn ht hl hf (fun i => hx.get i)).conv ⟨⟨⟨rfl, ⟨rfl, rfl⟩, trivial⟩, rfl⟩, trivial⟩ ⟨⟨rfl, rfl, ⟨rfl, rfl⟩, ⟨rfl, rfl⟩, trivial⟩, ⟨rfl, rfl, rfl⟩, trivial⟩) ?_
  rintro v H ⟨rfl, rfl⟩
  refine ⟨?_, rfl⟩
  obtain ⟨⟨t, e⟩, hq⟩ : ∃ q, applyS ts.raw ls.raw fs.raw xs.raw = q := ⟨_, rfl⟩
  rw [hq]
  cases e with
  | none => exact .inl ⟨t, hq, rfl⟩
  | some e => exact .inr ⟨e, by rw [hq, applyS_err hq], by simp only [errV, applyS_err hq]⟩
/-- Locked. -/
def LockedR (ts : List ByteArray) (ls fs : List Int) (i : Int) (v : V) : Prop :=
  (¬ (0 ≤ i ∧ i < 8) ∧ v = .tup [.bool false, .iface 44 (.int .i64 (.sym 1))]) ∨ ((0 ≤ i ∧ i < 8) ∧ (ts.getD i.toNat ByteArray.empty).size = 0 ∧ v = .tup [.bool false, .iface 44 (.int .i64 (.sym 8))]) ∨
  ((0 ≤ i ∧ i < 8) ∧ (ts.getD i.toNat ByteArray.empty).size ≠ 0 ∧ ∃ b : Bool, (b = true ↔ 0 < ls.getD i.toNat 0 ∧ ls.getD i.toNat 0 ≤ fs.getD i.toNat 0) ∧ v = .tup [.sbool b, .nilif])
theorem locked_ctr (ts : List ByteArray) (ls fs : List Int) (i : Int) (ht : ts.length = 8) (hl : ls.length = 8) (hf : fs.length = 8) : Ctr Try.prog 13 [] [tbV (ts, ls, fs), .int .i64 (.sym i)] fun v H => LockedR ts ls fs i v ∧ H = [] := by
  unfold tbV
  obtain ⟨uI, uB, uS, uL, uT, hu⟩ := words
  have hm := mixed
  have hT := tabOk
  have h15 := @slotted_c
  obtain ⟨P, hP⟩ : ∃ P, P = Try.prog := ⟨_, rfl⟩
  rw [← hP] at hm hT h15 ⊢
  refine Ctr.weak (ctr_of_vc hu hm hT (hP ▸ Try.func13) rfl (by kernel_rfl) ?_)
  clear hP hm hT
  generalize hR : Weak _ _ = R
  cbv
  repeat' (first | (intro h; (try subst h); cbv) | (refine And.intro ?_ ?_) | (refine CallVC.mk (Ctr.mono (h15 _) ?_); rintro v H ⟨b, hb, rfl, rfl⟩ <;> cbv))
  all_goals clear h15
  all_goals
    simp only [hu.b, hu.i, iB, iI, cmpB, Iv.val_sym, Iv.val_lit, Lv.raw, Tv.raw, decide_eq_true_eq, decide_eq_false_iff_not, beq_iff_eq, beq_eq_false_iff_ne, ne_eq, ofN, Int.toNat_zero, Int.toNat_one, Int.reduceToNat, natc, hu.s, iS, Sv.val_lit, Sv.val_sym, true_iff, false_iff, Bool.false_eq_true, bne_iff_ne, bne_eq_false_iff_eq, Bool.not_eq_true', Decidable.not_not, nil_toList, ByteArray.size_empty, nilS, hu.l, iL] at *
    try simp only [Int.ofNat_eq_natCast] at *
  all_goals try omega
  all_goals subst hR
  all_goals first
    | exact Weak.of ⟨.inl ⟨by omega, rfl⟩, rfl⟩ ⟨rfl, ⟨rfl, rfl, rfl⟩, trivial⟩ trivial rfl
    | exact Weak.of ⟨.inr (.inl ⟨by omega, by omega, rfl⟩), rfl⟩ ⟨rfl, ⟨rfl, rfl, rfl⟩, trivial⟩ trivial rfl
    | exact Weak.of ⟨.inr (.inr ⟨by omega, by omega, true, by simp only [true_iff]; omega, rfl⟩), rfl⟩ ⟨rfl, trivial, trivial⟩ trivial rfl
    | exact Weak.of ⟨.inr (.inr ⟨by omega, by omega, false, by simp only [false_iff, Bool.false_eq_true]; omega, rfl⟩), rfl⟩ ⟨rfl, trivial, trivial⟩ trivial rfl
theorem locked_c (ts : Tv) (ls fs : Lv) (i : Iv) (ht : ts.raw.length = 8) (hl : ls.raw.length = 8) (hf : fs.raw.length = 8) : Ctr Try.prog 13 [] [.cols 24 [.strs ts, .ints .i64 ls, .ints .i64 fs], .int .i64 i] fun v H => LockedR ts.raw ls.raw fs.raw i.val v ∧ H = [] :=
  (locked_ctr ts.raw ls.raw fs.raw i.val ht hl hf).conv trivial ⟨⟨rfl, rfl, ⟨rfl, rfl⟩, ⟨rfl, rfl⟩, trivial⟩, ⟨rfl, rfl⟩, trivial⟩
/-- Are a table's texts short? -/
def Short (ts : List ByteArray) : Prop := ∀ i : Nat, i < 8 → (ts.getD i ByteArray.empty).size ≤ 300
theorem little_ctr (ts : List ByteArray) (ls fs : List Int) (ht : ts.length = 8) (hl : ls.length = 8) (hf : fs.length = 8) : Ctr Try.prog 7 [] [tbV (ts, ls, fs)] fun v H => (∃ b : Bool, (b = true ↔ Short ts) ∧ v = .sbool b) ∧ H = [] := by
  unfold tbV
  obtain ⟨uI, uB, uS, uL, uT, hu⟩ := words
  have hm := mixed
  have hT := tabOk
  obtain ⟨P, hP⟩ : ∃ P, P = Try.prog := ⟨_, rfl⟩
  rw [← hP] at hm hT ⊢
  refine Ctr.weak (ctr_of_vc hu hm hT (hP ▸ Try.func7) rfl (by kernel_rfl) ?_)
  clear hP hm hT
  generalize hR : Weak _ _ = R
  cbv
  refine .inv Int [3] (fun i => ([.int .i64 (.sym i)], [.cols .var 25 [.strs (.sym ts), .ints .i64 (.sym ls), .ints .i64 (.sym fs)]])) (fun i => 0 ≤ i ∧ i ≤ 8 ∧ ∀ k : Nat, k < i → (ts.getD k ByteArray.empty).size ≤ 300) (fun i => (8 - i).toNat) 0 rfl (fun i hi => rfl) ?_ ?_
  · exact ⟨⟨by omega, by omega, fun k hk => by omega⟩, ⟨⟨rfl, rfl⟩, trivial⟩, ⟨⟨rfl, ⟨rfl, ⟨rfl, rfl⟩, ⟨rfl, rfl⟩, trivial⟩⟩, trivial⟩⟩
  · intro i hi
    cbv
    repeat' (first | (intro h; (try subst h); cbv) | (refine And.intro ?_ ?_))
    all_goals
      simp only [hu.b, hu.i, iB, iI, cmpB, Iv.val_sym, Iv.val_lit, Lv.raw, Tv.raw, decide_eq_true_eq, decide_eq_false_iff_not, beq_iff_eq, beq_eq_false_iff_ne, ne_eq, ofN, Int.toNat_zero, Int.toNat_one, Int.reduceToNat, natc, hu.s, iS, Sv.val_lit, Sv.val_sym, true_iff, false_iff, Bool.false_eq_true, bne_iff_ne, bne_eq_false_iff_eq, Bool.not_eq_true', Decidable.not_not, nil_toList, ByteArray.size_empty, nilS, hu.l, iL] at *
      try simp only [Int.ofNat_eq_natCast] at *
    all_goals try omega
    · subst hR
      exact Weak.of ⟨⟨false, by
        simp only [false_iff, Bool.false_eq_true]
        intro hs
        have := hs i.toNat (by omega)
        omega, rfl⟩, rfl⟩ rfl trivial rfl
    · refine ⟨i + 1, ⟨by omega, by omega, fun k hk => ?_⟩, by omega, ⟨⟨rfl, ?_⟩, trivial⟩, ⟨⟨rfl, ⟨rfl, ⟨rfl, rfl⟩, ⟨rfl, rfl⟩, trivial⟩⟩, trivial⟩⟩
      · by_cases hk' : (k : Int) < i
        · exact hi.2.2 k hk'
        · have : k = i.toNat := by omega
          subst this; omega
      · show binI .add .i64 i 1 = i + 1
        exact wr_i64 _ (by omega) (by omega)
    · subst hR
      exact Weak.of ⟨⟨true, by
        simp only [true_iff]
        intro k hk
        exact hi.2.2 k (by omega), rfl⟩, rfl⟩ rfl trivial rfl
theorem little_c (ts : Tv) (ls fs : Lv) (ht : ts.raw.length = 8) (hl : ls.raw.length = 8) (hf : fs.raw.length = 8) : Ctr Try.prog 7 [] [.cols 24 [.strs ts, .ints .i64 ls, .ints .i64 fs]] fun v H => ∃ b : Bool, (b = true ↔ Short ts.raw) ∧ v = .sbool b ∧ H = [] :=
  Ctr.mono (Ctr.conv (E1 := []) (args1 := [.cols 24 [.strs ts, .ints .i64 ls, .ints .i64 fs]]) (little_ctr ts.raw ls.raw fs.raw ht hl hf) trivial ⟨⟨rfl, rfl, ⟨rfl, rfl⟩, ⟨rfl, rfl⟩, trivial⟩, trivial⟩) fun v H ⟨⟨b, h1, h2⟩, h3⟩ => ⟨b, h1, h2, h3⟩
end Go.Proofs.Ytdpfjoojppmpbaa
namespace Go.Proofs.Ytdpfjoojppmpbaa
open Go Sx
set_option maxRecDepth 100000
set_option maxHeartbeats 4000000
def Len8 (t : List ByteArray × List Int × List Int) : Prop := t.1.length = 8 ∧ t.2.1.length = 8 ∧ t.2.2.length = 8
theorem applyS_len {ts ls fs xs t e} (h : applyS ts ls fs xs = (t, e)) (ht : ts.length = 8) (hl : ls.length = 8) (hf : fs.length = 8) : Len8 t := by
  unfold applyS at h
  simp only [] at h
  repeat' split at h
  all_goals
    simp only [Prod.mk.injEq] at h
    obtain ⟨rfl, rfl⟩ := h
    first | exact ⟨ht, hl, hf⟩ | (refine ⟨?_, ?_, ?_⟩ <;> simp [ht, hl, hf])
/-! What is so where it is known how it ends. -/
theorem put_y (i l f : Iv) (s : Sv) (h : (putE i.val l.val f.val s.val).isNone = true) : Ctr Try.prog 11 [] [.int .i64 i, .agg [.str s, .int .i64 l, .int .i64 f]] fun v H => v = .tup [.vec 0 (.sym (6 + s.val.size)), .nilif] ∧ H = [.cols (.row 1) 5 [.ints .u8 (.sym (putL i.val l.val f.val s.val))]] :=
  (put_c i l f s).mono fun v H h' => by
    rcases h' with ⟨e, he, _⟩ | ⟨_, h1, h2⟩
    · rw [he] at h; cases h
    · exact ⟨h1, h2⟩
theorem mark_y (k i : Iv) (h : 2 ≤ k.val ∧ k.val ≤ 4 ∧ 0 ≤ i.val ∧ i.val < 8) : Ctr Try.prog 12 [] [.int .i64 k, .int .i64 i] fun v H => v = .tup [.vec 0 (.lit 2), .nilif] ∧ H = [.cols (.row 1) 5 [.ints .u8 (.sym [k.val, i.val])]] :=
  (mark_c k i).mono fun v H h' => by
    rcases h' with ⟨he, _⟩ | ⟨_, h1, h2⟩
    · exact absurd h he
    · exact ⟨h1, h2⟩
theorem apply_y (ts : Tv) (ls fs xs : Lv) (n : Iv) (hn : n.val = xs.raw.length) (ht : ts.raw.length = 8) (hl : ls.raw.length = 8) (hf : fs.raw.length = 8) (hx : Bytes xs.raw) (h : (applyS ts.raw ls.raw fs.raw xs.raw).2.isNone = true) :
    Ctr Try.prog 8 [.cols .ro 5 [.ints .u8 xs]] [.cols 24 [.strs ts, .ints .i64 ls, .ints .i64 fs], .sl 0 (.lit 0) n] fun v H => v = .tup [tbV (applyS ts.raw ls.raw fs.raw xs.raw).1, .nilif] ∧ H = [.cols .ro 5 [.ints .u8 (.sym xs.raw)]] := by
  refine Ctr.mono (apply_c ts ls fs xs n hn ht hl hf hx) ?_
  rintro v H ⟨(⟨t, h1, rfl⟩ | ⟨e, h1, rfl⟩), rfl⟩
  · exact ⟨by rw [h1], rfl⟩
  · rw [h1] at h; cases h
theorem locked_y (ts : Tv) (ls fs : Lv) (i : Iv) (b : Bool) (ht : ts.raw.length = 8) (hl : ls.raw.length = 8) (hf : fs.raw.length = 8) (hi : 0 ≤ i.val ∧ i.val < 8) (hs : (ts.raw.getD i.val.toNat ByteArray.empty).size ≠ 0) (hb : decide (0 < ls.raw.getD i.val.toNat 0 ∧ ls.raw.getD i.val.toNat 0 ≤ fs.raw.getD i.val.toNat 0) = b) :
    Ctr Try.prog 13 [] [.cols 24 [.strs ts, .ints .i64 ls, .ints .i64 fs], .int .i64 i] fun v H => v = .tup [.bool b, .nilif] ∧ H = [] := by
  refine Ctr.weak (Ctr.mono (locked_c ts ls fs i ht hl hf) ?_)
  rintro v H ⟨(⟨h, _⟩ | ⟨_, h, _⟩ | ⟨_, _, c, hc, rfl⟩), rfl⟩
  · exact absurd hi h
  · exact absurd h hs
  · refine Weak.of ⟨rfl, rfl⟩ ⟨?_, trivial, trivial⟩ trivial rfl
    show c = b
    rw [← hb, eq_comm, Bool.eq_iff_iff, decide_eq_true_iff, hc]
theorem awake_ctr : Ctr Try.prog 6 [] [] fun v H => v = .bool true ∧ H = [] := by
  obtain ⟨uI, uB, uS, uL, uT, hu⟩ := words
  have hm := mixed
  have hT := tabOk
  have h11 := @put_y
  have h12 := @mark_y
  have h8 := @apply_y
  have h13 := @locked_y
  obtain ⟨P, hP⟩ : ∃ P, P = Try.prog := ⟨_, rfl⟩
  rw [← hP] at hm hT h11 h12 h8 h13 ⊢
  refine Ctr.weak (ctr_of_vc hu hm hT (hP ▸ Try.func6) rfl (by kernel_rfl) ?_)
  clear hP hm hT
  generalize hR : Weak _ _ = R
  cbv
  repeat' (first | (intro h; (try subst h); cbv) | (refine And.intro ?_ ?_) | (refine CallVC.mk (Ctr.mono (h11 _ _ _ _ (by decide +kernel)) ?_); rintro v H ⟨rfl, rfl⟩ <;> cbv) | (refine CallVC.mk (Ctr.mono (h12 _ _ (by decide +kernel)) ?_); rintro v H ⟨rfl, rfl⟩ <;> cbv) | (refine CallVC.mk (Ctr.mono (h8 _ _ _ _ _ (by rfl) (by rfl) (by rfl) (by rfl) (by unfold Bytes; decide +kernel) (by decide +kernel)) ?_); rintro v H ⟨rfl, rfl⟩ <;> cbv) | (refine CallVC.mk (Ctr.mono (h13 _ _ _ _ _ (by rfl) (by rfl) (by rfl) (by decide +kernel) (by decide +kernel) (by rfl)) ?_); rintro v H ⟨rfl, rfl⟩ <;> cbv))
  all_goals clear h8 h11 h12 h13
  all_goals first
    | (rw [hu.b]; simp only [iB, cmpB, hu.i, iI, Iv.val_sym, Iv.val_lit, List.length_cons, List.length_nil]; decide +kernel)
    | (subst hR; exact Weak.of ⟨rfl, rfl⟩ rfl trivial rfl)
    | (clear hR
       obtain rfl : uI = iI := funext hu.i
       obtain rfl : uS = iS := funext hu.s
       obtain rfl : uB = iB := funext hu.b
       exfalso
       repeat (first | exact absurd h (by decide +kernel) | clear h))
end Go.Proofs.Ytdpfjoojppmpbaa
namespace Go.Proofs.Ytdpfjoojppmpbaa
open Go Sx
set_option maxRecDepth 100000
set_option maxHeartbeats 4000000
theorem applyS_others {ts ls fs xs t} (h : applyS ts ls fs xs = (t, none)) (hx : Bytes xs) : 2 ≤ xs.length ∧ xs.getD 1 0 < 8 ∧ ∀ k : Nat, (k : Int) ≠ xs.getD 1 0 → t.1.getD k ByteArray.empty = ts.getD k ByteArray.empty ∧ t.2.1.getD k 0 = ls.getD k 0 ∧ t.2.2.getD k 0 = fs.getD k 0 := by
  have h1 := hx.get 1
  unfold applyS at h
  simp only [] at h
  repeat' split at h
  all_goals first
    | (simp at h; done)
    | (refine ⟨by omega, by omega, fun k hk => ?_⟩
       simp only [Prod.mk.injEq, and_true] at h
       obtain rfl := h
       have hne : (xs.getD 1 0).toNat ≠ k := by omega
       refine ⟨?_, ?_, ?_⟩ <;> first | rfl | exact lgetD_set_ne _ _ _ hne)
theorem others_ctr (ts : List ByteArray) (ls fs : List Int) (xs : List Int) (n : Int) (hn : n = xs.length) (ht : ts.length = 8) (hl : ls.length = 8) (hf : fs.length = 8) (hx : Bytes xs) :
    Ctr Try.prog 3 [.cols .ro 5 [.ints .u8 (.sym xs)]] [tbV (ts, ls, fs), .sl 0 (.lit 0) (.sym n)] fun v H => v = .bool true := by
  unfold tbV
  obtain ⟨uI, uB, uS, uL, uT, hu⟩ := words
  have hm := mixed
  have hT := tabOk
  have h6 := @awake_ctr
  have h7 := @little_c
  have h8 := @apply_c
  obtain ⟨P, hP⟩ : ∃ P, P = Try.prog := ⟨_, rfl⟩
  rw [← hP] at hm hT h6 h7 h8 ⊢
  refine Ctr.weak (ctr_of_vc hu hm hT (hP ▸ Try.func3) rfl (by kernel_rfl) ?_)
  clear hP hm hT
  generalize hR : Weak _ _ = R
  have e0 : uL (.sub xs 0 n) = xs := by rw [hu.l]; simp [iL, subL, hn]
  cbv
  repeat' (first | (intro h; (try subst h); cbv) | (refine And.intro ?_ ?_) | (refine CallVC.mk (Ctr.mono (h6) ?_); rintro v H ⟨rfl, rfl⟩ <;> cbv) | (refine CallVC.mk (Ctr.mono (h7 _ _ _ ht hl hf) ?_); rintro v H ⟨b, hb, rfl, rfl⟩ <;> cbv) | (refine CallVC.mk (Ctr.mono (h8 _ _ _ _ _ (by rw [hu.l]; simp [iL, subL, Lv.raw, hn]) ht hl hf (by rw [hu.l]; simpa [iL, subL, Lv.raw, hn] using hx)) ?_); rintro v H ⟨(⟨⟨ta, tl, tf⟩, he, rfl⟩ | ⟨e, he, rfl⟩), rfl⟩ <;> cbv))
  all_goals clear h6 h7 h8
  · subst hR; exact Weak.law (by rfl) (by rfl)
  · clear hR
    simp only [hu.b, hu.i, iB, iI, cmpB, Iv.val_sym, Iv.val_lit, Lv.raw, Tv.raw, decide_eq_true_eq, decide_eq_false_iff_not, beq_iff_eq, beq_eq_false_iff_ne, ne_eq, ofN, Int.toNat_zero, Int.toNat_one, Int.reduceToNat, natc, hu.s, iS, Sv.val_lit, Sv.val_sym, true_iff, false_iff, Bool.false_eq_true, bne_iff_ne, bne_eq_false_iff_eq, Bool.not_eq_true', Decidable.not_not, nil_toList, ByteArray.size_empty, nilS] at *
    try simp only [Int.ofNat_eq_natCast] at *
    omega
  · have hlen := applyS_len he ht hl hf
    obtain ⟨o1, o2, o3⟩ := applyS_others he (by simpa only [Lv.raw, Iv.val_sym, Iv.val_lit, e0] using hx)
    simp only [Lv.raw, Iv.val_sym, Iv.val_lit, e0] at o1 o2 o3
    obtain ⟨l1, l2, l3⟩ := hlen
    simp only at l1 l2 l3
    have w1 : IntKind.i64.wrap (xs.getD 1 0) = xs.getD 1 0 := wr_i64 _ (by have := hx.get 1; omega) (by omega)
    refine .inv Int [7] (fun i => ([.int .i64 (.sym i)], [.cols .ro 5 [.ints .u8 (.sym xs)], .cols .var 25 [.strs (.sym ts), .ints .i64 (.sym ls), .ints .i64 (.sym fs)], .cols .var 25 [.strs (.sym ta), .ints .i64 (.sym tl), .ints .i64 (.sym tf)]])) (fun i => 0 ≤ i ∧ i ≤ 8) (fun i => (8 - i).toNat) 0 (by kernel_rfl) (fun i hi => by kernel_rfl) ?_ ?_
    · refine ⟨⟨by omega, by omega⟩, ?_, ?_⟩
      · cbv
        repeat' (first | exact trivial | rfl | refine And.intro ?_ ?_)
      · cbv
        repeat' (first | exact trivial | rfl | refine And.intro ?_ ?_)
    · intro i hi
      clear he hb
      cbv
      repeat' (first | (intro h; (try subst h); cbv) | (refine And.intro ?_ ?_))
      all_goals
        simp only [hu.b, hu.i, iB, iI, cmpB, Iv.val_sym, Iv.val_lit, Lv.raw, Tv.raw, decide_eq_true_eq, decide_eq_false_iff_not, beq_iff_eq, beq_eq_false_iff_ne, ne_eq, ofN, Int.toNat_zero, Int.toNat_one, Int.reduceToNat, natc, hu.s, iS, Sv.val_lit, Sv.val_sym, true_iff, false_iff, Bool.false_eq_true, bne_iff_ne, bne_eq_false_iff_eq, Bool.not_eq_true', Decidable.not_not, nil_toList, ByteArray.size_empty, nilS, hu.l, iL] at *
        try simp only [Int.ofNat_eq_natCast] at *
      all_goals try omega
      · exfalso
        obtain ⟨q1, q2, q3⟩ := o3 i.toNat (by omega)
        rw [q1, q2, q3] at h
        simp at h
      all_goals first
        | (refine ⟨i + 1, ⟨by omega, by omega⟩, by omega, ⟨⟨rfl, ?_⟩, trivial⟩, ?_⟩
           · show binI .add .i64 i 1 = i + 1
             exact wr_i64 _ (by omega) (by omega)
           · cbv
             repeat' (first | exact trivial | rfl | refine And.intro ?_ ?_))
        | (subst hR; exact Weak.law (by rfl) (by rfl))
  · subst hR; exact Weak.law (by rfl) (by rfl)
  · exfalso
    simp [hu.b, iB] at h
  · subst hR; exact Weak.law (by rfl) (by rfl)
end Go.Proofs.Ytdpfjoojppmpbaa
