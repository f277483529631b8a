import Derived.Test.YtdpfjoojppmpbaaSx3
import Derived.KernelRfl
import Derived.Test.YtdpfjoojppmpbaaProg
import Derived.Test.YtdpfjoojppmpbaaRows
set_option linter.all false
set_option linter.unusedSectionVars false
namespace Go.Proofs.Ytdpfjoojppmpbaa
open Go Sx
set_option maxRecDepth 100000
def tab : TypeId → Option TyI
  | 2 => some ⟨.int .i64, 1, 8, [.int .i64 0], [], []⟩
  | 3 => some ⟨.int .i64, 1, 8, [.int .i64 0], [], []⟩
  | 4 => some ⟨.bool, 1, 1, [.bool false], [], []⟩
  | 5 => some ⟨.int .u8, 1, 1, [.int .u8 0], [], []⟩
  | 9 => some ⟨.str, 1, 16, [.string ⟨#[]⟩], [], []⟩
  | 12 => some ⟨.int .u64, 1, 8, [.int .u64 0], [], []⟩
  | 13 => some ⟨.struct [(0, 9), (1, 12)], 2, 24, [.string ⟨#[]⟩, .int .u64 0], [], []⟩
  | 20 => some ⟨.iface, 1, 16, [.nilIface], [], []⟩
  | 21 => some ⟨.int .i32, 1, 4, [.int .i32 0], [], []⟩
  | 22 => some ⟨.struct [(0, 9), (1, 3), (2, 3)], 3, 32, [.string ⟨#[]⟩, .int .i64 0, .int .i64 0], [], [.str, .int .i64, .int .i64]⟩
  | 23 => some ⟨.struct [(0, 9), (1, 3), (2, 3)], 3, 32, [.string ⟨#[]⟩, .int .i64 0, .int .i64 0], [], [.str, .int .i64, .int .i64]⟩
  | 24 => some ⟨.arr 8 23, 24, 256, [.string ⟨#[]⟩, .int .i64 0, .int .i64 0, .string ⟨#[]⟩, .int .i64 0, .int .i64 0, .string ⟨#[]⟩, .int .i64 0, .int .i64 0, .string ⟨#[]⟩, .int .i64 0, .int .i64 0, .string ⟨#[]⟩, .int .i64 0, .int .i64 0, .string ⟨#[]⟩, .int .i64 0, .int .i64 0, .string ⟨#[]⟩, .int .i64 0, .int .i64 0, .string ⟨#[]⟩, .int .i64 0, .int .i64 0], [.str, .int .i64, .int .i64], [.str, .int .i64, .int .i64, .str, .int .i64, .int .i64, .str, .int .i64, .int .i64, .str, .int .i64, .int .i64, .str, .int .i64, .int .i64, .str, .int .i64, .int .i64, .str, .int .i64, .int .i64, .str, .int .i64, .int .i64]⟩
  | 25 => some ⟨.arr 8 23, 24, 256, [.string ⟨#[]⟩, .int .i64 0, .int .i64 0, .string ⟨#[]⟩, .int .i64 0, .int .i64 0, .string ⟨#[]⟩, .int .i64 0, .int .i64 0, .string ⟨#[]⟩, .int .i64 0, .int .i64 0, .string ⟨#[]⟩, .int .i64 0, .int .i64 0, .string ⟨#[]⟩, .int .i64 0, .int .i64 0, .string ⟨#[]⟩, .int .i64 0, .int .i64 0, .string ⟨#[]⟩, .int .i64 0, .int .i64 0], [.str, .int .i64, .int .i64], [.str, .int .i64, .int .i64, .str, .int .i64, .int .i64, .str, .int .i64, .int .i64, .str, .int .i64, .int .i64, .str, .int .i64, .int .i64, .str, .int .i64, .int .i64, .str, .int .i64, .int .i64, .str, .int .i64, .int .i64]⟩
  | 26 => some ⟨.slice 5, 1, 24, [.slice none 0 0], [], []⟩
  | 29 => some ⟨.iface, 1, 16, [.nilIface], [], []⟩
  | 30 => some ⟨.iface, 1, 16, [.nilIface], [], []⟩
  | 34 => some ⟨.slice 26, 1, 24, [.slice none 0 0], [], []⟩
  | 44 => some ⟨.int .i64, 1, 8, [.int .i64 0], [], []⟩
  | 46 => some ⟨.int .u64, 1, 8, [.int .u64 0], [], []⟩
  | 56 => some ⟨.int .u32, 1, 4, [.int .u32 0], [], []⟩
  | 60 => some ⟨.ptr 5, 1, 8, [.pointer none], [], []⟩
  | _ => none
theorem ty2 : TyOk Try.prog 2 ⟨.int .i64, 1, 8, [.int .i64 0], [], []⟩ :=
  TyOk.mk' (by kernel_rfl) (by kernel_rfl) (by kernel_rfl) ((by kernel_rfl : Try.prog.underlying 2 = _)) (fun h => absurd rfl h)
theorem ty3 : TyOk Try.prog 3 ⟨.int .i64, 1, 8, [.int .i64 0], [], []⟩ :=
  TyOk.mk' (by kernel_rfl) (by kernel_rfl) (by kernel_rfl) ((by kernel_rfl : Try.prog.underlying 3 = _)) (fun h => absurd rfl h)
theorem ty4 : TyOk Try.prog 4 ⟨.bool, 1, 1, [.bool false], [], []⟩ :=
  TyOk.mk' (by kernel_rfl) (by kernel_rfl) (by kernel_rfl) ((by kernel_rfl : Try.prog.underlying 4 = _)) (fun h => absurd rfl h)
theorem ty5 : TyOk Try.prog 5 ⟨.int .u8, 1, 1, [.int .u8 0], [], []⟩ :=
  TyOk.mk' (by kernel_rfl) (by kernel_rfl) (by kernel_rfl) ((by kernel_rfl : Try.prog.underlying 5 = _)) (fun h => absurd rfl h)
theorem ty9 : TyOk Try.prog 9 ⟨.str, 1, 16, [.string ⟨#[]⟩], [], []⟩ :=
  TyOk.mk' (by kernel_rfl) (by kernel_rfl) (by kernel_rfl) ((by kernel_rfl : Try.prog.underlying 9 = _)) (fun h => absurd rfl h)
theorem ty12 : TyOk Try.prog 12 ⟨.int .u64, 1, 8, [.int .u64 0], [], []⟩ :=
  TyOk.mk' (by kernel_rfl) (by kernel_rfl) (by kernel_rfl) ((by kernel_rfl : Try.prog.underlying 12 = _)) (fun h => absurd rfl h)
theorem ty13 : TyOk Try.prog 13 ⟨.struct [(0, 9), (1, 12)], 2, 24, [.string ⟨#[]⟩, .int .u64 0], [], []⟩ :=
  TyOk.mk' (by kernel_rfl) (by kernel_rfl) (by kernel_rfl) (⟨Try.prog.fieldsOf 13, by kernel_rfl, by kernel_rfl⟩) (fun h => absurd rfl h)
theorem ty20 : TyOk Try.prog 20 ⟨.iface, 1, 16, [.nilIface], [], []⟩ :=
  TyOk.mk' (by kernel_rfl) (by kernel_rfl) (by kernel_rfl) (DOk.iface_of (by kernel_rfl)) (fun h => absurd rfl h)
theorem ty21 : TyOk Try.prog 21 ⟨.int .i32, 1, 4, [.int .i32 0], [], []⟩ :=
  TyOk.mk' (by kernel_rfl) (by kernel_rfl) (by kernel_rfl) ((by kernel_rfl : Try.prog.underlying 21 = _)) (fun h => absurd rfl h)
theorem ty22 : TyOk Try.prog 22 ⟨.struct [(0, 9), (1, 3), (2, 3)], 3, 32, [.string ⟨#[]⟩, .int .i64 0, .int .i64 0], [], [.str, .int .i64, .int .i64]⟩ :=
  TyOk.mk' (by kernel_rfl) (by kernel_rfl) (by kernel_rfl) (⟨Try.prog.fieldsOf 22, by kernel_rfl, by kernel_rfl⟩) (fun _ => EqOk.of 8 (by decide) (by kernel_rfl) (by kernel_rfl) (by kernel_rfl))
theorem ty23 : TyOk Try.prog 23 ⟨.struct [(0, 9), (1, 3), (2, 3)], 3, 32, [.string ⟨#[]⟩, .int .i64 0, .int .i64 0], [], [.str, .int .i64, .int .i64]⟩ :=
  TyOk.mk' (by kernel_rfl) (by kernel_rfl) (by kernel_rfl) (⟨Try.prog.fieldsOf 23, by kernel_rfl, by kernel_rfl⟩) (fun _ => EqOk.of 8 (by decide) (by kernel_rfl) (by kernel_rfl) (by kernel_rfl))
theorem ty24 : TyOk Try.prog 24 ⟨.arr 8 23, 24, 256, [.string ⟨#[]⟩, .int .i64 0, .int .i64 0, .string ⟨#[]⟩, .int .i64 0, .int .i64 0, .string ⟨#[]⟩, .int .i64 0, .int .i64 0, .string ⟨#[]⟩, .int .i64 0, .int .i64 0, .string ⟨#[]⟩, .int .i64 0, .int .i64 0, .string ⟨#[]⟩, .int .i64 0, .int .i64 0, .string ⟨#[]⟩, .int .i64 0, .int .i64 0, .string ⟨#[]⟩, .int .i64 0, .int .i64 0], [.str, .int .i64, .int .i64], [.str, .int .i64, .int .i64, .str, .int .i64, .int .i64, .str, .int .i64, .int .i64, .str, .int .i64, .int .i64, .str, .int .i64, .int .i64, .str, .int .i64, .int .i64, .str, .int .i64, .int .i64, .str, .int .i64, .int .i64]⟩ :=
  TyOk.mk' (by kernel_rfl) (by kernel_rfl) (by kernel_rfl) ((by kernel_rfl : Try.prog.underlying 24 = _)) (fun _ => EqOk.of 8 (by decide) (by kernel_rfl) (by kernel_rfl) (by kernel_rfl))
theorem ty25 : TyOk Try.prog 25 ⟨.arr 8 23, 24, 256, [.string ⟨#[]⟩, .int .i64 0, .int .i64 0, .string ⟨#[]⟩, .int .i64 0, .int .i64 0, .string ⟨#[]⟩, .int .i64 0, .int .i64 0, .string ⟨#[]⟩, .int .i64 0, .int .i64 0, .string ⟨#[]⟩, .int .i64 0, .int .i64 0, .string ⟨#[]⟩, .int .i64 0, .int .i64 0, .string ⟨#[]⟩, .int .i64 0, .int .i64 0, .string ⟨#[]⟩, .int .i64 0, .int .i64 0], [.str, .int .i64, .int .i64], [.str, .int .i64, .int .i64, .str, .int .i64, .int .i64, .str, .int .i64, .int .i64, .str, .int .i64, .int .i64, .str, .int .i64, .int .i64, .str, .int .i64, .int .i64, .str, .int .i64, .int .i64, .str, .int .i64, .int .i64]⟩ :=
  TyOk.mk' (by kernel_rfl) (by kernel_rfl) (by kernel_rfl) ((by kernel_rfl : Try.prog.underlying 25 = _)) (fun _ => EqOk.of 8 (by decide) (by kernel_rfl) (by kernel_rfl) (by kernel_rfl))
theorem ty26 : TyOk Try.prog 26 ⟨.slice 5, 1, 24, [.slice none 0 0], [], []⟩ :=
  TyOk.mk' (by kernel_rfl) (by kernel_rfl) (by kernel_rfl) ((by kernel_rfl : Try.prog.underlying 26 = _)) (fun h => absurd rfl h)
theorem ty29 : TyOk Try.prog 29 ⟨.iface, 1, 16, [.nilIface], [], []⟩ :=
  TyOk.mk' (by kernel_rfl) (by kernel_rfl) (by kernel_rfl) (DOk.iface_of (by kernel_rfl)) (fun h => absurd rfl h)
theorem ty30 : TyOk Try.prog 30 ⟨.iface, 1, 16, [.nilIface], [], []⟩ :=
  TyOk.mk' (by kernel_rfl) (by kernel_rfl) (by kernel_rfl) (DOk.iface_of (by kernel_rfl)) (fun h => absurd rfl h)
theorem ty34 : TyOk Try.prog 34 ⟨.slice 26, 1, 24, [.slice none 0 0], [], []⟩ :=
  TyOk.mk' (by kernel_rfl) (by kernel_rfl) (by kernel_rfl) ((by kernel_rfl : Try.prog.underlying 34 = _)) (fun h => absurd rfl h)
theorem ty44 : TyOk Try.prog 44 ⟨.int .i64, 1, 8, [.int .i64 0], [], []⟩ :=
  TyOk.mk' (by kernel_rfl) (by kernel_rfl) (by kernel_rfl) ((by kernel_rfl : Try.prog.underlying 44 = _)) (fun h => absurd rfl h)
theorem ty46 : TyOk Try.prog 46 ⟨.int .u64, 1, 8, [.int .u64 0], [], []⟩ :=
  TyOk.mk' (by kernel_rfl) (by kernel_rfl) (by kernel_rfl) ((by kernel_rfl : Try.prog.underlying 46 = _)) (fun h => absurd rfl h)
theorem ty56 : TyOk Try.prog 56 ⟨.int .u32, 1, 4, [.int .u32 0], [], []⟩ :=
  TyOk.mk' (by kernel_rfl) (by kernel_rfl) (by kernel_rfl) ((by kernel_rfl : Try.prog.underlying 56 = _)) (fun h => absurd rfl h)
theorem ty60 : TyOk Try.prog 60 ⟨.ptr 5, 1, 8, [.pointer none], [], []⟩ :=
  TyOk.mk' (by kernel_rfl) (by kernel_rfl) (by kernel_rfl) ((by kernel_rfl : Try.prog.underlying 60 = _)) (fun h => absurd rfl h)
theorem tabOk : TabOk Try.prog tab := by
  intro t i h
  unfold tab at h
  split at h
  · cases h; exact ty2
  · cases h; exact ty3
  · cases h; exact ty4
  · cases h; exact ty5
  · cases h; exact ty9
  · cases h; exact ty12
  · cases h; exact ty13
  · cases h; exact ty20
  · cases h; exact ty21
  · cases h; exact ty22
  · cases h; exact ty23
  · cases h; exact ty24
  · cases h; exact ty25
  · cases h; exact ty26
  · cases h; exact ty29
  · cases h; exact ty30
  · cases h; exact ty34
  · cases h; exact ty44
  · cases h; exact ty46
  · cases h; exact ty56
  · cases h; exact ty60
  · cases h
end Go.Proofs.Ytdpfjoojppmpbaa
namespace Go.Proofs.Ytdpfjoojppmpbaa
open Go Sx
set_option maxRecDepth 100000
set_option maxHeartbeats 4000000
theorem mixed : Try.prog.follows .mixedOrders = true := by kernel_rfl
theorem slotted_ctr (n : Int) : Ctr Try.prog 15 [] [.int .i64 (.sym n)] fun v H => v = .sbool (decide (0 ≤ n ∧ n < 8)) ∧ H = [] := by
  obtain ⟨uI, uB, uS, uL, uT, hu⟩ := words
  have hm := mixed
  have hT := tabOk
  obtain ⟨P, hP⟩ : ∃ P, P = Try.prog := ⟨_, rfl⟩
  rw [← hP] at hm hT ⊢
  refine Ctr.weak (ctr_of_vc hu hm hT (hP ▸ Try.func15) rfl (by kernel_rfl) ?_)
  clear hP hm hT
  generalize hR : Weak _ _ = R
  cbv
  repeat' (first | (intro _; cbv) | (refine And.intro ?_ ?_))
  all_goals
    subst hR
    refine ⟨.sbool (decide (0 ≤ n ∧ n < 8)), [], ?_, trivial, rfl, rfl, rfl⟩
    simp only [ren, tupV, V.sub, hu.b, iB, cmpB, Iv.val_sym, Iv.val_lit, decide_eq_true_eq, decide_eq_false_iff_not] at *
    symm
    first | (rw [decide_eq_true_eq]; omega) | (rw [decide_eq_false_iff_not]; omega)
theorem number_ctr (n : Int) : Ctr Try.prog 17 [] [.int .i64 (.sym n)] fun v H => v = .sbool (decide (0 ≤ n ∧ n ≤ 65535)) ∧ H = [] := by
  obtain ⟨uI, uB, uS, uL, uT, hu⟩ := words
  have hm := mixed
  have hT := tabOk
  obtain ⟨P, hP⟩ : ∃ P, P = Try.prog := ⟨_, rfl⟩
  rw [← hP] at hm hT ⊢
  refine Ctr.weak (ctr_of_vc hu hm hT (hP ▸ Try.func17) rfl (by kernel_rfl) ?_)
  clear hP hm hT
  generalize hR : Weak _ _ = R
  cbv
  repeat' (first | (intro _; cbv) | (refine And.intro ?_ ?_))
  all_goals
    subst hR
    refine ⟨.sbool (decide (0 ≤ n ∧ n ≤ 65535)), [], ?_, trivial, rfl, rfl, rfl⟩
    simp only [ren, tupV, V.sub, hu.b, iB, cmpB, Iv.val_sym, Iv.val_lit, decide_eq_true_eq, decide_eq_false_iff_not] at *
    symm
    first | (rw [decide_eq_true_eq]; omega) | (rw [decide_eq_false_iff_not]; omega)
/-- formed. -/
def Formed (xs : List Int) : Bool := decide ((xs.getD 0 0 = 1 ∧ 6 < xs.length ∧ xs.length ≤ 206) ∨ (2 ≤ xs.getD 0 0 ∧ xs.getD 0 0 ≤ 4 ∧ xs.length = 2))
theorem formed_ctr (xs : List Int) (n : Int) (hn : n = xs.length) : Ctr Try.prog 14 [.cols .ro 5 [.ints .u8 (.sym xs)]] [.sl 0 (.lit 0) (.sym n)] fun v H => v = .sbool (Formed xs) ∧ H = [.cols .ro 5 [.ints .u8 (.sym xs)]] := by
  obtain ⟨uI, uB, uS, uL, uT, hu⟩ := words
  have hm := mixed
  have hT := tabOk
  obtain ⟨P, hP⟩ : ∃ P, P = Try.prog := ⟨_, rfl⟩
  rw [← hP] at hm hT ⊢
  refine Ctr.weak (ctr_of_vc hu hm hT (hP ▸ Try.func14) rfl (by kernel_rfl) ?_)
  clear hP hm hT
  generalize hR : Weak _ _ = R
  cbv
  repeat' (first | (intro _; cbv) | (refine And.intro ?_ ?_))
  all_goals
    simp only [hu.b, hu.i, iB, iI, cmpB, Iv.val_sym, Iv.val_lit, Lv.raw, decide_eq_true_eq, decide_eq_false_iff_not, beq_iff_eq, beq_eq_false_iff_ne, ne_eq, ofN, Int.toNat_zero, natc] at *
    simp only [Int.ofNat_eq_natCast] at *
  all_goals first
    | (subst hR
       refine ⟨V.sbool (Formed xs), [.cols .ro 5 [.ints .u8 (.sym xs)]], ?_, ?_, rfl, rfl, rfl⟩
       · show _ = Formed xs
         unfold Formed
         symm
         first
           | (rw [decide_eq_true_eq]; omega)
           | (rw [decide_eq_false_iff_not]; omega)
       · exact ⟨⟨rfl, ⟨rfl, rfl⟩, trivial⟩, trivial⟩)
    | omega
theorem slotted_c (n : Int) : Ctr Try.prog 15 [] [.int .i64 (.sym n)] fun v H => ∃ b : Bool, (b = true ↔ 0 ≤ n ∧ n < 8) ∧ v = .sbool b ∧ H = [] :=
  (slotted_ctr n).mono fun v H h => ⟨_, decide_eq_true_iff, h.1, h.2⟩
theorem number_c (n : Int) : Ctr Try.prog 17 [] [.int .i64 (.sym n)] fun v H => ∃ b : Bool, (b = true ↔ 0 ≤ n ∧ n ≤ 65535) ∧ v = .sbool b ∧ H = [] :=
  (number_ctr n).mono fun v H h => ⟨_, decide_eq_true_iff, h.1, h.2⟩
theorem wraps_i64 (n : Int) (h₀ : 0 ≤ n) (h₁ : n < 2 ^ 32) : IntKind.i64.wrap n = n := by rw [IntKind.wrap_i64]; omega
theorem or16 {x y : Int} (h0 : 0 ≤ x) (h1 : x < 256) (h2 : 0 ≤ y) (h3 : y < 256) : binI .or .i64 (binI .shl .i64 x 8) y = 256 * x + y := by
  have e : binI .shl .i64 x 8 = x * 256 := by
    show IntKind.i64.wrap (x * 2 ^ (min 8 64)) = _
    rw [show (2 : Int) ^ (min 8 64) = 256 from rfl, IntKind.wrap_i64]; omega
  rw [e]
  show bits .or .i64 (x * 256) y = _
  rw [bits_join .i64 32 (by decide) wraps_i64 8 (x * 256) y (by omega) (by omega) (by omega) h2 (by omega) (by omega)]
  omega
theorem formed_c (xs : List Int) (n : Int) (hn : n = xs.length) : Ctr Try.prog 14 [.cols .ro 5 [.ints .u8 (.sym xs)]] [.sl 0 (.lit 0) (.sym n)] fun v H => ∃ b : Bool, (b = true ↔ (xs.getD 0 0 = 1 ∧ 6 < xs.length ∧ xs.length ≤ 206) ∨ (2 ≤ xs.getD 0 0 ∧ xs.getD 0 0 ≤ 4 ∧ xs.length = 2)) ∧ v = .sbool b ∧ H = [.cols .ro 5 [.ints .u8 (.sym xs)]] :=
  (formed_ctr xs n hn).mono fun v H h => ⟨_, decide_eq_true_iff, h.1, h.2⟩
/-- What Apply makes of a table. -/
def applyS (ts : List ByteArray) (ls fs xs : List Int) : (List ByteArray × List Int × List Int) × Option Int :=
  let i := (xs.getD 1 0).toNat
  if ¬ ((xs.getD 0 0 = 1 ∧ 6 < xs.length ∧ xs.length ≤ 206) ∨ (2 ≤ xs.getD 0 0 ∧ xs.getD 0 0 ≤ 4 ∧ xs.length = 2)) then ((ts, ls, fs), some 6)
  else if ¬ xs.getD 1 0 < 8 then ((ts, ls, fs), some 1)
  else if xs.getD 0 0 ≠ 1 ∧ (ts.getD i ByteArray.empty).toList = [] then ((ts, ls, fs), some 8)
  else if xs.getD 0 0 = 1 then ((ts.set i (strL (xs.drop 6)), ls.set i (256 * xs.getD 2 0 + xs.getD 3 0), fs.set i (256 * xs.getD 4 0 + xs.getD 5 0)), none)
  else if xs.getD 0 0 = 2 then ((ts.set i ByteArray.empty, ls.set i 0, fs.set i 0), none)
  else if xs.getD 0 0 = 3 then ((ts, ls, if fs.getD i 0 < 65535 then fs.set i (IntKind.i64.wrap (fs.getD i 0 + 1)) else fs), none)
  else ((ts, ls, fs.set i 0), none)
def tbV (t : List ByteArray × List Int × List Int) : V := .cols 24 [.strs (.sym t.1), .ints .i64 (.sym t.2.1), .ints .i64 (.sym t.2.2)]
def errV : Option Int → V
  | none => .nilif
  | some e => .iface 44 (.int .i64 (.sym e))
theorem apply_ctr (ts : List ByteArray) (ls fs : List Int) (xs : List Int) (n : Int) (hn : n = xs.length) (ht : ts.length = 8) (hl : ls.length = 8) (hf : fs.length = 8) (hx : ∀ i, 0 ≤ xs.getD i 0 ∧ xs.getD i 0 < 256) :
    Ctr Try.prog 8 [.cols .ro 5 [.ints .u8 (.sym xs)]] [tbV (ts, ls, fs), .sl 0 (.lit 0) (.sym n)] fun v H =>
      v = .tup [tbV (applyS ts ls fs xs).1, errV (applyS ts ls fs xs).2] ∧ H = [.cols .ro 5 [.ints .u8 (.sym xs)]] := by
  obtain ⟨uI, uB, uS, uL, uT, hu⟩ := words
  have hm := mixed
  have hT := tabOk
  have h15 := slotted_c
  have h14 := formed_c
  have w64 : ∀ i, IntKind.i64.wrap (xs.getD i 0) = xs.getD i 0 := fun i => by
    have := hx i
    rw [IntKind.wrap_i64]; omega
  have e0 : uL (.sub xs 0 n) = xs := by rw [hu.l]; simp [iL, subL, hn]
  obtain ⟨P, hP⟩ : ∃ P, P = Try.prog := ⟨_, rfl⟩
  rw [← hP] at hm hT h15 h14 ⊢
  refine Ctr.weak (ctr_of_vc hu hm hT (hP ▸ Try.func8) rfl (by kernel_rfl) ?_)
  clear hP hm hT
  unfold tbV
  generalize hR : Weak _ _ = R
  cbv
  repeat' (first | (intro h; (try subst h); cbv) | (refine And.intro ?_ ?_) | (refine CallVC.mk (Ctr.mono (h15 _) ?_); rintro v H ⟨b, hb, rfl, rfl⟩; cbv) | (refine CallVC.mk (Ctr.mono (h14 _ _ (by rw [hu.l]; simp [iL, subL, Lv.raw, hn])) ?_); rintro v H ⟨b, hb, rfl, rfl⟩; cbv))
  all_goals clear h14 h15
  all_goals
    simp only [hu.b, hu.i, iB, iI, cmpB, Iv.val_sym, Iv.val_lit, Lv.raw, decide_eq_true_eq, decide_eq_false_iff_not, beq_iff_eq, beq_eq_false_iff_ne, ne_eq, ofN, Int.toNat_zero, Int.toNat_one, Int.reduceToNat, natc, w64, e0, hu.s, iS, Sv.val_lit, Sv.val_sym, Tv.raw, true_iff, false_iff, Bool.false_eq_true, bne_iff_ne, bne_eq_false_iff_eq, Bool.not_eq_true', Decidable.not_not] at *
    try simp only [Int.ofNat_eq_natCast] at *
  all_goals try (have h0 := hx 0; have h1 := hx 1; omega)
  all_goals
    obtain ⟨q, hq⟩ : ∃ q, applyS ts ls fs xs = q := ⟨_, rfl⟩
    rw [hq] at hR
    unfold applyS at hq
    simp only [] at hq
    repeat' split at hq
  all_goals try (exfalso; have h0 := hx 0; have h1 := hx 1; omega)
  all_goals try (exfalso; simp_all; done)
  all_goals
    subst hq
    subst hR
    refine ⟨_, _, ?_, ?_, ?_, rfl, rfl⟩
  all_goals try exact ⟨⟨rfl, ⟨rfl, rfl⟩, trivial⟩, trivial⟩
  all_goals try rfl
  all_goals try (simp [V.sub, V.subL, ren, renL, tupV, colsSub, Col.sub, errV, Tv.raw, Lv.raw, hu.t, hu.l, hu.s, iT, iL, iS, binI]; done)
  · refine ⟨⟨rfl, ⟨?_, ⟨⟨rfl, ?_⟩, ⟨⟨rfl, ?_⟩, trivial⟩⟩⟩⟩, trivial, trivial⟩
    · show (uT _).t = _; rw [hu.t]; rfl
    · show uL _ = _; rw [hu.l]; rfl
    · show uL _ = _; rw [hu.l]; rfl
  · refine ⟨⟨rfl, ⟨?_, ⟨⟨rfl, ?_⟩, ⟨⟨rfl, ?_⟩, trivial⟩⟩⟩⟩, trivial, trivial⟩
    · show (uT _).t = _; rw [hu.t, hu.l]
      simp only [iT, iL, subL, Tv.raw, hn, Int.reduceToNat]
      rw [List.take_of_length_le (by simp; omega)]
    · show uL _ = _; rw [hu.l, or16 (hx 2).1 (hx 2).2 (hx 3).1 (hx 3).2]; rfl
    · show uL _ = _; rw [hu.l, or16 (hx 4).1 (hx 4).2 (hx 5).1 (hx 5).2]; rfl
/-- Put's error. -/
def putE (i l f : Int) (s : ByteArray) : Option Int :=
  if ¬ (0 ≤ i ∧ i < 8 ∧ 0 ≤ l ∧ l ≤ 65535 ∧ 0 ≤ f ∧ f ≤ 65535) then some 1
  else if s.size < 1 ∨ 200 < s.size then some 2 else none
/-- Put's bytes. -/
def putL (i l f : Int) (s : ByteArray) : List Int := [1, i, l / 256, l % 256, f / 256, f % 256] ++ bytesL s
def PutR (i l f : Int) (s : ByteArray) (v : V) (H : Hp) : Prop :=
  (∃ e, putE i l f s = some e ∧ v = .tup [.nilsl, .iface 44 (.int .i64 (.sym e))] ∧ H = []) ∨
  (putE i l f s = none ∧ v = .tup [.vec 0 (.sym (6 + s.size)), .nilif] ∧ H = [.cols (.row 1) 5 [.ints .u8 (.sym (putL i l f s))]])
theorem put_ctr (i l f : Int) (s : ByteArray) : Ctr Try.prog 11 [] [.int .i64 (.sym i), .agg [.str (.sym s), .int .i64 (.sym l), .int .i64 (.sym f)]] (PutR i l f s) := by
  obtain ⟨uI, uB, uS, uL, uT, hu⟩ := words
  have hm := mixed
  have hT := tabOk
  have h15 := @slotted_c
  have h17 := @number_c
  obtain ⟨P, hP⟩ : ∃ P, P = Try.prog := ⟨_, rfl⟩
  rw [← hP] at hm hT h15 h17 ⊢
  refine Ctr.weak (ctr_of_vc hu hm hT (hP ▸ Try.func11) rfl (by kernel_rfl) ?_)
  clear hP hm hT
  generalize hR : Weak _ _ = R
  cbv
  repeat' (first | (intro h; (try subst h); cbv) | (refine And.intro ?_ ?_) | (refine CallVC.mk (Ctr.mono (h15 _) ?_); rintro v H ⟨b, hb, rfl, rfl⟩ <;> cbv) | (refine CallVC.mk (Ctr.mono (h17 _) ?_); rintro v H ⟨b, hb, rfl, rfl⟩ <;> cbv))
  all_goals clear h15 h17
  all_goals
    simp only [hu.b, hu.i, iB, iI, cmpB, Iv.val_sym, Iv.val_lit, Lv.raw, Tv.raw, decide_eq_true_eq, decide_eq_false_iff_not, beq_iff_eq, beq_eq_false_iff_ne, ne_eq, ofN, Int.toNat_zero, Int.toNat_one, Int.reduceToNat, natc, hu.s, iS, Sv.val_lit, Sv.val_sym, true_iff, false_iff, Bool.false_eq_true, bne_iff_ne, bne_eq_false_iff_eq, Bool.not_eq_true', Bool.not_eq_false', Decidable.not_not, nil_toList, ByteArray.size_empty, nilS, not_true_eq_false, not_false_eq_true, hu.l, iL] at *
    try simp only [Int.ofNat_eq_natCast] at *
  all_goals try omega
  · subst hR
    exact Weak.of (.inl ⟨2, by (unfold putE; repeat' split) <;> first | rfl | (exfalso; omega), rfl, rfl⟩) ⟨trivial, ⟨rfl, rfl, rfl⟩, trivial⟩ trivial rfl
  · subst hR
    exact Weak.of (.inl ⟨2, by (unfold putE; repeat' split) <;> first | rfl | (exfalso; omega), rfl, rfl⟩) ⟨trivial, ⟨rfl, rfl, rfl⟩, trivial⟩ trivial rfl
  · subst hR
    have e1 : ∀ n : Int, IntKind.u8.wrap n = n % 256 := wr_u8
    have e2 : ∀ n : Int, binI .shr .i64 n 8 = n / 256 := fun n => fdiv2 n 8
    refine Weak.of (.inr ⟨by (unfold putE; repeat' split) <;> first | rfl | (exfalso; omega), rfl, rfl⟩) ⟨⟨rfl, ?_⟩, trivial, trivial⟩ ⟨⟨rfl, rfl, ⟨⟨rfl, ?_⟩, trivial⟩⟩, trivial⟩ rfl
    · simp only [Iv.val_sym, hu.i, hu.l, iI, iL, Lv.raw, List.length_append, bytesL_length, lvals, List.length_cons, List.length_nil]; omega
    · simp only [Iv.val_sym, Iv.val_lit, hu.i, hu.l, iI, iL, Lv.raw, lvals, e1, e2, putL]
      congr 1
      simp only [List.cons.injEq, and_true, true_and]
      omega
  all_goals
    subst hR
    exact Weak.of (.inl ⟨1, by (unfold putE; repeat' split) <;> first | rfl | (exfalso; omega), rfl, rfl⟩) ⟨trivial, ⟨rfl, rfl, rfl⟩, trivial⟩ trivial rfl
theorem put_c (i l f : Iv) (s : Sv) : Ctr Try.prog 11 [] [.int .i64 i, .agg [.str s, .int .i64 l, .int .i64 f]] (PutR i.val l.val f.val s.val) :=
  (put_ctr i.val l.val f.val s.val).conv trivial ⟨⟨rfl, rfl⟩, ⟨rfl, ⟨rfl, rfl⟩, ⟨rfl, rfl⟩, trivial⟩, trivial⟩
/-- Mark. -/
def MarkR (k i : Int) (v : V) (H : Hp) : Prop :=
  (¬ (2 ≤ k ∧ k ≤ 4 ∧ 0 ≤ i ∧ i < 8) ∧ v = .tup [.nilsl, .iface 44 (.int .i64 (.sym 1))] ∧ H = []) ∨
  ((2 ≤ k ∧ k ≤ 4 ∧ 0 ≤ i ∧ i < 8) ∧ v = .tup [.vec 0 (.lit 2), .nilif] ∧ H = [.cols (.row 1) 5 [.ints .u8 (.sym [k, i])]])
theorem mark_ctr (k i : Int) : Ctr Try.prog 12 [] [.int .i64 (.sym k), .int .i64 (.sym i)] (MarkR k i) := by
  obtain ⟨uI, uB, uS, uL, uT, hu⟩ := words
  have hm := mixed
  have hT := tabOk
  have h15 := @slotted_c
  obtain ⟨P, hP⟩ : ∃ P, P = Try.prog := ⟨_, rfl⟩
  rw [← hP] at hm hT h15 ⊢
  refine Ctr.weak (ctr_of_vc hu hm hT (hP ▸ Try.func12) rfl (by kernel_rfl) ?_)
  clear hP hm hT
  generalize hR : Weak _ _ = R
  cbv
  repeat' (first | (intro h; (try subst h); cbv) | (refine And.intro ?_ ?_) | (refine CallVC.mk (Ctr.mono (h15 _) ?_); rintro v H ⟨b, hb, rfl, rfl⟩ <;> cbv))
  all_goals clear h15
  all_goals
    simp only [hu.b, hu.i, iB, iI, cmpB, Iv.val_sym, Iv.val_lit, Lv.raw, Tv.raw, decide_eq_true_eq, decide_eq_false_iff_not, beq_iff_eq, beq_eq_false_iff_ne, ne_eq, ofN, Int.toNat_zero, Int.toNat_one, Int.reduceToNat, natc, hu.s, iS, Sv.val_lit, Sv.val_sym, true_iff, false_iff, Bool.false_eq_true, bne_iff_ne, bne_eq_false_iff_eq, Bool.not_eq_true', Bool.not_eq_false', Decidable.not_not, nil_toList, ByteArray.size_empty, nilS, not_true_eq_false, not_false_eq_true, hu.l, iL] at *
    try simp only [Int.ofNat_eq_natCast] at *
  all_goals subst hR
  all_goals first
    | exact Weak.of (.inl ⟨by omega, rfl, rfl⟩) ⟨trivial, ⟨rfl, rfl, rfl⟩, trivial⟩ trivial rfl
    | (refine Weak.of (.inr ⟨by omega, rfl, rfl⟩) ⟨⟨rfl, rfl⟩, trivial, trivial⟩ ⟨⟨rfl, rfl, ⟨⟨rfl, ?_⟩, trivial⟩⟩, trivial⟩ rfl
       simp only [Iv.val_sym, Iv.val_lit, hu.i, hu.l, iI, iL, Lv.raw, lvals, wr_u8, List.cons.injEq, and_true]
       omega)
theorem mark_c (k i : Iv) : Ctr Try.prog 12 [] [.int .i64 k, .int .i64 i] (MarkR k.val i.val) :=
  (mark_ctr k.val i.val).conv trivial ⟨⟨rfl, rfl⟩, ⟨rfl, rfl⟩, trivial⟩
/-- Apply, as it is taken. -/
def ApplyR (ts : List ByteArray) (ls fs xs : List Int) (v : V) : Prop :=
  (∃ t, applyS ts ls fs xs = (t, none) ∧ v = .tup [tbV t, .nilif]) ∨ (∃ e, applyS ts ls fs xs = ((ts, ls, fs), some e) ∧ v = .tup [tbV (ts, ls, fs), .iface 44 (.int .i64 (.sym e))])
theorem applyS_err {ts ls fs xs t e} (h : applyS ts ls fs xs = (t, some e)) : t = (ts, ls, fs) := by
  unfold applyS at h
  simp only [] at h
  repeat' split at h
  all_goals first
    | (simp only [Prod.mk.injEq] at h; exact h.1.symm)
    | (simp at h; done)
theorem apply_c (ts : Tv) (ls fs xs : Lv) (n : Iv) (hn : n.val = xs.raw.length) (ht : ts.raw.length = 8) (hl : ls.raw.length = 8) (hf : fs.raw.length = 8) (hx : Bytes xs.raw) :
    Ctr Try.prog 8 [.cols .ro 5 [.ints .u8 xs]] [.cols 24 [.strs ts, .ints .i64 ls, .ints .i64 fs], .sl 0 (.lit 0) n] fun v H => ApplyR ts.raw ls.raw fs.raw xs.raw v ∧ H = [.cols .ro 5 [.ints .u8 (.sym xs.raw)]] := by
  refine Ctr.mono ((apply_ctr ts.raw ls.raw fs.raw xs.raw n.val hn ht hl hf (fun i => hx.get i)).conv ⟨⟨⟨rfl, ⟨rfl, rfl⟩, trivial⟩, rfl⟩, trivial⟩ ⟨⟨rfl, rfl, ⟨rfl, rfl⟩, ⟨rfl, rfl⟩, trivial⟩, ⟨rfl, rfl, rfl⟩, trivial⟩) ?_
  rintro v H ⟨rfl, rfl⟩
  refine ⟨?_, rfl⟩
  obtain ⟨⟨t, e⟩, hq⟩ : ∃ q, applyS ts.raw ls.raw fs.raw xs.raw = q := ⟨_, rfl⟩
  rw [hq]
  cases e with
  | none => exact .inl ⟨t, hq, rfl⟩
  | some e => exact .inr ⟨e, by rw [hq, applyS_err hq], by simp only [errV, applyS_err hq]⟩
/-- Locked. -/
def LockedR (ts : List ByteArray) (ls fs : List Int) (i : Int) (v : V) : Prop :=
  (¬ (0 ≤ i ∧ i < 8) ∧ v = .tup [.bool false, .iface 44 (.int .i64 (.sym 1))]) ∨ ((0 ≤ i ∧ i < 8) ∧ (ts.getD i.toNat ByteArray.empty).size = 0 ∧ v = .tup [.bool false, .iface 44 (.int .i64 (.sym 8))]) ∨
  ((0 ≤ i ∧ i < 8) ∧ (ts.getD i.toNat ByteArray.empty).size ≠ 0 ∧ ∃ b : Bool, (b = true ↔ 0 < ls.getD i.toNat 0 ∧ ls.getD i.toNat 0 ≤ fs.getD i.toNat 0) ∧ v = .tup [.sbool b, .nilif])
theorem locked_ctr (ts : List ByteArray) (ls fs : List Int) (i : Int) (ht : ts.length = 8) (hl : ls.length = 8) (hf : fs.length = 8) : Ctr Try.prog 13 [] [tbV (ts, ls, fs), .int .i64 (.sym i)] fun v H => LockedR ts ls fs i v ∧ H = [] := by
  unfold tbV
  obtain ⟨uI, uB, uS, uL, uT, hu⟩ := words
  have hm := mixed
  have hT := tabOk
  have h15 := @slotted_c
  obtain ⟨P, hP⟩ : ∃ P, P = Try.prog := ⟨_, rfl⟩
  rw [← hP] at hm hT h15 ⊢
  refine Ctr.weak (ctr_of_vc hu hm hT (hP ▸ Try.func13) rfl (by kernel_rfl) ?_)
  clear hP hm hT
  generalize hR : Weak _ _ = R
  cbv
  repeat' (first | (intro h; (try subst h); cbv) | (refine And.intro ?_ ?_) | (refine CallVC.mk (Ctr.mono (h15 _) ?_); rintro v H ⟨b, hb, rfl, rfl⟩ <;> cbv))
  all_goals clear h15
  all_goals
    simp only [hu.b, hu.i, iB, iI, cmpB, Iv.val_sym, Iv.val_lit, Lv.raw, Tv.raw, decide_eq_true_eq, decide_eq_false_iff_not, beq_iff_eq, beq_eq_false_iff_ne, ne_eq, ofN, Int.toNat_zero, Int.toNat_one, Int.reduceToNat, natc, hu.s, iS, Sv.val_lit, Sv.val_sym, true_iff, false_iff, Bool.false_eq_true, bne_iff_ne, bne_eq_false_iff_eq, Bool.not_eq_true', Bool.not_eq_false', Decidable.not_not, nil_toList, ByteArray.size_empty, nilS, not_true_eq_false, not_false_eq_true, hu.l, iL] at *
    try simp only [Int.ofNat_eq_natCast] at *
  all_goals try omega
  all_goals subst hR
  all_goals first
    | exact Weak.of ⟨.inl ⟨by omega, rfl⟩, rfl⟩ ⟨rfl, ⟨rfl, rfl, rfl⟩, trivial⟩ trivial rfl
    | exact Weak.of ⟨.inr (.inl ⟨by omega, by omega, rfl⟩), rfl⟩ ⟨rfl, ⟨rfl, rfl, rfl⟩, trivial⟩ trivial rfl
    | exact Weak.of ⟨.inr (.inr ⟨by omega, by omega, true, by simp only [true_iff]; omega, rfl⟩), rfl⟩ ⟨rfl, trivial, trivial⟩ trivial rfl
    | exact Weak.of ⟨.inr (.inr ⟨by omega, by omega, false, by simp only [false_iff, Bool.false_eq_true]; omega, rfl⟩), rfl⟩ ⟨rfl, trivial, trivial⟩ trivial rfl
theorem locked_c (ts : Tv) (ls fs : Lv) (i : Iv) (ht : ts.raw.length = 8) (hl : ls.raw.length = 8) (hf : fs.raw.length = 8) : Ctr Try.prog 13 [] [.cols 24 [.strs ts, .ints .i64 ls, .ints .i64 fs], .int .i64 i] fun v H => LockedR ts.raw ls.raw fs.raw i.val v ∧ H = [] :=
  (locked_ctr ts.raw ls.raw fs.raw i.val ht hl hf).conv trivial ⟨⟨rfl, rfl, ⟨rfl, rfl⟩, ⟨rfl, rfl⟩, trivial⟩, ⟨rfl, rfl⟩, trivial⟩
def Len8 (t : List ByteArray × List Int × List Int) : Prop := t.1.length = 8 ∧ t.2.1.length = 8 ∧ t.2.2.length = 8
theorem applyS_len {ts ls fs xs t e} (h : applyS ts ls fs xs = (t, e)) (ht : ts.length = 8) (hl : ls.length = 8) (hf : fs.length = 8) : Len8 t := by
  unfold applyS at h
  simp only [] at h
  repeat' split at h
  all_goals
    simp only [Prod.mk.injEq] at h
    obtain ⟨rfl, rfl⟩ := h
    first | exact ⟨ht, hl, hf⟩ | (refine ⟨?_, ?_, ?_⟩ <;> simp [ht, hl, hf])
/-! What is so where it is known how it ends. -/
theorem put_y (i l f : Iv) (s : Sv) (h : (putE i.val l.val f.val s.val).isNone = true) : Ctr Try.prog 11 [] [.int .i64 i, .agg [.str s, .int .i64 l, .int .i64 f]] fun v H => v = .tup [.vec 0 (.sym (6 + s.val.size)), .nilif] ∧ H = [.cols (.row 1) 5 [.ints .u8 (.sym (putL i.val l.val f.val s.val))]] :=
  (put_c i l f s).mono fun v H h' => by
    rcases h' with ⟨e, he, _⟩ | ⟨_, h1, h2⟩
    · rw [he] at h; cases h
    · exact ⟨h1, h2⟩
theorem mark_y (k i : Iv) (h : 2 ≤ k.val ∧ k.val ≤ 4 ∧ 0 ≤ i.val ∧ i.val < 8) : Ctr Try.prog 12 [] [.int .i64 k, .int .i64 i] fun v H => v = .tup [.vec 0 (.lit 2), .nilif] ∧ H = [.cols (.row 1) 5 [.ints .u8 (.sym [k.val, i.val])]] :=
  (mark_c k i).mono fun v H h' => by
    rcases h' with ⟨he, _⟩ | ⟨_, h1, h2⟩
    · exact absurd h he
    · exact ⟨h1, h2⟩
theorem apply_y (ts : Tv) (ls fs xs : Lv) (n : Iv) (hn : n.val = xs.raw.length) (ht : ts.raw.length = 8) (hl : ls.raw.length = 8) (hf : fs.raw.length = 8) (hx : Bytes xs.raw) (h : (applyS ts.raw ls.raw fs.raw xs.raw).2.isNone = true) :
    Ctr Try.prog 8 [.cols .ro 5 [.ints .u8 xs]] [.cols 24 [.strs ts, .ints .i64 ls, .ints .i64 fs], .sl 0 (.lit 0) n] fun v H => v = .tup [tbV (applyS ts.raw ls.raw fs.raw xs.raw).1, .nilif] ∧ H = [.cols .ro 5 [.ints .u8 (.sym xs.raw)]] := by
  refine Ctr.mono (apply_c ts ls fs xs n hn ht hl hf hx) ?_
  rintro v H ⟨(⟨t, h1, rfl⟩ | ⟨e, h1, rfl⟩), rfl⟩
  · exact ⟨by rw [h1], rfl⟩
  · rw [h1] at h; cases h
theorem locked_y (ts : Tv) (ls fs : Lv) (i : Iv) (b : Bool) (ht : ts.raw.length = 8) (hl : ls.raw.length = 8) (hf : fs.raw.length = 8) (hi : 0 ≤ i.val ∧ i.val < 8) (hs : (ts.raw.getD i.val.toNat ByteArray.empty).size ≠ 0) (hb : decide (0 < ls.raw.getD i.val.toNat 0 ∧ ls.raw.getD i.val.toNat 0 ≤ fs.raw.getD i.val.toNat 0) = b) :
    Ctr Try.prog 13 [] [.cols 24 [.strs ts, .ints .i64 ls, .ints .i64 fs], .int .i64 i] fun v H => v = .tup [.bool b, .nilif] ∧ H = [] := by
  refine Ctr.weak (Ctr.mono (locked_c ts ls fs i ht hl hf) ?_)
  rintro v H ⟨(⟨h, _⟩ | ⟨_, h, _⟩ | ⟨_, _, c, hc, rfl⟩), rfl⟩
  · exact absurd hi h
  · exact absurd h hs
  · refine Weak.of ⟨rfl, rfl⟩ ⟨?_, trivial, trivial⟩ trivial rfl
    show c = b
    rw [← hb, eq_comm, Bool.eq_iff_iff, decide_eq_true_iff, hc]
theorem awake_ctr : Ctr Try.prog 6 [] [] fun v H => v = .bool true ∧ H = [] := by
  obtain ⟨uI, uB, uS, uL, uT, hu⟩ := words
  have hm := mixed
  have hT := tabOk
  have h11 := @put_y
  have h12 := @mark_y
  have h8 := @apply_y
  have h13 := @locked_y
  obtain ⟨P, hP⟩ : ∃ P, P = Try.prog := ⟨_, rfl⟩
  rw [← hP] at hm hT h11 h12 h8 h13 ⊢
  refine Ctr.weak (ctr_of_vc hu hm hT (hP ▸ Try.func6) rfl (by kernel_rfl) ?_)
  clear hP hm hT
  generalize hR : Weak _ _ = R
  cbv
  repeat' (first | (intro h; (try subst h); cbv) | (refine And.intro ?_ ?_) | (refine CallVC.mk (Ctr.mono (h11 _ _ _ _ (by decide +kernel)) ?_); rintro v H ⟨rfl, rfl⟩ <;> cbv) | (refine CallVC.mk (Ctr.mono (h12 _ _ (by decide +kernel)) ?_); rintro v H ⟨rfl, rfl⟩ <;> cbv) | (refine CallVC.mk (Ctr.mono (h8 _ _ _ _ _ (by rfl) (by rfl) (by rfl) (by rfl) (by unfold Bytes; decide +kernel) (by decide +kernel)) ?_); rintro v H ⟨rfl, rfl⟩ <;> cbv) | (refine CallVC.mk (Ctr.mono (h13 _ _ _ _ _ (by rfl) (by rfl) (by rfl) (by decide +kernel) (by decide +kernel) (by rfl)) ?_); rintro v H ⟨rfl, rfl⟩ <;> cbv))
  all_goals clear h8 h11 h12 h13
  all_goals first
    | (rw [hu.b]; simp only [iB, cmpB, hu.i, iI, Iv.val_sym, Iv.val_lit, List.length_cons, List.length_nil]; decide +kernel)
    | (subst hR; exact Weak.of ⟨rfl, rfl⟩ rfl trivial rfl)
    | (clear hR
       obtain rfl : uI = iI := funext hu.i
       obtain rfl : uS = iS := funext hu.s
       obtain rfl : uB = iB := funext hu.b
       exfalso
       repeat (first | exact absurd h (by decide +kernel) | clear h))
end Go.Proofs.Ytdpfjoojppmpbaa
namespace Go.Proofs.Ytdpfjoojppmpbaa
open Go Sx
set_option maxRecDepth 100000
set_option maxHeartbeats 2000000
/-! What a table is saved as makes it anew: plain. -/
abbrev Tb := List ByteArray × List Int × List Int
def RtAt (t : Tb) (i : Nat) : Prop := ((t.1.getD i ByteArray.empty).size = 0 ∧ t.2.1.getD i 0 = 0 ∧ t.2.2.getD i 0 = 0) ∨
  (1 ≤ (t.1.getD i ByteArray.empty).size ∧ (t.1.getD i ByteArray.empty).size ≤ 200 ∧ 0 ≤ t.2.1.getD i 0 ∧ t.2.1.getD i 0 ≤ 65535 ∧ 0 ≤ t.2.2.getD i 0 ∧ t.2.2.getD i 0 ≤ 65535)
structure Rt (t : Tb) : Prop where
  l1 : t.1.length = 8
  l2 : t.2.1.length = 8
  l3 : t.2.2.length = 8
  at_ : ∀ i, i < 8 → RtAt t i
theorem lget_set {α : Type} (l : List α) (i j : Nat) (v d : α) (hi : i < l.length) : (l.set i v).getD j d = if i = j then v else l.getD j d := by
  rw [List.getD_eq_getElem?_getD, List.getElem?_set]
  by_cases h : i = j
  · rw [if_pos h, if_pos h, if_pos hi]; rfl
  · rw [if_neg h, if_neg h, ← List.getD_eq_getElem?_getD]
theorem strL_size (xs : List Int) : (strL xs).size = xs.length := by simp [strL, ByteArray.size]
theorem applyS_rt {t t' : Tb} {xs : List Int} {e : Option Int} (h : Rt t) (hx : Bytes xs) (he : applyS t.1 t.2.1 t.2.2 xs = (t', e)) : Rt t' := by
  have hl := applyS_len he h.l1 h.l2 h.l3
  refine ⟨hl.1, hl.2.1, hl.2.2, fun i hi => ?_⟩
  have h1 := hx.get 1; have h2 := hx.get 2; have h3 := hx.get 3; have h4 := hx.get 4; have h5 := hx.get 5
  have hi0 := h.at_ i hi
  have k1 := h.l1; have k2 := h.l2; have k3 := h.l3
  unfold applyS at he
  simp only [] at he
  repeat' split at he
  all_goals
    simp only [Prod.mk.injEq] at he
    obtain ⟨rfl, rfl⟩ := he
  · exact hi0
  · exact hi0
  · exact hi0
  · unfold RtAt
    rw [lget_set _ _ _ _ _ (by omega), lget_set _ _ _ _ _ (by omega), lget_set _ _ _ _ _ (by omega)]
    by_cases hq : (xs.getD 1 0).toNat = i
    · rw [if_pos hq, if_pos hq, if_pos hq, strL_size, List.length_drop]
      right; omega
    · rw [if_neg hq, if_neg hq, if_neg hq]; exact hi0
  · unfold RtAt
    rw [lget_set _ _ _ _ _ (by omega), lget_set _ _ _ _ _ (by omega), lget_set _ _ _ _ _ (by omega)]
    by_cases hq : (xs.getD 1 0).toNat = i
    · rw [if_pos hq, if_pos hq, if_pos hq]
      exact .inl ⟨rfl, rfl, rfl⟩
    · rw [if_neg hq, if_neg hq, if_neg hq]; exact hi0
  all_goals
    have hne : ¬ (xs.getD 0 0 ≠ 1 ∧ (t.1.getD (xs.getD 1 0).toNat ByteArray.empty).toList = []) := by assumption
    have h01 : xs.getD 0 0 ≠ 1 := by assumption
    unfold RtAt at hi0 ⊢
    by_cases hq : (xs.getD 1 0).toNat = i
    · subst hq
      have hs : (t.1.getD (xs.getD 1 0).toNat ByteArray.empty).size ≠ 0 := fun e0 => hne ⟨h01, nil_toList.2 e0⟩
      have hi1 : 1 ≤ (t.1.getD (xs.getD 1 0).toNat ByteArray.empty).size ∧ (t.1.getD (xs.getD 1 0).toNat ByteArray.empty).size ≤ 200 ∧ 0 ≤ t.2.1.getD (xs.getD 1 0).toNat 0 ∧ t.2.1.getD (xs.getD 1 0).toNat 0 ≤ 65535 ∧ 0 ≤ t.2.2.getD (xs.getD 1 0).toNat 0 ∧ t.2.2.getD (xs.getD 1 0).toNat 0 ≤ 65535 := by
        rcases hi0 with ⟨h1, _⟩ | h1
        · exact absurd h1 hs
        · exact h1
      right
      dsimp only
      first
        | exact hi1
        | (rw [lget_set _ _ _ _ _ (by omega), if_pos rfl]; first | omega | (rw [IntKind.wrap_i64]; omega))
    · dsimp only
      first
        | exact hi0
        | (rw [lget_set _ _ _ _ _ (by omega), if_neg hq]; exact hi0)
def tabN (t : Tb) (n : Nat) : Tb :=
  ((List.range 8).map fun i => if i < n then t.1.getD i ByteArray.empty else ByteArray.empty, (List.range 8).map fun i => if i < n then t.2.1.getD i 0 else 0, (List.range 8).map fun i => if i < n then t.2.2.getD i 0 else 0)
def recN (t : Tb) (n : Nat) : List Int := putL n (t.2.1.getD n 0) (t.2.2.getD n 0) (t.1.getD n ByteArray.empty)
def saveN (t : Tb) : Nat → List (List Int)
  | 0 => []
  | n + 1 => saveN t n ++ if (t.1.getD n ByteArray.empty).size = 0 then [] else [recN t n]
theorem rget {α : Type} (f : Nat → α) (d : α) {i : Nat} (hi : i < 8) : ((List.range 8).map f).getD i d = f i := by
  rw [List.getD_eq_getElem?_getD, List.getElem?_map, List.getElem?_range hi]; rfl
theorem leq8 {α : Type} (d : α) {l m : List α} (hl : l.length = 8) (hm : m.length = 8) (h : ∀ i, i < 8 → l.getD i d = m.getD i d) : l = m := by
  refine List.ext_getElem (by omega) fun i h1 h2 => ?_
  have := h i (by omega)
  rwa [List.getD_eq_getElem?_getD, List.getD_eq_getElem?_getD, List.getElem?_eq_getElem h1, List.getElem?_eq_getElem h2] at this
theorem tabN_l (t : Tb) (n : Nat) : (tabN t n).1.length = 8 ∧ (tabN t n).2.1.length = 8 ∧ (tabN t n).2.2.length = 8 := by simp [tabN]
theorem tabN_all {t : Tb} (h : Rt t) : tabN t 8 = t := by
  obtain ⟨a, b, c⟩ := t
  refine Prod.ext ?_ (Prod.ext ?_ ?_)
  · exact leq8 ByteArray.empty (tabN_l _ _).1 h.l1 fun i hi => by rw [show (tabN (a, b, c) 8).1 = (List.range 8).map fun i => if i < 8 then a.getD i ByteArray.empty else ByteArray.empty from rfl, rget _ _ hi, if_pos hi]
  · exact leq8 0 (tabN_l _ _).2.1 h.l2 fun i hi => by rw [show (tabN (a, b, c) 8).2.1 = (List.range 8).map fun i => if i < 8 then b.getD i 0 else 0 from rfl, rget _ _ hi, if_pos hi]
  · exact leq8 0 (tabN_l _ _).2.2 h.l3 fun i hi => by rw [show (tabN (a, b, c) 8).2.2 = (List.range 8).map fun i => if i < 8 then c.getD i 0 else 0 from rfl, rget _ _ hi, if_pos hi]
theorem tabN_skip {t : Tb} (h : Rt t) {n : Nat} (hn : n < 8) (h0 : (t.1.getD n ByteArray.empty).size = 0) : tabN t (n + 1) = tabN t n := by
  have hr : t.2.1.getD n 0 = 0 ∧ t.2.2.getD n 0 = 0 := by
    rcases h.at_ n hn with ⟨_, h1, h2⟩ | h1
    · exact ⟨h1, h2⟩
    · omega
  have hs : t.1.getD n ByteArray.empty = ByteArray.empty := ByteArray.size_eq_zero_iff.1 h0
  unfold tabN
  refine Prod.ext ?_ (Prod.ext ?_ ?_) <;> dsimp only <;>
    refine List.map_congr_left fun i hi => ?_ <;>
    (by_cases h1 : i < n
     · rw [if_pos (by omega), if_pos h1]
     · rw [if_neg h1]
       by_cases h2 : i = n
       · subst h2; rw [if_pos (by omega)]; first | exact hs | exact hr.1 | exact hr.2
       · rw [if_neg (by omega)])
theorem tabN_put {t : Tb} (h : Rt t) {n : Nat} (hn : n < 8) (h0 : (t.1.getD n ByteArray.empty).size ≠ 0) : applyS (tabN t n).1 (tabN t n).2.1 (tabN t n).2.2 (recN t n) = (tabN t (n + 1), none) := by
  have hr : 1 ≤ (t.1.getD n ByteArray.empty).size ∧ (t.1.getD n ByteArray.empty).size ≤ 200 ∧ 0 ≤ t.2.1.getD n 0 ∧ t.2.1.getD n 0 ≤ 65535 ∧ 0 ≤ t.2.2.getD n 0 ∧ t.2.2.getD n 0 ≤ 65535 := by
    rcases h.at_ n hn with ⟨h1, _⟩ | h1
    · exact absurd h1 h0
    · exact h1
  unfold recN
  obtain ⟨l, hl⟩ : ∃ l, l = t.2.1.getD n 0 := ⟨_, rfl⟩
  obtain ⟨f, hf⟩ : ∃ f, f = t.2.2.getD n 0 := ⟨_, rfl⟩
  rw [← hl, ← hf] at hr ⊢
  have e0 : (putL n l f (t.1.getD n ByteArray.empty)).getD 0 0 = 1 := rfl
  have e1 : (putL n l f (t.1.getD n ByteArray.empty)).getD 1 0 = n := rfl
  have e2 : (putL n l f (t.1.getD n ByteArray.empty)).getD 2 0 = l / 256 := rfl
  have e3 : (putL n l f (t.1.getD n ByteArray.empty)).getD 3 0 = l % 256 := rfl
  have e4 : (putL n l f (t.1.getD n ByteArray.empty)).getD 4 0 = f / 256 := rfl
  have e5 : (putL n l f (t.1.getD n ByteArray.empty)).getD 5 0 = f % 256 := rfl
  have e6 : (putL n l f (t.1.getD n ByteArray.empty)).drop 6 = bytesL (t.1.getD n ByteArray.empty) := rfl
  have e7 : (putL n l f (t.1.getD n ByteArray.empty)).length = 6 + (t.1.getD n ByteArray.empty).size := by
    rw [putL, List.length_append, bytesL_length]; rfl
  unfold applyS
  have c1 : 6 < 6 + (t.1.getD n ByteArray.empty).size := by omega
  have c2 : 6 + (t.1.getD n ByteArray.empty).size ≤ 206 := by omega
  have c3 : (n : Int) < 8 := by omega
  simp only [e0, e1, e2, e3, e4, e5, e6, e7, c1, c2, c3, ne_eq, not_true_eq_false, false_and, true_and, and_true, and_self, true_or, if_false, if_true]
  rw [strL_bytesL, show 256 * (l / 256) + l % 256 = l by omega, show 256 * (f / 256) + f % 256 = f by omega]
  have n1 : (n : Int).toNat = n := rfl
  have a1 : (tabN t n).1.set n (t.1.getD n ByteArray.empty) = (tabN t (n + 1)).1 := leq8 ByteArray.empty (by simp [tabN]) (by simp [tabN]) fun i hi => by
    rw [lget_set _ _ _ _ _ (by simp [tabN]; omega), tabN, tabN, rget _ _ hi, rget _ _ hi]
    by_cases h1 : n = i
    · subst h1; rw [if_pos rfl, if_pos (by omega)]
    · rw [if_neg h1]
      by_cases h2 : i < n
      · rw [if_pos h2, if_pos (by omega)]
      · rw [if_neg h2, if_neg (by omega)]
  have a2 : (tabN t n).2.1.set n l = (tabN t (n + 1)).2.1 := leq8 0 (by simp [tabN]) (by simp [tabN]) fun i hi => by
    rw [lget_set _ _ _ _ _ (by simp [tabN]; omega), tabN, tabN, rget _ _ hi, rget _ _ hi]
    by_cases h1 : n = i
    · subst h1; rw [if_pos rfl, if_pos (by omega)]; exact hl
    · rw [if_neg h1]
      by_cases h2 : i < n
      · rw [if_pos h2, if_pos (by omega)]
      · rw [if_neg h2, if_neg (by omega)]
  have a3 : (tabN t n).2.2.set n f = (tabN t (n + 1)).2.2 := leq8 0 (by simp [tabN]) (by simp [tabN]) fun i hi => by
    rw [lget_set _ _ _ _ _ (by simp [tabN]; omega), tabN, tabN, rget _ _ hi, rget _ _ hi]
    by_cases h1 : n = i
    · subst h1; rw [if_pos rfl, if_pos (by omega)]; exact hf
    · rw [if_neg h1]
      by_cases h2 : i < n
      · rw [if_pos h2, if_pos (by omega)]
      · rw [if_neg h2, if_neg (by omega)]
  rw [n1, a1, a2, a3]
theorem saveN_pre (t : Tb) {m n : Nat} (h : m ≤ n) : ∃ r, saveN t n = saveN t m ++ r := by
  induction n with
  | zero => exact ⟨[], by rw [show m = 0 by omega]; rfl⟩
  | succ n ih =>
    by_cases h1 : m ≤ n
    · obtain ⟨r, hr⟩ := ih h1
      exact ⟨r ++ if (t.1.getD n ByteArray.empty).size = 0 then [] else [recN t n], by rw [saveN, hr, List.append_assoc]⟩
    · exact ⟨[], by rw [show m = n + 1 by omega, List.append_nil]⟩
theorem saveN_le (t : Tb) : ∀ n, (saveN t n).length ≤ n
  | 0 => Nat.le_refl _
  | n + 1 => by
    have := saveN_le t n
    rw [saveN, List.length_append]
    split <;> simp <;> omega
theorem tabN_count {t : Tb} (h : Rt t) : ∀ {m n : Nat}, m ≤ n → n ≤ 8 → (saveN t m).length = (saveN t n).length → tabN t m = tabN t n
  | m, 0, h1, _, _ => by rw [show m = 0 by omega]
  | m, n + 1, h1, h2, h3 => by
    by_cases hm : m = n + 1
    · rw [hm]
    · obtain ⟨r, hr⟩ := saveN_pre t (m := m) (n := n) (by omega)
      by_cases h0 : (t.1.getD n ByteArray.empty).size = 0
      · rw [tabN_skip h (by omega) h0]
        refine tabN_count h (by omega) (by omega) ?_
        rw [h3, saveN, if_pos h0, List.append_nil]
      · rw [saveN, if_neg h0, hr] at h3
        simp at h3
/-- What is there when so many records have been read again. -/
def U (t : Tb) (j : Nat) : Tb := ((saveN t 8).take j).foldl (fun u xs => (applyS u.1 u.2.1 u.2.2 xs).1) (tabN t 0)
theorem saveN_at {t : Tb} : ∀ {n j : Nat}, n ≤ 8 → j < (saveN t n).length → ∃ m, m < n ∧ (saveN t m).length = j ∧ (t.1.getD m ByteArray.empty).size ≠ 0 ∧ (saveN t n).getD j [] = recN t m
  | 0, j, _, h => by simp [saveN] at h
  | n + 1, j, hn, h => by
    by_cases h1 : j < (saveN t n).length
    · obtain ⟨m, a, b, c, d⟩ := saveN_at (t := t) (n := n) (by omega) h1
      refine ⟨m, by omega, b, c, ?_⟩
      rw [← d, saveN, List.getD_eq_getElem?_getD, List.getElem?_append_left h1, List.getD_eq_getElem?_getD]
    · rw [saveN, List.length_append] at h
      split at h
      · simp at h; omega
      · rename_i h0
        simp at h
        refine ⟨n, by omega, by omega, h0, ?_⟩
        rw [saveN, if_neg h0, List.getD_eq_getElem?_getD, List.getElem?_append_right (by omega), show j - (saveN t n).length = 0 by omega]; rfl
theorem U_tab {t : Tb} (h : Rt t) : ∀ (j m : Nat), m ≤ 8 → (saveN t m).length = j → U t j = tabN t m
  | 0, m, hm, hj => by
    rw [U, List.take_zero, List.foldl_nil]
    exact tabN_count h (by omega) hm (by rw [hj]; rfl)
  | j + 1, m, hm, hj => by
    obtain ⟨k, h1, h2, h3, h4⟩ := saveN_at (t := t) (n := m) (j := j) hm (by omega)
    have ih := U_tab h j k (by omega) h2
    obtain ⟨r, hr⟩ := saveN_pre t (m := m) (n := 8) hm
    have e1 : (saveN t 8)[j]? = some (recN t k) := by
      rw [hr, List.getElem?_append_left (by omega), List.getElem?_eq_getElem (by omega)]
      rw [List.getD_eq_getElem?_getD, List.getElem?_eq_getElem (by omega)] at h4
      exact congrArg some h4
    have e2 : U t (j + 1) = (applyS (U t j).1 (U t j).2.1 (U t j).2.2 (recN t k)).1 := by
      rw [U, List.take_add_one, e1, List.foldl_append]; rfl
    rw [e2, ih, tabN_put h (by omega) h3]
    refine tabN_count h (by omega) hm ?_
    rw [saveN, if_neg h3, List.length_append, h2, hj]; rfl
theorem U_next {t : Tb} (h : Rt t) {j : Nat} (hj : j < (saveN t 8).length) : applyS (U t j).1 (U t j).2.1 (U t j).2.2 ((saveN t 8).getD j []) = (U t (j + 1), none) := by
  obtain ⟨k, h1, h2, h3, h4⟩ := saveN_at (t := t) (n := 8) (j := j) (by omega) hj
  rw [h4, U_tab h j k (by omega) h2, tabN_put h h1 h3, U_tab h (j + 1) (k + 1) (by omega) (by rw [saveN, if_neg h3, List.length_append, h2]; rfl)]
theorem U_all {t : Tb} (h : Rt t) : U t (saveN t 8).length = t := by
  rw [U_tab h _ 8 (by omega) rfl, tabN_all h]
theorem U_len {t : Tb} (h : Rt t) {j : Nat} (hj : j ≤ (saveN t 8).length) : (U t j).1.length = 8 ∧ (U t j).2.1.length = 8 ∧ (U t j).2.2.length = 8 := by
  by_cases h1 : j < (saveN t 8).length
  · obtain ⟨k, h2, h3, h4, h5⟩ := saveN_at (t := t) (n := 8) (j := j) (by omega) h1
    rw [U_tab h j k (by omega) h3]; exact tabN_l _ _
  · rw [show j = (saveN t 8).length by omega, U_tab h _ 8 (by omega) rfl]; exact tabN_l _ _
theorem rec_bytes {t : Tb} (h : Rt t) {j : Nat} (hj : j < (saveN t 8).length) : Bytes ((saveN t 8).getD j []) ∧ ((saveN t 8).getD j []).length ≤ 206 := by
  obtain ⟨k, h1, h2, h3, h4⟩ := saveN_at (t := t) (n := 8) (j := j) (by omega) hj
  rw [h4, recN]
  rcases h.at_ k h1 with ⟨h5, _⟩ | h5
  · exact absurd h5 h3
  · refine ⟨fun x hx => ?_, ?_⟩
    · rw [putL] at hx
      rcases List.mem_append.1 hx with hx | hx
      · simp only [List.mem_cons, List.not_mem_nil, or_false] at hx
        omega
      · exact bytesL_bytes _ x hx
    · rw [putL, List.length_append, bytesL_length]; simp only [List.length_cons, List.length_nil]; omega
end Go.Proofs.Ytdpfjoojppmpbaa
namespace Go.Proofs.Ytdpfjoojppmpbaa
open Go Sx
set_option maxRecDepth 100000
set_option maxHeartbeats 1000000
theorem put_ok (i l f : Int) (s : ByteArray) (n : Int) (xs : List Int) (h : putE i l f s = none) (hn : n = 6 + s.size) (hx : xs = putL i l f s) : Ctr Try.prog 11 [] [.int .i64 (.sym i), .agg [.str (.sym s), .int .i64 (.sym l), .int .i64 (.sym f)]] fun v H => v = .tup [.vec 0 (.sym n), .nilif] ∧ H = [.cols (.row 1) 5 [.ints .u8 (.sym xs)]] :=
  (put_ctr i l f s).mono fun v H h' => by
    rcases h' with ⟨e, he, _⟩ | ⟨_, h1, h2⟩
    · rw [he] at h; cases h
    · rw [hn, hx]; exact ⟨h1, h2⟩
theorem save_ctr (ts : List ByteArray) (ls fs : List Int) (ht : Rt (ts, ls, fs)) : Ctr Try.prog 9 [] [.cols 24 [.strs (.sym ts), .ints .i64 (.sym ls), .ints .i64 (.sym fs)]] fun v H => ∃ q xss, (q = xss.length ∧ xss = saveN (ts, ls, fs) 8) ∧ v = .tup [.vec 0 (.sym q), .nilif] ∧ H = [.srow 26 .u8 xss] := by
  have l1 := ht.l1; have l2 := ht.l2; have l3 := ht.l3
  dsimp only at l1 l2 l3
  obtain ⟨uI, uB, uS, uL, uT, hu⟩ := words
  have hm := mixed
  have hT := tabOk
  have hPu := @put_ok
  obtain ⟨P, hP⟩ : ∃ P, P = Try.prog := ⟨_, rfl⟩
  rw [← hP] at hm hT hPu ⊢
  refine Ctr.weak (ctr_of_vc hu hm hT (hP ▸ Try.func9) rfl (by kernel_rfl) ?_)
  clear hP hm hT
  generalize hR : Weak _ _ = R
  conv => cbv
  repeat' (first | ((with_reducible intro (h : _ = _)); (try subst h); (try simp only [hu.b, hu.i, iB, iI, cmpB, Iv.val_sym, Iv.val_lit, Lv.raw, Tv.raw, decide_eq_true_eq, decide_eq_false_iff_not, beq_iff_eq, beq_eq_false_iff_ne, ne_eq, ofN, Int.toNat_zero, Int.toNat_one, Int.reduceToNat, natc, hu.s, iS, Sv.val_lit, Sv.val_sym, true_iff, false_iff, Bool.false_eq_true, bne_iff_ne, bne_eq_false_iff_eq, Bool.not_eq_true', Bool.not_eq_false', Decidable.not_not, nil_toList, ByteArray.size_empty, nilS, not_true_eq_false, not_false_eq_true, hu.l, iL, hu.t, iT, bin_add, bin_sub, bin_mul, wr_u8, wr_u16, wr_u32, wr_u64, IntKind.wrap_i64, List.length_append, List.length_cons, List.length_nil, List.nil_append, List.append_nil, List.cons_append, lvals, List.length_replicate, List.length_set, linV_val hu, Int.add_zero, Int.zero_add, Int.mul_one, Int.sub_zero, Int.zero_mul, Bool.true_eq_false, false_and, and_false, true_and, and_true, List.all_cons, List.all_nil, id_eq, Bool.and_true] at h) <;> (try simp only [Int.ofNat_eq_natCast] at h) <;> (first | (have hF0 : False := by omega; exact hF0.elim) | (conv => cbv))) | (with_reducible refine And.intro ?_ ?_) | (refine Gen0.mk ?_; (conv => cbv)) | (simp only [hu.b, hu.i, iB, iI, cmpB, Iv.val_sym, Iv.val_lit, Lv.raw, Tv.raw, decide_eq_true_eq, decide_eq_false_iff_not, beq_iff_eq, beq_eq_false_iff_ne, ne_eq, ofN, Int.toNat_zero, Int.toNat_one, Int.reduceToNat, natc, hu.s, iS, Sv.val_lit, Sv.val_sym, true_iff, false_iff, Bool.false_eq_true, bne_iff_ne, bne_eq_false_iff_eq, Bool.not_eq_true', Bool.not_eq_false', Decidable.not_not, nil_toList, ByteArray.size_empty, nilS, not_true_eq_false, not_false_eq_true, hu.l, iL, hu.t, iT, bin_add, bin_sub, bin_mul, wr_u8, wr_u16, wr_u32, wr_u64, IntKind.wrap_i64, List.length_append, List.length_cons, List.length_nil, List.nil_append, List.append_nil, List.cons_append, lvals, List.length_replicate, List.length_set, linV_val hu, Int.add_zero, Int.zero_add, Int.mul_one, Int.sub_zero, Int.zero_mul, Bool.true_eq_false, false_and, and_false, true_and, and_true, List.all_cons, List.all_nil, id_eq, Bool.and_true]; (try simp only [Int.ofNat_eq_natCast]); done) | ((try simp only [hu.b, hu.i, iB, iI, cmpB, Iv.val_sym, Iv.val_lit, Lv.raw, Tv.raw, decide_eq_true_eq, decide_eq_false_iff_not, beq_iff_eq, beq_eq_false_iff_ne, ne_eq, ofN, Int.toNat_zero, Int.toNat_one, Int.reduceToNat, natc, hu.s, iS, Sv.val_lit, Sv.val_sym, true_iff, false_iff, Bool.false_eq_true, bne_iff_ne, bne_eq_false_iff_eq, Bool.not_eq_true', Bool.not_eq_false', Decidable.not_not, nil_toList, ByteArray.size_empty, nilS, not_true_eq_false, not_false_eq_true, hu.l, iL, hu.t, iT, bin_add, bin_sub, bin_mul, wr_u8, wr_u16, wr_u32, wr_u64, IntKind.wrap_i64, List.length_append, List.length_cons, List.length_nil, List.nil_append, List.append_nil, List.cons_append, lvals, List.length_replicate, List.length_set, linV_val hu, Int.add_zero, Int.zero_add, Int.mul_one, Int.sub_zero, Int.zero_mul, Bool.true_eq_false, false_and, and_false, true_and, and_true, List.all_cons, List.all_nil, id_eq, Bool.and_true]) <;> (try simp only [Int.ofNat_eq_natCast]) <;> omega))
  refine .nilxrow 4 26 .u8 (by kernel_rfl) rfl ?_
  refine .invr (Int × Int × List (List Int)) [4, 10] (fun g => ([.vec 1 (.sym g.2.1), .int .i64 (.sym g.1)], [.cols .var 25 [.strs (.sym ts), .ints .i64 (.sym ls), .ints .i64 (.sym fs)], .srow 26 .u8 g.2.2])) (fun g => 0 ≤ g.1 ∧ g.1 ≤ 8 ∧ (g.2.2.length : Int) = g.2.1 ∧ g.2.2 = saveN (ts, ls, fs) g.1.toNat) (fun g => (8 - g.1).toNat) (0, 0, []) (by kernel_rfl) (fun g hg => by kernel_rfl) ?_ ?_
  · refine ⟨⟨by dsimp only; omega, by dsimp only; omega, rfl, rfl⟩, ?_, ?_⟩
    all_goals
      ((conv => cbv); repeat' (first | exact True.intro | with_reducible rfl | (with_reducible exact fun h => h) | (with_reducible refine And.intro ?_ ?_)))
    all_goals
      ((try simp only [hu.b, hu.i, iB, iI, cmpB, Iv.val_sym, Iv.val_lit, Lv.raw, Tv.raw, decide_eq_true_eq, decide_eq_false_iff_not, beq_iff_eq, beq_eq_false_iff_ne, ne_eq, ofN, Int.toNat_zero, Int.toNat_one, Int.reduceToNat, natc, hu.s, iS, Sv.val_lit, Sv.val_sym, true_iff, false_iff, Bool.false_eq_true, bne_iff_ne, bne_eq_false_iff_eq, Bool.not_eq_true', Bool.not_eq_false', Decidable.not_not, nil_toList, ByteArray.size_empty, nilS, not_true_eq_false, not_false_eq_true, hu.l, iL, hu.t, iT, bin_add, bin_sub, bin_mul, wr_u8, wr_u16, wr_u32, wr_u64, IntKind.wrap_i64, List.length_append, List.length_cons, List.length_nil, List.nil_append, List.append_nil, List.cons_append, lvals, List.length_replicate, List.length_set, linV_val hu, Int.add_zero, Int.zero_add, Int.mul_one, Int.sub_zero, Int.zero_mul, Bool.true_eq_false, false_and, and_false, true_and, and_true, List.all_cons, List.all_nil, id_eq, Bool.and_true]) <;> (try simp only [Int.ofNat_eq_natCast]) <;> (try omega))
  rintro ⟨i, q, xss⟩ hq
  simp only [] at hq
  have q0 := hq.1; have q1 := hq.2.1; have q2 := hq.2.2.1; have q3 := hq.2.2.2
  clear hq
  have q9 : q ≤ 8 := by have := saveN_le (ts, ls, fs) i.toNat; rw [← q3] at this; omega
  have hat : i < 8 → RtAt (ts, ls, fs) i.toNat := fun hi => ht.at_ _ (by omega)
  unfold RtAt at hat
  dsimp only at hat
  generalize erow : ((ts.getD i.toNat ByteArray.empty).toList == [] && (ls.getD i.toNat 0 == 0 && fs.getD i.toNat 0 == 0)) = row
  have erow := erow.symm
  have erow' : ((ts.getD i.toNat ByteArray.empty).toList == [] && (ls.getD i.toNat 0 == 0 && fs.getD i.toNat 0 == 0)) = row := erow.symm
  have hrow : i < 8 → (row = true ↔ (ts.getD i.toNat ByteArray.empty).size = 0) := fun hi => by
    have h1 := hat hi
    rw [erow]
    simp only [Bool.and_eq_true, beq_iff_eq, nil_toList]
    omega
  have hput : i < 8 → row = false → putE i (ls.getD i.toNat 0) (fs.getD i.toNat 0) (ts.getD i.toNat ByteArray.empty) = none := fun hi hs => by
    have h1 := hat hi
    have h2 := hrow hi
    have h3 : (ts.getD i.toNat ByteArray.empty).size ≠ 0 := fun e => by rw [h2.2 e] at hs; cases hs
    unfold putE
    rw [if_neg (by omega), if_neg (by omega)]
  generalize en1 : (6 + (ts.getD i.toNat ByteArray.empty).size : Int) = n1
  have en1 := en1.symm
  generalize erc : putL i (ls.getD i.toNat 0) (fs.getD i.toNat 0) (ts.getD i.toNat ByteArray.empty) = rc
  have erc := erc.symm
  have hrl : (rc.length : Int) = n1 := by rw [erc, putL, List.length_append, bytesL_length]; simp only [List.length_cons, List.length_nil]; omega
  conv => cbv
  repeat' (first | ((with_reducible intro (h : _ = _)); (try subst h); (try simp only [hu.b, hu.i, iB, iI, cmpB, Iv.val_sym, Iv.val_lit, Lv.raw, Tv.raw, decide_eq_true_eq, decide_eq_false_iff_not, beq_iff_eq, beq_eq_false_iff_ne, ne_eq, ofN, Int.toNat_zero, Int.toNat_one, Int.reduceToNat, natc, hu.s, iS, Sv.val_lit, Sv.val_sym, true_iff, false_iff, Bool.false_eq_true, bne_iff_ne, bne_eq_false_iff_eq, Bool.not_eq_true', Bool.not_eq_false', Decidable.not_not, nil_toList, ByteArray.size_empty, nilS, not_true_eq_false, not_false_eq_true, hu.l, iL, hu.t, iT, bin_add, bin_sub, bin_mul, wr_u8, wr_u16, wr_u32, wr_u64, IntKind.wrap_i64, List.length_append, List.length_cons, List.length_nil, List.nil_append, List.append_nil, List.cons_append, lvals, List.length_replicate, List.length_set, linV_val hu, Int.add_zero, Int.zero_add, Int.mul_one, Int.sub_zero, Int.zero_mul, Bool.true_eq_false, false_and, and_false, true_and, and_true, List.all_cons, List.all_nil, id_eq, Bool.and_true, erow'] at h) <;> (try simp only [Int.ofNat_eq_natCast] at h) <;> (first | (have hF0 : False := by omega; exact hF0.elim) | (conv => cbv))) | (with_reducible refine And.intro ?_ ?_) | (first | (refine CallDet.mkR ?_ (hPu _ _ _ _ n1 rc ?_ ?_ ?_)) | (refine CallVC.mkR ?_ (hPu _ _ _ _ n1 rc ?_ ?_ ?_))) | ((try simp only [hu.b, hu.i, iB, iI, cmpB, Iv.val_sym, Iv.val_lit, Lv.raw, Tv.raw, decide_eq_true_eq, decide_eq_false_iff_not, beq_iff_eq, beq_eq_false_iff_ne, ne_eq, ofN, Int.toNat_zero, Int.toNat_one, Int.reduceToNat, natc, hu.s, iS, Sv.val_lit, Sv.val_sym, true_iff, false_iff, Bool.false_eq_true, bne_iff_ne, bne_eq_false_iff_eq, Bool.not_eq_true', Bool.not_eq_false', Decidable.not_not, nil_toList, ByteArray.size_empty, nilS, not_true_eq_false, not_false_eq_true, hu.l, iL, hu.t, iT, bin_add, bin_sub, bin_mul, wr_u8, wr_u16, wr_u32, wr_u64, IntKind.wrap_i64, List.length_append, List.length_cons, List.length_nil, List.nil_append, List.append_nil, List.cons_append, lvals, List.length_replicate, List.length_set, linV_val hu, Int.add_zero, Int.zero_add, Int.mul_one, Int.sub_zero, Int.zero_mul, Bool.true_eq_false, false_and, and_false, true_and, and_true, List.all_cons, List.all_nil, id_eq, Bool.and_true, erow']) <;> (try simp only [Int.ofNat_eq_natCast]) <;> (first | exact hput (by omega) (by assumption) | exact en1 | exact erc)) | (refine Gen0.mk ?_; (conv => cbv)) | (simp only [hu.b, hu.i, iB, iI, cmpB, Iv.val_sym, Iv.val_lit, Lv.raw, Tv.raw, decide_eq_true_eq, decide_eq_false_iff_not, beq_iff_eq, beq_eq_false_iff_ne, ne_eq, ofN, Int.toNat_zero, Int.toNat_one, Int.reduceToNat, natc, hu.s, iS, Sv.val_lit, Sv.val_sym, true_iff, false_iff, Bool.false_eq_true, bne_iff_ne, bne_eq_false_iff_eq, Bool.not_eq_true', Bool.not_eq_false', Decidable.not_not, nil_toList, ByteArray.size_empty, nilS, not_true_eq_false, not_false_eq_true, hu.l, iL, hu.t, iT, bin_add, bin_sub, bin_mul, wr_u8, wr_u16, wr_u32, wr_u64, IntKind.wrap_i64, List.length_append, List.length_cons, List.length_nil, List.nil_append, List.append_nil, List.cons_append, lvals, List.length_replicate, List.length_set, linV_val hu, Int.add_zero, Int.zero_add, Int.mul_one, Int.sub_zero, Int.zero_mul, Bool.true_eq_false, false_and, and_false, true_and, and_true, List.all_cons, List.all_nil, id_eq, Bool.and_true, erow']; (try simp only [Int.ofNat_eq_natCast]); done) | ((try simp only [hu.b, hu.i, iB, iI, cmpB, Iv.val_sym, Iv.val_lit, Lv.raw, Tv.raw, decide_eq_true_eq, decide_eq_false_iff_not, beq_iff_eq, beq_eq_false_iff_ne, ne_eq, ofN, Int.toNat_zero, Int.toNat_one, Int.reduceToNat, natc, hu.s, iS, Sv.val_lit, Sv.val_sym, true_iff, false_iff, Bool.false_eq_true, bne_iff_ne, bne_eq_false_iff_eq, Bool.not_eq_true', Bool.not_eq_false', Decidable.not_not, nil_toList, ByteArray.size_empty, nilS, not_true_eq_false, not_false_eq_true, hu.l, iL, hu.t, iT, bin_add, bin_sub, bin_mul, wr_u8, wr_u16, wr_u32, wr_u64, IntKind.wrap_i64, List.length_append, List.length_cons, List.length_nil, List.nil_append, List.append_nil, List.cons_append, lvals, List.length_replicate, List.length_set, linV_val hu, Int.add_zero, Int.zero_add, Int.mul_one, Int.sub_zero, Int.zero_mul, Bool.true_eq_false, false_and, and_false, true_and, and_true, List.all_cons, List.all_nil, id_eq, Bool.and_true, erow']) <;> (try simp only [Int.ofNat_eq_natCast]) <;> omega))
  · have hi8 : i < 8 := by assumption
    have hr : (ts.getD i.toNat ByteArray.empty).size = 0 := (hrow hi8).1 (by assumption)
    obtain ⟨i', ei⟩ : ∃ x, x = i + 1 := ⟨_, rfl⟩
    have hx : xss = saveN (ts, ls, fs) i'.toNat := by
      rw [ei, show (i + 1).toNat = i.toNat + 1 by omega, saveN, if_pos hr, List.append_nil, q3]
    refine ⟨(i', q, xss), ⟨by dsimp only; omega, by dsimp only; omega, q2, hx⟩, by dsimp only; omega, [0, 1], by kernel_rfl, by kernel_rfl, ?_, ?_⟩
    all_goals
      ((conv => cbv); repeat' (first | exact True.intro | with_reducible rfl | (with_reducible exact fun h => h) | (with_reducible refine And.intro ?_ ?_)))
    all_goals
      ((try simp only [hu.b, hu.i, iB, iI, cmpB, Iv.val_sym, Iv.val_lit, Lv.raw, Tv.raw, decide_eq_true_eq, decide_eq_false_iff_not, beq_iff_eq, beq_eq_false_iff_ne, ne_eq, ofN, Int.toNat_zero, Int.toNat_one, Int.reduceToNat, natc, hu.s, iS, Sv.val_lit, Sv.val_sym, true_iff, false_iff, Bool.false_eq_true, bne_iff_ne, bne_eq_false_iff_eq, Bool.not_eq_true', Bool.not_eq_false', Decidable.not_not, nil_toList, ByteArray.size_empty, nilS, not_true_eq_false, not_false_eq_true, hu.l, iL, hu.t, iT, bin_add, bin_sub, bin_mul, wr_u8, wr_u16, wr_u32, wr_u64, IntKind.wrap_i64, List.length_append, List.length_cons, List.length_nil, List.nil_append, List.append_nil, List.cons_append, lvals, List.length_replicate, List.length_set, linV_val hu, Int.add_zero, Int.zero_add, Int.mul_one, Int.sub_zero, Int.zero_mul, Bool.true_eq_false, false_and, and_false, true_and, and_true, List.all_cons, List.all_nil, id_eq, Bool.and_true]) <;> (try simp only [Int.ofNat_eq_natCast]) <;> (try omega))
  · have hi8 : i < 8 := by assumption
    have hs : row = false := by assumption
    have hr : (ts.getD i.toNat ByteArray.empty).size ≠ 0 := fun e => by rw [(hrow hi8).2 e] at hs; cases hs
    obtain ⟨i', ei⟩ : ∃ x, x = i + 1 := ⟨_, rfl⟩
    obtain ⟨q', eq⟩ : ∃ x, x = q + 1 := ⟨_, rfl⟩
    obtain ⟨xss', ex⟩ : ∃ x, x = xss ++ [rc] := ⟨_, rfl⟩
    have hx : xss' = saveN (ts, ls, fs) i'.toNat := by
      rw [ex, ei, show (i + 1).toNat = i.toNat + 1 by omega, saveN, if_neg hr, q3, erc, recN]
      rw [show ((i.toNat : Nat) : Int) = i by omega]
    have hl : (xss'.length : Int) = q' := by rw [ex, List.length_append]; simp only [List.length_singleton]; omega
    refine ⟨(i', q', xss'), ⟨by dsimp only; omega, by dsimp only; omega, hl, hx⟩, by dsimp only; omega, [0, 5], by kernel_rfl, by kernel_rfl, ?_, ?_⟩
    all_goals
      ((conv => cbv); repeat' (first | exact True.intro | with_reducible rfl | (with_reducible exact fun h => h) | (with_reducible refine And.intro ?_ ?_)))
    all_goals
      ((try simp only [hu.b, hu.i, iB, iI, cmpB, Iv.val_sym, Iv.val_lit, Lv.raw, Tv.raw, decide_eq_true_eq, decide_eq_false_iff_not, beq_iff_eq, beq_eq_false_iff_ne, ne_eq, ofN, Int.toNat_zero, Int.toNat_one, Int.reduceToNat, natc, hu.s, iS, Sv.val_lit, Sv.val_sym, true_iff, false_iff, Bool.false_eq_true, bne_iff_ne, bne_eq_false_iff_eq, Bool.not_eq_true', Bool.not_eq_false', Decidable.not_not, nil_toList, ByteArray.size_empty, nilS, not_true_eq_false, not_false_eq_true, hu.l, iL, hu.t, iT, bin_add, bin_sub, bin_mul, wr_u8, wr_u16, wr_u32, wr_u64, IntKind.wrap_i64, List.length_append, List.length_cons, List.length_nil, List.nil_append, List.append_nil, List.cons_append, lvals, List.length_replicate, List.length_set, linV_val hu, Int.add_zero, Int.zero_add, Int.mul_one, Int.sub_zero, Int.zero_mul, Bool.true_eq_false, false_and, and_false, true_and, and_true, List.all_cons, List.all_nil, id_eq, Bool.and_true, List.nil_append, hu.t, iT]) <;> (try simp only [Int.ofNat_eq_natCast]) <;> (try omega))
    all_goals exact ex.symm
  · have hi8 : i.toNat = 8 := by omega
    have hx : xss = saveN (ts, ls, fs) 8 := by rw [q3, hi8]
    subst hR
    refine Weak.of (⟨q, xss, ⟨q2.symm, hx⟩, rfl, rfl⟩) ?_ ?_ (by rfl)
    all_goals ((conv => cbv); repeat' (first | exact True.intro | with_reducible rfl | (with_reducible exact fun h => h) | (with_reducible refine And.intro ?_ ?_)))
end Go.Proofs.Ytdpfjoojppmpbaa
namespace Go.Proofs.Ytdpfjoojppmpbaa
open Go Sx
set_option maxRecDepth 100000
set_option maxHeartbeats 1000000
/-- The reference's Put. -/
def RefPutR (i l f : Int) (s : ByteArray) (v : V) (H : Hp) : Prop :=
  (∃ e, putE i l f s = some e ∧ v = .tup [.nilsl, .int .i64 (.sym e)] ∧ H = []) ∨
  (putE i l f s = none ∧ v = .tup [.vec 0 (.sym (6 + s.size)), .int .i64 (.lit 0)] ∧ H = [.cols (.row 1) 5 [.ints .u8 (.sym (putL i l f s))]])
theorem refPut_ctr (i l f : Int) (s : ByteArray) : Ctr Try.prog 16 [] [.int .i64 (.sym i), .agg [.str (.sym s), .int .i64 (.sym l), .int .i64 (.sym f)]] (RefPutR i l f s) := by
  obtain ⟨uI, uB, uS, uL, uT, hu⟩ := words
  have hm := mixed
  have hT := tabOk
  obtain ⟨P, hP⟩ : ∃ P, P = Try.prog := ⟨_, rfl⟩
  rw [← hP] at hm hT ⊢
  refine Ctr.weak (ctr_of_vc hu hm hT (hP ▸ Try.func16) rfl (by kernel_rfl) ?_)
  clear hP hm hT
  generalize hR : Weak _ _ = R
  cbv
  repeat' (first | (intro h; (try subst h); cbv) | (refine And.intro ?_ ?_))
  all_goals
    simp only [hu.b, hu.i, iB, iI, cmpB, Iv.val_sym, Iv.val_lit, Lv.raw, Tv.raw, decide_eq_true_eq, decide_eq_false_iff_not, beq_iff_eq, beq_eq_false_iff_ne, ne_eq, ofN, Int.toNat_zero, Int.toNat_one, Int.reduceToNat, natc, hu.s, iS, Sv.val_lit, Sv.val_sym, true_iff, false_iff, Bool.false_eq_true, bne_iff_ne, bne_eq_false_iff_eq, Bool.not_eq_true', Bool.not_eq_false', Decidable.not_not, nil_toList, ByteArray.size_empty, nilS, not_true_eq_false, not_false_eq_true, hu.l, iL] at *
    try simp only [Int.ofNat_eq_natCast] at *
  all_goals have sb := subL_bytes s
  all_goals have lb := bytesL_length s
  all_goals try (first | omega | (rw [sb]; omega))
  all_goals subst hR
  all_goals first
    | exact Weak.of (.inl ⟨1, by (unfold putE; repeat' split) <;> first | rfl | (exfalso; omega), rfl, rfl⟩) ⟨trivial, ⟨rfl, rfl⟩, trivial⟩ trivial rfl
    | exact Weak.of (.inl ⟨2, by (unfold putE; repeat' split) <;> first | rfl | (exfalso; omega), rfl, rfl⟩) ⟨trivial, ⟨rfl, rfl⟩, trivial⟩ trivial rfl
    | skip
  refine Weak.of (.inr ⟨by (unfold putE; repeat' split) <;> first | rfl | (exfalso; omega), rfl, rfl⟩) ⟨⟨rfl, ?_⟩, ⟨rfl, rfl⟩, trivial⟩ ⟨⟨rfl, rfl, ⟨⟨rfl, ?_⟩, trivial⟩⟩, trivial⟩ rfl
  · simp only [Iv.val_sym, sb, List.length_append, lb, lvals, List.length_cons, List.length_nil]; omega
  · have e1 : ∀ n : Int, IntKind.u8.wrap n = n % 256 := wr_u8
    simp only [Lv.raw, lvals, Iv.val_sym, Iv.val_lit, e1, sb, putL, quo_i64 (x := l) (d := 256) (by omega) (by omega) (by omega), quo_i64 (x := f) (d := 256) (by omega) (by omega) (by omega), rem_nn (k := .i64) (x := l) (d := 256) (by omega), rem_nn (k := .i64) (x := f) (d := 256) (by omega)]
    congr 1
    simp only [List.cons.injEq, and_true, true_and]
    omega
theorem rput_ok (i l f : Int) (s : ByteArray) (n y : Int) (xs : List Int) (h : putE i l f s = none) (hn : n = 6 + s.size) (hx : xs = putL i l f s) (hy : y = 0) : Ctr Try.prog 16 [] [.int .i64 (.sym i), .agg [.str (.sym s), .int .i64 (.sym l), .int .i64 (.sym f)]] fun v H => v = .tup [.vec 0 (.sym n), .int .i64 (.lit 0)] ∧ H = [.cols (.row 1) 5 [.ints .u8 (.sym xs)]] :=
  (refPut_ctr i l f s).mono fun v H h' => by
    rcases h' with ⟨e, he, _⟩ | ⟨_, h1, h2⟩
    · rw [he] at h; cases h
    · rw [hn, hx]; exact ⟨h1, h2⟩
theorem rput_e (i l f : Int) (s : ByteArray) (e : Int) (h : putE i l f s = some e) : Ctr Try.prog 16 [] [.int .i64 (.sym i), .agg [.str (.sym s), .int .i64 (.sym l), .int .i64 (.sym f)]] fun v H => v = .tup [.nilsl, .int .i64 (.sym e)] ∧ H = [] :=
  (refPut_ctr i l f s).mono fun v H h' => by
    rcases h' with ⟨e', he, h1, h2⟩ | ⟨he, h1, h2⟩
    · rw [h] at he; cases he; exact ⟨h1, h2⟩
    · rw [he] at h; cases h
theorem right_ctr (ts : List ByteArray) (ls fs : List Int) (ht : Rt (ts, ls, fs)) : Ctr Try.prog 10 [] [.cols 24 [.strs (.sym ts), .ints .i64 (.sym ls), .ints .i64 (.sym fs)]] fun v H => v = .bool true ∧ H = [] := by
  have l1 := ht.l1; have l2 := ht.l2; have l3 := ht.l3
  dsimp only at l1 l2 l3
  obtain ⟨uI, uB, uS, uL, uT, hu⟩ := words
  have hm := mixed
  have hT := tabOk
  have hPk := @rput_ok
  have hPe := @rput_e
  obtain ⟨P, hP⟩ : ∃ P, P = Try.prog := ⟨_, rfl⟩
  rw [← hP] at hm hT hPk hPe ⊢
  refine Ctr.weak (ctr_of_vc hu hm hT (hP ▸ Try.func10) rfl (by kernel_rfl) ?_)
  clear hP hm hT
  generalize hR : Weak _ _ = R
  conv => cbv
  repeat' (first | ((with_reducible intro (h : _ = _)); (try subst h); (try simp only [hu.b, hu.i, iB, iI, cmpB, Iv.val_sym, Iv.val_lit, Lv.raw, Tv.raw, decide_eq_true_eq, decide_eq_false_iff_not, beq_iff_eq, beq_eq_false_iff_ne, ne_eq, ofN, Int.toNat_zero, Int.toNat_one, Int.reduceToNat, natc, hu.s, iS, Sv.val_lit, Sv.val_sym, true_iff, false_iff, Bool.false_eq_true, bne_iff_ne, bne_eq_false_iff_eq, Bool.not_eq_true', Bool.not_eq_false', Decidable.not_not, nil_toList, ByteArray.size_empty, nilS, not_true_eq_false, not_false_eq_true, hu.l, iL, hu.t, iT, bin_add, bin_sub, bin_mul, wr_u8, wr_u16, wr_u32, wr_u64, IntKind.wrap_i64, List.length_append, List.length_cons, List.length_nil, List.nil_append, List.append_nil, List.cons_append, lvals, List.length_replicate, List.length_set, linV_val hu, Int.add_zero, Int.zero_add, Int.mul_one, Int.sub_zero, Int.zero_mul, Bool.true_eq_false, false_and, and_false, true_and, and_true, List.all_cons, List.all_nil, id_eq, Bool.and_true] at h) <;> (try simp only [Int.ofNat_eq_natCast] at h) <;> (first | (have hF0 : False := by omega; exact hF0.elim) | (conv => cbv))) | (with_reducible refine And.intro ?_ ?_) | (refine Gen0.mk ?_; (conv => cbv)) | (simp only [hu.b, hu.i, iB, iI, cmpB, Iv.val_sym, Iv.val_lit, Lv.raw, Tv.raw, decide_eq_true_eq, decide_eq_false_iff_not, beq_iff_eq, beq_eq_false_iff_ne, ne_eq, ofN, Int.toNat_zero, Int.toNat_one, Int.reduceToNat, natc, hu.s, iS, Sv.val_lit, Sv.val_sym, true_iff, false_iff, Bool.false_eq_true, bne_iff_ne, bne_eq_false_iff_eq, Bool.not_eq_true', Bool.not_eq_false', Decidable.not_not, nil_toList, ByteArray.size_empty, nilS, not_true_eq_false, not_false_eq_true, hu.l, iL, hu.t, iT, bin_add, bin_sub, bin_mul, wr_u8, wr_u16, wr_u32, wr_u64, IntKind.wrap_i64, List.length_append, List.length_cons, List.length_nil, List.nil_append, List.append_nil, List.cons_append, lvals, List.length_replicate, List.length_set, linV_val hu, Int.add_zero, Int.zero_add, Int.mul_one, Int.sub_zero, Int.zero_mul, Bool.true_eq_false, false_and, and_false, true_and, and_true, List.all_cons, List.all_nil, id_eq, Bool.and_true]; (try simp only [Int.ofNat_eq_natCast]); done) | ((try simp only [hu.b, hu.i, iB, iI, cmpB, Iv.val_sym, Iv.val_lit, Lv.raw, Tv.raw, decide_eq_true_eq, decide_eq_false_iff_not, beq_iff_eq, beq_eq_false_iff_ne, ne_eq, ofN, Int.toNat_zero, Int.toNat_one, Int.reduceToNat, natc, hu.s, iS, Sv.val_lit, Sv.val_sym, true_iff, false_iff, Bool.false_eq_true, bne_iff_ne, bne_eq_false_iff_eq, Bool.not_eq_true', Bool.not_eq_false', Decidable.not_not, nil_toList, ByteArray.size_empty, nilS, not_true_eq_false, not_false_eq_true, hu.l, iL, hu.t, iT, bin_add, bin_sub, bin_mul, wr_u8, wr_u16, wr_u32, wr_u64, IntKind.wrap_i64, List.length_append, List.length_cons, List.length_nil, List.nil_append, List.append_nil, List.cons_append, lvals, List.length_replicate, List.length_set, linV_val hu, Int.add_zero, Int.zero_add, Int.mul_one, Int.sub_zero, Int.zero_mul, Bool.true_eq_false, false_and, and_false, true_and, and_true, List.all_cons, List.all_nil, id_eq, Bool.and_true]) <;> (try simp only [Int.ofNat_eq_natCast]) <;> omega))
  refine .invr Int [3] (fun i => ([.int .i64 (.sym i)], [.cols .var 25 [.strs (.sym ts), .ints .i64 (.sym ls), .ints .i64 (.sym fs)]])) (fun i => 0 ≤ i ∧ i ≤ 8) (fun i => (8 - i).toNat) 0 (by kernel_rfl) (fun i hi => by kernel_rfl) ?_ ?_
  · refine ⟨⟨by omega, by omega⟩, ?_, ?_⟩
    all_goals
      ((conv => cbv); repeat' (first | exact True.intro | with_reducible rfl | (with_reducible exact fun h => h) | (with_reducible refine And.intro ?_ ?_)))
  intro i hq
  have q0 := hq.1; have q1 := hq.2
  clear hq
  have hat : i < 8 → RtAt (ts, ls, fs) i.toNat := fun hi => ht.at_ _ (by omega)
  unfold RtAt at hat
  dsimp only at hat
  generalize erow : ((ts.getD i.toNat ByteArray.empty).toList == [] && (ls.getD i.toNat 0 == 0 && fs.getD i.toNat 0 == 0)) = row
  have erow := erow.symm
  have erow' : ((ts.getD i.toNat ByteArray.empty).toList == [] && (ls.getD i.toNat 0 == 0 && fs.getD i.toNat 0 == 0)) = row := erow.symm
  have hrow : i < 8 → (row = true ↔ (ts.getD i.toNat ByteArray.empty).size = 0) := fun hi => by
    have h1 := hat hi
    rw [erow]
    simp only [Bool.and_eq_true, beq_iff_eq, nil_toList]
    omega
  have hput : i < 8 → ¬ row = true → putE i (ls.getD i.toNat 0) (fs.getD i.toNat 0) (ts.getD i.toNat ByteArray.empty) = none := fun hi hs => by
    have h1 := hat hi
    have h2 := hrow hi
    have h3 : (ts.getD i.toNat ByteArray.empty).size ≠ 0 := fun e => hs (h2.2 e)
    unfold putE
    rw [if_neg (by omega), if_neg (by omega)]
  have hpe : i < 8 → row = true → putE i (ls.getD i.toNat 0) (fs.getD i.toNat 0) (ts.getD i.toNat ByteArray.empty) = some 2 := fun hi hs => by
    have h1 := hat hi
    have h2 := (hrow hi).1 hs
    unfold putE
    rw [if_neg (by omega), if_pos (by omega)]
  generalize en1 : (6 + (ts.getD i.toNat ByteArray.empty).size : Int) = n1
  have en1 := en1.symm
  generalize erc : putL i (ls.getD i.toNat 0) (fs.getD i.toNat 0) (ts.getD i.toNat ByteArray.empty) = rc
  have erc := erc.symm
  generalize ee2 : (2 : Int) = e2
  have ee2 := ee2.symm
  conv => cbv
  repeat' (first | ((with_reducible intro (h : _ = _)); (try subst h); (try simp only [hu.b, hu.i, iB, iI, cmpB, Iv.val_sym, Iv.val_lit, Lv.raw, Tv.raw, decide_eq_true_eq, decide_eq_false_iff_not, beq_iff_eq, beq_eq_false_iff_ne, ne_eq, ofN, Int.toNat_zero, Int.toNat_one, Int.reduceToNat, natc, hu.s, iS, Sv.val_lit, Sv.val_sym, true_iff, false_iff, Bool.false_eq_true, bne_iff_ne, bne_eq_false_iff_eq, Bool.not_eq_true', Bool.not_eq_false', Decidable.not_not, nil_toList, ByteArray.size_empty, nilS, not_true_eq_false, not_false_eq_true, hu.l, iL, hu.t, iT, bin_add, bin_sub, bin_mul, wr_u8, wr_u16, wr_u32, wr_u64, IntKind.wrap_i64, List.length_append, List.length_cons, List.length_nil, List.nil_append, List.append_nil, List.cons_append, lvals, List.length_replicate, List.length_set, linV_val hu, Int.add_zero, Int.zero_add, Int.mul_one, Int.sub_zero, Int.zero_mul, Bool.true_eq_false, false_and, and_false, true_and, and_true, List.all_cons, List.all_nil, id_eq, Bool.and_true, erow'] at h) <;> (try simp only [Int.ofNat_eq_natCast] at h) <;> (first | (have hF0 : False := by omega; exact hF0.elim) | (conv => cbv))) | (with_reducible refine And.intro ?_ ?_) | (first | (refine CallDet.cases (row = true) (fun hc => CallDet.mkR ?_ (hPe _ _ _ _ e2 ?_)) (fun hc => CallDet.mkR ?_ (hPk _ _ _ _ n1 0 rc ?_ ?_ ?_ rfl))) | (refine CallVC.cases (row = true) (fun hc => CallVC.mkR ?_ (hPe _ _ _ _ e2 ?_)) (fun hc => CallVC.mkR ?_ (hPk _ _ _ _ n1 0 rc ?_ ?_ ?_ rfl)))) | ((try simp only [hu.b, hu.i, iB, iI, cmpB, Iv.val_sym, Iv.val_lit, Lv.raw, Tv.raw, decide_eq_true_eq, decide_eq_false_iff_not, beq_iff_eq, beq_eq_false_iff_ne, ne_eq, ofN, Int.toNat_zero, Int.toNat_one, Int.reduceToNat, natc, hu.s, iS, Sv.val_lit, Sv.val_sym, true_iff, false_iff, Bool.false_eq_true, bne_iff_ne, bne_eq_false_iff_eq, Bool.not_eq_true', Bool.not_eq_false', Decidable.not_not, nil_toList, ByteArray.size_empty, nilS, not_true_eq_false, not_false_eq_true, hu.l, iL, hu.t, iT, bin_add, bin_sub, bin_mul, wr_u8, wr_u16, wr_u32, wr_u64, IntKind.wrap_i64, List.length_append, List.length_cons, List.length_nil, List.nil_append, List.append_nil, List.cons_append, lvals, List.length_replicate, List.length_set, linV_val hu, Int.add_zero, Int.zero_add, Int.mul_one, Int.sub_zero, Int.zero_mul, Bool.true_eq_false, false_and, and_false, true_and, and_true, List.all_cons, List.all_nil, id_eq, Bool.and_true, erow']) <;> (try simp only [Int.ofNat_eq_natCast]) <;> (first | exact (by rw [ee2]; exact hpe (by omega) hc) | exact hput (by omega) hc | exact en1 | exact erc)) | (refine Gen0.mk ?_; (conv => cbv)) | (simp only [hu.b, hu.i, iB, iI, cmpB, Iv.val_sym, Iv.val_lit, Lv.raw, Tv.raw, decide_eq_true_eq, decide_eq_false_iff_not, beq_iff_eq, beq_eq_false_iff_ne, ne_eq, ofN, Int.toNat_zero, Int.toNat_one, Int.reduceToNat, natc, hu.s, iS, Sv.val_lit, Sv.val_sym, true_iff, false_iff, Bool.false_eq_true, bne_iff_ne, bne_eq_false_iff_eq, Bool.not_eq_true', Bool.not_eq_false', Decidable.not_not, nil_toList, ByteArray.size_empty, nilS, not_true_eq_false, not_false_eq_true, hu.l, iL, hu.t, iT, bin_add, bin_sub, bin_mul, wr_u8, wr_u16, wr_u32, wr_u64, IntKind.wrap_i64, List.length_append, List.length_cons, List.length_nil, List.nil_append, List.append_nil, List.cons_append, lvals, List.length_replicate, List.length_set, linV_val hu, Int.add_zero, Int.zero_add, Int.mul_one, Int.sub_zero, Int.zero_mul, Bool.true_eq_false, false_and, and_false, true_and, and_true, List.all_cons, List.all_nil, id_eq, Bool.and_true, erow']; (try simp only [Int.ofNat_eq_natCast]); done) | ((try simp only [hu.b, hu.i, iB, iI, cmpB, Iv.val_sym, Iv.val_lit, Lv.raw, Tv.raw, decide_eq_true_eq, decide_eq_false_iff_not, beq_iff_eq, beq_eq_false_iff_ne, ne_eq, ofN, Int.toNat_zero, Int.toNat_one, Int.reduceToNat, natc, hu.s, iS, Sv.val_lit, Sv.val_sym, true_iff, false_iff, Bool.false_eq_true, bne_iff_ne, bne_eq_false_iff_eq, Bool.not_eq_true', Bool.not_eq_false', Decidable.not_not, nil_toList, ByteArray.size_empty, nilS, not_true_eq_false, not_false_eq_true, hu.l, iL, hu.t, iT, bin_add, bin_sub, bin_mul, wr_u8, wr_u16, wr_u32, wr_u64, IntKind.wrap_i64, List.length_append, List.length_cons, List.length_nil, List.nil_append, List.append_nil, List.cons_append, lvals, List.length_replicate, List.length_set, linV_val hu, Int.add_zero, Int.zero_add, Int.mul_one, Int.sub_zero, Int.zero_mul, Bool.true_eq_false, false_and, and_false, true_and, and_true, List.all_cons, List.all_nil, id_eq, Bool.and_true, erow']) <;> (try simp only [Int.ofNat_eq_natCast]) <;> omega))
  · have hF : row = false := by assumption
    have hF2 : False := by rw [hc] at hF; cases hF
    exact hF2.elim
  iterate 3
    · obtain ⟨i', ei⟩ : ∃ x, x = i + 1 := ⟨_, rfl⟩
      refine ⟨i', ⟨by omega, by omega⟩, by omega, [0], by kernel_rfl, by kernel_rfl, ?_, ?_⟩
      all_goals
        ((conv => cbv); repeat' (first | exact True.intro | with_reducible rfl | (with_reducible exact fun h => h) | (with_reducible refine And.intro ?_ ?_)))
      all_goals
        ((try simp only [hu.b, hu.i, iB, iI, cmpB, Iv.val_sym, Iv.val_lit, Lv.raw, Tv.raw, decide_eq_true_eq, decide_eq_false_iff_not, beq_iff_eq, beq_eq_false_iff_ne, ne_eq, ofN, Int.toNat_zero, Int.toNat_one, Int.reduceToNat, natc, hu.s, iS, Sv.val_lit, Sv.val_sym, true_iff, false_iff, Bool.false_eq_true, bne_iff_ne, bne_eq_false_iff_eq, Bool.not_eq_true', Bool.not_eq_false', Decidable.not_not, nil_toList, ByteArray.size_empty, nilS, not_true_eq_false, not_false_eq_true, hu.l, iL, hu.t, iT, bin_add, bin_sub, bin_mul, wr_u8, wr_u16, wr_u32, wr_u64, IntKind.wrap_i64, List.length_append, List.length_cons, List.length_nil, List.nil_append, List.append_nil, List.cons_append, lvals, List.length_replicate, List.length_set, linV_val hu, Int.add_zero, Int.zero_add, Int.mul_one, Int.sub_zero, Int.zero_mul, Bool.true_eq_false, false_and, and_false, true_and, and_true, List.all_cons, List.all_nil, id_eq, Bool.and_true]) <;> (try simp only [Int.ofNat_eq_natCast]) <;> (try omega))
  · subst hR
    refine Weak.of (⟨rfl, rfl⟩) ?_ ?_ (by rfl)
    all_goals ((conv => cbv); repeat' (first | exact True.intro | with_reducible rfl | (with_reducible exact fun h => h) | (with_reducible refine And.intro ?_ ?_)))
end Go.Proofs.Ytdpfjoojppmpbaa
namespace Go.Proofs.Ytdpfjoojppmpbaa
open Go Sx
set_option maxRecDepth 100000
set_option maxHeartbeats 1000000
theorem apply_e (ts : List ByteArray) (ls fs xs : List Int) (n : Int) (ta : List ByteArray) (tl tf : List Int) (e : Int) (hn : n = xs.length) (h1 : ts.length = 8) (h2 : ls.length = 8) (h3 : fs.length = 8) (hx : Bytes xs) (hA : applyS ts ls fs xs = ((ta, tl, tf), some e)) : Ctr Try.prog 8 [.cols .ro 5 [.ints .u8 (.sym xs)]] [.cols 24 [.strs (.sym ts), .ints .i64 (.sym ls), .ints .i64 (.sym fs)], .sl 0 (.lit 0) (.sym n)] fun v H =>
    v = .tup [.cols 24 [.strs (.sym ta), .ints .i64 (.sym tl), .ints .i64 (.sym tf)], .iface 44 (.int .i64 (.sym e))] ∧ H = [.cols .ro 5 [.ints .u8 (.sym xs)]] :=
  (apply_c (.sym ts) (.sym ls) (.sym fs) (.sym xs) (.sym n) hn h1 h2 h3 hx).mono fun v H ⟨h, h2⟩ => by
    rcases h with ⟨t, h, h1⟩ | ⟨e', h, h1⟩
    · simp only [Lv.raw, Tv.raw] at h
      rw [hA] at h; cases h
    · simp only [Lv.raw, Tv.raw] at h
      rw [hA] at h; cases h; exact ⟨h1, h2⟩
theorem apply_ok (ts : List ByteArray) (ls fs xs : List Int) (n : Int) (ta : List ByteArray) (tl tf : List Int) (hn : n = xs.length) (h1 : ts.length = 8) (h2 : ls.length = 8) (h3 : fs.length = 8) (hx : Bytes xs) (hA : applyS ts ls fs xs = ((ta, tl, tf), none)) : Ctr Try.prog 8 [.cols .ro 5 [.ints .u8 (.sym xs)]] [.cols 24 [.strs (.sym ts), .ints .i64 (.sym ls), .ints .i64 (.sym fs)], .sl 0 (.lit 0) (.sym n)] fun v H =>
    v = .tup [.cols 24 [.strs (.sym ta), .ints .i64 (.sym tl), .ints .i64 (.sym tf)], .nilif] ∧ H = [.cols .ro 5 [.ints .u8 (.sym xs)]] :=
  (apply_c (.sym ts) (.sym ls) (.sym fs) (.sym xs) (.sym n) hn h1 h2 h3 hx).mono fun v H ⟨h, h2⟩ => by
    rcases h with ⟨t, h, h1⟩ | ⟨e, h, h1⟩
    · simp only [Lv.raw, Tv.raw] at h
      rw [hA] at h; cases h; exact ⟨h1, h2⟩
    · simp only [Lv.raw, Tv.raw] at h
      rw [hA] at h; cases h
theorem replay_ctr (xss : List (List Int)) (m : Int) (hm0 : m = xss.length) (hB : ∀ i, Bytes (xss.getD i [])) : Ctr Try.prog 4 [.slices .u8 xss] [.sl 0 (.lit 0) (.sym m)] fun v H => v = .bool true := by
  obtain ⟨uI, uB, uS, uL, uT, hu⟩ := words
  have hm := mixed
  have hT := tabOk
  have h6 := @awake_ctr
  have hAe := @apply_e
  have hAo := @apply_ok
  have hSv := @save_ctr
  have hRi := @right_ctr
  obtain ⟨P, hP⟩ : ∃ P, P = Try.prog := ⟨_, rfl⟩
  rw [← hP] at hm hT h6 hAe hAo hSv hRi ⊢
  refine Ctr.weak (ctr_of_vc hu hm hT (hP ▸ Try.func4) rfl (by kernel_rfl) ?_)
  clear hP hm hT
  generalize hR : Weak _ _ = R
  conv => cbv
  repeat' (first | ((with_reducible intro (h : _ = _)); (try subst h); (try simp only [hu.b, hu.i, iB, iI, cmpB, Iv.val_sym, Iv.val_lit, Lv.raw, Tv.raw, decide_eq_true_eq, decide_eq_false_iff_not, beq_iff_eq, beq_eq_false_iff_ne, ne_eq, ofN, Int.toNat_zero, Int.toNat_one, Int.reduceToNat, natc, hu.s, iS, Sv.val_lit, Sv.val_sym, true_iff, false_iff, Bool.false_eq_true, bne_iff_ne, bne_eq_false_iff_eq, Bool.not_eq_true', Bool.not_eq_false', Decidable.not_not, nil_toList, ByteArray.size_empty, nilS, not_true_eq_false, not_false_eq_true, hu.l, iL, hu.t, iT, bin_add, bin_sub, bin_mul, wr_u8, wr_u16, wr_u32, wr_u64, IntKind.wrap_i64, List.length_append, List.length_cons, List.length_nil, List.nil_append, List.append_nil, List.cons_append, lvals, List.length_replicate, List.length_set, linV_val hu, Int.add_zero, Int.zero_add, Int.mul_one, Int.sub_zero, Int.zero_mul, Bool.true_eq_false, false_and, and_false, true_and, and_true, List.all_cons, List.all_nil, id_eq, Bool.and_true] at h) <;> (try simp only [Int.ofNat_eq_natCast] at h) <;> (first | (have hF0 : False := by omega; exact hF0.elim) | (conv => cbv))) | (with_reducible refine And.intro ?_ ?_) | (first | (refine CallDet.mkR ?_ (h6)) | (refine CallVC.mkR ?_ (h6))) | (refine Gen0.mk ?_; (conv => cbv)) | (simp only [hu.b, hu.i, iB, iI, cmpB, Iv.val_sym, Iv.val_lit, Lv.raw, Tv.raw, decide_eq_true_eq, decide_eq_false_iff_not, beq_iff_eq, beq_eq_false_iff_ne, ne_eq, ofN, Int.toNat_zero, Int.toNat_one, Int.reduceToNat, natc, hu.s, iS, Sv.val_lit, Sv.val_sym, true_iff, false_iff, Bool.false_eq_true, bne_iff_ne, bne_eq_false_iff_eq, Bool.not_eq_true', Bool.not_eq_false', Decidable.not_not, nil_toList, ByteArray.size_empty, nilS, not_true_eq_false, not_false_eq_true, hu.l, iL, hu.t, iT, bin_add, bin_sub, bin_mul, wr_u8, wr_u16, wr_u32, wr_u64, IntKind.wrap_i64, List.length_append, List.length_cons, List.length_nil, List.nil_append, List.append_nil, List.cons_append, lvals, List.length_replicate, List.length_set, linV_val hu, Int.add_zero, Int.zero_add, Int.mul_one, Int.sub_zero, Int.zero_mul, Bool.true_eq_false, false_and, and_false, true_and, and_true, List.all_cons, List.all_nil, id_eq, Bool.and_true]; (try simp only [Int.ofNat_eq_natCast]); done) | ((try simp only [hu.b, hu.i, iB, iI, cmpB, Iv.val_sym, Iv.val_lit, Lv.raw, Tv.raw, decide_eq_true_eq, decide_eq_false_iff_not, beq_iff_eq, beq_eq_false_iff_ne, ne_eq, ofN, Int.toNat_zero, Int.toNat_one, Int.reduceToNat, natc, hu.s, iS, Sv.val_lit, Sv.val_sym, true_iff, false_iff, Bool.false_eq_true, bne_iff_ne, bne_eq_false_iff_eq, Bool.not_eq_true', Bool.not_eq_false', Decidable.not_not, nil_toList, ByteArray.size_empty, nilS, not_true_eq_false, not_false_eq_true, hu.l, iL, hu.t, iT, bin_add, bin_sub, bin_mul, wr_u8, wr_u16, wr_u32, wr_u64, IntKind.wrap_i64, List.length_append, List.length_cons, List.length_nil, List.nil_append, List.append_nil, List.cons_append, lvals, List.length_replicate, List.length_set, linV_val hu, Int.add_zero, Int.zero_add, Int.mul_one, Int.sub_zero, Int.zero_mul, Bool.true_eq_false, false_and, and_false, true_and, and_true, List.all_cons, List.all_nil, id_eq, Bool.and_true]) <;> (try simp only [Int.ofNat_eq_natCast]) <;> omega))
  all_goals try (subst hR; exact Weak.law (by rfl) (by rfl))
  have hm60 : m ≤ 60 := by omega
  obtain ⟨z1, ez1⟩ : ∃ x, x = List.replicate 8 ByteArray.empty := ⟨_, rfl⟩
  obtain ⟨z2, ez2⟩ : ∃ x, x = List.replicate 8 (0 : Int) := ⟨_, rfl⟩
  have hz : Rt (z1, z2, z2) := by
    rw [ez1, ez2]
    refine ⟨rfl, rfl, rfl, fun i hi => .inl ⟨?_, ?_, ?_⟩⟩ <;> (dsimp only; rw [List.getD_eq_getElem?_getD, List.getElem?_replicate, if_pos hi]; rfl)
  refine .invr (Int × List ByteArray × List Int × List Int) [4] (fun g => ([.int .i64 (.sym g.1)], [.slices .u8 xss, .cols .var 25 [.strs (.sym g.2.1), .ints .i64 (.sym g.2.2.1), .ints .i64 (.sym g.2.2.2)]])) (fun g => 0 ≤ g.1 ∧ g.1 ≤ m ∧ Rt (g.2.1, g.2.2.1, g.2.2.2)) (fun g => (m - g.1).toNat) (0, z1, z2, z2) (by kernel_rfl) (fun g hg => by kernel_rfl) ?_ ?_
  · refine ⟨⟨by dsimp only; omega, by dsimp only; omega, hz⟩, ?_, ?_⟩
    all_goals
      ((conv => cbv); repeat' (first | exact True.intro | with_reducible rfl | (with_reducible exact fun h => h) | (with_reducible refine And.intro ?_ ?_)))
    all_goals
      ((try simp only [hu.b, hu.i, iB, iI, cmpB, Iv.val_sym, Iv.val_lit, Lv.raw, Tv.raw, decide_eq_true_eq, decide_eq_false_iff_not, beq_iff_eq, beq_eq_false_iff_ne, ne_eq, ofN, Int.toNat_zero, Int.toNat_one, Int.reduceToNat, natc, hu.s, iS, Sv.val_lit, Sv.val_sym, true_iff, false_iff, Bool.false_eq_true, bne_iff_ne, bne_eq_false_iff_eq, Bool.not_eq_true', Bool.not_eq_false', Decidable.not_not, nil_toList, ByteArray.size_empty, nilS, not_true_eq_false, not_false_eq_true, hu.l, iL, hu.t, iT, bin_add, bin_sub, bin_mul, wr_u8, wr_u16, wr_u32, wr_u64, IntKind.wrap_i64, List.length_append, List.length_cons, List.length_nil, List.nil_append, List.append_nil, List.cons_append, lvals, List.length_replicate, List.length_set, linV_val hu, Int.add_zero, Int.zero_add, Int.mul_one, Int.sub_zero, Int.zero_mul, Bool.true_eq_false, false_and, and_false, true_and, and_true, List.all_cons, List.all_nil, id_eq, Bool.and_true]) <;> (try simp only [Int.ofNat_eq_natCast]) <;> (try omega))
    all_goals first | exact ez1.symm | exact ez2.symm
  rintro ⟨i, ta, tl, tf⟩ hq
  simp only [] at hq
  have q0 := hq.1; have q1 := hq.2.1; have q2 := hq.2.2
  clear hq
  have hBi := hB i.toNat
  generalize exs : xss.getD i.toNat [] = xs
  have exs := exs.symm
  have exs' : xss.getD i.toNat [] = xs := exs.symm
  rw [exs'] at hBi
  have e0 : subL xs 0 (Int.ofNat xs.length) = xs := subL_all _ _ rfl
  have l1 := q2.l1; have l2 := q2.l2; have l3 := q2.l3
  dsimp only at l1 l2 l3
  generalize ena : (applyS ta tl tf xs).1.1 = na
  have ena := ena.symm
  generalize enl : (applyS ta tl tf xs).1.2.1 = nl
  have enl := enl.symm
  generalize enf : (applyS ta tl tf xs).1.2.2 = nf
  have enf := enf.symm
  generalize eer : (applyS ta tl tf xs).2 = er
  have eer := eer.symm
  generalize ee : er.getD 0 = e
  have ee := ee.symm
  have hA1 : er = none → applyS ta tl tf xs = ((na, nl, nf), none) := fun h => by rw [ena, enl, enf, ← h, eer]
  have hA2 : ¬ er = none → applyS ta tl tf xs = ((na, nl, nf), some e) := fun h => by
    rw [ena, enl, enf, ee, eer]
    rw [eer] at h
    generalize applyS ta tl tf xs = r at h ⊢
    obtain ⟨t0, e0⟩ := r
    cases e0 with
    | none => exact absurd rfl h
    | some x => rfl
  have hnr : Rt (na, nl, nf) := by
    refine applyS_rt (t := (ta, tl, tf)) (e := (applyS ta tl tf xs).2) q2 hBi ?_
    rw [ena, enl, enf]
  clear eer ee
  conv => cbv
  repeat' (first | ((with_reducible intro (h : _ = _)); (try subst h); (try simp only [hu.b, hu.i, iB, iI, cmpB, Iv.val_sym, Iv.val_lit, Lv.raw, Tv.raw, decide_eq_true_eq, decide_eq_false_iff_not, beq_iff_eq, beq_eq_false_iff_ne, ne_eq, ofN, Int.toNat_zero, Int.toNat_one, Int.reduceToNat, natc, hu.s, iS, Sv.val_lit, Sv.val_sym, true_iff, false_iff, Bool.false_eq_true, bne_iff_ne, bne_eq_false_iff_eq, Bool.not_eq_true', Bool.not_eq_false', Decidable.not_not, nil_toList, ByteArray.size_empty, nilS, not_true_eq_false, not_false_eq_true, hu.l, iL, hu.t, iT, bin_add, bin_sub, bin_mul, wr_u8, wr_u16, wr_u32, wr_u64, IntKind.wrap_i64, List.length_append, List.length_cons, List.length_nil, List.nil_append, List.append_nil, List.cons_append, lvals, List.length_replicate, List.length_set, linV_val hu, Int.add_zero, Int.zero_add, Int.mul_one, Int.sub_zero, Int.zero_mul, Bool.true_eq_false, false_and, and_false, true_and, and_true, List.all_cons, List.all_nil, id_eq, Bool.and_true, exs', e0] at h) <;> (try simp only [Int.ofNat_eq_natCast] at h) <;> (first | (have hF0 : False := by omega; exact hF0.elim) | (conv => cbv))) | (with_reducible refine And.intro ?_ ?_) | (first | (refine CallDet.cases (er = none) (fun hc => CallDet.mkR ?_ (hAo _ _ _ _ _ na nl nf ?_ ?_ ?_ ?_ ?_ ?_)) (fun hc => CallDet.mkR ?_ (hAe _ _ _ _ _ na nl nf e ?_ ?_ ?_ ?_ ?_ ?_))) | (refine CallVC.cases (er = none) (fun hc => CallVC.mkR ?_ (hAo _ _ _ _ _ na nl nf ?_ ?_ ?_ ?_ ?_ ?_)) (fun hc => CallVC.mkR ?_ (hAe _ _ _ _ _ na nl nf e ?_ ?_ ?_ ?_ ?_ ?_)))) | ((try simp only [hu.b, hu.i, iB, iI, cmpB, Iv.val_sym, Iv.val_lit, Lv.raw, Tv.raw, decide_eq_true_eq, decide_eq_false_iff_not, beq_iff_eq, beq_eq_false_iff_ne, ne_eq, ofN, Int.toNat_zero, Int.toNat_one, Int.reduceToNat, natc, hu.s, iS, Sv.val_lit, Sv.val_sym, true_iff, false_iff, Bool.false_eq_true, bne_iff_ne, bne_eq_false_iff_eq, Bool.not_eq_true', Bool.not_eq_false', Decidable.not_not, nil_toList, ByteArray.size_empty, nilS, not_true_eq_false, not_false_eq_true, hu.l, iL, hu.t, iT, bin_add, bin_sub, bin_mul, wr_u8, wr_u16, wr_u32, wr_u64, IntKind.wrap_i64, List.length_append, List.length_cons, List.length_nil, List.nil_append, List.append_nil, List.cons_append, lvals, List.length_replicate, List.length_set, linV_val hu, Int.add_zero, Int.zero_add, Int.mul_one, Int.sub_zero, Int.zero_mul, Bool.true_eq_false, false_and, and_false, true_and, and_true, List.all_cons, List.all_nil, id_eq, Bool.and_true, exs', e0]) <;> (try simp only [Int.ofNat_eq_natCast]) <;> (first | with_reducible exact hBi | with_reducible exact q2 | exact hA1 hc | exact hA2 hc)) | (refine CallVC.mk (Ctr.monoR ?_ (hSv _ _ _ ?_)); ((rintro v H ⟨q, zss, ⟨h1, h2⟩, rfl, rfl⟩) <;> (try simp only [hu.b, hu.i, iB, iI, cmpB, Iv.val_sym, Iv.val_lit, Lv.raw, Tv.raw, decide_eq_true_eq, decide_eq_false_iff_not, beq_iff_eq, beq_eq_false_iff_ne, ne_eq, ofN, Int.toNat_zero, Int.toNat_one, Int.reduceToNat, natc, hu.s, iS, Sv.val_lit, Sv.val_sym, true_iff, false_iff, Bool.false_eq_true, bne_iff_ne, bne_eq_false_iff_eq, Bool.not_eq_true', Bool.not_eq_false', Decidable.not_not, nil_toList, ByteArray.size_empty, nilS, not_true_eq_false, not_false_eq_true, hu.l, iL, hu.t, iT, bin_add, bin_sub, bin_mul, wr_u8, wr_u16, wr_u32, wr_u64, IntKind.wrap_i64, List.length_append, List.length_cons, List.length_nil, List.nil_append, List.append_nil, List.cons_append, lvals, List.length_replicate, List.length_set, linV_val hu, Int.add_zero, Int.zero_add, Int.mul_one, Int.sub_zero, Int.zero_mul, Bool.true_eq_false, false_and, and_false, true_and, and_true, List.all_cons, List.all_nil, id_eq, Bool.and_true, exs', e0] at h1 h2) <;> (try simp only [Int.ofNat_eq_natCast] at h1) <;> (try simp only [Int.ofNat_eq_natCast] at h2) <;> (first | (have hF0 : False := by omega; exact hF0.elim) | (conv => cbv)))) | (first | (refine CallDet.mkR ?_ (hRi _ _ _ ?_)) | (refine CallVC.mkR ?_ (hRi _ _ _ ?_))) | (refine Gen0.mk ?_; (conv => cbv)) | (simp only [hu.b, hu.i, iB, iI, cmpB, Iv.val_sym, Iv.val_lit, Lv.raw, Tv.raw, decide_eq_true_eq, decide_eq_false_iff_not, beq_iff_eq, beq_eq_false_iff_ne, ne_eq, ofN, Int.toNat_zero, Int.toNat_one, Int.reduceToNat, natc, hu.s, iS, Sv.val_lit, Sv.val_sym, true_iff, false_iff, Bool.false_eq_true, bne_iff_ne, bne_eq_false_iff_eq, Bool.not_eq_true', Bool.not_eq_false', Decidable.not_not, nil_toList, ByteArray.size_empty, nilS, not_true_eq_false, not_false_eq_true, hu.l, iL, hu.t, iT, bin_add, bin_sub, bin_mul, wr_u8, wr_u16, wr_u32, wr_u64, IntKind.wrap_i64, List.length_append, List.length_cons, List.length_nil, List.nil_append, List.append_nil, List.cons_append, lvals, List.length_replicate, List.length_set, linV_val hu, Int.add_zero, Int.zero_add, Int.mul_one, Int.sub_zero, Int.zero_mul, Bool.true_eq_false, false_and, and_false, true_and, and_true, List.all_cons, List.all_nil, id_eq, Bool.and_true, exs', e0]; (try simp only [Int.ofNat_eq_natCast]); done) | ((try simp only [hu.b, hu.i, iB, iI, cmpB, Iv.val_sym, Iv.val_lit, Lv.raw, Tv.raw, decide_eq_true_eq, decide_eq_false_iff_not, beq_iff_eq, beq_eq_false_iff_ne, ne_eq, ofN, Int.toNat_zero, Int.toNat_one, Int.reduceToNat, natc, hu.s, iS, Sv.val_lit, Sv.val_sym, true_iff, false_iff, Bool.false_eq_true, bne_iff_ne, bne_eq_false_iff_eq, Bool.not_eq_true', Bool.not_eq_false', Decidable.not_not, nil_toList, ByteArray.size_empty, nilS, not_true_eq_false, not_false_eq_true, hu.l, iL, hu.t, iT, bin_add, bin_sub, bin_mul, wr_u8, wr_u16, wr_u32, wr_u64, IntKind.wrap_i64, List.length_append, List.length_cons, List.length_nil, List.nil_append, List.append_nil, List.cons_append, lvals, List.length_replicate, List.length_set, linV_val hu, Int.add_zero, Int.zero_add, Int.mul_one, Int.sub_zero, Int.zero_mul, Bool.true_eq_false, false_and, and_false, true_and, and_true, List.all_cons, List.all_nil, id_eq, Bool.and_true, exs', e0]) <;> (try simp only [Int.ofNat_eq_natCast]) <;> omega))
  all_goals try (subst hR; exact Weak.law (by rfl) (by rfl))
  iterate 2
    · obtain ⟨i', ei⟩ : ∃ x, x = i + 1 := ⟨_, rfl⟩
      refine ⟨(i', na, nl, nf), ⟨by dsimp only; omega, by dsimp only; omega, hnr⟩, by dsimp only; omega, [0, 1], by kernel_rfl, by kernel_rfl, ?_, ?_⟩
      all_goals
        ((conv => cbv); repeat' (first | exact True.intro | with_reducible rfl | (with_reducible exact fun h => h) | (with_reducible refine And.intro ?_ ?_)))
      all_goals
        ((try simp only [hu.b, hu.i, iB, iI, cmpB, Iv.val_sym, Iv.val_lit, Lv.raw, Tv.raw, decide_eq_true_eq, decide_eq_false_iff_not, beq_iff_eq, beq_eq_false_iff_ne, ne_eq, ofN, Int.toNat_zero, Int.toNat_one, Int.reduceToNat, natc, hu.s, iS, Sv.val_lit, Sv.val_sym, true_iff, false_iff, Bool.false_eq_true, bne_iff_ne, bne_eq_false_iff_eq, Bool.not_eq_true', Bool.not_eq_false', Decidable.not_not, nil_toList, ByteArray.size_empty, nilS, not_true_eq_false, not_false_eq_true, hu.l, iL, hu.t, iT, bin_add, bin_sub, bin_mul, wr_u8, wr_u16, wr_u32, wr_u64, IntKind.wrap_i64, List.length_append, List.length_cons, List.length_nil, List.nil_append, List.append_nil, List.cons_append, lvals, List.length_replicate, List.length_set, linV_val hu, Int.add_zero, Int.zero_add, Int.mul_one, Int.sub_zero, Int.zero_mul, Bool.true_eq_false, false_and, and_false, true_and, and_true, List.all_cons, List.all_nil, id_eq, Bool.and_true]) <;> (try simp only [Int.ofNat_eq_natCast]) <;> (try omega))
  clear hAe hSv hRi h6 hA1 hA2 hnr
  have q9 : q ≤ 8 := by have := saveN_le (ta, tl, tf) 8; rw [← h2] at this; omega
  have hU0 : U (ta, tl, tf) 0 = (z1, z2, z2) := by rw [U, List.take_zero, List.foldl_nil, ez1, ez2]; rfl
  refine .invr (Int × List ByteArray × List Int × List Int) [8] (fun g => ([.int .i64 (.sym g.1)], [.slices .u8 xss, .cols .var 25 [.strs (.sym ta), .ints .i64 (.sym tl), .ints .i64 (.sym tf)], .srow 26 .u8 zss, .cols .var 25 [.strs (.sym g.2.1), .ints .i64 (.sym g.2.2.1), .ints .i64 (.sym g.2.2.2)]])) (fun g => 0 ≤ g.1 ∧ g.1 ≤ q ∧ U (ta, tl, tf) g.1.toNat = (g.2.1, g.2.2.1, g.2.2.2)) (fun g => (q - g.1).toNat) (0, z1, z2, z2) (by kernel_rfl) (fun g hg => by kernel_rfl) ?_ ?_
  · refine ⟨⟨by dsimp only; omega, by dsimp only; omega, hU0⟩, ?_, ?_⟩
    all_goals
      ((conv => cbv); repeat' (first | exact True.intro | with_reducible rfl | (with_reducible exact fun h => h) | (with_reducible refine And.intro ?_ ?_)))
    all_goals
      ((try simp only [hu.b, hu.i, iB, iI, cmpB, Iv.val_sym, Iv.val_lit, Lv.raw, Tv.raw, decide_eq_true_eq, decide_eq_false_iff_not, beq_iff_eq, beq_eq_false_iff_ne, ne_eq, ofN, Int.toNat_zero, Int.toNat_one, Int.reduceToNat, natc, hu.s, iS, Sv.val_lit, Sv.val_sym, true_iff, false_iff, Bool.false_eq_true, bne_iff_ne, bne_eq_false_iff_eq, Bool.not_eq_true', Bool.not_eq_false', Decidable.not_not, nil_toList, ByteArray.size_empty, nilS, not_true_eq_false, not_false_eq_true, hu.l, iL, hu.t, iT, bin_add, bin_sub, bin_mul, wr_u8, wr_u16, wr_u32, wr_u64, IntKind.wrap_i64, List.length_append, List.length_cons, List.length_nil, List.nil_append, List.append_nil, List.cons_append, lvals, List.length_replicate, List.length_set, linV_val hu, Int.add_zero, Int.zero_add, Int.mul_one, Int.sub_zero, Int.zero_mul, Bool.true_eq_false, false_and, and_false, true_and, and_true, List.all_cons, List.all_nil, id_eq, Bool.and_true]) <;> (try simp only [Int.ofNat_eq_natCast]) <;> (try omega))
    all_goals first | exact ez1.symm | exact ez2.symm
  rintro ⟨j, ua, ul, uf⟩ hq
  simp only [] at hq
  have p0 := hq.1; have p1 := hq.2.1; have p2 := hq.2.2
  clear hq
  have hj := U_len q2 (j := j.toNat) (by rw [← h2]; omega)
  rw [p2] at hj
  have m1 := hj.1; have m2 := hj.2.1; have m3 := hj.2.2
  dsimp only at m1 m2 m3
  generalize ezs : zss.getD j.toNat [] = zs
  have ezs := ezs.symm
  have ezs' : zss.getD j.toNat [] = zs := ezs.symm
  generalize ena : (U (ta, tl, tf) (j.toNat + 1)).1 = na
  have ena := ena.symm
  generalize enl : (U (ta, tl, tf) (j.toNat + 1)).2.1 = nl
  have enl := enl.symm
  generalize enf : (U (ta, tl, tf) (j.toNat + 1)).2.2 = nf
  have enf := enf.symm
  have hA : j < q → applyS ua ul uf zs = ((na, nl, nf), none) := fun h => by
    have h3 := U_next q2 (j := j.toNat) (by rw [← h2]; omega)
    rw [p2] at h3
    rw [ezs, h2, h3, ena, enl, enf]
  have hZ : j < q → Bytes zs := fun h => by
    rw [ezs, h2]; exact (rec_bytes q2 (by rw [← h2]; omega)).1
  have f0 : subL zs 0 (Int.ofNat zs.length) = zs := subL_all _ _ rfl
  conv => cbv
  repeat' (first | ((with_reducible intro (h : _ = _)); (try subst h); (try simp only [hu.b, hu.i, iB, iI, cmpB, Iv.val_sym, Iv.val_lit, Lv.raw, Tv.raw, decide_eq_true_eq, decide_eq_false_iff_not, beq_iff_eq, beq_eq_false_iff_ne, ne_eq, ofN, Int.toNat_zero, Int.toNat_one, Int.reduceToNat, natc, hu.s, iS, Sv.val_lit, Sv.val_sym, true_iff, false_iff, Bool.false_eq_true, bne_iff_ne, bne_eq_false_iff_eq, Bool.not_eq_true', Bool.not_eq_false', Decidable.not_not, nil_toList, ByteArray.size_empty, nilS, not_true_eq_false, not_false_eq_true, hu.l, iL, hu.t, iT, bin_add, bin_sub, bin_mul, wr_u8, wr_u16, wr_u32, wr_u64, IntKind.wrap_i64, List.length_append, List.length_cons, List.length_nil, List.nil_append, List.append_nil, List.cons_append, lvals, List.length_replicate, List.length_set, linV_val hu, Int.add_zero, Int.zero_add, Int.mul_one, Int.sub_zero, Int.zero_mul, Bool.true_eq_false, false_and, and_false, true_and, and_true, List.all_cons, List.all_nil, id_eq, Bool.and_true, ezs', f0] at h) <;> (try simp only [Int.ofNat_eq_natCast] at h) <;> (first | (have hF0 : False := by omega; exact hF0.elim) | (conv => cbv))) | (with_reducible refine And.intro ?_ ?_) | (first | (refine CallDet.mkR ?_ (hAo _ _ _ _ _ na nl nf ?_ ?_ ?_ ?_ ?_ ?_)) | (refine CallVC.mkR ?_ (hAo _ _ _ _ _ na nl nf ?_ ?_ ?_ ?_ ?_ ?_))) | ((try simp only [hu.b, hu.i, iB, iI, cmpB, Iv.val_sym, Iv.val_lit, Lv.raw, Tv.raw, decide_eq_true_eq, decide_eq_false_iff_not, beq_iff_eq, beq_eq_false_iff_ne, ne_eq, ofN, Int.toNat_zero, Int.toNat_one, Int.reduceToNat, natc, hu.s, iS, Sv.val_lit, Sv.val_sym, true_iff, false_iff, Bool.false_eq_true, bne_iff_ne, bne_eq_false_iff_eq, Bool.not_eq_true', Bool.not_eq_false', Decidable.not_not, nil_toList, ByteArray.size_empty, nilS, not_true_eq_false, not_false_eq_true, hu.l, iL, hu.t, iT, bin_add, bin_sub, bin_mul, wr_u8, wr_u16, wr_u32, wr_u64, IntKind.wrap_i64, List.length_append, List.length_cons, List.length_nil, List.nil_append, List.append_nil, List.cons_append, lvals, List.length_replicate, List.length_set, linV_val hu, Int.add_zero, Int.zero_add, Int.mul_one, Int.sub_zero, Int.zero_mul, Bool.true_eq_false, false_and, and_false, true_and, and_true, List.all_cons, List.all_nil, id_eq, Bool.and_true, ezs', f0]) <;> (try simp only [Int.ofNat_eq_natCast]) <;> (first | exact hZ (by omega) | exact hA (by omega))) | (refine Gen0.mk ?_; (conv => cbv)) | (simp only [hu.b, hu.i, iB, iI, cmpB, Iv.val_sym, Iv.val_lit, Lv.raw, Tv.raw, decide_eq_true_eq, decide_eq_false_iff_not, beq_iff_eq, beq_eq_false_iff_ne, ne_eq, ofN, Int.toNat_zero, Int.toNat_one, Int.reduceToNat, natc, hu.s, iS, Sv.val_lit, Sv.val_sym, true_iff, false_iff, Bool.false_eq_true, bne_iff_ne, bne_eq_false_iff_eq, Bool.not_eq_true', Bool.not_eq_false', Decidable.not_not, nil_toList, ByteArray.size_empty, nilS, not_true_eq_false, not_false_eq_true, hu.l, iL, hu.t, iT, bin_add, bin_sub, bin_mul, wr_u8, wr_u16, wr_u32, wr_u64, IntKind.wrap_i64, List.length_append, List.length_cons, List.length_nil, List.nil_append, List.append_nil, List.cons_append, lvals, List.length_replicate, List.length_set, linV_val hu, Int.add_zero, Int.zero_add, Int.mul_one, Int.sub_zero, Int.zero_mul, Bool.true_eq_false, false_and, and_false, true_and, and_true, List.all_cons, List.all_nil, id_eq, Bool.and_true, ezs', f0]; (try simp only [Int.ofNat_eq_natCast]); done) | ((try simp only [hu.b, hu.i, iB, iI, cmpB, Iv.val_sym, Iv.val_lit, Lv.raw, Tv.raw, decide_eq_true_eq, decide_eq_false_iff_not, beq_iff_eq, beq_eq_false_iff_ne, ne_eq, ofN, Int.toNat_zero, Int.toNat_one, Int.reduceToNat, natc, hu.s, iS, Sv.val_lit, Sv.val_sym, true_iff, false_iff, Bool.false_eq_true, bne_iff_ne, bne_eq_false_iff_eq, Bool.not_eq_true', Bool.not_eq_false', Decidable.not_not, nil_toList, ByteArray.size_empty, nilS, not_true_eq_false, not_false_eq_true, hu.l, iL, hu.t, iT, bin_add, bin_sub, bin_mul, wr_u8, wr_u16, wr_u32, wr_u64, IntKind.wrap_i64, List.length_append, List.length_cons, List.length_nil, List.nil_append, List.append_nil, List.cons_append, lvals, List.length_replicate, List.length_set, linV_val hu, Int.add_zero, Int.zero_add, Int.mul_one, Int.sub_zero, Int.zero_mul, Bool.true_eq_false, false_and, and_false, true_and, and_true, List.all_cons, List.all_nil, id_eq, Bool.and_true, ezs', f0]) <;> (try simp only [Int.ofNat_eq_natCast]) <;> omega))
  · obtain ⟨j', ej⟩ : ∃ x, x = j + 1 := ⟨_, rfl⟩
    refine ⟨(j', na, nl, nf), ⟨by dsimp only; omega, by dsimp only; omega, by dsimp only; rw [ej, show (j + 1).toNat = j.toNat + 1 by omega, ena, enl, enf]⟩, by dsimp only; omega, [0, 1, 2, 3], by kernel_rfl, by kernel_rfl, ?_, ?_⟩
    all_goals
      ((conv => cbv); repeat' (first | exact True.intro | with_reducible rfl | (with_reducible exact fun h => h) | (with_reducible refine And.intro ?_ ?_)))
    all_goals
      ((try simp only [hu.b, hu.i, iB, iI, cmpB, Iv.val_sym, Iv.val_lit, Lv.raw, Tv.raw, decide_eq_true_eq, decide_eq_false_iff_not, beq_iff_eq, beq_eq_false_iff_ne, ne_eq, ofN, Int.toNat_zero, Int.toNat_one, Int.reduceToNat, natc, hu.s, iS, Sv.val_lit, Sv.val_sym, true_iff, false_iff, Bool.false_eq_true, bne_iff_ne, bne_eq_false_iff_eq, Bool.not_eq_true', Bool.not_eq_false', Decidable.not_not, nil_toList, ByteArray.size_empty, nilS, not_true_eq_false, not_false_eq_true, hu.l, iL, hu.t, iT, bin_add, bin_sub, bin_mul, wr_u8, wr_u16, wr_u32, wr_u64, IntKind.wrap_i64, List.length_append, List.length_cons, List.length_nil, List.nil_append, List.append_nil, List.cons_append, lvals, List.length_replicate, List.length_set, linV_val hu, Int.add_zero, Int.zero_add, Int.mul_one, Int.sub_zero, Int.zero_mul, Bool.true_eq_false, false_and, and_false, true_and, and_true, List.all_cons, List.all_nil, id_eq, Bool.and_true]) <;> (try simp only [Int.ofNat_eq_natCast]) <;> (try omega))
  all_goals try (subst hR; exact Weak.law (by rfl) (by rfl))
  · have hF : False := by
      have h3 := U_all q2
      rw [← h2, show zss.length = j.toNat by omega, p2] at h3
      cases h3
      simp at h
    exact hF.elim
end Go.Proofs.Ytdpfjoojppmpbaa
