import Derived.Test.YtbadogbkbhopcaaDoorK2
import Derived.Test.YtbadogbkbhopcaaDoorK1
set_option linter.all false
set_option linter.unusedSectionVars false
namespace Go.Proofs.YtbadogbkbhopcaaDoor
open Go Sx
set_option maxRecDepth 100000
set_option maxHeartbeats 4000000
theorem first_exists (s : ByteArray) (b : Int) : ∃ i, IsFirst s b i := by
  have h : ∀ n : Nat, n ≤ s.size → (∀ k : Int, 0 ≤ k → k < n → val8 (byteAt s k) < b) ∨ ∃ i : Int, 0 ≤ i ∧ i < n ∧ b ≤ val8 (byteAt s i) ∧ ∀ k : Int, 0 ≤ k → k < i → val8 (byteAt s k) < b := by
    intro n
    induction n with
    | zero => intro _; exact .inl fun k h0 h1 => by omega
    | succ n ih =>
      intro hn
      rcases ih (by omega) with h | ⟨i, h0, h1, h2, h3⟩
      · rcases Int.lt_or_le (val8 (byteAt s n)) b with e | e
        · refine .inl fun k h0 h1 => ?_
          rcases Int.lt_or_le k n with q | q
          · exact h k h0 q
          · rw [show k = n by omega]; exact e
        · exact .inr ⟨n, by omega, by omega, e, h⟩
      · exact .inr ⟨i, h0, by omega, h2, h3⟩
  rcases h s.size (Nat.le_refl _) with h | ⟨i, h0, h1, h2, h3⟩
  · exact ⟨-1, .inl ⟨rfl, h⟩⟩
  · exact ⟨i, .inr ⟨h0, h1, h2, h3⟩⟩
noncomputable def firstI (s : ByteArray) (b : Int) : Int := Classical.choose (first_exists s b)
theorem firstI_is (s : ByteArray) (b : Int) : IsFirst s b (firstI s b) := Classical.choose_spec (first_exists s b)
/-- All bytes are digits below a base: reckoned. -/
def allD (s : ByteArray) (b : Int) : Bool := chk (fun k => decide (val8 (byteAt s k) < b)) s.size
theorem first_of {s : ByteArray} {b : Int} (h : allD s b = true) : IsFirst s b (-1) := .inl ⟨rfl, fun k h0 h1 => by
  have := of_decide_eq_true (chk_at h h0 (by omega))
  rwa [Int.toNat_of_nonneg h0] at this⟩
theorem hex_at (xs : List Int) (n : Int) (t : ByteArray) (hn : n = xs.length) (h9 : n ≤ 100000) (hB : Bytes xs) (ht : t = strL (hexL xs)) : Ctr Tryd.prog 16 [.cols .ro 5 [.ints .u8 (.sym xs)]] [.sl 0 (.lit 0) (.sym n)] fun v H => v = .str (.sym t) ∧ H = [.cols .ro 5 [.ints .u8 (.sym xs)]] :=
  (hex_ctr xs n hn h9 hB).mono fun v H ⟨⟨s, h1, h2⟩, h3⟩ => ⟨by rw [h2, h1, ht], h3⟩
theorem rhex_at (xs : List Int) (n : Int) (t : ByteArray) (hn : n = xs.length) (h9 : n ≤ 100000) (hB : Bytes xs) (ht : t = strL (hexL xs)) : Ctr Tryd.prog 17 [.cols .ro 5 [.ints .u8 (.sym xs)]] [.sl 0 (.lit 0) (.sym n)] fun v H => v = .str (.sym t) ∧ H = [.cols .ro 5 [.ints .u8 (.sym xs)]] :=
  (rhex_ctr xs n hn h9 hB).mono fun v H ⟨⟨s, h1, h2⟩, h3⟩ => ⟨by rw [h2, h1, ht], h3⟩
theorem runhex_at (s : ByteArray) (m : Int) (ys : List Int) (hs : s.size ≤ 1000000) (hm0 : (s.size : Int) = 2 * m) (hf : IsFirst s 16 (-1)) (hy : ys = unhexL s m.toNat) : Ctr Tryd.prog 20 [] [.str (.sym s)] fun v H => v = .vec 0 (.sym m) ∧ H = [.cols (.row 1) 5 [.ints .u8 (.sym ys)]] :=
  (runhex_ctr s hs m hm0 hf ys hy).mono fun v H ⟨⟨m2, h1, h2⟩, h3⟩ => ⟨by rw [h2, h1], h3⟩
theorem rfirst_at (s : ByteArray) (base i : Int) (hs : s.size ≤ 1000000) (hi : i = firstI s base) : Ctr Tryd.prog 9 [] [.str (.sym s), .int .i64 (.sym base)] fun v H => v = .int .i64 (.sym i) ∧ H = [] :=
  (rfirst_ctr s base hs).mono fun v H ⟨⟨j, ⟨h1, _⟩, h2⟩, h3⟩ => ⟨by rw [h2, hi, h1.eq (firstI_is s base)], h3⟩
theorem decimal_at (s : ByteArray) (z : Bool) (hs : s.size ≤ 1000000) (hz : z = decide (firstI s 10 < 0)) : Ctr Tryd.prog 18 [] [.str (.sym s)] fun v H => v = .sbool z ∧ H = [] :=
  (decimal_ctr s hs).mono fun v H ⟨⟨i, y, ⟨h1, _, h3⟩, h4⟩, h5⟩ => ⟨by
    have : y = z := by
      rw [hz, ← h1.eq (firstI_is s 10)]
      by_cases h : i < 0
      · rw [h3.2 h, decide_eq_true h]
      · rw [decide_eq_false h, Bool.eq_false_iff]; exact fun e => h (h3.1 e)
    rw [h4, this], h5⟩
theorem check_at (s : ByteArray) (c : Int) (hs : s.size ≤ 1000000) (hf : IsFirst s 10 (-1)) (hc : c = checkD s) : Ctr Tryd.prog 8 [] [.str (.sym s)] fun v H => v = .tup [.int .u8 (.sym c), .nilif] ∧ H = [] :=
  (check_ctr s hs).mono fun v H h => by
    rcases h with ⟨i, ⟨h1, h2⟩, _⟩ | ⟨d, ⟨h1, h2, _⟩, h3, h4⟩
    · have := h1.eq hf; omega
    · exact ⟨by rw [h3, h2, hc], h4⟩
theorem unhex_at (s : ByteArray) (m : Int) (ys : List Int) (hs : s.size ≤ 1000000) (hf : IsFirst s 16 (-1)) (hm1 : (s.size : Int) = 2 * m) (hy : ys = unhexL s m.toNat) : Ctr Tryd.prog 15 [] [.str (.sym s)] fun v H => v = .tup [.vec 0 (.sym m), .nilif] ∧ H = [.cols (.row 1) 5 [.ints .u8 (.sym ys)]] :=
  (unhex_ctr s hs).mono fun v H h => by
    rcases h with ⟨i, ⟨h1, h2⟩, _⟩ | ⟨⟨h1, h2⟩, _⟩ | ⟨k, zs, ⟨h1, h2, h3, h4⟩, h5, h6⟩
    · have := h1.eq hf; omega
    · omega
    · have e : k = m := by omega
      subst e
      exact ⟨h5, by rw [h6, h4, hy]⟩
theorem through_at (s t u : ByteArray) (hs : s.size ≤ 100000) (ht9 : t.size ≤ 1000000) (h16 : (t.size : Int) = 16) (hf : IsFirst t 10 (-1)) (hg : IsFirst s 16 (-1)) (hv : u = strL (thrL s t s.size)) : Ctr Tryd.prog 13 [] [.str (.sym s), .str (.sym t)] fun v H => v = .tup [.str (.sym u), .nilif] ∧ H = [] :=
  (through_ctr s t hs ht9).mono fun v H h => by
    rcases h with ⟨h1, _⟩ | ⟨i, j, ⟨_, h1, h2, _⟩, _⟩ | ⟨i, ⟨_, _, h1, h2⟩, _⟩ | ⟨w, ⟨_, _, _, h1⟩, h2, h3⟩
    · exact absurd h16 h1
    · have := h1.eq hf; omega
    · have := h1.eq hg; omega
    · exact ⟨by rw [h2, h1, hv], h3⟩
theorem mod_at (a b u : ByteArray) (back : Bool) (hs : a.size ≤ 100000) (hs2 : b.size ≤ 100000) (he : (a.size : Int) = b.size) (ha : IsFirst a 10 (-1)) (hb : IsFirst b 10 (-1)) (hv : u = strL (modL a b back a.size)) : Ctr Tryd.prog 21 [] [.str (.sym a), .str (.sym b), .sbool back] fun v H => v = .tup [.str (.sym u), .nilif] ∧ H = [] :=
  (mod_ctr a b back hs hs2).mono fun v H h => by
    rcases h with ⟨h1, _⟩ | ⟨i, ⟨_, h1, h2⟩, _⟩ | ⟨i, ⟨_, _, h1, h2⟩, _⟩ | ⟨w, ⟨_, _, _, h1⟩, h2, h3⟩
    · exact absurd he h1
    · have := h1.eq ha; omega
    · have := h1.eq hb; omega
    · exact ⟨by rw [h2, h1, hv], h3⟩
theorem equal_at (xs ys : List Int) (n m : Int) (z : Bool) (hn : n = xs.length) (hm1 : m = ys.length) (h9 : n ≤ 1000000) (hX : Bytes xs) (hY : Bytes ys) (hz : z = decide (xs = ys)) : Ctr Tryd.prog 22 [.cols .ro 5 [.ints .u8 (.sym xs)], .cols .ro 5 [.ints .u8 (.sym ys)]] [.sl 0 (.lit 0) (.sym n), .sl 1 (.lit 0) (.sym m)] fun v H => v = .sbool z ∧ H = [.cols .ro 5 [.ints .u8 (.sym xs)], .cols .ro 5 [.ints .u8 (.sym ys)]] :=
  (equal_ctr xs ys n m hn hm1 h9 hX hY).mono fun v H ⟨⟨y, h1, h2⟩, h3⟩ => ⟨by
    have : y = z := by
      rw [hz]
      by_cases h : xs = ys
      · rw [h1.2 h, decide_eq_true h]
      · rw [decide_eq_false h, Bool.eq_false_iff]; exact fun e => h (h1.1 e)
    rw [h2, this], h3⟩
theorem equal_nil (xs : List Int) (n : Int) (hn : n = xs.length) (h0 : 0 < n) : Ctr Tryd.prog 22 [.cols .ro 5 [.ints .u8 (.sym xs)]] [.sl 0 (.lit 0) (.sym n), .nilsl] fun v H => v = .bool false ∧ H = [.cols .ro 5 [.ints .u8 (.sym xs)]] := by
  obtain ⟨uI, uB, uS, uL, uT, hu⟩ := words
  have hm := mixed
  have hT := tabOk
  obtain ⟨P, hP⟩ : ∃ P, P = Tryd.prog := ⟨_, rfl⟩
  rw [← hP] at hm hT ⊢
  refine Ctr.weak (ctr_of_vc hu hm hT (hP ▸ Tryd.func22) rfl (by kernel_rfl) ?_)
  clear hP hm hT
  generalize hR : Weak _ _ = R
  conv => cbv
  repeat' (first | ((with_reducible intro (h : _ = _)); (try subst h); (try simp only [hu.b, hu.i, iB, iI, cmpB, Iv.val_sym, Iv.val_lit, Lv.raw, Tv.raw, decide_eq_true_eq, decide_eq_false_iff_not, beq_iff_eq, beq_eq_false_iff_ne, ne_eq, ofN, Int.toNat_zero, Int.toNat_one, Int.reduceToNat, natc, hu.s, iS, Sv.val_lit, Sv.val_sym, true_iff, false_iff, Bool.false_eq_true, bne_iff_ne, bne_eq_false_iff_eq, Bool.not_eq_true', Bool.not_eq_false', Decidable.not_not, nil_toList, ByteArray.size_empty, nilS, not_true_eq_false, not_false_eq_true, hu.l, iL, hu.t, iT, bin_add, bin_sub, bin_mul, wr_u8, wr_u16, wr_u32, wr_u64, IntKind.wrap_i64, List.length_append, List.length_cons, List.length_nil, List.nil_append, List.append_nil, List.cons_append, lvals, List.length_replicate, List.length_set, linV_val hu, Int.add_zero, Int.zero_add, Int.mul_one, Int.sub_zero, Int.zero_mul, Bool.true_eq_false, false_and, and_false, true_and, and_true, List.all_cons, List.all_nil, id_eq, Bool.and_true] at h) <;> (try simp only [Int.ofNat_eq_natCast] at h) <;> (first | (have hF0 : False := by omega; exact hF0.elim) | (conv => cbv))) | (with_reducible refine And.intro ?_ ?_) | (refine Gen0.mk ?_; (conv => cbv)) | (simp only [hu.b, hu.i, iB, iI, cmpB, Iv.val_sym, Iv.val_lit, Lv.raw, Tv.raw, decide_eq_true_eq, decide_eq_false_iff_not, beq_iff_eq, beq_eq_false_iff_ne, ne_eq, ofN, Int.toNat_zero, Int.toNat_one, Int.reduceToNat, natc, hu.s, iS, Sv.val_lit, Sv.val_sym, true_iff, false_iff, Bool.false_eq_true, bne_iff_ne, bne_eq_false_iff_eq, Bool.not_eq_true', Bool.not_eq_false', Decidable.not_not, nil_toList, ByteArray.size_empty, nilS, not_true_eq_false, not_false_eq_true, hu.l, iL, hu.t, iT, bin_add, bin_sub, bin_mul, wr_u8, wr_u16, wr_u32, wr_u64, IntKind.wrap_i64, List.length_append, List.length_cons, List.length_nil, List.nil_append, List.append_nil, List.cons_append, lvals, List.length_replicate, List.length_set, linV_val hu, Int.add_zero, Int.zero_add, Int.mul_one, Int.sub_zero, Int.zero_mul, Bool.true_eq_false, false_and, and_false, true_and, and_true, List.all_cons, List.all_nil, id_eq, Bool.and_true]; (try simp only [Int.ofNat_eq_natCast]); done) | ((try simp only [hu.b, hu.i, iB, iI, cmpB, Iv.val_sym, Iv.val_lit, Lv.raw, Tv.raw, decide_eq_true_eq, decide_eq_false_iff_not, beq_iff_eq, beq_eq_false_iff_ne, ne_eq, ofN, Int.toNat_zero, Int.toNat_one, Int.reduceToNat, natc, hu.s, iS, Sv.val_lit, Sv.val_sym, true_iff, false_iff, Bool.false_eq_true, bne_iff_ne, bne_eq_false_iff_eq, Bool.not_eq_true', Bool.not_eq_false', Decidable.not_not, nil_toList, ByteArray.size_empty, nilS, not_true_eq_false, not_false_eq_true, hu.l, iL, hu.t, iT, bin_add, bin_sub, bin_mul, wr_u8, wr_u16, wr_u32, wr_u64, IntKind.wrap_i64, List.length_append, List.length_cons, List.length_nil, List.nil_append, List.append_nil, List.cons_append, lvals, List.length_replicate, List.length_set, linV_val hu, Int.add_zero, Int.zero_add, Int.mul_one, Int.sub_zero, Int.zero_mul, Bool.true_eq_false, false_and, and_false, true_and, and_true, List.all_cons, List.all_nil, id_eq, Bool.and_true]) <;> (try simp only [Int.ofNat_eq_natCast]) <;> omega))
  subst hR
  refine Weak.of (⟨rfl, rfl⟩) ?_ ?_ (by rfl)
  all_goals ((conv => cbv); repeat' (first | exact True.intro | with_reducible rfl | (with_reducible exact fun h => h) | (with_reducible refine And.intro ?_ ?_)))
theorem firstI_bd (s : ByteArray) (b : Int) : -1 ≤ firstI s b ∧ firstI s b < s.size := ⟨(firstI_is s b).ge, (firstI_is s b).lt⟩
theorem first_m1 {s : ByteArray} {b f : Int} (hf : f = firstI s b) (h : f = -1) : IsFirst s b (-1) := by
  rw [← h, hf]; exact firstI_is s b
theorem check_v (s : ByteArray) (f : Int) (hs : s.size ≤ 1000000) (hf : f = firstI s 10) : Ctr Tryd.prog 8 [] [.str (.sym s)] fun v H =>
    (0 ≤ f ∧ v = .tup [.int .u8 (.sym 0), .iface 50 (.ptr 0 ⟨.lit 0, 1, 0⟩)] ∧ H = [.cells 53 [.int .i64 (.sym f), .iface 47 (.int .i64 (.sym 16))]]) ∨
    (∃ c, (f = -1 ∧ c = checkD s ∧ 48 ≤ c ∧ c ≤ 57) ∧ v = .tup [.int .u8 (.sym c), .nilif] ∧ H = []) :=
  (check_ctr s hs).mono fun v H h => by
    rcases h with ⟨i, ⟨h1, h2⟩, h3, h4⟩ | ⟨d, ⟨h1, h2⟩, h3, h4⟩
    · have e : i = f := by rw [hf]; exact h1.eq (firstI_is s 10)
      subst e; exact .inl ⟨h2, h3, h4⟩
    · exact .inr ⟨d, ⟨by rw [hf]; exact ((h1.eq (firstI_is s 10))).symm, h2⟩, h3, h4⟩
theorem unhex_v (s : ByteArray) (f : Int) (hs : s.size ≤ 1000000) (hf : f = firstI s 16) : Ctr Tryd.prog 15 [] [.str (.sym s)] fun v H =>
    (0 ≤ f ∧ v = .tup [.nilsl, .iface 50 (.ptr 0 ⟨.lit 0, 1, 0⟩)] ∧ H = [.cells 53 [.int .i64 (.sym f), .iface 47 (.int .i64 (.sym 16))]]) ∨
    ((f = -1 ∧ (s.size : Int) % 2 = 1) ∧ v = .tup [.nilsl, .iface 47 (.int .i64 (.sym 2))] ∧ H = []) ∨
    (∃ m ys, (f = -1 ∧ (s.size : Int) = 2 * m ∧ (ys.length : Int) = m ∧ ys = unhexL s m.toNat) ∧ v = .tup [.vec 0 (.sym m), .nilif] ∧ H = [.cols (.row 1) 5 [.ints .u8 (.sym ys)]]) :=
  (unhex_ctr s hs).mono fun v H h => by
    rcases h with ⟨i, ⟨h1, h2⟩, h3, h4⟩ | ⟨⟨h1, h2⟩, h3, h4⟩ | ⟨m, ys, ⟨h1, h2⟩, h3, h4⟩
    · have e : i = f := by rw [hf]; exact h1.eq (firstI_is s 16)
      subst e; exact .inl ⟨h2, h3, h4⟩
    · exact .inr (.inl ⟨⟨by rw [hf]; exact (h1.eq (firstI_is s 16)).symm, h2⟩, h3, h4⟩)
    · exact .inr (.inr ⟨m, ys, ⟨by rw [hf]; exact (h1.eq (firstI_is s 16)).symm, h2⟩, h3, h4⟩)
theorem through_v (s t : ByteArray) (f g : Int) (hs : s.size ≤ 100000) (ht9 : t.size ≤ 1000000) (hf : f = firstI t 10) (hg : g = firstI s 16) : Ctr Tryd.prog 13 [] [.str (.sym s), .str (.sym t)] fun v H =>
    (¬ (t.size : Int) = 16 ∧ v = .tup [.str (.lit []), .iface 47 (.int .i64 (.sym 2))] ∧ H = []) ∨
    (∃ j, ((t.size : Int) = 16 ∧ 0 ≤ f ∧ j = 16 + f) ∧ v = .tup [.str (.lit []), .iface 50 (.ptr 0 ⟨.lit 0, 1, 0⟩)] ∧ H = [.cells 53 [.int .i64 (.sym j), .iface 47 (.int .i64 (.sym 16))]]) ∨
    (((t.size : Int) = 16 ∧ f = -1 ∧ 0 ≤ g) ∧ v = .tup [.str (.lit []), .iface 50 (.ptr 0 ⟨.lit 0, 1, 0⟩)] ∧ H = [.cells 53 [.int .i64 (.sym g), .iface 47 (.int .i64 (.sym 16))]]) ∨
    (∃ u, ((t.size : Int) = 16 ∧ f = -1 ∧ g = -1 ∧ u = strL (thrL s t s.size)) ∧ v = .tup [.str (.sym u), .nilif] ∧ H = []) :=
  (through_ctr s t hs ht9).mono fun v H h => by
    rcases h with ⟨h1, h2⟩ | ⟨i, j, ⟨h0, h1, h2, h3⟩, h4, h5⟩ | ⟨i, ⟨h0, h1, h2, h3⟩, h4, h5⟩ | ⟨w, ⟨h0, h1, h2, h3⟩, h4, h5⟩
    · exact .inl ⟨h1, h2⟩
    · have e : i = f := by rw [hf]; exact h1.eq (firstI_is t 10)
      subst e; exact .inr (.inl ⟨j, ⟨h0, h2, h3⟩, h4, h5⟩)
    · have e : i = g := by rw [hg]; exact h2.eq (firstI_is s 16)
      subst e; exact .inr (.inr (.inl ⟨⟨h0, by rw [hf]; exact (h1.eq (firstI_is t 10)).symm, h3⟩, h4, h5⟩))
    · exact .inr (.inr (.inr ⟨w, ⟨h0, by rw [hf]; exact (h1.eq (firstI_is t 10)).symm, by rw [hg]; exact (h2.eq (firstI_is s 16)).symm, h3⟩, h4, h5⟩))
theorem mod_v (a b : ByteArray) (back : Bool) (f g : Int) (hs : a.size ≤ 100000) (hs2 : b.size ≤ 100000) (hf : f = firstI a 10) (hg : g = firstI b 10) : Ctr Tryd.prog 21 [] [.str (.sym a), .str (.sym b), .sbool back] fun v H =>
    (¬ (a.size : Int) = b.size ∧ v = .tup [.str (.lit []), .iface 47 (.int .i64 (.sym 2))] ∧ H = []) ∨
    (((a.size : Int) = b.size ∧ 0 ≤ f) ∧ v = .tup [.str (.lit []), .iface 50 (.ptr 0 ⟨.lit 0, 1, 0⟩)] ∧ H = [.cells 53 [.int .i64 (.sym f), .iface 47 (.int .i64 (.sym 16))]]) ∨
    (((a.size : Int) = b.size ∧ f = -1 ∧ 0 ≤ g) ∧ v = .tup [.str (.lit []), .iface 50 (.ptr 0 ⟨.lit 0, 1, 0⟩)] ∧ H = [.cells 53 [.int .i64 (.sym g), .iface 47 (.int .i64 (.sym 16))]]) ∨
    (∃ u, ((a.size : Int) = b.size ∧ f = -1 ∧ g = -1 ∧ u = strL (modL a b back a.size)) ∧ v = .tup [.str (.sym u), .nilif] ∧ H = []) :=
  (mod_ctr a b back hs hs2).mono fun v H h => by
    rcases h with ⟨h1, h2⟩ | ⟨i, ⟨h0, h1, h2⟩, h4, h5⟩ | ⟨i, ⟨h0, h1, h2, h3⟩, h4, h5⟩ | ⟨w, ⟨h0, h1, h2, h3⟩, h4, h5⟩
    · exact .inl ⟨h1, h2⟩
    · have e : i = f := by rw [hf]; exact h1.eq (firstI_is a 10)
      subst e; exact .inr (.inl ⟨⟨h0, h2⟩, h4, h5⟩)
    · have e : i = g := by rw [hg]; exact h2.eq (firstI_is b 10)
      subst e; exact .inr (.inr (.inl ⟨⟨h0, by rw [hf]; exact (h1.eq (firstI_is a 10)).symm, h3⟩, h4, h5⟩))
    · exact .inr (.inr (.inr ⟨w, ⟨h0, by rw [hf]; exact (h1.eq (firstI_is a 10)).symm, by rw [hg]; exact (h2.eq (firstI_is b 10)).symm, h3⟩, h4, h5⟩))
theorem mod_c (a b : ByteArray) (back : Bool) (f g : Int) (hs : a.size ≤ 100000) (hs2 : b.size ≤ 100000) (hf : f = firstI a 10) (hg : g = firstI b 10) : Ctr Tryd.prog 21 [] [.str (.sym a), .str (.sym b), .bool back] fun v H =>
    (¬ (a.size : Int) = b.size ∧ v = .tup [.str (.lit []), .iface 47 (.int .i64 (.sym 2))] ∧ H = []) ∨
    (((a.size : Int) = b.size ∧ 0 ≤ f) ∧ v = .tup [.str (.lit []), .iface 50 (.ptr 0 ⟨.lit 0, 1, 0⟩)] ∧ H = [.cells 53 [.int .i64 (.sym f), .iface 47 (.int .i64 (.sym 16))]]) ∨
    (((a.size : Int) = b.size ∧ f = -1 ∧ 0 ≤ g) ∧ v = .tup [.str (.lit []), .iface 50 (.ptr 0 ⟨.lit 0, 1, 0⟩)] ∧ H = [.cells 53 [.int .i64 (.sym g), .iface 47 (.int .i64 (.sym 16))]]) ∨
    (∃ u, ((a.size : Int) = b.size ∧ f = -1 ∧ g = -1 ∧ u = strL (modL a b back a.size)) ∧ v = .tup [.str (.sym u), .nilif] ∧ H = []) :=
  (mod_v a b back f g hs hs2 hf hg).conv trivial ⟨rfl, rfl, rfl, trivial⟩
theorem mod_atc (a b u : ByteArray) (back : Bool) (hs : a.size ≤ 100000) (hs2 : b.size ≤ 100000) (he : (a.size : Int) = b.size) (ha : IsFirst a 10 (-1)) (hb : IsFirst b 10 (-1)) (hv : u = strL (modL a b back a.size)) : Ctr Tryd.prog 21 [] [.str (.sym a), .str (.sym b), .bool back] fun v H => v = .tup [.str (.sym u), .nilif] ∧ H = [] :=
  (mod_at a b u back hs hs2 he ha hb hv).conv trivial ⟨rfl, rfl, rfl, trivial⟩
theorem rmod_c (a b : ByteArray) (back : Bool) (n : Int) (hn : n = a.size) (hn2 : n = b.size) (hs : n ≤ 100000) (ha : IsFirst a 10 (-1)) (hb : IsFirst b 10 (-1)) (t : ByteArray) (ht : t = strL (modL a b back n.toNat)) : Ctr Tryd.prog 23 [] [.str (.sym a), .str (.sym b), .bool back] fun v H => v = .str (.sym t) ∧ H = [] :=
  (rmod_ctr a b back n hn hn2 hs ha hb t ht).conv trivial ⟨rfl, rfl, rfl, trivial⟩
/-! The document's answers. -/
theorem aw_check : Ctr Tryd.prog 8 [] [.str (.sym ⟨#[55, 57, 57, 50, 55, 51, 57, 56, 55, 49]⟩)] fun v H => v = .tup [.int .u8 (.sym 51), .nilif] ∧ H = [] :=
  check_at _ 51 (by decide) (first_of (by kernel_rfl)) (by kernel_rfl)
theorem aw_through : Ctr Tryd.prog 13 [] [.str (.sym ⟨#[49, 70]⟩), .str (.sym ⟨#[48, 49, 50, 51, 52, 53, 54, 55, 56, 57, 48, 49, 50, 51, 52, 53]⟩)] fun v H => v = .tup [.str (.sym ⟨#[49, 53]⟩), .nilif] ∧ H = [] :=
  through_at _ _ _ (by decide) (by decide) (by decide) (first_of (by kernel_rfl)) (first_of (by kernel_rfl)) (by kernel_rfl)
theorem aw_unhex (ys : List Int) (hy : ys = [10, 255]) : Ctr Tryd.prog 15 [] [.str (.sym ⟨#[48, 65, 70, 70]⟩)] fun v H => v = .tup [.vec 0 (.sym 2), .nilif] ∧ H = [.cols (.row 1) 5 [.ints .u8 (.sym ys)]] :=
  unhex_at _ 2 _ (by decide) (first_of (by kernel_rfl)) (by decide) (by rw [hy]; kernel_rfl)
theorem aw_bytes : Bytes [10, 255] := fun x hx => by simp at hx; omega
theorem awake_ctr : Ctr Tryd.prog 7 [] [] fun v H => v = .bool true ∧ H = [] := by
  obtain ⟨uI, uB, uS, uL, uT, hu⟩ := words
  have hm := mixed
  have hT := tabOk
  have h1 := @aw_check
  have h2 := @aw_through
  have h3 := @aw_unhex
  have h4 := @hex_at
  have h5 := @equal_at
  have h6 := @equal_nil
  have h7 := @same_ctr
  obtain ⟨P, hP⟩ : ∃ P, P = Tryd.prog := ⟨_, rfl⟩
  rw [← hP] at hm hT h1 h2 h3 h4 h5 h6 h7 ⊢
  refine Ctr.weak (ctr_of_vc hu hm hT (hP ▸ Tryd.func7) rfl (by kernel_rfl) ?_)
  clear hP hm hT
  generalize hR : Weak _ _ = R
  conv => cbv
  repeat' (first | ((with_reducible intro (h : _ = _)); (try subst h); (try simp only [hu.b, hu.i, iB, iI, cmpB, Iv.val_sym, Iv.val_lit, Lv.raw, Tv.raw, decide_eq_true_eq, decide_eq_false_iff_not, beq_iff_eq, beq_eq_false_iff_ne, ne_eq, ofN, Int.toNat_zero, Int.toNat_one, Int.reduceToNat, natc, hu.s, iS, Sv.val_lit, Sv.val_sym, true_iff, false_iff, Bool.false_eq_true, bne_iff_ne, bne_eq_false_iff_eq, Bool.not_eq_true', Bool.not_eq_false', Decidable.not_not, nil_toList, ByteArray.size_empty, nilS, not_true_eq_false, not_false_eq_true, hu.l, iL, hu.t, iT, bin_add, bin_sub, bin_mul, wr_u8, wr_u16, wr_u32, wr_u64, IntKind.wrap_i64, List.length_append, List.length_cons, List.length_nil, List.nil_append, List.append_nil, List.cons_append, lvals, List.length_replicate, List.length_set, linV_val hu, Int.add_zero, Int.zero_add, Int.mul_one, Int.sub_zero, Int.zero_mul, Bool.true_eq_false, false_and, and_false, true_and, and_true, List.all_cons, List.all_nil, id_eq, Bool.and_true] at h) <;> (try simp only [Int.ofNat_eq_natCast] at h) <;> (first | (have hF0 : False := by omega; exact hF0.elim) | (conv => cbv))) | (with_reducible refine And.intro ?_ ?_) | (first | (refine CallDet.mkR ?_ (h1)) | (refine CallVC.mkR ?_ (h1))) | (first | (refine CallDet.mkR ?_ (h2)) | (refine CallVC.mkR ?_ (h2))) | (first | (refine CallDet.genR ?_ (fun ys hys => h3 ys hys)) | (refine CallVC.genR ?_ (fun ys hys => h3 ys hys))) | (refine CallVC.mk (Ctr.monoR ?_ (h7 _ _ _ _ ?_ ?_ ?_)); ((rintro v H ⟨⟨bb, hbb, rfl⟩, rfl⟩) <;> (try simp only [hu.b, hu.i, iB, iI, cmpB, Iv.val_sym, Iv.val_lit, Lv.raw, Tv.raw, decide_eq_true_eq, decide_eq_false_iff_not, beq_iff_eq, beq_eq_false_iff_ne, ne_eq, ofN, Int.toNat_zero, Int.toNat_one, Int.reduceToNat, natc, hu.s, iS, Sv.val_lit, Sv.val_sym, true_iff, false_iff, Bool.false_eq_true, bne_iff_ne, bne_eq_false_iff_eq, Bool.not_eq_true', Bool.not_eq_false', Decidable.not_not, nil_toList, ByteArray.size_empty, nilS, not_true_eq_false, not_false_eq_true, hu.l, iL, hu.t, iT, bin_add, bin_sub, bin_mul, wr_u8, wr_u16, wr_u32, wr_u64, IntKind.wrap_i64, List.length_append, List.length_cons, List.length_nil, List.nil_append, List.append_nil, List.cons_append, lvals, List.length_replicate, List.length_set, linV_val hu, Int.add_zero, Int.zero_add, Int.mul_one, Int.sub_zero, Int.zero_mul, Bool.true_eq_false, false_and, and_false, true_and, and_true, List.all_cons, List.all_nil, id_eq, Bool.and_true] at hbb) <;> (try simp only [Int.ofNat_eq_natCast] at hbb) <;> (first | (have hF0 : False := by omega; exact hF0.elim) | (conv => cbv)))) | (first | (refine CallDet.genR ?_ (fun t ht => h4 _ _ t ?_ ?_ ?_ ht)) | (refine CallVC.genR ?_ (fun t ht => h4 _ _ t ?_ ?_ ?_ ht))) | (first | (refine CallDet.genR ?_ (fun z hz => h5 _ _ _ _ z ?_ ?_ ?_ ?_ ?_ hz)) | (refine CallVC.genR ?_ (fun z hz => h5 _ _ _ _ z ?_ ?_ ?_ ?_ ?_ hz))) | (first | (refine CallDet.mkR ?_ (h6 _ _ ?_ ?_)) | (refine CallVC.mkR ?_ (h6 _ _ ?_ ?_))) | ((try simp only [hu.b, hu.i, iB, iI, cmpB, Iv.val_sym, Iv.val_lit, Lv.raw, Tv.raw, decide_eq_true_eq, decide_eq_false_iff_not, beq_iff_eq, beq_eq_false_iff_ne, ne_eq, ofN, Int.toNat_zero, Int.toNat_one, Int.reduceToNat, natc, hu.s, iS, Sv.val_lit, Sv.val_sym, true_iff, false_iff, Bool.false_eq_true, bne_iff_ne, bne_eq_false_iff_eq, Bool.not_eq_true', Bool.not_eq_false', Decidable.not_not, nil_toList, ByteArray.size_empty, nilS, not_true_eq_false, not_false_eq_true, hu.l, iL, hu.t, iT, bin_add, bin_sub, bin_mul, wr_u8, wr_u16, wr_u32, wr_u64, IntKind.wrap_i64, List.length_append, List.length_cons, List.length_nil, List.nil_append, List.append_nil, List.cons_append, lvals, List.length_replicate, List.length_set, linV_val hu, Int.add_zero, Int.zero_add, Int.mul_one, Int.sub_zero, Int.zero_mul, Bool.true_eq_false, false_and, and_false, true_and, and_true, List.all_cons, List.all_nil, id_eq, Bool.and_true]) <;> (try simp only [Int.ofNat_eq_natCast]) <;> (subst_vars; first | rfl | exact aw_bytes)) | (refine Gen0.mk ?_; (conv => cbv)) | (refine Gen1.mk ?_; ((intro ys hys) <;> (try simp only [hu.b, hu.i, iB, iI, cmpB, Iv.val_sym, Iv.val_lit, Lv.raw, Tv.raw, decide_eq_true_eq, decide_eq_false_iff_not, beq_iff_eq, beq_eq_false_iff_ne, ne_eq, ofN, Int.toNat_zero, Int.toNat_one, Int.reduceToNat, natc, hu.s, iS, Sv.val_lit, Sv.val_sym, true_iff, false_iff, Bool.false_eq_true, bne_iff_ne, bne_eq_false_iff_eq, Bool.not_eq_true', Bool.not_eq_false', Decidable.not_not, nil_toList, ByteArray.size_empty, nilS, not_true_eq_false, not_false_eq_true, hu.l, iL, hu.t, iT, bin_add, bin_sub, bin_mul, wr_u8, wr_u16, wr_u32, wr_u64, IntKind.wrap_i64, List.length_append, List.length_cons, List.length_nil, List.nil_append, List.append_nil, List.cons_append, lvals, List.length_replicate, List.length_set, linV_val hu, Int.add_zero, Int.zero_add, Int.mul_one, Int.sub_zero, Int.zero_mul, Bool.true_eq_false, false_and, and_false, true_and, and_true, List.all_cons, List.all_nil, id_eq, Bool.and_true] at hys) <;> (try simp only [Int.ofNat_eq_natCast] at hys) <;> (first | (have hF0 : False := by omega; exact hF0.elim) | (conv => cbv)))) | (simp only [hu.b, hu.i, iB, iI, cmpB, Iv.val_sym, Iv.val_lit, Lv.raw, Tv.raw, decide_eq_true_eq, decide_eq_false_iff_not, beq_iff_eq, beq_eq_false_iff_ne, ne_eq, ofN, Int.toNat_zero, Int.toNat_one, Int.reduceToNat, natc, hu.s, iS, Sv.val_lit, Sv.val_sym, true_iff, false_iff, Bool.false_eq_true, bne_iff_ne, bne_eq_false_iff_eq, Bool.not_eq_true', Bool.not_eq_false', Decidable.not_not, nil_toList, ByteArray.size_empty, nilS, not_true_eq_false, not_false_eq_true, hu.l, iL, hu.t, iT, bin_add, bin_sub, bin_mul, wr_u8, wr_u16, wr_u32, wr_u64, IntKind.wrap_i64, List.length_append, List.length_cons, List.length_nil, List.nil_append, List.append_nil, List.cons_append, lvals, List.length_replicate, List.length_set, linV_val hu, Int.add_zero, Int.zero_add, Int.mul_one, Int.sub_zero, Int.zero_mul, Bool.true_eq_false, false_and, and_false, true_and, and_true, List.all_cons, List.all_nil, id_eq, Bool.and_true]; (try simp only [Int.ofNat_eq_natCast]); done) | ((try simp only [hu.b, hu.i, iB, iI, cmpB, Iv.val_sym, Iv.val_lit, Lv.raw, Tv.raw, decide_eq_true_eq, decide_eq_false_iff_not, beq_iff_eq, beq_eq_false_iff_ne, ne_eq, ofN, Int.toNat_zero, Int.toNat_one, Int.reduceToNat, natc, hu.s, iS, Sv.val_lit, Sv.val_sym, true_iff, false_iff, Bool.false_eq_true, bne_iff_ne, bne_eq_false_iff_eq, Bool.not_eq_true', Bool.not_eq_false', Decidable.not_not, nil_toList, ByteArray.size_empty, nilS, not_true_eq_false, not_false_eq_true, hu.l, iL, hu.t, iT, bin_add, bin_sub, bin_mul, wr_u8, wr_u16, wr_u32, wr_u64, IntKind.wrap_i64, List.length_append, List.length_cons, List.length_nil, List.nil_append, List.append_nil, List.cons_append, lvals, List.length_replicate, List.length_set, linV_val hu, Int.add_zero, Int.zero_add, Int.mul_one, Int.sub_zero, Int.zero_mul, Bool.true_eq_false, false_and, and_false, true_and, and_true, List.all_cons, List.all_nil, id_eq, Bool.and_true]) <;> (try simp only [Int.ofNat_eq_natCast]) <;> omega))
  all_goals try
    have hF : False := by
      first
        | (simp at hys; done)
        | exact absurd (hbb.2 (by subst_vars; rfl)) (by decide)
        | (subst_vars
           have h9 : ¬ (strL (hexL [10, 255])).toList = (⟨#[48, 65, 70, 70]⟩ : ByteArray).toList := by assumption
           exact h9 (congrArg ByteArray.toList (by kernel_rfl)))
    exact hF.elim
  subst hR
  refine Weak.of (⟨rfl, rfl⟩) ?_ ?_ (by rfl)
  all_goals ((conv => cbv); repeat' (first | exact True.intro | with_reducible rfl | (with_reducible exact fun h => h) | (with_reducible refine And.intro ?_ ?_)))
end Go.Proofs.YtbadogbkbhopcaaDoor
namespace Go.Proofs.YtbadogbkbhopcaaDoor
open Go Sx
set_option maxRecDepth 100000
set_option maxHeartbeats 4000000
theorem str_ext {a b : ByteArray} (h : a.toList = b.toList) : a = b := by
  rw [ByteArray.toList_eq, ByteArray.toList_eq] at h
  exact ByteArray.ext (Array.ext' h)
theorem mods_law (a b : ByteArray) (back : Bool) : Ctr Tryd.prog 6 [] [.str (.sym a), .str (.sym b), .sbool back] fun v H => v = .bool true := by
  obtain ⟨n, hn⟩ : ∃ n : Int, n = a.size := ⟨_, rfl⟩
  have hsa : subL (bytesL a) 0 (Int.ofNat a.size) = bytesL a := subL_bytes a
  have hsb : subL (bytesL b) 0 (Int.ofNat b.size) = bytesL b := subL_bytes b
  have hb := firstI_bd a 10
  have hb2 := firstI_bd b 10
  obtain ⟨f, hf⟩ : ∃ f, f = firstI a 10 := ⟨_, rfl⟩
  obtain ⟨g, hg⟩ : ∃ f, f = firstI b 10 := ⟨_, rfl⟩
  have hf9 := fun h => first_m1 hf h
  have hg9 := fun h => first_m1 hg h
  rw [← hf] at hb
  rw [← hg] at hb2
  obtain ⟨uI, uB, uS, uL, uT, hu⟩ := words
  have hm := mixed
  have hT := tabOk
  have h6 := @awake_ctr
  have hMd := @mod_c
  have hE := @equal_at
  have hF := @rfirst_at
  have hC1 := @code_fault_c
  have hC := @code_c
  have hA1 := @at_fault_c
  have hRM := @rmod_c
  obtain ⟨P, hP⟩ : ∃ P, P = Tryd.prog := ⟨_, rfl⟩
  rw [← hP] at hm hT h6 hMd hE hF hC1 hC hA1 hRM ⊢
  refine Ctr.weak (ctr_of_vc hu hm hT (hP ▸ Tryd.func6) rfl (by kernel_rfl) ?_)
  clear hP hm hT
  generalize hR : Weak _ _ = R
  conv => cbv
  repeat' (first | ((with_reducible intro (h : _ = _)); (try subst h); (try simp only [hu.b, hu.i, iB, iI, cmpB, Iv.val_sym, Iv.val_lit, Lv.raw, Tv.raw, decide_eq_true_eq, decide_eq_false_iff_not, beq_iff_eq, beq_eq_false_iff_ne, ne_eq, ofN, Int.toNat_zero, Int.toNat_one, Int.reduceToNat, natc, hu.s, iS, Sv.val_lit, Sv.val_sym, true_iff, false_iff, Bool.false_eq_true, bne_iff_ne, bne_eq_false_iff_eq, Bool.not_eq_true', Bool.not_eq_false', Decidable.not_not, nil_toList, ByteArray.size_empty, nilS, not_true_eq_false, not_false_eq_true, hu.l, iL, hu.t, iT, bin_add, bin_sub, bin_mul, wr_u8, wr_u16, wr_u32, wr_u64, IntKind.wrap_i64, List.length_append, List.length_cons, List.length_nil, List.nil_append, List.append_nil, List.cons_append, lvals, List.length_replicate, List.length_set, linV_val hu, Int.add_zero, Int.zero_add, Int.mul_one, Int.sub_zero, Int.zero_mul, Bool.true_eq_false, false_and, and_false, true_and, and_true, List.all_cons, List.all_nil, id_eq, Bool.and_true, bytesL_length, hsa, hsb] at h) <;> (try simp only [Int.ofNat_eq_natCast] at h) <;> (first | (have hF0 : False := by omega; exact hF0.elim) | (conv => cbv))) | (with_reducible refine And.intro ?_ ?_) | (refine CallVC.mk (Ctr.monoR ?_ (h6)); ((rintro v H ⟨rfl, rfl⟩) <;> (conv => cbv))) | (refine CallVC.mk (Ctr.monoR ?_ (hMd _ _ _ f g ?_ ?_ hf hg)); ((rintro v H (⟨ha1, rfl, rfl⟩ | ⟨⟨ha1, ha2⟩, rfl, rfl⟩ | ⟨⟨ha1, ha2, ha3⟩, rfl, rfl⟩ | ⟨u, ⟨ha1, ha2, ha3, ha4⟩, rfl, rfl⟩)) <;> (try simp only [hu.b, hu.i, iB, iI, cmpB, Iv.val_sym, Iv.val_lit, Lv.raw, Tv.raw, decide_eq_true_eq, decide_eq_false_iff_not, beq_iff_eq, beq_eq_false_iff_ne, ne_eq, ofN, Int.toNat_zero, Int.toNat_one, Int.reduceToNat, natc, hu.s, iS, Sv.val_lit, Sv.val_sym, true_iff, false_iff, Bool.false_eq_true, bne_iff_ne, bne_eq_false_iff_eq, Bool.not_eq_true', Bool.not_eq_false', Decidable.not_not, nil_toList, ByteArray.size_empty, nilS, not_true_eq_false, not_false_eq_true, hu.l, iL, hu.t, iT, bin_add, bin_sub, bin_mul, wr_u8, wr_u16, wr_u32, wr_u64, IntKind.wrap_i64, List.length_append, List.length_cons, List.length_nil, List.nil_append, List.append_nil, List.cons_append, lvals, List.length_replicate, List.length_set, linV_val hu, Int.add_zero, Int.zero_add, Int.mul_one, Int.sub_zero, Int.zero_mul, Bool.true_eq_false, false_and, and_false, true_and, and_true, List.all_cons, List.all_nil, id_eq, Bool.and_true, bytesL_length, hsa, hsb] at ha1) <;> (try simp only [Int.ofNat_eq_natCast] at ha1) <;> (try simp only [hu.b, hu.i, iB, iI, cmpB, Iv.val_sym, Iv.val_lit, Lv.raw, Tv.raw, decide_eq_true_eq, decide_eq_false_iff_not, beq_iff_eq, beq_eq_false_iff_ne, ne_eq, ofN, Int.toNat_zero, Int.toNat_one, Int.reduceToNat, natc, hu.s, iS, Sv.val_lit, Sv.val_sym, true_iff, false_iff, Bool.false_eq_true, bne_iff_ne, bne_eq_false_iff_eq, Bool.not_eq_true', Bool.not_eq_false', Decidable.not_not, nil_toList, ByteArray.size_empty, nilS, not_true_eq_false, not_false_eq_true, hu.l, iL, hu.t, iT, bin_add, bin_sub, bin_mul, wr_u8, wr_u16, wr_u32, wr_u64, IntKind.wrap_i64, List.length_append, List.length_cons, List.length_nil, List.nil_append, List.append_nil, List.cons_append, lvals, List.length_replicate, List.length_set, linV_val hu, Int.add_zero, Int.zero_add, Int.mul_one, Int.sub_zero, Int.zero_mul, Bool.true_eq_false, false_and, and_false, true_and, and_true, List.all_cons, List.all_nil, id_eq, Bool.and_true, bytesL_length, hsa, hsb] at ha1) <;> (try simp only [Int.ofNat_eq_natCast] at ha1) <;> (try simp only [hu.b, hu.i, iB, iI, cmpB, Iv.val_sym, Iv.val_lit, Lv.raw, Tv.raw, decide_eq_true_eq, decide_eq_false_iff_not, beq_iff_eq, beq_eq_false_iff_ne, ne_eq, ofN, Int.toNat_zero, Int.toNat_one, Int.reduceToNat, natc, hu.s, iS, Sv.val_lit, Sv.val_sym, true_iff, false_iff, Bool.false_eq_true, bne_iff_ne, bne_eq_false_iff_eq, Bool.not_eq_true', Bool.not_eq_false', Decidable.not_not, nil_toList, ByteArray.size_empty, nilS, not_true_eq_false, not_false_eq_true, hu.l, iL, hu.t, iT, bin_add, bin_sub, bin_mul, wr_u8, wr_u16, wr_u32, wr_u64, IntKind.wrap_i64, List.length_append, List.length_cons, List.length_nil, List.nil_append, List.append_nil, List.cons_append, lvals, List.length_replicate, List.length_set, linV_val hu, Int.add_zero, Int.zero_add, Int.mul_one, Int.sub_zero, Int.zero_mul, Bool.true_eq_false, false_and, and_false, true_and, and_true, List.all_cons, List.all_nil, id_eq, Bool.and_true, bytesL_length, hsa, hsb] at ha2) <;> (try simp only [Int.ofNat_eq_natCast] at ha2) <;> (try simp only [hu.b, hu.i, iB, iI, cmpB, Iv.val_sym, Iv.val_lit, Lv.raw, Tv.raw, decide_eq_true_eq, decide_eq_false_iff_not, beq_iff_eq, beq_eq_false_iff_ne, ne_eq, ofN, Int.toNat_zero, Int.toNat_one, Int.reduceToNat, natc, hu.s, iS, Sv.val_lit, Sv.val_sym, true_iff, false_iff, Bool.false_eq_true, bne_iff_ne, bne_eq_false_iff_eq, Bool.not_eq_true', Bool.not_eq_false', Decidable.not_not, nil_toList, ByteArray.size_empty, nilS, not_true_eq_false, not_false_eq_true, hu.l, iL, hu.t, iT, bin_add, bin_sub, bin_mul, wr_u8, wr_u16, wr_u32, wr_u64, IntKind.wrap_i64, List.length_append, List.length_cons, List.length_nil, List.nil_append, List.append_nil, List.cons_append, lvals, List.length_replicate, List.length_set, linV_val hu, Int.add_zero, Int.zero_add, Int.mul_one, Int.sub_zero, Int.zero_mul, Bool.true_eq_false, false_and, and_false, true_and, and_true, List.all_cons, List.all_nil, id_eq, Bool.and_true, bytesL_length, hsa, hsb] at ha1) <;> (try simp only [Int.ofNat_eq_natCast] at ha1) <;> (try simp only [hu.b, hu.i, iB, iI, cmpB, Iv.val_sym, Iv.val_lit, Lv.raw, Tv.raw, decide_eq_true_eq, decide_eq_false_iff_not, beq_iff_eq, beq_eq_false_iff_ne, ne_eq, ofN, Int.toNat_zero, Int.toNat_one, Int.reduceToNat, natc, hu.s, iS, Sv.val_lit, Sv.val_sym, true_iff, false_iff, Bool.false_eq_true, bne_iff_ne, bne_eq_false_iff_eq, Bool.not_eq_true', Bool.not_eq_false', Decidable.not_not, nil_toList, ByteArray.size_empty, nilS, not_true_eq_false, not_false_eq_true, hu.l, iL, hu.t, iT, bin_add, bin_sub, bin_mul, wr_u8, wr_u16, wr_u32, wr_u64, IntKind.wrap_i64, List.length_append, List.length_cons, List.length_nil, List.nil_append, List.append_nil, List.cons_append, lvals, List.length_replicate, List.length_set, linV_val hu, Int.add_zero, Int.zero_add, Int.mul_one, Int.sub_zero, Int.zero_mul, Bool.true_eq_false, false_and, and_false, true_and, and_true, List.all_cons, List.all_nil, id_eq, Bool.and_true, bytesL_length, hsa, hsb] at ha2) <;> (try simp only [Int.ofNat_eq_natCast] at ha2) <;> (try simp only [hu.b, hu.i, iB, iI, cmpB, Iv.val_sym, Iv.val_lit, Lv.raw, Tv.raw, decide_eq_true_eq, decide_eq_false_iff_not, beq_iff_eq, beq_eq_false_iff_ne, ne_eq, ofN, Int.toNat_zero, Int.toNat_one, Int.reduceToNat, natc, hu.s, iS, Sv.val_lit, Sv.val_sym, true_iff, false_iff, Bool.false_eq_true, bne_iff_ne, bne_eq_false_iff_eq, Bool.not_eq_true', Bool.not_eq_false', Decidable.not_not, nil_toList, ByteArray.size_empty, nilS, not_true_eq_false, not_false_eq_true, hu.l, iL, hu.t, iT, bin_add, bin_sub, bin_mul, wr_u8, wr_u16, wr_u32, wr_u64, IntKind.wrap_i64, List.length_append, List.length_cons, List.length_nil, List.nil_append, List.append_nil, List.cons_append, lvals, List.length_replicate, List.length_set, linV_val hu, Int.add_zero, Int.zero_add, Int.mul_one, Int.sub_zero, Int.zero_mul, Bool.true_eq_false, false_and, and_false, true_and, and_true, List.all_cons, List.all_nil, id_eq, Bool.and_true, bytesL_length, hsa, hsb] at ha3) <;> (try simp only [Int.ofNat_eq_natCast] at ha3) <;> (try simp only [hu.b, hu.i, iB, iI, cmpB, Iv.val_sym, Iv.val_lit, Lv.raw, Tv.raw, decide_eq_true_eq, decide_eq_false_iff_not, beq_iff_eq, beq_eq_false_iff_ne, ne_eq, ofN, Int.toNat_zero, Int.toNat_one, Int.reduceToNat, natc, hu.s, iS, Sv.val_lit, Sv.val_sym, true_iff, false_iff, Bool.false_eq_true, bne_iff_ne, bne_eq_false_iff_eq, Bool.not_eq_true', Bool.not_eq_false', Decidable.not_not, nil_toList, ByteArray.size_empty, nilS, not_true_eq_false, not_false_eq_true, hu.l, iL, hu.t, iT, bin_add, bin_sub, bin_mul, wr_u8, wr_u16, wr_u32, wr_u64, IntKind.wrap_i64, List.length_append, List.length_cons, List.length_nil, List.nil_append, List.append_nil, List.cons_append, lvals, List.length_replicate, List.length_set, linV_val hu, Int.add_zero, Int.zero_add, Int.mul_one, Int.sub_zero, Int.zero_mul, Bool.true_eq_false, false_and, and_false, true_and, and_true, List.all_cons, List.all_nil, id_eq, Bool.and_true, bytesL_length, hsa, hsb] at ha1) <;> (try simp only [Int.ofNat_eq_natCast] at ha1) <;> (try simp only [hu.b, hu.i, iB, iI, cmpB, Iv.val_sym, Iv.val_lit, Lv.raw, Tv.raw, decide_eq_true_eq, decide_eq_false_iff_not, beq_iff_eq, beq_eq_false_iff_ne, ne_eq, ofN, Int.toNat_zero, Int.toNat_one, Int.reduceToNat, natc, hu.s, iS, Sv.val_lit, Sv.val_sym, true_iff, false_iff, Bool.false_eq_true, bne_iff_ne, bne_eq_false_iff_eq, Bool.not_eq_true', Bool.not_eq_false', Decidable.not_not, nil_toList, ByteArray.size_empty, nilS, not_true_eq_false, not_false_eq_true, hu.l, iL, hu.t, iT, bin_add, bin_sub, bin_mul, wr_u8, wr_u16, wr_u32, wr_u64, IntKind.wrap_i64, List.length_append, List.length_cons, List.length_nil, List.nil_append, List.append_nil, List.cons_append, lvals, List.length_replicate, List.length_set, linV_val hu, Int.add_zero, Int.zero_add, Int.mul_one, Int.sub_zero, Int.zero_mul, Bool.true_eq_false, false_and, and_false, true_and, and_true, List.all_cons, List.all_nil, id_eq, Bool.and_true, bytesL_length, hsa, hsb] at ha2) <;> (try simp only [Int.ofNat_eq_natCast] at ha2) <;> (try simp only [hu.b, hu.i, iB, iI, cmpB, Iv.val_sym, Iv.val_lit, Lv.raw, Tv.raw, decide_eq_true_eq, decide_eq_false_iff_not, beq_iff_eq, beq_eq_false_iff_ne, ne_eq, ofN, Int.toNat_zero, Int.toNat_one, Int.reduceToNat, natc, hu.s, iS, Sv.val_lit, Sv.val_sym, true_iff, false_iff, Bool.false_eq_true, bne_iff_ne, bne_eq_false_iff_eq, Bool.not_eq_true', Bool.not_eq_false', Decidable.not_not, nil_toList, ByteArray.size_empty, nilS, not_true_eq_false, not_false_eq_true, hu.l, iL, hu.t, iT, bin_add, bin_sub, bin_mul, wr_u8, wr_u16, wr_u32, wr_u64, IntKind.wrap_i64, List.length_append, List.length_cons, List.length_nil, List.nil_append, List.append_nil, List.cons_append, lvals, List.length_replicate, List.length_set, linV_val hu, Int.add_zero, Int.zero_add, Int.mul_one, Int.sub_zero, Int.zero_mul, Bool.true_eq_false, false_and, and_false, true_and, and_true, List.all_cons, List.all_nil, id_eq, Bool.and_true, bytesL_length, hsa, hsb] at ha3) <;> (try simp only [Int.ofNat_eq_natCast] at ha3) <;> (try simp only [hu.b, hu.i, iB, iI, cmpB, Iv.val_sym, Iv.val_lit, Lv.raw, Tv.raw, decide_eq_true_eq, decide_eq_false_iff_not, beq_iff_eq, beq_eq_false_iff_ne, ne_eq, ofN, Int.toNat_zero, Int.toNat_one, Int.reduceToNat, natc, hu.s, iS, Sv.val_lit, Sv.val_sym, true_iff, false_iff, Bool.false_eq_true, bne_iff_ne, bne_eq_false_iff_eq, Bool.not_eq_true', Bool.not_eq_false', Decidable.not_not, nil_toList, ByteArray.size_empty, nilS, not_true_eq_false, not_false_eq_true, hu.l, iL, hu.t, iT, bin_add, bin_sub, bin_mul, wr_u8, wr_u16, wr_u32, wr_u64, IntKind.wrap_i64, List.length_append, List.length_cons, List.length_nil, List.nil_append, List.append_nil, List.cons_append, lvals, List.length_replicate, List.length_set, linV_val hu, Int.add_zero, Int.zero_add, Int.mul_one, Int.sub_zero, Int.zero_mul, Bool.true_eq_false, false_and, and_false, true_and, and_true, List.all_cons, List.all_nil, id_eq, Bool.and_true, bytesL_length, hsa, hsb] at ha4) <;> (try simp only [Int.ofNat_eq_natCast] at ha4) <;> (first | (have hF0 : False := by omega; exact hF0.elim) | (conv => cbv)))) | (first | (refine CallDet.genR ?_ (fun z hz => hE _ _ _ _ z ?_ ?_ ?_ ?_ ?_ hz)) | (refine CallVC.genR ?_ (fun z hz => hE _ _ _ _ z ?_ ?_ ?_ ?_ ?_ hz))) | (first | (refine CallDet.mkR ?_ (hF _ _ f ?_ hf)) | (refine CallVC.mkR ?_ (hF _ _ f ?_ hf))) | (first | (refine CallDet.mkR ?_ (hF _ _ g ?_ hg)) | (refine CallVC.mkR ?_ (hF _ _ g ?_ hg))) | (refine CallVC.mk (Ctr.monoR ?_ (hC1 _ _)); ((rintro v H ⟨rfl, rfl⟩) <;> (conv => cbv))) | (refine CallVC.mk (Ctr.monoR ?_ (hA1 _ _)); ((rintro v H ⟨rfl, rfl⟩) <;> (conv => cbv))) | (refine CallVC.mk (Ctr.monoR ?_ (hC _)); ((rintro v H ⟨rfl, rfl⟩) <;> (conv => cbv))) | (first | (refine CallDet.genR ?_ (fun w hw => hRM _ _ _ n hn ?_ ?_ ?_ ?_ w hw)) | (refine CallVC.genR ?_ (fun w hw => hRM _ _ _ n hn ?_ ?_ ?_ ?_ w hw))) | ((try simp only [hu.b, hu.i, iB, iI, cmpB, Iv.val_sym, Iv.val_lit, Lv.raw, Tv.raw, decide_eq_true_eq, decide_eq_false_iff_not, beq_iff_eq, beq_eq_false_iff_ne, ne_eq, ofN, Int.toNat_zero, Int.toNat_one, Int.reduceToNat, natc, hu.s, iS, Sv.val_lit, Sv.val_sym, true_iff, false_iff, Bool.false_eq_true, bne_iff_ne, bne_eq_false_iff_eq, Bool.not_eq_true', Bool.not_eq_false', Decidable.not_not, nil_toList, ByteArray.size_empty, nilS, not_true_eq_false, not_false_eq_true, hu.l, iL, hu.t, iT, bin_add, bin_sub, bin_mul, wr_u8, wr_u16, wr_u32, wr_u64, IntKind.wrap_i64, List.length_append, List.length_cons, List.length_nil, List.nil_append, List.append_nil, List.cons_append, lvals, List.length_replicate, List.length_set, linV_val hu, Int.add_zero, Int.zero_add, Int.mul_one, Int.sub_zero, Int.zero_mul, Bool.true_eq_false, false_and, and_false, true_and, and_true, List.all_cons, List.all_nil, id_eq, Bool.and_true, bytesL_length, hsa, hsb]) <;> (try simp only [Int.ofNat_eq_natCast]) <;> exact hf9 (by omega)) | ((try simp only [hu.b, hu.i, iB, iI, cmpB, Iv.val_sym, Iv.val_lit, Lv.raw, Tv.raw, decide_eq_true_eq, decide_eq_false_iff_not, beq_iff_eq, beq_eq_false_iff_ne, ne_eq, ofN, Int.toNat_zero, Int.toNat_one, Int.reduceToNat, natc, hu.s, iS, Sv.val_lit, Sv.val_sym, true_iff, false_iff, Bool.false_eq_true, bne_iff_ne, bne_eq_false_iff_eq, Bool.not_eq_true', Bool.not_eq_false', Decidable.not_not, nil_toList, ByteArray.size_empty, nilS, not_true_eq_false, not_false_eq_true, hu.l, iL, hu.t, iT, bin_add, bin_sub, bin_mul, wr_u8, wr_u16, wr_u32, wr_u64, IntKind.wrap_i64, List.length_append, List.length_cons, List.length_nil, List.nil_append, List.append_nil, List.cons_append, lvals, List.length_replicate, List.length_set, linV_val hu, Int.add_zero, Int.zero_add, Int.mul_one, Int.sub_zero, Int.zero_mul, Bool.true_eq_false, false_and, and_false, true_and, and_true, List.all_cons, List.all_nil, id_eq, Bool.and_true, bytesL_length, hsa, hsb]) <;> (try simp only [Int.ofNat_eq_natCast]) <;> exact hg9 (by omega)) | ((try simp only [hu.b, hu.i, iB, iI, cmpB, Iv.val_sym, Iv.val_lit, Lv.raw, Tv.raw, decide_eq_true_eq, decide_eq_false_iff_not, beq_iff_eq, beq_eq_false_iff_ne, ne_eq, ofN, Int.toNat_zero, Int.toNat_one, Int.reduceToNat, natc, hu.s, iS, Sv.val_lit, Sv.val_sym, true_iff, false_iff, Bool.false_eq_true, bne_iff_ne, bne_eq_false_iff_eq, Bool.not_eq_true', Bool.not_eq_false', Decidable.not_not, nil_toList, ByteArray.size_empty, nilS, not_true_eq_false, not_false_eq_true, hu.l, iL, hu.t, iT, bin_add, bin_sub, bin_mul, wr_u8, wr_u16, wr_u32, wr_u64, IntKind.wrap_i64, List.length_append, List.length_cons, List.length_nil, List.nil_append, List.append_nil, List.cons_append, lvals, List.length_replicate, List.length_set, linV_val hu, Int.add_zero, Int.zero_add, Int.mul_one, Int.sub_zero, Int.zero_mul, Bool.true_eq_false, false_and, and_false, true_and, and_true, List.all_cons, List.all_nil, id_eq, Bool.and_true, bytesL_length, hsa, hsb]) <;> (try simp only [Int.ofNat_eq_natCast]) <;> exact bytesL_bytes _) | (refine Gen0.mk ?_; (conv => cbv)) | (refine Gen1.mk ?_; ((intro z hz) <;> (try simp only [hu.b, hu.i, iB, iI, cmpB, Iv.val_sym, Iv.val_lit, Lv.raw, Tv.raw, decide_eq_true_eq, decide_eq_false_iff_not, beq_iff_eq, beq_eq_false_iff_ne, ne_eq, ofN, Int.toNat_zero, Int.toNat_one, Int.reduceToNat, natc, hu.s, iS, Sv.val_lit, Sv.val_sym, true_iff, false_iff, Bool.false_eq_true, bne_iff_ne, bne_eq_false_iff_eq, Bool.not_eq_true', Bool.not_eq_false', Decidable.not_not, nil_toList, ByteArray.size_empty, nilS, not_true_eq_false, not_false_eq_true, hu.l, iL, hu.t, iT, bin_add, bin_sub, bin_mul, wr_u8, wr_u16, wr_u32, wr_u64, IntKind.wrap_i64, List.length_append, List.length_cons, List.length_nil, List.nil_append, List.append_nil, List.cons_append, lvals, List.length_replicate, List.length_set, linV_val hu, Int.add_zero, Int.zero_add, Int.mul_one, Int.sub_zero, Int.zero_mul, Bool.true_eq_false, false_and, and_false, true_and, and_true, List.all_cons, List.all_nil, id_eq, Bool.and_true, bytesL_length, hsa, hsb] at hz) <;> (try simp only [Int.ofNat_eq_natCast] at hz) <;> (first | (have hF0 : False := by omega; exact hF0.elim) | (conv => cbv)))) | (simp only [hu.b, hu.i, iB, iI, cmpB, Iv.val_sym, Iv.val_lit, Lv.raw, Tv.raw, decide_eq_true_eq, decide_eq_false_iff_not, beq_iff_eq, beq_eq_false_iff_ne, ne_eq, ofN, Int.toNat_zero, Int.toNat_one, Int.reduceToNat, natc, hu.s, iS, Sv.val_lit, Sv.val_sym, true_iff, false_iff, Bool.false_eq_true, bne_iff_ne, bne_eq_false_iff_eq, Bool.not_eq_true', Bool.not_eq_false', Decidable.not_not, nil_toList, ByteArray.size_empty, nilS, not_true_eq_false, not_false_eq_true, hu.l, iL, hu.t, iT, bin_add, bin_sub, bin_mul, wr_u8, wr_u16, wr_u32, wr_u64, IntKind.wrap_i64, List.length_append, List.length_cons, List.length_nil, List.nil_append, List.append_nil, List.cons_append, lvals, List.length_replicate, List.length_set, linV_val hu, Int.add_zero, Int.zero_add, Int.mul_one, Int.sub_zero, Int.zero_mul, Bool.true_eq_false, false_and, and_false, true_and, and_true, List.all_cons, List.all_nil, id_eq, Bool.and_true, bytesL_length, hsa, hsb]; (try simp only [Int.ofNat_eq_natCast]); done) | ((try simp only [hu.b, hu.i, iB, iI, cmpB, Iv.val_sym, Iv.val_lit, Lv.raw, Tv.raw, decide_eq_true_eq, decide_eq_false_iff_not, beq_iff_eq, beq_eq_false_iff_ne, ne_eq, ofN, Int.toNat_zero, Int.toNat_one, Int.reduceToNat, natc, hu.s, iS, Sv.val_lit, Sv.val_sym, true_iff, false_iff, Bool.false_eq_true, bne_iff_ne, bne_eq_false_iff_eq, Bool.not_eq_true', Bool.not_eq_false', Decidable.not_not, nil_toList, ByteArray.size_empty, nilS, not_true_eq_false, not_false_eq_true, hu.l, iL, hu.t, iT, bin_add, bin_sub, bin_mul, wr_u8, wr_u16, wr_u32, wr_u64, IntKind.wrap_i64, List.length_append, List.length_cons, List.length_nil, List.nil_append, List.append_nil, List.cons_append, lvals, List.length_replicate, List.length_set, linV_val hu, Int.add_zero, Int.zero_add, Int.mul_one, Int.sub_zero, Int.zero_mul, Bool.true_eq_false, false_and, and_false, true_and, and_true, List.all_cons, List.all_nil, id_eq, Bool.and_true, bytesL_length, hsa, hsb]) <;> (try simp only [Int.ofNat_eq_natCast]) <;> omega))
  all_goals try (subst hR; exact Weak.law (by rfl) (by rfl))
  all_goals try
    have hF : False := by
      first
        | (simp at hz
           have h8 := congrArg strL hz
           rw [strL_bytesL, strL_bytesL] at h8
           have h9 : ¬ a.toList = b.toList := by assumption
           exact h9 (by rw [h8]))
        | (simp at hz
           have h9 : a.toList = b.toList := by assumption
           exact hz (by rw [str_ext h9]))
        | (have h9 : ¬ u.toList = w.toList := by assumption
           exact h9 (by rw [ha4, hw, hn, Int.toNat_natCast]))
        | (have h9 : ¬ u.toList = z.toList := by assumption
           exact h9 (by rw [ha4, hz, hn, Int.toNat_natCast]))
    exact hF.elim
end Go.Proofs.YtbadogbkbhopcaaDoor
