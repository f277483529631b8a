import Derived.Test.YtdenmaiimfnbeaaDoorK1
import Derived.Test.YtdenmaiimfnbeaaDoorSx3
set_option linter.all false
set_option linter.unusedSectionVars false
namespace Go.Proofs.YtdenmaiimfnbeaaDoor
open Go Sx
set_option maxRecDepth 100000
set_option maxHeartbeats 2000000
theorem clone_ctr {tt : TypeId} (ys : List Int) (n : Int) (hn : n = ys.length) (hb : n ≤ 1099511627776) : Ctr Tryd.prog 40 [.cols .ro tt [.ints .u8 (.sym ys)]] [.sl 0 (.lit 0) (.sym n)]
    fun v H => v = .vec 1 (.sym n) ∧ H = [.cols .ro tt [.ints .u8 (.sym ys)], .cols (.row 1) 5 [.ints .u8 (.sym ys)]] := by
  have n0 : 0 ≤ n := by omega
  have nlen : n = ys.length := hn
  refine Ctr.weak (Ctr.mono (R := fun v H => ∃ (m : Iv) (zs : Lv), m.val = n ∧ zs.raw = ys ∧ v = .vec 1 m ∧ H = [.cols .ro tt [.ints .u8 (.sym ys)], .cols (.row 1) 5 [.ints .u8 zs]])
    (Ctr.nil_row (R := fun v H => (n = 0 ∧ v = .nilsl ∧ H = [.cols .ro tt [.ints .u8 (.sym ys)]]) ∨ (v = .vec 1 (.sym n) ∧ H = [.cols .ro tt [.ints .u8 (.sym ys)], .cols (.row 1) 5 [.ints .u8 (.sym ys)]])) ?_ ?_) ?_)
  · have e0 : subL ys 0 n = ys := subL_all _ _ hn
    obtain ⟨uI, uB, uS, uL, uT, hu⟩ := words
    have hm := mixed
    have hT := tabOk
    obtain ⟨P, hP⟩ : ∃ P, P = Tryd.prog := ⟨_, rfl⟩
    rw [← hP] at hm hT ⊢
    refine Ctr.weak (ctr_of_vc hu hm hT (hP ▸ Tryd.func40) rfl (by kernel_rfl) ?_)
    clear hP hm hT
    generalize hR : Weak _ _ = R
    conv => cbv
    repeat' (first | ((with_reducible intro (h : _ = _)); (try subst h); (try simp only [hu.b, hu.i, iB, iI, cmpB, ivs, ivl, lrs, lrl, trs, trl, decide_eq_true_eq, decide_eq_false_iff_not, beq_iff_eq, beq_eq_false_iff_ne, ne_eq, ofN, Int.toNat_zero, Int.toNat_one, Int.reduceToNat, natc, hu.s, iS, svs, svl, true_iff, false_iff, Bool.false_eq_true, bne_iff_ne, bne_eq_false_iff_eq, Bool.not_eq_true', Bool.not_eq_false', Decidable.not_not, nil_toList, ByteArray.size_empty, nilS, not_true_eq_false, not_false_eq_true, hu.l, iL, hu.t, iT, bin_add, bin_sub, bin_mul, wr_u8, wr_u16, wr_u32, wr_u64, IntKind.wrap_i64, List.length_append, List.length_cons, List.length_nil, List.nil_append, List.append_nil, List.cons_append, lvals, List.length_replicate, List.length_set, linV_val hu, Int.add_zero, Int.zero_add, Int.mul_one, Int.sub_zero, Int.zero_mul, Bool.true_eq_false, false_and, and_false, true_and, and_true, List.all_cons, List.all_nil, id_eq, Bool.and_true, e0] at h) <;> (try simp only [Int.ofNat_eq_natCast] at h) <;> (first | (have hF0 : False := by omega; exact hF0.elim) | (conv => cbv))) | (with_reducible refine And.intro ?_ ?_) | (refine Gen0.mk ?_; (conv => cbv)) | (with_reducible refine Pick.view ?_; (conv => cbv)) | (simp only [hu.b, hu.i, iB, iI, cmpB, ivs, ivl, lrs, lrl, trs, trl, decide_eq_true_eq, decide_eq_false_iff_not, beq_iff_eq, beq_eq_false_iff_ne, ne_eq, ofN, Int.toNat_zero, Int.toNat_one, Int.reduceToNat, natc, hu.s, iS, svs, svl, true_iff, false_iff, Bool.false_eq_true, bne_iff_ne, bne_eq_false_iff_eq, Bool.not_eq_true', Bool.not_eq_false', Decidable.not_not, nil_toList, ByteArray.size_empty, nilS, not_true_eq_false, not_false_eq_true, hu.l, iL, hu.t, iT, bin_add, bin_sub, bin_mul, wr_u8, wr_u16, wr_u32, wr_u64, IntKind.wrap_i64, List.length_append, List.length_cons, List.length_nil, List.nil_append, List.append_nil, List.cons_append, lvals, List.length_replicate, List.length_set, linV_val hu, Int.add_zero, Int.zero_add, Int.mul_one, Int.sub_zero, Int.zero_mul, Bool.true_eq_false, false_and, and_false, true_and, and_true, List.all_cons, List.all_nil, id_eq, Bool.and_true, e0]; (try simp only [Int.ofNat_eq_natCast]); done) | ((try simp only [hu.b, hu.i, iB, iI, cmpB, ivs, ivl, lrs, lrl, trs, trl, decide_eq_true_eq, decide_eq_false_iff_not, beq_iff_eq, beq_eq_false_iff_ne, ne_eq, ofN, Int.toNat_zero, Int.toNat_one, Int.reduceToNat, natc, hu.s, iS, svs, svl, true_iff, false_iff, Bool.false_eq_true, bne_iff_ne, bne_eq_false_iff_eq, Bool.not_eq_true', Bool.not_eq_false', Decidable.not_not, nil_toList, ByteArray.size_empty, nilS, not_true_eq_false, not_false_eq_true, hu.l, iL, hu.t, iT, bin_add, bin_sub, bin_mul, wr_u8, wr_u16, wr_u32, wr_u64, IntKind.wrap_i64, List.length_append, List.length_cons, List.length_nil, List.nil_append, List.append_nil, List.cons_append, lvals, List.length_replicate, List.length_set, linV_val hu, Int.add_zero, Int.zero_add, Int.mul_one, Int.sub_zero, Int.zero_mul, Bool.true_eq_false, false_and, and_false, true_and, and_true, List.all_cons, List.all_nil, id_eq, Bool.and_true, e0]) <;> (try simp only [Int.ofNat_eq_natCast]) <;> omega))
    · subst hR
      refine Weak.of ((.inl ⟨rfl, rfl, rfl⟩)) ?_ ?_ (by rfl)
      all_goals ((conv => cbv); repeat' (first | exact True.intro | with_reducible rfl | (with_reducible exact fun h => h) | (with_reducible refine And.intro ?_ ?_)))
    · subst hR
      refine Weak.of ((.inr ⟨rfl, rfl⟩)) ?_ ?_ (by rfl)
      all_goals ((conv => cbv); repeat' (first | exact True.intro | with_reducible rfl | (with_reducible exact fun h => h) | (with_reducible refine And.intro ?_ ?_)))
      all_goals
        ((try simp only [hu.b, hu.i, iB, iI, cmpB, ivs, ivl, lrs, lrl, trs, trl, decide_eq_true_eq, decide_eq_false_iff_not, beq_iff_eq, beq_eq_false_iff_ne, ne_eq, ofN, Int.toNat_zero, Int.toNat_one, Int.reduceToNat, natc, hu.s, iS, svs, svl, true_iff, false_iff, Bool.false_eq_true, bne_iff_ne, bne_eq_false_iff_eq, Bool.not_eq_true', Bool.not_eq_false', Decidable.not_not, nil_toList, ByteArray.size_empty, nilS, not_true_eq_false, not_false_eq_true, hu.l, iL, hu.t, iT, bin_add, bin_sub, bin_mul, wr_u8, wr_u16, wr_u32, wr_u64, IntKind.wrap_i64, List.length_append, List.length_cons, List.length_nil, List.nil_append, List.append_nil, List.cons_append, lvals, List.length_replicate, List.length_set, linV_val hu, Int.add_zero, Int.zero_add, Int.mul_one, Int.sub_zero, Int.zero_mul, Bool.true_eq_false, false_and, and_false, true_and, and_true, List.all_cons, List.all_nil, id_eq, Bool.and_true, e0]) <;> (try simp only [Int.ofNat_eq_natCast]) <;> (try omega))
  · rintro v H (⟨h0, rfl, rfl⟩ | ⟨rfl, rfl⟩)
    · have hy : ys = [] := List.eq_nil_of_length_eq_zero (by omega)
      exact .inr ⟨rfl, by simp, 5, .u8, .lit 0, .lits [], h0.symm, hy.symm, rfl, rfl⟩
    · exact .inl ⟨.sym n, .sym ys, rfl, rfl, rfl, rfl⟩
  · rintro v H ⟨m, zs, hm, hz, rfl, rfl⟩
    exact Weak.of ⟨rfl, rfl⟩ ⟨rfl, hm⟩ ⟨⟨rfl, ⟨rfl, rfl⟩, trivial⟩, ⟨rfl, rfl, ⟨rfl, hz⟩, trivial⟩, trivial⟩ rfl
theorem take_ctr {tt : TypeId} (bs : List Int) (o k w : Int) (h0 : 0 ≤ o ∧ 0 ≤ k ∧ o + k = bs.length ∧ o + k ≤ 1024) (hw : 0 ≤ w ∧ w ≤ 65535) : Ctr Tryd.prog 38 [.cells 64 [.sl 1 (.sym o) (.sym k), .int .i64 (.sym o), .nilif], .cols .ro tt [.ints .u8 (.sym bs)]] [.ptr 0 ⟨.lit 0, 1, 0⟩, .int .i64 (.sym w)] fun v H =>
    (k < w ∧ v = .tup [.nilsl, .bool false] ∧ H = [.cells 64 [.sl 1 (.sym o) (.sym k), .int .i64 (.sym o), .nilif], .cols .ro tt [.ints .u8 (.sym bs)]]) ∨
    (∃ o' k', (w ≤ k ∧ o' = o + w ∧ k' = k - w) ∧ v = .tup [.sl 1 (.sym o) (.sym w), .bool true] ∧ H = [.cells 64 [.sl 1 (.sym o') (.sym k'), .int .i64 (.sym o'), .nilif], .cols .ro tt [.ints .u8 (.sym bs)]]) := by
  obtain ⟨uI, uB, uS, uL, uT, hu⟩ := words
  have hm := mixed
  have hT := tabOk
  obtain ⟨P, hP⟩ : ∃ P, P = Tryd.prog := ⟨_, rfl⟩
  rw [← hP] at hm hT ⊢
  refine Ctr.weak (ctr_of_vc hu hm hT (hP ▸ Tryd.func38) rfl (by kernel_rfl) ?_)
  clear hP hm hT
  generalize hR : Weak _ _ = R
  conv => cbv
  repeat' (first | ((with_reducible intro (h : _ = _)); (try subst h); (try simp only [hu.b, hu.i, iB, iI, cmpB, ivs, ivl, lrs, lrl, trs, trl, decide_eq_true_eq, decide_eq_false_iff_not, beq_iff_eq, beq_eq_false_iff_ne, ne_eq, ofN, Int.toNat_zero, Int.toNat_one, Int.reduceToNat, natc, hu.s, iS, svs, svl, true_iff, false_iff, Bool.false_eq_true, bne_iff_ne, bne_eq_false_iff_eq, Bool.not_eq_true', Bool.not_eq_false', Decidable.not_not, nil_toList, ByteArray.size_empty, nilS, not_true_eq_false, not_false_eq_true, hu.l, iL, hu.t, iT, bin_add, bin_sub, bin_mul, wr_u8, wr_u16, wr_u32, wr_u64, IntKind.wrap_i64, List.length_append, List.length_cons, List.length_nil, List.nil_append, List.append_nil, List.cons_append, lvals, List.length_replicate, List.length_set, linV_val hu, Int.add_zero, Int.zero_add, Int.mul_one, Int.sub_zero, Int.zero_mul, Bool.true_eq_false, false_and, and_false, true_and, and_true, List.all_cons, List.all_nil, id_eq, Bool.and_true] at h) <;> (try simp only [Int.ofNat_eq_natCast] at h) <;> (first | (have hF0 : False := by omega; exact hF0.elim) | (conv => cbv))) | (with_reducible refine And.intro ?_ ?_) | (refine Gen0.mk ?_; (conv => cbv)) | (with_reducible refine Pick.view ?_; (conv => cbv)) | (simp only [hu.b, hu.i, iB, iI, cmpB, ivs, ivl, lrs, lrl, trs, trl, decide_eq_true_eq, decide_eq_false_iff_not, beq_iff_eq, beq_eq_false_iff_ne, ne_eq, ofN, Int.toNat_zero, Int.toNat_one, Int.reduceToNat, natc, hu.s, iS, svs, svl, true_iff, false_iff, Bool.false_eq_true, bne_iff_ne, bne_eq_false_iff_eq, Bool.not_eq_true', Bool.not_eq_false', Decidable.not_not, nil_toList, ByteArray.size_empty, nilS, not_true_eq_false, not_false_eq_true, hu.l, iL, hu.t, iT, bin_add, bin_sub, bin_mul, wr_u8, wr_u16, wr_u32, wr_u64, IntKind.wrap_i64, List.length_append, List.length_cons, List.length_nil, List.nil_append, List.append_nil, List.cons_append, lvals, List.length_replicate, List.length_set, linV_val hu, Int.add_zero, Int.zero_add, Int.mul_one, Int.sub_zero, Int.zero_mul, Bool.true_eq_false, false_and, and_false, true_and, and_true, List.all_cons, List.all_nil, id_eq, Bool.and_true]; (try simp only [Int.ofNat_eq_natCast]); done) | ((try simp only [hu.b, hu.i, iB, iI, cmpB, ivs, ivl, lrs, lrl, trs, trl, decide_eq_true_eq, decide_eq_false_iff_not, beq_iff_eq, beq_eq_false_iff_ne, ne_eq, ofN, Int.toNat_zero, Int.toNat_one, Int.reduceToNat, natc, hu.s, iS, svs, svl, true_iff, false_iff, Bool.false_eq_true, bne_iff_ne, bne_eq_false_iff_eq, Bool.not_eq_true', Bool.not_eq_false', Decidable.not_not, nil_toList, ByteArray.size_empty, nilS, not_true_eq_false, not_false_eq_true, hu.l, iL, hu.t, iT, bin_add, bin_sub, bin_mul, wr_u8, wr_u16, wr_u32, wr_u64, IntKind.wrap_i64, List.length_append, List.length_cons, List.length_nil, List.nil_append, List.append_nil, List.cons_append, lvals, List.length_replicate, List.length_set, linV_val hu, Int.add_zero, Int.zero_add, Int.mul_one, Int.sub_zero, Int.zero_mul, Bool.true_eq_false, false_and, and_false, true_and, and_true, List.all_cons, List.all_nil, id_eq, Bool.and_true]) <;> (try simp only [Int.ofNat_eq_natCast]) <;> omega))
  · have hk : k < w := by omega
    subst hR
    refine Weak.of ((.inl ⟨hk, rfl, rfl⟩)) ?_ ?_ (by rfl)
    all_goals ((conv => cbv); repeat' (first | exact True.intro | with_reducible rfl | (with_reducible exact fun h => h) | (with_reducible refine And.intro ?_ ?_)))
  · obtain ⟨o', eo⟩ : ∃ x, x = o + w := ⟨_, rfl⟩
    obtain ⟨k', ek⟩ : ∃ x, x = k - w := ⟨_, rfl⟩
    have hk : w ≤ k := by omega
    subst hR
    refine Weak.of ((.inr ⟨o', k', ⟨hk, eo, ek⟩, rfl, rfl⟩)) ?_ ?_ (by rfl)
    all_goals ((conv => cbv); repeat' (first | exact True.intro | with_reducible rfl | (with_reducible exact fun h => h) | (with_reducible refine And.intro ?_ ?_)))
    all_goals
      ((try simp only [hu.b, hu.i, iB, iI, cmpB, ivs, ivl, lrs, lrl, trs, trl, decide_eq_true_eq, decide_eq_false_iff_not, beq_iff_eq, beq_eq_false_iff_ne, ne_eq, ofN, Int.toNat_zero, Int.toNat_one, Int.reduceToNat, natc, hu.s, iS, svs, svl, true_iff, false_iff, Bool.false_eq_true, bne_iff_ne, bne_eq_false_iff_eq, Bool.not_eq_true', Bool.not_eq_false', Decidable.not_not, nil_toList, ByteArray.size_empty, nilS, not_true_eq_false, not_false_eq_true, hu.l, iL, hu.t, iT, bin_add, bin_sub, bin_mul, wr_u8, wr_u16, wr_u32, wr_u64, IntKind.wrap_i64, List.length_append, List.length_cons, List.length_nil, List.nil_append, List.append_nil, List.cons_append, lvals, List.length_replicate, List.length_set, linV_val hu, Int.add_zero, Int.zero_add, Int.mul_one, Int.sub_zero, Int.zero_mul, Bool.true_eq_false, false_and, and_false, true_and, and_true, List.all_cons, List.all_nil, id_eq, Bool.and_true]) <;> (try simp only [Int.ofNat_eq_natCast]) <;> (try omega))
theorem take_e {tt : TypeId} (bs : List Int) (o k w p : Int) (h0 : 0 ≤ o ∧ 0 ≤ k ∧ o + k = bs.length ∧ o + k ≤ 1024) (hw : 0 ≤ w ∧ w ≤ 65535) : Ctr Tryd.prog 38 [.cells 64 [.sl 1 (.sym o) (.sym k), .int .i64 (.sym o), .iface 68 (.ptr 2 ⟨.lit 0, 1, 0⟩)], .cols .ro tt [.ints .u8 (.sym bs)], .cells 71 [.int .i64 (.sym p), .iface 54 (.int .i64 (.sym 6))]] [.ptr 0 ⟨.lit 0, 1, 0⟩, .int .i64 (.sym w)] fun v H =>
    (k < w ∧ v = .tup [.nilsl, .bool false] ∧ H = [.cells 64 [.sl 1 (.sym o) (.sym k), .int .i64 (.sym o), .iface 68 (.ptr 2 ⟨.lit 0, 1, 0⟩)], .cols .ro tt [.ints .u8 (.sym bs)], .cells 71 [.int .i64 (.sym p), .iface 54 (.int .i64 (.sym 6))]]) ∨
    (∃ o' k', (w ≤ k ∧ o' = o + w ∧ k' = k - w) ∧ v = .tup [.sl 1 (.sym o) (.sym w), .bool true] ∧ H = [.cells 64 [.sl 1 (.sym o') (.sym k'), .int .i64 (.sym o'), .iface 68 (.ptr 2 ⟨.lit 0, 1, 0⟩)], .cols .ro tt [.ints .u8 (.sym bs)], .cells 71 [.int .i64 (.sym p), .iface 54 (.int .i64 (.sym 6))]]) := by
  obtain ⟨uI, uB, uS, uL, uT, hu⟩ := words
  have hm := mixed
  have hT := tabOk
  obtain ⟨P, hP⟩ : ∃ P, P = Tryd.prog := ⟨_, rfl⟩
  rw [← hP] at hm hT ⊢
  refine Ctr.weak (ctr_of_vc hu hm hT (hP ▸ Tryd.func38) rfl (by kernel_rfl) ?_)
  clear hP hm hT
  generalize hR : Weak _ _ = R
  conv => cbv
  repeat' (first | ((with_reducible intro (h : _ = _)); (try subst h); (try simp only [hu.b, hu.i, iB, iI, cmpB, ivs, ivl, lrs, lrl, trs, trl, decide_eq_true_eq, decide_eq_false_iff_not, beq_iff_eq, beq_eq_false_iff_ne, ne_eq, ofN, Int.toNat_zero, Int.toNat_one, Int.reduceToNat, natc, hu.s, iS, svs, svl, true_iff, false_iff, Bool.false_eq_true, bne_iff_ne, bne_eq_false_iff_eq, Bool.not_eq_true', Bool.not_eq_false', Decidable.not_not, nil_toList, ByteArray.size_empty, nilS, not_true_eq_false, not_false_eq_true, hu.l, iL, hu.t, iT, bin_add, bin_sub, bin_mul, wr_u8, wr_u16, wr_u32, wr_u64, IntKind.wrap_i64, List.length_append, List.length_cons, List.length_nil, List.nil_append, List.append_nil, List.cons_append, lvals, List.length_replicate, List.length_set, linV_val hu, Int.add_zero, Int.zero_add, Int.mul_one, Int.sub_zero, Int.zero_mul, Bool.true_eq_false, false_and, and_false, true_and, and_true, List.all_cons, List.all_nil, id_eq, Bool.and_true] at h) <;> (try simp only [Int.ofNat_eq_natCast] at h) <;> (first | (have hF0 : False := by omega; exact hF0.elim) | (conv => cbv))) | (with_reducible refine And.intro ?_ ?_) | (refine Gen0.mk ?_; (conv => cbv)) | (with_reducible refine Pick.view ?_; (conv => cbv)) | (simp only [hu.b, hu.i, iB, iI, cmpB, ivs, ivl, lrs, lrl, trs, trl, decide_eq_true_eq, decide_eq_false_iff_not, beq_iff_eq, beq_eq_false_iff_ne, ne_eq, ofN, Int.toNat_zero, Int.toNat_one, Int.reduceToNat, natc, hu.s, iS, svs, svl, true_iff, false_iff, Bool.false_eq_true, bne_iff_ne, bne_eq_false_iff_eq, Bool.not_eq_true', Bool.not_eq_false', Decidable.not_not, nil_toList, ByteArray.size_empty, nilS, not_true_eq_false, not_false_eq_true, hu.l, iL, hu.t, iT, bin_add, bin_sub, bin_mul, wr_u8, wr_u16, wr_u32, wr_u64, IntKind.wrap_i64, List.length_append, List.length_cons, List.length_nil, List.nil_append, List.append_nil, List.cons_append, lvals, List.length_replicate, List.length_set, linV_val hu, Int.add_zero, Int.zero_add, Int.mul_one, Int.sub_zero, Int.zero_mul, Bool.true_eq_false, false_and, and_false, true_and, and_true, List.all_cons, List.all_nil, id_eq, Bool.and_true]; (try simp only [Int.ofNat_eq_natCast]); done) | ((try simp only [hu.b, hu.i, iB, iI, cmpB, ivs, ivl, lrs, lrl, trs, trl, decide_eq_true_eq, decide_eq_false_iff_not, beq_iff_eq, beq_eq_false_iff_ne, ne_eq, ofN, Int.toNat_zero, Int.toNat_one, Int.reduceToNat, natc, hu.s, iS, svs, svl, true_iff, false_iff, Bool.false_eq_true, bne_iff_ne, bne_eq_false_iff_eq, Bool.not_eq_true', Bool.not_eq_false', Decidable.not_not, nil_toList, ByteArray.size_empty, nilS, not_true_eq_false, not_false_eq_true, hu.l, iL, hu.t, iT, bin_add, bin_sub, bin_mul, wr_u8, wr_u16, wr_u32, wr_u64, IntKind.wrap_i64, List.length_append, List.length_cons, List.length_nil, List.nil_append, List.append_nil, List.cons_append, lvals, List.length_replicate, List.length_set, linV_val hu, Int.add_zero, Int.zero_add, Int.mul_one, Int.sub_zero, Int.zero_mul, Bool.true_eq_false, false_and, and_false, true_and, and_true, List.all_cons, List.all_nil, id_eq, Bool.and_true]) <;> (try simp only [Int.ofNat_eq_natCast]) <;> omega))
  · have hk : k < w := by omega
    subst hR
    refine Weak.of ((.inl ⟨hk, rfl, rfl⟩)) ?_ ?_ (by rfl)
    all_goals ((conv => cbv); repeat' (first | exact True.intro | with_reducible rfl | (with_reducible exact fun h => h) | (with_reducible refine And.intro ?_ ?_)))
  · obtain ⟨o', eo⟩ : ∃ x, x = o + w := ⟨_, rfl⟩
    obtain ⟨k', ek⟩ : ∃ x, x = k - w := ⟨_, rfl⟩
    have hk : w ≤ k := by omega
    subst hR
    refine Weak.of ((.inr ⟨o', k', ⟨hk, eo, ek⟩, rfl, rfl⟩)) ?_ ?_ (by rfl)
    all_goals ((conv => cbv); repeat' (first | exact True.intro | with_reducible rfl | (with_reducible exact fun h => h) | (with_reducible refine And.intro ?_ ?_)))
    all_goals
      ((try simp only [hu.b, hu.i, iB, iI, cmpB, ivs, ivl, lrs, lrl, trs, trl, decide_eq_true_eq, decide_eq_false_iff_not, beq_iff_eq, beq_eq_false_iff_ne, ne_eq, ofN, Int.toNat_zero, Int.toNat_one, Int.reduceToNat, natc, hu.s, iS, svs, svl, true_iff, false_iff, Bool.false_eq_true, bne_iff_ne, bne_eq_false_iff_eq, Bool.not_eq_true', Bool.not_eq_false', Decidable.not_not, nil_toList, ByteArray.size_empty, nilS, not_true_eq_false, not_false_eq_true, hu.l, iL, hu.t, iT, bin_add, bin_sub, bin_mul, wr_u8, wr_u16, wr_u32, wr_u64, IntKind.wrap_i64, List.length_append, List.length_cons, List.length_nil, List.nil_append, List.append_nil, List.cons_append, lvals, List.length_replicate, List.length_set, linV_val hu, Int.add_zero, Int.zero_add, Int.mul_one, Int.sub_zero, Int.zero_mul, Bool.true_eq_false, false_and, and_false, true_and, and_true, List.all_cons, List.all_nil, id_eq, Bool.and_true]) <;> (try simp only [Int.ofNat_eq_natCast]) <;> (try omega))
theorem wrong_ctr {tt : TypeId} (bs : List Int) (o k p : Int) : Ctr Tryd.prog 39 [.cells 64 [.sl 1 (.sym o) (.sym k), .int .i64 (.sym o), .nilif], .cols .ro tt [.ints .u8 (.sym bs)]] [.ptr 0 ⟨.lit 0, 1, 0⟩, .int .i64 (.sym p)] fun v H => v = .tup [] ∧ H = [.cells 64 [.sl 1 (.sym o) (.sym k), .int .i64 (.sym o), .iface 68 (.ptr 2 ⟨.lit 0, 1, 0⟩)], .cols .ro tt [.ints .u8 (.sym bs)], .cells 71 [.int .i64 (.sym p), .iface 54 (.int .i64 (.sym 6))]] := by
  obtain ⟨uI, uB, uS, uL, uT, hu⟩ := words
  have hm := mixed
  have hT := tabOk
  obtain ⟨P, hP⟩ : ∃ P, P = Tryd.prog := ⟨_, rfl⟩
  rw [← hP] at hm hT ⊢
  refine Ctr.weak (ctr_of_vc hu hm hT (hP ▸ Tryd.func39) rfl (by kernel_rfl) ?_)
  clear hP hm hT
  generalize hR : Weak _ _ = R
  conv => cbv
  repeat' (first | ((with_reducible intro (h : _ = _)); (try subst h); (try simp only [hu.b, hu.i, iB, iI, cmpB, ivs, ivl, lrs, lrl, trs, trl, decide_eq_true_eq, decide_eq_false_iff_not, beq_iff_eq, beq_eq_false_iff_ne, ne_eq, ofN, Int.toNat_zero, Int.toNat_one, Int.reduceToNat, natc, hu.s, iS, svs, svl, true_iff, false_iff, Bool.false_eq_true, bne_iff_ne, bne_eq_false_iff_eq, Bool.not_eq_true', Bool.not_eq_false', Decidable.not_not, nil_toList, ByteArray.size_empty, nilS, not_true_eq_false, not_false_eq_true, hu.l, iL, hu.t, iT, bin_add, bin_sub, bin_mul, wr_u8, wr_u16, wr_u32, wr_u64, IntKind.wrap_i64, List.length_append, List.length_cons, List.length_nil, List.nil_append, List.append_nil, List.cons_append, lvals, List.length_replicate, List.length_set, linV_val hu, Int.add_zero, Int.zero_add, Int.mul_one, Int.sub_zero, Int.zero_mul, Bool.true_eq_false, false_and, and_false, true_and, and_true, List.all_cons, List.all_nil, id_eq, Bool.and_true] at h) <;> (try simp only [Int.ofNat_eq_natCast] at h) <;> (first | (have hF0 : False := by omega; exact hF0.elim) | (conv => cbv))) | (with_reducible refine And.intro ?_ ?_) | (refine Gen0.mk ?_; (conv => cbv)) | (with_reducible refine Pick.view ?_; (conv => cbv)) | (simp only [hu.b, hu.i, iB, iI, cmpB, ivs, ivl, lrs, lrl, trs, trl, decide_eq_true_eq, decide_eq_false_iff_not, beq_iff_eq, beq_eq_false_iff_ne, ne_eq, ofN, Int.toNat_zero, Int.toNat_one, Int.reduceToNat, natc, hu.s, iS, svs, svl, true_iff, false_iff, Bool.false_eq_true, bne_iff_ne, bne_eq_false_iff_eq, Bool.not_eq_true', Bool.not_eq_false', Decidable.not_not, nil_toList, ByteArray.size_empty, nilS, not_true_eq_false, not_false_eq_true, hu.l, iL, hu.t, iT, bin_add, bin_sub, bin_mul, wr_u8, wr_u16, wr_u32, wr_u64, IntKind.wrap_i64, List.length_append, List.length_cons, List.length_nil, List.nil_append, List.append_nil, List.cons_append, lvals, List.length_replicate, List.length_set, linV_val hu, Int.add_zero, Int.zero_add, Int.mul_one, Int.sub_zero, Int.zero_mul, Bool.true_eq_false, false_and, and_false, true_and, and_true, List.all_cons, List.all_nil, id_eq, Bool.and_true]; (try simp only [Int.ofNat_eq_natCast]); done) | ((try simp only [hu.b, hu.i, iB, iI, cmpB, ivs, ivl, lrs, lrl, trs, trl, decide_eq_true_eq, decide_eq_false_iff_not, beq_iff_eq, beq_eq_false_iff_ne, ne_eq, ofN, Int.toNat_zero, Int.toNat_one, Int.reduceToNat, natc, hu.s, iS, svs, svl, true_iff, false_iff, Bool.false_eq_true, bne_iff_ne, bne_eq_false_iff_eq, Bool.not_eq_true', Bool.not_eq_false', Decidable.not_not, nil_toList, ByteArray.size_empty, nilS, not_true_eq_false, not_false_eq_true, hu.l, iL, hu.t, iT, bin_add, bin_sub, bin_mul, wr_u8, wr_u16, wr_u32, wr_u64, IntKind.wrap_i64, List.length_append, List.length_cons, List.length_nil, List.nil_append, List.append_nil, List.cons_append, lvals, List.length_replicate, List.length_set, linV_val hu, Int.add_zero, Int.zero_add, Int.mul_one, Int.sub_zero, Int.zero_mul, Bool.true_eq_false, false_and, and_false, true_and, and_true, List.all_cons, List.all_nil, id_eq, Bool.and_true]) <;> (try simp only [Int.ofNat_eq_natCast]) <;> omega))
  subst hR
  refine Weak.of (⟨rfl, rfl⟩) ?_ ?_ (by rfl)
  all_goals ((conv => cbv); repeat' (first | exact True.intro | with_reducible rfl | (with_reducible exact fun h => h) | (with_reducible refine And.intro ?_ ?_)))
theorem wrong_e {tt : TypeId} (bs : List Int) (o k p q : Int) : Ctr Tryd.prog 39 [.cells 64 [.sl 1 (.sym o) (.sym k), .int .i64 (.sym o), .iface 68 (.ptr 2 ⟨.lit 0, 1, 0⟩)], .cols .ro tt [.ints .u8 (.sym bs)], .cells 71 [.int .i64 (.sym p), .iface 54 (.int .i64 (.sym 6))]] [.ptr 0 ⟨.lit 0, 1, 0⟩, .int .i64 (.sym q)] fun v H => v = .tup [] ∧ H = [.cells 64 [.sl 1 (.sym o) (.sym k), .int .i64 (.sym o), .iface 68 (.ptr 2 ⟨.lit 0, 1, 0⟩)], .cols .ro tt [.ints .u8 (.sym bs)], .cells 71 [.int .i64 (.sym p), .iface 54 (.int .i64 (.sym 6))]] := by
  obtain ⟨uI, uB, uS, uL, uT, hu⟩ := words
  have hm := mixed
  have hT := tabOk
  obtain ⟨P, hP⟩ : ∃ P, P = Tryd.prog := ⟨_, rfl⟩
  rw [← hP] at hm hT ⊢
  refine Ctr.weak (ctr_of_vc hu hm hT (hP ▸ Tryd.func39) rfl (by kernel_rfl) ?_)
  clear hP hm hT
  generalize hR : Weak _ _ = R
  conv => cbv
  repeat' (first | ((with_reducible intro (h : _ = _)); (try subst h); (try simp only [hu.b, hu.i, iB, iI, cmpB, ivs, ivl, lrs, lrl, trs, trl, decide_eq_true_eq, decide_eq_false_iff_not, beq_iff_eq, beq_eq_false_iff_ne, ne_eq, ofN, Int.toNat_zero, Int.toNat_one, Int.reduceToNat, natc, hu.s, iS, svs, svl, true_iff, false_iff, Bool.false_eq_true, bne_iff_ne, bne_eq_false_iff_eq, Bool.not_eq_true', Bool.not_eq_false', Decidable.not_not, nil_toList, ByteArray.size_empty, nilS, not_true_eq_false, not_false_eq_true, hu.l, iL, hu.t, iT, bin_add, bin_sub, bin_mul, wr_u8, wr_u16, wr_u32, wr_u64, IntKind.wrap_i64, List.length_append, List.length_cons, List.length_nil, List.nil_append, List.append_nil, List.cons_append, lvals, List.length_replicate, List.length_set, linV_val hu, Int.add_zero, Int.zero_add, Int.mul_one, Int.sub_zero, Int.zero_mul, Bool.true_eq_false, false_and, and_false, true_and, and_true, List.all_cons, List.all_nil, id_eq, Bool.and_true] at h) <;> (try simp only [Int.ofNat_eq_natCast] at h) <;> (first | (have hF0 : False := by omega; exact hF0.elim) | (conv => cbv))) | (with_reducible refine And.intro ?_ ?_) | (refine Gen0.mk ?_; (conv => cbv)) | (with_reducible refine Pick.view ?_; (conv => cbv)) | (simp only [hu.b, hu.i, iB, iI, cmpB, ivs, ivl, lrs, lrl, trs, trl, decide_eq_true_eq, decide_eq_false_iff_not, beq_iff_eq, beq_eq_false_iff_ne, ne_eq, ofN, Int.toNat_zero, Int.toNat_one, Int.reduceToNat, natc, hu.s, iS, svs, svl, true_iff, false_iff, Bool.false_eq_true, bne_iff_ne, bne_eq_false_iff_eq, Bool.not_eq_true', Bool.not_eq_false', Decidable.not_not, nil_toList, ByteArray.size_empty, nilS, not_true_eq_false, not_false_eq_true, hu.l, iL, hu.t, iT, bin_add, bin_sub, bin_mul, wr_u8, wr_u16, wr_u32, wr_u64, IntKind.wrap_i64, List.length_append, List.length_cons, List.length_nil, List.nil_append, List.append_nil, List.cons_append, lvals, List.length_replicate, List.length_set, linV_val hu, Int.add_zero, Int.zero_add, Int.mul_one, Int.sub_zero, Int.zero_mul, Bool.true_eq_false, false_and, and_false, true_and, and_true, List.all_cons, List.all_nil, id_eq, Bool.and_true]; (try simp only [Int.ofNat_eq_natCast]); done) | ((try simp only [hu.b, hu.i, iB, iI, cmpB, ivs, ivl, lrs, lrl, trs, trl, decide_eq_true_eq, decide_eq_false_iff_not, beq_iff_eq, beq_eq_false_iff_ne, ne_eq, ofN, Int.toNat_zero, Int.toNat_one, Int.reduceToNat, natc, hu.s, iS, svs, svl, true_iff, false_iff, Bool.false_eq_true, bne_iff_ne, bne_eq_false_iff_eq, Bool.not_eq_true', Bool.not_eq_false', Decidable.not_not, nil_toList, ByteArray.size_empty, nilS, not_true_eq_false, not_false_eq_true, hu.l, iL, hu.t, iT, bin_add, bin_sub, bin_mul, wr_u8, wr_u16, wr_u32, wr_u64, IntKind.wrap_i64, List.length_append, List.length_cons, List.length_nil, List.nil_append, List.append_nil, List.cons_append, lvals, List.length_replicate, List.length_set, linV_val hu, Int.add_zero, Int.zero_add, Int.mul_one, Int.sub_zero, Int.zero_mul, Bool.true_eq_false, false_and, and_false, true_and, and_true, List.all_cons, List.all_nil, id_eq, Bool.and_true]) <;> (try simp only [Int.ofNat_eq_natCast]) <;> omega))
  subst hR
  refine Weak.of (⟨rfl, rfl⟩) ?_ ?_ (by rfl)
  all_goals ((conv => cbv); repeat' (first | exact True.intro | with_reducible rfl | (with_reducible exact fun h => h) | (with_reducible refine And.intro ?_ ?_)))
theorem end_ctr {tt : TypeId} (bs : List Int) (o k : Int) : Ctr Tryd.prog 31 [.cells 64 [.sl 1 (.sym o) (.sym k), .int .i64 (.sym o), .nilif], .cols .ro tt [.ints .u8 (.sym bs)]] [.ptr 0 ⟨.lit 0, 1, 0⟩] fun v H =>
    (0 < k ∧ v = .iface 68 (.ptr 2 ⟨.lit 0, 1, 0⟩) ∧ H = [.cells 64 [.sl 1 (.sym o) (.sym k), .int .i64 (.sym o), .iface 68 (.ptr 2 ⟨.lit 0, 1, 0⟩)], .cols .ro tt [.ints .u8 (.sym bs)], .cells 71 [.int .i64 (.sym o), .iface 54 (.int .i64 (.sym 6))]]) ∨ (k ≤ 0 ∧ v = .nilif ∧ H = [.cells 64 [.sl 1 (.sym o) (.sym k), .int .i64 (.sym o), .nilif], .cols .ro tt [.ints .u8 (.sym bs)]]) := by
  obtain ⟨uI, uB, uS, uL, uT, hu⟩ := words
  have hm := mixed
  have hT := tabOk
  have hW := @wrong_ctr
  obtain ⟨P, hP⟩ : ∃ P, P = Tryd.prog := ⟨_, rfl⟩
  rw [← hP] at hm hT hW ⊢
  refine Ctr.weak (ctr_of_vc hu hm hT (hP ▸ Tryd.func31) rfl (by kernel_rfl) ?_)
  clear hP hm hT
  generalize hR : Weak _ _ = R
  conv => cbv
  repeat' (first | ((with_reducible intro (h : _ = _)); (try subst h); (try simp only [hu.b, hu.i, iB, iI, cmpB, ivs, ivl, lrs, lrl, trs, trl, decide_eq_true_eq, decide_eq_false_iff_not, beq_iff_eq, beq_eq_false_iff_ne, ne_eq, ofN, Int.toNat_zero, Int.toNat_one, Int.reduceToNat, natc, hu.s, iS, svs, svl, true_iff, false_iff, Bool.false_eq_true, bne_iff_ne, bne_eq_false_iff_eq, Bool.not_eq_true', Bool.not_eq_false', Decidable.not_not, nil_toList, ByteArray.size_empty, nilS, not_true_eq_false, not_false_eq_true, hu.l, iL, hu.t, iT, bin_add, bin_sub, bin_mul, wr_u8, wr_u16, wr_u32, wr_u64, IntKind.wrap_i64, List.length_append, List.length_cons, List.length_nil, List.nil_append, List.append_nil, List.cons_append, lvals, List.length_replicate, List.length_set, linV_val hu, Int.add_zero, Int.zero_add, Int.mul_one, Int.sub_zero, Int.zero_mul, Bool.true_eq_false, false_and, and_false, true_and, and_true, List.all_cons, List.all_nil, id_eq, Bool.and_true] at h) <;> (try simp only [Int.ofNat_eq_natCast] at h) <;> (first | (have hF0 : False := by omega; exact hF0.elim) | (conv => cbv))) | (with_reducible refine And.intro ?_ ?_) | (first | (refine CallDet.mkR ?_ (hW _ _ _ _)) | (refine CallVC.mkR ?_ (hW _ _ _ _))) | (refine Gen0.mk ?_; (conv => cbv)) | (with_reducible refine Pick.view ?_; (conv => cbv)) | (simp only [hu.b, hu.i, iB, iI, cmpB, ivs, ivl, lrs, lrl, trs, trl, decide_eq_true_eq, decide_eq_false_iff_not, beq_iff_eq, beq_eq_false_iff_ne, ne_eq, ofN, Int.toNat_zero, Int.toNat_one, Int.reduceToNat, natc, hu.s, iS, svs, svl, true_iff, false_iff, Bool.false_eq_true, bne_iff_ne, bne_eq_false_iff_eq, Bool.not_eq_true', Bool.not_eq_false', Decidable.not_not, nil_toList, ByteArray.size_empty, nilS, not_true_eq_false, not_false_eq_true, hu.l, iL, hu.t, iT, bin_add, bin_sub, bin_mul, wr_u8, wr_u16, wr_u32, wr_u64, IntKind.wrap_i64, List.length_append, List.length_cons, List.length_nil, List.nil_append, List.append_nil, List.cons_append, lvals, List.length_replicate, List.length_set, linV_val hu, Int.add_zero, Int.zero_add, Int.mul_one, Int.sub_zero, Int.zero_mul, Bool.true_eq_false, false_and, and_false, true_and, and_true, List.all_cons, List.all_nil, id_eq, Bool.and_true]; (try simp only [Int.ofNat_eq_natCast]); done) | ((try simp only [hu.b, hu.i, iB, iI, cmpB, ivs, ivl, lrs, lrl, trs, trl, decide_eq_true_eq, decide_eq_false_iff_not, beq_iff_eq, beq_eq_false_iff_ne, ne_eq, ofN, Int.toNat_zero, Int.toNat_one, Int.reduceToNat, natc, hu.s, iS, svs, svl, true_iff, false_iff, Bool.false_eq_true, bne_iff_ne, bne_eq_false_iff_eq, Bool.not_eq_true', Bool.not_eq_false', Decidable.not_not, nil_toList, ByteArray.size_empty, nilS, not_true_eq_false, not_false_eq_true, hu.l, iL, hu.t, iT, bin_add, bin_sub, bin_mul, wr_u8, wr_u16, wr_u32, wr_u64, IntKind.wrap_i64, List.length_append, List.length_cons, List.length_nil, List.nil_append, List.append_nil, List.cons_append, lvals, List.length_replicate, List.length_set, linV_val hu, Int.add_zero, Int.zero_add, Int.mul_one, Int.sub_zero, Int.zero_mul, Bool.true_eq_false, false_and, and_false, true_and, and_true, List.all_cons, List.all_nil, id_eq, Bool.and_true]) <;> (try simp only [Int.ofNat_eq_natCast]) <;> omega))
  · have hk : 0 < k := by omega
    subst hR
    refine Weak.of ((.inl ⟨hk, rfl, rfl⟩)) ?_ ?_ (by rfl)
    all_goals ((conv => cbv); repeat' (first | exact True.intro | with_reducible rfl | (with_reducible exact fun h => h) | (with_reducible refine And.intro ?_ ?_)))
  · have hk : k ≤ 0 := by omega
    subst hR
    refine Weak.of ((.inr ⟨hk, rfl, rfl⟩)) ?_ ?_ (by rfl)
    all_goals ((conv => cbv); repeat' (first | exact True.intro | with_reducible rfl | (with_reducible exact fun h => h) | (with_reducible refine And.intro ?_ ?_)))
theorem end_e {tt : TypeId} (bs : List Int) (o k p : Int) : Ctr Tryd.prog 31 [.cells 64 [.sl 1 (.sym o) (.sym k), .int .i64 (.sym o), .iface 68 (.ptr 2 ⟨.lit 0, 1, 0⟩)], .cols .ro tt [.ints .u8 (.sym bs)], .cells 71 [.int .i64 (.sym p), .iface 54 (.int .i64 (.sym 6))]] [.ptr 0 ⟨.lit 0, 1, 0⟩] fun v H =>
    v = .iface 68 (.ptr 2 ⟨.lit 0, 1, 0⟩) ∧ H = [.cells 64 [.sl 1 (.sym o) (.sym k), .int .i64 (.sym o), .iface 68 (.ptr 2 ⟨.lit 0, 1, 0⟩)], .cols .ro tt [.ints .u8 (.sym bs)], .cells 71 [.int .i64 (.sym p), .iface 54 (.int .i64 (.sym 6))]] := by
  obtain ⟨uI, uB, uS, uL, uT, hu⟩ := words
  have hm := mixed
  have hT := tabOk
  have hW := @wrong_e
  obtain ⟨P, hP⟩ : ∃ P, P = Tryd.prog := ⟨_, rfl⟩
  rw [← hP] at hm hT hW ⊢
  refine Ctr.weak (ctr_of_vc hu hm hT (hP ▸ Tryd.func31) rfl (by kernel_rfl) ?_)
  clear hP hm hT
  generalize hR : Weak _ _ = R
  conv => cbv
  repeat' (first | ((with_reducible intro (h : _ = _)); (try subst h); (try simp only [hu.b, hu.i, iB, iI, cmpB, ivs, ivl, lrs, lrl, trs, trl, decide_eq_true_eq, decide_eq_false_iff_not, beq_iff_eq, beq_eq_false_iff_ne, ne_eq, ofN, Int.toNat_zero, Int.toNat_one, Int.reduceToNat, natc, hu.s, iS, svs, svl, true_iff, false_iff, Bool.false_eq_true, bne_iff_ne, bne_eq_false_iff_eq, Bool.not_eq_true', Bool.not_eq_false', Decidable.not_not, nil_toList, ByteArray.size_empty, nilS, not_true_eq_false, not_false_eq_true, hu.l, iL, hu.t, iT, bin_add, bin_sub, bin_mul, wr_u8, wr_u16, wr_u32, wr_u64, IntKind.wrap_i64, List.length_append, List.length_cons, List.length_nil, List.nil_append, List.append_nil, List.cons_append, lvals, List.length_replicate, List.length_set, linV_val hu, Int.add_zero, Int.zero_add, Int.mul_one, Int.sub_zero, Int.zero_mul, Bool.true_eq_false, false_and, and_false, true_and, and_true, List.all_cons, List.all_nil, id_eq, Bool.and_true] at h) <;> (try simp only [Int.ofNat_eq_natCast] at h) <;> (first | (have hF0 : False := by omega; exact hF0.elim) | (conv => cbv))) | (with_reducible refine And.intro ?_ ?_) | (first | (refine CallDet.mkR ?_ (hW _ _ _ _ _)) | (refine CallVC.mkR ?_ (hW _ _ _ _ _))) | (refine Gen0.mk ?_; (conv => cbv)) | (with_reducible refine Pick.view ?_; (conv => cbv)) | (simp only [hu.b, hu.i, iB, iI, cmpB, ivs, ivl, lrs, lrl, trs, trl, decide_eq_true_eq, decide_eq_false_iff_not, beq_iff_eq, beq_eq_false_iff_ne, ne_eq, ofN, Int.toNat_zero, Int.toNat_one, Int.reduceToNat, natc, hu.s, iS, svs, svl, true_iff, false_iff, Bool.false_eq_true, bne_iff_ne, bne_eq_false_iff_eq, Bool.not_eq_true', Bool.not_eq_false', Decidable.not_not, nil_toList, ByteArray.size_empty, nilS, not_true_eq_false, not_false_eq_true, hu.l, iL, hu.t, iT, bin_add, bin_sub, bin_mul, wr_u8, wr_u16, wr_u32, wr_u64, IntKind.wrap_i64, List.length_append, List.length_cons, List.length_nil, List.nil_append, List.append_nil, List.cons_append, lvals, List.length_replicate, List.length_set, linV_val hu, Int.add_zero, Int.zero_add, Int.mul_one, Int.sub_zero, Int.zero_mul, Bool.true_eq_false, false_and, and_false, true_and, and_true, List.all_cons, List.all_nil, id_eq, Bool.and_true]; (try simp only [Int.ofNat_eq_natCast]); done) | ((try simp only [hu.b, hu.i, iB, iI, cmpB, ivs, ivl, lrs, lrl, trs, trl, decide_eq_true_eq, decide_eq_false_iff_not, beq_iff_eq, beq_eq_false_iff_ne, ne_eq, ofN, Int.toNat_zero, Int.toNat_one, Int.reduceToNat, natc, hu.s, iS, svs, svl, true_iff, false_iff, Bool.false_eq_true, bne_iff_ne, bne_eq_false_iff_eq, Bool.not_eq_true', Bool.not_eq_false', Decidable.not_not, nil_toList, ByteArray.size_empty, nilS, not_true_eq_false, not_false_eq_true, hu.l, iL, hu.t, iT, bin_add, bin_sub, bin_mul, wr_u8, wr_u16, wr_u32, wr_u64, IntKind.wrap_i64, List.length_append, List.length_cons, List.length_nil, List.nil_append, List.append_nil, List.cons_append, lvals, List.length_replicate, List.length_set, linV_val hu, Int.add_zero, Int.zero_add, Int.mul_one, Int.sub_zero, Int.zero_mul, Bool.true_eq_false, false_and, and_false, true_and, and_true, List.all_cons, List.all_nil, id_eq, Bool.and_true]) <;> (try simp only [Int.ofNat_eq_natCast]) <;> omega))
  all_goals
    subst hR
    refine Weak.of (⟨rfl, rfl⟩) ?_ ?_ (by rfl)
    all_goals ((conv => cbv); repeat' (first | exact True.intro | with_reducible rfl | (with_reducible exact fun h => h) | (with_reducible refine And.intro ?_ ?_)))
theorem number1 {tt : TypeId} (bs : List Int) (o k w : Int) (hB : Bytes bs) (h0 : 0 ≤ o ∧ 0 ≤ k ∧ o + k = bs.length ∧ o + k ≤ 1024) (hw : w = 1) : Ctr Tryd.prog 29 [.cells 64 [.sl 1 (.sym o) (.sym k), .int .i64 (.sym o), .nilif], .cols .ro tt [.ints .u8 (.sym bs)]] [.ptr 0 ⟨.lit 0, 1, 0⟩, .int .i64 (.sym w)] fun v H =>
    (∃ p z, (k < 1 ∧ p = o + k ∧ z = 0) ∧ v = .int .i64 (.sym z) ∧ H = [.cells 64 [.sl 1 (.sym o) (.sym k), .int .i64 (.sym o), .iface 68 (.ptr 2 ⟨.lit 0, 1, 0⟩)], .cols .ro tt [.ints .u8 (.sym bs)], .cells 71 [.int .i64 (.sym p), .iface 54 (.int .i64 (.sym 6))]]) ∨
    (∃ x o' k', (1 ≤ k ∧ x = bs.getD o.toNat 0 ∧ o' = o + 1 ∧ k' = k - 1) ∧ v = .int .i64 (.sym x) ∧ H = [.cells 64 [.sl 1 (.sym o') (.sym k'), .int .i64 (.sym o'), .nilif], .cols .ro tt [.ints .u8 (.sym bs)]]) := by
  have hb0 := hB.get o.toNat
  have hb1 := hB.get (o + 1).toNat
  have z0 := or2z hb0
  have z1 := or2 hb0 hb1
  obtain ⟨b0, e0⟩ : ∃ x, bs.getD o.toNat 0 = x := ⟨_, rfl⟩
  obtain ⟨b1, e1⟩ : ∃ x, bs.getD (o + 1).toNat 0 = x := ⟨_, rfl⟩
  have e1' : bs.getD (1 + o).toNat 0 = b1 := by rw [Int.add_comm]; exact e1
  rw [e0] at hb0 z0 z1
  rw [e1] at hb1 z1
  have y0 : (b0 + 9223372036854775808) % 18446744073709551616 - 9223372036854775808 = b0 := by omega
  have y1 : (b1 + 9223372036854775808) % 18446744073709551616 - 9223372036854775808 = b1 := by omega
  have x0 : binI .or .i64 0 b0 = b0 := z0
  obtain ⟨uI, uB, uS, uL, uT, hu⟩ := words
  have hm := mixed
  have hT := tabOk
  have hTk := @take_ctr
  have hW := @wrong_ctr
  obtain ⟨P, hP⟩ : ∃ P, P = Tryd.prog := ⟨_, rfl⟩
  rw [← hP] at hm hT hTk hW ⊢
  refine Ctr.weak (ctr_of_vc hu hm hT (hP ▸ Tryd.func29) rfl (by kernel_rfl) ?_)
  clear hP hm hT
  generalize hR : Weak _ _ = R
  conv => cbv
  repeat' (first | ((with_reducible intro (h : _ = _)); (try subst h); (try simp only [hu.b, hu.i, iB, iI, cmpB, ivs, ivl, lrs, lrl, trs, trl, decide_eq_true_eq, decide_eq_false_iff_not, beq_iff_eq, beq_eq_false_iff_ne, ne_eq, ofN, Int.toNat_zero, Int.toNat_one, Int.reduceToNat, natc, hu.s, iS, svs, svl, true_iff, false_iff, Bool.false_eq_true, bne_iff_ne, bne_eq_false_iff_eq, Bool.not_eq_true', Bool.not_eq_false', Decidable.not_not, nil_toList, ByteArray.size_empty, nilS, not_true_eq_false, not_false_eq_true, hu.l, iL, hu.t, iT, bin_add, bin_sub, bin_mul, wr_u8, wr_u16, wr_u32, wr_u64, IntKind.wrap_i64, List.length_append, List.length_cons, List.length_nil, List.nil_append, List.append_nil, List.cons_append, lvals, List.length_replicate, List.length_set, linV_val hu, Int.add_zero, Int.zero_add, Int.mul_one, Int.sub_zero, Int.zero_mul, Bool.true_eq_false, false_and, and_false, true_and, and_true, List.all_cons, List.all_nil, id_eq, Bool.and_true, z0, z1, e0, e1, e1'] at h) <;> (try simp only [Int.ofNat_eq_natCast] at h) <;> (first | (have hF0 : False := by omega; exact hF0.elim) | (conv => cbv))) | (with_reducible refine And.intro ?_ ?_) | (refine CallVC.mk (Ctr.monoR ?_ (hTk _ _ _ _ ?_ ?_)); ((rintro v H (⟨h1, rfl, rfl⟩ | ⟨o', k', h1, rfl, rfl⟩)) <;> (try simp only [hu.b, hu.i, iB, iI, cmpB, ivs, ivl, lrs, lrl, trs, trl, decide_eq_true_eq, decide_eq_false_iff_not, beq_iff_eq, beq_eq_false_iff_ne, ne_eq, ofN, Int.toNat_zero, Int.toNat_one, Int.reduceToNat, natc, hu.s, iS, svs, svl, true_iff, false_iff, Bool.false_eq_true, bne_iff_ne, bne_eq_false_iff_eq, Bool.not_eq_true', Bool.not_eq_false', Decidable.not_not, nil_toList, ByteArray.size_empty, nilS, not_true_eq_false, not_false_eq_true, hu.l, iL, hu.t, iT, bin_add, bin_sub, bin_mul, wr_u8, wr_u16, wr_u32, wr_u64, IntKind.wrap_i64, List.length_append, List.length_cons, List.length_nil, List.nil_append, List.append_nil, List.cons_append, lvals, List.length_replicate, List.length_set, linV_val hu, Int.add_zero, Int.zero_add, Int.mul_one, Int.sub_zero, Int.zero_mul, Bool.true_eq_false, false_and, and_false, true_and, and_true, List.all_cons, List.all_nil, id_eq, Bool.and_true, z0, z1, e0, e1, e1'] at h1) <;> (try simp only [hu.b, hu.i, iB, iI, cmpB, ivs, ivl, lrs, lrl, trs, trl, decide_eq_true_eq, decide_eq_false_iff_not, beq_iff_eq, beq_eq_false_iff_ne, ne_eq, ofN, Int.toNat_zero, Int.toNat_one, Int.reduceToNat, natc, hu.s, iS, svs, svl, true_iff, false_iff, Bool.false_eq_true, bne_iff_ne, bne_eq_false_iff_eq, Bool.not_eq_true', Bool.not_eq_false', Decidable.not_not, nil_toList, ByteArray.size_empty, nilS, not_true_eq_false, not_false_eq_true, hu.l, iL, hu.t, iT, bin_add, bin_sub, bin_mul, wr_u8, wr_u16, wr_u32, wr_u64, IntKind.wrap_i64, List.length_append, List.length_cons, List.length_nil, List.nil_append, List.append_nil, List.cons_append, lvals, List.length_replicate, List.length_set, linV_val hu, Int.add_zero, Int.zero_add, Int.mul_one, Int.sub_zero, Int.zero_mul, Bool.true_eq_false, false_and, and_false, true_and, and_true, List.all_cons, List.all_nil, id_eq, Bool.and_true, z0, z1, e0, e1, e1'] at h1) <;> (try simp only [Int.ofNat_eq_natCast] at h1) <;> (try simp only [Int.ofNat_eq_natCast] at h1) <;> (first | (have hF0 : False := by omega; exact hF0.elim) | (conv => cbv)))) | (first | (refine CallDet.mkR ?_ (hW _ _ _ _)) | (refine CallVC.mkR ?_ (hW _ _ _ _))) | (refine Gen0.mk ?_; (conv => cbv)) | (with_reducible refine Pick.view ?_; (conv => cbv)) | (simp only [hu.b, hu.i, iB, iI, cmpB, ivs, ivl, lrs, lrl, trs, trl, decide_eq_true_eq, decide_eq_false_iff_not, beq_iff_eq, beq_eq_false_iff_ne, ne_eq, ofN, Int.toNat_zero, Int.toNat_one, Int.reduceToNat, natc, hu.s, iS, svs, svl, true_iff, false_iff, Bool.false_eq_true, bne_iff_ne, bne_eq_false_iff_eq, Bool.not_eq_true', Bool.not_eq_false', Decidable.not_not, nil_toList, ByteArray.size_empty, nilS, not_true_eq_false, not_false_eq_true, hu.l, iL, hu.t, iT, bin_add, bin_sub, bin_mul, wr_u8, wr_u16, wr_u32, wr_u64, IntKind.wrap_i64, List.length_append, List.length_cons, List.length_nil, List.nil_append, List.append_nil, List.cons_append, lvals, List.length_replicate, List.length_set, linV_val hu, Int.add_zero, Int.zero_add, Int.mul_one, Int.sub_zero, Int.zero_mul, Bool.true_eq_false, false_and, and_false, true_and, and_true, List.all_cons, List.all_nil, id_eq, Bool.and_true, z0, z1, e0, e1, e1']; (try simp only [Int.ofNat_eq_natCast]); done) | ((try simp only [hu.b, hu.i, iB, iI, cmpB, ivs, ivl, lrs, lrl, trs, trl, decide_eq_true_eq, decide_eq_false_iff_not, beq_iff_eq, beq_eq_false_iff_ne, ne_eq, ofN, Int.toNat_zero, Int.toNat_one, Int.reduceToNat, natc, hu.s, iS, svs, svl, true_iff, false_iff, Bool.false_eq_true, bne_iff_ne, bne_eq_false_iff_eq, Bool.not_eq_true', Bool.not_eq_false', Decidable.not_not, nil_toList, ByteArray.size_empty, nilS, not_true_eq_false, not_false_eq_true, hu.l, iL, hu.t, iT, bin_add, bin_sub, bin_mul, wr_u8, wr_u16, wr_u32, wr_u64, IntKind.wrap_i64, List.length_append, List.length_cons, List.length_nil, List.nil_append, List.append_nil, List.cons_append, lvals, List.length_replicate, List.length_set, linV_val hu, Int.add_zero, Int.zero_add, Int.mul_one, Int.sub_zero, Int.zero_mul, Bool.true_eq_false, false_and, and_false, true_and, and_true, List.all_cons, List.all_nil, id_eq, Bool.and_true, z0, z1, e0, e1, e1']) <;> (try simp only [Int.ofNat_eq_natCast]) <;> omega))
  · obtain ⟨z, ez⟩ : ∃ x : Int, x = 0 := ⟨_, rfl⟩
    obtain ⟨p, ep⟩ : ∃ x : Int, x = o + k := ⟨_, rfl⟩
    have hk : k < 1 := by omega
    subst hR
    refine Weak.of ((.inl ⟨p, z, ⟨hk, ep, ez⟩, rfl, rfl⟩)) ?_ ?_ (by rfl)
    all_goals ((conv => cbv); repeat' (first | exact True.intro | with_reducible rfl | (with_reducible exact fun h => h) | (with_reducible refine And.intro ?_ ?_)))
    all_goals first | exact ez.symm | skip
    all_goals
      ((try simp only [hu.b, hu.i, iB, iI, cmpB, ivs, ivl, lrs, lrl, trs, trl, decide_eq_true_eq, decide_eq_false_iff_not, beq_iff_eq, beq_eq_false_iff_ne, ne_eq, ofN, Int.toNat_zero, Int.toNat_one, Int.reduceToNat, natc, hu.s, iS, svs, svl, true_iff, false_iff, Bool.false_eq_true, bne_iff_ne, bne_eq_false_iff_eq, Bool.not_eq_true', Bool.not_eq_false', Decidable.not_not, nil_toList, ByteArray.size_empty, nilS, not_true_eq_false, not_false_eq_true, hu.l, iL, hu.t, iT, bin_add, bin_sub, bin_mul, wr_u8, wr_u16, wr_u32, wr_u64, IntKind.wrap_i64, List.length_append, List.length_cons, List.length_nil, List.nil_append, List.append_nil, List.cons_append, lvals, List.length_replicate, List.length_set, linV_val hu, Int.add_zero, Int.zero_add, Int.mul_one, Int.sub_zero, Int.zero_mul, Bool.true_eq_false, false_and, and_false, true_and, and_true, List.all_cons, List.all_nil, id_eq, Bool.and_true]) <;> (try simp only [Int.ofNat_eq_natCast]) <;> (try omega))
  · refine .unroll 2 ?_
    conv => cbv
    repeat' (first | ((with_reducible intro (h : _ = _)); (try subst h); (try simp only [hu.b, hu.i, iB, iI, cmpB, ivs, ivl, lrs, lrl, trs, trl, decide_eq_true_eq, decide_eq_false_iff_not, beq_iff_eq, beq_eq_false_iff_ne, ne_eq, ofN, Int.toNat_zero, Int.toNat_one, Int.reduceToNat, natc, hu.s, iS, svs, svl, true_iff, false_iff, Bool.false_eq_true, bne_iff_ne, bne_eq_false_iff_eq, Bool.not_eq_true', Bool.not_eq_false', Decidable.not_not, nil_toList, ByteArray.size_empty, nilS, not_true_eq_false, not_false_eq_true, hu.l, iL, hu.t, iT, bin_add, bin_sub, bin_mul, wr_u8, wr_u16, wr_u32, wr_u64, IntKind.wrap_i64, List.length_append, List.length_cons, List.length_nil, List.nil_append, List.append_nil, List.cons_append, lvals, List.length_replicate, List.length_set, linV_val hu, Int.add_zero, Int.zero_add, Int.mul_one, Int.sub_zero, Int.zero_mul, Bool.true_eq_false, false_and, and_false, true_and, and_true, List.all_cons, List.all_nil, id_eq, Bool.and_true, z0, z1, e0, e1, e1'] at h) <;> (try simp only [Int.ofNat_eq_natCast] at h) <;> (first | (have hF0 : False := by omega; exact hF0.elim) | (conv => cbv))) | (with_reducible refine And.intro ?_ ?_) | (refine Gen0.mk ?_; (conv => cbv)) | (with_reducible refine Pick.view ?_; (conv => cbv)) | (simp only [hu.b, hu.i, iB, iI, cmpB, ivs, ivl, lrs, lrl, trs, trl, decide_eq_true_eq, decide_eq_false_iff_not, beq_iff_eq, beq_eq_false_iff_ne, ne_eq, ofN, Int.toNat_zero, Int.toNat_one, Int.reduceToNat, natc, hu.s, iS, svs, svl, true_iff, false_iff, Bool.false_eq_true, bne_iff_ne, bne_eq_false_iff_eq, Bool.not_eq_true', Bool.not_eq_false', Decidable.not_not, nil_toList, ByteArray.size_empty, nilS, not_true_eq_false, not_false_eq_true, hu.l, iL, hu.t, iT, bin_add, bin_sub, bin_mul, wr_u8, wr_u16, wr_u32, wr_u64, IntKind.wrap_i64, List.length_append, List.length_cons, List.length_nil, List.nil_append, List.append_nil, List.cons_append, lvals, List.length_replicate, List.length_set, linV_val hu, Int.add_zero, Int.zero_add, Int.mul_one, Int.sub_zero, Int.zero_mul, Bool.true_eq_false, false_and, and_false, true_and, and_true, List.all_cons, List.all_nil, id_eq, Bool.and_true, z0, z1, e0, e1, e1']; (try simp only [Int.ofNat_eq_natCast]); done) | ((try simp only [hu.b, hu.i, iB, iI, cmpB, ivs, ivl, lrs, lrl, trs, trl, decide_eq_true_eq, decide_eq_false_iff_not, beq_iff_eq, beq_eq_false_iff_ne, ne_eq, ofN, Int.toNat_zero, Int.toNat_one, Int.reduceToNat, natc, hu.s, iS, svs, svl, true_iff, false_iff, Bool.false_eq_true, bne_iff_ne, bne_eq_false_iff_eq, Bool.not_eq_true', Bool.not_eq_false', Decidable.not_not, nil_toList, ByteArray.size_empty, nilS, not_true_eq_false, not_false_eq_true, hu.l, iL, hu.t, iT, bin_add, bin_sub, bin_mul, wr_u8, wr_u16, wr_u32, wr_u64, IntKind.wrap_i64, List.length_append, List.length_cons, List.length_nil, List.nil_append, List.append_nil, List.cons_append, lvals, List.length_replicate, List.length_set, linV_val hu, Int.add_zero, Int.zero_add, Int.mul_one, Int.sub_zero, Int.zero_mul, Bool.true_eq_false, false_and, and_false, true_and, and_true, List.all_cons, List.all_nil, id_eq, Bool.and_true, z0, z1, e0, e1, e1']) <;> (try simp only [Int.ofNat_eq_natCast]) <;> omega))
    obtain ⟨z, ez⟩ : ∃ x : Int, x = b0 := ⟨_, rfl⟩
    have hf : 1 ≤ k ∧ z = bs.getD o.toNat 0 ∧ o' = o + 1 ∧ k' = k - 1 := ⟨by omega, by rw [ez, e0], by omega, by omega⟩
    subst hR
    refine Weak.of ((.inr ⟨z, o', k', hf, rfl, rfl⟩)) ?_ ?_ (by rfl)
    all_goals ((conv => cbv); repeat' (first | exact True.intro | with_reducible rfl | (with_reducible exact fun h => h) | (with_reducible refine And.intro ?_ ?_)))
    all_goals
      ((try simp only [hu.b, hu.i, iB, iI, cmpB, ivs, ivl, lrs, lrl, trs, trl, decide_eq_true_eq, decide_eq_false_iff_not, beq_iff_eq, beq_eq_false_iff_ne, ne_eq, ofN, Int.toNat_zero, Int.toNat_one, Int.reduceToNat, natc, hu.s, iS, svs, svl, true_iff, false_iff, Bool.false_eq_true, bne_iff_ne, bne_eq_false_iff_eq, Bool.not_eq_true', Bool.not_eq_false', Decidable.not_not, nil_toList, ByteArray.size_empty, nilS, not_true_eq_false, not_false_eq_true, hu.l, iL, hu.t, iT, bin_add, bin_sub, bin_mul, wr_u8, wr_u16, wr_u32, wr_u64, IntKind.wrap_i64, List.length_append, List.length_cons, List.length_nil, List.nil_append, List.append_nil, List.cons_append, lvals, List.length_replicate, List.length_set, linV_val hu, Int.add_zero, Int.zero_add, Int.mul_one, Int.sub_zero, Int.zero_mul, Bool.true_eq_false, false_and, and_false, true_and, and_true, List.all_cons, List.all_nil, id_eq, Bool.and_true, e0, e1, e1', y0, y1, x0, z0, z1]) <;> (try simp only [Int.ofNat_eq_natCast]) <;> (try omega))
    all_goals exact ez.symm
theorem number2 {tt : TypeId} (bs : List Int) (o k w : Int) (hB : Bytes bs) (h0 : 0 ≤ o ∧ 0 ≤ k ∧ o + k = bs.length ∧ o + k ≤ 1024) (hw : w = 2) : Ctr Tryd.prog 29 [.cells 64 [.sl 1 (.sym o) (.sym k), .int .i64 (.sym o), .nilif], .cols .ro tt [.ints .u8 (.sym bs)]] [.ptr 0 ⟨.lit 0, 1, 0⟩, .int .i64 (.sym w)] fun v H =>
    (∃ p z, (k < 2 ∧ p = o + k ∧ z = 0) ∧ v = .int .i64 (.sym z) ∧ H = [.cells 64 [.sl 1 (.sym o) (.sym k), .int .i64 (.sym o), .iface 68 (.ptr 2 ⟨.lit 0, 1, 0⟩)], .cols .ro tt [.ints .u8 (.sym bs)], .cells 71 [.int .i64 (.sym p), .iface 54 (.int .i64 (.sym 6))]]) ∨
    (∃ x o' k', (2 ≤ k ∧ x = 256 * bs.getD o.toNat 0 + bs.getD (o + 1).toNat 0 ∧ o' = o + 2 ∧ k' = k - 2) ∧ v = .int .i64 (.sym x) ∧ H = [.cells 64 [.sl 1 (.sym o') (.sym k'), .int .i64 (.sym o'), .nilif], .cols .ro tt [.ints .u8 (.sym bs)]]) := by
  have hb0 := hB.get o.toNat
  have hb1 := hB.get (o + 1).toNat
  have z0 := or2z hb0
  have z1 := or2 hb0 hb1
  obtain ⟨b0, e0⟩ : ∃ x, bs.getD o.toNat 0 = x := ⟨_, rfl⟩
  obtain ⟨b1, e1⟩ : ∃ x, bs.getD (o + 1).toNat 0 = x := ⟨_, rfl⟩
  have e1' : bs.getD (1 + o).toNat 0 = b1 := by rw [Int.add_comm]; exact e1
  rw [e0] at hb0 z0 z1
  rw [e1] at hb1 z1
  have y0 : (b0 + 9223372036854775808) % 18446744073709551616 - 9223372036854775808 = b0 := by omega
  have y1 : (b1 + 9223372036854775808) % 18446744073709551616 - 9223372036854775808 = b1 := by omega
  have x0 : binI .or .i64 0 b0 = b0 := z0
  obtain ⟨uI, uB, uS, uL, uT, hu⟩ := words
  have hm := mixed
  have hT := tabOk
  have hTk := @take_ctr
  have hW := @wrong_ctr
  obtain ⟨P, hP⟩ : ∃ P, P = Tryd.prog := ⟨_, rfl⟩
  rw [← hP] at hm hT hTk hW ⊢
  refine Ctr.weak (ctr_of_vc hu hm hT (hP ▸ Tryd.func29) rfl (by kernel_rfl) ?_)
  clear hP hm hT
  generalize hR : Weak _ _ = R
  conv => cbv
  repeat' (first | ((with_reducible intro (h : _ = _)); (try subst h); (try simp only [hu.b, hu.i, iB, iI, cmpB, ivs, ivl, lrs, lrl, trs, trl, decide_eq_true_eq, decide_eq_false_iff_not, beq_iff_eq, beq_eq_false_iff_ne, ne_eq, ofN, Int.toNat_zero, Int.toNat_one, Int.reduceToNat, natc, hu.s, iS, svs, svl, true_iff, false_iff, Bool.false_eq_true, bne_iff_ne, bne_eq_false_iff_eq, Bool.not_eq_true', Bool.not_eq_false', Decidable.not_not, nil_toList, ByteArray.size_empty, nilS, not_true_eq_false, not_false_eq_true, hu.l, iL, hu.t, iT, bin_add, bin_sub, bin_mul, wr_u8, wr_u16, wr_u32, wr_u64, IntKind.wrap_i64, List.length_append, List.length_cons, List.length_nil, List.nil_append, List.append_nil, List.cons_append, lvals, List.length_replicate, List.length_set, linV_val hu, Int.add_zero, Int.zero_add, Int.mul_one, Int.sub_zero, Int.zero_mul, Bool.true_eq_false, false_and, and_false, true_and, and_true, List.all_cons, List.all_nil, id_eq, Bool.and_true, z0, z1, e0, e1, e1'] at h) <;> (try simp only [Int.ofNat_eq_natCast] at h) <;> (first | (have hF0 : False := by omega; exact hF0.elim) | (conv => cbv))) | (with_reducible refine And.intro ?_ ?_) | (refine CallVC.mk (Ctr.monoR ?_ (hTk _ _ _ _ ?_ ?_)); ((rintro v H (⟨h1, rfl, rfl⟩ | ⟨o', k', h1, rfl, rfl⟩)) <;> (try simp only [hu.b, hu.i, iB, iI, cmpB, ivs, ivl, lrs, lrl, trs, trl, decide_eq_true_eq, decide_eq_false_iff_not, beq_iff_eq, beq_eq_false_iff_ne, ne_eq, ofN, Int.toNat_zero, Int.toNat_one, Int.reduceToNat, natc, hu.s, iS, svs, svl, true_iff, false_iff, Bool.false_eq_true, bne_iff_ne, bne_eq_false_iff_eq, Bool.not_eq_true', Bool.not_eq_false', Decidable.not_not, nil_toList, ByteArray.size_empty, nilS, not_true_eq_false, not_false_eq_true, hu.l, iL, hu.t, iT, bin_add, bin_sub, bin_mul, wr_u8, wr_u16, wr_u32, wr_u64, IntKind.wrap_i64, List.length_append, List.length_cons, List.length_nil, List.nil_append, List.append_nil, List.cons_append, lvals, List.length_replicate, List.length_set, linV_val hu, Int.add_zero, Int.zero_add, Int.mul_one, Int.sub_zero, Int.zero_mul, Bool.true_eq_false, false_and, and_false, true_and, and_true, List.all_cons, List.all_nil, id_eq, Bool.and_true, z0, z1, e0, e1, e1'] at h1) <;> (try simp only [hu.b, hu.i, iB, iI, cmpB, ivs, ivl, lrs, lrl, trs, trl, decide_eq_true_eq, decide_eq_false_iff_not, beq_iff_eq, beq_eq_false_iff_ne, ne_eq, ofN, Int.toNat_zero, Int.toNat_one, Int.reduceToNat, natc, hu.s, iS, svs, svl, true_iff, false_iff, Bool.false_eq_true, bne_iff_ne, bne_eq_false_iff_eq, Bool.not_eq_true', Bool.not_eq_false', Decidable.not_not, nil_toList, ByteArray.size_empty, nilS, not_true_eq_false, not_false_eq_true, hu.l, iL, hu.t, iT, bin_add, bin_sub, bin_mul, wr_u8, wr_u16, wr_u32, wr_u64, IntKind.wrap_i64, List.length_append, List.length_cons, List.length_nil, List.nil_append, List.append_nil, List.cons_append, lvals, List.length_replicate, List.length_set, linV_val hu, Int.add_zero, Int.zero_add, Int.mul_one, Int.sub_zero, Int.zero_mul, Bool.true_eq_false, false_and, and_false, true_and, and_true, List.all_cons, List.all_nil, id_eq, Bool.and_true, z0, z1, e0, e1, e1'] at h1) <;> (try simp only [Int.ofNat_eq_natCast] at h1) <;> (try simp only [Int.ofNat_eq_natCast] at h1) <;> (first | (have hF0 : False := by omega; exact hF0.elim) | (conv => cbv)))) | (first | (refine CallDet.mkR ?_ (hW _ _ _ _)) | (refine CallVC.mkR ?_ (hW _ _ _ _))) | (refine Gen0.mk ?_; (conv => cbv)) | (with_reducible refine Pick.view ?_; (conv => cbv)) | (simp only [hu.b, hu.i, iB, iI, cmpB, ivs, ivl, lrs, lrl, trs, trl, decide_eq_true_eq, decide_eq_false_iff_not, beq_iff_eq, beq_eq_false_iff_ne, ne_eq, ofN, Int.toNat_zero, Int.toNat_one, Int.reduceToNat, natc, hu.s, iS, svs, svl, true_iff, false_iff, Bool.false_eq_true, bne_iff_ne, bne_eq_false_iff_eq, Bool.not_eq_true', Bool.not_eq_false', Decidable.not_not, nil_toList, ByteArray.size_empty, nilS, not_true_eq_false, not_false_eq_true, hu.l, iL, hu.t, iT, bin_add, bin_sub, bin_mul, wr_u8, wr_u16, wr_u32, wr_u64, IntKind.wrap_i64, List.length_append, List.length_cons, List.length_nil, List.nil_append, List.append_nil, List.cons_append, lvals, List.length_replicate, List.length_set, linV_val hu, Int.add_zero, Int.zero_add, Int.mul_one, Int.sub_zero, Int.zero_mul, Bool.true_eq_false, false_and, and_false, true_and, and_true, List.all_cons, List.all_nil, id_eq, Bool.and_true, z0, z1, e0, e1, e1']; (try simp only [Int.ofNat_eq_natCast]); done) | ((try simp only [hu.b, hu.i, iB, iI, cmpB, ivs, ivl, lrs, lrl, trs, trl, decide_eq_true_eq, decide_eq_false_iff_not, beq_iff_eq, beq_eq_false_iff_ne, ne_eq, ofN, Int.toNat_zero, Int.toNat_one, Int.reduceToNat, natc, hu.s, iS, svs, svl, true_iff, false_iff, Bool.false_eq_true, bne_iff_ne, bne_eq_false_iff_eq, Bool.not_eq_true', Bool.not_eq_false', Decidable.not_not, nil_toList, ByteArray.size_empty, nilS, not_true_eq_false, not_false_eq_true, hu.l, iL, hu.t, iT, bin_add, bin_sub, bin_mul, wr_u8, wr_u16, wr_u32, wr_u64, IntKind.wrap_i64, List.length_append, List.length_cons, List.length_nil, List.nil_append, List.append_nil, List.cons_append, lvals, List.length_replicate, List.length_set, linV_val hu, Int.add_zero, Int.zero_add, Int.mul_one, Int.sub_zero, Int.zero_mul, Bool.true_eq_false, false_and, and_false, true_and, and_true, List.all_cons, List.all_nil, id_eq, Bool.and_true, z0, z1, e0, e1, e1']) <;> (try simp only [Int.ofNat_eq_natCast]) <;> omega))
  · obtain ⟨z, ez⟩ : ∃ x : Int, x = 0 := ⟨_, rfl⟩
    obtain ⟨p, ep⟩ : ∃ x : Int, x = o + k := ⟨_, rfl⟩
    have hk : k < 2 := by omega
    subst hR
    refine Weak.of ((.inl ⟨p, z, ⟨hk, ep, ez⟩, rfl, rfl⟩)) ?_ ?_ (by rfl)
    all_goals ((conv => cbv); repeat' (first | exact True.intro | with_reducible rfl | (with_reducible exact fun h => h) | (with_reducible refine And.intro ?_ ?_)))
    all_goals first | exact ez.symm | skip
    all_goals
      ((try simp only [hu.b, hu.i, iB, iI, cmpB, ivs, ivl, lrs, lrl, trs, trl, decide_eq_true_eq, decide_eq_false_iff_not, beq_iff_eq, beq_eq_false_iff_ne, ne_eq, ofN, Int.toNat_zero, Int.toNat_one, Int.reduceToNat, natc, hu.s, iS, svs, svl, true_iff, false_iff, Bool.false_eq_true, bne_iff_ne, bne_eq_false_iff_eq, Bool.not_eq_true', Bool.not_eq_false', Decidable.not_not, nil_toList, ByteArray.size_empty, nilS, not_true_eq_false, not_false_eq_true, hu.l, iL, hu.t, iT, bin_add, bin_sub, bin_mul, wr_u8, wr_u16, wr_u32, wr_u64, IntKind.wrap_i64, List.length_append, List.length_cons, List.length_nil, List.nil_append, List.append_nil, List.cons_append, lvals, List.length_replicate, List.length_set, linV_val hu, Int.add_zero, Int.zero_add, Int.mul_one, Int.sub_zero, Int.zero_mul, Bool.true_eq_false, false_and, and_false, true_and, and_true, List.all_cons, List.all_nil, id_eq, Bool.and_true]) <;> (try simp only [Int.ofNat_eq_natCast]) <;> (try omega))
  · refine .unroll 3 ?_
    conv => cbv
    repeat' (first | ((with_reducible intro (h : _ = _)); (try subst h); (try simp only [hu.b, hu.i, iB, iI, cmpB, ivs, ivl, lrs, lrl, trs, trl, decide_eq_true_eq, decide_eq_false_iff_not, beq_iff_eq, beq_eq_false_iff_ne, ne_eq, ofN, Int.toNat_zero, Int.toNat_one, Int.reduceToNat, natc, hu.s, iS, svs, svl, true_iff, false_iff, Bool.false_eq_true, bne_iff_ne, bne_eq_false_iff_eq, Bool.not_eq_true', Bool.not_eq_false', Decidable.not_not, nil_toList, ByteArray.size_empty, nilS, not_true_eq_false, not_false_eq_true, hu.l, iL, hu.t, iT, bin_add, bin_sub, bin_mul, wr_u8, wr_u16, wr_u32, wr_u64, IntKind.wrap_i64, List.length_append, List.length_cons, List.length_nil, List.nil_append, List.append_nil, List.cons_append, lvals, List.length_replicate, List.length_set, linV_val hu, Int.add_zero, Int.zero_add, Int.mul_one, Int.sub_zero, Int.zero_mul, Bool.true_eq_false, false_and, and_false, true_and, and_true, List.all_cons, List.all_nil, id_eq, Bool.and_true, z0, z1, e0, e1, e1'] at h) <;> (try simp only [Int.ofNat_eq_natCast] at h) <;> (first | (have hF0 : False := by omega; exact hF0.elim) | (conv => cbv))) | (with_reducible refine And.intro ?_ ?_) | (refine Gen0.mk ?_; (conv => cbv)) | (with_reducible refine Pick.view ?_; (conv => cbv)) | (simp only [hu.b, hu.i, iB, iI, cmpB, ivs, ivl, lrs, lrl, trs, trl, decide_eq_true_eq, decide_eq_false_iff_not, beq_iff_eq, beq_eq_false_iff_ne, ne_eq, ofN, Int.toNat_zero, Int.toNat_one, Int.reduceToNat, natc, hu.s, iS, svs, svl, true_iff, false_iff, Bool.false_eq_true, bne_iff_ne, bne_eq_false_iff_eq, Bool.not_eq_true', Bool.not_eq_false', Decidable.not_not, nil_toList, ByteArray.size_empty, nilS, not_true_eq_false, not_false_eq_true, hu.l, iL, hu.t, iT, bin_add, bin_sub, bin_mul, wr_u8, wr_u16, wr_u32, wr_u64, IntKind.wrap_i64, List.length_append, List.length_cons, List.length_nil, List.nil_append, List.append_nil, List.cons_append, lvals, List.length_replicate, List.length_set, linV_val hu, Int.add_zero, Int.zero_add, Int.mul_one, Int.sub_zero, Int.zero_mul, Bool.true_eq_false, false_and, and_false, true_and, and_true, List.all_cons, List.all_nil, id_eq, Bool.and_true, z0, z1, e0, e1, e1']; (try simp only [Int.ofNat_eq_natCast]); done) | ((try simp only [hu.b, hu.i, iB, iI, cmpB, ivs, ivl, lrs, lrl, trs, trl, decide_eq_true_eq, decide_eq_false_iff_not, beq_iff_eq, beq_eq_false_iff_ne, ne_eq, ofN, Int.toNat_zero, Int.toNat_one, Int.reduceToNat, natc, hu.s, iS, svs, svl, true_iff, false_iff, Bool.false_eq_true, bne_iff_ne, bne_eq_false_iff_eq, Bool.not_eq_true', Bool.not_eq_false', Decidable.not_not, nil_toList, ByteArray.size_empty, nilS, not_true_eq_false, not_false_eq_true, hu.l, iL, hu.t, iT, bin_add, bin_sub, bin_mul, wr_u8, wr_u16, wr_u32, wr_u64, IntKind.wrap_i64, List.length_append, List.length_cons, List.length_nil, List.nil_append, List.append_nil, List.cons_append, lvals, List.length_replicate, List.length_set, linV_val hu, Int.add_zero, Int.zero_add, Int.mul_one, Int.sub_zero, Int.zero_mul, Bool.true_eq_false, false_and, and_false, true_and, and_true, List.all_cons, List.all_nil, id_eq, Bool.and_true, z0, z1, e0, e1, e1']) <;> (try simp only [Int.ofNat_eq_natCast]) <;> omega))
    obtain ⟨z, ez⟩ : ∃ x : Int, x = 256 * b0 + b1 := ⟨_, rfl⟩
    have hf : 2 ≤ k ∧ z = 256 * bs.getD o.toNat 0 + bs.getD (o + 1).toNat 0 ∧ o' = o + 2 ∧ k' = k - 2 := ⟨by omega, by rw [ez, e0, e1], by omega, by omega⟩
    subst hR
    refine Weak.of ((.inr ⟨z, o', k', hf, rfl, rfl⟩)) ?_ ?_ (by rfl)
    all_goals ((conv => cbv); repeat' (first | exact True.intro | with_reducible rfl | (with_reducible exact fun h => h) | (with_reducible refine And.intro ?_ ?_)))
    all_goals
      ((try simp only [hu.b, hu.i, iB, iI, cmpB, ivs, ivl, lrs, lrl, trs, trl, decide_eq_true_eq, decide_eq_false_iff_not, beq_iff_eq, beq_eq_false_iff_ne, ne_eq, ofN, Int.toNat_zero, Int.toNat_one, Int.reduceToNat, natc, hu.s, iS, svs, svl, true_iff, false_iff, Bool.false_eq_true, bne_iff_ne, bne_eq_false_iff_eq, Bool.not_eq_true', Bool.not_eq_false', Decidable.not_not, nil_toList, ByteArray.size_empty, nilS, not_true_eq_false, not_false_eq_true, hu.l, iL, hu.t, iT, bin_add, bin_sub, bin_mul, wr_u8, wr_u16, wr_u32, wr_u64, IntKind.wrap_i64, List.length_append, List.length_cons, List.length_nil, List.nil_append, List.append_nil, List.cons_append, lvals, List.length_replicate, List.length_set, linV_val hu, Int.add_zero, Int.zero_add, Int.mul_one, Int.sub_zero, Int.zero_mul, Bool.true_eq_false, false_and, and_false, true_and, and_true, List.all_cons, List.all_nil, id_eq, Bool.and_true, e0, e1, e1', y0, y1, x0, z0, z1]) <;> (try simp only [Int.ofNat_eq_natCast]) <;> (try omega))
    all_goals exact ez.symm
theorem number1_e {tt : TypeId} (bs : List Int) (o k w p : Int) (hB : Bytes bs) (h0 : 0 ≤ o ∧ 0 ≤ k ∧ o + k = bs.length ∧ o + k ≤ 1024) (hw : w = 1) : Ctr Tryd.prog 29 [.cells 64 [.sl 1 (.sym o) (.sym k), .int .i64 (.sym o), .iface 68 (.ptr 2 ⟨.lit 0, 1, 0⟩)], .cols .ro tt [.ints .u8 (.sym bs)], .cells 71 [.int .i64 (.sym p), .iface 54 (.int .i64 (.sym 6))]] [.ptr 0 ⟨.lit 0, 1, 0⟩, .int .i64 (.sym w)] fun v H =>
    ∃ x o' k', (0 ≤ o' ∧ 0 ≤ k' ∧ o' + k' = o + k) ∧ v = .int .i64 (.sym x) ∧ H = [.cells 64 [.sl 1 (.sym o') (.sym k'), .int .i64 (.sym o'), .iface 68 (.ptr 2 ⟨.lit 0, 1, 0⟩)], .cols .ro tt [.ints .u8 (.sym bs)], .cells 71 [.int .i64 (.sym p), .iface 54 (.int .i64 (.sym 6))]] := by
  have hb0 := hB.get o.toNat
  have hb1 := hB.get (o + 1).toNat
  have z0 := or2z hb0
  have z1 := or2 hb0 hb1
  obtain ⟨b0, e0⟩ : ∃ x, bs.getD o.toNat 0 = x := ⟨_, rfl⟩
  obtain ⟨b1, e1⟩ : ∃ x, bs.getD (o + 1).toNat 0 = x := ⟨_, rfl⟩
  have e1' : bs.getD (1 + o).toNat 0 = b1 := by rw [Int.add_comm]; exact e1
  rw [e0] at hb0 z0 z1
  rw [e1] at hb1 z1
  have y0 : (b0 + 9223372036854775808) % 18446744073709551616 - 9223372036854775808 = b0 := by omega
  have y1 : (b1 + 9223372036854775808) % 18446744073709551616 - 9223372036854775808 = b1 := by omega
  have x0 : binI .or .i64 0 b0 = b0 := z0
  obtain ⟨uI, uB, uS, uL, uT, hu⟩ := words
  have hm := mixed
  have hT := tabOk
  have hTk := @take_e
  have hW := @wrong_e
  obtain ⟨P, hP⟩ : ∃ P, P = Tryd.prog := ⟨_, rfl⟩
  rw [← hP] at hm hT hTk hW ⊢
  refine Ctr.weak (ctr_of_vc hu hm hT (hP ▸ Tryd.func29) rfl (by kernel_rfl) ?_)
  clear hP hm hT
  generalize hR : Weak _ _ = R
  conv => cbv
  repeat' (first | ((with_reducible intro (h : _ = _)); (try subst h); (try simp only [hu.b, hu.i, iB, iI, cmpB, ivs, ivl, lrs, lrl, trs, trl, decide_eq_true_eq, decide_eq_false_iff_not, beq_iff_eq, beq_eq_false_iff_ne, ne_eq, ofN, Int.toNat_zero, Int.toNat_one, Int.reduceToNat, natc, hu.s, iS, svs, svl, true_iff, false_iff, Bool.false_eq_true, bne_iff_ne, bne_eq_false_iff_eq, Bool.not_eq_true', Bool.not_eq_false', Decidable.not_not, nil_toList, ByteArray.size_empty, nilS, not_true_eq_false, not_false_eq_true, hu.l, iL, hu.t, iT, bin_add, bin_sub, bin_mul, wr_u8, wr_u16, wr_u32, wr_u64, IntKind.wrap_i64, List.length_append, List.length_cons, List.length_nil, List.nil_append, List.append_nil, List.cons_append, lvals, List.length_replicate, List.length_set, linV_val hu, Int.add_zero, Int.zero_add, Int.mul_one, Int.sub_zero, Int.zero_mul, Bool.true_eq_false, false_and, and_false, true_and, and_true, List.all_cons, List.all_nil, id_eq, Bool.and_true, z0, z1, e0, e1, e1'] at h) <;> (try simp only [Int.ofNat_eq_natCast] at h) <;> (first | (have hF0 : False := by omega; exact hF0.elim) | (conv => cbv))) | (with_reducible refine And.intro ?_ ?_) | (refine CallVC.mk (Ctr.monoR ?_ (hTk _ _ _ _ _ ?_ ?_)); ((rintro v H (⟨h1, rfl, rfl⟩ | ⟨o', k', h1, rfl, rfl⟩)) <;> (try simp only [hu.b, hu.i, iB, iI, cmpB, ivs, ivl, lrs, lrl, trs, trl, decide_eq_true_eq, decide_eq_false_iff_not, beq_iff_eq, beq_eq_false_iff_ne, ne_eq, ofN, Int.toNat_zero, Int.toNat_one, Int.reduceToNat, natc, hu.s, iS, svs, svl, true_iff, false_iff, Bool.false_eq_true, bne_iff_ne, bne_eq_false_iff_eq, Bool.not_eq_true', Bool.not_eq_false', Decidable.not_not, nil_toList, ByteArray.size_empty, nilS, not_true_eq_false, not_false_eq_true, hu.l, iL, hu.t, iT, bin_add, bin_sub, bin_mul, wr_u8, wr_u16, wr_u32, wr_u64, IntKind.wrap_i64, List.length_append, List.length_cons, List.length_nil, List.nil_append, List.append_nil, List.cons_append, lvals, List.length_replicate, List.length_set, linV_val hu, Int.add_zero, Int.zero_add, Int.mul_one, Int.sub_zero, Int.zero_mul, Bool.true_eq_false, false_and, and_false, true_and, and_true, List.all_cons, List.all_nil, id_eq, Bool.and_true, z0, z1, e0, e1, e1'] at h1) <;> (try simp only [hu.b, hu.i, iB, iI, cmpB, ivs, ivl, lrs, lrl, trs, trl, decide_eq_true_eq, decide_eq_false_iff_not, beq_iff_eq, beq_eq_false_iff_ne, ne_eq, ofN, Int.toNat_zero, Int.toNat_one, Int.reduceToNat, natc, hu.s, iS, svs, svl, true_iff, false_iff, Bool.false_eq_true, bne_iff_ne, bne_eq_false_iff_eq, Bool.not_eq_true', Bool.not_eq_false', Decidable.not_not, nil_toList, ByteArray.size_empty, nilS, not_true_eq_false, not_false_eq_true, hu.l, iL, hu.t, iT, bin_add, bin_sub, bin_mul, wr_u8, wr_u16, wr_u32, wr_u64, IntKind.wrap_i64, List.length_append, List.length_cons, List.length_nil, List.nil_append, List.append_nil, List.cons_append, lvals, List.length_replicate, List.length_set, linV_val hu, Int.add_zero, Int.zero_add, Int.mul_one, Int.sub_zero, Int.zero_mul, Bool.true_eq_false, false_and, and_false, true_and, and_true, List.all_cons, List.all_nil, id_eq, Bool.and_true, z0, z1, e0, e1, e1'] at h1) <;> (try simp only [Int.ofNat_eq_natCast] at h1) <;> (try simp only [Int.ofNat_eq_natCast] at h1) <;> (first | (have hF0 : False := by omega; exact hF0.elim) | (conv => cbv)))) | (first | (refine CallDet.mkR ?_ (hW _ _ _ _ _)) | (refine CallVC.mkR ?_ (hW _ _ _ _ _))) | (refine Gen0.mk ?_; (conv => cbv)) | (with_reducible refine Pick.view ?_; (conv => cbv)) | (simp only [hu.b, hu.i, iB, iI, cmpB, ivs, ivl, lrs, lrl, trs, trl, decide_eq_true_eq, decide_eq_false_iff_not, beq_iff_eq, beq_eq_false_iff_ne, ne_eq, ofN, Int.toNat_zero, Int.toNat_one, Int.reduceToNat, natc, hu.s, iS, svs, svl, true_iff, false_iff, Bool.false_eq_true, bne_iff_ne, bne_eq_false_iff_eq, Bool.not_eq_true', Bool.not_eq_false', Decidable.not_not, nil_toList, ByteArray.size_empty, nilS, not_true_eq_false, not_false_eq_true, hu.l, iL, hu.t, iT, bin_add, bin_sub, bin_mul, wr_u8, wr_u16, wr_u32, wr_u64, IntKind.wrap_i64, List.length_append, List.length_cons, List.length_nil, List.nil_append, List.append_nil, List.cons_append, lvals, List.length_replicate, List.length_set, linV_val hu, Int.add_zero, Int.zero_add, Int.mul_one, Int.sub_zero, Int.zero_mul, Bool.true_eq_false, false_and, and_false, true_and, and_true, List.all_cons, List.all_nil, id_eq, Bool.and_true, z0, z1, e0, e1, e1']; (try simp only [Int.ofNat_eq_natCast]); done) | ((try simp only [hu.b, hu.i, iB, iI, cmpB, ivs, ivl, lrs, lrl, trs, trl, decide_eq_true_eq, decide_eq_false_iff_not, beq_iff_eq, beq_eq_false_iff_ne, ne_eq, ofN, Int.toNat_zero, Int.toNat_one, Int.reduceToNat, natc, hu.s, iS, svs, svl, true_iff, false_iff, Bool.false_eq_true, bne_iff_ne, bne_eq_false_iff_eq, Bool.not_eq_true', Bool.not_eq_false', Decidable.not_not, nil_toList, ByteArray.size_empty, nilS, not_true_eq_false, not_false_eq_true, hu.l, iL, hu.t, iT, bin_add, bin_sub, bin_mul, wr_u8, wr_u16, wr_u32, wr_u64, IntKind.wrap_i64, List.length_append, List.length_cons, List.length_nil, List.nil_append, List.append_nil, List.cons_append, lvals, List.length_replicate, List.length_set, linV_val hu, Int.add_zero, Int.zero_add, Int.mul_one, Int.sub_zero, Int.zero_mul, Bool.true_eq_false, false_and, and_false, true_and, and_true, List.all_cons, List.all_nil, id_eq, Bool.and_true, z0, z1, e0, e1, e1']) <;> (try simp only [Int.ofNat_eq_natCast]) <;> omega))
  · obtain ⟨z, ez⟩ : ∃ x : Int, x = 0 := ⟨_, rfl⟩
    subst hR
    refine Weak.of (⟨z, o, k, ⟨h0.1, h0.2.1, rfl⟩, rfl, rfl⟩) ?_ ?_ (by rfl)
    all_goals ((conv => cbv); repeat' (first | exact True.intro | with_reducible rfl | (with_reducible exact fun h => h) | (with_reducible refine And.intro ?_ ?_)))
    all_goals exact ez.symm
  · refine .unroll 2 ?_
    conv => cbv
    repeat' (first | ((with_reducible intro (h : _ = _)); (try subst h); (try simp only [hu.b, hu.i, iB, iI, cmpB, ivs, ivl, lrs, lrl, trs, trl, decide_eq_true_eq, decide_eq_false_iff_not, beq_iff_eq, beq_eq_false_iff_ne, ne_eq, ofN, Int.toNat_zero, Int.toNat_one, Int.reduceToNat, natc, hu.s, iS, svs, svl, true_iff, false_iff, Bool.false_eq_true, bne_iff_ne, bne_eq_false_iff_eq, Bool.not_eq_true', Bool.not_eq_false', Decidable.not_not, nil_toList, ByteArray.size_empty, nilS, not_true_eq_false, not_false_eq_true, hu.l, iL, hu.t, iT, bin_add, bin_sub, bin_mul, wr_u8, wr_u16, wr_u32, wr_u64, IntKind.wrap_i64, List.length_append, List.length_cons, List.length_nil, List.nil_append, List.append_nil, List.cons_append, lvals, List.length_replicate, List.length_set, linV_val hu, Int.add_zero, Int.zero_add, Int.mul_one, Int.sub_zero, Int.zero_mul, Bool.true_eq_false, false_and, and_false, true_and, and_true, List.all_cons, List.all_nil, id_eq, Bool.and_true, z0, z1, e0, e1, e1'] at h) <;> (try simp only [Int.ofNat_eq_natCast] at h) <;> (first | (have hF0 : False := by omega; exact hF0.elim) | (conv => cbv))) | (with_reducible refine And.intro ?_ ?_) | (refine Gen0.mk ?_; (conv => cbv)) | (with_reducible refine Pick.view ?_; (conv => cbv)) | (simp only [hu.b, hu.i, iB, iI, cmpB, ivs, ivl, lrs, lrl, trs, trl, decide_eq_true_eq, decide_eq_false_iff_not, beq_iff_eq, beq_eq_false_iff_ne, ne_eq, ofN, Int.toNat_zero, Int.toNat_one, Int.reduceToNat, natc, hu.s, iS, svs, svl, true_iff, false_iff, Bool.false_eq_true, bne_iff_ne, bne_eq_false_iff_eq, Bool.not_eq_true', Bool.not_eq_false', Decidable.not_not, nil_toList, ByteArray.size_empty, nilS, not_true_eq_false, not_false_eq_true, hu.l, iL, hu.t, iT, bin_add, bin_sub, bin_mul, wr_u8, wr_u16, wr_u32, wr_u64, IntKind.wrap_i64, List.length_append, List.length_cons, List.length_nil, List.nil_append, List.append_nil, List.cons_append, lvals, List.length_replicate, List.length_set, linV_val hu, Int.add_zero, Int.zero_add, Int.mul_one, Int.sub_zero, Int.zero_mul, Bool.true_eq_false, false_and, and_false, true_and, and_true, List.all_cons, List.all_nil, id_eq, Bool.and_true, z0, z1, e0, e1, e1']; (try simp only [Int.ofNat_eq_natCast]); done) | ((try simp only [hu.b, hu.i, iB, iI, cmpB, ivs, ivl, lrs, lrl, trs, trl, decide_eq_true_eq, decide_eq_false_iff_not, beq_iff_eq, beq_eq_false_iff_ne, ne_eq, ofN, Int.toNat_zero, Int.toNat_one, Int.reduceToNat, natc, hu.s, iS, svs, svl, true_iff, false_iff, Bool.false_eq_true, bne_iff_ne, bne_eq_false_iff_eq, Bool.not_eq_true', Bool.not_eq_false', Decidable.not_not, nil_toList, ByteArray.size_empty, nilS, not_true_eq_false, not_false_eq_true, hu.l, iL, hu.t, iT, bin_add, bin_sub, bin_mul, wr_u8, wr_u16, wr_u32, wr_u64, IntKind.wrap_i64, List.length_append, List.length_cons, List.length_nil, List.nil_append, List.append_nil, List.cons_append, lvals, List.length_replicate, List.length_set, linV_val hu, Int.add_zero, Int.zero_add, Int.mul_one, Int.sub_zero, Int.zero_mul, Bool.true_eq_false, false_and, and_false, true_and, and_true, List.all_cons, List.all_nil, id_eq, Bool.and_true, z0, z1, e0, e1, e1']) <;> (try simp only [Int.ofNat_eq_natCast]) <;> omega))
    obtain ⟨z, ez⟩ : ∃ x : Int, x = b0 := ⟨_, rfl⟩
    have hf : 0 ≤ o' ∧ 0 ≤ k' ∧ o' + k' = o + k := by omega
    subst hR
    refine Weak.of (⟨z, o', k', hf, rfl, rfl⟩) ?_ ?_ (by rfl)
    all_goals ((conv => cbv); repeat' (first | exact True.intro | with_reducible rfl | (with_reducible exact fun h => h) | (with_reducible refine And.intro ?_ ?_)))
    all_goals
      ((try simp only [hu.b, hu.i, iB, iI, cmpB, ivs, ivl, lrs, lrl, trs, trl, decide_eq_true_eq, decide_eq_false_iff_not, beq_iff_eq, beq_eq_false_iff_ne, ne_eq, ofN, Int.toNat_zero, Int.toNat_one, Int.reduceToNat, natc, hu.s, iS, svs, svl, true_iff, false_iff, Bool.false_eq_true, bne_iff_ne, bne_eq_false_iff_eq, Bool.not_eq_true', Bool.not_eq_false', Decidable.not_not, nil_toList, ByteArray.size_empty, nilS, not_true_eq_false, not_false_eq_true, hu.l, iL, hu.t, iT, bin_add, bin_sub, bin_mul, wr_u8, wr_u16, wr_u32, wr_u64, IntKind.wrap_i64, List.length_append, List.length_cons, List.length_nil, List.nil_append, List.append_nil, List.cons_append, lvals, List.length_replicate, List.length_set, linV_val hu, Int.add_zero, Int.zero_add, Int.mul_one, Int.sub_zero, Int.zero_mul, Bool.true_eq_false, false_and, and_false, true_and, and_true, List.all_cons, List.all_nil, id_eq, Bool.and_true, e0, e1, e1', y0, y1, x0, z0, z1]) <;> (try simp only [Int.ofNat_eq_natCast]) <;> (try omega))
    all_goals exact ez.symm
theorem number2_e {tt : TypeId} (bs : List Int) (o k w p : Int) (hB : Bytes bs) (h0 : 0 ≤ o ∧ 0 ≤ k ∧ o + k = bs.length ∧ o + k ≤ 1024) (hw : w = 2) : Ctr Tryd.prog 29 [.cells 64 [.sl 1 (.sym o) (.sym k), .int .i64 (.sym o), .iface 68 (.ptr 2 ⟨.lit 0, 1, 0⟩)], .cols .ro tt [.ints .u8 (.sym bs)], .cells 71 [.int .i64 (.sym p), .iface 54 (.int .i64 (.sym 6))]] [.ptr 0 ⟨.lit 0, 1, 0⟩, .int .i64 (.sym w)] fun v H =>
    ∃ x o' k', (0 ≤ o' ∧ 0 ≤ k' ∧ o' + k' = o + k) ∧ v = .int .i64 (.sym x) ∧ H = [.cells 64 [.sl 1 (.sym o') (.sym k'), .int .i64 (.sym o'), .iface 68 (.ptr 2 ⟨.lit 0, 1, 0⟩)], .cols .ro tt [.ints .u8 (.sym bs)], .cells 71 [.int .i64 (.sym p), .iface 54 (.int .i64 (.sym 6))]] := by
  have hb0 := hB.get o.toNat
  have hb1 := hB.get (o + 1).toNat
  have z0 := or2z hb0
  have z1 := or2 hb0 hb1
  obtain ⟨b0, e0⟩ : ∃ x, bs.getD o.toNat 0 = x := ⟨_, rfl⟩
  obtain ⟨b1, e1⟩ : ∃ x, bs.getD (o + 1).toNat 0 = x := ⟨_, rfl⟩
  have e1' : bs.getD (1 + o).toNat 0 = b1 := by rw [Int.add_comm]; exact e1
  rw [e0] at hb0 z0 z1
  rw [e1] at hb1 z1
  have y0 : (b0 + 9223372036854775808) % 18446744073709551616 - 9223372036854775808 = b0 := by omega
  have y1 : (b1 + 9223372036854775808) % 18446744073709551616 - 9223372036854775808 = b1 := by omega
  have x0 : binI .or .i64 0 b0 = b0 := z0
  obtain ⟨uI, uB, uS, uL, uT, hu⟩ := words
  have hm := mixed
  have hT := tabOk
  have hTk := @take_e
  have hW := @wrong_e
  obtain ⟨P, hP⟩ : ∃ P, P = Tryd.prog := ⟨_, rfl⟩
  rw [← hP] at hm hT hTk hW ⊢
  refine Ctr.weak (ctr_of_vc hu hm hT (hP ▸ Tryd.func29) rfl (by kernel_rfl) ?_)
  clear hP hm hT
  generalize hR : Weak _ _ = R
  conv => cbv
  repeat' (first | ((with_reducible intro (h : _ = _)); (try subst h); (try simp only [hu.b, hu.i, iB, iI, cmpB, ivs, ivl, lrs, lrl, trs, trl, decide_eq_true_eq, decide_eq_false_iff_not, beq_iff_eq, beq_eq_false_iff_ne, ne_eq, ofN, Int.toNat_zero, Int.toNat_one, Int.reduceToNat, natc, hu.s, iS, svs, svl, true_iff, false_iff, Bool.false_eq_true, bne_iff_ne, bne_eq_false_iff_eq, Bool.not_eq_true', Bool.not_eq_false', Decidable.not_not, nil_toList, ByteArray.size_empty, nilS, not_true_eq_false, not_false_eq_true, hu.l, iL, hu.t, iT, bin_add, bin_sub, bin_mul, wr_u8, wr_u16, wr_u32, wr_u64, IntKind.wrap_i64, List.length_append, List.length_cons, List.length_nil, List.nil_append, List.append_nil, List.cons_append, lvals, List.length_replicate, List.length_set, linV_val hu, Int.add_zero, Int.zero_add, Int.mul_one, Int.sub_zero, Int.zero_mul, Bool.true_eq_false, false_and, and_false, true_and, and_true, List.all_cons, List.all_nil, id_eq, Bool.and_true, z0, z1, e0, e1, e1'] at h) <;> (try simp only [Int.ofNat_eq_natCast] at h) <;> (first | (have hF0 : False := by omega; exact hF0.elim) | (conv => cbv))) | (with_reducible refine And.intro ?_ ?_) | (refine CallVC.mk (Ctr.monoR ?_ (hTk _ _ _ _ _ ?_ ?_)); ((rintro v H (⟨h1, rfl, rfl⟩ | ⟨o', k', h1, rfl, rfl⟩)) <;> (try simp only [hu.b, hu.i, iB, iI, cmpB, ivs, ivl, lrs, lrl, trs, trl, decide_eq_true_eq, decide_eq_false_iff_not, beq_iff_eq, beq_eq_false_iff_ne, ne_eq, ofN, Int.toNat_zero, Int.toNat_one, Int.reduceToNat, natc, hu.s, iS, svs, svl, true_iff, false_iff, Bool.false_eq_true, bne_iff_ne, bne_eq_false_iff_eq, Bool.not_eq_true', Bool.not_eq_false', Decidable.not_not, nil_toList, ByteArray.size_empty, nilS, not_true_eq_false, not_false_eq_true, hu.l, iL, hu.t, iT, bin_add, bin_sub, bin_mul, wr_u8, wr_u16, wr_u32, wr_u64, IntKind.wrap_i64, List.length_append, List.length_cons, List.length_nil, List.nil_append, List.append_nil, List.cons_append, lvals, List.length_replicate, List.length_set, linV_val hu, Int.add_zero, Int.zero_add, Int.mul_one, Int.sub_zero, Int.zero_mul, Bool.true_eq_false, false_and, and_false, true_and, and_true, List.all_cons, List.all_nil, id_eq, Bool.and_true, z0, z1, e0, e1, e1'] at h1) <;> (try simp only [hu.b, hu.i, iB, iI, cmpB, ivs, ivl, lrs, lrl, trs, trl, decide_eq_true_eq, decide_eq_false_iff_not, beq_iff_eq, beq_eq_false_iff_ne, ne_eq, ofN, Int.toNat_zero, Int.toNat_one, Int.reduceToNat, natc, hu.s, iS, svs, svl, true_iff, false_iff, Bool.false_eq_true, bne_iff_ne, bne_eq_false_iff_eq, Bool.not_eq_true', Bool.not_eq_false', Decidable.not_not, nil_toList, ByteArray.size_empty, nilS, not_true_eq_false, not_false_eq_true, hu.l, iL, hu.t, iT, bin_add, bin_sub, bin_mul, wr_u8, wr_u16, wr_u32, wr_u64, IntKind.wrap_i64, List.length_append, List.length_cons, List.length_nil, List.nil_append, List.append_nil, List.cons_append, lvals, List.length_replicate, List.length_set, linV_val hu, Int.add_zero, Int.zero_add, Int.mul_one, Int.sub_zero, Int.zero_mul, Bool.true_eq_false, false_and, and_false, true_and, and_true, List.all_cons, List.all_nil, id_eq, Bool.and_true, z0, z1, e0, e1, e1'] at h1) <;> (try simp only [Int.ofNat_eq_natCast] at h1) <;> (try simp only [Int.ofNat_eq_natCast] at h1) <;> (first | (have hF0 : False := by omega; exact hF0.elim) | (conv => cbv)))) | (first | (refine CallDet.mkR ?_ (hW _ _ _ _ _)) | (refine CallVC.mkR ?_ (hW _ _ _ _ _))) | (refine Gen0.mk ?_; (conv => cbv)) | (with_reducible refine Pick.view ?_; (conv => cbv)) | (simp only [hu.b, hu.i, iB, iI, cmpB, ivs, ivl, lrs, lrl, trs, trl, decide_eq_true_eq, decide_eq_false_iff_not, beq_iff_eq, beq_eq_false_iff_ne, ne_eq, ofN, Int.toNat_zero, Int.toNat_one, Int.reduceToNat, natc, hu.s, iS, svs, svl, true_iff, false_iff, Bool.false_eq_true, bne_iff_ne, bne_eq_false_iff_eq, Bool.not_eq_true', Bool.not_eq_false', Decidable.not_not, nil_toList, ByteArray.size_empty, nilS, not_true_eq_false, not_false_eq_true, hu.l, iL, hu.t, iT, bin_add, bin_sub, bin_mul, wr_u8, wr_u16, wr_u32, wr_u64, IntKind.wrap_i64, List.length_append, List.length_cons, List.length_nil, List.nil_append, List.append_nil, List.cons_append, lvals, List.length_replicate, List.length_set, linV_val hu, Int.add_zero, Int.zero_add, Int.mul_one, Int.sub_zero, Int.zero_mul, Bool.true_eq_false, false_and, and_false, true_and, and_true, List.all_cons, List.all_nil, id_eq, Bool.and_true, z0, z1, e0, e1, e1']; (try simp only [Int.ofNat_eq_natCast]); done) | ((try simp only [hu.b, hu.i, iB, iI, cmpB, ivs, ivl, lrs, lrl, trs, trl, decide_eq_true_eq, decide_eq_false_iff_not, beq_iff_eq, beq_eq_false_iff_ne, ne_eq, ofN, Int.toNat_zero, Int.toNat_one, Int.reduceToNat, natc, hu.s, iS, svs, svl, true_iff, false_iff, Bool.false_eq_true, bne_iff_ne, bne_eq_false_iff_eq, Bool.not_eq_true', Bool.not_eq_false', Decidable.not_not, nil_toList, ByteArray.size_empty, nilS, not_true_eq_false, not_false_eq_true, hu.l, iL, hu.t, iT, bin_add, bin_sub, bin_mul, wr_u8, wr_u16, wr_u32, wr_u64, IntKind.wrap_i64, List.length_append, List.length_cons, List.length_nil, List.nil_append, List.append_nil, List.cons_append, lvals, List.length_replicate, List.length_set, linV_val hu, Int.add_zero, Int.zero_add, Int.mul_one, Int.sub_zero, Int.zero_mul, Bool.true_eq_false, false_and, and_false, true_and, and_true, List.all_cons, List.all_nil, id_eq, Bool.and_true, z0, z1, e0, e1, e1']) <;> (try simp only [Int.ofNat_eq_natCast]) <;> omega))
  · obtain ⟨z, ez⟩ : ∃ x : Int, x = 0 := ⟨_, rfl⟩
    subst hR
    refine Weak.of (⟨z, o, k, ⟨h0.1, h0.2.1, rfl⟩, rfl, rfl⟩) ?_ ?_ (by rfl)
    all_goals ((conv => cbv); repeat' (first | exact True.intro | with_reducible rfl | (with_reducible exact fun h => h) | (with_reducible refine And.intro ?_ ?_)))
    all_goals exact ez.symm
  · refine .unroll 3 ?_
    conv => cbv
    repeat' (first | ((with_reducible intro (h : _ = _)); (try subst h); (try simp only [hu.b, hu.i, iB, iI, cmpB, ivs, ivl, lrs, lrl, trs, trl, decide_eq_true_eq, decide_eq_false_iff_not, beq_iff_eq, beq_eq_false_iff_ne, ne_eq, ofN, Int.toNat_zero, Int.toNat_one, Int.reduceToNat, natc, hu.s, iS, svs, svl, true_iff, false_iff, Bool.false_eq_true, bne_iff_ne, bne_eq_false_iff_eq, Bool.not_eq_true', Bool.not_eq_false', Decidable.not_not, nil_toList, ByteArray.size_empty, nilS, not_true_eq_false, not_false_eq_true, hu.l, iL, hu.t, iT, bin_add, bin_sub, bin_mul, wr_u8, wr_u16, wr_u32, wr_u64, IntKind.wrap_i64, List.length_append, List.length_cons, List.length_nil, List.nil_append, List.append_nil, List.cons_append, lvals, List.length_replicate, List.length_set, linV_val hu, Int.add_zero, Int.zero_add, Int.mul_one, Int.sub_zero, Int.zero_mul, Bool.true_eq_false, false_and, and_false, true_and, and_true, List.all_cons, List.all_nil, id_eq, Bool.and_true, z0, z1, e0, e1, e1'] at h) <;> (try simp only [Int.ofNat_eq_natCast] at h) <;> (first | (have hF0 : False := by omega; exact hF0.elim) | (conv => cbv))) | (with_reducible refine And.intro ?_ ?_) | (refine Gen0.mk ?_; (conv => cbv)) | (with_reducible refine Pick.view ?_; (conv => cbv)) | (simp only [hu.b, hu.i, iB, iI, cmpB, ivs, ivl, lrs, lrl, trs, trl, decide_eq_true_eq, decide_eq_false_iff_not, beq_iff_eq, beq_eq_false_iff_ne, ne_eq, ofN, Int.toNat_zero, Int.toNat_one, Int.reduceToNat, natc, hu.s, iS, svs, svl, true_iff, false_iff, Bool.false_eq_true, bne_iff_ne, bne_eq_false_iff_eq, Bool.not_eq_true', Bool.not_eq_false', Decidable.not_not, nil_toList, ByteArray.size_empty, nilS, not_true_eq_false, not_false_eq_true, hu.l, iL, hu.t, iT, bin_add, bin_sub, bin_mul, wr_u8, wr_u16, wr_u32, wr_u64, IntKind.wrap_i64, List.length_append, List.length_cons, List.length_nil, List.nil_append, List.append_nil, List.cons_append, lvals, List.length_replicate, List.length_set, linV_val hu, Int.add_zero, Int.zero_add, Int.mul_one, Int.sub_zero, Int.zero_mul, Bool.true_eq_false, false_and, and_false, true_and, and_true, List.all_cons, List.all_nil, id_eq, Bool.and_true, z0, z1, e0, e1, e1']; (try simp only [Int.ofNat_eq_natCast]); done) | ((try simp only [hu.b, hu.i, iB, iI, cmpB, ivs, ivl, lrs, lrl, trs, trl, decide_eq_true_eq, decide_eq_false_iff_not, beq_iff_eq, beq_eq_false_iff_ne, ne_eq, ofN, Int.toNat_zero, Int.toNat_one, Int.reduceToNat, natc, hu.s, iS, svs, svl, true_iff, false_iff, Bool.false_eq_true, bne_iff_ne, bne_eq_false_iff_eq, Bool.not_eq_true', Bool.not_eq_false', Decidable.not_not, nil_toList, ByteArray.size_empty, nilS, not_true_eq_false, not_false_eq_true, hu.l, iL, hu.t, iT, bin_add, bin_sub, bin_mul, wr_u8, wr_u16, wr_u32, wr_u64, IntKind.wrap_i64, List.length_append, List.length_cons, List.length_nil, List.nil_append, List.append_nil, List.cons_append, lvals, List.length_replicate, List.length_set, linV_val hu, Int.add_zero, Int.zero_add, Int.mul_one, Int.sub_zero, Int.zero_mul, Bool.true_eq_false, false_and, and_false, true_and, and_true, List.all_cons, List.all_nil, id_eq, Bool.and_true, z0, z1, e0, e1, e1']) <;> (try simp only [Int.ofNat_eq_natCast]) <;> omega))
    obtain ⟨z, ez⟩ : ∃ x : Int, x = 256 * b0 + b1 := ⟨_, rfl⟩
    have hf : 0 ≤ o' ∧ 0 ≤ k' ∧ o' + k' = o + k := by omega
    subst hR
    refine Weak.of (⟨z, o', k', hf, rfl, rfl⟩) ?_ ?_ (by rfl)
    all_goals ((conv => cbv); repeat' (first | exact True.intro | with_reducible rfl | (with_reducible exact fun h => h) | (with_reducible refine And.intro ?_ ?_)))
    all_goals
      ((try simp only [hu.b, hu.i, iB, iI, cmpB, ivs, ivl, lrs, lrl, trs, trl, decide_eq_true_eq, decide_eq_false_iff_not, beq_iff_eq, beq_eq_false_iff_ne, ne_eq, ofN, Int.toNat_zero, Int.toNat_one, Int.reduceToNat, natc, hu.s, iS, svs, svl, true_iff, false_iff, Bool.false_eq_true, bne_iff_ne, bne_eq_false_iff_eq, Bool.not_eq_true', Bool.not_eq_false', Decidable.not_not, nil_toList, ByteArray.size_empty, nilS, not_true_eq_false, not_false_eq_true, hu.l, iL, hu.t, iT, bin_add, bin_sub, bin_mul, wr_u8, wr_u16, wr_u32, wr_u64, IntKind.wrap_i64, List.length_append, List.length_cons, List.length_nil, List.nil_append, List.append_nil, List.cons_append, lvals, List.length_replicate, List.length_set, linV_val hu, Int.add_zero, Int.zero_add, Int.mul_one, Int.sub_zero, Int.zero_mul, Bool.true_eq_false, false_and, and_false, true_and, and_true, List.all_cons, List.all_nil, id_eq, Bool.and_true, e0, e1, e1', y0, y1, x0, z0, z1]) <;> (try simp only [Int.ofNat_eq_natCast]) <;> (try omega))
    all_goals exact ez.symm
end Go.Proofs.YtdenmaiimfnbeaaDoor
namespace Go.Proofs.YtdenmaiimfnbeaaDoor
open Go Sx
set_option maxRecDepth 100000
set_option maxHeartbeats 2000000
theorem getsz {bs : List Int} {o : Int} : 256 * bs.getD o.toNat 0 + bs.getD (o + 1).toNat 0 = szP bs o := rfl
theorem take_yes {tt : TypeId} (bs : List Int) (o k w o' k' : Int) (h0 : 0 ≤ o ∧ 0 ≤ k ∧ o + k = bs.length ∧ o + k ≤ 1024) (hw : 0 ≤ w ∧ w ≤ k) (ho' : o' = o + w) (hk' : k' = k - w) : Ctr Tryd.prog 38 [.cells 64 [.sl 1 (.sym o) (.sym k), .int .i64 (.sym o), .nilif], .cols .ro tt [.ints .u8 (.sym bs)]] [.ptr 0 ⟨.lit 0, 1, 0⟩, .int .i64 (.sym w)] fun v H => v = .tup [.sl 1 (.sym o) (.sym w), .bool true] ∧ H = [.cells 64 [.sl 1 (.sym o') (.sym k'), .int .i64 (.sym o'), .nilif], .cols .ro tt [.ints .u8 (.sym bs)]] :=
  (take_ctr bs o k w h0 (by omega)).mono fun v H h => by
    rcases h with ⟨h1, _⟩ | ⟨o2, k2, h1, h2, h3⟩
    · omega
    · rw [show o' = o2 by omega, show k' = k2 by omega]; exact ⟨h2, h3⟩
theorem take_no {tt : TypeId} (bs : List Int) (o k w : Int) (h0 : 0 ≤ o ∧ 0 ≤ k ∧ o + k = bs.length ∧ o + k ≤ 1024) (hw : k < w ∧ w ≤ 65535) : Ctr Tryd.prog 38 [.cells 64 [.sl 1 (.sym o) (.sym k), .int .i64 (.sym o), .nilif], .cols .ro tt [.ints .u8 (.sym bs)]] [.ptr 0 ⟨.lit 0, 1, 0⟩, .int .i64 (.sym w)] fun v H => v = .tup [.nilsl, .bool false] ∧ H = [.cells 64 [.sl 1 (.sym o) (.sym k), .int .i64 (.sym o), .nilif], .cols .ro tt [.ints .u8 (.sym bs)]] :=
  (take_ctr bs o k w h0 (by omega)).mono fun v H h => by
    rcases h with ⟨_, h2, h3⟩ | ⟨o2, k2, h1, h2, h3⟩
    · exact ⟨h2, h3⟩
    · omega
theorem takee_yes {tt : TypeId} (bs : List Int) (o k w p o' k' : Int) (h0 : 0 ≤ o ∧ 0 ≤ k ∧ o + k = bs.length ∧ o + k ≤ 1024) (hw : 0 ≤ w ∧ w ≤ k) (ho' : o' = o + w) (hk' : k' = k - w) : Ctr Tryd.prog 38 [.cells 64 [.sl 1 (.sym o) (.sym k), .int .i64 (.sym o), .iface 68 (.ptr 2 ⟨.lit 0, 1, 0⟩)], .cols .ro tt [.ints .u8 (.sym bs)], .cells 71 [.int .i64 (.sym p), .iface 54 (.int .i64 (.sym 6))]] [.ptr 0 ⟨.lit 0, 1, 0⟩, .int .i64 (.sym w)] fun v H => v = .tup [.sl 1 (.sym o) (.sym w), .bool true] ∧ H = [.cells 64 [.sl 1 (.sym o') (.sym k'), .int .i64 (.sym o'), .iface 68 (.ptr 2 ⟨.lit 0, 1, 0⟩)], .cols .ro tt [.ints .u8 (.sym bs)], .cells 71 [.int .i64 (.sym p), .iface 54 (.int .i64 (.sym 6))]] :=
  (take_e bs o k w p h0 (by omega)).mono fun v H h => by
    rcases h with ⟨h1, _⟩ | ⟨o2, k2, h1, h2, h3⟩
    · omega
    · rw [show o' = o2 by omega, show k' = k2 by omega]; exact ⟨h2, h3⟩
theorem takee_no {tt : TypeId} (bs : List Int) (o k w p : Int) (h0 : 0 ≤ o ∧ 0 ≤ k ∧ o + k = bs.length ∧ o + k ≤ 1024) (hw : k < w ∧ w ≤ 65535) : Ctr Tryd.prog 38 [.cells 64 [.sl 1 (.sym o) (.sym k), .int .i64 (.sym o), .iface 68 (.ptr 2 ⟨.lit 0, 1, 0⟩)], .cols .ro tt [.ints .u8 (.sym bs)], .cells 71 [.int .i64 (.sym p), .iface 54 (.int .i64 (.sym 6))]] [.ptr 0 ⟨.lit 0, 1, 0⟩, .int .i64 (.sym w)] fun v H => v = .tup [.nilsl, .bool false] ∧ H = [.cells 64 [.sl 1 (.sym o) (.sym k), .int .i64 (.sym o), .iface 68 (.ptr 2 ⟨.lit 0, 1, 0⟩)], .cols .ro tt [.ints .u8 (.sym bs)], .cells 71 [.int .i64 (.sym p), .iface 54 (.int .i64 (.sym 6))]] :=
  (take_e bs o k w p h0 (by omega)).mono fun v H h => by
    rcases h with ⟨_, h2, h3⟩ | ⟨o2, k2, h1, h2, h3⟩
    · exact ⟨h2, h3⟩
    · omega
/-- Where one stands behind what is wrong; behind whatever. -/
def ndP (bs : List Int) (o : Int) : Int := if o + 2 ≤ bs.length then o + 2 else o
def peO (bs : List Int) (o : Int) : Int := if gdP bs o then nxP bs o else ndP bs o
def peY (bs : List Int) (o : Int) : List Int := if gdP bs o then ptP bs o else []
theorem part_ctr {tt : TypeId} (bs : List Int) (o k : Int) (hB : Bytes bs) (h0 : 0 ≤ o ∧ 0 ≤ k ∧ o + k = bs.length ∧ o + k ≤ 1024) : Ctr Tryd.prog 30 [.cells 64 [.sl 1 (.sym o) (.sym k), .int .i64 (.sym o), .nilif], .cols .ro tt [.ints .u8 (.sym bs)]] [.ptr 0 ⟨.lit 0, 1, 0⟩] fun v H =>
    (∃ o' k', (¬ gdP bs o ∧ o' = ndP bs o ∧ 0 ≤ o' ∧ 0 ≤ k' ∧ o' + k' = o + k) ∧ v = .nilsl ∧ H = [.cells 64 [.sl 1 (.sym o') (.sym k'), .int .i64 (.sym o'), .iface 68 (.ptr 2 ⟨.lit 0, 1, 0⟩)], .cols .ro tt [.ints .u8 (.sym bs)], .cells 71 [.int .i64 (.sym o), .iface 54 (.int .i64 (.sym 6))]]) ∨
    (∃ m ys o' k', (gdP bs o ∧ m = ys.length ∧ ys = ptP bs o ∧ o' = nxP bs o ∧ k' = o + k - o' ∧ 0 ≤ k' ∧ o ≤ o') ∧ v = .vec 2 (.sym m) ∧ H = [.cells 64 [.sl 1 (.sym o') (.sym k'), .int .i64 (.sym o'), .nilif], .cols .ro tt [.ints .u8 (.sym bs)], .cols (.row 1) 5 [.ints .u8 (.sym ys)]]) := by
  have hb0 := hB.get o.toNat
  have hb1 := hB.get (o + 1).toNat
  have z1 := or2 hb0 hb1
  have hsz := szP_nn hB o
  rw [getsz] at z1
  obtain ⟨b0, e0⟩ : ∃ x, bs.getD o.toNat 0 = x := ⟨_, rfl⟩
  obtain ⟨b1, e1⟩ : ∃ x, bs.getD (o + 1).toNat 0 = x := ⟨_, rfl⟩
  have e1' : bs.getD (1 + o).toNat 0 = b1 := by rw [Int.add_comm]; exact e1
  obtain ⟨sz, es⟩ : ∃ x, szP bs o = x := ⟨_, rfl⟩
  rw [e0] at hb0 z1
  rw [e1] at hb1 z1
  rw [es] at z1 hsz
  have w0 : IntKind.i64.wrap b0 = b0 := wr_i64 _ (by omega) (by omega)
  have w1 : IntKind.i64.wrap b1 = b1 := wr_i64 _ (by omega) (by omega)
  obtain ⟨o2, eo2⟩ : ∃ x, x = nxP bs o := ⟨_, rfl⟩
  obtain ⟨k2, ek2⟩ : ∃ x, x = o + k - o2 := ⟨_, rfl⟩
  have ho2 : o2 = o + 2 + sz := by rw [eo2, nxP, es]
  have hgd : gdP bs o ↔ (2 ≤ k ∧ 2 + sz ≤ k) := by unfold gdP; rw [es]; omega
  obtain ⟨ys, ey⟩ : ∃ x, x = ptP bs o := ⟨_, rfl⟩
  have hy : ys = subL bs (o + 2) sz := by rw [ey, ptP, es]
  obtain ⟨uI, uB, uS, uL, uT, hu⟩ := words
  have hm := mixed
  have hT := tabOk
  have hTk := @take_ctr
  have hTy := @take_yes
  have hTn := @take_no
  have hW := @wrong_ctr
  have hCl := @clone_ctr
  obtain ⟨P, hP⟩ : ∃ P, P = Tryd.prog := ⟨_, rfl⟩
  rw [← hP] at hm hT hTk hTy hTn hW hCl ⊢
  refine Ctr.weak (ctr_of_vc hu hm hT (hP ▸ Tryd.func30) rfl (by kernel_rfl) ?_)
  clear hP hm hT
  generalize hR : Weak _ _ = R
  conv => cbv
  repeat' (first | ((with_reducible intro (h : _ = _)); (try subst h); (try simp only [hu.b, hu.i, iB, iI, cmpB, ivs, ivl, lrs, lrl, trs, trl, decide_eq_true_eq, decide_eq_false_iff_not, beq_iff_eq, beq_eq_false_iff_ne, ne_eq, ofN, Int.toNat_zero, Int.toNat_one, Int.reduceToNat, natc, hu.s, iS, svs, svl, true_iff, false_iff, Bool.false_eq_true, bne_iff_ne, bne_eq_false_iff_eq, Bool.not_eq_true', Bool.not_eq_false', Decidable.not_not, nil_toList, ByteArray.size_empty, nilS, not_true_eq_false, not_false_eq_true, hu.l, iL, hu.t, iT, bin_add, bin_sub, bin_mul, wr_u8, wr_u16, wr_u32, wr_u64, IntKind.wrap_i64, List.length_append, List.length_cons, List.length_nil, List.nil_append, List.append_nil, List.cons_append, lvals, List.length_replicate, List.length_set, linV_val hu, Int.add_zero, Int.zero_add, Int.mul_one, Int.sub_zero, Int.zero_mul, Bool.true_eq_false, false_and, and_false, true_and, and_true, List.all_cons, List.all_nil, id_eq, Bool.and_true, ↓w0, ↓w1, z1, e0, e1, e1'] at h) <;> (try simp only [Int.ofNat_eq_natCast] at h) <;> (first | (have hF0 : False := by omega; exact hF0.elim) | (conv => cbv))) | (with_reducible refine And.intro ?_ ?_) | (refine CallVC.mk (Ctr.monoR ?_ (hTk _ _ _ _ ?_ ?_)); ((rintro v H (⟨h1, rfl, rfl⟩ | ⟨o', k', h1, rfl, rfl⟩)) <;> (try simp only [hu.b, hu.i, iB, iI, cmpB, ivs, ivl, lrs, lrl, trs, trl, decide_eq_true_eq, decide_eq_false_iff_not, beq_iff_eq, beq_eq_false_iff_ne, ne_eq, ofN, Int.toNat_zero, Int.toNat_one, Int.reduceToNat, natc, hu.s, iS, svs, svl, true_iff, false_iff, Bool.false_eq_true, bne_iff_ne, bne_eq_false_iff_eq, Bool.not_eq_true', Bool.not_eq_false', Decidable.not_not, nil_toList, ByteArray.size_empty, nilS, not_true_eq_false, not_false_eq_true, hu.l, iL, hu.t, iT, bin_add, bin_sub, bin_mul, wr_u8, wr_u16, wr_u32, wr_u64, IntKind.wrap_i64, List.length_append, List.length_cons, List.length_nil, List.nil_append, List.append_nil, List.cons_append, lvals, List.length_replicate, List.length_set, linV_val hu, Int.add_zero, Int.zero_add, Int.mul_one, Int.sub_zero, Int.zero_mul, Bool.true_eq_false, false_and, and_false, true_and, and_true, List.all_cons, List.all_nil, id_eq, Bool.and_true, ↓w0, ↓w1, z1, e0, e1, e1'] at h1) <;> (try simp only [hu.b, hu.i, iB, iI, cmpB, ivs, ivl, lrs, lrl, trs, trl, decide_eq_true_eq, decide_eq_false_iff_not, beq_iff_eq, beq_eq_false_iff_ne, ne_eq, ofN, Int.toNat_zero, Int.toNat_one, Int.reduceToNat, natc, hu.s, iS, svs, svl, true_iff, false_iff, Bool.false_eq_true, bne_iff_ne, bne_eq_false_iff_eq, Bool.not_eq_true', Bool.not_eq_false', Decidable.not_not, nil_toList, ByteArray.size_empty, nilS, not_true_eq_false, not_false_eq_true, hu.l, iL, hu.t, iT, bin_add, bin_sub, bin_mul, wr_u8, wr_u16, wr_u32, wr_u64, IntKind.wrap_i64, List.length_append, List.length_cons, List.length_nil, List.nil_append, List.append_nil, List.cons_append, lvals, List.length_replicate, List.length_set, linV_val hu, Int.add_zero, Int.zero_add, Int.mul_one, Int.sub_zero, Int.zero_mul, Bool.true_eq_false, false_and, and_false, true_and, and_true, List.all_cons, List.all_nil, id_eq, Bool.and_true, ↓w0, ↓w1, z1, e0, e1, e1'] at h1) <;> (try simp only [Int.ofNat_eq_natCast] at h1) <;> (try simp only [Int.ofNat_eq_natCast] at h1) <;> (first | (have hF0 : False := by omega; exact hF0.elim) | (conv => cbv)))) | (first | (refine CallDet.cases (2 + sz ≤ k) (fun hc => CallDet.mkR ?_ (hTy _ _ _ _ o2 k2 ?_ ?_ ?_ ?_)) (fun hc => CallDet.mkR ?_ (hTn _ _ _ _ ?_ ?_))) | (refine CallVC.cases (2 + sz ≤ k) (fun hc => CallVC.mkR ?_ (hTy _ _ _ _ o2 k2 ?_ ?_ ?_ ?_)) (fun hc => CallVC.mkR ?_ (hTn _ _ _ _ ?_ ?_)))) | (first | (refine CallDet.mkR ?_ (hW _ _ _ _)) | (refine CallVC.mkR ?_ (hW _ _ _ _))) | (first | (refine CallDet.mkR ?_ (hCl _ _ ?_ ?_)) | (refine CallVC.mkR ?_ (hCl _ _ ?_ ?_))) | ((try simp only [hu.b, hu.i, iB, iI, cmpB, ivs, ivl, lrs, lrl, trs, trl, decide_eq_true_eq, decide_eq_false_iff_not, beq_iff_eq, beq_eq_false_iff_ne, ne_eq, ofN, Int.toNat_zero, Int.toNat_one, Int.reduceToNat, natc, hu.s, iS, svs, svl, true_iff, false_iff, Bool.false_eq_true, bne_iff_ne, bne_eq_false_iff_eq, Bool.not_eq_true', Bool.not_eq_false', Decidable.not_not, nil_toList, ByteArray.size_empty, nilS, not_true_eq_false, not_false_eq_true, hu.l, iL, hu.t, iT, bin_add, bin_sub, bin_mul, wr_u8, wr_u16, wr_u32, wr_u64, IntKind.wrap_i64, List.length_append, List.length_cons, List.length_nil, List.nil_append, List.append_nil, List.cons_append, lvals, List.length_replicate, List.length_set, linV_val hu, Int.add_zero, Int.zero_add, Int.mul_one, Int.sub_zero, Int.zero_mul, Bool.true_eq_false, false_and, and_false, true_and, and_true, List.all_cons, List.all_nil, id_eq, Bool.and_true, ↓w0, ↓w1, z1, e0, e1, e1']) <;> (try simp only [Int.ofNat_eq_natCast]) <;> exact (subL_length (by omega) (by omega) (by omega)).symm) | (refine Gen0.mk ?_; (conv => cbv)) | (with_reducible refine Pick.view ?_; (conv => cbv)) | (simp only [hu.b, hu.i, iB, iI, cmpB, ivs, ivl, lrs, lrl, trs, trl, decide_eq_true_eq, decide_eq_false_iff_not, beq_iff_eq, beq_eq_false_iff_ne, ne_eq, ofN, Int.toNat_zero, Int.toNat_one, Int.reduceToNat, natc, hu.s, iS, svs, svl, true_iff, false_iff, Bool.false_eq_true, bne_iff_ne, bne_eq_false_iff_eq, Bool.not_eq_true', Bool.not_eq_false', Decidable.not_not, nil_toList, ByteArray.size_empty, nilS, not_true_eq_false, not_false_eq_true, hu.l, iL, hu.t, iT, bin_add, bin_sub, bin_mul, wr_u8, wr_u16, wr_u32, wr_u64, IntKind.wrap_i64, List.length_append, List.length_cons, List.length_nil, List.nil_append, List.append_nil, List.cons_append, lvals, List.length_replicate, List.length_set, linV_val hu, Int.add_zero, Int.zero_add, Int.mul_one, Int.sub_zero, Int.zero_mul, Bool.true_eq_false, false_and, and_false, true_and, and_true, List.all_cons, List.all_nil, id_eq, Bool.and_true, ↓w0, ↓w1, z1, e0, e1, e1']; (try simp only [Int.ofNat_eq_natCast]); done) | ((try simp only [hu.b, hu.i, iB, iI, cmpB, ivs, ivl, lrs, lrl, trs, trl, decide_eq_true_eq, decide_eq_false_iff_not, beq_iff_eq, beq_eq_false_iff_ne, ne_eq, ofN, Int.toNat_zero, Int.toNat_one, Int.reduceToNat, natc, hu.s, iS, svs, svl, true_iff, false_iff, Bool.false_eq_true, bne_iff_ne, bne_eq_false_iff_eq, Bool.not_eq_true', Bool.not_eq_false', Decidable.not_not, nil_toList, ByteArray.size_empty, nilS, not_true_eq_false, not_false_eq_true, hu.l, iL, hu.t, iT, bin_add, bin_sub, bin_mul, wr_u8, wr_u16, wr_u32, wr_u64, IntKind.wrap_i64, List.length_append, List.length_cons, List.length_nil, List.nil_append, List.append_nil, List.cons_append, lvals, List.length_replicate, List.length_set, linV_val hu, Int.add_zero, Int.zero_add, Int.mul_one, Int.sub_zero, Int.zero_mul, Bool.true_eq_false, false_and, and_false, true_and, and_true, List.all_cons, List.all_nil, id_eq, Bool.and_true, ↓w0, ↓w1, z1, e0, e1, e1']) <;> (try simp only [Int.ofNat_eq_natCast]) <;> omega))
  · have hg : ¬ gdP bs o := by rw [hgd]; omega
    have hnd : o = ndP bs o := by unfold ndP; rw [if_neg (by omega)]
    subst hR
    refine Weak.of ((.inl ⟨o, k, ⟨hg, hnd, h0.1, h0.2.1, rfl⟩, rfl, rfl⟩)) ?_ ?_ (by rfl)
    all_goals ((conv => cbv); repeat' (first | exact True.intro | with_reducible rfl | (with_reducible exact fun h => h) | (with_reducible refine And.intro ?_ ?_)))
  · have hg : gdP bs o := by rw [hgd]; omega
    have hl : sz = ys.length := by rw [hy]; exact (subL_length (by omega) (by omega) (by omega)).symm
    have eo' : o' = o + 2 := by omega
    subst hR
    refine Weak.of ((.inr ⟨sz, ys, o2, k2, ⟨hg, hl, ey, eo2, ek2, by omega, by omega⟩, rfl, rfl⟩)) ?_ ?_ (by rfl)
    all_goals ((conv => cbv); repeat' (first | exact True.intro | with_reducible rfl | (with_reducible exact fun h => h) | (with_reducible refine And.intro ?_ ?_)))
    all_goals
      ((try simp only [hu.b, hu.i, iB, iI, cmpB, ivs, ivl, lrs, lrl, trs, trl, decide_eq_true_eq, decide_eq_false_iff_not, beq_iff_eq, beq_eq_false_iff_ne, ne_eq, ofN, Int.toNat_zero, Int.toNat_one, Int.reduceToNat, natc, hu.s, iS, svs, svl, true_iff, false_iff, Bool.false_eq_true, bne_iff_ne, bne_eq_false_iff_eq, Bool.not_eq_true', Bool.not_eq_false', Decidable.not_not, nil_toList, ByteArray.size_empty, nilS, not_true_eq_false, not_false_eq_true, hu.l, iL, hu.t, iT, bin_add, bin_sub, bin_mul, wr_u8, wr_u16, wr_u32, wr_u64, IntKind.wrap_i64, List.length_append, List.length_cons, List.length_nil, List.nil_append, List.append_nil, List.cons_append, lvals, List.length_replicate, List.length_set, linV_val hu, Int.add_zero, Int.zero_add, Int.mul_one, Int.sub_zero, Int.zero_mul, Bool.true_eq_false, false_and, and_false, true_and, and_true, List.all_cons, List.all_nil, id_eq, Bool.and_true, ↓w0, ↓w1, z1, e0, e1, e1', eo']) <;> (try simp only [Int.ofNat_eq_natCast]) <;> (try omega))
    all_goals exact hy.symm
  · have hg : ¬ gdP bs o := by rw [hgd]; omega
    have hnd : o' = ndP bs o := by unfold ndP; rw [if_pos (by omega)]; omega
    have hf : 0 ≤ o' ∧ 0 ≤ k' ∧ o' + k' = o + k := by omega
    subst hR
    refine Weak.of ((.inl ⟨o', k', ⟨hg, hnd, hf⟩, rfl, rfl⟩)) ?_ ?_ (by rfl)
    all_goals ((conv => cbv); repeat' (first | exact True.intro | with_reducible rfl | (with_reducible exact fun h => h) | (with_reducible refine And.intro ?_ ?_)))
theorem part_e {tt : TypeId} (bs : List Int) (o k p : Int) (hB : Bytes bs) (h0 : 0 ≤ o ∧ 0 ≤ k ∧ o + k = bs.length ∧ o + k ≤ 1024) : Ctr Tryd.prog 30 [.cells 64 [.sl 1 (.sym o) (.sym k), .int .i64 (.sym o), .iface 68 (.ptr 2 ⟨.lit 0, 1, 0⟩)], .cols .ro tt [.ints .u8 (.sym bs)], .cells 71 [.int .i64 (.sym p), .iface 54 (.int .i64 (.sym 6))]] [.ptr 0 ⟨.lit 0, 1, 0⟩] fun v H =>
    ∃ m ys o' k', (m = ys.length ∧ ys = peY bs o ∧ o' = peO bs o ∧ m ≤ 65535 ∧ 0 ≤ o' ∧ 0 ≤ k' ∧ o' + k' = o + k) ∧ v = .vec 3 (.sym m) ∧ H = [.cells 64 [.sl 1 (.sym o') (.sym k'), .int .i64 (.sym o'), .iface 68 (.ptr 2 ⟨.lit 0, 1, 0⟩)], .cols .ro tt [.ints .u8 (.sym bs)], .cells 71 [.int .i64 (.sym p), .iface 54 (.int .i64 (.sym 6))], .cols (.row 1) 5 [.ints .u8 (.sym ys)]] := by
  refine Ctr.weak (Ctr.mono (R := fun v H => ∃ (o' k' m : Int) (ys : List Int) (x : Iv) (zs : Lv), (m = ys.length ∧ ys = peY bs o ∧ o' = peO bs o ∧ m ≤ 65535 ∧ 0 ≤ o' ∧ 0 ≤ k' ∧ o' + k' = o + k) ∧ x.val = m ∧ zs.raw = ys ∧ v = .vec 3 x ∧ H = [.cells 64 [.sl 1 (.sym o') (.sym k'), .int .i64 (.sym o'), .iface 68 (.ptr 2 ⟨.lit 0, 1, 0⟩)], .cols .ro tt [.ints .u8 (.sym bs)], .cells 71 [.int .i64 (.sym p), .iface 54 (.int .i64 (.sym 6))], .cols (.row 1) 5 [.ints .u8 zs]])
    (Ctr.nil_row (R := fun v H => (∃ o' k', (peY bs o = [] ∧ o' = peO bs o ∧ 0 ≤ o' ∧ 0 ≤ k' ∧ o' + k' = o + k) ∧ v = .nilsl ∧ H = [.cells 64 [.sl 1 (.sym o') (.sym k'), .int .i64 (.sym o'), .iface 68 (.ptr 2 ⟨.lit 0, 1, 0⟩)], .cols .ro tt [.ints .u8 (.sym bs)], .cells 71 [.int .i64 (.sym p), .iface 54 (.int .i64 (.sym 6))]]) ∨
      (∃ m ys o' k', (m = ys.length ∧ ys = peY bs o ∧ o' = peO bs o ∧ m ≤ 65535 ∧ 0 ≤ o' ∧ 0 ≤ k' ∧ o' + k' = o + k) ∧ v = .vec 3 (.sym m) ∧ H = [.cells 64 [.sl 1 (.sym o') (.sym k'), .int .i64 (.sym o'), .iface 68 (.ptr 2 ⟨.lit 0, 1, 0⟩)], .cols .ro tt [.ints .u8 (.sym bs)], .cells 71 [.int .i64 (.sym p), .iface 54 (.int .i64 (.sym 6))], .cols (.row 1) 5 [.ints .u8 (.sym ys)]])) ?_ ?_) ?_)
  · have hb0 := hB.get o.toNat
    have hb1 := hB.get (o + 1).toNat
    have z1 := or2 hb0 hb1
    have hsz := szP_nn hB o
    rw [getsz] at z1
    obtain ⟨b0, e0⟩ : ∃ x, bs.getD o.toNat 0 = x := ⟨_, rfl⟩
    obtain ⟨b1, e1⟩ : ∃ x, bs.getD (o + 1).toNat 0 = x := ⟨_, rfl⟩
    have e1' : bs.getD (1 + o).toNat 0 = b1 := by rw [Int.add_comm]; exact e1
    obtain ⟨sz, es⟩ : ∃ x, szP bs o = x := ⟨_, rfl⟩
    rw [e0] at hb0 z1
    rw [e1] at hb1 z1
    rw [es] at z1 hsz
    have w0 : IntKind.i64.wrap b0 = b0 := wr_i64 _ (by omega) (by omega)
    have w1 : IntKind.i64.wrap b1 = b1 := wr_i64 _ (by omega) (by omega)
    obtain ⟨o2, eo2⟩ : ∃ x, x = nxP bs o := ⟨_, rfl⟩
    obtain ⟨k2, ek2⟩ : ∃ x, x = o + k - o2 := ⟨_, rfl⟩
    have ho2 : o2 = o + 2 + sz := by rw [eo2, nxP, es]
    have hgd : gdP bs o ↔ (2 ≤ k ∧ 2 + sz ≤ k) := by unfold gdP; rw [es]; omega
    obtain ⟨ys, ey⟩ : ∃ x, x = ptP bs o := ⟨_, rfl⟩
    have hy : ys = subL bs (o + 2) sz := by rw [ey, ptP, es]
    obtain ⟨uI, uB, uS, uL, uT, hu⟩ := words
    have hm := mixed
    have hT := tabOk
    have hTk := @take_e
    have hTy := @takee_yes
    have hTn := @takee_no
    have hW := @wrong_e
    have hCl := @clone_ctr
    obtain ⟨P, hP⟩ : ∃ P, P = Tryd.prog := ⟨_, rfl⟩
    rw [← hP] at hm hT hTk hTy hTn hW hCl ⊢
    refine Ctr.weak (ctr_of_vc hu hm hT (hP ▸ Tryd.func30) rfl (by kernel_rfl) ?_)
    clear hP hm hT
    generalize hR : Weak _ _ = R
    conv => cbv
    repeat' (first | ((with_reducible intro (h : _ = _)); (try subst h); (try simp only [hu.b, hu.i, iB, iI, cmpB, ivs, ivl, lrs, lrl, trs, trl, decide_eq_true_eq, decide_eq_false_iff_not, beq_iff_eq, beq_eq_false_iff_ne, ne_eq, ofN, Int.toNat_zero, Int.toNat_one, Int.reduceToNat, natc, hu.s, iS, svs, svl, true_iff, false_iff, Bool.false_eq_true, bne_iff_ne, bne_eq_false_iff_eq, Bool.not_eq_true', Bool.not_eq_false', Decidable.not_not, nil_toList, ByteArray.size_empty, nilS, not_true_eq_false, not_false_eq_true, hu.l, iL, hu.t, iT, bin_add, bin_sub, bin_mul, wr_u8, wr_u16, wr_u32, wr_u64, IntKind.wrap_i64, List.length_append, List.length_cons, List.length_nil, List.nil_append, List.append_nil, List.cons_append, lvals, List.length_replicate, List.length_set, linV_val hu, Int.add_zero, Int.zero_add, Int.mul_one, Int.sub_zero, Int.zero_mul, Bool.true_eq_false, false_and, and_false, true_and, and_true, List.all_cons, List.all_nil, id_eq, Bool.and_true, ↓w0, ↓w1, z1, e0, e1, e1'] at h) <;> (try simp only [Int.ofNat_eq_natCast] at h) <;> (first | (have hF0 : False := by omega; exact hF0.elim) | (conv => cbv))) | (with_reducible refine And.intro ?_ ?_) | (refine CallVC.mk (Ctr.monoR ?_ (hTk _ _ _ _ _ ?_ ?_)); ((rintro v H (⟨h1, rfl, rfl⟩ | ⟨o', k', h1, rfl, rfl⟩)) <;> (try simp only [hu.b, hu.i, iB, iI, cmpB, ivs, ivl, lrs, lrl, trs, trl, decide_eq_true_eq, decide_eq_false_iff_not, beq_iff_eq, beq_eq_false_iff_ne, ne_eq, ofN, Int.toNat_zero, Int.toNat_one, Int.reduceToNat, natc, hu.s, iS, svs, svl, true_iff, false_iff, Bool.false_eq_true, bne_iff_ne, bne_eq_false_iff_eq, Bool.not_eq_true', Bool.not_eq_false', Decidable.not_not, nil_toList, ByteArray.size_empty, nilS, not_true_eq_false, not_false_eq_true, hu.l, iL, hu.t, iT, bin_add, bin_sub, bin_mul, wr_u8, wr_u16, wr_u32, wr_u64, IntKind.wrap_i64, List.length_append, List.length_cons, List.length_nil, List.nil_append, List.append_nil, List.cons_append, lvals, List.length_replicate, List.length_set, linV_val hu, Int.add_zero, Int.zero_add, Int.mul_one, Int.sub_zero, Int.zero_mul, Bool.true_eq_false, false_and, and_false, true_and, and_true, List.all_cons, List.all_nil, id_eq, Bool.and_true, ↓w0, ↓w1, z1, e0, e1, e1'] at h1) <;> (try simp only [hu.b, hu.i, iB, iI, cmpB, ivs, ivl, lrs, lrl, trs, trl, decide_eq_true_eq, decide_eq_false_iff_not, beq_iff_eq, beq_eq_false_iff_ne, ne_eq, ofN, Int.toNat_zero, Int.toNat_one, Int.reduceToNat, natc, hu.s, iS, svs, svl, true_iff, false_iff, Bool.false_eq_true, bne_iff_ne, bne_eq_false_iff_eq, Bool.not_eq_true', Bool.not_eq_false', Decidable.not_not, nil_toList, ByteArray.size_empty, nilS, not_true_eq_false, not_false_eq_true, hu.l, iL, hu.t, iT, bin_add, bin_sub, bin_mul, wr_u8, wr_u16, wr_u32, wr_u64, IntKind.wrap_i64, List.length_append, List.length_cons, List.length_nil, List.nil_append, List.append_nil, List.cons_append, lvals, List.length_replicate, List.length_set, linV_val hu, Int.add_zero, Int.zero_add, Int.mul_one, Int.sub_zero, Int.zero_mul, Bool.true_eq_false, false_and, and_false, true_and, and_true, List.all_cons, List.all_nil, id_eq, Bool.and_true, ↓w0, ↓w1, z1, e0, e1, e1'] at h1) <;> (try simp only [Int.ofNat_eq_natCast] at h1) <;> (try simp only [Int.ofNat_eq_natCast] at h1) <;> (first | (have hF0 : False := by omega; exact hF0.elim) | (conv => cbv)))) | (first | (refine CallDet.cases (2 + sz ≤ k) (fun hc => CallDet.mkR ?_ (hTy _ _ _ _ _ o2 k2 ?_ ?_ ?_ ?_)) (fun hc => CallDet.mkR ?_ (hTn _ _ _ _ _ ?_ ?_))) | (refine CallVC.cases (2 + sz ≤ k) (fun hc => CallVC.mkR ?_ (hTy _ _ _ _ _ o2 k2 ?_ ?_ ?_ ?_)) (fun hc => CallVC.mkR ?_ (hTn _ _ _ _ _ ?_ ?_)))) | (first | (refine CallDet.mkR ?_ (hW _ _ _ _ _)) | (refine CallVC.mkR ?_ (hW _ _ _ _ _))) | (first | (refine CallDet.mkR ?_ (hCl _ _ ?_ ?_)) | (refine CallVC.mkR ?_ (hCl _ _ ?_ ?_))) | ((try simp only [hu.b, hu.i, iB, iI, cmpB, ivs, ivl, lrs, lrl, trs, trl, decide_eq_true_eq, decide_eq_false_iff_not, beq_iff_eq, beq_eq_false_iff_ne, ne_eq, ofN, Int.toNat_zero, Int.toNat_one, Int.reduceToNat, natc, hu.s, iS, svs, svl, true_iff, false_iff, Bool.false_eq_true, bne_iff_ne, bne_eq_false_iff_eq, Bool.not_eq_true', Bool.not_eq_false', Decidable.not_not, nil_toList, ByteArray.size_empty, nilS, not_true_eq_false, not_false_eq_true, hu.l, iL, hu.t, iT, bin_add, bin_sub, bin_mul, wr_u8, wr_u16, wr_u32, wr_u64, IntKind.wrap_i64, List.length_append, List.length_cons, List.length_nil, List.nil_append, List.append_nil, List.cons_append, lvals, List.length_replicate, List.length_set, linV_val hu, Int.add_zero, Int.zero_add, Int.mul_one, Int.sub_zero, Int.zero_mul, Bool.true_eq_false, false_and, and_false, true_and, and_true, List.all_cons, List.all_nil, id_eq, Bool.and_true, ↓w0, ↓w1, z1, e0, e1, e1']) <;> (try simp only [Int.ofNat_eq_natCast]) <;> exact (subL_length (by omega) (by omega) (by omega)).symm) | (refine Gen0.mk ?_; (conv => cbv)) | (with_reducible refine Pick.view ?_; (conv => cbv)) | (simp only [hu.b, hu.i, iB, iI, cmpB, ivs, ivl, lrs, lrl, trs, trl, decide_eq_true_eq, decide_eq_false_iff_not, beq_iff_eq, beq_eq_false_iff_ne, ne_eq, ofN, Int.toNat_zero, Int.toNat_one, Int.reduceToNat, natc, hu.s, iS, svs, svl, true_iff, false_iff, Bool.false_eq_true, bne_iff_ne, bne_eq_false_iff_eq, Bool.not_eq_true', Bool.not_eq_false', Decidable.not_not, nil_toList, ByteArray.size_empty, nilS, not_true_eq_false, not_false_eq_true, hu.l, iL, hu.t, iT, bin_add, bin_sub, bin_mul, wr_u8, wr_u16, wr_u32, wr_u64, IntKind.wrap_i64, List.length_append, List.length_cons, List.length_nil, List.nil_append, List.append_nil, List.cons_append, lvals, List.length_replicate, List.length_set, linV_val hu, Int.add_zero, Int.zero_add, Int.mul_one, Int.sub_zero, Int.zero_mul, Bool.true_eq_false, false_and, and_false, true_and, and_true, List.all_cons, List.all_nil, id_eq, Bool.and_true, ↓w0, ↓w1, z1, e0, e1, e1']; (try simp only [Int.ofNat_eq_natCast]); done) | ((try simp only [hu.b, hu.i, iB, iI, cmpB, ivs, ivl, lrs, lrl, trs, trl, decide_eq_true_eq, decide_eq_false_iff_not, beq_iff_eq, beq_eq_false_iff_ne, ne_eq, ofN, Int.toNat_zero, Int.toNat_one, Int.reduceToNat, natc, hu.s, iS, svs, svl, true_iff, false_iff, Bool.false_eq_true, bne_iff_ne, bne_eq_false_iff_eq, Bool.not_eq_true', Bool.not_eq_false', Decidable.not_not, nil_toList, ByteArray.size_empty, nilS, not_true_eq_false, not_false_eq_true, hu.l, iL, hu.t, iT, bin_add, bin_sub, bin_mul, wr_u8, wr_u16, wr_u32, wr_u64, IntKind.wrap_i64, List.length_append, List.length_cons, List.length_nil, List.nil_append, List.append_nil, List.cons_append, lvals, List.length_replicate, List.length_set, linV_val hu, Int.add_zero, Int.zero_add, Int.mul_one, Int.sub_zero, Int.zero_mul, Bool.true_eq_false, false_and, and_false, true_and, and_true, List.all_cons, List.all_nil, id_eq, Bool.and_true, ↓w0, ↓w1, z1, e0, e1, e1']) <;> (try simp only [Int.ofNat_eq_natCast]) <;> omega))
    · have hg : ¬ gdP bs o := by rw [hgd]; omega
      have hf : peY bs o = [] ∧ o = peO bs o ∧ 0 ≤ o ∧ 0 ≤ k ∧ o + k = o + k := ⟨by unfold peY; rw [if_neg hg], by unfold peO ndP; rw [if_neg hg, if_neg (by omega)], h0.1, h0.2.1, rfl⟩
      subst hR
      refine Weak.of ((.inl ⟨o, k, hf, rfl, rfl⟩)) ?_ ?_ (by rfl)
      all_goals ((conv => cbv); repeat' (first | exact True.intro | with_reducible rfl | (with_reducible exact fun h => h) | (with_reducible refine And.intro ?_ ?_)))
    · have hl : sz = ys.length := by rw [hy]; exact (subL_length (by omega) (by omega) (by omega)).symm
      have eo' : o' = o + 2 := by omega
      have hg : gdP bs o := by rw [hgd]; omega
      have hf : sz = ys.length ∧ ys = peY bs o ∧ o2 = peO bs o ∧ sz ≤ 65535 ∧ 0 ≤ o2 ∧ 0 ≤ k2 ∧ o2 + k2 = o + k := ⟨hl, by unfold peY; rw [if_pos hg]; exact ey, by unfold peO; rw [if_pos hg]; exact eo2, by omega, by omega, by omega, by omega⟩
      subst hR
      refine Weak.of ((.inr ⟨sz, ys, o2, k2, hf, rfl, rfl⟩)) ?_ ?_ (by rfl)
      all_goals ((conv => cbv); repeat' (first | exact True.intro | with_reducible rfl | (with_reducible exact fun h => h) | (with_reducible refine And.intro ?_ ?_)))
      all_goals
        ((try simp only [hu.b, hu.i, iB, iI, cmpB, ivs, ivl, lrs, lrl, trs, trl, decide_eq_true_eq, decide_eq_false_iff_not, beq_iff_eq, beq_eq_false_iff_ne, ne_eq, ofN, Int.toNat_zero, Int.toNat_one, Int.reduceToNat, natc, hu.s, iS, svs, svl, true_iff, false_iff, Bool.false_eq_true, bne_iff_ne, bne_eq_false_iff_eq, Bool.not_eq_true', Bool.not_eq_false', Decidable.not_not, nil_toList, ByteArray.size_empty, nilS, not_true_eq_false, not_false_eq_true, hu.l, iL, hu.t, iT, bin_add, bin_sub, bin_mul, wr_u8, wr_u16, wr_u32, wr_u64, IntKind.wrap_i64, List.length_append, List.length_cons, List.length_nil, List.nil_append, List.append_nil, List.cons_append, lvals, List.length_replicate, List.length_set, linV_val hu, Int.add_zero, Int.zero_add, Int.mul_one, Int.sub_zero, Int.zero_mul, Bool.true_eq_false, false_and, and_false, true_and, and_true, List.all_cons, List.all_nil, id_eq, Bool.and_true, ↓w0, ↓w1, z1, e0, e1, e1', eo']) <;> (try simp only [Int.ofNat_eq_natCast]) <;> (try omega))
      all_goals exact hy.symm
    · have hg : ¬ gdP bs o := by rw [hgd]; omega
      have hf : peY bs o = [] ∧ o' = peO bs o ∧ 0 ≤ o' ∧ 0 ≤ k' ∧ o' + k' = o + k := ⟨by unfold peY; rw [if_neg hg], by unfold peO ndP; rw [if_neg hg, if_pos (by omega)]; omega, by omega, by omega, by omega⟩
      subst hR
      refine Weak.of ((.inl ⟨o', k', hf, rfl, rfl⟩)) ?_ ?_ (by rfl)
      all_goals ((conv => cbv); repeat' (first | exact True.intro | with_reducible rfl | (with_reducible exact fun h => h) | (with_reducible refine And.intro ?_ ?_)))
  · rintro v H (⟨o', k', hf, rfl, rfl⟩ | ⟨m, ys, o', k', hf, rfl, rfl⟩)
    · exact .inr ⟨rfl, by simp, 5, .u8, o', k', 0, [], .lit 0, .lits [], ⟨rfl, hf.1.symm, hf.2.1, by decide, hf.2.2⟩, rfl, rfl, rfl, rfl⟩
    · exact .inl ⟨o', k', m, ys, .sym m, .sym ys, hf, rfl, rfl, rfl, rfl⟩
  · rintro v H ⟨o', k', m, ys, x, zs, hf, hm, hz, rfl, rfl⟩
    exact Weak.of ⟨m, ys, o', k', hf, rfl, rfl⟩ ⟨rfl, hm⟩ ⟨⟨rfl, ⟨rfl, rfl, rfl⟩, ⟨rfl, rfl⟩, ⟨rfl, rfl, rfl, fun h => h⟩, trivial⟩, ⟨rfl, ⟨rfl, rfl⟩, trivial⟩, ⟨rfl, ⟨rfl, rfl⟩, ⟨rfl, rfl, rfl⟩, trivial⟩, ⟨rfl, rfl, ⟨rfl, hz⟩, trivial⟩, trivial⟩ rfl
theorem part_y {tt : TypeId} (bs : List Int) (o k m : Int) (ys : List Int) (o' k' : Int) (hB : Bytes bs) (h0 : 0 ≤ o ∧ 0 ≤ k ∧ o + k = bs.length ∧ o + k ≤ 1024) (hg : gdP bs o) (hm : m = szP bs o) (hy : ys = ptP bs o) (ho : o' = nxP bs o) (hk : k' = o + k - o') : Ctr Tryd.prog 30 [.cells 64 [.sl 1 (.sym o) (.sym k), .int .i64 (.sym o), .nilif], .cols .ro tt [.ints .u8 (.sym bs)]] [.ptr 0 ⟨.lit 0, 1, 0⟩] fun v H => v = .vec 2 (.sym m) ∧ H = [.cells 64 [.sl 1 (.sym o') (.sym k'), .int .i64 (.sym o'), .nilif], .cols .ro tt [.ints .u8 (.sym bs)], .cols (.row 1) 5 [.ints .u8 (.sym ys)]] :=
  (part_ctr bs o k hB h0).mono fun v H h => by
    rcases h with ⟨_, _, h1, _⟩ | ⟨m2, y2, o2, k2, ⟨_, h1, h2, h3, h4, _⟩, h5, h6⟩
    · exact absurd hg h1.1
    · have := ptP_length hB h0.1 hg
      subst h2 h3
      rw [show m = m2 by omega, hy, ho, show k' = k2 by omega]; exact ⟨h5, h6⟩
theorem part_n {tt : TypeId} (bs : List Int) (o k : Int) (hB : Bytes bs) (h0 : 0 ≤ o ∧ 0 ≤ k ∧ o + k = bs.length ∧ o + k ≤ 1024) (hg : ¬ gdP bs o) : ∃ o' k', (0 ≤ o' ∧ 0 ≤ k' ∧ o' + k' = o + k) ∧ Ctr Tryd.prog 30 [.cells 64 [.sl 1 (.sym o) (.sym k), .int .i64 (.sym o), .nilif], .cols .ro tt [.ints .u8 (.sym bs)]] [.ptr 0 ⟨.lit 0, 1, 0⟩] fun v H => v = .nilsl ∧ H = [.cells 64 [.sl 1 (.sym o') (.sym k'), .int .i64 (.sym o'), .iface 68 (.ptr 2 ⟨.lit 0, 1, 0⟩)], .cols .ro tt [.ints .u8 (.sym bs)], .cells 71 [.int .i64 (.sym o), .iface 54 (.int .i64 (.sym 6))]] := by
  have hnd : 0 ≤ ndP bs o ∧ ndP bs o ≤ o + k := by unfold ndP; split <;> omega
  refine ⟨ndP bs o, o + k - ndP bs o, by omega, (part_ctr bs o k hB h0).mono fun v H h => ?_⟩
  rcases h with ⟨o2, k2, ⟨_, h1, h2, h3, h4⟩, h5, h6⟩ | ⟨_, _, _, _, h1, _⟩
  · subst h1
    rw [show o + k - ndP bs o = k2 by omega]; exact ⟨h5, h6⟩
  · exact absurd h1.1 hg
theorem part_ee {tt : TypeId} (bs : List Int) (o k p : Int) (hB : Bytes bs) (h0 : 0 ≤ o ∧ 0 ≤ k ∧ o + k = bs.length ∧ o + k ≤ 1024) : ∃ (m : Int) (ys : List Int) (o' k' : Int), (m = ys.length ∧ m ≤ 65535 ∧ 0 ≤ o' ∧ 0 ≤ k' ∧ o' + k' = o + k) ∧ Ctr Tryd.prog 30 [.cells 64 [.sl 1 (.sym o) (.sym k), .int .i64 (.sym o), .iface 68 (.ptr 2 ⟨.lit 0, 1, 0⟩)], .cols .ro tt [.ints .u8 (.sym bs)], .cells 71 [.int .i64 (.sym p), .iface 54 (.int .i64 (.sym 6))]] [.ptr 0 ⟨.lit 0, 1, 0⟩] fun v H => v = .vec 3 (.sym m) ∧ H = [.cells 64 [.sl 1 (.sym o') (.sym k'), .int .i64 (.sym o'), .iface 68 (.ptr 2 ⟨.lit 0, 1, 0⟩)], .cols .ro tt [.ints .u8 (.sym bs)], .cells 71 [.int .i64 (.sym p), .iface 54 (.int .i64 (.sym 6))], .cols (.row 1) 5 [.ints .u8 (.sym ys)]] := by
  have hb : 0 ≤ peO bs o ∧ peO bs o ≤ o + k := by
    unfold peO ndP
    have := (szP_nn hB o).1
    split
    · rename_i hg; have := hg.2; unfold nxP; omega
    · split <;> omega
  have hl : (peY bs o).length ≤ 65535 := by
    unfold peY
    split
    · rename_i hg; have := ptP_length hB h0.1 hg; have := (szP_nn hB o).2; omega
    · decide
  refine ⟨(peY bs o).length, peY bs o, peO bs o, o + k - peO bs o, ⟨rfl, by omega, by omega, by omega, by omega⟩, (part_e bs o k p hB h0).mono fun v H h => ?_⟩
  obtain ⟨m, ys, o2, k2, ⟨h1, h2, h3, h4, h5, h6, h7⟩, h8, h9⟩ := h
  subst h2 h3
  rw [← h1, show o + k - peO bs o = k2 by omega]; exact ⟨h8, h9⟩
end Go.Proofs.YtdenmaiimfnbeaaDoor
namespace Go.Proofs.YtdenmaiimfnbeaaDoor
open Go Sx
set_option maxRecDepth 100000
set_option maxHeartbeats 4000000
theorem stop_no {b : List Int} {o : Int} (n : Nat) (h : ¬ gdP b o) : stopP b (n + 1) o = o := by
  show (if gdP b o then _ else _) = _
  rw [if_neg h]
theorem stop_ok {b : List Int} {o o' : Int} (n : Nat) (h : gdP b o) (ho : o' = nxP b o) : stopP b (n + 1) o = stopP b n o' := by
  show (if gdP b o then _ else _) = _
  rw [if_pos h, ho]
theorem pts_ok {b ys : List Int} {o o' : Int} (n : Nat) (hy : ys = ptP b o) (ho : o' = nxP b o) : ptsP b (n + 1) o = ys :: ptsP b n o' := by
  show ptP b o :: ptsP b n (nxP b o) = _
  rw [hy, ho]
theorem stop_end {b : List Int} {o : Int} (h : o < b.length) : stopP b 0 o = o := by
  show (if o < (b.length : Int) then _ else _) = _
  rw [if_pos h]
theorem stop_fine {b : List Int} {o : Int} (h : ¬ o < b.length) : stopP b 0 o = -1 := by
  show (if o < (b.length : Int) then _ else _) = _
  rw [if_neg h]
/-- What Read tells: the numbers, and the parts. -/
structure Red (bs : List Int) (op a b : Int) (s t u : ByteArray) (ys : List Int) : Prop where
  len : 4 ≤ bs.length
  fine : stopP bs 4 4 = -1
  op : op = bs.getD 0 0
  a : a = bs.getD 1 0
  b : b = 256 * bs.getD 2 0 + bs.getD 3 0
  parts : ∃ x y z, ptsP bs 4 4 = [x, y, z, ys] ∧ s = strL x ∧ t = strL y ∧ u = strL z
theorem number1_y {tt : TypeId} (bs : List Int) (o k w x o' k' : Int) (hB : Bytes bs) (h0 : 0 ≤ o ∧ 0 ≤ k ∧ o + k = bs.length ∧ o + k ≤ 1024) (hw : w = 1) (hk : 1 ≤ k) (hx : x = bs.getD o.toNat 0) (ho' : o' = o + 1) (hk' : k' = k - 1) : Ctr Tryd.prog 29 [.cells 64 [.sl 1 (.sym o) (.sym k), .int .i64 (.sym o), .nilif], .cols .ro tt [.ints .u8 (.sym bs)]] [.ptr 0 ⟨.lit 0, 1, 0⟩, .int .i64 (.sym w)] fun v H => v = .int .i64 (.sym x) ∧ H = [.cells 64 [.sl 1 (.sym o') (.sym k'), .int .i64 (.sym o'), .nilif], .cols .ro tt [.ints .u8 (.sym bs)]] :=
  (number1 bs o k w hB h0 hw).mono fun v H h => by
    rcases h with ⟨_, _, h1, _⟩ | ⟨x2, o2, k2, h1, h2, h3⟩
    · omega
    · rw [hx, ← h1.2.1, show o' = o2 by omega, show k' = k2 by omega]; exact ⟨h2, h3⟩
theorem number1_n {tt : TypeId} (bs : List Int) (o k w z p : Int) (hB : Bytes bs) (h0 : 0 ≤ o ∧ 0 ≤ k ∧ o + k = bs.length ∧ o + k ≤ 1024) (hw : w = 1) (hk : ¬ 1 ≤ k) (hz : z = 0) (hp : p = o + k) : Ctr Tryd.prog 29 [.cells 64 [.sl 1 (.sym o) (.sym k), .int .i64 (.sym o), .nilif], .cols .ro tt [.ints .u8 (.sym bs)]] [.ptr 0 ⟨.lit 0, 1, 0⟩, .int .i64 (.sym w)] fun v H => v = .int .i64 (.sym z) ∧ H = [.cells 64 [.sl 1 (.sym o) (.sym k), .int .i64 (.sym o), .iface 68 (.ptr 2 ⟨.lit 0, 1, 0⟩)], .cols .ro tt [.ints .u8 (.sym bs)], .cells 71 [.int .i64 (.sym p), .iface 54 (.int .i64 (.sym 6))]] :=
  (number1 bs o k w hB h0 hw).mono fun v H h => by
    rcases h with ⟨p2, z2, h1, h2, h3⟩ | ⟨x2, o2, k2, h1, _⟩
    · rw [show p = p2 by omega, show z = z2 by omega]; exact ⟨h2, h3⟩
    · omega
theorem number2_y {tt : TypeId} (bs : List Int) (o k w x o' k' : Int) (hB : Bytes bs) (h0 : 0 ≤ o ∧ 0 ≤ k ∧ o + k = bs.length ∧ o + k ≤ 1024) (hw : w = 2) (hk : 2 ≤ k) (hx : x = 256 * bs.getD o.toNat 0 + bs.getD (o + 1).toNat 0) (ho' : o' = o + 2) (hk' : k' = k - 2) : Ctr Tryd.prog 29 [.cells 64 [.sl 1 (.sym o) (.sym k), .int .i64 (.sym o), .nilif], .cols .ro tt [.ints .u8 (.sym bs)]] [.ptr 0 ⟨.lit 0, 1, 0⟩, .int .i64 (.sym w)] fun v H => v = .int .i64 (.sym x) ∧ H = [.cells 64 [.sl 1 (.sym o') (.sym k'), .int .i64 (.sym o'), .nilif], .cols .ro tt [.ints .u8 (.sym bs)]] :=
  (number2 bs o k w hB h0 hw).mono fun v H h => by
    rcases h with ⟨_, _, h1, _⟩ | ⟨x2, o2, k2, h1, h2, h3⟩
    · omega
    · rw [hx, ← h1.2.1, show o' = o2 by omega, show k' = k2 by omega]; exact ⟨h2, h3⟩
theorem number2_n {tt : TypeId} (bs : List Int) (o k w z p : Int) (hB : Bytes bs) (h0 : 0 ≤ o ∧ 0 ≤ k ∧ o + k = bs.length ∧ o + k ≤ 1024) (hw : w = 2) (hk : ¬ 2 ≤ k) (hz : z = 0) (hp : p = o + k) : Ctr Tryd.prog 29 [.cells 64 [.sl 1 (.sym o) (.sym k), .int .i64 (.sym o), .nilif], .cols .ro tt [.ints .u8 (.sym bs)]] [.ptr 0 ⟨.lit 0, 1, 0⟩, .int .i64 (.sym w)] fun v H => v = .int .i64 (.sym z) ∧ H = [.cells 64 [.sl 1 (.sym o) (.sym k), .int .i64 (.sym o), .iface 68 (.ptr 2 ⟨.lit 0, 1, 0⟩)], .cols .ro tt [.ints .u8 (.sym bs)], .cells 71 [.int .i64 (.sym p), .iface 54 (.int .i64 (.sym 6))]] :=
  (number2 bs o k w hB h0 hw).mono fun v H h => by
    rcases h with ⟨p2, z2, h1, h2, h3⟩ | ⟨x2, o2, k2, h1, _⟩
    · rw [show p = p2 by omega, show z = z2 by omega]; exact ⟨h2, h3⟩
    · omega
theorem read_ctr {tt : TypeId} (bs : List Int) (n : Int) (hn : n = bs.length) (hB : Bytes bs) (hn9 : n ≤ 100000) : Ctr Tryd.prog 16 [.cols .ro tt [.ints .u8 (.sym bs)]] [.sl 0 (.lit 0) (.sym n)] fun v H =>
    (1024 < n ∧ v = .tup [.agg [.int .i64 (.lit 0), .int .i64 (.lit 0), .int .i64 (.lit 0), .str (.lit []), .str (.lit []), .str (.lit []), .nilsl], .iface 54 (.int .i64 (.sym 2))] ∧ H = [.cols .ro tt [.ints .u8 (.sym bs)]]) ∨
    (∃ p, (n ≤ 1024 ∧ p = wrongP bs 4 4 ∧ 0 ≤ p) ∧ v = .tup [.agg [.int .i64 (.lit 0), .int .i64 (.lit 0), .int .i64 (.lit 0), .str (.lit []), .str (.lit []), .str (.lit []), .nilsl], .iface 68 (.ptr 1 ⟨.lit 0, 1, 0⟩)] ∧ H = [.cols .ro tt [.ints .u8 (.sym bs)], .cells 71 [.int .i64 (.sym p), .iface 54 (.int .i64 (.sym 6))]]) ∨
    (∃ op a b s t u m ys, (n ≤ 1024 ∧ m = ys.length ∧ Red bs op a b s t u ys) ∧ v = .tup [.agg [.int .i64 (.sym op), .int .i64 (.sym a), .int .i64 (.sym b), .str (.sym s), .str (.sym t), .str (.sym u), .vec 1 (.sym m)], .nilif] ∧ H = [.cols .ro tt [.ints .u8 (.sym bs)], .cols (.row 1) 5 [.ints .u8 (.sym ys)]]) := by
  have n0 : 0 ≤ n := by omega
  obtain ⟨x0, ex0⟩ : ∃ x, x = bs.getD (0 : Int).toNat 0 := ⟨_, rfl⟩
  obtain ⟨o1, eo1⟩ : ∃ x, x = (0 : Int) + 1 := ⟨_, rfl⟩
  obtain ⟨k1, ek1⟩ : ∃ x, x = n - 1 := ⟨_, rfl⟩
  obtain ⟨x1, ex1⟩ : ∃ x, x = bs.getD o1.toNat 0 := ⟨_, rfl⟩
  obtain ⟨o2, eo2⟩ : ∃ x, x = o1 + 1 := ⟨_, rfl⟩
  obtain ⟨k2, ek2⟩ : ∃ x, x = k1 - 1 := ⟨_, rfl⟩
  obtain ⟨x2, ex2⟩ : ∃ x, x = 256 * bs.getD o2.toNat 0 + bs.getD (o2 + 1).toNat 0 := ⟨_, rfl⟩
  obtain ⟨q0, eq0⟩ : ∃ x, x = o2 + 2 := ⟨_, rfl⟩
  obtain ⟨k4, ek4⟩ : ∃ x, x = k2 - 2 := ⟨_, rfl⟩
  obtain ⟨z, ez⟩ : ∃ x, x = (0 : Int) := ⟨_, rfl⟩
  obtain ⟨m1, em1⟩ : ∃ x, x = szP bs q0 := ⟨_, rfl⟩
  obtain ⟨y1, ey1⟩ : ∃ x, x = ptP bs q0 := ⟨_, rfl⟩
  obtain ⟨q1, eq1⟩ : ∃ x, x = nxP bs q0 := ⟨_, rfl⟩
  obtain ⟨r1, er1⟩ : ∃ x, x = q0 + k4 - q1 := ⟨_, rfl⟩
  obtain ⟨m2, em2⟩ : ∃ x, x = szP bs q1 := ⟨_, rfl⟩
  obtain ⟨y2, ey2⟩ : ∃ x, x = ptP bs q1 := ⟨_, rfl⟩
  obtain ⟨q2, eq2⟩ : ∃ x, x = nxP bs q1 := ⟨_, rfl⟩
  obtain ⟨r2, er2⟩ : ∃ x, x = q1 + r1 - q2 := ⟨_, rfl⟩
  obtain ⟨m3, em3⟩ : ∃ x, x = szP bs q2 := ⟨_, rfl⟩
  obtain ⟨y3, ey3⟩ : ∃ x, x = ptP bs q2 := ⟨_, rfl⟩
  obtain ⟨q3, eq3⟩ : ∃ x, x = nxP bs q2 := ⟨_, rfl⟩
  obtain ⟨r3, er3⟩ : ∃ x, x = q2 + r2 - q3 := ⟨_, rfl⟩
  obtain ⟨m4, em4⟩ : ∃ x, x = szP bs q3 := ⟨_, rfl⟩
  obtain ⟨y4, ey4⟩ : ∃ x, x = ptP bs q3 := ⟨_, rfl⟩
  obtain ⟨q4, eq4⟩ : ∃ x, x = nxP bs q3 := ⟨_, rfl⟩
  obtain ⟨r4, er4⟩ : ∃ x, x = q3 + r3 - q4 := ⟨_, rfl⟩
  have g1 : gdP bs q0 → 0 ≤ q0 → q0 ≤ q1 ∧ q1 ≤ n ∧ 0 ≤ m1 ∧ m1 ≤ 65535 ∧ (y1.length : Int) = m1 := fun h h0 => by
    have h1 := (szP_nn hB q0)
    have h2 := ptP_length hB h0 h
    have h3 := h.2
    rw [← ey1] at h2
    unfold nxP at eq1
    omega
  have g2 : gdP bs q1 → 0 ≤ q1 → q1 ≤ q2 ∧ q2 ≤ n ∧ 0 ≤ m2 ∧ m2 ≤ 65535 ∧ (y2.length : Int) = m2 := fun h h0 => by
    have h1 := (szP_nn hB q1)
    have h2 := ptP_length hB h0 h
    have h3 := h.2
    rw [← ey2] at h2
    unfold nxP at eq2
    omega
  have g3 : gdP bs q2 → 0 ≤ q2 → q2 ≤ q3 ∧ q3 ≤ n ∧ 0 ≤ m3 ∧ m3 ≤ 65535 ∧ (y3.length : Int) = m3 := fun h h0 => by
    have h1 := (szP_nn hB q2)
    have h2 := ptP_length hB h0 h
    have h3 := h.2
    rw [← ey3] at h2
    unfold nxP at eq3
    omega
  have g4 : gdP bs q3 → 0 ≤ q3 → q3 ≤ q4 ∧ q4 ≤ n ∧ 0 ≤ m4 ∧ m4 ≤ 65535 ∧ (y4.length : Int) = m4 := fun h h0 => by
    have h1 := (szP_nn hB q3)
    have h2 := ptP_length hB h0 h
    have h3 := h.2
    rw [← ey4] at h2
    unfold nxP at eq4
    omega
  obtain ⟨uI, uB, uS, uL, uT, hu⟩ := words
  have hm := mixed
  have hT := tabOk
  have hNy := @number1_y
  have hNn := @number1_n
  have hN2y := @number2_y
  have hN2n := @number2_n
  have hE1 := @number1_e
  have hE2 := @number2_e
  have hPy := @part_y
  have hPn := @part_n
  have hEp := @part_ee
  have hEn := @end_ctr
  have hEe := @end_e
  obtain ⟨P, hP⟩ : ∃ P, P = Tryd.prog := ⟨_, rfl⟩
  rw [← hP] at hm hT hNy hNn hN2y hN2n hE1 hE2 hPy hPn hEp hEn hEe ⊢
  refine Ctr.weak (ctr_of_vc hu hm hT (hP ▸ Tryd.func16) rfl (by kernel_rfl) ?_)
  clear hP hm hT
  generalize hR : Weak _ _ = R
  conv => cbv
  repeat' (first | ((with_reducible intro (h : _ = _)); (try subst h); (try simp only [hu.b, hu.i, iB, iI, cmpB, ivs, ivl, lrs, lrl, trs, trl, decide_eq_true_eq, decide_eq_false_iff_not, beq_iff_eq, beq_eq_false_iff_ne, ne_eq, ofN, Int.toNat_zero, Int.toNat_one, Int.reduceToNat, natc, hu.s, iS, svs, svl, true_iff, false_iff, Bool.false_eq_true, bne_iff_ne, bne_eq_false_iff_eq, Bool.not_eq_true', Bool.not_eq_false', Decidable.not_not, nil_toList, ByteArray.size_empty, nilS, not_true_eq_false, not_false_eq_true, hu.l, iL, hu.t, iT, bin_add, bin_sub, bin_mul, wr_u8, wr_u16, wr_u32, wr_u64, IntKind.wrap_i64, List.length_append, List.length_cons, List.length_nil, List.nil_append, List.append_nil, List.cons_append, lvals, List.length_replicate, List.length_set, linV_val hu, Int.add_zero, Int.zero_add, Int.mul_one, Int.sub_zero, Int.zero_mul, Bool.true_eq_false, false_and, and_false, true_and, and_true, List.all_cons, List.all_nil, id_eq, Bool.and_true] at h) <;> (try simp only [Int.ofNat_eq_natCast] at h) <;> (first | (have hF0 : False := by omega; exact hF0.elim) | (conv => cbv))) | (with_reducible refine And.intro ?_ ?_) | (first | (refine CallDet.cases (1 ≤ n) (fun hc => CallDet.mkR ?_ (hNy bs 0 n 1 x0 o1 k1 hB ?_ rfl ?_ ex0 eo1 ek1)) (fun hc => CallDet.mkR ?_ (hNn bs 0 n 1 z n hB ?_ rfl ?_ ez ?_))) | (refine CallVC.cases (1 ≤ n) (fun hc => CallVC.mkR ?_ (hNy bs 0 n 1 x0 o1 k1 hB ?_ rfl ?_ ex0 eo1 ek1)) (fun hc => CallVC.mkR ?_ (hNn bs 0 n 1 z n hB ?_ rfl ?_ ez ?_)))) | (first | (refine CallDet.cases (1 ≤ k1) (fun hc => CallDet.mkR ?_ (hNy bs o1 k1 1 x1 o2 k2 hB ?_ rfl ?_ ex1 eo2 ek2)) (fun hc => CallDet.mkR ?_ (hNn bs o1 k1 1 z n hB ?_ rfl ?_ ez ?_))) | (refine CallVC.cases (1 ≤ k1) (fun hc => CallVC.mkR ?_ (hNy bs o1 k1 1 x1 o2 k2 hB ?_ rfl ?_ ex1 eo2 ek2)) (fun hc => CallVC.mkR ?_ (hNn bs o1 k1 1 z n hB ?_ rfl ?_ ez ?_)))) | (first | (refine CallDet.cases (2 ≤ k2) (fun hc => CallDet.mkR ?_ (hN2y bs o2 k2 2 x2 q0 k4 hB ?_ rfl ?_ ex2 eq0 ek4)) (fun hc => CallDet.mkR ?_ (hN2n bs o2 k2 2 z n hB ?_ rfl ?_ ez ?_))) | (refine CallVC.cases (2 ≤ k2) (fun hc => CallVC.mkR ?_ (hN2y bs o2 k2 2 x2 q0 k4 hB ?_ rfl ?_ ex2 eq0 ek4)) (fun hc => CallVC.mkR ?_ (hN2n bs o2 k2 2 z n hB ?_ rfl ?_ ez ?_)))) | (refine CallVC.mk (Ctr.monoR ?_ (hE1 _ _ _ 1 _ hB ?_ rfl)); ((rintro v H ⟨ex, eo, ek, he, rfl, rfl⟩) <;> (try simp only [hu.b, hu.i, iB, iI, cmpB, ivs, ivl, lrs, lrl, trs, trl, decide_eq_true_eq, decide_eq_false_iff_not, beq_iff_eq, beq_eq_false_iff_ne, ne_eq, ofN, Int.toNat_zero, Int.toNat_one, Int.reduceToNat, natc, hu.s, iS, svs, svl, true_iff, false_iff, Bool.false_eq_true, bne_iff_ne, bne_eq_false_iff_eq, Bool.not_eq_true', Bool.not_eq_false', Decidable.not_not, nil_toList, ByteArray.size_empty, nilS, not_true_eq_false, not_false_eq_true, hu.l, iL, hu.t, iT, bin_add, bin_sub, bin_mul, wr_u8, wr_u16, wr_u32, wr_u64, IntKind.wrap_i64, List.length_append, List.length_cons, List.length_nil, List.nil_append, List.append_nil, List.cons_append, lvals, List.length_replicate, List.length_set, linV_val hu, Int.add_zero, Int.zero_add, Int.mul_one, Int.sub_zero, Int.zero_mul, Bool.true_eq_false, false_and, and_false, true_and, and_true, List.all_cons, List.all_nil, id_eq, Bool.and_true] at he) <;> (try simp only [Int.ofNat_eq_natCast] at he) <;> (first | (have hF0 : False := by omega; exact hF0.elim) | (conv => cbv)))) | (refine CallVC.mk (Ctr.monoR ?_ (hE2 _ _ _ 2 _ hB ?_ rfl)); ((rintro v H ⟨ex, eo, ek, he, rfl, rfl⟩) <;> (try simp only [hu.b, hu.i, iB, iI, cmpB, ivs, ivl, lrs, lrl, trs, trl, decide_eq_true_eq, decide_eq_false_iff_not, beq_iff_eq, beq_eq_false_iff_ne, ne_eq, ofN, Int.toNat_zero, Int.toNat_one, Int.reduceToNat, natc, hu.s, iS, svs, svl, true_iff, false_iff, Bool.false_eq_true, bne_iff_ne, bne_eq_false_iff_eq, Bool.not_eq_true', Bool.not_eq_false', Decidable.not_not, nil_toList, ByteArray.size_empty, nilS, not_true_eq_false, not_false_eq_true, hu.l, iL, hu.t, iT, bin_add, bin_sub, bin_mul, wr_u8, wr_u16, wr_u32, wr_u64, IntKind.wrap_i64, List.length_append, List.length_cons, List.length_nil, List.nil_append, List.append_nil, List.cons_append, lvals, List.length_replicate, List.length_set, linV_val hu, Int.add_zero, Int.zero_add, Int.mul_one, Int.sub_zero, Int.zero_mul, Bool.true_eq_false, false_and, and_false, true_and, and_true, List.all_cons, List.all_nil, id_eq, Bool.and_true] at he) <;> (try simp only [Int.ofNat_eq_natCast] at he) <;> (first | (have hF0 : False := by omega; exact hF0.elim) | (conv => cbv)))) | (first | (refine CallDet.cases (gdP bs q0) (fun hc => CallDet.mkR ?_ (hPy bs q0 k4 m1 y1 q1 r1 hB ?_ hc em1 ey1 eq1 er1)) (fun hc => CallDet.exR2 ?_ (hPn bs q0 k4 hB ?_ hc))) | (refine CallVC.cases (gdP bs q0) (fun hc => CallVC.mkR ?_ (hPy bs q0 k4 m1 y1 q1 r1 hB ?_ hc em1 ey1 eq1 er1)) (fun hc => CallVC.exR2 ?_ (hPn bs q0 k4 hB ?_ hc)))) | (first | (refine CallDet.cases (gdP bs q1) (fun hc => CallDet.mkR ?_ (hPy bs q1 r1 m2 y2 q2 r2 hB ?_ hc em2 ey2 eq2 er2)) (fun hc => CallDet.exR2 ?_ (hPn bs q1 r1 hB ?_ hc))) | (refine CallVC.cases (gdP bs q1) (fun hc => CallVC.mkR ?_ (hPy bs q1 r1 m2 y2 q2 r2 hB ?_ hc em2 ey2 eq2 er2)) (fun hc => CallVC.exR2 ?_ (hPn bs q1 r1 hB ?_ hc)))) | (first | (refine CallDet.cases (gdP bs q2) (fun hc => CallDet.mkR ?_ (hPy bs q2 r2 m3 y3 q3 r3 hB ?_ hc em3 ey3 eq3 er3)) (fun hc => CallDet.exR2 ?_ (hPn bs q2 r2 hB ?_ hc))) | (refine CallVC.cases (gdP bs q2) (fun hc => CallVC.mkR ?_ (hPy bs q2 r2 m3 y3 q3 r3 hB ?_ hc em3 ey3 eq3 er3)) (fun hc => CallVC.exR2 ?_ (hPn bs q2 r2 hB ?_ hc)))) | (first | (refine CallDet.cases (gdP bs q3) (fun hc => CallDet.mkR ?_ (hPy bs q3 r3 m4 y4 q4 r4 hB ?_ hc em4 ey4 eq4 er4)) (fun hc => CallDet.exR2 ?_ (hPn bs q3 r3 hB ?_ hc))) | (refine CallVC.cases (gdP bs q3) (fun hc => CallVC.mkR ?_ (hPy bs q3 r3 m4 y4 q4 r4 hB ?_ hc em4 ey4 eq4 er4)) (fun hc => CallVC.exR2 ?_ (hPn bs q3 r3 hB ?_ hc)))) | (first | (refine CallDet.exR4 ?_ (hEp _ _ _ _ hB ?_)) | (refine CallVC.exR4 ?_ (hEp _ _ _ _ hB ?_))) | (refine CallVC.mk (Ctr.monoR ?_ (hEn _ _ _)); ((rintro v H (⟨hf, rfl, rfl⟩ | ⟨h3, rfl, rfl⟩)) <;> (try simp only [hu.b, hu.i, iB, iI, cmpB, ivs, ivl, lrs, lrl, trs, trl, decide_eq_true_eq, decide_eq_false_iff_not, beq_iff_eq, beq_eq_false_iff_ne, ne_eq, ofN, Int.toNat_zero, Int.toNat_one, Int.reduceToNat, natc, hu.s, iS, svs, svl, true_iff, false_iff, Bool.false_eq_true, bne_iff_ne, bne_eq_false_iff_eq, Bool.not_eq_true', Bool.not_eq_false', Decidable.not_not, nil_toList, ByteArray.size_empty, nilS, not_true_eq_false, not_false_eq_true, hu.l, iL, hu.t, iT, bin_add, bin_sub, bin_mul, wr_u8, wr_u16, wr_u32, wr_u64, IntKind.wrap_i64, List.length_append, List.length_cons, List.length_nil, List.nil_append, List.append_nil, List.cons_append, lvals, List.length_replicate, List.length_set, linV_val hu, Int.add_zero, Int.zero_add, Int.mul_one, Int.sub_zero, Int.zero_mul, Bool.true_eq_false, false_and, and_false, true_and, and_true, List.all_cons, List.all_nil, id_eq, Bool.and_true] at hf) <;> (try simp only [hu.b, hu.i, iB, iI, cmpB, ivs, ivl, lrs, lrl, trs, trl, decide_eq_true_eq, decide_eq_false_iff_not, beq_iff_eq, beq_eq_false_iff_ne, ne_eq, ofN, Int.toNat_zero, Int.toNat_one, Int.reduceToNat, natc, hu.s, iS, svs, svl, true_iff, false_iff, Bool.false_eq_true, bne_iff_ne, bne_eq_false_iff_eq, Bool.not_eq_true', Bool.not_eq_false', Decidable.not_not, nil_toList, ByteArray.size_empty, nilS, not_true_eq_false, not_false_eq_true, hu.l, iL, hu.t, iT, bin_add, bin_sub, bin_mul, wr_u8, wr_u16, wr_u32, wr_u64, IntKind.wrap_i64, List.length_append, List.length_cons, List.length_nil, List.nil_append, List.append_nil, List.cons_append, lvals, List.length_replicate, List.length_set, linV_val hu, Int.add_zero, Int.zero_add, Int.mul_one, Int.sub_zero, Int.zero_mul, Bool.true_eq_false, false_and, and_false, true_and, and_true, List.all_cons, List.all_nil, id_eq, Bool.and_true] at h3) <;> (try simp only [Int.ofNat_eq_natCast] at hf) <;> (try simp only [Int.ofNat_eq_natCast] at h3) <;> (first | (have hF0 : False := by omega; exact hF0.elim) | (conv => cbv)))) | (first | (refine CallDet.mkR ?_ (hEe _ _ _ _)) | (refine CallVC.mkR ?_ (hEe _ _ _ _))) | ((try simp only [hu.b, hu.i, iB, iI, cmpB, ivs, ivl, lrs, lrl, trs, trl, decide_eq_true_eq, decide_eq_false_iff_not, beq_iff_eq, beq_eq_false_iff_ne, ne_eq, ofN, Int.toNat_zero, Int.toNat_one, Int.reduceToNat, natc, hu.s, iS, svs, svl, true_iff, false_iff, Bool.false_eq_true, bne_iff_ne, bne_eq_false_iff_eq, Bool.not_eq_true', Bool.not_eq_false', Decidable.not_not, nil_toList, ByteArray.size_empty, nilS, not_true_eq_false, not_false_eq_true, hu.l, iL, hu.t, iT, bin_add, bin_sub, bin_mul, wr_u8, wr_u16, wr_u32, wr_u64, IntKind.wrap_i64, List.length_append, List.length_cons, List.length_nil, List.nil_append, List.append_nil, List.cons_append, lvals, List.length_replicate, List.length_set, linV_val hu, Int.add_zero, Int.zero_add, Int.mul_one, Int.sub_zero, Int.zero_mul, Bool.true_eq_false, false_and, and_false, true_and, and_true, List.all_cons, List.all_nil, id_eq, Bool.and_true]) <;> (try simp only [Int.ofNat_eq_natCast]) <;> (first | (have f1 := g1 (by assumption) (by omega); omega) | (have f1 := g1 (by assumption) (by omega); have f2 := g2 (by assumption) (by omega); omega) | (have f1 := g1 (by assumption) (by omega); have f2 := g2 (by assumption) (by omega); have f3 := g3 (by assumption) (by omega); omega) | (have f1 := g1 (by assumption) (by omega); have f2 := g2 (by assumption) (by omega); have f3 := g3 (by assumption) (by omega); have f4 := g4 (by assumption) (by omega); omega))) | (refine Gen0.mk ?_; (conv => cbv)) | (with_reducible refine Pick.view ?_; (conv => cbv)) | (refine GenP2.mk ?_; ((intro eo ek he) <;> (try simp only [hu.b, hu.i, iB, iI, cmpB, ivs, ivl, lrs, lrl, trs, trl, decide_eq_true_eq, decide_eq_false_iff_not, beq_iff_eq, beq_eq_false_iff_ne, ne_eq, ofN, Int.toNat_zero, Int.toNat_one, Int.reduceToNat, natc, hu.s, iS, svs, svl, true_iff, false_iff, Bool.false_eq_true, bne_iff_ne, bne_eq_false_iff_eq, Bool.not_eq_true', Bool.not_eq_false', Decidable.not_not, nil_toList, ByteArray.size_empty, nilS, not_true_eq_false, not_false_eq_true, hu.l, iL, hu.t, iT, bin_add, bin_sub, bin_mul, wr_u8, wr_u16, wr_u32, wr_u64, IntKind.wrap_i64, List.length_append, List.length_cons, List.length_nil, List.nil_append, List.append_nil, List.cons_append, lvals, List.length_replicate, List.length_set, linV_val hu, Int.add_zero, Int.zero_add, Int.mul_one, Int.sub_zero, Int.zero_mul, Bool.true_eq_false, false_and, and_false, true_and, and_true, List.all_cons, List.all_nil, id_eq, Bool.and_true] at he) <;> (try simp only [Int.ofNat_eq_natCast] at he) <;> (first | (have hF0 : False := by omega; exact hF0.elim) | (conv => cbv)))) | (refine GenP4.mk ?_; ((intro em ey eo ek he) <;> (try simp only [hu.b, hu.i, iB, iI, cmpB, ivs, ivl, lrs, lrl, trs, trl, decide_eq_true_eq, decide_eq_false_iff_not, beq_iff_eq, beq_eq_false_iff_ne, ne_eq, ofN, Int.toNat_zero, Int.toNat_one, Int.reduceToNat, natc, hu.s, iS, svs, svl, true_iff, false_iff, Bool.false_eq_true, bne_iff_ne, bne_eq_false_iff_eq, Bool.not_eq_true', Bool.not_eq_false', Decidable.not_not, nil_toList, ByteArray.size_empty, nilS, not_true_eq_false, not_false_eq_true, hu.l, iL, hu.t, iT, bin_add, bin_sub, bin_mul, wr_u8, wr_u16, wr_u32, wr_u64, IntKind.wrap_i64, List.length_append, List.length_cons, List.length_nil, List.nil_append, List.append_nil, List.cons_append, lvals, List.length_replicate, List.length_set, linV_val hu, Int.add_zero, Int.zero_add, Int.mul_one, Int.sub_zero, Int.zero_mul, Bool.true_eq_false, false_and, and_false, true_and, and_true, List.all_cons, List.all_nil, id_eq, Bool.and_true] at he) <;> (try simp only [Int.ofNat_eq_natCast] at he) <;> (first | (have hF0 : False := by omega; exact hF0.elim) | (conv => cbv)))) | (simp only [hu.b, hu.i, iB, iI, cmpB, ivs, ivl, lrs, lrl, trs, trl, decide_eq_true_eq, decide_eq_false_iff_not, beq_iff_eq, beq_eq_false_iff_ne, ne_eq, ofN, Int.toNat_zero, Int.toNat_one, Int.reduceToNat, natc, hu.s, iS, svs, svl, true_iff, false_iff, Bool.false_eq_true, bne_iff_ne, bne_eq_false_iff_eq, Bool.not_eq_true', Bool.not_eq_false', Decidable.not_not, nil_toList, ByteArray.size_empty, nilS, not_true_eq_false, not_false_eq_true, hu.l, iL, hu.t, iT, bin_add, bin_sub, bin_mul, wr_u8, wr_u16, wr_u32, wr_u64, IntKind.wrap_i64, List.length_append, List.length_cons, List.length_nil, List.nil_append, List.append_nil, List.cons_append, lvals, List.length_replicate, List.length_set, linV_val hu, Int.add_zero, Int.zero_add, Int.mul_one, Int.sub_zero, Int.zero_mul, Bool.true_eq_false, false_and, and_false, true_and, and_true, List.all_cons, List.all_nil, id_eq, Bool.and_true]; (try simp only [Int.ofNat_eq_natCast]); done) | ((try simp only [hu.b, hu.i, iB, iI, cmpB, ivs, ivl, lrs, lrl, trs, trl, decide_eq_true_eq, decide_eq_false_iff_not, beq_iff_eq, beq_eq_false_iff_ne, ne_eq, ofN, Int.toNat_zero, Int.toNat_one, Int.reduceToNat, natc, hu.s, iS, svs, svl, true_iff, false_iff, Bool.false_eq_true, bne_iff_ne, bne_eq_false_iff_eq, Bool.not_eq_true', Bool.not_eq_false', Decidable.not_not, nil_toList, ByteArray.size_empty, nilS, not_true_eq_false, not_false_eq_true, hu.l, iL, hu.t, iT, bin_add, bin_sub, bin_mul, wr_u8, wr_u16, wr_u32, wr_u64, IntKind.wrap_i64, List.length_append, List.length_cons, List.length_nil, List.nil_append, List.append_nil, List.cons_append, lvals, List.length_replicate, List.length_set, linV_val hu, Int.add_zero, Int.zero_add, Int.mul_one, Int.sub_zero, Int.zero_mul, Bool.true_eq_false, false_and, and_false, true_and, and_true, List.all_cons, List.all_nil, id_eq, Bool.and_true]) <;> (try simp only [Int.ofNat_eq_natCast]) <;> omega))
  all_goals clear hNy hNn hN2y hN2n hE1 hE2 hPy hPn hEp hEn hEe
  · subst hR
    refine Weak.of ((.inl ⟨by omega, rfl, rfl⟩)) ?_ ?_ (by rfl)
    all_goals ((conv => cbv); repeat' (first | exact True.intro | with_reducible rfl | (with_reducible exact fun h => h) | (with_reducible refine And.intro ?_ ?_)))
  · have e4 : (4 : Int) = q0 := by omega
    have f1 := g1 (by assumption) (by omega)
    have f2 := g2 (by assumption) (by omega)
    have f3 := g3 (by assumption) (by omega)
    have f4 := g4 (by assumption) (by omega)
    have hw : q4 = wrongP bs 4 4 := by
      unfold wrongP
      rw [if_neg (by omega), e4, stop_ok 3 (by assumption) eq1, stop_ok 2 (by assumption) eq2, stop_ok 1 (by assumption) eq3, stop_ok 0 (by assumption) eq4, stop_end (by omega)]
    subst hR
    refine Weak.of ((.inr (.inl ⟨q4, ⟨by omega, hw, by omega⟩, rfl, rfl⟩))) ?_ ?_ (by rfl)
    all_goals ((conv => cbv); repeat' (first | exact True.intro | with_reducible rfl | (with_reducible exact fun h => h) | (with_reducible refine And.intro ?_ ?_)))
  · have e4 : (4 : Int) = q0 := by omega
    have f1 := g1 (by assumption) (by omega)
    have f2 := g2 (by assumption) (by omega)
    have f3 := g3 (by assumption) (by omega)
    have f4 := g4 (by assumption) (by omega)
    obtain ⟨s1, es1⟩ : ∃ x, x = strL y1 := ⟨_, rfl⟩
    obtain ⟨s2, es2⟩ : ∃ x, x = strL y2 := ⟨_, rfl⟩
    obtain ⟨s3, es3⟩ : ∃ x, x = strL y3 := ⟨_, rfl⟩
    have hst : stopP bs 4 4 = -1 := by rw [e4, stop_ok 3 (by assumption) eq1, stop_ok 2 (by assumption) eq2, stop_ok 1 (by assumption) eq3, stop_ok 0 (by assumption) eq4, stop_fine (by omega)]
    have hpt : ptsP bs 4 4 = [y1, y2, y3, y4] := by rw [e4, pts_ok 3 ey1 eq1, pts_ok 2 ey2 eq2, pts_ok 1 ey3 eq3, pts_ok 0 ey4 eq4]; rfl
    have hx1 : x1 = bs.getD 1 0 := by rw [ex1, eo1]; rfl
    have hx2 : x2 = 256 * bs.getD 2 0 + bs.getD 3 0 := by rw [ex2, eo2, eo1]; rfl
    have hred : Red bs x0 x1 x2 s1 s2 s3 y4 := ⟨by omega, hst, ex0, hx1, hx2, y1, y2, y3, hpt, es1, es2, es3⟩
    subst hR
    refine Weak.of ((.inr (.inr ⟨x0, x1, x2, s1, s2, s3, m4, y4, ⟨by omega, f4.2.2.2.2.symm, hred⟩, rfl, rfl⟩))) ?_ ?_ (by rfl)
    all_goals ((conv => cbv); repeat' (first | exact True.intro | with_reducible rfl | (with_reducible exact fun h => h) | (with_reducible refine And.intro ?_ ?_)))
    · ((try simp only [hu.b, hu.i, iB, iI, cmpB, ivs, ivl, lrs, lrl, trs, trl, decide_eq_true_eq, decide_eq_false_iff_not, beq_iff_eq, beq_eq_false_iff_ne, ne_eq, ofN, Int.toNat_zero, Int.toNat_one, Int.reduceToNat, natc, hu.s, iS, svs, svl, true_iff, false_iff, Bool.false_eq_true, bne_iff_ne, bne_eq_false_iff_eq, Bool.not_eq_true', Bool.not_eq_false', Decidable.not_not, nil_toList, ByteArray.size_empty, nilS, not_true_eq_false, not_false_eq_true, hu.l, iL, hu.t, iT, bin_add, bin_sub, bin_mul, wr_u8, wr_u16, wr_u32, wr_u64, IntKind.wrap_i64, List.length_append, List.length_cons, List.length_nil, List.nil_append, List.append_nil, List.cons_append, lvals, List.length_replicate, List.length_set, linV_val hu, Int.add_zero, Int.zero_add, Int.mul_one, Int.sub_zero, Int.zero_mul, Bool.true_eq_false, false_and, and_false, true_and, and_true, List.all_cons, List.all_nil, id_eq, Bool.and_true]) <;> (try simp only [Int.ofNat_eq_natCast]) <;> (try omega))
      exact es1.symm
    · ((try simp only [hu.b, hu.i, iB, iI, cmpB, ivs, ivl, lrs, lrl, trs, trl, decide_eq_true_eq, decide_eq_false_iff_not, beq_iff_eq, beq_eq_false_iff_ne, ne_eq, ofN, Int.toNat_zero, Int.toNat_one, Int.reduceToNat, natc, hu.s, iS, svs, svl, true_iff, false_iff, Bool.false_eq_true, bne_iff_ne, bne_eq_false_iff_eq, Bool.not_eq_true', Bool.not_eq_false', Decidable.not_not, nil_toList, ByteArray.size_empty, nilS, not_true_eq_false, not_false_eq_true, hu.l, iL, hu.t, iT, bin_add, bin_sub, bin_mul, wr_u8, wr_u16, wr_u32, wr_u64, IntKind.wrap_i64, List.length_append, List.length_cons, List.length_nil, List.nil_append, List.append_nil, List.cons_append, lvals, List.length_replicate, List.length_set, linV_val hu, Int.add_zero, Int.zero_add, Int.mul_one, Int.sub_zero, Int.zero_mul, Bool.true_eq_false, false_and, and_false, true_and, and_true, List.all_cons, List.all_nil, id_eq, Bool.and_true]) <;> (try simp only [Int.ofNat_eq_natCast]) <;> (try omega))
      exact es2.symm
    · ((try simp only [hu.b, hu.i, iB, iI, cmpB, ivs, ivl, lrs, lrl, trs, trl, decide_eq_true_eq, decide_eq_false_iff_not, beq_iff_eq, beq_eq_false_iff_ne, ne_eq, ofN, Int.toNat_zero, Int.toNat_one, Int.reduceToNat, natc, hu.s, iS, svs, svl, true_iff, false_iff, Bool.false_eq_true, bne_iff_ne, bne_eq_false_iff_eq, Bool.not_eq_true', Bool.not_eq_false', Decidable.not_not, nil_toList, ByteArray.size_empty, nilS, not_true_eq_false, not_false_eq_true, hu.l, iL, hu.t, iT, bin_add, bin_sub, bin_mul, wr_u8, wr_u16, wr_u32, wr_u64, IntKind.wrap_i64, List.length_append, List.length_cons, List.length_nil, List.nil_append, List.append_nil, List.cons_append, lvals, List.length_replicate, List.length_set, linV_val hu, Int.add_zero, Int.zero_add, Int.mul_one, Int.sub_zero, Int.zero_mul, Bool.true_eq_false, false_and, and_false, true_and, and_true, List.all_cons, List.all_nil, id_eq, Bool.and_true]) <;> (try simp only [Int.ofNat_eq_natCast]) <;> (try omega))
      exact es3.symm
  · have e4 : (4 : Int) = q0 := by omega
    have f1 := g1 (by assumption) (by omega)
    have f2 := g2 (by assumption) (by omega)
    have f3 := g3 (by assumption) (by omega)
    have hw : q3 = wrongP bs 4 4 := by
      unfold wrongP
      rw [if_neg (by omega), e4, stop_ok 3 (by assumption) eq1, stop_ok 2 (by assumption) eq2, stop_ok 1 (by assumption) eq3, stop_no 0 (by assumption)]
    subst hR
    refine Weak.of ((.inr (.inl ⟨q3, ⟨by omega, hw, by omega⟩, rfl, rfl⟩))) ?_ ?_ (by rfl)
    all_goals ((conv => cbv); repeat' (first | exact True.intro | with_reducible rfl | (with_reducible exact fun h => h) | (with_reducible refine And.intro ?_ ?_)))
  · have e4 : (4 : Int) = q0 := by omega
    have f1 := g1 (by assumption) (by omega)
    have f2 := g2 (by assumption) (by omega)
    have hw : q2 = wrongP bs 4 4 := by
      unfold wrongP
      rw [if_neg (by omega), e4, stop_ok 3 (by assumption) eq1, stop_ok 2 (by assumption) eq2, stop_no 1 (by assumption)]
    subst hR
    refine Weak.of ((.inr (.inl ⟨q2, ⟨by omega, hw, by omega⟩, rfl, rfl⟩))) ?_ ?_ (by rfl)
    all_goals ((conv => cbv); repeat' (first | exact True.intro | with_reducible rfl | (with_reducible exact fun h => h) | (with_reducible refine And.intro ?_ ?_)))
  · have e4 : (4 : Int) = q0 := by omega
    have f1 := g1 (by assumption) (by omega)
    have hw : q1 = wrongP bs 4 4 := by
      unfold wrongP
      rw [if_neg (by omega), e4, stop_ok 3 (by assumption) eq1, stop_no 2 (by assumption)]
    subst hR
    refine Weak.of ((.inr (.inl ⟨q1, ⟨by omega, hw, by omega⟩, rfl, rfl⟩))) ?_ ?_ (by rfl)
    all_goals ((conv => cbv); repeat' (first | exact True.intro | with_reducible rfl | (with_reducible exact fun h => h) | (with_reducible refine And.intro ?_ ?_)))
  · have e4 : (4 : Int) = q0 := by omega
    have hw : q0 = wrongP bs 4 4 := by
      unfold wrongP
      rw [if_neg (by omega), e4, stop_no 3 (by assumption)]
    subst hR
    refine Weak.of ((.inr (.inl ⟨q0, ⟨by omega, hw, by omega⟩, rfl, rfl⟩))) ?_ ?_ (by rfl)
    all_goals ((conv => cbv); repeat' (first | exact True.intro | with_reducible rfl | (with_reducible exact fun h => h) | (with_reducible refine And.intro ?_ ?_)))
  · have hw : n = wrongP bs 4 4 := by
      unfold wrongP
      rw [if_pos (by omega), hn]
    subst hR
    refine Weak.of ((.inr (.inl ⟨n, ⟨by omega, hw, by omega⟩, rfl, rfl⟩))) ?_ ?_ (by rfl)
    all_goals ((conv => cbv); repeat' (first | exact True.intro | with_reducible rfl | (with_reducible exact fun h => h) | (with_reducible refine And.intro ?_ ?_)))
  · have hw : n = wrongP bs 4 4 := by
      unfold wrongP
      rw [if_pos (by omega), hn]
    subst hR
    refine Weak.of ((.inr (.inl ⟨n, ⟨by omega, hw, by omega⟩, rfl, rfl⟩))) ?_ ?_ (by rfl)
    all_goals ((conv => cbv); repeat' (first | exact True.intro | with_reducible rfl | (with_reducible exact fun h => h) | (with_reducible refine And.intro ?_ ?_)))
  · have hw : n = wrongP bs 4 4 := by
      unfold wrongP
      rw [if_pos (by omega), hn]
    subst hR
    refine Weak.of ((.inr (.inl ⟨n, ⟨by omega, hw, by omega⟩, rfl, rfl⟩))) ?_ ?_ (by rfl)
    all_goals ((conv => cbv); repeat' (first | exact True.intro | with_reducible rfl | (with_reducible exact fun h => h) | (with_reducible refine And.intro ?_ ?_)))
end Go.Proofs.YtdenmaiimfnbeaaDoor
namespace Go.Proofs.YtdenmaiimfnbeaaDoor
open Go Sx
set_option maxRecDepth 100000
set_option maxHeartbeats 4000000
/-- What Answer tells. -/
structure RedA (bs : List Int) (op : Int) (s : ByteArray) (ys : List Int) : Prop where
  len : 1 ≤ bs.length
  fine : stopP bs 2 1 = -1
  op : op = bs.getD 0 0
  parts : ∃ x, ptsP bs 2 1 = [x, ys] ∧ s = strL x
theorem answer_ctr {tt : TypeId} (bs : List Int) (n : Int) (hn : n = bs.length) (hB : Bytes bs) (hn9 : n ≤ 100000) : Ctr Tryd.prog 19 [.cols .ro tt [.ints .u8 (.sym bs)]] [.sl 0 (.lit 0) (.sym n)] fun v H =>
    (1024 < n ∧ v = .tup [.agg [.int .i64 (.lit 0), .str (.lit []), .nilsl], .iface 54 (.int .i64 (.sym 2))] ∧ H = [.cols .ro tt [.ints .u8 (.sym bs)]]) ∨
    (∃ p, (n ≤ 1024 ∧ p = wrongP bs 1 2 ∧ 0 ≤ p) ∧ v = .tup [.agg [.int .i64 (.lit 0), .str (.lit []), .nilsl], .iface 68 (.ptr 1 ⟨.lit 0, 1, 0⟩)] ∧ H = [.cols .ro tt [.ints .u8 (.sym bs)], .cells 71 [.int .i64 (.sym p), .iface 54 (.int .i64 (.sym 6))]]) ∨
    (∃ op s m ys, (n ≤ 1024 ∧ m = ys.length ∧ RedA bs op s ys) ∧ v = .tup [.agg [.int .i64 (.sym op), .str (.sym s), .vec 1 (.sym m)], .nilif] ∧ H = [.cols .ro tt [.ints .u8 (.sym bs)], .cols (.row 1) 5 [.ints .u8 (.sym ys)]]) := by
  have n0 : 0 ≤ n := by omega
  obtain ⟨x0, ex0⟩ : ∃ x, x = bs.getD (0 : Int).toNat 0 := ⟨_, rfl⟩
  obtain ⟨q0, eq0⟩ : ∃ x, x = (0 : Int) + 1 := ⟨_, rfl⟩
  obtain ⟨k4, ek4⟩ : ∃ x, x = n - 1 := ⟨_, rfl⟩
  obtain ⟨z, ez⟩ : ∃ x, x = (0 : Int) := ⟨_, rfl⟩
  obtain ⟨m1, em1⟩ : ∃ x, x = szP bs q0 := ⟨_, rfl⟩
  obtain ⟨y1, ey1⟩ : ∃ x, x = ptP bs q0 := ⟨_, rfl⟩
  obtain ⟨q1, eq1⟩ : ∃ x, x = nxP bs q0 := ⟨_, rfl⟩
  obtain ⟨r1, er1⟩ : ∃ x, x = q0 + k4 - q1 := ⟨_, rfl⟩
  obtain ⟨m2, em2⟩ : ∃ x, x = szP bs q1 := ⟨_, rfl⟩
  obtain ⟨y2, ey2⟩ : ∃ x, x = ptP bs q1 := ⟨_, rfl⟩
  obtain ⟨q2, eq2⟩ : ∃ x, x = nxP bs q1 := ⟨_, rfl⟩
  obtain ⟨r2, er2⟩ : ∃ x, x = q1 + r1 - q2 := ⟨_, rfl⟩
  have g1 : gdP bs q0 → 0 ≤ q0 → q0 ≤ q1 ∧ q1 ≤ n ∧ 0 ≤ m1 ∧ m1 ≤ 65535 ∧ (y1.length : Int) = m1 := fun h h0 => by
    have h1 := (szP_nn hB q0)
    have h2 := ptP_length hB h0 h
    have h3 := h.2
    rw [← ey1] at h2
    unfold nxP at eq1
    omega
  have g2 : gdP bs q1 → 0 ≤ q1 → q1 ≤ q2 ∧ q2 ≤ n ∧ 0 ≤ m2 ∧ m2 ≤ 65535 ∧ (y2.length : Int) = m2 := fun h h0 => by
    have h1 := (szP_nn hB q1)
    have h2 := ptP_length hB h0 h
    have h3 := h.2
    rw [← ey2] at h2
    unfold nxP at eq2
    omega
  obtain ⟨uI, uB, uS, uL, uT, hu⟩ := words
  have hm := mixed
  have hT := tabOk
  have hNy := @number1_y
  have hNn := @number1_n
  have hE1 := @number1_e
  have hPy := @part_y
  have hPn := @part_n
  have hEp := @part_ee
  have hEn := @end_ctr
  have hEe := @end_e
  obtain ⟨P, hP⟩ : ∃ P, P = Tryd.prog := ⟨_, rfl⟩
  rw [← hP] at hm hT hNy hNn hE1 hPy hPn hEp hEn hEe ⊢
  refine Ctr.weak (ctr_of_vc hu hm hT (hP ▸ Tryd.func19) rfl (by kernel_rfl) ?_)
  clear hP hm hT
  generalize hR : Weak _ _ = R
  conv => cbv
  repeat' (first | ((with_reducible intro (h : _ = _)); (try subst h); (try simp only [hu.b, hu.i, iB, iI, cmpB, ivs, ivl, lrs, lrl, trs, trl, decide_eq_true_eq, decide_eq_false_iff_not, beq_iff_eq, beq_eq_false_iff_ne, ne_eq, ofN, Int.toNat_zero, Int.toNat_one, Int.reduceToNat, natc, hu.s, iS, svs, svl, true_iff, false_iff, Bool.false_eq_true, bne_iff_ne, bne_eq_false_iff_eq, Bool.not_eq_true', Bool.not_eq_false', Decidable.not_not, nil_toList, ByteArray.size_empty, nilS, not_true_eq_false, not_false_eq_true, hu.l, iL, hu.t, iT, bin_add, bin_sub, bin_mul, wr_u8, wr_u16, wr_u32, wr_u64, IntKind.wrap_i64, List.length_append, List.length_cons, List.length_nil, List.nil_append, List.append_nil, List.cons_append, lvals, List.length_replicate, List.length_set, linV_val hu, Int.add_zero, Int.zero_add, Int.mul_one, Int.sub_zero, Int.zero_mul, Bool.true_eq_false, false_and, and_false, true_and, and_true, List.all_cons, List.all_nil, id_eq, Bool.and_true] at h) <;> (try simp only [Int.ofNat_eq_natCast] at h) <;> (first | (have hF0 : False := by omega; exact hF0.elim) | (conv => cbv))) | (with_reducible refine And.intro ?_ ?_) | (first | (refine CallDet.cases (1 ≤ n) (fun hc => CallDet.mkR ?_ (hNy bs 0 n 1 x0 q0 k4 hB ?_ rfl ?_ ex0 eq0 ek4)) (fun hc => CallDet.mkR ?_ (hNn bs 0 n 1 z n hB ?_ rfl ?_ ez ?_))) | (refine CallVC.cases (1 ≤ n) (fun hc => CallVC.mkR ?_ (hNy bs 0 n 1 x0 q0 k4 hB ?_ rfl ?_ ex0 eq0 ek4)) (fun hc => CallVC.mkR ?_ (hNn bs 0 n 1 z n hB ?_ rfl ?_ ez ?_)))) | (first | (refine CallDet.cases (gdP bs q0) (fun hc => CallDet.mkR ?_ (hPy bs q0 k4 m1 y1 q1 r1 hB ?_ hc em1 ey1 eq1 er1)) (fun hc => CallDet.exR2 ?_ (hPn bs q0 k4 hB ?_ hc))) | (refine CallVC.cases (gdP bs q0) (fun hc => CallVC.mkR ?_ (hPy bs q0 k4 m1 y1 q1 r1 hB ?_ hc em1 ey1 eq1 er1)) (fun hc => CallVC.exR2 ?_ (hPn bs q0 k4 hB ?_ hc)))) | (first | (refine CallDet.cases (gdP bs q1) (fun hc => CallDet.mkR ?_ (hPy bs q1 r1 m2 y2 q2 r2 hB ?_ hc em2 ey2 eq2 er2)) (fun hc => CallDet.exR2 ?_ (hPn bs q1 r1 hB ?_ hc))) | (refine CallVC.cases (gdP bs q1) (fun hc => CallVC.mkR ?_ (hPy bs q1 r1 m2 y2 q2 r2 hB ?_ hc em2 ey2 eq2 er2)) (fun hc => CallVC.exR2 ?_ (hPn bs q1 r1 hB ?_ hc)))) | (first | (refine CallDet.exR4 ?_ (hEp _ _ _ _ hB ?_)) | (refine CallVC.exR4 ?_ (hEp _ _ _ _ hB ?_))) | (refine CallVC.mk (Ctr.monoR ?_ (hEn _ _ _)); ((rintro v H (⟨hf, rfl, rfl⟩ | ⟨h3, rfl, rfl⟩)) <;> (try simp only [hu.b, hu.i, iB, iI, cmpB, ivs, ivl, lrs, lrl, trs, trl, decide_eq_true_eq, decide_eq_false_iff_not, beq_iff_eq, beq_eq_false_iff_ne, ne_eq, ofN, Int.toNat_zero, Int.toNat_one, Int.reduceToNat, natc, hu.s, iS, svs, svl, true_iff, false_iff, Bool.false_eq_true, bne_iff_ne, bne_eq_false_iff_eq, Bool.not_eq_true', Bool.not_eq_false', Decidable.not_not, nil_toList, ByteArray.size_empty, nilS, not_true_eq_false, not_false_eq_true, hu.l, iL, hu.t, iT, bin_add, bin_sub, bin_mul, wr_u8, wr_u16, wr_u32, wr_u64, IntKind.wrap_i64, List.length_append, List.length_cons, List.length_nil, List.nil_append, List.append_nil, List.cons_append, lvals, List.length_replicate, List.length_set, linV_val hu, Int.add_zero, Int.zero_add, Int.mul_one, Int.sub_zero, Int.zero_mul, Bool.true_eq_false, false_and, and_false, true_and, and_true, List.all_cons, List.all_nil, id_eq, Bool.and_true] at hf) <;> (try simp only [hu.b, hu.i, iB, iI, cmpB, ivs, ivl, lrs, lrl, trs, trl, decide_eq_true_eq, decide_eq_false_iff_not, beq_iff_eq, beq_eq_false_iff_ne, ne_eq, ofN, Int.toNat_zero, Int.toNat_one, Int.reduceToNat, natc, hu.s, iS, svs, svl, true_iff, false_iff, Bool.false_eq_true, bne_iff_ne, bne_eq_false_iff_eq, Bool.not_eq_true', Bool.not_eq_false', Decidable.not_not, nil_toList, ByteArray.size_empty, nilS, not_true_eq_false, not_false_eq_true, hu.l, iL, hu.t, iT, bin_add, bin_sub, bin_mul, wr_u8, wr_u16, wr_u32, wr_u64, IntKind.wrap_i64, List.length_append, List.length_cons, List.length_nil, List.nil_append, List.append_nil, List.cons_append, lvals, List.length_replicate, List.length_set, linV_val hu, Int.add_zero, Int.zero_add, Int.mul_one, Int.sub_zero, Int.zero_mul, Bool.true_eq_false, false_and, and_false, true_and, and_true, List.all_cons, List.all_nil, id_eq, Bool.and_true] at h3) <;> (try simp only [Int.ofNat_eq_natCast] at hf) <;> (try simp only [Int.ofNat_eq_natCast] at h3) <;> (first | (have hF0 : False := by omega; exact hF0.elim) | (conv => cbv)))) | (first | (refine CallDet.mkR ?_ (hEe _ _ _ _)) | (refine CallVC.mkR ?_ (hEe _ _ _ _))) | ((try simp only [hu.b, hu.i, iB, iI, cmpB, ivs, ivl, lrs, lrl, trs, trl, decide_eq_true_eq, decide_eq_false_iff_not, beq_iff_eq, beq_eq_false_iff_ne, ne_eq, ofN, Int.toNat_zero, Int.toNat_one, Int.reduceToNat, natc, hu.s, iS, svs, svl, true_iff, false_iff, Bool.false_eq_true, bne_iff_ne, bne_eq_false_iff_eq, Bool.not_eq_true', Bool.not_eq_false', Decidable.not_not, nil_toList, ByteArray.size_empty, nilS, not_true_eq_false, not_false_eq_true, hu.l, iL, hu.t, iT, bin_add, bin_sub, bin_mul, wr_u8, wr_u16, wr_u32, wr_u64, IntKind.wrap_i64, List.length_append, List.length_cons, List.length_nil, List.nil_append, List.append_nil, List.cons_append, lvals, List.length_replicate, List.length_set, linV_val hu, Int.add_zero, Int.zero_add, Int.mul_one, Int.sub_zero, Int.zero_mul, Bool.true_eq_false, false_and, and_false, true_and, and_true, List.all_cons, List.all_nil, id_eq, Bool.and_true]) <;> (try simp only [Int.ofNat_eq_natCast]) <;> (first | (have f1 := g1 (by assumption) (by omega); omega) | (have f1 := g1 (by assumption) (by omega); have f2 := g2 (by assumption) (by omega); omega))) | (refine Gen0.mk ?_; (conv => cbv)) | (with_reducible refine Pick.view ?_; (conv => cbv)) | (refine GenP2.mk ?_; ((intro eo ek he) <;> (try simp only [hu.b, hu.i, iB, iI, cmpB, ivs, ivl, lrs, lrl, trs, trl, decide_eq_true_eq, decide_eq_false_iff_not, beq_iff_eq, beq_eq_false_iff_ne, ne_eq, ofN, Int.toNat_zero, Int.toNat_one, Int.reduceToNat, natc, hu.s, iS, svs, svl, true_iff, false_iff, Bool.false_eq_true, bne_iff_ne, bne_eq_false_iff_eq, Bool.not_eq_true', Bool.not_eq_false', Decidable.not_not, nil_toList, ByteArray.size_empty, nilS, not_true_eq_false, not_false_eq_true, hu.l, iL, hu.t, iT, bin_add, bin_sub, bin_mul, wr_u8, wr_u16, wr_u32, wr_u64, IntKind.wrap_i64, List.length_append, List.length_cons, List.length_nil, List.nil_append, List.append_nil, List.cons_append, lvals, List.length_replicate, List.length_set, linV_val hu, Int.add_zero, Int.zero_add, Int.mul_one, Int.sub_zero, Int.zero_mul, Bool.true_eq_false, false_and, and_false, true_and, and_true, List.all_cons, List.all_nil, id_eq, Bool.and_true] at he) <;> (try simp only [Int.ofNat_eq_natCast] at he) <;> (first | (have hF0 : False := by omega; exact hF0.elim) | (conv => cbv)))) | (refine GenP4.mk ?_; ((intro em ey eo ek he) <;> (try simp only [hu.b, hu.i, iB, iI, cmpB, ivs, ivl, lrs, lrl, trs, trl, decide_eq_true_eq, decide_eq_false_iff_not, beq_iff_eq, beq_eq_false_iff_ne, ne_eq, ofN, Int.toNat_zero, Int.toNat_one, Int.reduceToNat, natc, hu.s, iS, svs, svl, true_iff, false_iff, Bool.false_eq_true, bne_iff_ne, bne_eq_false_iff_eq, Bool.not_eq_true', Bool.not_eq_false', Decidable.not_not, nil_toList, ByteArray.size_empty, nilS, not_true_eq_false, not_false_eq_true, hu.l, iL, hu.t, iT, bin_add, bin_sub, bin_mul, wr_u8, wr_u16, wr_u32, wr_u64, IntKind.wrap_i64, List.length_append, List.length_cons, List.length_nil, List.nil_append, List.append_nil, List.cons_append, lvals, List.length_replicate, List.length_set, linV_val hu, Int.add_zero, Int.zero_add, Int.mul_one, Int.sub_zero, Int.zero_mul, Bool.true_eq_false, false_and, and_false, true_and, and_true, List.all_cons, List.all_nil, id_eq, Bool.and_true] at he) <;> (try simp only [Int.ofNat_eq_natCast] at he) <;> (first | (have hF0 : False := by omega; exact hF0.elim) | (conv => cbv)))) | (simp only [hu.b, hu.i, iB, iI, cmpB, ivs, ivl, lrs, lrl, trs, trl, decide_eq_true_eq, decide_eq_false_iff_not, beq_iff_eq, beq_eq_false_iff_ne, ne_eq, ofN, Int.toNat_zero, Int.toNat_one, Int.reduceToNat, natc, hu.s, iS, svs, svl, true_iff, false_iff, Bool.false_eq_true, bne_iff_ne, bne_eq_false_iff_eq, Bool.not_eq_true', Bool.not_eq_false', Decidable.not_not, nil_toList, ByteArray.size_empty, nilS, not_true_eq_false, not_false_eq_true, hu.l, iL, hu.t, iT, bin_add, bin_sub, bin_mul, wr_u8, wr_u16, wr_u32, wr_u64, IntKind.wrap_i64, List.length_append, List.length_cons, List.length_nil, List.nil_append, List.append_nil, List.cons_append, lvals, List.length_replicate, List.length_set, linV_val hu, Int.add_zero, Int.zero_add, Int.mul_one, Int.sub_zero, Int.zero_mul, Bool.true_eq_false, false_and, and_false, true_and, and_true, List.all_cons, List.all_nil, id_eq, Bool.and_true]; (try simp only [Int.ofNat_eq_natCast]); done) | ((try simp only [hu.b, hu.i, iB, iI, cmpB, ivs, ivl, lrs, lrl, trs, trl, decide_eq_true_eq, decide_eq_false_iff_not, beq_iff_eq, beq_eq_false_iff_ne, ne_eq, ofN, Int.toNat_zero, Int.toNat_one, Int.reduceToNat, natc, hu.s, iS, svs, svl, true_iff, false_iff, Bool.false_eq_true, bne_iff_ne, bne_eq_false_iff_eq, Bool.not_eq_true', Bool.not_eq_false', Decidable.not_not, nil_toList, ByteArray.size_empty, nilS, not_true_eq_false, not_false_eq_true, hu.l, iL, hu.t, iT, bin_add, bin_sub, bin_mul, wr_u8, wr_u16, wr_u32, wr_u64, IntKind.wrap_i64, List.length_append, List.length_cons, List.length_nil, List.nil_append, List.append_nil, List.cons_append, lvals, List.length_replicate, List.length_set, linV_val hu, Int.add_zero, Int.zero_add, Int.mul_one, Int.sub_zero, Int.zero_mul, Bool.true_eq_false, false_and, and_false, true_and, and_true, List.all_cons, List.all_nil, id_eq, Bool.and_true]) <;> (try simp only [Int.ofNat_eq_natCast]) <;> omega))
  all_goals clear hNy hNn hE1 hPy hPn hEp hEn hEe
  · subst hR
    refine Weak.of ((.inl ⟨by omega, rfl, rfl⟩)) ?_ ?_ (by rfl)
    all_goals ((conv => cbv); repeat' (first | exact True.intro | with_reducible rfl | (with_reducible exact fun h => h) | (with_reducible refine And.intro ?_ ?_)))
  · have e4 : (1 : Int) = q0 := by omega
    have f1 := g1 (by assumption) (by omega)
    have f2 := g2 (by assumption) (by omega)
    have hw : q2 = wrongP bs 1 2 := by
      unfold wrongP
      rw [if_neg (by omega), congrArg (stopP bs 2) e4, stop_ok 1 (by assumption) eq1, stop_ok 0 (by assumption) eq2, stop_end (by omega)]
    subst hR
    refine Weak.of ((.inr (.inl ⟨q2, ⟨by omega, hw, by omega⟩, rfl, rfl⟩))) ?_ ?_ (by rfl)
    all_goals ((conv => cbv); repeat' (first | exact True.intro | with_reducible rfl | (with_reducible exact fun h => h) | (with_reducible refine And.intro ?_ ?_)))
  · have e4 : (1 : Int) = q0 := by omega
    have f1 := g1 (by assumption) (by omega)
    have f2 := g2 (by assumption) (by omega)
    obtain ⟨s1, es1⟩ : ∃ x, x = strL y1 := ⟨_, rfl⟩
    have hst : stopP bs 2 1 = -1 := by rw [congrArg (stopP bs 2) e4, stop_ok 1 (by assumption) eq1, stop_ok 0 (by assumption) eq2, stop_fine (by omega)]
    have hpt : ptsP bs 2 1 = [y1, y2] := by rw [congrArg (ptsP bs 2) e4, pts_ok 1 ey1 eq1, pts_ok 0 ey2 eq2]; rfl
    have hred : RedA bs x0 s1 y2 := ⟨by omega, hst, ex0, y1, hpt, es1⟩
    subst hR
    refine Weak.of ((.inr (.inr ⟨x0, s1, m2, y2, ⟨by omega, f2.2.2.2.2.symm, hred⟩, rfl, rfl⟩))) ?_ ?_ (by rfl)
    all_goals ((conv => cbv); repeat' (first | exact True.intro | with_reducible rfl | (with_reducible exact fun h => h) | (with_reducible refine And.intro ?_ ?_)))
    · ((try simp only [hu.b, hu.i, iB, iI, cmpB, ivs, ivl, lrs, lrl, trs, trl, decide_eq_true_eq, decide_eq_false_iff_not, beq_iff_eq, beq_eq_false_iff_ne, ne_eq, ofN, Int.toNat_zero, Int.toNat_one, Int.reduceToNat, natc, hu.s, iS, svs, svl, true_iff, false_iff, Bool.false_eq_true, bne_iff_ne, bne_eq_false_iff_eq, Bool.not_eq_true', Bool.not_eq_false', Decidable.not_not, nil_toList, ByteArray.size_empty, nilS, not_true_eq_false, not_false_eq_true, hu.l, iL, hu.t, iT, bin_add, bin_sub, bin_mul, wr_u8, wr_u16, wr_u32, wr_u64, IntKind.wrap_i64, List.length_append, List.length_cons, List.length_nil, List.nil_append, List.append_nil, List.cons_append, lvals, List.length_replicate, List.length_set, linV_val hu, Int.add_zero, Int.zero_add, Int.mul_one, Int.sub_zero, Int.zero_mul, Bool.true_eq_false, false_and, and_false, true_and, and_true, List.all_cons, List.all_nil, id_eq, Bool.and_true]) <;> (try simp only [Int.ofNat_eq_natCast]) <;> (try omega))
      exact es1.symm
  · have e4 : (1 : Int) = q0 := by omega
    have f1 := g1 (by assumption) (by omega)
    have hw : q1 = wrongP bs 1 2 := by
      unfold wrongP
      rw [if_neg (by omega), congrArg (stopP bs 2) e4, stop_ok 1 (by assumption) eq1, stop_no 0 (by assumption)]
    subst hR
    refine Weak.of ((.inr (.inl ⟨q1, ⟨by omega, hw, by omega⟩, rfl, rfl⟩))) ?_ ?_ (by rfl)
    all_goals ((conv => cbv); repeat' (first | exact True.intro | with_reducible rfl | (with_reducible exact fun h => h) | (with_reducible refine And.intro ?_ ?_)))
  · have e4 : (1 : Int) = q0 := by omega
    have hw : q0 = wrongP bs 1 2 := by
      unfold wrongP
      rw [if_neg (by omega), congrArg (stopP bs 2) e4, stop_no 1 (by assumption)]
    subst hR
    refine Weak.of ((.inr (.inl ⟨q0, ⟨by omega, hw, by omega⟩, rfl, rfl⟩))) ?_ ?_ (by rfl)
    all_goals ((conv => cbv); repeat' (first | exact True.intro | with_reducible rfl | (with_reducible exact fun h => h) | (with_reducible refine And.intro ?_ ?_)))
  · have hw : n = wrongP bs 1 2 := by
      unfold wrongP
      rw [if_pos (by omega), hn]
    subst hR
    refine Weak.of ((.inr (.inl ⟨n, ⟨by omega, hw, by omega⟩, rfl, rfl⟩))) ?_ ?_ (by rfl)
    all_goals ((conv => cbv); repeat' (first | exact True.intro | with_reducible rfl | (with_reducible exact fun h => h) | (with_reducible refine And.intro ?_ ?_)))
end Go.Proofs.YtdenmaiimfnbeaaDoor
namespace Go.Proofs.YtdenmaiimfnbeaaDoor
open Go Sx
set_option maxRecDepth 100000
set_option maxHeartbeats 4000000
theorem parts_ctr {tt : TypeId} (bs : List Int) (n st c : Int) (N : Nat) (hn : n = bs.length) (hB : Bytes bs) (hn9 : n ≤ 2000) (hc0 : c = N) (hN : N ≤ 16) (hst : 0 ≤ st ∧ st ≤ 16) : Ctr Tryd.prog 23 [.cols .ro tt [.ints .u8 (.sym bs)]] [.sl 0 (.lit 0) (.sym n), .int .i64 (.sym st), .int .i64 (.sym c)] fun v H =>
    (∃ p, (p = wrongP bs st N ∧ 0 ≤ p) ∧ v = .tup [.nilsl, .int .i64 (.sym p)] ∧ H = [.cols .ro tt [.ints .u8 (.sym bs)]]) ∨
    (∃ q xss e, (st ≤ n ∧ stopP bs N st = -1 ∧ q = c ∧ q = xss.length ∧ xss = ptsP bs N st ∧ e = -1) ∧ v = .tup [.vec 1 (.sym q), .int .i64 (.sym e)] ∧ H = [.cols .ro tt [.ints .u8 (.sym bs)], .srow 22 .u8 xss]) := by
  have n0 : 0 ≤ n := by omega
  obtain ⟨uI, uB, uS, uL, uT, hu⟩ := words
  have hm := mixed
  have hT := tabOk
  obtain ⟨P, hP⟩ : ∃ P, P = Tryd.prog := ⟨_, rfl⟩
  rw [← hP] at hm hT ⊢
  refine Ctr.weak (ctr_of_vc hu hm hT (hP ▸ Tryd.func23) rfl (by kernel_rfl) ?_)
  clear hP hm hT
  generalize hR : Weak _ _ = R
  conv => cbv
  repeat' (first | ((with_reducible intro (h : _ = _)); (try subst h); (try simp only [hu.b, hu.i, iB, iI, cmpB, ivs, ivl, lrs, lrl, trs, trl, decide_eq_true_eq, decide_eq_false_iff_not, beq_iff_eq, beq_eq_false_iff_ne, ne_eq, ofN, Int.toNat_zero, Int.toNat_one, Int.reduceToNat, natc, hu.s, iS, svs, svl, true_iff, false_iff, Bool.false_eq_true, bne_iff_ne, bne_eq_false_iff_eq, Bool.not_eq_true', Bool.not_eq_false', Decidable.not_not, nil_toList, ByteArray.size_empty, nilS, not_true_eq_false, not_false_eq_true, hu.l, iL, hu.t, iT, bin_add, bin_sub, bin_mul, wr_u8, wr_u16, wr_u32, wr_u64, IntKind.wrap_i64, List.length_append, List.length_cons, List.length_nil, List.nil_append, List.append_nil, List.cons_append, lvals, List.length_replicate, List.length_set, linV_val hu, Int.add_zero, Int.zero_add, Int.mul_one, Int.sub_zero, Int.zero_mul, Bool.true_eq_false, false_and, and_false, true_and, and_true, List.all_cons, List.all_nil, id_eq, Bool.and_true] at h) <;> (try simp only [Int.ofNat_eq_natCast] at h) <;> (first | (have hF0 : False := by omega; exact hF0.elim) | (conv => cbv))) | (with_reducible refine And.intro ?_ ?_) | (refine Gen0.mk ?_; (conv => cbv)) | (with_reducible refine Pick.view ?_; (conv => cbv)) | (simp only [hu.b, hu.i, iB, iI, cmpB, ivs, ivl, lrs, lrl, trs, trl, decide_eq_true_eq, decide_eq_false_iff_not, beq_iff_eq, beq_eq_false_iff_ne, ne_eq, ofN, Int.toNat_zero, Int.toNat_one, Int.reduceToNat, natc, hu.s, iS, svs, svl, true_iff, false_iff, Bool.false_eq_true, bne_iff_ne, bne_eq_false_iff_eq, Bool.not_eq_true', Bool.not_eq_false', Decidable.not_not, nil_toList, ByteArray.size_empty, nilS, not_true_eq_false, not_false_eq_true, hu.l, iL, hu.t, iT, bin_add, bin_sub, bin_mul, wr_u8, wr_u16, wr_u32, wr_u64, IntKind.wrap_i64, List.length_append, List.length_cons, List.length_nil, List.nil_append, List.append_nil, List.cons_append, lvals, List.length_replicate, List.length_set, linV_val hu, Int.add_zero, Int.zero_add, Int.mul_one, Int.sub_zero, Int.zero_mul, Bool.true_eq_false, false_and, and_false, true_and, and_true, List.all_cons, List.all_nil, id_eq, Bool.and_true]; (try simp only [Int.ofNat_eq_natCast]); done) | ((try simp only [hu.b, hu.i, iB, iI, cmpB, ivs, ivl, lrs, lrl, trs, trl, decide_eq_true_eq, decide_eq_false_iff_not, beq_iff_eq, beq_eq_false_iff_ne, ne_eq, ofN, Int.toNat_zero, Int.toNat_one, Int.reduceToNat, natc, hu.s, iS, svs, svl, true_iff, false_iff, Bool.false_eq_true, bne_iff_ne, bne_eq_false_iff_eq, Bool.not_eq_true', Bool.not_eq_false', Decidable.not_not, nil_toList, ByteArray.size_empty, nilS, not_true_eq_false, not_false_eq_true, hu.l, iL, hu.t, iT, bin_add, bin_sub, bin_mul, wr_u8, wr_u16, wr_u32, wr_u64, IntKind.wrap_i64, List.length_append, List.length_cons, List.length_nil, List.nil_append, List.append_nil, List.cons_append, lvals, List.length_replicate, List.length_set, linV_val hu, Int.add_zero, Int.zero_add, Int.mul_one, Int.sub_zero, Int.zero_mul, Bool.true_eq_false, false_and, and_false, true_and, and_true, List.all_cons, List.all_nil, id_eq, Bool.and_true]) <;> (try simp only [Int.ofNat_eq_natCast]) <;> omega))
  · have hw : n = wrongP bs st N := by unfold wrongP; rw [if_pos (by omega), hn]
    subst hR
    refine Weak.of ((.inl ⟨n, ⟨hw, n0⟩, rfl, rfl⟩)) ?_ ?_ (by rfl)
    all_goals ((conv => cbv); repeat' (first | exact True.intro | with_reducible rfl | (with_reducible exact fun h => h) | (with_reducible refine And.intro ?_ ?_)))
  have hsn : st ≤ n := by omega
  refine .nilxrow 9 22 .u8 (by kernel_rfl) rfl ?_
  refine .invr (Int × Int × List (List Int)) [8, 9, 10] (fun g => ([.int .i64 (.sym g.2.1), .vec 1 (.sym g.1), .int .i64 (.sym g.1)], [.cols .ro tt [.ints .u8 (.sym bs)], .srow 22 .u8 g.2.2])) (fun g => 0 ≤ g.1 ∧ g.1 ≤ c ∧ 0 ≤ g.2.1 ∧ g.2.1 ≤ n ∧ (g.2.2.length : Int) = g.1 ∧ stopP bs N st = stopP bs (N - g.1.toNat) g.2.1 ∧ ptsP bs N st = g.2.2 ++ ptsP bs (N - g.1.toNat) g.2.1) (fun g => (c - g.1).toNat) (0, st, []) (by kernel_rfl) (fun g hg => by kernel_rfl) ?_ ?_
  · refine ⟨⟨by dsimp only; omega, by dsimp only; omega, by dsimp only; omega, by dsimp only; omega, rfl, rfl, rfl⟩, ?_, ?_⟩
    all_goals
      ((conv => cbv); repeat' (first | exact True.intro | with_reducible rfl | (with_reducible exact fun h => h) | (with_reducible refine And.intro ?_ ?_)))
    all_goals
      ((try simp only [hu.b, hu.i, iB, iI, cmpB, ivs, ivl, lrs, lrl, trs, trl, decide_eq_true_eq, decide_eq_false_iff_not, beq_iff_eq, beq_eq_false_iff_ne, ne_eq, ofN, Int.toNat_zero, Int.toNat_one, Int.reduceToNat, natc, hu.s, iS, svs, svl, true_iff, false_iff, Bool.false_eq_true, bne_iff_ne, bne_eq_false_iff_eq, Bool.not_eq_true', Bool.not_eq_false', Decidable.not_not, nil_toList, ByteArray.size_empty, nilS, not_true_eq_false, not_false_eq_true, hu.l, iL, hu.t, iT, bin_add, bin_sub, bin_mul, wr_u8, wr_u16, wr_u32, wr_u64, IntKind.wrap_i64, List.length_append, List.length_cons, List.length_nil, List.nil_append, List.append_nil, List.cons_append, lvals, List.length_replicate, List.length_set, linV_val hu, Int.add_zero, Int.zero_add, Int.mul_one, Int.sub_zero, Int.zero_mul, Bool.true_eq_false, false_and, and_false, true_and, and_true, List.all_cons, List.all_nil, id_eq, Bool.and_true]) <;> (try simp only [Int.ofNat_eq_natCast]) <;> (try omega))
  rintro ⟨i, o, xss⟩ hq
  simp only [] at hq
  have q0 := hq.1; have q1 := hq.2.1; have q2 := hq.2.2.1; have q3 := hq.2.2.2.1; have q4 := hq.2.2.2.2.1; have q5 := hq.2.2.2.2.2.1; have q6 := hq.2.2.2.2.2.2
  clear hq
  have hb0 := hB.get o.toNat
  have hb1 := hB.get (o + 1).toNat
  have hsz : 256 * bs.getD o.toNat 0 + bs.getD (o + 1).toNat 0 = szP bs o := rfl
  have hpt : ptP bs o = subL bs (o + 2) (szP bs o) := rfl
  have hnx : nxP bs o = o + 2 + szP bs o := rfl
  have hgd : gdP bs o ↔ (o + 2 ≤ n ∧ o + 2 + szP bs o ≤ n) := by unfold gdP; rw [hn]
  generalize e0 : bs.getD o.toNat 0 = b0
  have e0 := e0.symm
  generalize e1 : bs.getD (o + 1).toNat 0 = b1
  have e1 := e1.symm
  generalize es : szP bs o = sz
  have es := es.symm
  have e0' : bs.getD o.toNat 0 = b0 := e0.symm
  have e1' : bs.getD (o + 1).toNat 0 = b1 := e1.symm
  rw [e0'] at hb0 hsz
  rw [e1'] at hb1 hsz
  rw [← es] at hsz hpt hnx hgd
  have w1 : IntKind.i64.wrap (o + 2) = o + 2 := wr_i64 _ (by omega) (by omega)
  have w2 : IntKind.i64.wrap (o + 1) = o + 1 := wr_i64 _ (by omega) (by omega)
  have w3 : IntKind.i64.wrap (256 * b0) = 256 * b0 := wr_i64 _ (by omega) (by omega)
  have w4 : IntKind.i64.wrap (256 * b0 + b1) = sz := by rw [wr_i64 _ (by omega) (by omega)]; exact hsz
  have w5 : IntKind.i64.wrap (o + 2 + sz) = o + 2 + sz := wr_i64 _ (by omega) (by omega)
  have w6 : IntKind.i64.wrap b0 = b0 := wr_i64 _ (by omega) (by omega)
  have w7 : IntKind.i64.wrap b1 = b1 := wr_i64 _ (by omega) (by omega)
  have e5 : o + 2 + sz - (o + 2) = sz := by omega
  conv => cbv
  repeat' (first | ((with_reducible intro (h : _ = _)); (try subst h); (try simp only [hu.b, hu.i, iB, iI, cmpB, ivs, ivl, lrs, lrl, trs, trl, decide_eq_true_eq, decide_eq_false_iff_not, beq_iff_eq, beq_eq_false_iff_ne, ne_eq, ofN, Int.toNat_zero, Int.toNat_one, Int.reduceToNat, natc, hu.s, iS, svs, svl, true_iff, false_iff, Bool.false_eq_true, bne_iff_ne, bne_eq_false_iff_eq, Bool.not_eq_true', Bool.not_eq_false', Decidable.not_not, nil_toList, ByteArray.size_empty, nilS, not_true_eq_false, not_false_eq_true, hu.l, iL, hu.t, iT, bin_add, bin_sub, bin_mul, wr_u8, wr_u16, wr_u32, wr_u64, IntKind.wrap_i64, List.length_append, List.length_cons, List.length_nil, List.nil_append, List.append_nil, List.cons_append, lvals, List.length_replicate, List.length_set, linV_val hu, Int.add_zero, Int.zero_add, Int.mul_one, Int.sub_zero, Int.zero_mul, Bool.true_eq_false, false_and, and_false, true_and, and_true, List.all_cons, List.all_nil, id_eq, Bool.and_true, ↓w1, ↓w2, ↓w3, ↓w4, ↓w5, ↓w6, ↓w7, e0', e1', e5] at h) <;> (try simp only [Int.ofNat_eq_natCast] at h) <;> (first | (have hF0 : False := by omega; exact hF0.elim) | (conv => cbv))) | (with_reducible refine And.intro ?_ ?_) | (refine Gen0.mk ?_; (conv => cbv)) | (with_reducible refine Pick.view ?_; (conv => cbv)) | (simp only [hu.b, hu.i, iB, iI, cmpB, ivs, ivl, lrs, lrl, trs, trl, decide_eq_true_eq, decide_eq_false_iff_not, beq_iff_eq, beq_eq_false_iff_ne, ne_eq, ofN, Int.toNat_zero, Int.toNat_one, Int.reduceToNat, natc, hu.s, iS, svs, svl, true_iff, false_iff, Bool.false_eq_true, bne_iff_ne, bne_eq_false_iff_eq, Bool.not_eq_true', Bool.not_eq_false', Decidable.not_not, nil_toList, ByteArray.size_empty, nilS, not_true_eq_false, not_false_eq_true, hu.l, iL, hu.t, iT, bin_add, bin_sub, bin_mul, wr_u8, wr_u16, wr_u32, wr_u64, IntKind.wrap_i64, List.length_append, List.length_cons, List.length_nil, List.nil_append, List.append_nil, List.cons_append, lvals, List.length_replicate, List.length_set, linV_val hu, Int.add_zero, Int.zero_add, Int.mul_one, Int.sub_zero, Int.zero_mul, Bool.true_eq_false, false_and, and_false, true_and, and_true, List.all_cons, List.all_nil, id_eq, Bool.and_true, ↓w1, ↓w2, ↓w3, ↓w4, ↓w5, ↓w6, ↓w7, e0', e1', e5]; (try simp only [Int.ofNat_eq_natCast]); done) | ((try simp only [hu.b, hu.i, iB, iI, cmpB, ivs, ivl, lrs, lrl, trs, trl, decide_eq_true_eq, decide_eq_false_iff_not, beq_iff_eq, beq_eq_false_iff_ne, ne_eq, ofN, Int.toNat_zero, Int.toNat_one, Int.reduceToNat, natc, hu.s, iS, svs, svl, true_iff, false_iff, Bool.false_eq_true, bne_iff_ne, bne_eq_false_iff_eq, Bool.not_eq_true', Bool.not_eq_false', Decidable.not_not, nil_toList, ByteArray.size_empty, nilS, not_true_eq_false, not_false_eq_true, hu.l, iL, hu.t, iT, bin_add, bin_sub, bin_mul, wr_u8, wr_u16, wr_u32, wr_u64, IntKind.wrap_i64, List.length_append, List.length_cons, List.length_nil, List.nil_append, List.append_nil, List.cons_append, lvals, List.length_replicate, List.length_set, linV_val hu, Int.add_zero, Int.zero_add, Int.mul_one, Int.sub_zero, Int.zero_mul, Bool.true_eq_false, false_and, and_false, true_and, and_true, List.all_cons, List.all_nil, id_eq, Bool.and_true, ↓w1, ↓w2, ↓w3, ↓w4, ↓w5, ↓w6, ↓w7, e0', e1', e5]) <;> (try simp only [Int.ofNat_eq_natCast]) <;> omega))
  iterate 2
    · have hw : o = wrongP bs st N := by
        unfold wrongP
        rw [if_neg (by omega), q5, show N - i.toNat = N - i.toNat - 1 + 1 by omega, stop_no _ (by rw [hgd]; omega)]
      subst hR
      refine Weak.of ((.inl ⟨o, ⟨hw, q2⟩, rfl, rfl⟩)) ?_ ?_ (by rfl)
      all_goals ((conv => cbv); repeat' (first | exact True.intro | with_reducible rfl | (with_reducible exact fun h => h) | (with_reducible refine And.intro ?_ ?_)))
  · have hg : gdP bs o := by rw [hgd]; omega
    obtain ⟨i', ei⟩ : ∃ x, x = i + 1 := ⟨_, rfl⟩
    obtain ⟨o', eo⟩ : ∃ x, x = o + 2 + sz := ⟨_, rfl⟩
    obtain ⟨pt, ept⟩ : ∃ x, x = ptP bs o := ⟨_, rfl⟩
    obtain ⟨zss, ez⟩ : ∃ x, x = xss ++ [pt] := ⟨_, rfl⟩
    have eN : N - i.toNat = N - i'.toNat + 1 := by omega
    have hs : stopP bs N st = stopP bs (N - i'.toNat) o' := by rw [q5, eN, stop_ok _ hg (show o' = nxP bs o by rw [eo, hnx])]
    have hp : ptsP bs N st = zss ++ ptsP bs (N - i'.toNat) o' := by rw [q6, eN, pts_ok _ ept (show o' = nxP bs o by rw [eo, hnx]), ez, List.append_assoc]; rfl
    have hl : (zss.length : Int) = i' := by rw [ez, List.length_append]; simp only [List.length_singleton]; omega
    have hpt' : subL bs (o + 2) sz = pt := by rw [ept, hpt]
    refine ⟨(i', o', zss), ⟨by dsimp only; omega, by dsimp only; omega, by dsimp only; omega, by dsimp only; omega, hl, hs, hp⟩, by dsimp only; omega, [0, 3], by kernel_rfl, by kernel_rfl, ?_, ?_⟩
    all_goals
      ((conv => cbv); repeat' (first | exact True.intro | with_reducible rfl | (with_reducible exact fun h => h) | (with_reducible refine And.intro ?_ ?_)))
    all_goals
      ((try simp only [hu.b, hu.i, iB, iI, cmpB, ivs, ivl, lrs, lrl, trs, trl, decide_eq_true_eq, decide_eq_false_iff_not, beq_iff_eq, beq_eq_false_iff_ne, ne_eq, ofN, Int.toNat_zero, Int.toNat_one, Int.reduceToNat, natc, hu.s, iS, svs, svl, true_iff, false_iff, Bool.false_eq_true, bne_iff_ne, bne_eq_false_iff_eq, Bool.not_eq_true', Bool.not_eq_false', Decidable.not_not, nil_toList, ByteArray.size_empty, nilS, not_true_eq_false, not_false_eq_true, hu.l, iL, hu.t, iT, bin_add, bin_sub, bin_mul, wr_u8, wr_u16, wr_u32, wr_u64, IntKind.wrap_i64, List.length_append, List.length_cons, List.length_nil, List.nil_append, List.append_nil, List.cons_append, lvals, List.length_replicate, List.length_set, linV_val hu, Int.add_zero, Int.zero_add, Int.mul_one, Int.sub_zero, Int.zero_mul, Bool.true_eq_false, false_and, and_false, true_and, and_true, List.all_cons, List.all_nil, id_eq, Bool.and_true, ↓w1, ↓w2, ↓w3, ↓w4, ↓w5, ↓w6, ↓w7, e0', e1', e5, hpt', List.nil_append, hu.t, iT]) <;> (try simp only [Int.ofNat_eq_natCast]) <;> (try omega))
    all_goals first | exact ez.symm | exact eo.symm
  · have hw : o = wrongP bs st N := by
      unfold wrongP
      rw [if_neg (by omega), q5, show N - i.toNat = 0 by omega, stop_end (by omega)]
    subst hR
    refine Weak.of ((.inl ⟨o, ⟨hw, q2⟩, rfl, rfl⟩)) ?_ ?_ (by rfl)
    all_goals ((conv => cbv); repeat' (first | exact True.intro | with_reducible rfl | (with_reducible exact fun h => h) | (with_reducible refine And.intro ?_ ?_)))
  · have hw : stopP bs N st = -1 := by rw [q5, show N - i.toNat = 0 by omega, stop_fine (by omega)]
    have hx : xss = ptsP bs N st := by rw [q6, show N - i.toNat = 0 by omega]; simp [ptsP]
    obtain ⟨e, ee⟩ : ∃ x : Int, x = -1 := ⟨_, rfl⟩
    subst hR
    refine Weak.of ((.inr ⟨i, xss, e, ⟨hsn, hw, by omega, q4.symm, hx, ee⟩, rfl, rfl⟩)) ?_ ?_ (by rfl)
    all_goals ((conv => cbv); repeat' (first | exact True.intro | with_reducible rfl | (with_reducible exact fun h => h) | (with_reducible refine And.intro ?_ ?_)))
    all_goals exact ee.symm
theorem rread_ctr {tt : TypeId} (bs : List Int) (n : Int) (hn : n = bs.length) (hB : Bytes bs) (hn9 : n ≤ 2000) : Ctr Tryd.prog 21 [.cols .ro tt [.ints .u8 (.sym bs)]] [.sl 0 (.lit 0) (.sym n)] fun v H =>
    (∃ p, (p = wrongP bs 4 4 ∧ 0 ≤ p) ∧ v = .tup [.agg [.int .i64 (.lit 0), .int .i64 (.lit 0), .int .i64 (.lit 0), .str (.lit []), .str (.lit []), .str (.lit []), .nilsl], .int .i64 (.sym p)] ∧ H = [.cols .ro tt [.ints .u8 (.sym bs)]]) ∨
    (∃ op a b s t u m ys e, (m = ys.length ∧ Red bs op a b s t u ys ∧ e = -1) ∧ v = .tup [.agg [.int .i64 (.sym op), .int .i64 (.sym a), .int .i64 (.sym b), .str (.sym s), .str (.sym t), .str (.sym u), .sl 1 (.lit 0) (.sym m)], .int .i64 (.sym e)] ∧ H = [.cols .ro tt [.ints .u8 (.sym bs)], .cols .ro 5 [.ints .u8 (.sym ys)]]) := by
  have n0 : 0 ≤ n := by omega
  have hb0 := hB.get 0
  have hb1 := hB.get 1
  have hb2 := hB.get 2
  have hb3 := hB.get 3
  have e0 : subL bs 0 n = bs := subL_all _ _ hn
  obtain ⟨w1, w2, w3, w4, hw⟩ : ∃ w1 w2 w3 w4, ptsP bs 4 4 = [w1, w2, w3, w4] := ⟨_, _, _, _, rfl⟩
  obtain ⟨uI, uB, uS, uL, uT, hu⟩ := words
  have hm := mixed
  have hT := tabOk
  have hPa := @parts_ctr
  obtain ⟨P, hP⟩ : ∃ P, P = Tryd.prog := ⟨_, rfl⟩
  rw [← hP] at hm hT hPa ⊢
  refine Ctr.weak (ctr_of_vc hu hm hT (hP ▸ Tryd.func21) rfl (by kernel_rfl) ?_)
  clear hP hm hT
  generalize hR : Weak _ _ = R
  conv => cbv
  repeat' (first | ((with_reducible intro (h : _ = _)); (try subst h); (try simp only [hu.b, hu.i, iB, iI, cmpB, ivs, ivl, lrs, lrl, trs, trl, decide_eq_true_eq, decide_eq_false_iff_not, beq_iff_eq, beq_eq_false_iff_ne, ne_eq, ofN, Int.toNat_zero, Int.toNat_one, Int.reduceToNat, natc, hu.s, iS, svs, svl, true_iff, false_iff, Bool.false_eq_true, bne_iff_ne, bne_eq_false_iff_eq, Bool.not_eq_true', Bool.not_eq_false', Decidable.not_not, nil_toList, ByteArray.size_empty, nilS, not_true_eq_false, not_false_eq_true, hu.l, iL, hu.t, iT, bin_add, bin_sub, bin_mul, wr_u8, wr_u16, wr_u32, wr_u64, IntKind.wrap_i64, List.length_append, List.length_cons, List.length_nil, List.nil_append, List.append_nil, List.cons_append, lvals, List.length_replicate, List.length_set, linV_val hu, Int.add_zero, Int.zero_add, Int.mul_one, Int.sub_zero, Int.zero_mul, Bool.true_eq_false, false_and, and_false, true_and, and_true, List.all_cons, List.all_nil, id_eq, Bool.and_true, e0] at h) <;> (try simp only [Int.ofNat_eq_natCast] at h) <;> (first | (have hF0 : False := by omega; exact hF0.elim) | (conv => cbv))) | (with_reducible refine And.intro ?_ ?_) | (refine CallVC.mk (Ctr.monoR ?_ (hPa _ _ _ _ 4 ?_ ?_ ?_ rfl (by decide) (by decide))); ((rintro v H (⟨p, hf, rfl, rfl⟩ | ⟨q, xss, e, h1, rfl, rfl⟩)) <;> (try simp only [hu.b, hu.i, iB, iI, cmpB, ivs, ivl, lrs, lrl, trs, trl, decide_eq_true_eq, decide_eq_false_iff_not, beq_iff_eq, beq_eq_false_iff_ne, ne_eq, ofN, Int.toNat_zero, Int.toNat_one, Int.reduceToNat, natc, hu.s, iS, svs, svl, true_iff, false_iff, Bool.false_eq_true, bne_iff_ne, bne_eq_false_iff_eq, Bool.not_eq_true', Bool.not_eq_false', Decidable.not_not, nil_toList, ByteArray.size_empty, nilS, not_true_eq_false, not_false_eq_true, hu.l, iL, hu.t, iT, bin_add, bin_sub, bin_mul, wr_u8, wr_u16, wr_u32, wr_u64, IntKind.wrap_i64, List.length_append, List.length_cons, List.length_nil, List.nil_append, List.append_nil, List.cons_append, lvals, List.length_replicate, List.length_set, linV_val hu, Int.add_zero, Int.zero_add, Int.mul_one, Int.sub_zero, Int.zero_mul, Bool.true_eq_false, false_and, and_false, true_and, and_true, List.all_cons, List.all_nil, id_eq, Bool.and_true, e0] at hf) <;> (try simp only [hu.b, hu.i, iB, iI, cmpB, ivs, ivl, lrs, lrl, trs, trl, decide_eq_true_eq, decide_eq_false_iff_not, beq_iff_eq, beq_eq_false_iff_ne, ne_eq, ofN, Int.toNat_zero, Int.toNat_one, Int.reduceToNat, natc, hu.s, iS, svs, svl, true_iff, false_iff, Bool.false_eq_true, bne_iff_ne, bne_eq_false_iff_eq, Bool.not_eq_true', Bool.not_eq_false', Decidable.not_not, nil_toList, ByteArray.size_empty, nilS, not_true_eq_false, not_false_eq_true, hu.l, iL, hu.t, iT, bin_add, bin_sub, bin_mul, wr_u8, wr_u16, wr_u32, wr_u64, IntKind.wrap_i64, List.length_append, List.length_cons, List.length_nil, List.nil_append, List.append_nil, List.cons_append, lvals, List.length_replicate, List.length_set, linV_val hu, Int.add_zero, Int.zero_add, Int.mul_one, Int.sub_zero, Int.zero_mul, Bool.true_eq_false, false_and, and_false, true_and, and_true, List.all_cons, List.all_nil, id_eq, Bool.and_true, e0] at h1) <;> (try simp only [Int.ofNat_eq_natCast] at hf) <;> (try simp only [Int.ofNat_eq_natCast] at h1) <;> (first | (have hF0 : False := by omega; exact hF0.elim) | (conv => cbv)))) | ((try simp only [hu.b, hu.i, iB, iI, cmpB, ivs, ivl, lrs, lrl, trs, trl, decide_eq_true_eq, decide_eq_false_iff_not, beq_iff_eq, beq_eq_false_iff_ne, ne_eq, ofN, Int.toNat_zero, Int.toNat_one, Int.reduceToNat, natc, hu.s, iS, svs, svl, true_iff, false_iff, Bool.false_eq_true, bne_iff_ne, bne_eq_false_iff_eq, Bool.not_eq_true', Bool.not_eq_false', Decidable.not_not, nil_toList, ByteArray.size_empty, nilS, not_true_eq_false, not_false_eq_true, hu.l, iL, hu.t, iT, bin_add, bin_sub, bin_mul, wr_u8, wr_u16, wr_u32, wr_u64, IntKind.wrap_i64, List.length_append, List.length_cons, List.length_nil, List.nil_append, List.append_nil, List.cons_append, lvals, List.length_replicate, List.length_set, linV_val hu, Int.add_zero, Int.zero_add, Int.mul_one, Int.sub_zero, Int.zero_mul, Bool.true_eq_false, false_and, and_false, true_and, and_true, List.all_cons, List.all_nil, id_eq, Bool.and_true, e0]) <;> (try simp only [Int.ofNat_eq_natCast]) <;> exact hB) | (refine Gen0.mk ?_; (conv => cbv)) | (with_reducible refine Pick.view ?_; (conv => cbv)) | (simp only [hu.b, hu.i, iB, iI, cmpB, ivs, ivl, lrs, lrl, trs, trl, decide_eq_true_eq, decide_eq_false_iff_not, beq_iff_eq, beq_eq_false_iff_ne, ne_eq, ofN, Int.toNat_zero, Int.toNat_one, Int.reduceToNat, natc, hu.s, iS, svs, svl, true_iff, false_iff, Bool.false_eq_true, bne_iff_ne, bne_eq_false_iff_eq, Bool.not_eq_true', Bool.not_eq_false', Decidable.not_not, nil_toList, ByteArray.size_empty, nilS, not_true_eq_false, not_false_eq_true, hu.l, iL, hu.t, iT, bin_add, bin_sub, bin_mul, wr_u8, wr_u16, wr_u32, wr_u64, IntKind.wrap_i64, List.length_append, List.length_cons, List.length_nil, List.nil_append, List.append_nil, List.cons_append, lvals, List.length_replicate, List.length_set, linV_val hu, Int.add_zero, Int.zero_add, Int.mul_one, Int.sub_zero, Int.zero_mul, Bool.true_eq_false, false_and, and_false, true_and, and_true, List.all_cons, List.all_nil, id_eq, Bool.and_true, e0]; (try simp only [Int.ofNat_eq_natCast]); done) | ((try simp only [hu.b, hu.i, iB, iI, cmpB, ivs, ivl, lrs, lrl, trs, trl, decide_eq_true_eq, decide_eq_false_iff_not, beq_iff_eq, beq_eq_false_iff_ne, ne_eq, ofN, Int.toNat_zero, Int.toNat_one, Int.reduceToNat, natc, hu.s, iS, svs, svl, true_iff, false_iff, Bool.false_eq_true, bne_iff_ne, bne_eq_false_iff_eq, Bool.not_eq_true', Bool.not_eq_false', Decidable.not_not, nil_toList, ByteArray.size_empty, nilS, not_true_eq_false, not_false_eq_true, hu.l, iL, hu.t, iT, bin_add, bin_sub, bin_mul, wr_u8, wr_u16, wr_u32, wr_u64, IntKind.wrap_i64, List.length_append, List.length_cons, List.length_nil, List.nil_append, List.append_nil, List.cons_append, lvals, List.length_replicate, List.length_set, linV_val hu, Int.add_zero, Int.zero_add, Int.mul_one, Int.sub_zero, Int.zero_mul, Bool.true_eq_false, false_and, and_false, true_and, and_true, List.all_cons, List.all_nil, id_eq, Bool.and_true, e0]) <;> (try simp only [Int.ofNat_eq_natCast]) <;> omega))
  · subst hR
    refine Weak.of ((.inl ⟨p, hf, rfl, rfl⟩)) ?_ ?_ (by rfl)
    all_goals ((conv => cbv); repeat' (first | exact True.intro | with_reducible rfl | (with_reducible exact fun h => h) | (with_reducible refine And.intro ?_ ?_)))
  · have k1 : xss.getD 0 [] = w1 := by rw [h1.2.2.2.2.1, hw]; rfl
    have k2 : xss.getD 1 [] = w2 := by rw [h1.2.2.2.2.1, hw]; rfl
    have k3 : xss.getD 2 [] = w3 := by rw [h1.2.2.2.2.1, hw]; rfl
    have k4 : xss.getD 3 [] = w4 := by rw [h1.2.2.2.2.1, hw]; rfl
    have l1 : subL w1 0 (Int.ofNat w1.length) = w1 := subL_all _ _ rfl
    have l2 : subL w2 0 (Int.ofNat w2.length) = w2 := subL_all _ _ rfl
    have l3 : subL w3 0 (Int.ofNat w3.length) = w3 := subL_all _ _ rfl
    obtain ⟨x0, ex0⟩ : ∃ x, x = bs.getD 0 0 := ⟨_, rfl⟩
    obtain ⟨x1, ex1⟩ : ∃ x, x = bs.getD 1 0 := ⟨_, rfl⟩
    obtain ⟨x2, ex2⟩ : ∃ x, x = 256 * bs.getD 2 0 + bs.getD 3 0 := ⟨_, rfl⟩
    obtain ⟨s1, es1⟩ : ∃ x, x = strL w1 := ⟨_, rfl⟩
    obtain ⟨s2, es2⟩ : ∃ x, x = strL w2 := ⟨_, rfl⟩
    obtain ⟨s3, es3⟩ : ∃ x, x = strL w3 := ⟨_, rfl⟩
    obtain ⟨m, em⟩ : ∃ x : Int, x = w4.length := ⟨_, rfl⟩
    have hred : Red bs x0 x1 x2 s1 s2 s3 w4 := ⟨by omega, h1.2.1, ex0, ex1, ex2, w1, w2, w3, hw, es1, es2, es3⟩
    subst hR
    refine Weak.of ((.inr ⟨x0, x1, x2, s1, s2, s3, m, w4, e, ⟨em, hred, h1.2.2.2.2.2⟩, rfl, rfl⟩)) ?_ ?_ (by rfl)
    all_goals ((conv => cbv); repeat' (first | exact True.intro | with_reducible rfl | (with_reducible exact fun h => h) | (with_reducible refine And.intro ?_ ?_)))
    all_goals
      ((try simp only [hu.b, hu.i, iB, iI, cmpB, ivs, ivl, lrs, lrl, trs, trl, decide_eq_true_eq, decide_eq_false_iff_not, beq_iff_eq, beq_eq_false_iff_ne, ne_eq, ofN, Int.toNat_zero, Int.toNat_one, Int.reduceToNat, natc, hu.s, iS, svs, svl, true_iff, false_iff, Bool.false_eq_true, bne_iff_ne, bne_eq_false_iff_eq, Bool.not_eq_true', Bool.not_eq_false', Decidable.not_not, nil_toList, ByteArray.size_empty, nilS, not_true_eq_false, not_false_eq_true, hu.l, iL, hu.t, iT, bin_add, bin_sub, bin_mul, wr_u8, wr_u16, wr_u32, wr_u64, IntKind.wrap_i64, List.length_append, List.length_cons, List.length_nil, List.nil_append, List.append_nil, List.cons_append, lvals, List.length_replicate, List.length_set, linV_val hu, Int.add_zero, Int.zero_add, Int.mul_one, Int.sub_zero, Int.zero_mul, Bool.true_eq_false, false_and, and_false, true_and, and_true, List.all_cons, List.all_nil, id_eq, Bool.and_true, k1, k2, k3, k4, l1, l2, l3]) <;> (try simp only [Int.ofNat_eq_natCast]) <;> (try omega))
    all_goals first | exact es1.symm | exact es2.symm | exact es3.symm | exact em.symm
end Go.Proofs.YtdenmaiimfnbeaaDoor
