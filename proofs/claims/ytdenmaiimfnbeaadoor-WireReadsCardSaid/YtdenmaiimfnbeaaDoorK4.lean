import Derived.Test.YtdenmaiimfnbeaaDoorK3
set_option linter.all false
set_option linter.unusedSectionVars false
namespace Go.Proofs.YtdenmaiimfnbeaaDoor
open Go Sx
set_option maxRecDepth 100000
set_option maxHeartbeats 4000000
theorem Red.uniq {bs : List Int} {op a b op2 a2 b2 : Int} {s t u s2 t2 u2 : ByteArray} {ys zs : List Int} (h : Red bs op a b s t u ys) (g : Red bs op2 a2 b2 s2 t2 u2 zs) : op = op2 ∧ a = a2 ∧ b = b2 ∧ s = s2 ∧ t = t2 ∧ u = u2 ∧ ys = zs := by
  obtain ⟨x, y, z, h1, h2, h3, h4⟩ := h.parts
  obtain ⟨x', y', z', g1, g2, g3, g4⟩ := g.parts
  rw [h1] at g1
  cases g1
  exact ⟨h.op.trans g.op.symm, h.a.trans g.a.symm, h.b.trans g.b.symm, h2.trans g2.symm, h3.trans g3.symm, h4.trans g4.symm, rfl⟩
theorem Red.wrong {bs : List Int} {op a b : Int} {s t u : ByteArray} {ys : List Int} (h : Red bs op a b s t u ys) : wrongP bs 4 4 = -1 := by
  unfold wrongP
  rw [if_neg (by have := h.len; omega), h.fine]
theorem RedA.wrong {bs : List Int} {op : Int} {s : ByteArray} {ys : List Int} (h : RedA bs op s ys) : wrongP bs 1 2 = -1 := by
  unfold wrongP
  rw [if_neg (by have := h.len; omega), h.fine]
theorem cat_len {bs : List Int} (hB : Bytes bs) {n : Nat} {o : Int} (h0 : 0 ≤ o) (h1 : o ≤ bs.length) (h : stopP bs n o = -1) {x : List Int} (hx : x ∈ ptsP bs n o) : x.length ≤ bs.length := by
  have h2 := cat_back hB n o h0 h1 h
  have h3 : x.length ≤ (catC (ptsP bs n o)).length := by
    generalize ptsP bs n o = l at hx
    induction l with
    | nil => cases hx
    | cons y r ih =>
      rw [catC, List.length_append, cntd_length]
      rcases List.mem_cons.1 hx with rfl | h
      · omega
      · have := ih h; omega
  have h4 := congrArg List.length h2
  rw [List.length_append] at h4
  omega
theorem Red.small {bs : List Int} {op a b : Int} {s t u : ByteArray} {ys : List Int} (h : Red bs op a b s t u ys) (hB : Bytes bs) : ys.length ≤ bs.length := by
  obtain ⟨x, y, z, h1, _⟩ := h.parts
  exact cat_len hB (by decide) (by have := h.len; omega) h.fine (by rw [h1]; simp)
theorem RedA.small {bs : List Int} {op : Int} {s : ByteArray} {ys : List Int} (h : RedA bs op s ys) (hB : Bytes bs) : ys.length ≤ bs.length := by
  obtain ⟨x, h1, _⟩ := h.parts
  exact cat_len hB (by decide) (by have := h.len; omega) h.fine (by rw [h1]; simp)
section
variable {tt : TypeId} (bs : List Int) (n : Int) (hn : n = bs.length) (hB : Bytes bs)
include hn hB
theorem read_1 (hn9 : n ≤ 100000) (h : 1024 < n) : Ctr Tryd.prog 16 [.cols .ro tt [.ints .u8 (.sym bs)]] [.sl 0 (.lit 0) (.sym n)] fun v H => v = .tup [.agg [.int .i64 (.lit 0), .int .i64 (.lit 0), .int .i64 (.lit 0), .str (.lit []), .str (.lit []), .str (.lit []), .nilsl], .iface 54 (.int .i64 (.sym 2))] ∧ H = [.cols .ro tt [.ints .u8 (.sym bs)]] :=
  (read_ctr bs n hn hB hn9).mono fun v H h' => by
    rcases h' with ⟨_, h1⟩ | ⟨p, ⟨h1, _⟩, _⟩ | ⟨_, _, _, _, _, _, _, _, ⟨h1, _⟩, _⟩
    · exact h1
    · omega
    · omega
theorem read_2 (p : Int) (h : n ≤ 1024) (hp : p = wrongP bs 4 4) (h0 : 0 ≤ p) : Ctr Tryd.prog 16 [.cols .ro tt [.ints .u8 (.sym bs)]] [.sl 0 (.lit 0) (.sym n)] fun v H => v = .tup [.agg [.int .i64 (.lit 0), .int .i64 (.lit 0), .int .i64 (.lit 0), .str (.lit []), .str (.lit []), .str (.lit []), .nilsl], .iface 68 (.ptr 1 ⟨.lit 0, 1, 0⟩)] ∧ H = [.cols .ro tt [.ints .u8 (.sym bs)], .cells 71 [.int .i64 (.sym p), .iface 54 (.int .i64 (.sym 6))]] :=
  (read_ctr bs n hn hB (by omega)).mono fun v H h' => by
    rcases h' with ⟨h1, _⟩ | ⟨p2, ⟨_, h1, _⟩, h2⟩ | ⟨_, _, _, _, _, _, _, _, ⟨_, _, h1⟩, _⟩
    · omega
    · rw [hp, ← h1]; exact h2
    · have := h1.wrong; omega
theorem read_3 (h : n ≤ 1024) (h0 : wrongP bs 4 4 < 0) : Ctr Tryd.prog 16 [.cols .ro tt [.ints .u8 (.sym bs)]] [.sl 0 (.lit 0) (.sym n)] fun v H => ∃ op a b s t u m ys, (m = ys.length ∧ m ≤ 1024 ∧ Red bs op a b s t u ys) ∧ v = .tup [.agg [.int .i64 (.sym op), .int .i64 (.sym a), .int .i64 (.sym b), .str (.sym s), .str (.sym t), .str (.sym u), .vec 1 (.sym m)], .nilif] ∧ H = [.cols .ro tt [.ints .u8 (.sym bs)], .cols (.row 1) 5 [.ints .u8 (.sym ys)]] :=
  (read_ctr bs n hn hB (by omega)).mono fun v H h' => by
    rcases h' with ⟨h1, _⟩ | ⟨p2, ⟨_, h1, h2⟩, _⟩ | ⟨op, a, b, s, t, u, m, ys, ⟨_, h1⟩, h2⟩
    · omega
    · omega
    · exact ⟨op, a, b, s, t, u, m, ys, ⟨h1.1, by have := h1.2.small hB; omega, h1.2⟩, h2⟩
theorem answer_1 (hn9 : n ≤ 100000) (h : 1024 < n) : Ctr Tryd.prog 19 [.cols .ro tt [.ints .u8 (.sym bs)]] [.sl 0 (.lit 0) (.sym n)] fun v H => v = .tup [.agg [.int .i64 (.lit 0), .str (.lit []), .nilsl], .iface 54 (.int .i64 (.sym 2))] ∧ H = [.cols .ro tt [.ints .u8 (.sym bs)]] :=
  (answer_ctr bs n hn hB hn9).mono fun v H h' => by
    rcases h' with ⟨_, h1⟩ | ⟨p, ⟨h1, _⟩, _⟩ | ⟨_, _, _, _, ⟨h1, _⟩, _⟩
    · exact h1
    · omega
    · omega
theorem answer_2 (p : Int) (h : n ≤ 1024) (hp : p = wrongP bs 1 2) (h0 : 0 ≤ p) : Ctr Tryd.prog 19 [.cols .ro tt [.ints .u8 (.sym bs)]] [.sl 0 (.lit 0) (.sym n)] fun v H => v = .tup [.agg [.int .i64 (.lit 0), .str (.lit []), .nilsl], .iface 68 (.ptr 1 ⟨.lit 0, 1, 0⟩)] ∧ H = [.cols .ro tt [.ints .u8 (.sym bs)], .cells 71 [.int .i64 (.sym p), .iface 54 (.int .i64 (.sym 6))]] :=
  (answer_ctr bs n hn hB (by omega)).mono fun v H h' => by
    rcases h' with ⟨h1, _⟩ | ⟨p2, ⟨_, h1, _⟩, h2⟩ | ⟨_, _, _, _, ⟨_, _, h1⟩, _⟩
    · omega
    · rw [hp, ← h1]; exact h2
    · have := h1.wrong; omega
theorem answer_3 (h : n ≤ 1024) (h0 : wrongP bs 1 2 < 0) : Ctr Tryd.prog 19 [.cols .ro tt [.ints .u8 (.sym bs)]] [.sl 0 (.lit 0) (.sym n)] fun v H => ∃ op s m ys, (m = ys.length ∧ m ≤ 1024 ∧ RedA bs op s ys) ∧ v = .tup [.agg [.int .i64 (.sym op), .str (.sym s), .vec 1 (.sym m)], .nilif] ∧ H = [.cols .ro tt [.ints .u8 (.sym bs)], .cols (.row 1) 5 [.ints .u8 (.sym ys)]] :=
  (answer_ctr bs n hn hB (by omega)).mono fun v H h' => by
    rcases h' with ⟨h1, _⟩ | ⟨p2, ⟨_, h1, h2⟩, _⟩ | ⟨op, s, m, ys, ⟨_, h1⟩, h2⟩
    · omega
    · omega
    · exact ⟨op, s, m, ys, ⟨h1.1, by have := h1.2.small hB; omega, h1.2⟩, h2⟩
theorem rread_2 (p : Int) (h : n ≤ 2000) (hp : p = wrongP bs 4 4) (h0 : 0 ≤ p) : Ctr Tryd.prog 21 [.cols .ro tt [.ints .u8 (.sym bs)]] [.sl 0 (.lit 0) (.sym n)] fun v H => v = .tup [.agg [.int .i64 (.lit 0), .int .i64 (.lit 0), .int .i64 (.lit 0), .str (.lit []), .str (.lit []), .str (.lit []), .nilsl], .int .i64 (.sym p)] ∧ H = [.cols .ro tt [.ints .u8 (.sym bs)]] :=
  (rread_ctr bs n hn hB h).mono fun v H h' => by
    rcases h' with ⟨p2, ⟨h1, _⟩, h2⟩ | ⟨_, _, _, _, _, _, _, _, _, ⟨_, h1, _⟩, _⟩
    · rw [hp, ← h1]; exact h2
    · have := h1.wrong; omega
theorem rread_3 (h : n ≤ 2000) (h0 : wrongP bs 4 4 < 0) : Ctr Tryd.prog 21 [.cols .ro tt [.ints .u8 (.sym bs)]] [.sl 0 (.lit 0) (.sym n)] fun v H => ∃ op a b s t u m ys e, (m = ys.length ∧ Red bs op a b s t u ys ∧ e = -1) ∧ v = .tup [.agg [.int .i64 (.sym op), .int .i64 (.sym a), .int .i64 (.sym b), .str (.sym s), .str (.sym t), .str (.sym u), .sl 1 (.lit 0) (.sym m)], .int .i64 (.sym e)] ∧ H = [.cols .ro tt [.ints .u8 (.sym bs)], .cols .ro 5 [.ints .u8 (.sym ys)]] :=
  (rread_ctr bs n hn hB h).mono fun v H h' => by
    rcases h' with ⟨p2, ⟨h1, h2⟩, _⟩ | h1
    · omega
    · exact h1
theorem parts_2 (p : Int) (h : n ≤ 2000) (hp : p = wrongP bs 1 2) (h0 : 0 ≤ p) : Ctr Tryd.prog 23 [.cols .ro tt [.ints .u8 (.sym bs)]] [.sl 0 (.lit 0) (.sym n), .int .i64 (.sym 1), .int .i64 (.sym 2)] fun v H => v = .tup [.nilsl, .int .i64 (.sym p)] ∧ H = [.cols .ro tt [.ints .u8 (.sym bs)]] :=
  (parts_ctr bs n 1 2 2 hn hB h rfl (by decide) (by decide)).mono fun v H h' => by
    rcases h' with ⟨p2, ⟨h1, _⟩, h2⟩ | ⟨_, _, _, ⟨h3, h1, _⟩, _⟩
    · rw [hp, ← h1]; exact h2
    · unfold wrongP at hp; rw [if_neg (by omega)] at hp; omega
theorem parts_3 (q e : Int) (xss : List (List Int)) (h : n ≤ 2000) (h0 : wrongP bs 1 2 < 0) (hq : q = 2) (he : e = -1) (hx : xss = ptsP bs 2 1) : Ctr Tryd.prog 23 [.cols .ro tt [.ints .u8 (.sym bs)]] [.sl 0 (.lit 0) (.sym n), .int .i64 (.sym 1), .int .i64 (.sym 2)] fun v H => v = .tup [.vec 1 (.sym q), .int .i64 (.sym e)] ∧ H = [.cols .ro tt [.ints .u8 (.sym bs)], .srow 22 .u8 xss] :=
  (parts_ctr bs n 1 2 2 hn hB h rfl (by decide) (by decide)).mono fun v H h' => by
    rcases h' with ⟨p2, ⟨h1, h2⟩, _⟩ | ⟨q2, x2, e2, ⟨h3, _, h4, _, h5, h6⟩, h7⟩
    · omega
    · rw [hq, he, hx, ← h5, ← h6, ← h4]; exact h7
end
theorem reads_ctr (bs : List Int) (n : Int) (hn : n = bs.length) (hB : Bytes bs) : Ctr Tryd.prog 7 [.cols .ro 5 [.ints .u8 (.sym bs)]] [.sl 0 (.lit 0) (.sym n)] fun v H => v = .bool true := by
  have n0 : 0 ≤ n := by omega
  have e0 : subL bs 0 n = bs := subL_all _ _ hn
  by_cases h2 : 2000 < n
  · obtain ⟨uI, uB, uS, uL, uT, hu⟩ := words
    have hm := mixed
    have hT := tabOk
    have h6 := @awake_ctr
    obtain ⟨P, hP⟩ : ∃ P, P = Tryd.prog := ⟨_, rfl⟩
    rw [← hP] at hm hT h6 ⊢
    refine Ctr.weak (ctr_of_vc hu hm hT (hP ▸ Tryd.func7) rfl (by kernel_rfl) ?_)
    clear hP hm hT
    generalize hR : Weak _ _ = R
    conv => cbv
    repeat' (first | ((with_reducible intro (h : _ = _)); (try subst h); (try simp only [hu.b, hu.i, iB, iI, cmpB, ivs, ivl, lrs, lrl, trs, trl, decide_eq_true_eq, decide_eq_false_iff_not, beq_iff_eq, beq_eq_false_iff_ne, ne_eq, ofN, Int.toNat_zero, Int.toNat_one, Int.reduceToNat, natc, hu.s, iS, svs, svl, true_iff, false_iff, Bool.false_eq_true, bne_iff_ne, bne_eq_false_iff_eq, Bool.not_eq_true', Bool.not_eq_false', Decidable.not_not, nil_toList, ByteArray.size_empty, nilS, not_true_eq_false, not_false_eq_true, hu.l, iL, hu.t, iT, bin_add, bin_sub, bin_mul, wr_u8, wr_u16, wr_u32, wr_u64, IntKind.wrap_i64, List.length_append, List.length_cons, List.length_nil, List.nil_append, List.append_nil, List.cons_append, lvals, List.length_replicate, List.length_set, linV_val hu, Int.add_zero, Int.zero_add, Int.mul_one, Int.sub_zero, Int.zero_mul, Bool.true_eq_false, false_and, and_false, true_and, and_true, List.all_cons, List.all_nil, id_eq, Bool.and_true, e0] at h) <;> (try simp only [Int.ofNat_eq_natCast] at h) <;> (first | (have hF0 : False := by omega; exact hF0.elim) | (conv => cbv))) | (with_reducible refine And.intro ?_ ?_) | (first | (refine CallDet.mkR ?_ (h6)) | (refine CallVC.mkR ?_ (h6))) | (refine Gen0.mk ?_; (conv => cbv)) | (with_reducible refine Pick.view ?_; (conv => cbv)) | (simp only [hu.b, hu.i, iB, iI, cmpB, ivs, ivl, lrs, lrl, trs, trl, decide_eq_true_eq, decide_eq_false_iff_not, beq_iff_eq, beq_eq_false_iff_ne, ne_eq, ofN, Int.toNat_zero, Int.toNat_one, Int.reduceToNat, natc, hu.s, iS, svs, svl, true_iff, false_iff, Bool.false_eq_true, bne_iff_ne, bne_eq_false_iff_eq, Bool.not_eq_true', Bool.not_eq_false', Decidable.not_not, nil_toList, ByteArray.size_empty, nilS, not_true_eq_false, not_false_eq_true, hu.l, iL, hu.t, iT, bin_add, bin_sub, bin_mul, wr_u8, wr_u16, wr_u32, wr_u64, IntKind.wrap_i64, List.length_append, List.length_cons, List.length_nil, List.nil_append, List.append_nil, List.cons_append, lvals, List.length_replicate, List.length_set, linV_val hu, Int.add_zero, Int.zero_add, Int.mul_one, Int.sub_zero, Int.zero_mul, Bool.true_eq_false, false_and, and_false, true_and, and_true, List.all_cons, List.all_nil, id_eq, Bool.and_true, e0]; (try simp only [Int.ofNat_eq_natCast]); done) | ((try simp only [hu.b, hu.i, iB, iI, cmpB, ivs, ivl, lrs, lrl, trs, trl, decide_eq_true_eq, decide_eq_false_iff_not, beq_iff_eq, beq_eq_false_iff_ne, ne_eq, ofN, Int.toNat_zero, Int.toNat_one, Int.reduceToNat, natc, hu.s, iS, svs, svl, true_iff, false_iff, Bool.false_eq_true, bne_iff_ne, bne_eq_false_iff_eq, Bool.not_eq_true', Bool.not_eq_false', Decidable.not_not, nil_toList, ByteArray.size_empty, nilS, not_true_eq_false, not_false_eq_true, hu.l, iL, hu.t, iT, bin_add, bin_sub, bin_mul, wr_u8, wr_u16, wr_u32, wr_u64, IntKind.wrap_i64, List.length_append, List.length_cons, List.length_nil, List.nil_append, List.append_nil, List.cons_append, lvals, List.length_replicate, List.length_set, linV_val hu, Int.add_zero, Int.zero_add, Int.mul_one, Int.sub_zero, Int.zero_mul, Bool.true_eq_false, false_and, and_false, true_and, and_true, List.all_cons, List.all_nil, id_eq, Bool.and_true, e0]) <;> (try simp only [Int.ofNat_eq_natCast]) <;> omega))
    all_goals try (subst hR; exact Weak.law (by rfl) (by rfl))
  by_cases h1 : 1024 < n
  · obtain ⟨uI, uB, uS, uL, uT, hu⟩ := words
    have hm := mixed
    have hT := tabOk
    have h6 := @awake_ctr
    have hRd := @read_1
    have hAn := @answer_1
    have hS := @refsame_nil
    have hT1 := @asame_nil
    have hC1 := @code_c
    obtain ⟨P, hP⟩ : ∃ P, P = Tryd.prog := ⟨_, rfl⟩
    rw [← hP] at hm hT h6 hRd hAn hS hT1 hC1 ⊢
    refine Ctr.weak (ctr_of_vc hu hm hT (hP ▸ Tryd.func7) rfl (by kernel_rfl) ?_)
    clear hP hm hT
    generalize hR : Weak _ _ = R
    conv => cbv
    repeat' (first | ((with_reducible intro (h : _ = _)); (try subst h); (try simp only [hu.b, hu.i, iB, iI, cmpB, ivs, ivl, lrs, lrl, trs, trl, decide_eq_true_eq, decide_eq_false_iff_not, beq_iff_eq, beq_eq_false_iff_ne, ne_eq, ofN, Int.toNat_zero, Int.toNat_one, Int.reduceToNat, natc, hu.s, iS, svs, svl, true_iff, false_iff, Bool.false_eq_true, bne_iff_ne, bne_eq_false_iff_eq, Bool.not_eq_true', Bool.not_eq_false', Decidable.not_not, nil_toList, ByteArray.size_empty, nilS, not_true_eq_false, not_false_eq_true, hu.l, iL, hu.t, iT, bin_add, bin_sub, bin_mul, wr_u8, wr_u16, wr_u32, wr_u64, IntKind.wrap_i64, List.length_append, List.length_cons, List.length_nil, List.nil_append, List.append_nil, List.cons_append, lvals, List.length_replicate, List.length_set, linV_val hu, Int.add_zero, Int.zero_add, Int.mul_one, Int.sub_zero, Int.zero_mul, Bool.true_eq_false, false_and, and_false, true_and, and_true, List.all_cons, List.all_nil, id_eq, Bool.and_true, e0] at h) <;> (try simp only [Int.ofNat_eq_natCast] at h) <;> (first | (have hF0 : False := by omega; exact hF0.elim) | (conv => cbv))) | (with_reducible refine And.intro ?_ ?_) | (first | (refine CallDet.mkR ?_ (h6)) | (refine CallVC.mkR ?_ (h6))) | (first | (refine CallDet.mkR ?_ (hRd _ _ ?_ ?_ ?_ h1)) | (refine CallVC.mkR ?_ (hRd _ _ ?_ ?_ ?_ h1))) | (first | (refine CallDet.mkR ?_ (hAn _ _ ?_ ?_ ?_ h1)) | (refine CallVC.mkR ?_ (hAn _ _ ?_ ?_ ?_ h1))) | (first | (refine CallDet.mkR ?_ (hS _ _ _ _ _ _)) | (refine CallVC.mkR ?_ (hS _ _ _ _ _ _))) | (first | (refine CallDet.mkR ?_ (hT1 _ _)) | (refine CallVC.mkR ?_ (hT1 _ _))) | (first | (refine CallDet.mkR ?_ (hC1 _)) | (refine CallVC.mkR ?_ (hC1 _))) | ((try simp only [hu.b, hu.i, iB, iI, cmpB, ivs, ivl, lrs, lrl, trs, trl, decide_eq_true_eq, decide_eq_false_iff_not, beq_iff_eq, beq_eq_false_iff_ne, ne_eq, ofN, Int.toNat_zero, Int.toNat_one, Int.reduceToNat, natc, hu.s, iS, svs, svl, true_iff, false_iff, Bool.false_eq_true, bne_iff_ne, bne_eq_false_iff_eq, Bool.not_eq_true', Bool.not_eq_false', Decidable.not_not, nil_toList, ByteArray.size_empty, nilS, not_true_eq_false, not_false_eq_true, hu.l, iL, hu.t, iT, bin_add, bin_sub, bin_mul, wr_u8, wr_u16, wr_u32, wr_u64, IntKind.wrap_i64, List.length_append, List.length_cons, List.length_nil, List.nil_append, List.append_nil, List.cons_append, lvals, List.length_replicate, List.length_set, linV_val hu, Int.add_zero, Int.zero_add, Int.mul_one, Int.sub_zero, Int.zero_mul, Bool.true_eq_false, false_and, and_false, true_and, and_true, List.all_cons, List.all_nil, id_eq, Bool.and_true, e0]) <;> (try simp only [Int.ofNat_eq_natCast]) <;> exact hB) | (refine Gen0.mk ?_; (conv => cbv)) | (with_reducible refine Pick.view ?_; (conv => cbv)) | (simp only [hu.b, hu.i, iB, iI, cmpB, ivs, ivl, lrs, lrl, trs, trl, decide_eq_true_eq, decide_eq_false_iff_not, beq_iff_eq, beq_eq_false_iff_ne, ne_eq, ofN, Int.toNat_zero, Int.toNat_one, Int.reduceToNat, natc, hu.s, iS, svs, svl, true_iff, false_iff, Bool.false_eq_true, bne_iff_ne, bne_eq_false_iff_eq, Bool.not_eq_true', Bool.not_eq_false', Decidable.not_not, nil_toList, ByteArray.size_empty, nilS, not_true_eq_false, not_false_eq_true, hu.l, iL, hu.t, iT, bin_add, bin_sub, bin_mul, wr_u8, wr_u16, wr_u32, wr_u64, IntKind.wrap_i64, List.length_append, List.length_cons, List.length_nil, List.nil_append, List.append_nil, List.cons_append, lvals, List.length_replicate, List.length_set, linV_val hu, Int.add_zero, Int.zero_add, Int.mul_one, Int.sub_zero, Int.zero_mul, Bool.true_eq_false, false_and, and_false, true_and, and_true, List.all_cons, List.all_nil, id_eq, Bool.and_true, e0]; (try simp only [Int.ofNat_eq_natCast]); done) | ((try simp only [hu.b, hu.i, iB, iI, cmpB, ivs, ivl, lrs, lrl, trs, trl, decide_eq_true_eq, decide_eq_false_iff_not, beq_iff_eq, beq_eq_false_iff_ne, ne_eq, ofN, Int.toNat_zero, Int.toNat_one, Int.reduceToNat, natc, hu.s, iS, svs, svl, true_iff, false_iff, Bool.false_eq_true, bne_iff_ne, bne_eq_false_iff_eq, Bool.not_eq_true', Bool.not_eq_false', Decidable.not_not, nil_toList, ByteArray.size_empty, nilS, not_true_eq_false, not_false_eq_true, hu.l, iL, hu.t, iT, bin_add, bin_sub, bin_mul, wr_u8, wr_u16, wr_u32, wr_u64, IntKind.wrap_i64, List.length_append, List.length_cons, List.length_nil, List.nil_append, List.append_nil, List.cons_append, lvals, List.length_replicate, List.length_set, linV_val hu, Int.add_zero, Int.zero_add, Int.mul_one, Int.sub_zero, Int.zero_mul, Bool.true_eq_false, false_and, and_false, true_and, and_true, List.all_cons, List.all_nil, id_eq, Bool.and_true, e0]) <;> (try simp only [Int.ofNat_eq_natCast]) <;> omega))
    all_goals try (subst hR; exact Weak.law (by rfl) (by rfl))
  have h3 : n ≤ 1024 := by omega
  obtain ⟨p, ep⟩ : ∃ x, x = wrongP bs 4 4 := ⟨_, rfl⟩
  obtain ⟨r, er⟩ : ∃ x, x = wrongP bs 1 2 := ⟨_, rfl⟩
  by_cases hp : 0 ≤ p
  · by_cases hr : 0 ≤ r
    · obtain ⟨uI, uB, uS, uL, uT, hu⟩ := words
      have hm := mixed
      have hT := tabOk
      have h6 := @awake_ctr
      have hRd := @read_2
      have hAn := @answer_2
      have hRr := @rread_2
      have hPa := @parts_2
      have hS := @refsame_nil
      have hT1 := @asame_nil
      have hC1 := @code_fault_c
      have hA := @at_fault_c
      obtain ⟨P, hP⟩ : ∃ P, P = Tryd.prog := ⟨_, rfl⟩
      rw [← hP] at hm hT h6 hRd hAn hRr hPa hS hT1 hC1 hA ⊢
      refine Ctr.weak (ctr_of_vc hu hm hT (hP ▸ Tryd.func7) rfl (by kernel_rfl) ?_)
      clear hP hm hT
      generalize hR : Weak _ _ = R
      conv => cbv
      repeat' (first | ((with_reducible intro (h : _ = _)); (try subst h); (try simp only [hu.b, hu.i, iB, iI, cmpB, ivs, ivl, lrs, lrl, trs, trl, decide_eq_true_eq, decide_eq_false_iff_not, beq_iff_eq, beq_eq_false_iff_ne, ne_eq, ofN, Int.toNat_zero, Int.toNat_one, Int.reduceToNat, natc, hu.s, iS, svs, svl, true_iff, false_iff, Bool.false_eq_true, bne_iff_ne, bne_eq_false_iff_eq, Bool.not_eq_true', Bool.not_eq_false', Decidable.not_not, nil_toList, ByteArray.size_empty, nilS, not_true_eq_false, not_false_eq_true, hu.l, iL, hu.t, iT, bin_add, bin_sub, bin_mul, wr_u8, wr_u16, wr_u32, wr_u64, IntKind.wrap_i64, List.length_append, List.length_cons, List.length_nil, List.nil_append, List.append_nil, List.cons_append, lvals, List.length_replicate, List.length_set, linV_val hu, Int.add_zero, Int.zero_add, Int.mul_one, Int.sub_zero, Int.zero_mul, Bool.true_eq_false, false_and, and_false, true_and, and_true, List.all_cons, List.all_nil, id_eq, Bool.and_true, e0] at h) <;> (try simp only [Int.ofNat_eq_natCast] at h) <;> (first | (have hF0 : False := by omega; exact hF0.elim) | (conv => cbv))) | (with_reducible refine And.intro ?_ ?_) | (first | (refine CallDet.mkR ?_ (h6)) | (refine CallVC.mkR ?_ (h6))) | (first | (refine CallDet.mkR ?_ (hRd _ _ ?_ ?_ p ?_ ?_ ?_)) | (refine CallVC.mkR ?_ (hRd _ _ ?_ ?_ p ?_ ?_ ?_))) | (first | (refine CallDet.mkR ?_ (hAn _ _ ?_ ?_ r ?_ ?_ ?_)) | (refine CallVC.mkR ?_ (hAn _ _ ?_ ?_ r ?_ ?_ ?_))) | (first | (refine CallDet.mkR ?_ (hRr _ _ ?_ ?_ p ?_ ?_ ?_)) | (refine CallVC.mkR ?_ (hRr _ _ ?_ ?_ p ?_ ?_ ?_))) | (first | (refine CallDet.mkR ?_ (hPa _ _ ?_ ?_ r ?_ ?_ ?_)) | (refine CallVC.mkR ?_ (hPa _ _ ?_ ?_ r ?_ ?_ ?_))) | (first | (refine CallDet.mkR ?_ (hS _ _ _ _ _ _)) | (refine CallVC.mkR ?_ (hS _ _ _ _ _ _))) | (first | (refine CallDet.mkR ?_ (hT1 _ _)) | (refine CallVC.mkR ?_ (hT1 _ _))) | (first | (refine CallDet.mkR ?_ (hC1 _ _)) | (refine CallVC.mkR ?_ (hC1 _ _))) | (first | (refine CallDet.mkR ?_ (hA _ _)) | (refine CallVC.mkR ?_ (hA _ _))) | ((try simp only [hu.b, hu.i, iB, iI, cmpB, ivs, ivl, lrs, lrl, trs, trl, decide_eq_true_eq, decide_eq_false_iff_not, beq_iff_eq, beq_eq_false_iff_ne, ne_eq, ofN, Int.toNat_zero, Int.toNat_one, Int.reduceToNat, natc, hu.s, iS, svs, svl, true_iff, false_iff, Bool.false_eq_true, bne_iff_ne, bne_eq_false_iff_eq, Bool.not_eq_true', Bool.not_eq_false', Decidable.not_not, nil_toList, ByteArray.size_empty, nilS, not_true_eq_false, not_false_eq_true, hu.l, iL, hu.t, iT, bin_add, bin_sub, bin_mul, wr_u8, wr_u16, wr_u32, wr_u64, IntKind.wrap_i64, List.length_append, List.length_cons, List.length_nil, List.nil_append, List.append_nil, List.cons_append, lvals, List.length_replicate, List.length_set, linV_val hu, Int.add_zero, Int.zero_add, Int.mul_one, Int.sub_zero, Int.zero_mul, Bool.true_eq_false, false_and, and_false, true_and, and_true, List.all_cons, List.all_nil, id_eq, Bool.and_true, e0]) <;> (try simp only [Int.ofNat_eq_natCast]) <;> (first | exact hB | exact ep | exact er)) | (refine Gen0.mk ?_; (conv => cbv)) | (with_reducible refine Pick.view ?_; (conv => cbv)) | (simp only [hu.b, hu.i, iB, iI, cmpB, ivs, ivl, lrs, lrl, trs, trl, decide_eq_true_eq, decide_eq_false_iff_not, beq_iff_eq, beq_eq_false_iff_ne, ne_eq, ofN, Int.toNat_zero, Int.toNat_one, Int.reduceToNat, natc, hu.s, iS, svs, svl, true_iff, false_iff, Bool.false_eq_true, bne_iff_ne, bne_eq_false_iff_eq, Bool.not_eq_true', Bool.not_eq_false', Decidable.not_not, nil_toList, ByteArray.size_empty, nilS, not_true_eq_false, not_false_eq_true, hu.l, iL, hu.t, iT, bin_add, bin_sub, bin_mul, wr_u8, wr_u16, wr_u32, wr_u64, IntKind.wrap_i64, List.length_append, List.length_cons, List.length_nil, List.nil_append, List.append_nil, List.cons_append, lvals, List.length_replicate, List.length_set, linV_val hu, Int.add_zero, Int.zero_add, Int.mul_one, Int.sub_zero, Int.zero_mul, Bool.true_eq_false, false_and, and_false, true_and, and_true, List.all_cons, List.all_nil, id_eq, Bool.and_true, e0]; (try simp only [Int.ofNat_eq_natCast]); done) | ((try simp only [hu.b, hu.i, iB, iI, cmpB, ivs, ivl, lrs, lrl, trs, trl, decide_eq_true_eq, decide_eq_false_iff_not, beq_iff_eq, beq_eq_false_iff_ne, ne_eq, ofN, Int.toNat_zero, Int.toNat_one, Int.reduceToNat, natc, hu.s, iS, svs, svl, true_iff, false_iff, Bool.false_eq_true, bne_iff_ne, bne_eq_false_iff_eq, Bool.not_eq_true', Bool.not_eq_false', Decidable.not_not, nil_toList, ByteArray.size_empty, nilS, not_true_eq_false, not_false_eq_true, hu.l, iL, hu.t, iT, bin_add, bin_sub, bin_mul, wr_u8, wr_u16, wr_u32, wr_u64, IntKind.wrap_i64, List.length_append, List.length_cons, List.length_nil, List.nil_append, List.append_nil, List.cons_append, lvals, List.length_replicate, List.length_set, linV_val hu, Int.add_zero, Int.zero_add, Int.mul_one, Int.sub_zero, Int.zero_mul, Bool.true_eq_false, false_and, and_false, true_and, and_true, List.all_cons, List.all_nil, id_eq, Bool.and_true, e0]) <;> (try simp only [Int.ofNat_eq_natCast]) <;> omega))
      all_goals try (subst hR; exact Weak.law (by rfl) (by rfl))
    ·
      obtain ⟨w1, w2, hw⟩ : ∃ w1 w2, ptsP bs 2 1 = [w1, w2] := ⟨_, _, rfl⟩
      obtain ⟨xss, exs⟩ : ∃ x, x = ptsP bs 2 1 := ⟨_, rfl⟩
      obtain ⟨q, eq⟩ : ∃ x : Int, x = 2 := ⟨_, rfl⟩
      obtain ⟨e, ee⟩ : ∃ x : Int, x = -1 := ⟨_, rfl⟩
      have k1 : xss.getD 0 [] = w1 := by rw [exs, hw]; rfl
      have k2 : xss.getD 1 [] = w2 := by rw [exs, hw]; rfl
      have kl : (xss.length : Int) = 2 := by rw [exs, hw]; rfl
      have l1 : subL w1 0 (Int.ofNat w1.length) = w1 := subL_all _ _ rfl
      have l2 : subL w2 0 (Int.ofNat w2.length) = w2 := subL_all _ _ rfl
      have told : ∀ {o : Int} {sv : ByteArray} {zs : List Int}, RedA bs o sv zs → o = bs.getD 0 0 ∧ sv = strL w1 ∧ zs = w2 := fun h => by
        obtain ⟨x, g1, g2⟩ := h.parts
        rw [hw] at g1
        cases g1
        exact ⟨h.op, g2, rfl⟩
      have hb0 := hB.get 0
      have y0 : (bs.getD 0 0 + 9223372036854775808) % 18446744073709551616 - 9223372036854775808 = bs.getD 0 0 := by omega
      have hlen : 0 ≤ n → ¬ 0 ≤ r → 1 ≤ n := fun h h' => by
        unfold wrongP at er
        by_cases h9 : (bs.length : Int) < 1
        · rw [if_pos h9] at er; omega
        · omega
      have hn1 := hlen n0 hr
      obtain ⟨uI, uB, uS, uL, uT, hu⟩ := words
      have hm := mixed
      have hT := tabOk
      have h6 := @awake_ctr
      have hRd := @read_2
      have hAn := @answer_3
      have hRr := @rread_2
      have hPa := @parts_3
      have hS := @refsame_nil
      have hT1 := @asame_t
      have hC1 := @code_fault_c
      have hA := @at_fault_c
      obtain ⟨P, hP⟩ : ∃ P, P = Tryd.prog := ⟨_, rfl⟩
      rw [← hP] at hm hT h6 hRd hAn hRr hPa hS hT1 hC1 hA ⊢
      refine Ctr.weak (ctr_of_vc hu hm hT (hP ▸ Tryd.func7) rfl (by kernel_rfl) ?_)
      clear hP hm hT
      generalize hR : Weak _ _ = R
      conv => cbv
      repeat' (first | ((with_reducible intro (h : _ = _)); (try subst h); (try simp only [hu.b, hu.i, iB, iI, cmpB, ivs, ivl, lrs, lrl, trs, trl, decide_eq_true_eq, decide_eq_false_iff_not, beq_iff_eq, beq_eq_false_iff_ne, ne_eq, ofN, Int.toNat_zero, Int.toNat_one, Int.reduceToNat, natc, hu.s, iS, svs, svl, true_iff, false_iff, Bool.false_eq_true, bne_iff_ne, bne_eq_false_iff_eq, Bool.not_eq_true', Bool.not_eq_false', Decidable.not_not, nil_toList, ByteArray.size_empty, nilS, not_true_eq_false, not_false_eq_true, hu.l, iL, hu.t, iT, bin_add, bin_sub, bin_mul, wr_u8, wr_u16, wr_u32, wr_u64, IntKind.wrap_i64, List.length_append, List.length_cons, List.length_nil, List.nil_append, List.append_nil, List.cons_append, lvals, List.length_replicate, List.length_set, linV_val hu, Int.add_zero, Int.zero_add, Int.mul_one, Int.sub_zero, Int.zero_mul, Bool.true_eq_false, false_and, and_false, true_and, and_true, List.all_cons, List.all_nil, id_eq, Bool.and_true, e0, k1, k2, l1, l2, y0] at h) <;> (try simp only [Int.ofNat_eq_natCast] at h) <;> (first | (have hF0 : False := by omega; exact hF0.elim) | (conv => cbv))) | (with_reducible refine And.intro ?_ ?_) | (first | (refine CallDet.mkR ?_ (h6)) | (refine CallVC.mkR ?_ (h6))) | (first | (refine CallDet.mkR ?_ (hRd _ _ ?_ ?_ p ?_ ?_ ?_)) | (refine CallVC.mkR ?_ (hRd _ _ ?_ ?_ p ?_ ?_ ?_))) | (refine CallVC.mk (Ctr.monoR ?_ (hAn _ _ ?_ ?_ ?_ ?_)); ((rintro v H ⟨oa, sa, ma, ya, hj, rfl, rfl⟩) <;> (try simp only [hu.b, hu.i, iB, iI, cmpB, ivs, ivl, lrs, lrl, trs, trl, decide_eq_true_eq, decide_eq_false_iff_not, beq_iff_eq, beq_eq_false_iff_ne, ne_eq, ofN, Int.toNat_zero, Int.toNat_one, Int.reduceToNat, natc, hu.s, iS, svs, svl, true_iff, false_iff, Bool.false_eq_true, bne_iff_ne, bne_eq_false_iff_eq, Bool.not_eq_true', Bool.not_eq_false', Decidable.not_not, nil_toList, ByteArray.size_empty, nilS, not_true_eq_false, not_false_eq_true, hu.l, iL, hu.t, iT, bin_add, bin_sub, bin_mul, wr_u8, wr_u16, wr_u32, wr_u64, IntKind.wrap_i64, List.length_append, List.length_cons, List.length_nil, List.nil_append, List.append_nil, List.cons_append, lvals, List.length_replicate, List.length_set, linV_val hu, Int.add_zero, Int.zero_add, Int.mul_one, Int.sub_zero, Int.zero_mul, Bool.true_eq_false, false_and, and_false, true_and, and_true, List.all_cons, List.all_nil, id_eq, Bool.and_true, e0, k1, k2, l1, l2, y0] at hj) <;> (try simp only [Int.ofNat_eq_natCast] at hj) <;> (first | (have hF0 : False := by omega; exact hF0.elim) | (conv => cbv)))) | (first | (refine CallDet.mkR ?_ (hRr _ _ ?_ ?_ p ?_ ?_ ?_)) | (refine CallVC.mkR ?_ (hRr _ _ ?_ ?_ p ?_ ?_ ?_))) | (first | (refine CallDet.mkR ?_ (hPa _ _ ?_ ?_ q e xss ?_ ?_ eq ee ?_)) | (refine CallVC.mkR ?_ (hPa _ _ ?_ ?_ q e xss ?_ ?_ eq ee ?_))) | (first | (refine CallDet.mkR ?_ (hS _ _ _ _ _ _)) | (refine CallVC.mkR ?_ (hS _ _ _ _ _ _))) | (first | (refine CallDet.mkR ?_ (hT1 _ _ _ _ _ _ _ _ ?_ ?_ ?_ ?_ ?_ ?_)) | (refine CallVC.mkR ?_ (hT1 _ _ _ _ _ _ _ _ ?_ ?_ ?_ ?_ ?_ ?_))) | (first | (refine CallDet.mkR ?_ (hC1 _ _)) | (refine CallVC.mkR ?_ (hC1 _ _))) | (first | (refine CallDet.mkR ?_ (hA _ _)) | (refine CallVC.mkR ?_ (hA _ _))) | ((try simp only [hu.b, hu.i, iB, iI, cmpB, ivs, ivl, lrs, lrl, trs, trl, decide_eq_true_eq, decide_eq_false_iff_not, beq_iff_eq, beq_eq_false_iff_ne, ne_eq, ofN, Int.toNat_zero, Int.toNat_one, Int.reduceToNat, natc, hu.s, iS, svs, svl, true_iff, false_iff, Bool.false_eq_true, bne_iff_ne, bne_eq_false_iff_eq, Bool.not_eq_true', Bool.not_eq_false', Decidable.not_not, nil_toList, ByteArray.size_empty, nilS, not_true_eq_false, not_false_eq_true, hu.l, iL, hu.t, iT, bin_add, bin_sub, bin_mul, wr_u8, wr_u16, wr_u32, wr_u64, IntKind.wrap_i64, List.length_append, List.length_cons, List.length_nil, List.nil_append, List.append_nil, List.cons_append, lvals, List.length_replicate, List.length_set, linV_val hu, Int.add_zero, Int.zero_add, Int.mul_one, Int.sub_zero, Int.zero_mul, Bool.true_eq_false, false_and, and_false, true_and, and_true, List.all_cons, List.all_nil, id_eq, Bool.and_true, e0, k1, k2, l1, l2, y0]) <;> (try simp only [Int.ofNat_eq_natCast]) <;> (first | exact hB | exact ep | exact er | exact exs | exact (told hj.2.2).1 | exact (told hj.2.2).2.1 | exact (told hj.2.2).2.2)) | (refine Gen0.mk ?_; (conv => cbv)) | (with_reducible refine Pick.view ?_; (conv => cbv)) | (simp only [hu.b, hu.i, iB, iI, cmpB, ivs, ivl, lrs, lrl, trs, trl, decide_eq_true_eq, decide_eq_false_iff_not, beq_iff_eq, beq_eq_false_iff_ne, ne_eq, ofN, Int.toNat_zero, Int.toNat_one, Int.reduceToNat, natc, hu.s, iS, svs, svl, true_iff, false_iff, Bool.false_eq_true, bne_iff_ne, bne_eq_false_iff_eq, Bool.not_eq_true', Bool.not_eq_false', Decidable.not_not, nil_toList, ByteArray.size_empty, nilS, not_true_eq_false, not_false_eq_true, hu.l, iL, hu.t, iT, bin_add, bin_sub, bin_mul, wr_u8, wr_u16, wr_u32, wr_u64, IntKind.wrap_i64, List.length_append, List.length_cons, List.length_nil, List.nil_append, List.append_nil, List.cons_append, lvals, List.length_replicate, List.length_set, linV_val hu, Int.add_zero, Int.zero_add, Int.mul_one, Int.sub_zero, Int.zero_mul, Bool.true_eq_false, false_and, and_false, true_and, and_true, List.all_cons, List.all_nil, id_eq, Bool.and_true, e0, k1, k2, l1, l2, y0]; (try simp only [Int.ofNat_eq_natCast]); done) | ((try simp only [hu.b, hu.i, iB, iI, cmpB, ivs, ivl, lrs, lrl, trs, trl, decide_eq_true_eq, decide_eq_false_iff_not, beq_iff_eq, beq_eq_false_iff_ne, ne_eq, ofN, Int.toNat_zero, Int.toNat_one, Int.reduceToNat, natc, hu.s, iS, svs, svl, true_iff, false_iff, Bool.false_eq_true, bne_iff_ne, bne_eq_false_iff_eq, Bool.not_eq_true', Bool.not_eq_false', Decidable.not_not, nil_toList, ByteArray.size_empty, nilS, not_true_eq_false, not_false_eq_true, hu.l, iL, hu.t, iT, bin_add, bin_sub, bin_mul, wr_u8, wr_u16, wr_u32, wr_u64, IntKind.wrap_i64, List.length_append, List.length_cons, List.length_nil, List.nil_append, List.append_nil, List.cons_append, lvals, List.length_replicate, List.length_set, linV_val hu, Int.add_zero, Int.zero_add, Int.mul_one, Int.sub_zero, Int.zero_mul, Bool.true_eq_false, false_and, and_false, true_and, and_true, List.all_cons, List.all_nil, id_eq, Bool.and_true, e0, k1, k2, l1, l2, y0]) <;> (try simp only [Int.ofNat_eq_natCast]) <;> omega))
      all_goals try (subst hR; exact Weak.law (by rfl) (by rfl))
  · by_cases hr : 0 ≤ r
    · obtain ⟨uI, uB, uS, uL, uT, hu⟩ := words
      have hm := mixed
      have hT := tabOk
      have h6 := @awake_ctr
      have hRd := @read_3
      have hAn := @answer_2
      have hRr := @rread_3
      have hPa := @parts_2
      have hS := @refsame_t
      have hT1 := @asame_nil
      have hC1 := @code_fault_c
      have hA := @at_fault_c
      obtain ⟨P, hP⟩ : ∃ P, P = Tryd.prog := ⟨_, rfl⟩
      rw [← hP] at hm hT h6 hRd hAn hRr hPa hS hT1 hC1 hA ⊢
      refine Ctr.weak (ctr_of_vc hu hm hT (hP ▸ Tryd.func7) rfl (by kernel_rfl) ?_)
      clear hP hm hT
      generalize hR : Weak _ _ = R
      conv => cbv
      repeat' (first | ((with_reducible intro (h : _ = _)); (try subst h); (try simp only [hu.b, hu.i, iB, iI, cmpB, ivs, ivl, lrs, lrl, trs, trl, decide_eq_true_eq, decide_eq_false_iff_not, beq_iff_eq, beq_eq_false_iff_ne, ne_eq, ofN, Int.toNat_zero, Int.toNat_one, Int.reduceToNat, natc, hu.s, iS, svs, svl, true_iff, false_iff, Bool.false_eq_true, bne_iff_ne, bne_eq_false_iff_eq, Bool.not_eq_true', Bool.not_eq_false', Decidable.not_not, nil_toList, ByteArray.size_empty, nilS, not_true_eq_false, not_false_eq_true, hu.l, iL, hu.t, iT, bin_add, bin_sub, bin_mul, wr_u8, wr_u16, wr_u32, wr_u64, IntKind.wrap_i64, List.length_append, List.length_cons, List.length_nil, List.nil_append, List.append_nil, List.cons_append, lvals, List.length_replicate, List.length_set, linV_val hu, Int.add_zero, Int.zero_add, Int.mul_one, Int.sub_zero, Int.zero_mul, Bool.true_eq_false, false_and, and_false, true_and, and_true, List.all_cons, List.all_nil, id_eq, Bool.and_true, e0] at h) <;> (try simp only [Int.ofNat_eq_natCast] at h) <;> (first | (have hF0 : False := by omega; exact hF0.elim) | (conv => cbv))) | (with_reducible refine And.intro ?_ ?_) | (first | (refine CallDet.mkR ?_ (h6)) | (refine CallVC.mkR ?_ (h6))) | (refine CallVC.mk (Ctr.monoR ?_ (hRd _ _ ?_ ?_ ?_ ?_)); ((rintro v H ⟨op, a, b, s, t, u, m, ys, hd, rfl, rfl⟩) <;> (try simp only [hu.b, hu.i, iB, iI, cmpB, ivs, ivl, lrs, lrl, trs, trl, decide_eq_true_eq, decide_eq_false_iff_not, beq_iff_eq, beq_eq_false_iff_ne, ne_eq, ofN, Int.toNat_zero, Int.toNat_one, Int.reduceToNat, natc, hu.s, iS, svs, svl, true_iff, false_iff, Bool.false_eq_true, bne_iff_ne, bne_eq_false_iff_eq, Bool.not_eq_true', Bool.not_eq_false', Decidable.not_not, nil_toList, ByteArray.size_empty, nilS, not_true_eq_false, not_false_eq_true, hu.l, iL, hu.t, iT, bin_add, bin_sub, bin_mul, wr_u8, wr_u16, wr_u32, wr_u64, IntKind.wrap_i64, List.length_append, List.length_cons, List.length_nil, List.nil_append, List.append_nil, List.cons_append, lvals, List.length_replicate, List.length_set, linV_val hu, Int.add_zero, Int.zero_add, Int.mul_one, Int.sub_zero, Int.zero_mul, Bool.true_eq_false, false_and, and_false, true_and, and_true, List.all_cons, List.all_nil, id_eq, Bool.and_true, e0] at hd) <;> (try simp only [Int.ofNat_eq_natCast] at hd) <;> (first | (have hF0 : False := by omega; exact hF0.elim) | (conv => cbv)))) | (first | (refine CallDet.mkR ?_ (hAn _ _ ?_ ?_ r ?_ ?_ ?_)) | (refine CallVC.mkR ?_ (hAn _ _ ?_ ?_ r ?_ ?_ ?_))) | (refine CallVC.mk (Ctr.monoR ?_ (hRr _ _ ?_ ?_ ?_ ?_)); ((rintro v H ⟨op2, a2, b2, s2, t2, u2, m2, ys2, e2, hg, rfl, rfl⟩) <;> (try simp only [hu.b, hu.i, iB, iI, cmpB, ivs, ivl, lrs, lrl, trs, trl, decide_eq_true_eq, decide_eq_false_iff_not, beq_iff_eq, beq_eq_false_iff_ne, ne_eq, ofN, Int.toNat_zero, Int.toNat_one, Int.reduceToNat, natc, hu.s, iS, svs, svl, true_iff, false_iff, Bool.false_eq_true, bne_iff_ne, bne_eq_false_iff_eq, Bool.not_eq_true', Bool.not_eq_false', Decidable.not_not, nil_toList, ByteArray.size_empty, nilS, not_true_eq_false, not_false_eq_true, hu.l, iL, hu.t, iT, bin_add, bin_sub, bin_mul, wr_u8, wr_u16, wr_u32, wr_u64, IntKind.wrap_i64, List.length_append, List.length_cons, List.length_nil, List.nil_append, List.append_nil, List.cons_append, lvals, List.length_replicate, List.length_set, linV_val hu, Int.add_zero, Int.zero_add, Int.mul_one, Int.sub_zero, Int.zero_mul, Bool.true_eq_false, false_and, and_false, true_and, and_true, List.all_cons, List.all_nil, id_eq, Bool.and_true, e0] at hg) <;> (try simp only [Int.ofNat_eq_natCast] at hg) <;> (first | (have hF0 : False := by omega; exact hF0.elim) | (conv => cbv)))) | (first | (refine CallDet.mkR ?_ (hPa _ _ ?_ ?_ r ?_ ?_ ?_)) | (refine CallVC.mkR ?_ (hPa _ _ ?_ ?_ r ?_ ?_ ?_))) | (first | (refine CallDet.mkR ?_ (hS _ _ _ _ _ _ _ _ _ _ _ _ _ _ _ _ ?_ ?_ ?_ ?_ ?_ ?_ ?_ ?_ ?_ ?_)) | (refine CallVC.mkR ?_ (hS _ _ _ _ _ _ _ _ _ _ _ _ _ _ _ _ ?_ ?_ ?_ ?_ ?_ ?_ ?_ ?_ ?_ ?_))) | (first | (refine CallDet.mkR ?_ (hT1 _ _)) | (refine CallVC.mkR ?_ (hT1 _ _))) | (first | (refine CallDet.mkR ?_ (hC1 _ _)) | (refine CallVC.mkR ?_ (hC1 _ _))) | (first | (refine CallDet.mkR ?_ (hA _ _)) | (refine CallVC.mkR ?_ (hA _ _))) | ((try simp only [hu.b, hu.i, iB, iI, cmpB, ivs, ivl, lrs, lrl, trs, trl, decide_eq_true_eq, decide_eq_false_iff_not, beq_iff_eq, beq_eq_false_iff_ne, ne_eq, ofN, Int.toNat_zero, Int.toNat_one, Int.reduceToNat, natc, hu.s, iS, svs, svl, true_iff, false_iff, Bool.false_eq_true, bne_iff_ne, bne_eq_false_iff_eq, Bool.not_eq_true', Bool.not_eq_false', Decidable.not_not, nil_toList, ByteArray.size_empty, nilS, not_true_eq_false, not_false_eq_true, hu.l, iL, hu.t, iT, bin_add, bin_sub, bin_mul, wr_u8, wr_u16, wr_u32, wr_u64, IntKind.wrap_i64, List.length_append, List.length_cons, List.length_nil, List.nil_append, List.append_nil, List.cons_append, lvals, List.length_replicate, List.length_set, linV_val hu, Int.add_zero, Int.zero_add, Int.mul_one, Int.sub_zero, Int.zero_mul, Bool.true_eq_false, false_and, and_false, true_and, and_true, List.all_cons, List.all_nil, id_eq, Bool.and_true, e0]) <;> (try simp only [Int.ofNat_eq_natCast]) <;> (first | exact hB | exact ep | exact er | exact exs | exact (Red.uniq hd.2.2 hg.2.1).1 | exact (Red.uniq hd.2.2 hg.2.1).2.1 | exact (Red.uniq hd.2.2 hg.2.1).2.2.1 | exact (Red.uniq hd.2.2 hg.2.1).2.2.2.1 | exact (Red.uniq hd.2.2 hg.2.1).2.2.2.2.1 | exact (Red.uniq hd.2.2 hg.2.1).2.2.2.2.2.1 | (rw [subL_all _ _ hg.1]; exact (Red.uniq hd.2.2 hg.2.1).2.2.2.2.2.2) | (rw [subL_all _ _ hg.1]; exact hg.1))) | (refine Gen0.mk ?_; (conv => cbv)) | (with_reducible refine Pick.view ?_; (conv => cbv)) | (simp only [hu.b, hu.i, iB, iI, cmpB, ivs, ivl, lrs, lrl, trs, trl, decide_eq_true_eq, decide_eq_false_iff_not, beq_iff_eq, beq_eq_false_iff_ne, ne_eq, ofN, Int.toNat_zero, Int.toNat_one, Int.reduceToNat, natc, hu.s, iS, svs, svl, true_iff, false_iff, Bool.false_eq_true, bne_iff_ne, bne_eq_false_iff_eq, Bool.not_eq_true', Bool.not_eq_false', Decidable.not_not, nil_toList, ByteArray.size_empty, nilS, not_true_eq_false, not_false_eq_true, hu.l, iL, hu.t, iT, bin_add, bin_sub, bin_mul, wr_u8, wr_u16, wr_u32, wr_u64, IntKind.wrap_i64, List.length_append, List.length_cons, List.length_nil, List.nil_append, List.append_nil, List.cons_append, lvals, List.length_replicate, List.length_set, linV_val hu, Int.add_zero, Int.zero_add, Int.mul_one, Int.sub_zero, Int.zero_mul, Bool.true_eq_false, false_and, and_false, true_and, and_true, List.all_cons, List.all_nil, id_eq, Bool.and_true, e0]; (try simp only [Int.ofNat_eq_natCast]); done) | ((try simp only [hu.b, hu.i, iB, iI, cmpB, ivs, ivl, lrs, lrl, trs, trl, decide_eq_true_eq, decide_eq_false_iff_not, beq_iff_eq, beq_eq_false_iff_ne, ne_eq, ofN, Int.toNat_zero, Int.toNat_one, Int.reduceToNat, natc, hu.s, iS, svs, svl, true_iff, false_iff, Bool.false_eq_true, bne_iff_ne, bne_eq_false_iff_eq, Bool.not_eq_true', Bool.not_eq_false', Decidable.not_not, nil_toList, ByteArray.size_empty, nilS, not_true_eq_false, not_false_eq_true, hu.l, iL, hu.t, iT, bin_add, bin_sub, bin_mul, wr_u8, wr_u16, wr_u32, wr_u64, IntKind.wrap_i64, List.length_append, List.length_cons, List.length_nil, List.nil_append, List.append_nil, List.cons_append, lvals, List.length_replicate, List.length_set, linV_val hu, Int.add_zero, Int.zero_add, Int.mul_one, Int.sub_zero, Int.zero_mul, Bool.true_eq_false, false_and, and_false, true_and, and_true, List.all_cons, List.all_nil, id_eq, Bool.and_true, e0]) <;> (try simp only [Int.ofNat_eq_natCast]) <;> omega))
      all_goals try (subst hR; exact Weak.law (by rfl) (by rfl))
    ·
      obtain ⟨w1, w2, hw⟩ : ∃ w1 w2, ptsP bs 2 1 = [w1, w2] := ⟨_, _, rfl⟩
      obtain ⟨xss, exs⟩ : ∃ x, x = ptsP bs 2 1 := ⟨_, rfl⟩
      obtain ⟨q, eq⟩ : ∃ x : Int, x = 2 := ⟨_, rfl⟩
      obtain ⟨e, ee⟩ : ∃ x : Int, x = -1 := ⟨_, rfl⟩
      have k1 : xss.getD 0 [] = w1 := by rw [exs, hw]; rfl
      have k2 : xss.getD 1 [] = w2 := by rw [exs, hw]; rfl
      have kl : (xss.length : Int) = 2 := by rw [exs, hw]; rfl
      have l1 : subL w1 0 (Int.ofNat w1.length) = w1 := subL_all _ _ rfl
      have l2 : subL w2 0 (Int.ofNat w2.length) = w2 := subL_all _ _ rfl
      have told : ∀ {o : Int} {sv : ByteArray} {zs : List Int}, RedA bs o sv zs → o = bs.getD 0 0 ∧ sv = strL w1 ∧ zs = w2 := fun h => by
        obtain ⟨x, g1, g2⟩ := h.parts
        rw [hw] at g1
        cases g1
        exact ⟨h.op, g2, rfl⟩
      have hb0 := hB.get 0
      have y0 : (bs.getD 0 0 + 9223372036854775808) % 18446744073709551616 - 9223372036854775808 = bs.getD 0 0 := by omega
      have hlen : 0 ≤ n → ¬ 0 ≤ r → 1 ≤ n := fun h h' => by
        unfold wrongP at er
        by_cases h9 : (bs.length : Int) < 1
        · rw [if_pos h9] at er; omega
        · omega
      have hn1 := hlen n0 hr
      obtain ⟨uI, uB, uS, uL, uT, hu⟩ := words
      have hm := mixed
      have hT := tabOk
      have h6 := @awake_ctr
      have hRd := @read_3
      have hAn := @answer_3
      have hRr := @rread_3
      have hPa := @parts_3
      have hS := @refsame_t
      have hT1 := @asame_t
      have hC1 := @code_fault_c
      have hA := @at_fault_c
      obtain ⟨P, hP⟩ : ∃ P, P = Tryd.prog := ⟨_, rfl⟩
      rw [← hP] at hm hT h6 hRd hAn hRr hPa hS hT1 hC1 hA ⊢
      refine Ctr.weak (ctr_of_vc hu hm hT (hP ▸ Tryd.func7) rfl (by kernel_rfl) ?_)
      clear hP hm hT
      generalize hR : Weak _ _ = R
      conv => cbv
      repeat' (first | ((with_reducible intro (h : _ = _)); (try subst h); (try simp only [hu.b, hu.i, iB, iI, cmpB, ivs, ivl, lrs, lrl, trs, trl, decide_eq_true_eq, decide_eq_false_iff_not, beq_iff_eq, beq_eq_false_iff_ne, ne_eq, ofN, Int.toNat_zero, Int.toNat_one, Int.reduceToNat, natc, hu.s, iS, svs, svl, true_iff, false_iff, Bool.false_eq_true, bne_iff_ne, bne_eq_false_iff_eq, Bool.not_eq_true', Bool.not_eq_false', Decidable.not_not, nil_toList, ByteArray.size_empty, nilS, not_true_eq_false, not_false_eq_true, hu.l, iL, hu.t, iT, bin_add, bin_sub, bin_mul, wr_u8, wr_u16, wr_u32, wr_u64, IntKind.wrap_i64, List.length_append, List.length_cons, List.length_nil, List.nil_append, List.append_nil, List.cons_append, lvals, List.length_replicate, List.length_set, linV_val hu, Int.add_zero, Int.zero_add, Int.mul_one, Int.sub_zero, Int.zero_mul, Bool.true_eq_false, false_and, and_false, true_and, and_true, List.all_cons, List.all_nil, id_eq, Bool.and_true, e0, k1, k2, l1, l2, y0] at h) <;> (try simp only [Int.ofNat_eq_natCast] at h) <;> (first | (have hF0 : False := by omega; exact hF0.elim) | (conv => cbv))) | (with_reducible refine And.intro ?_ ?_) | (first | (refine CallDet.mkR ?_ (h6)) | (refine CallVC.mkR ?_ (h6))) | (refine CallVC.mk (Ctr.monoR ?_ (hRd _ _ ?_ ?_ ?_ ?_)); ((rintro v H ⟨op, a, b, s, t, u, m, ys, hd, rfl, rfl⟩) <;> (try simp only [hu.b, hu.i, iB, iI, cmpB, ivs, ivl, lrs, lrl, trs, trl, decide_eq_true_eq, decide_eq_false_iff_not, beq_iff_eq, beq_eq_false_iff_ne, ne_eq, ofN, Int.toNat_zero, Int.toNat_one, Int.reduceToNat, natc, hu.s, iS, svs, svl, true_iff, false_iff, Bool.false_eq_true, bne_iff_ne, bne_eq_false_iff_eq, Bool.not_eq_true', Bool.not_eq_false', Decidable.not_not, nil_toList, ByteArray.size_empty, nilS, not_true_eq_false, not_false_eq_true, hu.l, iL, hu.t, iT, bin_add, bin_sub, bin_mul, wr_u8, wr_u16, wr_u32, wr_u64, IntKind.wrap_i64, List.length_append, List.length_cons, List.length_nil, List.nil_append, List.append_nil, List.cons_append, lvals, List.length_replicate, List.length_set, linV_val hu, Int.add_zero, Int.zero_add, Int.mul_one, Int.sub_zero, Int.zero_mul, Bool.true_eq_false, false_and, and_false, true_and, and_true, List.all_cons, List.all_nil, id_eq, Bool.and_true, e0, k1, k2, l1, l2, y0] at hd) <;> (try simp only [Int.ofNat_eq_natCast] at hd) <;> (first | (have hF0 : False := by omega; exact hF0.elim) | (conv => cbv)))) | (refine CallVC.mk (Ctr.monoR ?_ (hAn _ _ ?_ ?_ ?_ ?_)); ((rintro v H ⟨oa, sa, ma, ya, hj, rfl, rfl⟩) <;> (try simp only [hu.b, hu.i, iB, iI, cmpB, ivs, ivl, lrs, lrl, trs, trl, decide_eq_true_eq, decide_eq_false_iff_not, beq_iff_eq, beq_eq_false_iff_ne, ne_eq, ofN, Int.toNat_zero, Int.toNat_one, Int.reduceToNat, natc, hu.s, iS, svs, svl, true_iff, false_iff, Bool.false_eq_true, bne_iff_ne, bne_eq_false_iff_eq, Bool.not_eq_true', Bool.not_eq_false', Decidable.not_not, nil_toList, ByteArray.size_empty, nilS, not_true_eq_false, not_false_eq_true, hu.l, iL, hu.t, iT, bin_add, bin_sub, bin_mul, wr_u8, wr_u16, wr_u32, wr_u64, IntKind.wrap_i64, List.length_append, List.length_cons, List.length_nil, List.nil_append, List.append_nil, List.cons_append, lvals, List.length_replicate, List.length_set, linV_val hu, Int.add_zero, Int.zero_add, Int.mul_one, Int.sub_zero, Int.zero_mul, Bool.true_eq_false, false_and, and_false, true_and, and_true, List.all_cons, List.all_nil, id_eq, Bool.and_true, e0, k1, k2, l1, l2, y0] at hj) <;> (try simp only [Int.ofNat_eq_natCast] at hj) <;> (first | (have hF0 : False := by omega; exact hF0.elim) | (conv => cbv)))) | (refine CallVC.mk (Ctr.monoR ?_ (hRr _ _ ?_ ?_ ?_ ?_)); ((rintro v H ⟨op2, a2, b2, s2, t2, u2, m2, ys2, e2, hg, rfl, rfl⟩) <;> (try simp only [hu.b, hu.i, iB, iI, cmpB, ivs, ivl, lrs, lrl, trs, trl, decide_eq_true_eq, decide_eq_false_iff_not, beq_iff_eq, beq_eq_false_iff_ne, ne_eq, ofN, Int.toNat_zero, Int.toNat_one, Int.reduceToNat, natc, hu.s, iS, svs, svl, true_iff, false_iff, Bool.false_eq_true, bne_iff_ne, bne_eq_false_iff_eq, Bool.not_eq_true', Bool.not_eq_false', Decidable.not_not, nil_toList, ByteArray.size_empty, nilS, not_true_eq_false, not_false_eq_true, hu.l, iL, hu.t, iT, bin_add, bin_sub, bin_mul, wr_u8, wr_u16, wr_u32, wr_u64, IntKind.wrap_i64, List.length_append, List.length_cons, List.length_nil, List.nil_append, List.append_nil, List.cons_append, lvals, List.length_replicate, List.length_set, linV_val hu, Int.add_zero, Int.zero_add, Int.mul_one, Int.sub_zero, Int.zero_mul, Bool.true_eq_false, false_and, and_false, true_and, and_true, List.all_cons, List.all_nil, id_eq, Bool.and_true, e0, k1, k2, l1, l2, y0] at hg) <;> (try simp only [Int.ofNat_eq_natCast] at hg) <;> (first | (have hF0 : False := by omega; exact hF0.elim) | (conv => cbv)))) | (first | (refine CallDet.mkR ?_ (hPa _ _ ?_ ?_ q e xss ?_ ?_ eq ee ?_)) | (refine CallVC.mkR ?_ (hPa _ _ ?_ ?_ q e xss ?_ ?_ eq ee ?_))) | (first | (refine CallDet.mkR ?_ (hS _ _ _ _ _ _ _ _ _ _ _ _ _ _ _ _ ?_ ?_ ?_ ?_ ?_ ?_ ?_ ?_ ?_ ?_)) | (refine CallVC.mkR ?_ (hS _ _ _ _ _ _ _ _ _ _ _ _ _ _ _ _ ?_ ?_ ?_ ?_ ?_ ?_ ?_ ?_ ?_ ?_))) | (first | (refine CallDet.mkR ?_ (hT1 _ _ _ _ _ _ _ _ ?_ ?_ ?_ ?_ ?_ ?_)) | (refine CallVC.mkR ?_ (hT1 _ _ _ _ _ _ _ _ ?_ ?_ ?_ ?_ ?_ ?_))) | (first | (refine CallDet.mkR ?_ (hC1 _ _)) | (refine CallVC.mkR ?_ (hC1 _ _))) | (first | (refine CallDet.mkR ?_ (hA _ _)) | (refine CallVC.mkR ?_ (hA _ _))) | ((try simp only [hu.b, hu.i, iB, iI, cmpB, ivs, ivl, lrs, lrl, trs, trl, decide_eq_true_eq, decide_eq_false_iff_not, beq_iff_eq, beq_eq_false_iff_ne, ne_eq, ofN, Int.toNat_zero, Int.toNat_one, Int.reduceToNat, natc, hu.s, iS, svs, svl, true_iff, false_iff, Bool.false_eq_true, bne_iff_ne, bne_eq_false_iff_eq, Bool.not_eq_true', Bool.not_eq_false', Decidable.not_not, nil_toList, ByteArray.size_empty, nilS, not_true_eq_false, not_false_eq_true, hu.l, iL, hu.t, iT, bin_add, bin_sub, bin_mul, wr_u8, wr_u16, wr_u32, wr_u64, IntKind.wrap_i64, List.length_append, List.length_cons, List.length_nil, List.nil_append, List.append_nil, List.cons_append, lvals, List.length_replicate, List.length_set, linV_val hu, Int.add_zero, Int.zero_add, Int.mul_one, Int.sub_zero, Int.zero_mul, Bool.true_eq_false, false_and, and_false, true_and, and_true, List.all_cons, List.all_nil, id_eq, Bool.and_true, e0, k1, k2, l1, l2, y0]) <;> (try simp only [Int.ofNat_eq_natCast]) <;> (first | exact hB | exact ep | exact er | exact exs | exact (Red.uniq hd.2.2 hg.2.1).1 | exact (Red.uniq hd.2.2 hg.2.1).2.1 | exact (Red.uniq hd.2.2 hg.2.1).2.2.1 | exact (Red.uniq hd.2.2 hg.2.1).2.2.2.1 | exact (Red.uniq hd.2.2 hg.2.1).2.2.2.2.1 | exact (Red.uniq hd.2.2 hg.2.1).2.2.2.2.2.1 | (rw [subL_all _ _ hg.1]; exact (Red.uniq hd.2.2 hg.2.1).2.2.2.2.2.2) | (rw [subL_all _ _ hg.1]; exact hg.1) | exact (told hj.2.2).1 | exact (told hj.2.2).2.1 | exact (told hj.2.2).2.2)) | (refine Gen0.mk ?_; (conv => cbv)) | (with_reducible refine Pick.view ?_; (conv => cbv)) | (simp only [hu.b, hu.i, iB, iI, cmpB, ivs, ivl, lrs, lrl, trs, trl, decide_eq_true_eq, decide_eq_false_iff_not, beq_iff_eq, beq_eq_false_iff_ne, ne_eq, ofN, Int.toNat_zero, Int.toNat_one, Int.reduceToNat, natc, hu.s, iS, svs, svl, true_iff, false_iff, Bool.false_eq_true, bne_iff_ne, bne_eq_false_iff_eq, Bool.not_eq_true', Bool.not_eq_false', Decidable.not_not, nil_toList, ByteArray.size_empty, nilS, not_true_eq_false, not_false_eq_true, hu.l, iL, hu.t, iT, bin_add, bin_sub, bin_mul, wr_u8, wr_u16, wr_u32, wr_u64, IntKind.wrap_i64, List.length_append, List.length_cons, List.length_nil, List.nil_append, List.append_nil, List.cons_append, lvals, List.length_replicate, List.length_set, linV_val hu, Int.add_zero, Int.zero_add, Int.mul_one, Int.sub_zero, Int.zero_mul, Bool.true_eq_false, false_and, and_false, true_and, and_true, List.all_cons, List.all_nil, id_eq, Bool.and_true, e0, k1, k2, l1, l2, y0]; (try simp only [Int.ofNat_eq_natCast]); done) | ((try simp only [hu.b, hu.i, iB, iI, cmpB, ivs, ivl, lrs, lrl, trs, trl, decide_eq_true_eq, decide_eq_false_iff_not, beq_iff_eq, beq_eq_false_iff_ne, ne_eq, ofN, Int.toNat_zero, Int.toNat_one, Int.reduceToNat, natc, hu.s, iS, svs, svl, true_iff, false_iff, Bool.false_eq_true, bne_iff_ne, bne_eq_false_iff_eq, Bool.not_eq_true', Bool.not_eq_false', Decidable.not_not, nil_toList, ByteArray.size_empty, nilS, not_true_eq_false, not_false_eq_true, hu.l, iL, hu.t, iT, bin_add, bin_sub, bin_mul, wr_u8, wr_u16, wr_u32, wr_u64, IntKind.wrap_i64, List.length_append, List.length_cons, List.length_nil, List.nil_append, List.append_nil, List.cons_append, lvals, List.length_replicate, List.length_set, linV_val hu, Int.add_zero, Int.zero_add, Int.mul_one, Int.sub_zero, Int.zero_mul, Bool.true_eq_false, false_and, and_false, true_and, and_true, List.all_cons, List.all_nil, id_eq, Bool.and_true, e0, k1, k2, l1, l2, y0]) <;> (try simp only [Int.ofNat_eq_natCast]) <;> omega))
      all_goals try (subst hR; exact Weak.law (by rfl) (by rfl))
end Go.Proofs.YtdenmaiimfnbeaaDoor
