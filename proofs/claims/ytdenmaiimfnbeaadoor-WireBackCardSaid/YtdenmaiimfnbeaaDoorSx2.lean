import Derived.Test.YtdenmaiimfnbeaaDoorSx1
import Derived.Deep.AppendSrc
import Derived.Great.BuildSlice
set_option linter.all false
set_option linter.unusedSectionVars false
set_option linter.unusedVariables false
set_option linter.unusedSimpArgs false
namespace Sx
open Go
section
variable {P : Program} {T : Tab} {own : Own} {r : Rho} {hp : Hp} {w : World}

theorem field_at {f : Array Field} {fs : List (Nat × TypeId)} (h : f.toList.map (fun x => (x.offset, x.type)) = fs) {n off ft : Nat} (hn : fs[n]? = some (off, ft)) :
    ∃ x, f[n]? = some x ∧ x.offset = off ∧ x.type = ft := by
  rw [← h, List.getElem?_map] at hn
  obtain ⟨x, hx, he⟩ := Option.map_eq_some_iff.1 hn
  simp only [Prod.mk.injEq] at he
  exact ⟨x, by simpa using hx, he.1, he.2⟩

theorem fieldAddr_ok {n f : Nat} {t : TypeId} {u v' : V} {a : Value} {obl : List Bool} {out : List Blk} {new : Option Blk} (hT : TabOk P T) (hg : Good P own r hp w)
    (hx : VRel r u a) (h : fieldAddrOut T t u f = .val obl v' out new) :
    ROk P own r w ((Instr.fieldAt t a f).run P w) v' (hwrites hp (zipW [] out ++ newW n new)) := by
  unfold fieldAddrOut at h
  split at h
  · rename_i i hi
    have ht := hT _ _ hi
    have hd := ht.d
    split at h
    · rename_i fs id o hde
      rw [hde] at hd
      simp only [DOk] at hd
      obtain ⟨fl, hfl, hfs⟩ := hd
      split at h
      · rename_i off ft hf
        split at h
        · rename_i fi hfi
          have hft := hT _ _ hfi
          split at h
          · cases h
          · rename_i hz
            simp only [Out.val.injEq] at h; obtain ⟨rfl, rfl, rfl, rfl⟩ := h
            simp only [VRel] at hx
            obtain ⟨ra, b, hr, ha, h0, rfl⟩ := hx
            obtain ⟨fd, e1, e2, e3⟩ := field_at hfs hf
            obtain ⟨g1, g2⟩ := offAdd_nat o off h0 h0
            have hsz : ¬ fi.size = 0 := fun e => by rw [e] at hz; simp at hz
            refine ROk.pure hg (v' := .pointer (some (b.add (o.nat + off)))) ?_ ?_ (fun _ => rfl)
            · simp [Instr.fieldAt, run_underlying hfl, e1, Instr.sureAddr, fieldPlace, e3, run_sizeOf w hft, hsz, e2, add_add]
            · simp only [VRel]; exact ⟨ra, b, hr, ha, g2, by rw [g1]⟩
        · cases h
      · cases h
    · cases h
  · cases h

theorem field_ok {n f : Nat} {t : TypeId} {u v' : V} {a : Value} {obl : List Bool} {out : List Blk} {new : Option Blk} (hT : TabOk P T) (hg : Good P own r hp w)
    (hx : VRel r u a) (h : fieldOut T t u f = .val obl v' out new) :
    ROk P own r w ((Instr.field t a f).run P w) v' (hwrites hp (zipW [] out ++ newW n new)) := by
  unfold fieldOut at h
  split at h
  · rename_i i hi
    have ht := hT _ _ hi
    have hd := ht.d
    split at h
    · rename_i fs l hde
      rw [hde] at hd
      simp only [DOk] at hd
      obtain ⟨fl, hfl, hfs⟩ := hd
      split at h
      · rename_i off ft hf
        split at h
        · rename_i fi hfi
          have hft := hT _ _ hfi
          split at h
          · rename_i hle
            split at h
            · rename_i v hv
              simp only [Out.val.injEq] at h; obtain ⟨rfl, rfl, rfl, rfl⟩ := h
              simp only [VRel] at hx
              obtain ⟨cs, rfl, h1, h2⟩ := hx
              obtain ⟨fd, e1, e2, e3⟩ := field_at hfs hf
              rw [ltake_eq, ldrop_eq] at hv
              have hone : OneCells ((cs.toList.drop off).take fi.size) := fun y hy => h2 y (List.mem_of_mem_drop (List.mem_of_mem_take hy))
              have := valOf_rel hv ((h1.drop off).take fi.size) hone
              have hle' : off + fi.size ≤ l.length := by rw [llen_eq] at hle; exact Nat.le_of_ble_eq_true hle
              have hl := h1.length
              by_cases hag : isAggD fi.d = true
              · rw [if_pos hag] at this
                refine ROk.pure hg (v' := .agg (cs.extract off (off + fi.size))) ?_ ?_ (fun _ => rfl)
                · simp [Instr.field, run_underlying hfl, e1, asAgg, part, e3, run_isAgg w hft, hag, run_sizeOf w hft, e2]
                · have e4 : ((cs.toList.drop off).take fi.size).toArray = cs.extract off (off + fi.size) := by
                    apply Array.ext'
                    simp [List.extract_eq_take_drop]
                  rwa [e4] at this
              · rw [if_neg hag] at this
                obtain ⟨x, e4, e5⟩ := this
                have hag' : isAggD fi.d = false := by simpa using hag
                have e6 : cs[off]? = some x := by
                  have := congrArg (fun l => l[0]?) e4
                  simp only [List.getElem?_take, List.getElem?_drop] at this
                  split at this
                  · simpa using this
                  · simp at this
                refine ROk.pure hg (v' := x) ?_ e5 (fun _ => rfl)
                simp [Instr.field, run_underlying hfl, e1, asAgg, part, e3, run_isAgg w hft, hag', e2, e6]
            · cases h
          · cases h
        · cases h
      · cases h
    · cases h
  · cases h

theorem nth_rel {l : List V} {cs : List Value} (h : VRelL r l cs) {n : Nat} (hn : n < l.length) : ∃ x, cs[n]? = some x ∧ VRel r (nth l n) x := by
  simpa [nth] using h.get n _ (fget_getElem hn)
theorem extract_ok {n i : Nat} {u v' : V} {a : Value} {obl : List Bool} {out : List Blk} {new : Option Blk} (hg : Good P own r hp w)
    (hx : VRel r u a) (h : actExtract i [u] = .val obl v' out new) :
    ROk P own r w ((Instr.extract a i).run P w) v' (hwrites hp (zipW [] out ++ newW n new)) := by
  simp only [actExtract] at h
  split at h
  · rename_i l hl
    simp only [List.cons.injEq, and_true] at hl
    subst hl
    split at h
    · rename_i hlt
      simp only [Out.val.injEq] at h; obtain ⟨rfl, rfl, rfl, rfl⟩ := h
      simp only [VRel] at hx
      obtain ⟨cs, rfl, h1⟩ := hx
      rw [llen_eq] at hlt
      obtain ⟨x, e1, e2⟩ := nth_rel h1 (n := i) (by simpa using hlt)
      refine ROk.pure hg (v' := x) ?_ e2 (fun _ => rfl)
      have e1' : cs[i]? = some x := by simpa using e1
      simp [Instr.extract, e1']
    · cases h
  · cases h

section
variable {uI : FI → Int} {uB : FB → Bool} {uS : FS → ByteArray} {uL : FL → List Int} {uT : FT → TT} (hu : Std uI uB uS uL uT)
include hu

omit hu in
theorem byteAt_get {s : ByteArray} {i : Int} (h0 : 0 ≤ i) (h1 : i < s.size) : ∃ b, s[i.toNat]? = some b ∧ byteAt s i = (b.toNat : Int) := by
  have hl : i.toNat < s.data.toList.length := by
    have e : s.data.toList.length = s.size := rfl
    rw [e]; omega
  refine ⟨s.data.toList[i.toNat], ?_, ?_⟩
  · have : i.toNat < s.size := by omega
    rw [ByteArray.getElem?_lt' s _ this]; rfl
  · simp [byteAt, List.getD, List.getElem?_eq_getElem hl]
theorem index_ok {n : Nat} {t : TypeId} {u v v' : V} {a b : Value} {obl : List Bool} {out : List Blk} {new : Option Blk} (hT : TabOk P T) (hg : Good P own r hp w)
    (hx : VRel r u a) (hy : VRel r v b) (h : indexOut uI uB uS T t u v = .val obl v' out new) (ho : AllTrue obl) :
    ROk P own r w ((Instr.index t a b).run P w) v' (hwrites hp (zipW [] out ++ newW n new)) := by
  unfold indexOut at h
  split at h
  · rename_i i s k q hi
    have ht := hT _ _ hi
    have hd := ht.d
    simp only [VRel] at hx hy; subst hx; subst hy
    split at h
    · rename_i hde
      rw [hde] at hd
      simp only [DOk] at hd
      have key : 0 ≤ q.val → q.val < s.val.size → ∀ y, y.val = byteAt s.val q.val → ROk P own r w ((Instr.index t (.string s.val) (.int k q.val)).run P w) (.int .u8 y) (hwrites hp (zipW [] [] ++ newW n none)) := by
        intro h0 h1 y hyv
        obtain ⟨b, e1, e2⟩ := byteAt_get h0 h1
        refine ROk.pure hg (v' := .int .u8 (b.toNat : Int)) ?_ (by simp only [VRel]; rw [hyv, e2]) (fun _ => rfl)
        simp [Instr.index, asIntOf, run_underlying hd, h0, e1]
      unfold indexStr at h
      split at h
      · rename_i l m
        split at h
        · rename_i hc
          simp only [Out.val.injEq] at h; obtain ⟨rfl, rfl, rfl, rfl⟩ := h
          simp only [Bool.and_eq_true, decide_eq_true_eq, llen_eq] at hc
          exact key hc.1 (by simp [ByteArray.size]; exact hc.2) _ (by simp [byteAt])
        · cases h
      · obtain ⟨ho', rfl, rfl, rfl⟩ := outO_val h
        have h1 := inrO_ok hu ⟨_, ho', ho⟩
        rw [strLen_val hu] at h1
        exact key h1.1 h1.2 _ (by simp [hu.i, iI])
    · cases h
  · rename_i i sz c k q hi
    have ht := hT _ _ hi
    have hd := ht.d
    simp only [VRel] at hx hy; subst hy
    obtain ⟨vals, m, rfl, hc, hs⟩ := hx
    split at h
    · rename_i l e hde
      rw [hde] at hd
      simp only [DOk] at hd
      split at h
      · rename_i ei hei
        have hte := hT _ _ hei
        split at h
        · rename_i hcond
          simp only [Bool.and_eq_true, Bool.not_eq_true'] at hcond
          have hsz := Nat.eq_of_beq_eq_true hcond.1
          obtain ⟨ho', rfl, rfl, rfl⟩ := outO_val h
          obtain ⟨g1, g2⟩ := oblOk_and ⟨_, ho', ho⟩
          have h1 := inrO_ok hu g1
          have h2 := inrO_ok hu g2
          simp only [Iv.val_lit] at h1
          rw [col_len hu, hc.size c (by simp)] at h2
          obtain ⟨x, hxc⟩ := cell_size (c := c) (i := q.val.toNat) (by rw [hc.size c (by simp)]; omega)
          have h3 := hc.at_ q.val.toNat 0 c (by omega) rfl
          simp at h3
          refine ROk.pure hg (v' := x) ?_ (col_get_rel hu h1.1 hxc) (fun _ => rfl)
          have e1 : vals[q.val.toNat]? = some x := by rw [← hxc, ← h3]
          simp [Instr.index, asIntOf, run_underlying hd, h1.1, h1.2, run_sizeOf w hte, part, run_isAgg w hte, hcond.2, hsz, e1]
        · cases h
      · cases h
    · cases h
  · rename_i i sz c d cr k q hi
    have ht := hT _ _ hi
    have hd := ht.d
    simp only [VRel] at hx hy; subst hy
    obtain ⟨vals, m, rfl, hc, hs⟩ := hx
    split at h
    · rename_i l e hde
      rw [hde] at hd
      simp only [DOk] at hd
      split at h
      · rename_i ei hei
        have hte := hT _ _ hei
        split at h
        · rename_i hcond
          simp only [Bool.and_eq_true] at hcond
          have hsz : ei.size = (c :: d :: cr).length := by have := Nat.eq_of_beq_eq_true hcond.1; rwa [llen_eq] at this
          obtain ⟨ho', rfl, rfl, rfl⟩ := outO_val h
          obtain ⟨g1, g2⟩ := oblOk_and ⟨_, ho', ho⟩
          have h1 := inrO_ok hu g1
          have h2 := inrO_ok hu g2
          simp only [Iv.val_lit] at h1
          rw [col_len hu, hc.size c (by simp)] at h2
          have hsub : q.val.toNat * (c :: d :: cr).length + (c :: d :: cr).length ≤ vals.toList.length := by
            rw [hc.len]
            have : (q.val.toNat + 1) * (c :: d :: cr).length ≤ m * (c :: d :: cr).length := Nat.mul_le_mul_right _ (by omega)
            rwa [Nat.succ_mul] at this
          have hget : ∀ jj, jj < (c :: d :: cr).length → ((vals.toList.drop (q.val.toNat * (c :: d :: cr).length)).take (c :: d :: cr).length)[jj]? = vals.toList[q.val.toNat * (c :: d :: cr).length + jj]? := fun jj hjj => by
            rw [List.getElem?_take, if_pos hjj, List.getElem?_drop]
          have hex : (vals.extract (q.val.toNat * (c :: d :: cr).length) (q.val.toNat * (c :: d :: cr).length + (c :: d :: cr).length)).toList = (vals.toList.drop (q.val.toNat * (c :: d :: cr).length)).take (c :: d :: cr).length := by
            rw [Array.toList_extract, List.extract_eq_drop_take, Nat.add_sub_cancel_left]
          refine ROk.pure hg (v' := .agg (vals.extract (q.val.toNat * (c :: d :: cr).length) (q.val.toNat * (c :: d :: cr).length + (c :: d :: cr).length))) ?_ ?_ (fun _ => rfl)
          · simp [Instr.index, asIntOf, run_underlying hd, h1.1, h1.2, run_sizeOf w hte, part, run_isAgg w hte, hcond.2, hsz]
          · simp only [VRel]
            refine ⟨_, rfl, ?_, fun y hy => colsAt_one hc (by simp) y (List.mem_of_mem_drop (List.mem_of_mem_take (by rw [← hex]; exact hy)))⟩
            rw [hex]
            refine colsGet_rel hu h1.1 (by simp only [List.length_take, List.length_drop]; omega) fun jj d' hd' => ?_
            have hjj := colAt_lt hd'
            obtain ⟨y, hy⟩ := cell_size (c := d') (i := q.val.toNat) (by rw [hc.size d' (colAt_mem hd')]; omega)
            refine ⟨y, ?_, hy⟩
            rw [hget jj hjj, hc.at_ _ jj d' (by omega) hd', hy]
        · cases h
      · cases h
    · cases h
  · cases h

omit hu in
theorem bndV_rel {d q : Iv} {l : List V} {vals : List Value} (h : bndV d l = some q) (hv : VRelL r l vals) : (l = [] ∧ vals = [] ∧ q = d) ∨ (∃ k, vals = [.int k q.val]) := by
  unfold bndV at h
  split at h
  · simp only [Option.some.injEq] at h
    cases vals with
    | nil => exact .inl ⟨rfl, rfl, h.symm⟩
    | cons => simp [VRelL] at hv
  · rename_i k m
    simp only [Option.some.injEq] at h; subst h
    cases vals with
    | nil => simp [VRelL] at hv
    | cons x r => cases r with
      | nil => simp only [VRelL, VRel] at hv; exact .inr ⟨k, by rw [hv.1]⟩
      | cons => simp [VRelL] at hv
  · cases h
omit hu in
theorem run_bounds {isS : Bool} {len cap : Nat} {l h : Int} {lo hi : Option Value} (hlo : (lo = none ∧ l = 0) ∨ ∃ k, lo = some (.int k l)) (hhi : (hi = none ∧ h = len) ∨ ∃ k, hi = some (.int k h))
    (h0 : 0 ≤ l) (h1 : l ≤ h) (h2 : h ≤ len) (hc : len ≤ cap) : (Instr.sliceBounds isS len cap lo hi none).run P w = .ok (l.toNat, h.toNat, cap) w := by
  have hcap : h ≤ (cap : Int) := by omega
  have hh0 : 0 ≤ h := by omega
  have hh : ((h.toNat : Nat) : Int) = h := Int.toNat_of_nonneg hh0
  rcases hlo with ⟨rfl, rfl⟩ | ⟨k, rfl⟩ <;> rcases hhi with ⟨rfl, rfl⟩ | ⟨k', rfl⟩ <;>
    simp [Instr.sliceBounds, Instr.sliceBound, asIntOf, h0, h1, hcap, hh0, hh]
theorem strSub_val {s : Sv} {i j : Iv} (h0 : 0 ≤ i.val) (h1 : i.val ≤ j.val) (h2 : j.val ≤ s.val.size) : (strSub uS s i j).val = s.val.extract i.val.toNat j.val.toNat := by
  unfold strSub
  split
  · rename_i l i j
    simp only [Sv.val_lit, Iv.val_lit, ltake_eq, ldrop_eq] at *
    rw [ByteArray.extract_mk]
    congr 2
    congr 1
    omega
  · simp [hu.s, iS]
theorem slice_ok {n : Nat} {t : TypeId} {u v' : V} {lo hi : List V} {a : Value} {blo bhi : List Value} {obl : List Bool} {out : List Blk} {new : Option Blk} (hT : TabOk P T) (hg : Good P own r hp w)
    (hx : VRel r u a) (hlo : VRelL r lo blo) (hhi : VRelL r hi bhi) (h : sliceOut uI uB uS T t u lo hi = .val obl v' out new) (ho : AllTrue obl) :
    ROk P own r w ((Instr.sliceAt t a blo.head? bhi.head? none).run P w) v' (hwrites hp (zipW [] out ++ newW n new)) := by
  have bound : ∀ {d q : Iv} {l : List V} {vals : List Value}, bndV d l = some q → VRelL r l vals → ((vals.head? = none ∧ q = d) ∨ ∃ k, vals.head? = some (.int k q.val)) := by
    intro d q l vals h1 h2
    rcases bndV_rel h1 h2 with ⟨_, rfl, h3⟩ | ⟨k, rfl⟩
    · exact .inl ⟨rfl, h3⟩
    · exact .inr ⟨k, rfl⟩
  have lob : ∀ {q : Iv} {l : List V} {vals : List Value}, bndV (.lit 0) l = some q → VRelL r l vals → ((vals.head? = none ∧ q.val = 0) ∨ ∃ k, vals.head? = some (.int k q.val)) := by
    intro q l vals h1 h2
    rcases bound h1 h2 with ⟨h3, h4⟩ | h3
    · exact .inl ⟨h3, by rw [h4]; rfl⟩
    · exact .inr h3
  have hib : ∀ {d q : Iv} {l : List V} {vals : List Value} {m : Nat}, bndV d l = some q → VRelL r l vals → d.val = m → ((vals.head? = none ∧ q.val = m) ∨ ∃ k, vals.head? = some (.int k q.val)) := by
    intro d q l vals m h1 h2 h5
    rcases bound h1 h2 with ⟨h3, h4⟩ | h3
    · exact .inl ⟨h3, by rw [h4]; exact h5⟩
    · exact .inr h3
  unfold sliceOut at h
  split at h
  · cases h
  · rename_i i hi'
    have ht := hT _ _ hi'
    have hd := ht.d
    split at h
    · rename_i s hde
      rw [hde] at hd
      simp only [DOk] at hd
      simp only [VRel] at hx; subst hx
      split at h
      · rename_i l hh e1 e2
        obtain ⟨ho', rfl, rfl, rfl⟩ := outO_val h
        have h1 := cutO_ok hu ⟨_, ho', ho⟩
        rw [strLen_val hu] at h1
        refine ROk.pure hg (v' := .string (s.val.extract l.val.toNat hh.val.toNat)) ?_ (by simp only [VRel, strSub_val hu h1.1 h1.2.1 h1.2.2]) (fun _ => rfl)
        have := run_bounds (P := P) (w := w) (isS := false) (lob e1 hlo) (hib e2 hhi (strLen_val hu s)) h1.1 h1.2.1 h1.2.2 (Nat.le_refl _)
        simp [Instr.sliceAt, run_underlying hd, Instr.slice, this]
      · cases h
    · rename_i e id len hde
      rw [hde] at hd
      simp only [DOk] at hd
      simp only [VRel] at hx
      obtain ⟨ra, m, hr, hm, hmc, hva, rfl⟩ := hx
      split at h
      · rename_i ei l hh hei e1 e2
        have hte := hT _ _ hei
        obtain ⟨ho', rfl, rfl, rfl⟩ := outO_val h
        have h1 := cutO_ok hu ⟨_, ho', ho⟩
        rw [hm] at h1
        have := run_bounds (P := P) (w := w) (isS := true) (lob e1 hlo) (hib e2 hhi hm) h1.1 h1.2.1 h1.2.2 hmc
        refine ROk.pure hg (v' := .slice (if ra.cap = l.val.toNat then ra.a else ra.a.map (·.add (l.val.toNat * ei.size))) (hh.val.toNat - l.val.toNat) (ra.cap - l.val.toNat)) ?_ ?_ (fun _ => rfl)
        · simp [Instr.sliceAt, run_underlying hd, Instr.slice, this, run_sizeOf w hte]
        · simp only [VRel, difV_val hu, linV_val hu]
          refine ⟨ra, hh.val.toNat - l.val.toNat, _, _, hr, by omega, by omega, ?_, rfl, fun hpos => ?_⟩
          · have : 0 ≤ l.val * (ei.size : Int) := Int.mul_nonneg h1.1 (by omega)
            simp; exact this
          · obtain ⟨b, hb⟩ := hva (by omega)
            refine ⟨b, hb, ?_⟩
            rw [if_neg (by omega), hb]
            obtain ⟨q, hq⟩ := Int.eq_ofNat_of_zero_le h1.1
            simp [hq]
            norm_cast
      · cases h
    · rename_i e id off len hde
      rw [hde] at hd
      simp only [DOk] at hd
      simp only [VRel] at hx
      obtain ⟨ra, m, c, A, hr, hm, hmc, hoff, rfl, hA⟩ := hx
      split at h
      · rename_i ei l hh hei e1 e2
        have hte := hT _ _ hei
        obtain ⟨ho', rfl, rfl, rfl⟩ := outO_val h
        have h1 := cutO_ok hu ⟨_, ho', ho⟩
        rw [hm] at h1
        have := run_bounds (P := P) (w := w) (isS := true) (lob e1 hlo) (hib e2 hhi hm) h1.1 h1.2.1 h1.2.2 hmc
        refine ROk.pure hg (v' := .slice (if c = l.val.toNat then A else A.map (·.add (l.val.toNat * ei.size))) (hh.val.toNat - l.val.toNat) (c - l.val.toNat)) ?_ ?_ (fun _ => rfl)
        · simp [Instr.sliceAt, run_underlying hd, Instr.slice, this, run_sizeOf w hte]
        · simp only [VRel, difV_val hu, linV_val hu]
          have hmul : 0 ≤ l.val * (ei.size : Int) := Int.mul_nonneg h1.1 (by omega)
          refine ⟨ra, hh.val.toNat - l.val.toNat, _, _, hr, by omega, by omega, by omega, rfl, fun hpos => ?_⟩
          obtain ⟨b, hb, rfl⟩ := hA (by omega)
          refine ⟨b, hb, ?_⟩
          rw [if_neg (by omega)]
          obtain ⟨q, hq⟩ := Int.eq_ofNat_of_zero_le h1.1
          rw [hq] at hmul ⊢
          simp only [Option.map_some, add_add, Int.toNat_natCast]
          congr 2
          have : ((q : Int) * ei.size + off.val).toNat = q * ei.size + off.val.toNat := by
            have h3 : ((q : Int) * ei.size) = ((q * ei.size : Nat) : Int) := by simp
            rw [h3]; omega
          rw [this]; omega
      · cases h
    · rename_i nn e id o hde
      rw [hde] at hd
      simp only [DOk] at hd
      simp only [VRel] at hx
      obtain ⟨ra, b, hr, ha, h0, rfl⟩ := hx
      split at h
      · rename_i ei l hh hei e1 e2
        have hte := hT _ _ hei
        obtain ⟨ho', rfl, rfl, rfl⟩ := outO_val h
        have h1 := cutO_ok hu ⟨_, ho', ho⟩
        simp only [Iv.val_lit] at h1
        have := run_bounds (P := P) (w := w) (isS := false) (lob e1 hlo) (hib e2 hhi (m := nn) rfl) h1.1 h1.2.1 h1.2.2 (Nat.le_refl _)
        refine ROk.pure hg (v' := .slice (some (if nn = l.val.toNat then b.add o.nat else (b.add o.nat).add (l.val.toNat * ei.size))) (hh.val.toNat - l.val.toNat) (nn - l.val.toNat)) ?_ ?_ (fun _ => rfl)
        · simp [Instr.sliceAt, run_underlying hd, Instr.sureAddr, this, run_sizeOf w hte]
        · simp only [VRel, difV_val hu, linV_val hu, off_iv hu]
          have hmul : 0 ≤ l.val * (ei.size : Int) := Int.mul_nonneg h1.1 (by omega)
          have hmul2 : 0 ≤ o.i.val * (o.sc : Int) := Int.mul_nonneg h0 (by omega)
          refine ⟨ra, hh.val.toNat - l.val.toNat, _, _, hr, by omega, by omega, by omega, rfl, fun hpos => ?_⟩
          refine ⟨b, ha, ?_⟩
          rw [if_neg (by omega), add_add]
          obtain ⟨q, hq⟩ := Int.eq_ofNat_of_zero_le h1.1
          have e3 := off_nat o h0
          congr 2
          rw [hq]
          simp only [Int.toNat_natCast]
          have h3 : ((q : Int) * ei.size) = ((q * ei.size : Nat) : Int) := by simp
          rw [h3, ← e3]; omega
      · cases h
    · cases h

theorem arrPtr_ok {n : Nat} {t : TypeId} {u v' : V} {a : Value} {obl : List Bool} {out : List Blk} {new : Option Blk} (hT : TabOk P T) (hg : Good P own r hp w)
    (hx : VRel r u a) (h : arrPtrOut uB T t u = .val obl v' out new) (ho : AllTrue obl) :
    ROk P own r w ((Instr.arrayAt t a).run P w) v' (hwrites hp (zipW [] out ++ newW n new)) := by
  unfold arrPtrOut at h
  split at h
  · rename_i i hi
    have ht := hT _ _ hi
    have hd := ht.d
    split at h
    · rename_i m e id len hde
      rw [hde] at hd
      simp only [DOk] at hd
      split at h
      · cases h
      · rename_i hz
        obtain ⟨ho', rfl, rfl, rfl⟩ := outO_val h
        have h1 := cutO_ok hu ⟨_, ho', ho⟩
        simp only [VRel] at hx
        obtain ⟨ra, q, hr, hm, hmc, hva, rfl⟩ := hx
        rw [hm] at h1
        simp only [Iv.val_lit] at h1
        have hm0 : m ≠ 0 := fun e => by rw [e] at hz; simp at hz
        obtain ⟨b, hb⟩ := hva (by omega)
        refine ROk.pure hg (v' := .pointer (some b)) ?_ (ptr0_rel hr hb) (fun _ => rfl)
        have : ¬ q < m := by omega
        simp [Instr.arrayAt, run_underlying hd, this, hb]
    · rename_i m e id off len hde
      rw [hde] at hd
      simp only [DOk] at hd
      split at h
      · cases h
      · rename_i hz
        obtain ⟨ho', rfl, rfl, rfl⟩ := outO_val h
        have h1 := cutO_ok hu ⟨_, ho', ho⟩
        simp only [VRel] at hx
        obtain ⟨ra, q, c, A, hr, hm, hmc, hoff, rfl, hA⟩ := hx
        rw [hm] at h1
        simp only [Iv.val_lit] at h1
        have hm0 : m ≠ 0 := fun e => by rw [e] at hz; simp at hz
        obtain ⟨b, hb, rfl⟩ := hA (by omega)
        obtain ⟨g1, g2⟩ := offOf_nat off hoff
        refine ROk.pure hg (v' := .pointer (some (b.add off.val.toNat))) ?_ ?_ (fun _ => rfl)
        · have : ¬ q < m := by omega
          simp [Instr.arrayAt, run_underlying hd, this]
        · simp only [VRel]; exact ⟨ra, b, hr, hb, g2, by rw [g1]⟩
    · cases h
  · cases h
end
end
end Sx
set_option linter.unusedVariables false
set_option linter.unusedSimpArgs false
namespace Sx
open Go
section
variable {P : Program} {T : Tab} {own : Own} {r : Rho} {hp : Hp} {w : World}

/-! ### append -/
theorem ownsRow_made {w : World} {e sz m : Nat} {xs : List Value} {rest : Array Value} {cap : Nat} (hl : xs.length = m * sz) (hr : rest.size = (cap - m) * sz) (hm : m ≤ cap) (hc : cap ≤ maxLen) :
    (w.alloc (.cells (xs.toArray ++ rest) e)).ownsRow 0 e sz (.slice (some ⟨w.heap.size, 0, none⟩) m cap) m xs := by
  refine ⟨hl, .inr ⟨w.heap.size, cap, _, rfl, Nat.zero_le _, heap_alloc_new w _, hm, hc, ?_, ?_⟩⟩
  · rw [Array.size_append, List.size_toArray, hl, hr, ← Nat.add_mul]
    congr 1; omega
  · rw [Array.toList_append, ← hl]; simp

theorem run_app {t u ty e m : Nat} {ei : TyI} {v x : Value} {n : Nat} {xs news : List Value} (ht : P.underlying t = some (.slice e)) (he : TyOk P e ei) (hsz : 0 < ei.size) (hby : ei.bytes ≤ 64)
    (hown : w.ownsRow 0 e ei.size v n xs) (hs : Go.Src P ei.size u x m news w) (hnm : n + m ≤ 2199023255552) :
    ∃ v' w', (Builtin.append_ #[t, u] ty #[v, x]).run P w = .ok v' w' ∧ w'.ownsRow 0 e ei.size v' (n + m) (xs ++ news) ∧ w.grownBy w' v.ownBlock ∧
      (v'.ownBlock = v.ownBlock ∨ v'.ownBlock = some w.heap.size) ∧ (v'.ownBlock = some w.heap.size → w.heap.size < w'.heap.size) := by
  obtain ⟨f, z, hf, hfs, hfb, hz, hzc⟩ := he.info
  have hzs : z.cells.size = ei.size := by rw [← he.len, ← hzc]; simp
  have hlen : (xs ++ news).length = (n + m) * ei.size := by rw [List.length_append, hown.1, hs.newsLen, Nat.add_mul]
  have hmax : n + m ≤ maxLen := by simp only [maxLen]; omega
  have hbytes : (n + m) * f.bytes ≤ 140737488355328 := by
    rw [hfb]
    calc (n + m) * ei.bytes ≤ 2199023255552 * 64 := Nat.mul_le_mul hnm hby
      _ = 140737488355328 := by decide
  have hs' : Go.Src P f.size u x m news w := by rw [hfs]; exact hs
  have same : ∀ (a : Option Addr) (cap : Nat), v = .slice a n cap → n ≤ cap → m = 0 → ∃ v' w', (Builtin.append_ #[t, u] ty #[v, x]).run P w = .ok v' w' ∧ w'.ownsRow 0 e ei.size v' (n + m) (xs ++ news) ∧ w.grownBy w' v.ownBlock ∧
      (v'.ownBlock = v.ownBlock ∨ v'.ownBlock = some w.heap.size) ∧ (v'.ownBlock = some w.heap.size → w.heap.size < w'.heap.size) := by
    rintro a cap rfl hle rfl
    have hn : news = [] := List.eq_nil_of_length_eq_zero (by simpa using hs.newsLen)
    subst hn
    refine ⟨_, w, ?_, by simpa using hown, ⟨rfl, rfl, rfl, Nat.le_refl _, fun _ _ _ => rfl⟩, .inl rfl, ?_⟩
    · rcases hs'.kind with ⟨e', hk⟩ | hk <;> cases a <;> simp [Builtin.append_, run_underlying ht, run_underlying hk, Go.sizeOf, typeInfo, hf, hs'.len, hle, hs'.cells, storeCells]
    · intro h
      have := hown.lt _ h
      omega
  have grow : ∀ (a : Option Addr) (cap : Nat), v = .slice a n cap → cap < n + m → (∀ w' : World, (∀ g, g < w.heap.size → w'.heap[g]? = w.heap[g]?) → (Builtin.firstCells f.size n (.slice a n cap)).run P w' = .ok xs.toArray w') →
      ∃ v' w', (Builtin.append_ #[t, u] ty #[v, x]).run P w = .ok v' w' ∧ w'.ownsRow 0 e ei.size v' (n + m) (xs ++ news) ∧ w.grownBy w' v.ownBlock ∧
      (v'.ownBlock = v.ownBlock ∨ v'.ownBlock = some w.heap.size) ∧ (v'.ownBlock = some w.heap.size → w.heap.size < w'.heap.size) := by
    rintro a cap rfl hlt hold
    have hr := run_append_grow_src (P := P) w t u ty e f z ht hf hz a n cap xs (hold w.drew (fun _ _ => rfl)) x m news hs' hlt (by omega) (growslice_fits hlt hbytes)
    have hge := grownCap_ge w (n + m) cap e
    have hcm : grownCap w (n + m) cap e ≤ maxLen := grownCap_le_maxLen w (n + m) cap e hmax
    exact ⟨_, _, hr, ownsRow_made (w := w.drew) hlen (by rw [size_zeroCells, hzs]) hge hcm, ⟨rfl, rfl, rfl, by simp, fun k hk _ => heap_alloc_old (w := w.drew) _ hk⟩, .inr rfl, fun _ => by simp⟩
  rcases hown.2 with ⟨rfl, rfl⟩ | ⟨g, cap, cur, rfl, hbg, hg, hnc, hcm, hcs, htake⟩
  · have hx : xs = [] := List.eq_nil_of_length_eq_zero (by simpa using hown.1)
    subst hx
    by_cases hm : m = 0
    · exact same none 0 rfl (Nat.le_refl _) hm
    · exact grow none 0 rfl (by omega) (fun w' _ => by simp [Builtin.firstCells])
  · by_cases hm : m = 0
    · exact same _ cap rfl hnc hm
    · by_cases hroom : n + m ≤ cap
      · have hfit : n * ei.size + 0 + news.length ≤ cur.size := by
          rw [hs.newsLen, hcs, Nat.add_zero, ← Nat.add_mul]; exact Nat.mul_le_mul_right _ hroom
        obtain ⟨w', cur', h1, h2, h3⟩ := run_storeCells_at (P := P) g e (n * ei.size) news 0 cur w hg hfit hs.one
        have hr : (Builtin.append_ #[t, u] ty #[.slice (some ⟨g, 0, none⟩) n cap, x]).run P w = .ok (.slice (some ⟨g, 0, none⟩) (n + m) cap) w' := by
          rcases hs'.kind with ⟨e', hk⟩ | hk <;> simp [Builtin.append_, run_underlying ht, run_underlying hk, Go.sizeOf, typeInfo, hf, hs'.len, hroom, hfs, hs.cells, Addr.add_lit, h1]
        have hcl : cur'.toList.length = cur.toList.length := by rw [h3]; exact spl_len _ _ _ (by simpa using hfit)
        refine ⟨_, w', hr, ⟨hlen, .inr ⟨g, cap, cur', rfl, hbg, h2.here, hroom, hcm, by simpa [hcs] using hcl, ?_⟩⟩, ⟨h2.os, h2.tape, h2.output, by rw [h2.size]; exact Nat.le_refl _, fun k _ hk => h2.far k (fun e => hk (by simp [Value.ownBlock, e]))⟩, .inl rfl, ?_⟩
        · rw [h3, Nat.add_zero, ← hlen, ← htake]
          unfold spl
          rw [List.length_append, List.length_take, Nat.min_eq_left (by simp [hcs]; exact Nat.mul_le_mul_right _ hnc)]
          have e1 : (cur.toList.take (n * ei.size) ++ news).length = n * ei.size + news.length := by
            rw [List.length_append, List.length_take, Nat.min_eq_left (by simp [hcs]; exact Nat.mul_le_mul_right _ hnc)]
          rw [← e1, ← List.append_assoc]; exact List.take_left
        · intro h
          have := (Array.getElem?_eq_some_iff.1 hg).1
          simp [Value.ownBlock] at h
          omega
      · refine grow _ cap rfl (by omega) (fun w' hw => ?_)
        refine run_firstCells_some (P := P) w' f.size n ⟨g, 0, none⟩ n cap xs (by rw [hfs]; exact hown.1) ?_
        intro j y hj
        have h1 := hown.cells (g := g) rfl j y hj
        rw [World.cell?_of_block (w := w) (w' := w')]; · exact h1
        rw [add_block]; exact hw g (Array.getElem?_eq_some_iff.1 hg).1

theorem brel_of {i : Nat} {b : Blk} {x : RA} (hg : Good P own r hp w) (h : hget hp i = b) (hb : b ≠ .unborn) (hx : r i = some x) : BRel P r w x b := by
  obtain ⟨y, h1, h2⟩ := hg.rel i (by rw [h]; exact hb)
  rw [hx] at h1; cases h1
  rwa [h] at h2

section
variable {uI : FI → Int} {uB : FB → Bool} {uS : FS → ByteArray} {uL : FL → List Int} {uT : FT → TT} (hu : Std uI uB uS uL uT)
include hu

/-- The numbers of a slice. -/
theorem slInts_cells {k : IntKind} {y : V} {b : Blk} {o : Obl} {ys : Lv} {a : Value} {id : Nat} (h : slInts uI uB uL k y b = some (o, ys)) (ho : OblOk o) (hy : VRel r y a) (hid : idOf y = [id]) (hb : hget hp id = b)
    (hg : Good P own r hp w) : ∃ A m c, a = .slice A m c ∧ m = ys.raw.length ∧ m ≤ c ∧ (0 < m → ∃ d, A = some d ∧ ∀ j z, ys.raw[j]? = some z → w.cell? (d.add j) = some (.int k z)) := by
  unfold slInts at h
  split at h
  · rename_i id' n md t k' xs
    split at h
    · rename_i hk; subst hk
      simp only [Option.some.injEq, Prod.mk.injEq] at h; obtain ⟨rfl, rfl⟩ := h
      simp only [idOf, List.cons.injEq, and_true] at hid; subst hid
      have hn := eqOL_ok hu ho
      rw [lv_len hu] at hn
      simp only [VRel] at hy
      obtain ⟨x, m, hr, hm, hmc, ha, rfl⟩ := hy
      obtain ⟨vals, n', h1, h2, h3, h4, _⟩ := cols_cells (brel_of hg hb (by simp) hr)
      obtain ⟨rfl, rfl⟩ := colsAt_ints h1
      refine ⟨_, _, _, rfl, by omega, hmc, fun h0 => ?_⟩
      obtain ⟨d, hd⟩ := ha h0
      exact ⟨d, hd, fun j z hz => h4 d j _ hd (by simp [hz])⟩
    · cases h
  · rename_i id' off n md t k' xs
    split at h
    · rename_i hk; subst hk
      simp only [idOf, List.cons.injEq, and_true] at hid; subst hid
      simp only [VRel] at hy
      obtain ⟨x, m, c, A, hr, hm, hmc, hoff, rfl, hA⟩ := hy
      obtain ⟨vals, n', h1, h2, h3, h4, _⟩ := cols_cells (brel_of hg hb (by simp) hr)
      obtain ⟨rfl, rfl⟩ := colsAt_ints h1
      have key : ∀ zs : List Int, zs = subL xs.raw off.val n.val → off.val + n.val ≤ xs.raw.length → ∃ A' m' c', Value.slice A m c = .slice A' m' c' ∧ m' = zs.length ∧ m' ≤ c' ∧ (0 < m' → ∃ d, A' = some d ∧ ∀ j z, zs[j]? = some z → w.cell? (d.add j) = some (.int k z)) := by
        rintro zs rfl hle
        refine ⟨A, m, c, rfl, ?_, hmc, fun h0 => ?_⟩
        · rw [sub_len _ _ _ hoff (by omega) hle]; omega
        · obtain ⟨d, hd, rfl⟩ := hA h0
          refine ⟨_, rfl, fun j z hz => ?_⟩
          rw [add_add]
          exact h4 d _ _ hd (by simp [sub_get _ _ _ _ _ hz])
      split at h
      · rename_i n' l _
        split at h
        · rename_i hl
          simp only [Option.some.injEq, Prod.mk.injEq] at h; obtain ⟨rfl, rfl⟩ := h
          rw [llen_eq, decide_eq_true_eq] at hl
          refine key _ ?_ ?_
          · simp only [Lv.raw, Iv.val_lit, subL]
            rw [hl, Int.toNat_natCast, lvals_eq]; exact (List.take_of_length_le (by simp)).symm
          · simp only [Iv.val_lit, Lv.raw, lvals_eq, List.length_map]; omega
        · simp only [Option.some.injEq, Prod.mk.injEq] at h; obtain ⟨rfl, rfl⟩ := h
          have h5 := cutO_ok hu ho
          refine key _ (lv_sub hu _ _ _) ?_
          simp only [Iv.val_lit, llen_eq] at h5 ⊢
          simp only [Lv.raw, lvals_eq, List.length_map]; omega
      · simp only [Option.some.injEq, Prod.mk.injEq] at h; obtain ⟨rfl, rfl⟩ := h
        have h5 := cutO_ok hu ho
        rw [linV_val hu, lv_len hu] at h5
        refine key _ (lv_sub hu _ _ _) (by omega)
    · cases h
  · cases h
theorem slInts_src {k : IntKind} {y : V} {b : Blk} {o : Obl} {ys : Lv} {a : Value} {id : Nat} {u e' : TypeId} (hk : P.underlying u = some (.slice e')) (h : slInts uI uB uL k y b = some (o, ys)) (ho : OblOk o) (hy : VRel r y a)
    (hid : idOf y = [id]) (hb : hget hp id = b) (hg : Good P own r hp w) : Go.Src P 1 u a ys.raw.length (ys.raw.map (Value.int k)) w := by
  obtain ⟨A, m, c, rfl, rfl, h2, h3⟩ := slInts_cells hu h ho hy hid hb hg
  by_cases h0 : 0 < ys.raw.length
  · obtain ⟨d, rfl, h4⟩ := h3 h0
    refine Go.Src.ofSlice w hk d _ c _ (by simp) (fun j v hj => ?_) (fun v hv => ?_)
    · simp only [List.getElem?_map] at hj
      obtain ⟨z, hz, rfl⟩ := Option.map_eq_some_iff.1 hj
      exact h4 j z hz
    · obtain ⟨z, _, rfl⟩ := List.mem_map.1 hv; rfl
  · have hn : ys.raw = [] := List.eq_nil_of_length_eq_zero (by omega)
    rw [hn]
    cases A with
    | none => exact Go.Src.ofNil w hk c
    | some d => exact Go.Src.ofSlice w hk d 0 c [] (by simp) (by simp) (by simp)

theorem bytesOfStr_raw (s : Sv) : (bytesOfStr uL s).raw = bytesL s.val := by
  cases s with
  | lit l => simp [bytesOfStr, Lv.raw, lvals_eq, bytesL]
  | sym s => simp [bytesOfStr, Lv.raw, hu.l, iL]
omit hu in
theorem byteCells_eq (s : ByteArray) : byteCells s = (bytesL s).map (Value.int .u8) := by simp [byteCells, bytesL]
omit hu in
theorem bytesL_length (s : ByteArray) : (bytesL s).length = s.size := by simp [bytesL]
end
end
end Sx
set_option linter.unusedVariables false
set_option linter.unusedSimpArgs false
namespace Sx
open Go
section
variable {P : Program} {T : Tab} {own : Own} {r : Rho} {hp : Hp} {w : World}

theorem ownsRow_slice {w : World} {e sz n : Nat} {v : Value} {xs : List Value} (h : w.ownsRow 0 e sz v n xs) : ∃ A cap, v = .slice A n cap ∧ n ≤ cap ∧ (0 < n → ∃ b, A = some b) ∧ ∀ a, A = some a → v.ownBlock = some a.block := by
  rcases h.2 with ⟨rfl, rfl⟩ | ⟨g, cap, cur, rfl, _, _, h1, _⟩
  · exact ⟨_, _, rfl, Nat.le_refl _, by simp, by simp⟩
  · exact ⟨_, _, rfl, h1, fun _ => ⟨_, rfl⟩, fun a ha => by cases ha; rfl⟩
theorem brel_row {w : World} {e m cap : Nat} {A : Option Addr} {k : IntKind} {xs : Lv} {r : Rho} (h : w.ownsRow 0 e 1 (.slice A m cap) m (xs.raw.map (Value.int k))) :
    BRel P r w ⟨A, cap⟩ (.cols (.row 1) e [.ints k xs]) :=
  ⟨_, _, m, colsAt_ints_mk k xs, by simp, by simp, h.1, h⟩

theorem hget_two {hp : Hp} {id n : Nat} {b c : Blk} (h : hget hp id = b) (i : Nat) : hget (hwrites hp (zipW [id] [b] ++ newW n (some c))) i = hget (hsetX hp n c) i := by
  simp only [zipW, newW, List.cons_append, List.nil_append, hwrites, hget_hsetX]
  by_cases e : n = i
  · simp [e]
  · by_cases e' : id = i
    · subst e'; simp [e, h]
    · simp [e, e']

/-- Onto nothing. -/
theorem app_new {t u ty e n : Nat} {ei : TyI} {k : IntKind} {x : Value} {ys : Lv} {v : V} (hg : Good P own r hp w) (hown : ∀ g, w.heap.size ≤ g → own g) (hn : hget hp n = .unborn)
    (ht : P.underlying t = some (.slice e)) (he : TyOk P e ei) (hsz : ei.size = 1) (hby : ei.bytes ≤ 64) (hs : Go.Src P 1 u x ys.raw.length (ys.raw.map (Value.int k)) w) (hnm : ys.raw.length ≤ 1099511627776)
    (hv : ∀ (r' : Rho) A cap, r' n = some ⟨A, cap⟩ → ys.raw.length ≤ cap → (0 < ys.raw.length → ∃ b, A = some b) → VRel r' v (.slice A ys.raw.length cap)) :
    ROk P own r w ((Builtin.append_ #[t, u] ty #[.slice none 0 0, x]).run P w) v (hsetX hp n (.cols (.row 1) e [.ints k ys])) := by
  obtain ⟨v', w', h1, h2, h3, h4, h5⟩ := run_app (P := P) (w := w) (ty := ty) ht he (by omega) hby (World.ownsRow_nil w 0 e ei.size) (by rw [hsz]; exact hs) (by omega)
  rw [hsz] at h2
  simp only [Nat.zero_add, List.nil_append] at h2
  obtain ⟨A, cap, rfl, h6, h7, h8⟩ := ownsRow_slice h2
  have hA : ∀ a, A = some a → a.block = w.heap.size ∧ w.heap.size < w'.heap.size := fun a ha => by
    have := h8 a ha
    rcases h4 with h4 | h4
    · rw [this] at h4; simp [Value.ownBlock] at h4
    · rw [this] at h4; simp at h4; exact ⟨h4, h5 (by rw [this, h4])⟩
  obtain ⟨g1, g2⟩ := hg.push (n := n) (x := ⟨A, cap⟩) (b := .cols (.row 1) e [.ints k ys]) (w' := w') hn rfl (fun g hgl => h3.block g hgl (by simp [Value.ownBlock])) h3.size (brel_row h2) hown
    (fun g hgu => by
      rw [plain_iff rfl] at hgu
      obtain ⟨a, ha, rfl⟩ := hgu
      have := hA a ha
      omega)
    (fun a ha => by have := hA a ha; omega)
  exact ⟨_, w', _, h1, g1, hv _ A cap (by simp) h6 h7, g2, ⟨h3.os, h3.tape, h3.output, h3.size, fun g hgl _ => h3.block g hgl (by simp [Value.ownBlock])⟩⟩

/-- Onto a row of the call's own. -/
theorem app_row {t u ty e n id : Nat} {ei : TyI} {k : IntKind} {x : Value} {ys ws zs : Lv} {v : V} {ra : RA} (hg : Good P own r hp w) (hown : ∀ g, w.heap.size ≤ g → own g) (hn : hget hp n = .unborn)
    (ht : P.underlying t = some (.slice e)) (he : TyOk P e ei) (hsz : ei.size = 1) (hby : ei.bytes ≤ 64) (hs : Go.Src P 1 u x ys.raw.length (ys.raw.map (Value.int k)) w)
    (hw : ws.raw.length ≤ 1099511627776) (hnm : ys.raw.length ≤ 1099511627776) (hb : hget hp id = .cols (.row 1) e [.ints k ws]) (hr : r id = some ra) (hzs : zs.raw = ws.raw ++ ys.raw)
    (hv : ∀ (r' : Rho) A cap, r' n = some ⟨A, cap⟩ → zs.raw.length ≤ cap → (0 < zs.raw.length → ∃ b, A = some b) → VRel r' v (.slice A zs.raw.length cap)) :
    ROk P own r w ((Builtin.append_ #[t, u] ty #[.slice ra.a ws.raw.length ra.cap, x]).run P w) v (hsetX (hsetX hp id .dead) n (.cols (.row 1) e [.ints k zs])) := by
  have hbr := brel_of hg hb (by simp) hr
  simp only [BRel] at hbr
  obtain ⟨vals, n', m', hc, _, _, hl, ho⟩ := hbr
  obtain ⟨rfl, rfl⟩ := colsAt_ints hc
  have hm' : m' = ws.raw.length := by simpa using hl.symm
  subst hm'
  obtain ⟨v', w', h1, h2, h3, h4, h5⟩ := run_app (P := P) (w := w) (ty := ty) ht he (by omega) hby (by rw [hsz]; exact ho) (by rw [hsz]; exact hs) (by omega)
  rw [hsz, ← List.map_append, ← hzs, ← List.length_append, ← hzs] at h2
  obtain ⟨A, cap, rfl, h6, h7, h8⟩ := ownsRow_slice h2
  have hmut : (hget hp id).mut = true := by rw [hb]; rfl
  have hob : ∀ a, ra.a = some a → (Value.slice ra.a ws.raw.length ra.cap).ownBlock = some a.block := fun a ha => by simp [Value.ownBlock, ha]
  have hoth : ∀ g, g < w.heap.size → (∀ a, ra.a = some a → g ≠ a.block) → w'.heap[g]? = w.heap[g]? := fun g hgl hne => h3.block g hgl (fun e => by
    cases ha : ra.a with
    | none => rw [ha] at e; simp [Value.ownBlock] at e
    | some a => rw [hob a ha] at e; simp at e; exact hne a ha e)
  obtain ⟨g1, g2⟩ := hg.move (i := id) (n := n) (x := ra) (x' := ⟨A, cap⟩) (b := .cols (.row 1) e [.ints k zs]) (w' := w') hmut hr hn rfl rfl hoth h3.size (brel_row h2) hown
    (fun a ha => by
      have e1 := h8 a ha
      have hlt := (h2.lt _ e1).2
      refine ⟨?_, hlt⟩
      rcases h4 with h4 | h4
      · rw [e1] at h4
        cases hra : ra.a with
        | none => rw [hra] at h4; simp [Value.ownBlock] at h4
        | some b => rw [hob b hra] at h4; simp at h4; exact .inr ⟨b, rfl, h4.symm⟩
      · rw [e1] at h4; simp at h4; exact .inl (by omega))
  refine ⟨_, w', _, h1, g1, hv _ A cap (by simp) h6 h7, g2, ⟨h3.os, h3.tape, h3.output, h3.size, fun g hgl ho => hoth g hgl (fun a ha e => ho ?_)⟩⟩
  rw [e]; exact hg.own id ra a hmut hr ha

/-! ### rows of elements of several cells -/
theorem brel_rowN {w : World} {e m cap sz : Nat} {A : Option Addr} {k : IntKind} {xs : Lv} {r : Rho} (hsz : 0 < sz) (h : w.ownsRow 0 e sz (.slice A m cap) m (xs.raw.map (Value.int k))) :
    BRel P r w ⟨A, cap⟩ (.cols (.row sz) e [.ints k xs]) :=
  ⟨_, _, m, colsAt_ints_mk k xs, by simp, hsz, h.1, h⟩
/-- Onto nothing. -/
theorem apn_new {t u ty e n m : Nat} {ei : TyI} {k : IntKind} {x : Value} {ys : Lv} {v : V} (hg : Good P own r hp w) (hown : ∀ g, w.heap.size ≤ g → own g) (hn : hget hp n = .unborn)
    (ht : P.underlying t = some (.slice e)) (he : TyOk P e ei) (hsz : 0 < ei.size) (hby : ei.bytes ≤ 64) (hs : Go.Src P ei.size u x m (ys.raw.map (Value.int k)) w) (hnm : m ≤ 1099511627776)
    (hv : ∀ (r' : Rho) A cap, r' n = some ⟨A, cap⟩ → m ≤ cap → (0 < m → ∃ b, A = some b) → VRel r' v (.slice A m cap)) :
    ROk P own r w ((Builtin.append_ #[t, u] ty #[.slice none 0 0, x]).run P w) v (hsetX hp n (.cols (.row ei.size) e [.ints k ys])) := by
  obtain ⟨v', w', h1, h2, h3, h4, h5⟩ := run_app (P := P) (w := w) (ty := ty) ht he hsz hby (World.ownsRow_nil w 0 e ei.size) hs (by omega)
  simp only [Nat.zero_add, List.nil_append] at h2
  obtain ⟨A, cap, rfl, h6, h7, h8⟩ := ownsRow_slice h2
  have hA : ∀ a, A = some a → a.block = w.heap.size ∧ w.heap.size < w'.heap.size := fun a ha => by
    have := h8 a ha
    rcases h4 with h4 | h4
    · rw [this] at h4; simp [Value.ownBlock] at h4
    · rw [this] at h4; simp at h4; exact ⟨h4, h5 (by rw [this, h4])⟩
  obtain ⟨g1, g2⟩ := hg.push (n := n) (x := ⟨A, cap⟩) (b := .cols (.row ei.size) e [.ints k ys]) (w' := w') hn rfl (fun g hgl => h3.block g hgl (by simp [Value.ownBlock])) h3.size (brel_rowN hsz h2) hown
    (fun g hgu => by
      rw [plain_iff rfl] at hgu
      obtain ⟨a, ha, rfl⟩ := hgu
      have := hA a ha
      omega)
    (fun a ha => by have := hA a ha; omega)
  exact ⟨_, w', _, h1, g1, hv _ A cap (by simp) h6 h7, g2, ⟨h3.os, h3.tape, h3.output, h3.size, fun g hgl _ => h3.block g hgl (by simp [Value.ownBlock])⟩⟩

/-- Onto a row of the call's own. -/
theorem apn_row {t u ty e n id m q : Nat} {ei : TyI} {k : IntKind} {x : Value} {ys ws zs : Lv} {v : V} {ra : RA} (hg : Good P own r hp w) (hown : ∀ g, w.heap.size ≤ g → own g) (hn : hget hp n = .unborn)
    (ht : P.underlying t = some (.slice e)) (he : TyOk P e ei) (hsz : 0 < ei.size) (hby : ei.bytes ≤ 64) (hs : Go.Src P ei.size u x m (ys.raw.map (Value.int k)) w)
    (hw : q ≤ 1099511627776) (hql : q * ei.size = ws.raw.length) (hnm : m ≤ 1099511627776) (hb : hget hp id = .cols (.row ei.size) e [.ints k ws]) (hr : r id = some ra) (hzs : zs.raw = ws.raw ++ ys.raw)
    (hv : ∀ (r' : Rho) A cap, r' n = some ⟨A, cap⟩ → q + m ≤ cap → (0 < q + m → ∃ b, A = some b) → VRel r' v (.slice A (q + m) cap)) :
    ROk P own r w ((Builtin.append_ #[t, u] ty #[.slice ra.a q ra.cap, x]).run P w) v (hsetX (hsetX hp id .dead) n (.cols (.row ei.size) e [.ints k zs])) := by
  have hbr := brel_of hg hb (by simp) hr
  simp only [BRel] at hbr
  obtain ⟨vals, n', m', hc, _, _, hl, ho⟩ := hbr
  obtain ⟨rfl, rfl⟩ := colsAt_ints hc
  have hm' : m' = q := by
    have : m' * ei.size = q * ei.size := by rw [hql]; simpa using hl.symm
    exact Nat.eq_of_mul_eq_mul_right hsz this
  subst hm'
  obtain ⟨v', w', h1, h2, h3, h4, h5⟩ := run_app (P := P) (w := w) (ty := ty) ht he hsz hby ho hs (by omega)
  rw [← List.map_append, ← hzs] at h2
  obtain ⟨A, cap, rfl, h6, h7, h8⟩ := ownsRow_slice h2
  have hmut : (hget hp id).mut = true := by rw [hb]; rfl
  have hob : ∀ a, ra.a = some a → (Value.slice ra.a m' ra.cap).ownBlock = some a.block := fun a ha => by simp [Value.ownBlock, ha]
  have hoth : ∀ g, g < w.heap.size → (∀ a, ra.a = some a → g ≠ a.block) → w'.heap[g]? = w.heap[g]? := fun g hgl hne => h3.block g hgl (fun e => by
    cases ha : ra.a with
    | none => rw [ha] at e; simp [Value.ownBlock] at e
    | some a => rw [hob a ha] at e; simp at e; exact hne a ha e)
  obtain ⟨g1, g2⟩ := hg.move (i := id) (n := n) (x := ra) (x' := ⟨A, cap⟩) (b := .cols (.row ei.size) e [.ints k zs]) (w' := w') hmut hr hn rfl rfl hoth h3.size (brel_rowN hsz h2) hown
    (fun a ha => by
      have e1 := h8 a ha
      have hlt := (h2.lt _ e1).2
      refine ⟨?_, hlt⟩
      rcases h4 with h4 | h4
      · rw [e1] at h4
        cases hra : ra.a with
        | none => rw [hra] at h4; simp [Value.ownBlock] at h4
        | some b => rw [hob b hra] at h4; simp at h4; exact .inr ⟨b, rfl, h4.symm⟩
      · rw [e1] at h4; simp at h4; exact .inl (by omega))
  refine ⟨_, w', _, h1, g1, hv _ A cap (by simp) h6 h7, g2, ⟨h3.os, h3.tape, h3.output, h3.size, fun g hgl ho => hoth g hgl (fun a ha e => ho ?_)⟩⟩
  rw [e]; exact hg.own id ra a hmut hr ha

section
variable {uI : FI → Int} {uB : FB → Bool} {uS : FS → ByteArray} {uL : FL → List Int} {uT : FT → TT} (hu : Std uI uB uS uL uT)
include hu

omit hu in
theorem vec_new {r' : Rho} {n : Nat} {A : Option Addr} {cap m : Nat} {l : Iv} (h : r' n = some ⟨A, cap⟩) (hl : l.val = m) (h1 : m ≤ cap) (h2 : 0 < m → ∃ b, A = some b) : VRel r' (.vec n l) (.slice A m cap) := by
  simp only [VRel]; exact ⟨⟨A, cap⟩, m, h, hl, h1, h2, rfl⟩

omit hu in
theorem srcTy_str {u : TypeId} {s : Sv} (hT : TabOk P T) (h : srcTy T u (.str s) = true) : P.underlying u = some .string := by
  unfold srcTy at h
  cases hi : T u with
  | none => simp [hi] at h
  | some i =>
    have hd := (hT _ _ hi).d
    cases hde : i.d <;> simp [hi, hde] at h
    rw [hde] at hd; exact hd
omit hu in
theorem srcTy_sl {u : TypeId} {y : V} (hT : TabOk P T) (hy : ∀ s, y ≠ .str s) (h : srcTy T u y = true) : ∃ e', P.underlying u = some (.slice e') := by
  unfold srcTy at h
  cases hi : T u with
  | none => simp [hi] at h
  | some i =>
    have hd := (hT _ _ hi).d
    cases y <;> first
      | exact absurd rfl (hy _)
      | (cases hde : i.d <;> simp [hi, hde] at h
         rw [hde] at hd; exact ⟨_, hd⟩)

theorem appNil_ok {t u ty e n : Nat} {ei : TyI} {k : IntKind} {y v : V} {x : Value} {ids : List Nat} {obl : List Bool} {out : List Blk} {new : Option Blk} (hT : TabOk P T) (hg : Good P own r hp w) (hown : ∀ g, w.heap.size ≤ g → own g) (hn : new ≠ none → hget hp n = .unborn)
    (ht : P.underlying t = some (.slice e)) (he : TyOk P e ei) (hsz : ei.size = 1) (hby : ei.bytes ≤ 64) (hids : ids = idOf y) (hsr : srcTy T u y = true) (hx : VRel r y x)
    (h : appNil uI uB uL n e k y (hgets hp ids) = .val obl v out new) (ho : AllTrue obl) :
    ROk P own r w ((Builtin.append_ #[t, u] ty #[.slice none 0 0, x]).run P w) v (hwrites hp (zipW ids out ++ newW n new)) := by
  subst hids
  unfold appNil at h
  split at h
  · rename_i s hb
    split at h
    · rename_i hk
      simp only [decide_eq_true_eq] at hk; subst hk
      obtain ⟨ho', rfl, rfl, rfl⟩ := outO_val h
      have h1 := fewO_ok hu ⟨_, ho', ho⟩
      rw [strLen_val hu] at h1
      simp only [VRel] at hx; subst hx
      have hs := Go.Src.ofString (P := P) w (srcTy_str hT hsr) s.val
      have hl := bytesL_length s.val
      rw [byteCells_eq, ← hl, ← bytesOfStr_raw hu] at hs
      refine app_new (k := .u8) (ys := bytesOfStr uL s) hg hown (hn (by simp)) ht he hsz hby hs ?_ ?_
      · rw [bytesOfStr_raw hu, hl]; omega
      · intro r' A cap h2 h3 h4
        refine vec_new h2 ?_ h3 h4
        rw [strLen_val hu, bytesOfStr_raw hu, hl]
    · cases h
  · simp only [Out.val.injEq] at h; obtain ⟨rfl, rfl, rfl, rfl⟩ := h
    simp only [VRel] at hx; subst hx
    obtain ⟨e', hu'⟩ := srcTy_sl hT (by intro s; simp) hsr
    obtain ⟨v', w', h1, h2, h3, h4, h5⟩ := run_app (P := P) (w := w) (ty := ty) ht he (by omega) hby (World.ownsRow_nil w 0 e ei.size) (by rw [hsz]; exact Go.Src.ofNil w hu' 0) (by omega)
    have e1 : (Builtin.append_ #[t, u] ty #[.slice none 0 0, .slice none 0 0]).run P w = .ok (.slice none 0 0) w := by
      obtain ⟨f, z, hf, hfs, _⟩ := he.info
      simp [Builtin.append_, run_underlying ht, run_underlying hu', Go.sizeOf, typeInfo, hf, Builtin.lenOf, Builtin.firstCells]
    exact ROk.pure hg e1 (by simp [VRel]) (fun _ => rfl)
  · rename_i y _ _ b hb
    split at h
    · rename_i o ys hsl
      obtain ⟨ho', rfl, rfl, rfl⟩ := outO_val h
      obtain ⟨h1, h2⟩ := oblOk_and ⟨_, ho', ho⟩
      have h3 := fewO_ok hu h2
      rw [lv_len hu] at h3
      have hyn : ∀ s, y ≠ .str s := by rintro s rfl; simp [slInts] at hsl
      obtain ⟨e', hu'⟩ := srcTy_sl hT hyn hsr
      obtain ⟨id, hid⟩ : ∃ id, idOf y = [id] := by
        cases y <;> simp [slInts] at hsl <;> exact ⟨_, rfl⟩
      rw [hid] at hb
      simp only [hgets, List.cons.injEq, and_true] at hb
      have hs := slInts_src hu hu' hsl h1 hx hid hb hg
      have := app_new (ty := ty) (v := .vec n (ys.len uI)) hg hown (hn (by simp)) ht he hsz hby hs (by omega) (fun r' A cap h2 h3 h4 => vec_new h2 (lv_len hu ys) h3 h4)
      rw [hid]
      obtain ⟨v', w', r', q1, q2, q3, q4, q5⟩ := this
      exact ⟨v', w', r', q1, q2, q3, q4.congr (hget_two hb), q5⟩
    · cases h
  · cases h

theorem appRow_ok {t u ty e n id : Nat} {ei : TyI} {k : IntKind} {y v : V} {a x : Value} {ids : List Nat} {l : Iv} {ws : Lv} {obl : List Bool} {out : List Blk} {new : Option Blk} (hT : TabOk P T) (hg : Good P own r hp w) (hown : ∀ g, w.heap.size ≤ g → own g) (hn : new ≠ none → hget hp n = .unborn)
    (ht : P.underlying t = some (.slice e)) (he : TyOk P e ei) (hsz : ei.size = 1) (hby : ei.bytes ≤ 64) (hids : ids = idOf y) (hsr : srcTy T u y = true) (hv : VRel r (.vec id l) a) (hx : VRel r y x)
    (hb : hget hp id = .cols (.row 1) e [.ints k ws]) (hnid : id ∉ ids) (h : appRow uI uB uL n e k l ws y (hgets hp ids) = .val obl v out new) (ho : AllTrue obl) :
    ROk P own r w ((Builtin.append_ #[t, u] ty #[a, x]).run P w) v (hwrites hp (zipW (id :: ids) out ++ newW n new)) := by
  subst hids
  simp only [VRel] at hv
  obtain ⟨ra, m, hr, hm, hmc, hA, rfl⟩ := hv
  unfold appRow at h
  split at h
  · rename_i s _
    split at h
    · rename_i hk
      simp only [decide_eq_true_eq] at hk; subst hk
      obtain ⟨ho', rfl, rfl, rfl⟩ := outO_val h
      obtain ⟨h1, h2⟩ := oblOk_and ⟨_, ho', ho⟩
      obtain ⟨h2, h3⟩ := oblOk_and h2
      have h1 := eqOL_ok hu h1
      have h2 := fewO_ok hu h2
      have h3 := fewO_ok hu h3
      rw [strLen_val hu] at h3
      rw [lv_len hu] at h1
      obtain rfl : m = ws.raw.length := by omega
      simp only [VRel] at hx; subst hx
      have hs := Go.Src.ofString (P := P) w (srcTy_str hT hsr) s.val
      have hl := bytesL_length s.val
      rw [byteCells_eq, ← hl, ← bytesOfStr_raw hu] at hs
      refine app_row (k := .u8) (ys := bytesOfStr uL s) hg hown (hn (by simp)) ht he hsz hby hs (by omega) ?_ hb hr (lv_app hu _ _) (fun r' A cap h2 h3 h4 => vec_new h2 (lv_len hu _) h3 h4)
      rw [bytesOfStr_raw hu, hl]; omega
    · cases h
  · simp only [Out.val.injEq] at h; obtain ⟨rfl, rfl, rfl, rfl⟩ := h
    simp only [VRel] at hx; subst hx
    obtain ⟨e', hu'⟩ := srcTy_sl hT (by intro s; simp) hsr
    have e1 : (Builtin.append_ #[t, u] ty #[.slice ra.a m ra.cap, .slice none 0 0]).run P w = .ok (.slice ra.a m ra.cap) w := by
      obtain ⟨f, z, hf, hfs, _⟩ := he.info
      cases ra.a <;> simp [Builtin.append_, run_underlying ht, run_underlying hu', Go.sizeOf, typeInfo, hf, Builtin.lenOf, Builtin.firstCells, hmc, storeCells]
    have hbr := brel_of hg hb (by simp) hr
    have hmut : (hget hp id).mut = true := by rw [hb]; rfl
    obtain ⟨g1, g2⟩ := hg.move (i := id) (n := n) (x := ra) (x' := ra) (b := .cols (.row 1) e [.ints k ws]) (w' := w) hmut hr (hn (by simp)) rfl rfl (fun _ _ _ => rfl) (Nat.le_refl _) (by simpa [BRel] using hbr) hown
      (fun a ha => ⟨.inr ⟨a, ha, rfl⟩, hg.below id ra a.block (mut_live hmut) hr (mut_self w ra a.block ⟨a, ha, rfl⟩)⟩)
    refine ⟨_, w, _, e1, g1, ?_, g2, Keep.refl own w⟩
    simp only [VRel]
    exact ⟨ra, m, by simp, hm, hmc, hA, rfl⟩
  · rename_i y _ _ b hb'
    split at h
    · rename_i o ys hsl
      obtain ⟨ho', rfl, rfl, rfl⟩ := outO_val h
      obtain ⟨h1, h2⟩ := oblOk_and ⟨_, ho', ho⟩
      obtain ⟨h2, h3⟩ := oblOk_and h2
      obtain ⟨h3, h4⟩ := oblOk_and h3
      have h2 := eqOL_ok hu h2
      have h3 := fewO_ok hu h3
      have h4 := fewO_ok hu h4
      rw [lv_len hu] at h2 h4
      obtain rfl : m = ws.raw.length := by omega
      have hyn : ∀ s, y ≠ .str s := by rintro s rfl; simp [slInts] at hsl
      obtain ⟨e', hu'⟩ := srcTy_sl hT hyn hsr
      obtain ⟨id', hid⟩ : ∃ id, idOf y = [id] := by
        cases y <;> simp [slInts] at hsl <;> exact ⟨_, rfl⟩
      rw [hid] at hb' hnid ⊢
      simp only [hgets, List.cons.injEq, and_true] at hb'
      have hs := slInts_src hu hu' hsl h1 hx hid hb' hg
      have := app_row (ty := ty) (v := .vec n ((ws.app uL ys).len uI)) hg hown (hn (by simp)) ht he hsz hby hs (by omega) (by omega) hb hr (lv_app hu _ _) (fun r' A cap h2 h3 h4 => vec_new h2 (lv_len hu _) h3 h4)
      obtain ⟨v', w', r', q1, q2, q3, q4, q5⟩ := this
      refine ⟨v', w', r', q1, q2, q3, q4.congr (fun i => ?_), q5⟩
      simp only [List.mem_singleton] at hnid
      simp only [zipW, newW, List.cons_append, List.nil_append, hwrites, hget_hsetX]
      by_cases e1 : n = i
      · simp [e1]
      · by_cases e2 : id' = i
        · subst e2; simp [e1, hb', hnid]
        · simp [e1, e2]
    · cases h
  · cases h
/-- The numbers of a slice of elements of several cells. -/
theorem slIntsN_src {sz : Nat} {k : IntKind} {y : V} {b : Blk} {o : Obl} {ys : Lv} {mv : Iv} {a : Value} {id : Nat} {u e' : TypeId} (hk : P.underlying u = some (.slice e')) (h : slIntsN uI uB uL sz k y b = some (o, ys, mv)) (ho : OblOk o) (hy : VRel r y a)
    (hid : idOf y = [id]) (hb : hget hp id = b) (hg : Good P own r hp w) : ∃ m : Nat, mv.val = m ∧ Go.Src P sz u a m (ys.raw.map (Value.int k)) w := by
  have fin : ∀ (A : Option Addr) (m c : Nat) (zs : List Int), zs.length = m * sz → (0 < m → ∃ d, A = some d) → (∀ d, A = some d → 0 < m → ∀ j z, zs[j]? = some z → w.cell? (d.add j) = some (.int k z)) → Go.Src P sz u (.slice A m c) m (zs.map (Value.int k)) w := by
    intro A m c zs hl hA hc
    by_cases h0 : 0 < m
    · obtain ⟨d, rfl⟩ := hA h0
      refine Go.Src.ofSlice w hk d _ c _ (by simpa using hl) (fun j v hj => ?_) (fun v hv => ?_)
      · simp only [List.getElem?_map] at hj
        obtain ⟨z, hz, rfl⟩ := Option.map_eq_some_iff.1 hj
        exact hc d rfl h0 j z hz
      · obtain ⟨z, _, rfl⟩ := List.mem_map.1 hv; rfl
    · obtain rfl : m = 0 := by omega
      have hn : zs = [] := List.eq_nil_of_length_eq_zero (by omega)
      subst hn
      cases A with
      | none => exact Go.Src.ofNil w hk c
      | some d => exact Go.Src.ofSlice w hk d 0 c [] (by simp) (by simp) (by simp)
  unfold slIntsN at h
  split at h
  · rename_i id' n md t k' xs
    split at h
    · rename_i hk'; subst hk'
      simp only [Option.some.injEq, Prod.mk.injEq] at h; obtain ⟨rfl, rfl, rfl⟩ := h
      simp only [idOf, List.cons.injEq, and_true] at hid; subst hid
      have hn := eqOL_ok hu ho
      rw [lv_len hu, linV_val hu] at hn
      simp only [VRel] at hy
      obtain ⟨x, m, hr, hm, hmc, ha, rfl⟩ := hy
      obtain ⟨vals, n', h1, h2, h3, h4, _⟩ := cols_cells (brel_of hg hb (by simp) hr)
      obtain ⟨rfl, rfl⟩ := colsAt_ints h1
      refine ⟨m, hm, fin _ _ _ _ ?_ ha fun d hd _ j z hz => h4 d j _ hd (by simp [hz])⟩
      rw [hm] at hn; simp at hn
      exact_mod_cast hn.symm
    · cases h
  · rename_i id' off n md t k' xs
    split at h
    · rename_i hk'; subst hk'
      simp only [Option.some.injEq, Prod.mk.injEq] at h; obtain ⟨rfl, rfl, rfl⟩ := h
      simp only [idOf, List.cons.injEq, and_true] at hid; subst hid
      have hn := cutO_ok hu ho
      rw [lv_len hu, linV_val hu] at hn
      simp only [VRel] at hy
      obtain ⟨x, m, c, A, hr, hm, hmc, hoff, rfl, hA⟩ := hy
      obtain ⟨vals, n', h1, h2, h3, h4, _⟩ := cols_cells (brel_of hg hb (by simp) hr)
      obtain ⟨rfl, rfl⟩ := colsAt_ints h1
      rw [hm] at hn
      have hms : (m : Int) * (sz : Int) = ((m * sz : Nat) : Int) := by simp
      rw [hms] at hn
      refine ⟨m, hm, fin _ _ _ _ ?_ (fun h0 => ?_) fun d hd h0 j z hz => ?_⟩
      · rw [lv_sub hu, linV_val hu, hm]
        simp only [Iv.val_lit, Int.add_zero, hms]
        rw [sub_len _ _ _ hoff (by omega) (by omega)]; omega
      · obtain ⟨b, _, h⟩ := hA h0; exact ⟨_, h⟩
      · obtain ⟨b, hb1, hb2⟩ := hA h0
        rw [hd] at hb2; cases hb2
        rw [lv_sub hu] at hz
        rw [add_add]
        exact h4 b _ _ hb1 (by simp [sub_get _ _ _ _ _ hz])
    · cases h
  · cases h
theorem apnNil_ok {t u ty e n : Nat} {ei : TyI} {k : IntKind} {y v : V} {x : Value} {ids : List Nat} {obl : List Bool} {out : List Blk} {new : Option Blk} (hT : TabOk P T) (hg : Good P own r hp w) (hown : ∀ g, w.heap.size ≤ g → own g) (hn : new ≠ none → hget hp n = .unborn)
    (ht : P.underlying t = some (.slice e)) (he : TyOk P e ei) (hsz : 0 < ei.size) (hby : ei.bytes ≤ 64) (hids : ids = idOf y) (hsr : srcTy T u y = true) (hx : VRel r y x)
    (h : apnNil uI uB uL n e ei.size k y (hgets hp ids) = .val obl v out new) (ho : AllTrue obl) :
    ROk P own r w ((Builtin.append_ #[t, u] ty #[.slice none 0 0, x]).run P w) v (hwrites hp (zipW ids out ++ newW n new)) := by
  subst hids
  unfold apnNil at h
  split at h
  · rename_i b hb
    split at h
    · rename_i o ys m hsl
      obtain ⟨ho', rfl, rfl, rfl⟩ := outO_val h
      obtain ⟨h1, h2⟩ := oblOk_and ⟨_, ho', ho⟩
      have h3 := fewO_ok hu h2
      have hyn : ∀ s, y ≠ .str s := by rintro s rfl; simp [slIntsN] at hsl
      obtain ⟨e', hu'⟩ := srcTy_sl hT hyn hsr
      obtain ⟨id, hid⟩ : ∃ id, idOf y = [id] := by
        cases y <;> simp [slIntsN] at hsl <;> exact ⟨_, rfl⟩
      rw [hid] at hb
      simp only [hgets, List.cons.injEq, and_true] at hb
      obtain ⟨q, hq, hs⟩ := slIntsN_src hu hu' hsl h1 hx hid hb hg
      have := apn_new (ty := ty) (v := .vec n m) hg hown (hn (by simp)) ht he hsz hby hs (by omega) (fun r' A cap h2 h3 h4 => vec_new h2 hq h3 h4)
      rw [hid]
      obtain ⟨v', w', r', q1, q2, q3, q4, q5⟩ := this
      exact ⟨v', w', r', q1, q2, q3, q4.congr (hget_two hb), q5⟩
    · cases h
  · cases h

theorem apnRow_ok {t u ty e n id : Nat} {ei : TyI} {k : IntKind} {y v : V} {a x : Value} {ids : List Nat} {l : Iv} {ws : Lv} {obl : List Bool} {out : List Blk} {new : Option Blk} (hT : TabOk P T) (hg : Good P own r hp w) (hown : ∀ g, w.heap.size ≤ g → own g) (hn : new ≠ none → hget hp n = .unborn)
    (ht : P.underlying t = some (.slice e)) (he : TyOk P e ei) (hsz : 0 < ei.size) (hby : ei.bytes ≤ 64) (hids : ids = idOf y) (hsr : srcTy T u y = true) (hv : VRel r (.vec id l) a) (hx : VRel r y x)
    (hb : hget hp id = .cols (.row ei.size) e [.ints k ws]) (hnid : id ∉ ids) (h : apnRow uI uB uL n e ei.size k l ws y (hgets hp ids) = .val obl v out new) (ho : AllTrue obl) :
    ROk P own r w ((Builtin.append_ #[t, u] ty #[a, x]).run P w) v (hwrites hp (zipW (id :: ids) out ++ newW n new)) := by
  subst hids
  simp only [VRel] at hv
  obtain ⟨ra, m, hr, hm, hmc, hA, rfl⟩ := hv
  unfold apnRow at h
  split at h
  · rename_i b hb'
    split at h
    · rename_i o ys mv hsl
      obtain ⟨ho', rfl, rfl, rfl⟩ := outO_val h
      obtain ⟨h1, h2⟩ := oblOk_and ⟨_, ho', ho⟩
      obtain ⟨h2, h3⟩ := oblOk_and h2
      obtain ⟨h3, h4⟩ := oblOk_and h3
      have h2 := eqOL_ok hu h2
      have h3 := fewO_ok hu h3
      have h4 := fewO_ok hu h4
      rw [lv_len hu, linV_val hu, hm] at h2
      have hms : (m : Int) * (ei.size : Int) = ((m * ei.size : Nat) : Int) := by simp
      simp only [Iv.val_lit, Int.add_zero, hms] at h2
      have hyn : ∀ s, y ≠ .str s := by rintro s rfl; simp [slIntsN] at hsl
      obtain ⟨e', hu'⟩ := srcTy_sl hT hyn hsr
      obtain ⟨id', hid⟩ : ∃ id, idOf y = [id] := by
        cases y <;> simp [slIntsN] at hsl <;> exact ⟨_, rfl⟩
      rw [hid] at hb' hnid ⊢
      simp only [hgets, List.cons.injEq, and_true] at hb'
      obtain ⟨q, hq, hs⟩ := slIntsN_src hu hu' hsl h1 hx hid hb' hg
      have := apn_row (ty := ty) (v := .vec n (linV uI l 1 mv)) (zs := ws.app uL ys) (q := m) hg hown (hn (by simp)) ht he hsz hby hs (by omega) (by omega) (by omega) hb hr (lv_app hu _ _) (fun r' A cap h2 h3 h4 => vec_new h2 (by rw [linV_val hu, hm, hq]; simp) h3 h4)
      obtain ⟨v', w', r', q1, q2, q3, q4, q5⟩ := this
      refine ⟨v', w', r', q1, q2, q3, q4.congr (fun i => ?_), q5⟩
      simp only [List.mem_singleton] at hnid
      simp only [zipW, newW, List.cons_append, List.nil_append, hwrites, hget_hsetX]
      by_cases e1 : n = i
      · simp [e1]
      · by_cases e2 : id' = i
        · subst e2; simp [e1, hb', hnid]
        · simp [e1, e2]
    · cases h
  · cases h
end
end
end Sx
set_option linter.unusedVariables false
set_option linter.unusedSimpArgs false
namespace Sx
open Go
section
variable {P : Program} {T : Tab} {own : Own} {r : Rho} {hp : Hp} {w : World}

/-- Cells that are slices of numbers, row by row. -/
structure ElsOk (w : World) (k : IntKind) (xss : List (List Int)) (vals : List Value) : Prop where
  len : vals.length = xss.length
  at_ : ∀ (q : Nat) v, vals[q]? = some v → ∃ A n c, v = .slice A n c ∧ n ≤ c ∧ (xss.getD q []).length = n ∧ (0 < n → ∃ d, A = some d) ∧ ∀ d i y, A = some d → (xss.getD q [])[i]? = some y → w.cell? (d.add i) = some (.int k y)
/-- .. whose blocks nobody writes. -/
def LeansAll (r : Rho) (hp : Hp) (w : World) (vals : List Value) : Prop := ∀ (q : Nat) A n c, vals[q]? = some (.slice (some A) n c) → 0 < n → Leans r hp w A.block

theorem ElsOk.append {k : IntKind} {xss yss : List (List Int)} {a b : List Value} (h : ElsOk w k xss a) (g : ElsOk w k yss b) : ElsOk w k (xss ++ yss) (a ++ b) := by
  refine ⟨by rw [List.length_append, List.length_append, h.len, g.len], fun q v hv => ?_⟩
  rcases Nat.lt_or_ge q a.length with hq | hq
  · rw [List.getElem?_append_left hq] at hv
    have e : (xss ++ yss).getD q [] = xss.getD q [] := by
      rw [List.getD_eq_getElem?_getD, List.getD_eq_getElem?_getD, List.getElem?_append_left (by rw [← h.len]; exact hq)]
    rw [e]; exact h.at_ q v hv
  · rw [List.getElem?_append_right hq] at hv
    have e : (xss ++ yss).getD q [] = yss.getD (q - a.length) [] := by
      rw [List.getD_eq_getElem?_getD, List.getD_eq_getElem?_getD, List.getElem?_append_right (by rw [← h.len]; exact hq), h.len]
    rw [e]; exact g.at_ _ v hv
theorem LeansAll.append {a b : List Value} (h : LeansAll r hp w a) (g : LeansAll r hp w b) : LeansAll r hp w (a ++ b) := by
  intro q A n c hv h0
  rcases Nat.lt_or_ge q a.length with hq | hq
  · rw [List.getElem?_append_left hq] at hv; exact h q A n c hv h0
  · rw [List.getElem?_append_right hq] at hv; exact g _ A n c hv h0
/-- What a row of slices holds. -/
theorem srow_els {id e : Nat} {k : IntKind} {xss : List (List Int)} {ra : RA} (hg : Good P own r hp w) (hb : hget hp id = .srow e k xss) (hr : r id = some ra) :
    ∃ vals, ElsOk w k xss vals ∧ w.ownsRow 0 e 1 (.slice ra.a xss.length ra.cap) xss.length vals ∧ LeansAll r hp w vals := by
  have hB := brel_of hg hb (by simp) hr
  simp only [BRel] at hB
  obtain ⟨vals, m, h1, h2, h3, h4⟩ := hB
  obtain rfl : m = xss.length := by omega
  refine ⟨vals, ⟨h1, fun q v hv => ?_⟩, h3, fun q A n c hv h0 => ?_⟩
  · obtain ⟨A, n, c, e1, e2, e3, e4, e5, e6⟩ := h4 q v hv
    exact ⟨A, n, c, e1, e2, e3, e4, e6⟩
  · obtain ⟨A', n', c', e1, e2, e3, e4, e5, e6⟩ := h4 q _ hv
    injection e1 with e7 e8 e9
    subst e7; subst e8
    obtain ⟨b, hb1, hb2⟩ := srow_cell h2 h3 hv
    refine ⟨id, ra, by rw [hb]; rfl, hr, ?_, fun _ a ha => e5 a A ha rfl h0⟩
    rw [hb]
    exact .inr ⟨b, q, A, n, c, hb1, by rw [← h1]; exact (List.getElem?_eq_some_iff.1 hv).1, h0, hb2, rfl⟩
/-- A row of slices, made. -/
theorem srow_mk {w' : World} {r' : Rho} {x' : RA} {e : Nat} {k : IntKind} {zss : List (List Int)} {zs : List Value} (hel : ElsOk w k zss zs) (hL : LeansAll r hp w zs)
    (ho : w'.ownsRow 0 e 1 (.slice x'.a zss.length x'.cap) zss.length zs) (hk : ∀ g, Leans r hp w g → w'.heap[g]? = w.heap[g]? ∧ ∀ b, x'.a = some b → b.block ≠ g) :
    BRel P r' w' x' (.srow e k zss) ∧ ∀ g, (Blk.srow e k zss).uses w' x' g → (∃ a', x'.a = some a' ∧ a'.block = g) ∨ Leans r hp w g := by
  constructor
  · simp only [BRel]
    refine ⟨zs, _, hel.len, hel.len, ho, fun q v hv => ?_⟩
    obtain ⟨A, n, c, rfl, e2, e3, e4, e5⟩ := hel.at_ q v hv
    refine ⟨A, n, c, rfl, e2, e3, e4, fun b d hb hd h0 => ?_, fun d i y hd hy => ?_⟩
    · subst hd; exact (hk _ (hL q d n c hv h0)).2 b hb
    · subst hd
      have h0 : 0 < n := by
        rw [← e3]
        have := (List.getElem?_eq_some_iff.1 hy).1
        omega
      rw [← e5 d i y rfl hy]
      exact cell_congr (by rw [add_block]; exact (hk _ (hL q d n c hv h0)).1)
  · rintro g (h | ⟨b, q, A, n, c, h1, h2, h3, h4, rfl⟩)
    · exact .inl h
    · have hq : q < zs.length := by rw [hel.len]; exact h2
      obtain ⟨b', hb', hc⟩ := srow_cell hel.len ho (List.getElem?_eq_getElem hq)
      rw [h1] at hb'; cases hb'
      rw [h4] at hc
      exact .inr (hL q A n c (by rw [List.getElem?_eq_getElem hq]; exact hc.symm) h3)
theorem src_vals {u e' m : Nat} {A : Option Addr} {c : Nat} {vals : List Value} (hk : P.underlying u = some (.slice e')) (hl : vals.length = m) (hA : 0 < m → ∃ d, A = some d) (hone : ∀ v ∈ vals, v.oneCell' = true)
    (hc : ∀ d, A = some d → ∀ (j : Nat) v, vals[j]? = some v → w.cell? (d.add j) = some v) : Go.Src P 1 u (.slice A m c) m vals w := by
  by_cases h0 : 0 < m
  · obtain ⟨d, rfl⟩ := hA h0
    exact Go.Src.ofSlice w hk d _ c _ (by simpa using hl) (fun j v hj => hc d rfl j v hj) hone
  · obtain rfl : m = 0 := by omega
    have hn : vals = [] := List.eq_nil_of_length_eq_zero (by omega)
    subst hn
    cases A with
    | none => exact Go.Src.ofNil w hk c
    | some d => exact Go.Src.ofSlice w hk d 0 c [] (by simp) (by simp) (by simp)
theorem els_one {k : IntKind} {xss : List (List Int)} {vals : List Value} (h : ElsOk w k xss vals) : ∀ v ∈ vals, v.oneCell' = true := by
  intro v hv
  obtain ⟨i, hi⟩ := List.getElem?_of_mem hv
  obtain ⟨A, n, c, rfl, _⟩ := h.at_ i v hi
  rfl
/-- A row of slices as what is appended. -/
theorem srow_src {u e' id e : Nat} {k : IntKind} {yss : List (List Int)} {ra : RA} {m : Nat} (hk : P.underlying u = some (.slice e')) (hg : Good P own r hp w) (hb : hget hp id = .srow e k yss) (hr : r id = some ra) (hm : m = yss.length) :
    ∃ vals, ElsOk w k yss vals ∧ LeansAll r hp w vals ∧ Go.Src P 1 u (.slice ra.a m ra.cap) m vals w := by
  obtain ⟨vals, h1, h2, h3⟩ := srow_els hg hb hr
  subst hm
  refine ⟨vals, h1, h3, src_vals hk h1.len (fun h0 => ?_) (els_one h1) (fun d hd j v hv => ?_)⟩
  · have hq : 0 < vals.length := by rw [h1.len]; exact h0
    obtain ⟨b, hb', _⟩ := srow_cell h1.len h2 (List.getElem?_eq_getElem hq)
    exact ⟨b, hb'⟩
  · obtain ⟨b, hb', hc⟩ := srow_cell h1.len h2 hv
    rw [hd] at hb'; cases hb'; exact hc

section
variable {uI : FI → Int} {uB : FB → Bool} {uS : FS → ByteArray} {uL : FL → List Int} {uT : FT → TT} (hu : Std uI uB uS uL uT)
include hu
theorem appSrow_ok {t u ty e n : Nat} {ei iu : TyI} {eu : Nat} {k : IntKind} {y1 y2 v : V} {a x : Value} {obl : List Bool} {out : List Blk} {new : Option Blk} (hg : Good P own r hp w) (hown : ∀ g, w.heap.size ≤ g → own g) (hn : new ≠ none → hget hp n = .unborn)
    (ht : P.underlying t = some (.slice e)) (hk : P.underlying u = some (.slice eu)) (he : TyOk P e ei) (hsz : ei.size = 1) (hby : ei.bytes ≤ 64) (hx1 : VRel r y1 a) (hx2 : VRel r y2 x) (hd : dup (idOf y1 ++ idOf y2) = false)
    (h : appSrow uI uB uT n e k [y1, y2] (hgets hp (idOf y1 ++ idOf y2)) = .val obl v out new) (ho : AllTrue obl) :
    ROk P own r w ((Builtin.append_ #[t, u] ty #[a, x]).run P w) v (hwrites hp (zipW (idOf y1 ++ idOf y2) out ++ newW n new)) := by
  unfold appSrow at h
  split at h
  · rename_i j m e' k' yss hl hbs
    simp only [List.cons.injEq, and_true] at hl
    obtain ⟨rfl, rfl⟩ := hl
    split at h
    · rename_i hkk; simp only [decide_eq_true_eq] at hkk; subst hkk
      obtain ⟨ho', rfl, rfl, rfl⟩ := outO_val h
      obtain ⟨h1, h2⟩ := oblOk_and ⟨_, ho', ho⟩
      have h1 := eqOL_ok hu h1
      have h2 := fewO_ok hu h2
      simp only [Iv.val_sym, hu.i, iI] at h1
      simp only [idOf, List.nil_append, hgets, List.cons.injEq, and_true] at hbs
      simp only [VRel] at hx1 hx2
      subst hx1
      obtain ⟨ra, q, hr, hq, hqc, hA, rfl⟩ := hx2
      obtain ⟨vals, g1, g2, g3⟩ := srow_src (u := u) hk hg hbs hr (m := q) (by omega)
      obtain ⟨v', w', a1, a2, a3, a4, a5⟩ := run_app (P := P) (w := w) (ty := ty) ht he (by omega) hby (World.ownsRow_nil w 0 e ei.size) (by rw [hsz]; exact g3) (by omega)
      rw [hsz] at a2
      simp only [Nat.zero_add, List.nil_append] at a2
      obtain ⟨A, cap, rfl, a6, a7, a8⟩ := ownsRow_slice a2
      have hAn : ∀ b, A = some b → b.block = w.heap.size ∧ w.heap.size < w'.heap.size := fun b hb => by
        have := a8 b hb
        rcases a4 with a4 | a4
        · rw [this] at a4; simp [Value.ownBlock] at a4
        · rw [this] at a4; simp at a4; exact ⟨a4, a5 (by rw [this, a4])⟩
      have hqy : q = yss.length := by omega
      have hold : ∀ g, g < w.heap.size → w'.heap[g]? = w.heap[g]? := fun g hgl => a3.block g hgl (by simp [Value.ownBlock])
      obtain ⟨b1, b2⟩ := srow_mk (P := P) (r' := fun i => if i = n then some ⟨A, cap⟩ else r i) (x' := ⟨A, cap⟩) (e := e) g1 g2 (w' := w') (by rw [hqy] at a2; exact a2)
        (fun g hL => ⟨hold g (hL.below hg), fun b hb e1 => by have := (hAn b hb).1; have := hL.below hg; omega⟩)
      obtain ⟨c1, c2⟩ := hg.pushS (n := n) (x := ⟨A, cap⟩) (b := .srow e k yss) (w' := w') (hn (by simp)) rfl hold a3.size b1 hown
        (fun g hgu => (b2 g hgu).imp (fun ⟨a', ha', hb'⟩ => by have := hAn a' ha'; omega) id) (fun b hb => by have := hAn b hb; omega)
      refine ⟨_, w', _, a1, c1, vec_new (by simp) hq a6 a7, c2.congr (fun i => ?_), ⟨a3.os, a3.tape, a3.output, a3.size, fun g hgl _ => hold g hgl⟩⟩
      simp only [idOf, List.nil_append]
      exact hget_two hbs i
    · cases h
  · rename_i id l j m e' k' xss e2 k2 yss hl hbs
    simp only [List.cons.injEq, and_true] at hl
    obtain ⟨rfl, rfl⟩ := hl
    split at h
    · rename_i hc
      simp only [Bool.and_eq_true, decide_eq_true_eq] at hc
      obtain ⟨c1, c2, c3⟩ := hc
      have c1 := Nat.eq_of_beq_eq_true c1
      subst c1; subst c2; subst c3
      obtain ⟨ho', rfl, rfl, rfl⟩ := outO_val h
      obtain ⟨h1, h2⟩ := oblOk_and ⟨_, ho', ho⟩
      obtain ⟨h2, h3⟩ := oblOk_and h2
      obtain ⟨h3, h4⟩ := oblOk_and h3
      have h1 := eqOL_ok hu h1
      have h2 := eqOL_ok hu h2
      have h3 := fewO_ok hu h3
      have h4 := fewO_ok hu h4
      simp only [Iv.val_sym, hu.i, iI] at h1 h2
      simp only [idOf, List.cons_append, List.nil_append, hgets, List.cons.injEq, and_true] at hbs
      obtain ⟨hb1, hb2⟩ := hbs
      simp only [VRel] at hx1 hx2
      obtain ⟨ra, p, hr1, hp1, hpc, hA1, rfl⟩ := hx1
      obtain ⟨rb, q, hr2, hq, hqc, hA2, rfl⟩ := hx2
      obtain ⟨vals1, f1, f2, f3⟩ := srow_els hg hb1 hr1
      obtain ⟨vals, g1, g2, g3⟩ := srow_src (u := u) hk hg hb2 hr2 (m := q) (by omega)
      have hpx : p = xss.length := by omega
      rw [← hpx] at f2
      have hne : id ≠ j := by
        intro e; subst e
        simp [idOf, dup, memN] at hd
      obtain ⟨v', w', a1, a2, a3, a4, a5⟩ := run_app (P := P) (w := w) (ty := ty) ht he (by omega) hby (by rw [hsz]; exact f2) (by rw [hsz]; exact g3) (by omega)
      rw [hsz] at a2
      obtain ⟨A, cap, rfl, a6, a7, a8⟩ := ownsRow_slice a2
      have hmut : (hget hp id).mut = true := by rw [hb1]; rfl
      have hob : ∀ a, ra.a = some a → (Value.slice ra.a p ra.cap).ownBlock = some a.block := fun a ha => by simp [Value.ownBlock, ha]
      have hoth : ∀ g, g < w.heap.size → (∀ a, ra.a = some a → g ≠ a.block) → w'.heap[g]? = w.heap[g]? := fun g hgl hne => a3.block g hgl (fun e => by
        cases ha : ra.a with
        | none => rw [ha] at e; simp [Value.ownBlock] at e
        | some a => rw [hob a ha] at e; simp at e; exact hne a ha e)
      have hAn : ∀ b, A = some b → (w.heap.size ≤ b.block ∨ ∃ a, ra.a = some a ∧ a.block = b.block) ∧ b.block < w'.heap.size := fun b hb => by
        have e1 := a8 b hb
        have hlt := (a2.lt _ e1).2
        refine ⟨?_, hlt⟩
        rcases a4 with a4 | a4
        · rw [e1] at a4
          cases hra : ra.a with
          | none => rw [hra] at a4; simp [Value.ownBlock] at a4
          | some c => rw [hob c hra] at a4; simp at a4; exact .inr ⟨c, rfl, a4.symm⟩
        · rw [e1] at a4; simp at a4; exact .inl (by omega)
      have hzl : (xss ++ yss).length = p + q := by rw [List.length_append]; omega
      have hel := f1.append g1
      have hLL := f3.append g2
      obtain ⟨b1, b2⟩ := srow_mk (P := P) (r' := fun i => if i = n then some ⟨A, cap⟩ else r i) (x' := ⟨A, cap⟩) (e := e) hel hLL (w' := w') (by rw [hzl]; exact a2)
        (fun g hL => ⟨hoth g (hL.below hg) (fun a ha e1 => hL.apart hg hmut hr1 ha e1.symm), fun b hb e1 => by
          rcases (hAn b hb).1 with h | ⟨a, ha, h⟩
          · have := hL.below hg; omega
          · exact hL.apart hg hmut hr1 ha (h.trans e1)⟩)
      have hz : (uT (.xapp xss yss)).x = xss ++ yss := by rw [hu.t]; rfl
      obtain ⟨d1, d2⟩ := hg.moveS (i := id) (n := n) (x := ra) (x' := ⟨A, cap⟩) (b := .srow e k (xss ++ yss)) (w' := w') hmut hr1 (hn (by simp)) rfl hoth a3.size b1 hown hAn b2
      refine ⟨_, w', _, a1, d1, vec_new (by simp) (by rw [linV_val hu, hp1, hq]; simp) a6 a7, d2.congr (fun i => ?_), ⟨a3.os, a3.tape, a3.output, a3.size, fun g hgl ho => hoth g hgl (fun a ha e => ho ?_)⟩⟩
      · rw [hz]
        simp only [idOf, List.cons_append, List.nil_append, zipW, newW, hwrites, hget_hsetX]
        by_cases e1 : n = i
        · simp [e1]
        · by_cases e2 : j = i
          · subst e2; simp [e1, hb2, hne]
          · simp [e1, e2]
      · rw [e]; exact hg.own id ra a hmut hr1 ha
    · cases h
  · cases h
end
end
end Sx
set_option linter.unusedVariables false
set_option linter.unusedSimpArgs false
namespace Sx
open Go
section
variable {P : Program} {T : Tab} {own : Own} {r : Rho} {hp : Hp} {w : World}
section
variable {uI : FI → Int} {uB : FB → Bool} {uS : FS → ByteArray} {uL : FL → List Int} {uT : FT → TT} (hu : Std uI uB uS uL uT)
include hu

theorem appOut_ok {t u ty n : Nat} {y1 y2 v : V} {a x : Value} {obl : List Bool} {out : List Blk} {new : Option Blk} (hT : TabOk P T) (hg : Good P own r hp w) (hown : ∀ g, w.heap.size ≤ g → own g) (hn : new ≠ none → hget hp n = .unborn)
    (hx1 : VRel r y1 a) (hx2 : VRel r y2 x) (hd : dup (idOf y1 ++ idOf y2) = false)
    (h : appOut uI uB uL uT T n t u [y1, y2] (hgets hp (idOf y1 ++ idOf y2)) = .val obl v out new) (ho : AllTrue obl) :
    ROk P own r w ((Builtin.append_ #[t, u] ty #[a, x]).run P w) v (hwrites hp (zipW (idOf y1 ++ idOf y2) out ++ newW n new)) := by
  unfold appOut at h
  split at h
  · rename_i i hi
    have hd1 := (hT _ _ hi).d
    split at h
    · rename_i e hde
      rw [hde] at hd1
      simp only [DOk] at hd1
      split at h
      · rename_i ei hei
        have he := hT _ _ hei
        split at h
        · rename_i k hk hc
          simp only [Bool.and_eq_true] at hc
          have hsz := Nat.eq_of_beq_eq_true hc.1
          have hby := Nat.le_of_ble_eq_true hc.2
          unfold appInts at h
          split at h
          · rename_i y bs hl
            simp only [List.cons.injEq, and_true] at hl
            obtain ⟨rfl, rfl⟩ := hl
            split at h
            · rename_i hsr
              simp only [VRel] at hx1; subst hx1
              exact appNil_ok hu hT hg hown hn hd1 he hsz hby rfl hsr hx2 h ho
            · cases h
          · rename_i id l y sz e' k' ws bs hl hbs
            simp only [List.cons.injEq, and_true] at hl
            obtain ⟨rfl, rfl⟩ := hl
            split at h
            · rename_i hc2
              simp only [Bool.and_eq_true, decide_eq_true_eq] at hc2
              obtain ⟨c1, c2, c3, c4⟩ := hc2
              have c1 := Nat.eq_of_beq_eq_true c1
              have c2 := Nat.eq_of_beq_eq_true c2
              subst c1; subst c2; subst c3
              simp only [idOf, List.cons_append, List.nil_append, hgets, List.cons.injEq] at hbs
              obtain ⟨hb1, hb2⟩ := hbs
              subst hb2
              have hnid : id ∉ idOf y2 := by
                intro hm
                have hd : (memN id (idOf y2) || dup (idOf y2)) = false := hd
                rw [Bool.or_eq_false_iff] at hd
                have : ∀ l : List Nat, id ∈ l → memN id l = true := by
                  intro l
                  induction l with
                  | nil => simp
                  | cons z q ih =>
                    intro hz
                    rcases List.mem_cons.1 hz with rfl | hz
                    · simp [memN]
                    · simp [memN, ih hz]
                rw [this _ hm] at hd
                exact absurd hd.1 (by simp)
              exact appRow_ok hu hT hg hown hn hd1 he hsz hby rfl c4 hx1 hx2 hb1 hnid h ho
            · cases h
          · cases h
        · split at h
          · rename_i k hsh hc
            simp only [Bool.and_eq_true] at hc
            have hsz : 0 < ei.size := by have := hc.1; simpa using this
            have hby := Nat.le_of_ble_eq_true hc.2
            unfold appArrs at h
            split at h
            · rename_i y bs hl
              simp only [List.cons.injEq, and_true] at hl
              obtain ⟨rfl, rfl⟩ := hl
              split at h
              · rename_i hsr
                simp only [VRel] at hx1; subst hx1
                exact apnNil_ok hu hT hg hown hn hd1 he hsz hby rfl hsr hx2 h ho
              · cases h
            · rename_i id l y sz e' k' ws bs hl hbs
              simp only [List.cons.injEq, and_true] at hl
              obtain ⟨rfl, rfl⟩ := hl
              split at h
              · rename_i hc2
                simp only [Bool.and_eq_true, decide_eq_true_eq] at hc2
                obtain ⟨c1, c2, c3, c4⟩ := hc2
                have c1 := Nat.eq_of_beq_eq_true c1
                have c2 := Nat.eq_of_beq_eq_true c2
                subst c1; subst c2; subst c3
                simp only [idOf, List.cons_append, List.nil_append, hgets, List.cons.injEq] at hbs
                obtain ⟨hb1, hb2⟩ := hbs
                subst hb2
                have hnid : id ∉ idOf y2 := by
                  intro hm
                  have hd : (memN id (idOf y2) || dup (idOf y2)) = false := hd
                  rw [Bool.or_eq_false_iff] at hd
                  have : ∀ l : List Nat, id ∈ l → memN id l = true := by
                    intro l
                    induction l with
                    | nil => simp
                    | cons z q ih =>
                      intro hz
                      rcases List.mem_cons.1 hz with rfl | hz
                      · simp [memN]
                      · simp [memN, ih hz]
                  rw [this _ hm] at hd
                  exact absurd hd.1 (by simp)
                exact apnRow_ok hu hT hg hown hn hd1 he hsz hby rfl c4 hx1 hx2 hb1 hnid h ho
              · cases h
            · cases h
          · cases h
        · split at h
          · rename_i e2 hed i2 iu hi2 hc2 hiu
            simp only [Bool.and_eq_true] at hc2
            have hsz := Nat.eq_of_beq_eq_true hc2.1
            have hby := Nat.le_of_ble_eq_true hc2.2
            split at h
            · rename_i k eu hk1 hk2
              have hd2 := (hT _ _ hiu).d
              rw [hk2] at hd2
              simp only [DOk] at hd2
              exact appSrow_ok hu (ei := ei) (iu := iu) (eu := eu) hg hown hn hd1 hd2 he hsz hby hx1 hx2 hd h ho
            · cases h
          · cases h
        · cases h
      · cases h
    · cases h
  · cases h

theorem lenV_ok {t ty : TypeId} {ts : Array TypeId} {x : V} {a : Value} {as : List Value} {n : Iv} (hT : TabOk P T) (hts : ts[0]? = some t) (hx : VRel r x a) (h : lenV uI T t x = some n) :
    (Builtin.len_ ts ty (a :: as).toArray).run P w = .ok (.int .i64 n.val) w := by
  unfold lenV at h
  split at h
  · rename_i i hi
    have hd := (hT _ _ hi).d
    split at h
    · rename_i s hde
      rw [hde] at hd; simp only [DOk] at hd
      simp only [Option.some.injEq] at h; subst h
      simp only [VRel] at hx; subst hx
      simp [Builtin.len_, hts, run_underlying hd, goInt, strLen_val hu]
    · rename_i e id m hde
      rw [hde] at hd; simp only [DOk] at hd
      simp only [Option.some.injEq] at h; subst h
      simp only [VRel] at hx
      obtain ⟨ra, q, _, hm, _, _, rfl⟩ := hx
      simp [Builtin.len_, hts, run_underlying hd, goInt, hm]
    · rename_i e id o m hde
      rw [hde] at hd; simp only [DOk] at hd
      simp only [Option.some.injEq] at h; subst h
      simp only [VRel] at hx
      obtain ⟨ra, q, c, A, _, hm, _, _, rfl, _⟩ := hx
      simp [Builtin.len_, hts, run_underlying hd, goInt, hm]
    · rename_i e hde
      rw [hde] at hd; simp only [DOk] at hd
      simp only [Option.some.injEq] at h; subst h
      simp only [VRel] at hx; subst hx
      simp [Builtin.len_, hts, run_underlying hd, goInt]
    · rename_i m e hde
      rw [hde] at hd; simp only [DOk] at hd
      simp only [Option.some.injEq] at h; subst h
      simp [Builtin.len_, hts, run_underlying hd, goInt]
    · rename_i e hde
      rw [hde] at hd; simp only [DOk] at hd
      split at h
      · rename_i j hj
        have hd2 := (hT _ _ hj).d
        split at h
        · rename_i m e2 hde2
          rw [hde2] at hd2; simp only [DOk] at hd2
          simp only [Option.some.injEq] at h; subst h
          simp [Builtin.len_, hts, run_underlying hd, run_underlying hd2, goInt]
        · cases h
      · cases h
    · cases h
  · cases h

/-! ### Conversions -/
omit hu in
theorem isU8_ok {e : TypeId} (hT : TabOk P T) (h : isU8 T e = true) : P.underlying e = some (.int .u8) := by
  unfold isU8 at h
  cases hi : T e with
  | none => simp [hi] at h
  | some i =>
    have hd := (hT _ _ hi).d
    rw [hi] at h
    split at h
    · rename_i ei he
      cases he
      split at h
      · rename_i hde; rw [hde] at hd; exact hd
      · cases h
    · cases h
omit hu in
theorem run_conv_back {src e dst : TypeId} (hs : P.underlying src = some (.slice e)) (he : P.underlying e = some (.int .u8)) (hd : P.underlying dst = some .string) {A : Option Addr} {m c : Nat} {ys : List Int}
    (hm : m = ys.length) (hc : 0 < m → ∃ d, A = some d ∧ ∀ j z, ys[j]? = some z → w.cell? (d.add j) = some (.int .u8 z)) : (convert src dst (.slice A m c)).run P w = .ok (.string (strL ys)) w := by
  have hcell : ∀ d, (∀ j z, ys[j]? = some z → w.cell? (d.add j) = some (.int .u8 z)) → (convert src dst (.slice (some d) m c)).run P w = .ok (.string (strL ys)) w := by
    intro d h
    have hl : (loadCells d m).run P w = .ok (ys.map (Value.int .u8)).toArray w := by
      have := run_loadCells_list (P := P) w d (ys.map (Value.int .u8)) (fun j v hj => by
        simp only [List.getElem?_map] at hj
        obtain ⟨z, hz, rfl⟩ := Option.map_eq_some_iff.1 hj
        exact h j z hz)
      simpa [hm] using this
    rw [run_convert_bytes_string w src dst e _ m c hs he hd, run_bytesToString w _ m c ys hl, foldl_push_bytes]
    simp [strL, ByteArray.empty, ByteArray.emptyWithCapacity]
    rfl
  cases A with
  | some d =>
    refine hcell d ?_
    by_cases h0 : 0 < m
    · obtain ⟨d', e1, h2⟩ := hc h0; cases e1; exact h2
    · have : ys = [] := List.eq_nil_of_length_eq_zero (by omega)
      subst this; simp
  | none =>
    have h0 : ¬ 0 < m := fun h => by obtain ⟨d, e1, _⟩ := hc h; cases e1
    have : ys = [] := List.eq_nil_of_length_eq_zero (by omega)
    subst this
    rw [run_convert_bytes_string w src dst e _ m c hs he hd]
    simp [Conv.bytesToString, strL]
    rfl
theorem conv_ok {src dst n : Nat} {u v : V} {a : Value} {ids : List Nat} {obl : List Bool} {out : List Blk} {new : Option Blk} (hT : TabOk P T) (hg : Good P own r hp w) (hown : ∀ g, w.heap.size ≤ g → own g) (hn : new ≠ none → hget hp n = .unborn)
    (hx : VRel r u a) (hids : ids = idOf u) (h : convOut uI uB uS uL T n src dst u (hgets hp ids) = .val obl v out new) (ho : AllTrue obl) :
    ROk P own r w ((convert src dst a).run P w) v (hwrites hp (zipW ids out ++ newW n new)) := by
  subst hids
  unfold convOut at h
  split at h
  · rename_i si di hsi hdi
    have hds := (hT _ _ hsi).d
    have hdd := (hT _ _ hdi).d
    split at h
    · rename_i k' k q m hde1 hde2
      rw [hde1] at hds; rw [hde2] at hdd; simp only [DOk] at hds hdd
      simp only [Out.val.injEq] at h; obtain ⟨rfl, rfl, rfl, rfl⟩ := h
      simp only [VRel] at hx; subst hx
      refine ROk.pure hg (v' := .int k (k.wrap m.val)) ?_ (by simp [VRel, wrapV_val hu]) (fun _ => rfl)
      simp [convert, run_underlying hds, run_underlying hdd, Conv.intToInt]
    · rename_i s hde1 hde2
      rw [hde1] at hds; rw [hde2] at hdd; simp only [DOk] at hds hdd
      simp only [Out.val.injEq] at h; obtain ⟨rfl, rfl, rfl, rfl⟩ := h
      simp only [VRel] at hx; subst hx
      refine ROk.pure hg (v' := .string s.val) ?_ (by simp [VRel]) (fun _ => rfl)
      simp [convert, run_underlying hds, run_underlying hdd]
    · rename_i e hde1 hde2
      rw [hde1] at hds; rw [hde2] at hdd; simp only [DOk] at hds hdd
      split at h
      · rename_i hu8
        simp only [Out.val.injEq] at h; obtain ⟨rfl, rfl, rfl, rfl⟩ := h
        simp only [VRel] at hx; subst hx
        exact ROk.pure hg (run_conv_back hds (isU8_ok hT hu8) hdd (ys := []) rfl (by simp)) (by simp [VRel, strL]) (fun _ => rfl)
      · cases h
    · rename_i u _ _ _ e hde1 hde2 _
      rw [hde1] at hds; rw [hde2] at hdd; simp only [DOk] at hds hdd
      split at h
      · rename_i b hu8 hb
        split at h
        · rename_i o ys hsl
          obtain ⟨ho', rfl, rfl, rfl⟩ := outO_val h
          obtain ⟨id, hid⟩ : ∃ id, idOf u = [id] := by
            cases u <;> simp [slInts] at hsl <;> exact ⟨_, rfl⟩
          rw [hid] at hb ⊢
          simp only [hgets, List.cons.injEq, and_true] at hb
          obtain ⟨A, m, c, rfl, h1, h2, h3⟩ := slInts_cells hu hsl ⟨_, ho', ho⟩ hx hid hb hg
          refine ROk.pure hg (run_conv_back hds (isU8_ok hT hu8) hdd h1 h3) ?_ (pair_same hb)
          simp [VRel, strOfInts, hu.s, iS]
        · cases h
      · cases h
    · rename_i e s hde1 hde2
      rw [hde1] at hds; rw [hde2] at hdd; simp only [DOk] at hds hdd
      split at h
      · rename_i hu8
        simp only [Out.val.injEq] at h; obtain ⟨rfl, rfl, rfl, rfl⟩ := h
        simp only [VRel] at hx; subst hx
        have hrun := run_bytes_of_string (P := P) w src dst e s.val hds hdd (isU8_ok hT hu8)
        have hge := grownCap_ge w s.val.size 0 e
        obtain ⟨C, hC⟩ : ∃ C, C = bytesRow s.val (grownCap w s.val.size 0 e) := ⟨_, rfl⟩
        have hcells : ∀ (q : Nat) v, ((bytesL s.val).map (Value.int .u8))[q]? = some v → C[q]? = some v := by
          intro q v hq
          rw [hC, bytesRow, ← Array.getElem?_toList, Array.toList_append, List.getElem?_append_left]
          · simpa [bytesL] using hq
          · have := (List.getElem?_eq_some_iff.1 hq).1
            simpa [bytesL] using this
        rw [← hC] at hrun
        have hnew : (w.drew.alloc (.cells C e (C.size, C.size + 1))).heap[w.heap.size]? = some (.cells C e (C.size, C.size + 1)) := by
          have := heap_alloc_new w.drew (.cells C e (C.size, C.size + 1))
          exact this
        obtain ⟨g1, g2⟩ := hg.push (n := n) (x := ⟨some ⟨w.heap.size, 0, none⟩, grownCap w s.val.size 0 e⟩) (b := .cols .ro e [.ints .u8 (bytesOfStr uL s)]) (w' := w.drew.alloc (.cells C e (C.size, C.size + 1))) (hn (by simp)) rfl
          (fun g hgl => heap_alloc_old (w := w.drew) _ hgl) (by simp)
          (by
            simp only [BRel]
            refine ⟨_, _, colsAt_ints_mk _ _, by simp, fun _ => ⟨_, rfl⟩, ?_⟩
            intro b q v hb hq
            cases hb
            rw [bytesOfStr_raw hu] at hq
            have := hcells q v hq
            simp only [add_mk, World.cell?, hnew, Nat.zero_add]; exact this)
          hown (fun g hgu => by
            simp only [Blk.uses] at hgu
            obtain ⟨b, hb, rfl⟩ := hgu
            cases hb
            exact ⟨Nat.le_refl _, by simp⟩) (fun a ha => by cases ha; exact Nat.le_refl _)
        refine ⟨_, _, _, hrun, g1, ?_, g2, ⟨rfl, rfl, rfl, by simp, fun g hgl _ => heap_alloc_old (w := w.drew) _ hgl⟩⟩
        simp only [VRel]
        exact ⟨⟨some ⟨w.heap.size, 0, none⟩, grownCap w s.val.size 0 e⟩, s.val.size, grownCap w s.val.size 0 e, some ⟨w.heap.size, 0, none⟩, by simp, strLen_val hu s, hge, by simp, rfl, fun _ => ⟨⟨w.heap.size, 0, none⟩, rfl, by simp [Addr.add]⟩⟩
      · cases h
    · cases h
  · cases h
end

/-! ### The plain ones -/
theorem iface_ok {t n : Nat} {u v : V} {a : Value} {obl : List Bool} {out : List Blk} {new : Option Blk} (hT : TabOk P T) (hg : Good P own r hp w)
    (hx : VRel r u a) (h : ifaceOut T t u = .val obl v out new) : ROk P own r w ((Instr.makeInterface t a).run P w) v (hwrites hp (zipW [] out ++ newW n new)) := by
  unfold ifaceOut at h
  split at h
  · rename_i i hi
    have hd := (hT _ _ hi).d
    have key : ∀ d, P.underlying t = some d → (∀ ms, d ≠ .interface ms) → (Instr.makeInterface t a).run P w = .ok (.iface t a) w := by
      intro d h1 h2
      cases d <;> simp [Instr.makeInterface, run_underlying h1]
      exact absurd rfl (h2 _)
    cases hde : i.d <;> rw [hde] at hd h <;> simp only [DOk] at hd <;> first
      | (cases h; done)
      | (simp only [Out.val.injEq] at h; obtain ⟨rfl, rfl, rfl, rfl⟩ := h
         first
          | exact ROk.pure hg (key _ hd (by simp)) (by simp only [VRel]; exact ⟨a, rfl, hx⟩) (fun _ => rfl)
          | (obtain ⟨f, hd, _⟩ := hd
             exact ROk.pure hg (key _ hd (by simp)) (by simp only [VRel]; exact ⟨a, rfl, hx⟩) (fun _ => rfl)))
  · cases h
end
end Sx
set_option linter.unusedVariables false
set_option linter.unusedSimpArgs false
namespace Sx
open Go
section
variable {P : Program} {T : Tab} {own : Own} {r : Rho} {hp : Hp} {w : World}

theorem foldl_spl (off : Nat) : ∀ (l : List Value) (k : Nat) (cells : Array Value), off + k + l.length ≤ cells.size →
    ((l.zipIdx k).foldl (fun cs x => cs.setIfInBounds (off + x.2) x.1) cells).toList = spl cells.toList (off + k) l
  | [], k, cells, _ => by simp [spl]
  | v :: l, k, cells, h => by
    simp only [List.length_cons] at h
    simp only [List.zipIdx_cons, List.foldl_cons]
    rw [foldl_spl off l (k + 1) (cells.setIfInBounds (off + k) v) (by simp; omega)]
    apply List.ext_getElem?
    intro i
    rw [spl_get _ _ _ (by simp; omega), spl_get _ _ _ (by simp; omega)]
    simp only [Array.toList_setIfInBounds, List.getElem?_set, List.length_cons]
    by_cases h2 : i < off + k
    · simp [h2, show i < off + (k + 1) by omega, show off + k ≠ i by omega]
    · by_cases h3 : i = off + k
      · subst h3
        simp [show off + k < off + (k + 1) by omega, show off + k < cells.size by omega]
      · have h4 : ¬ i < off + (k + 1) := by omega
        simp only [h2, h4, if_false]
        by_cases h5 : i < off + (k + 1) + l.length
        · rw [if_pos h5, if_pos (by omega)]
          rw [show i - (off + k) = (i - (off + (k + 1))) + 1 by omega, List.getElem?_cons_succ]
        · have h6 : ¬ i < off + k + (l.length + 1) := by omega
          simp [h5, h6, show off + k ≠ i by omega]
theorem OneCells.spl {q : Nat} {a b : List Value} (h : OneCells a) (h' : OneCells b) : OneCells (Sx.spl a q b) := by
  intro v hv
  simp only [Sx.spl, List.mem_append] at hv
  rcases hv with hv | hv | hv
  · exact h v (List.mem_of_mem_take hv)
  · exact h' v hv
  · exact h v (List.mem_of_mem_drop hv)

section
variable {uI : FI → Int} {uB : FB → Bool} {uS : FS → ByteArray} {uL : FL → List Int} {uT : FT → TT} (hu : Std uI uB uS uL uT)
include hu

theorem fill_ok {i : TyI} {place : Nat → Option (Nat × Nat)} {ρ : Operand → Value} (hpl : ∀ n q, placeOf T i n = some q → place n = some q) :
    ∀ (ps : List (Nat × Operand)) (vs : List V) (cs : List V) (o o' : List Bool) (l : List V) (cells : Array Value), fillV uI T i cs o ps vs = some (o', l) → AllTrue o' → VRelL r cs cells.toList → OneCells cells.toList →
      VRelL r vs ((partsL ps).map ρ) → ∃ cells', Instr.fill place cells (ps.map fun x => (x.1, ρ x.2)) = some cells' ∧ VRelL r l cells'.toList ∧ OneCells cells'.toList ∧ cells'.size = cells.size ∧ AllTrue o
  | [], [], cs, o, o', l, cells, h, ho, h1, h2, hv => by
    simp only [fillV, Option.some.injEq, Prod.mk.injEq] at h; obtain ⟨rfl, rfl⟩ := h
    exact ⟨cells, rfl, h1, h2, rfl, ho⟩
  | [], v :: vs, cs, o, o', l, cells, h, ho, h1, h2, hv => by simp [fillV] at h
  | (n, x) :: ps, [], cs, o, o', l, cells, h, ho, h1, h2, hv => by simp [fillV] at h
  | (n, x) :: ps, v :: vs, cs, o, o', l, cells, h, ho, h1, h2, hv => by
    simp only [fillV] at h
    split at h
    · rename_i off sz hp'
      split at h
      · rename_i o1 lv hc
        split at h
        · rename_i hle
          have hle := Nat.le_of_ble_eq_true hle
          rw [llen_eq] at hle
          simp only [partsL, List.map_cons, VRelL] at hv
          have hlc := h1.length
          -- the obligation of this part
          have hpre : ∀ (ps : List (Nat × Operand)) (vs cs : List V) (o o' : List Bool) (l : List V), fillV uI T i cs o ps vs = some (o', l) → AllTrue o' → AllTrue o := by
            intro ps
            induction ps with
            | nil => intro vs cs o o' l h ho; cases vs <;> simp [fillV] at h; rw [h.1]; exact ho
            | cons p ps ih =>
              intro vs cs o o' l h ho
              obtain ⟨n, x⟩ := p
              cases vs with
              | nil => simp [fillV] at h
              | cons v vs =>
                simp only [fillV] at h
                split at h
                · split at h
                  · split at h
                    · exact (AllTrue.append.1 (ih _ _ _ _ _ h ho)).1
                    · cases h
                  · cases h
                · cases h
          have ho1 := AllTrue.append.1 (hpre _ _ _ _ _ _ h ho)
          obtain ⟨e1, e2, e3⟩ := cellsOf_rel hu hc ho1.2 hv.1
          have e4 := e1.length
          have hsz : (ρ x).cells.size = sz := by rw [← e2, e4]; simp
          have hfit : off + 0 + (ρ x).cells.toList.length ≤ cells.size := by simp [hsz]; simp at hlc; omega
          have hfold := foldl_spl off (ρ x).cells.toList 0 cells hfit
          obtain ⟨cells2, hc2⟩ : ∃ c2 : Array Value, c2 = (ρ x).cells.zipIdx.foldl (fun cs (x : Value × Nat) => cs.setIfInBounds (off + x.2) x.1) cells := ⟨_, rfl⟩
          have hc3 : cells2.toList = spl cells.toList off (ρ x).cells.toList := by
            rw [hc2, ← Array.foldl_toList]
            simpa using hfold
          rw [spliceV_eq] at h
          obtain ⟨cells', f1, f2, f3, f4, f5⟩ := fill_ok hpl ps vs _ _ o' l cells2 h ho (by rw [hc3]; exact h1.spl e1) (by rw [hc3]; exact h2.spl e3) hv.2
          refine ⟨cells', ?_, f2, f3, ?_, ho1.1⟩
          · simp only [List.map_cons, Instr.fill, hpl n _ hp']
            have hno : ¬ ((ρ x).cells.size ≠ sz ∨ off + (ρ x).cells.size > cells.size) := by
              simp only [hsz]; simp at hlc; omega
            simp only [Bool.or_eq_true, decide_eq_true_eq]
            rw [if_neg (by simpa using hno)]
            rw [← f1, hc2]
          · rw [f4]
            have := congrArg List.length hc3
            rw [spl_len _ _ _ (by simpa using hfit)] at this
            simpa using this
        · cases h
      · cases h
    · cases h

omit hu in
theorem places_ok {hT : TabOk P T} : ∀ (fl : List Field) (fs : List (Nat × TypeId)), fl.map (fun x => (x.offset, x.type)) = fs → fsOk T fs = true →
    ∃ places, fl.mapM (fun f => (P.info? f.type).map fun i => (f.offset, i.size)) = some places ∧ ∀ (n off : Nat) (t : TypeId) (ti : TyI), fs[n]? = some (off, t) → T t = some ti → places[n]? = some (off, ti.size)
  | [], fs, h, _ => by simp at h; subst h; exact ⟨[], by simp, by simp⟩
  | f :: fl, fs, h, hk => by
    simp only [List.map_cons] at h
    subst h
    simp only [fsOk] at hk
    split at hk
    · rename_i ti hti
      obtain ⟨pl, h1, h2⟩ := places_ok (hT := hT) fl _ rfl hk
      obtain ⟨g, z, g1, g2, _⟩ := (hT _ _ hti).info
      refine ⟨(f.offset, g.size) :: pl, by simp [List.mapM_cons, g1, h1], ?_⟩
      intro n off t ti' e1 e2
      cases n with
      | zero =>
        simp at e1; obtain ⟨rfl, rfl⟩ := e1
        rw [hti] at e2; cases e2
        simp [g2]
      | succ n => simpa using h2 n off t ti' (by simpa using e1) e2
    · cases hk

theorem build_ok {t n : Nat} {ps : Array (Nat × Operand)} {ρ : Operand → Value} {xs : List V} {v : V} {obl : List Bool} {out : List Blk} {new : Option Blk} (hT : TabOk P T) (hg : Good P own r hp w)
    (hx : VRelL r xs ((partsL ps.toList).map ρ)) (h : buildOut uI T t ps.toList xs = .val obl v out new) (ho : AllTrue obl) :
    ROk P own r w ((Instr.build t (ps.map fun x => (x.1, ρ x.2))).run P w) v (hwrites hp (zipW [] out ++ newW n new)) := by
  unfold buildOut at h
  split at h
  · rename_i i hi
    have ht := hT _ _ hi
    have hd := ht.d
    obtain ⟨f, z, g1, g2, g3, g4, g5⟩ := ht.info
    split at h
    · rename_i o l hf
      have hz1 : VRelL r (zeros i.zero) z.cells.toList := by rw [g5]; exact zeros_rel _
      have hz2 : OneCells z.cells.toList := by rw [g5]; exact ht.one
      split at h
      · rename_i fs hde
        rw [hde] at hd; simp only [DOk] at hd
        obtain ⟨fl, hfl, hfs⟩ := hd
        split at h
        · rename_i hok
          simp only [Out.val.injEq] at h; obtain ⟨rfl, rfl, rfl, rfl⟩ := h
          obtain ⟨places, p1, p2⟩ := places_ok (hT := hT) fl.toList fs hfs hok
          obtain ⟨cells', f1, f2, f3, _⟩ := fill_ok (r := r) (T := T) (i := i) (place := (places.toArray[·]?)) (ρ := ρ) hu (fun n q hq => by
            unfold placeOf at hq
            rw [hde] at hq
            simp only at hq
            split at hq
            · rename_i off ft e1
              split at hq
              · rename_i ti e2
                simp only [Option.some.injEq] at hq; subst hq
                simpa using p2 n off ft ti e1 e2
              · cases hq
            · cases hq) ps.toList xs _ _ _ _ z.cells hf ho hz1 hz2 hx
          have hb : P.built t (ps.map fun x => (x.1, ρ x.2)).toList = some cells' := by
            simp only [Program.built, g1, hfl, g4, p1]
            simpa using f1
          refine ROk.pure hg (run_build w t _ cells' hb) ?_ (fun _ => rfl)
          simp only [VRel]; exact ⟨_, rfl, f2, f3⟩
        · cases h
      · rename_i m e hde
        rw [hde] at hd; simp only [DOk] at hd
        split at h
        · rename_i ei v' he hv
          simp only [Out.val.injEq] at h; obtain ⟨rfl, rfl, rfl, rfl⟩ := h
          · obtain ⟨fe, ze, k1, k2, k3, k4, k5⟩ := (hT _ _ he).info
            obtain ⟨cells', f1, f2, f3, _⟩ := fill_ok (r := r) (T := T) (i := i) (place := fun n => some (n * fe.size, fe.size)) (ρ := ρ) hu (fun n q hq => by
              unfold placeOf at hq
              rw [hde] at hq
              simp only [he, Option.some.injEq] at hq; subst hq
              simp [k2]) ps.toList xs _ _ _ _ z.cells hf ho hz1 hz2 hx
            have hb : P.built t (ps.map fun x => (x.1, ρ x.2)).toList = some cells' := by
              simp only [Program.built, g1, hd, g4, k1]
              simpa using f1
            have := valOf_rel hv f2 f3
            rw [hde] at this
            simp only [isAggD, if_true] at this
            exact ROk.pure hg (run_build w t _ cells' hb) (by simpa using this) (fun _ => rfl)
        · cases h
      · cases h
    · cases h
  · cases h
end
end
end Sx
set_option linter.unusedVariables false
set_option linter.unusedSimpArgs false
namespace Sx
open Go
section
variable {P : Program} {T : Tab} {own : Own} {r : Rho} {hp : Hp} {w : World}

theorem repV_rel (len sz : Nat) (z : List Value) (hz : z.length = sz) : VRelL r (repV len (zeros z)) ((List.range (len * sz)).map (fun i => z.getD (i % sz) undef)) := by
  subst hz
  induction len with
  | zero => simp [repV, VRelL]
  | succ n ih =>
    simp only [repV]
    have e1 : (List.range ((n + 1) * z.length)).map (fun i => z.getD (i % z.length) undef) = z ++ (List.range (n * z.length)).map (fun i => z.getD (i % z.length) undef) := by
      rw [show (n + 1) * z.length = z.length + n * z.length by rw [Nat.succ_mul, Nat.add_comm], List.range_add, List.map_append]
      congr 1
      · apply List.ext_getElem?
        intro i
        by_cases h : i < z.length
        · simp [h, Nat.mod_eq_of_lt h, List.getD]
        · simp [h, Nat.le_of_not_lt h]
      · rw [List.map_map]
        apply List.map_congr_left
        intro i _
        simp
    rw [e1]
    exact VRelL.append (zeros_rel z) ih
theorem rep_one {len sz : Nat} {z : List Value} (h : ∀ v ∈ z, v.oneCell' = true) (hz : z.length = sz) : OneCells ((List.range (len * sz)).map (fun i => z.getD (i % sz) undef)) := by
  intro v hv
  obtain ⟨i, hi, rfl⟩ := List.mem_map.1 hv
  simp only [List.mem_range] at hi
  have hpos : 0 < sz := by
    rcases Nat.eq_zero_or_pos sz with h0 | h0
    · rw [h0] at hi; simp at hi
    · exact h0
  have := Nat.mod_lt i hpos
  simp only [List.getD, List.getElem?_eq_getElem (show i % sz < z.length by omega), Option.getD_some]
  exact h _ (List.getElem_mem _)
theorem made_toList {z : Array Value} {sz len : Nat} (hz : z.size = sz) : ((Array.range (len * sz)).map (z[· % z.size]!)).toList = (List.range (len * sz)).map (fun i => z.toList.getD (i % sz) undef) := by
  rw [hz]
  simp only [Array.toList_map, Array.toList_range]
  apply List.map_congr_left
  intro i hi
  simp only [List.mem_range] at hi
  have hpos : 0 < sz := by
    rcases Nat.eq_zero_or_pos sz with h0 | h0
    · rw [h0] at hi; simp at hi
    · exact h0
  have := Nat.mod_lt i hpos
  have hlt : i % sz < z.size := by omega
  simp [List.getD, hlt]

theorem every_all : ∀ l : List V, every 1 0 l = l
  | [] => rfl
  | x :: r => by simp only [every]; rw [show (1 - 1 : Nat) = 0 from rfl, every_all r]

/-- A row that is laid. -/
theorem row_new {g e m sz : Nat} {A : Array Value} {r : Rho} {w : World} {cs : List Col} {n : Nat} (hh : w.heap[g]? = some (.cells A e (0, 0))) (hc : ColsAt cs A.toList n) (hne : cs ≠ []) (hsz : 0 < sz) (hl : A.size = m * sz) (hm : m ≤ maxLen) :
    BRel P r w ⟨some ⟨g, 0, none⟩, m⟩ (.cols (.row sz) e cs) := by
  simp only [BRel]
  exact ⟨A.toList, n, m, hc, hne, hsz, by simpa using hl, by simpa using hl, .inr ⟨g, m, A, rfl, Nat.zero_le _, hh, Nat.le_refl _, hm, hl, List.take_of_length_le (by simp [hl])⟩⟩

theorem newBlk' {n : Nat} {vals : Array Value} {t cap : Nat} {b : Blk} (hg : Good P own r hp w) (hown : ∀ g, w.heap.size ≤ g → own g) (hn : hget hp n = .unborn) (hm : (b.mut && b.plain) = true)
    (hb : ∀ g w' r', w'.heap[g]? = some (.cells vals t (0, 0)) → r.le r' → BRel P r' w' ⟨some ⟨g, 0, none⟩, cap⟩ b) :
    ∃ r', r.le r' ∧ r' n = some ⟨some ⟨w.heap.size, 0, none⟩, cap⟩ ∧ Good P own r' (hsetX hp n b) (w.alloc (.cells vals t)) := by
  have hle : r.le (fun i => if i = n then some ⟨some ⟨w.heap.size, 0, none⟩, cap⟩ else r i) := fun i y hy => by
    by_cases e : i = n
    · subst e; rw [hg.born _ hn] at hy; cases hy
    · simp [e, hy]
  obtain ⟨h1, h2⟩ := hg.push (n := n) (x := ⟨some ⟨w.heap.size, 0, none⟩, cap⟩) (b := b) (w' := w.alloc (.cells vals t)) hn (mut_live (by simp only [Bool.and_eq_true] at hm; exact hm.1))
    (fun g h => heap_alloc_old w _ h) (by simp) (hb _ _ _ (heap_new w _) hle) hown
    (fun g hu => by
      rw [plain_iff (by simp only [Bool.and_eq_true] at hm; exact hm.2)] at hu
      obtain ⟨a, ha, rfl⟩ := hu
      cases ha; exact ⟨Nat.le_refl _, by simp⟩)
    (fun a ha => by cases ha; exact Nat.le_refl _)
  exact ⟨_, h1, by simp, h2⟩

section
variable {uI : FI → Int} {uB : FB → Bool} {uS : FS → ByteArray} {uL : FL → List Int} {uT : FT → TT} (hu : Std uI uB uS uL uT)
include hu

theorem buildSlice_ok {t n len : Nat} {ps : Array (Nat × Operand)} {ρ : Operand → Value} {xs : List V} {v : V} {obl : List Bool} {out : List Blk} {new : Option Blk} (hT : TabOk P T) (hg : Good P own r hp w)
    (hown : ∀ g, w.heap.size ≤ g → own g) (hn : new ≠ none → hget hp n = .unborn)
    (hx : VRelL r xs ((partsL ps.toList).map ρ)) (h : buildSliceOut uI T n t len ps.toList xs = .val obl v out new) (ho : AllTrue obl) :
    ROk P own r w ((Instr.buildSlice t len (ps.map fun x => (x.1, ρ x.2))).run P w) v (hwrites hp (zipW [] out ++ newW n new)) := by
  unfold buildSliceOut at h
  split at h
  · rename_i i hi
    have ht := hT _ _ hi
    have hd := ht.d
    split at h
    · rename_i e hde
      rw [hde] at hd; simp only [DOk] at hd
      split at h
      · rename_i ei hei
        have hte := hT _ _ hei
        obtain ⟨f, z, g1, g2, g3, g4, g5⟩ := hte.info
        split at h
        · rename_i o l hf hc
          simp only [Bool.and_eq_true] at hc
          have hc1 := Nat.le_of_ble_eq_true hc.1
          have hc2 : 0 < ei.size := by have := hc.2; simpa using this
          split at h
          · rename_i v' b hb
            simp only [Out.val.injEq] at h; obtain ⟨rfl, rfl, rfl, rfl⟩ := h
            have hzl : z.cells.size = ei.size := by rw [← hte.len, ← g5]; simp
            have hmt := made_toList (len := len) hzl
            rw [g5] at hmt
            obtain ⟨A, hA⟩ : ∃ A : Array Value, A = (Array.range (len * f.size)).map (z.cells[· % z.cells.size]!) := ⟨_, rfl⟩
            have hAl : A.toList = (List.range (len * ei.size)).map (fun i => i % ei.size |> fun j => ei.zero.getD j undef) := by rw [hA, g2]; exact hmt
            obtain ⟨cells', f1, f2, f3, f4, _⟩ := fill_ok (r := r) (T := T) (i := i) (place := fun n => some (n * f.size, f.size)) (ρ := ρ) hu (fun n q hq => by
              unfold placeOf at hq
              rw [hde] at hq
              simp only [hei, Option.some.injEq] at hq; subst hq
              simp [g2]) ps.toList xs _ _ _ _ A hf ho (by rw [hAl]; exact repV_rel len ei.size ei.zero hte.len) (by rw [hAl]; exact rep_one hte.one hte.len) hx
            have hAs : A.size = len * ei.size := by rw [hA, g2]; simp
            have hrun : (Instr.buildSlice t len (ps.map fun x => (x.1, ρ x.2))).run P w = .ok (.slice (some ⟨w.heap.size, 0, none⟩) len len) (w.alloc (.cells cells' e)) := by
              have hsm : ¬ 16777216 < len * f.size := by rw [g2]; omega
              by_cases h0 : len * f.size = 0
              · have hl0 : len = 0 := by
                  rcases Nat.mul_eq_zero.1 h0 with h0 | h0
                  · exact h0
                  · omega
                subst hl0
                rw [hA] at f1
                simp [Array.range_zero'] at f1
                simp [Instr.buildSlice, run_underlying hd, Go.sizeOf, typeInfo, g1, hsm, newRow, Array.range_zero', f1]
              · have hpos : ¬ len * f.size = 0 := h0
                refine run_buildSlice w t e len _ cells' f z hd g1 g4 (by simpa using hsm) hpos ?_
                rw [← hA]
                simpa using f1
            have hcs : cells'.size = len * ei.size := by rw [f4, hAs]
            have hml : len ≤ maxLen := by
              have := Nat.le_mul_of_pos_right len hc2
              simp only [maxLen]; omega
            have fin : ∀ (b : Blk) (v : V), (b.mut && b.plain) = true → (∀ g w' r', w'.heap[g]? = some (.cells cells' e (0, 0)) → r.le r' → BRel P r' w' ⟨some ⟨g, 0, none⟩, len⟩ b) →
                (∀ r' : Rho, r' n = some ⟨some ⟨w.heap.size, 0, none⟩, len⟩ → VRel r' v (.slice (some ⟨w.heap.size, 0, none⟩) len len)) →
                ROk P own r w ((Instr.buildSlice t len (ps.map fun x => (x.1, ρ x.2))).run P w) v (hsetX hp n b) := by
              intro b v hm hbr hvr
              obtain ⟨r', k1, k2, k3⟩ := newBlk' (cap := len) (t := e) (vals := cells') (b := b) hg hown (hn (by simp)) hm hbr
              exact ⟨_, _, r', hrun, k1, hvr r' k2, k3, keep_alloc own w _⟩
            have gen : ∀ (v : V) (b : Blk), v = .sl n (.lit 0) (.lit (len : Int)) → b = .cells e l → ROk P own r w ((Instr.buildSlice t len (ps.map fun x => (x.1, ρ x.2))).run P w) v (hsetX hp n b) := by
              rintro v b rfl rfl
              obtain ⟨r', k1, k2, k3⟩ := newBlk (t := e) (vals := cells') (b := .cells e l) hg hown (hn (by simp)) rfl (fun g w' r' hh hle => brel_cells hh (VRelL.mono hle f2) f3)
              refine ⟨_, _, r', hrun, k1, ?_, k3, keep_alloc own w _⟩
              simp only [VRel]
              exact ⟨_, len, len, _, k2, by simp, Nat.le_refl _, by simp, rfl, fun _ => ⟨_, rfl, by simp [Addr.add]⟩⟩
            unfold litBlk at hb
            split at hb
            · rename_i k hk1 hk2
              have hs1 := Nat.eq_of_beq_eq_true hk2
              split at hb
              · rename_i m hm
                simp only [Option.some.injEq, Prod.mk.injEq] at hb; obtain ⟨rfl, rfl⟩ := hb
                obtain ⟨q, hq⟩ := (toCols_rel (r := r) (ks := [.int k]) (l := l) (cs := [.ints k (.lits m)]) (vals := cells'.toList) (by
                  simp only [toCols, llen, Nat.zero_add, Nat.mod_one, toColsFrom, colOf]
                  rw [every_all, hm]) (by simp) f2).2
                refine fin _ _ rfl (fun g w' r' hh _ => row_new hh hq (by simp) (by omega) (by rw [hcs, hs1]) hml) (fun r' hr' => ?_)
                simp only [VRel]
                exact ⟨_, len, hr', by simp, Nat.le_refl _, fun _ => ⟨_, rfl⟩, rfl⟩
              · cases hb
            · rename_i hk1 hk2
              have hs1 := Nat.eq_of_beq_eq_true hk2
              split at hb
              · rename_i m hm
                simp only [Option.some.injEq, Prod.mk.injEq] at hb; obtain ⟨rfl, rfl⟩ := hb
                obtain ⟨q, hq⟩ := (toCols_rel (r := r) (ks := [.str]) (l := l) (cs := [.strs (.lits m)]) (vals := cells'.toList) (by
                  simp only [toCols, llen, Nat.zero_add, Nat.mod_one, toColsFrom, colOf]
                  rw [every_all, hm]) (by simp) f2).2
                refine fin _ _ rfl (fun g w' r' hh _ => row_new hh hq (by simp) (by omega) (by rw [hcs, hs1]) hml) (fun r' hr' => ?_)
                simp only [VRel]
                exact ⟨_, len, hr', by simp, Nat.le_refl _, fun _ => ⟨_, rfl⟩, rfl⟩
              · cases hb
            · split at hb
              · rename_i k hsh
                split at hb
                · rename_i m hm
                  simp only [Option.some.injEq, Prod.mk.injEq] at hb; obtain ⟨rfl, rfl⟩ := hb
                  obtain ⟨q, hq⟩ := (toCols_rel (r := r) (ks := [.int k]) (l := l) (cs := [.ints k (.lits m)]) (vals := cells'.toList) (by
                    simp only [toCols, llen, Nat.zero_add, Nat.mod_one, toColsFrom, colOf]
                    rw [every_all, hm]) (by simp) f2).2
                  refine fin _ _ rfl (fun g w' r' hh _ => row_new hh hq (by simp) hc2 hcs hml) (fun r' hr' => ?_)
                  simp only [VRel]
                  exact ⟨_, len, hr', by simp, Nat.le_refl _, fun _ => ⟨_, rfl⟩, rfl⟩
                · cases hb
              · simp only [Option.some.injEq, Prod.mk.injEq] at hb; obtain ⟨rfl, rfl⟩ := hb
                exact gen _ _ rfl rfl
            · simp only [Option.some.injEq, Prod.mk.injEq] at hb; obtain ⟨rfl, rfl⟩ := hb
              exact gen _ _ rfl rfl
          · cases h
        · cases h
      · cases h
    · cases h
  · cases h

omit hu in
theorem isZeros_ok {k : IntKind} : ∀ {l : List Value}, isZeros k l = true → l = List.replicate l.length (Value.int k 0)
  | [], _ => rfl
  | v :: r, h => by
    cases v <;> simp only [isZeros] at h <;> try (cases h; done)
    simp only [Bool.and_eq_true, decide_eq_true_eq] at h
    obtain ⟨rfl, rfl, h⟩ := h
    rw [List.length_cons, List.replicate_succ, ← isZeros_ok h]
theorem makeSlice_ok {t n : Nat} {y1 y2 v : V} {a b : Value} {obl : List Bool} {out : List Blk} {new : Option Blk} (hT : TabOk P T) (hg : Good P own r hp w)
    (hown : ∀ g, w.heap.size ≤ g → own g) (hn : new ≠ none → hget hp n = .unborn) (hx : VRel r y1 a) (hy : VRel r y2 b) (h : makeOut uI uB uL T n t y1 y2 = .val obl v out new) (ho : AllTrue obl) :
    ROk P own r w ((Instr.makeSlice t a b).run P w) v (hwrites hp (zipW [] out ++ newW n new)) := by
  unfold makeOut at h
  split at h
  · rename_i i k1 l k2 c hi
    have hd := (hT _ _ hi).d
    simp only [VRel] at hx hy; subst hx; subst hy
    split at h
    · rename_i e hde
      rw [hde] at hd; simp only [DOk] at hd
      split at h
      · rename_i ei hei
        have hte := hT _ _ hei
        obtain ⟨f, z, g1, g2, g3, g4, g5⟩ := hte.info
        split at h
        · rename_i k hk
          split at h
          · rename_i hc
            simp only [Bool.and_eq_true] at hc
            have hz := isZeros_ok hc.1
            have hsz : 0 < ei.size := by have := hc.2.1; simpa using this
            have hby := Nat.le_of_ble_eq_true hc.2.2
            obtain ⟨ho', rfl, rfl, rfl⟩ := outO_val h
            obtain ⟨o1, o2⟩ := oblOk_and ⟨_, ho', ho⟩
            obtain ⟨o2, o3⟩ := oblOk_and o2
            have o1 := nnO_ok hu o1
            have o2 := fewO_ok hu o2
            have o3 := eqOL_ok hu o3
            rw [← o3]
            obtain ⟨m, hm⟩ := Int.eq_ofNat_of_zero_le o1
            have hrun := run_make (P := P) w t e f z hd g1 g4 k1 k2 l.val l.val o1 (Int.le_refl _) (by
              rw [g3]
              have : (ei.bytes : Int) * l.val ≤ 64 * 1099511627776 := Int.mul_le_mul (by omega) o2 o1 (by omega)
              omega) (by omega)
            have hml : m ≤ maxLen := by simp only [maxLen]; omega
            rw [hm] at hrun ⊢
            simp only [Int.toNat_natCast] at hrun
            rw [g2] at hrun
            obtain ⟨A, hA⟩ : ∃ A, A = madeCells z.cells (m * ei.size) := ⟨_, rfl⟩
            rw [← hA] at hrun
            have hAt : A.toList = List.replicate (m * ei.size) (Value.int k 0) := by
              have hzl : z.cells.size = ei.size := by rw [← hte.len, ← g5]; simp
              have := made_toList (len := m) hzl
              rw [hA]; unfold madeCells; rw [this, g5]
              apply List.ext_getElem?
              intro j
              by_cases hj : j < m * ei.size
              · have h3 := Nat.mod_lt j hsz
                have h4 : ei.zero.length = ei.size := hte.len
                rw [List.getElem?_map, List.getElem?_range hj, List.getElem?_replicate, if_pos hj]
                simp only [Option.map_some, List.getD]
                rw [hz, List.getElem?_replicate, if_pos (by rw [h4]; exact h3)]
                rfl
              · rw [List.getElem?_eq_none (by simp; omega), List.getElem?_eq_none (by simp; omega)]
            have hAs : A.size = m * ei.size := by have := congrArg List.length hAt; simpa using this
            have hraw : (Lv.sym (uL (.rep (linV uI l ei.size (.lit 0)).val 0))).raw = List.replicate (m * ei.size) 0 := by
              simp only [Lv.raw, hu.l, iL, linV_val hu, hm, Iv.val_lit, Int.add_zero]
              congr 1
            have hcols : ColsAt [.ints k (.sym (uL (.rep (linV uI l ei.size (.lit 0)).val 0)))] A.toList (m * ei.size) := by
              have := colsAt_ints_mk k (.sym (uL (.rep (linV uI l ei.size (.lit 0)).val 0)))
              rw [hraw] at this
              rw [hAt]; simpa using this
            obtain ⟨r', q1, q2, q3⟩ := newBlk' (cap := m) (t := e) (vals := A) (b := .cols (.row ei.size) e [.ints k (.sym (uL (.rep (linV uI l ei.size (.lit 0)).val 0)))]) hg hown (hn (by simp)) rfl
              (fun g w' r' hh _ => row_new hh hcols (by simp) hsz hAs hml)
            refine ⟨_, _, r', hrun, q1, ?_, q3, keep_alloc own w _⟩
            simp only [VRel]
            exact ⟨_, m, q2, hm, Nat.le_refl _, fun _ => ⟨_, rfl⟩, rfl⟩
          · cases h
        · cases h
      · cases h
    · cases h
  · cases h
end
end
end Sx
set_option linter.unusedVariables false
set_option linter.unusedSimpArgs false
namespace Sx
open Go
section
variable {P : Program} {T : Tab} {own : Own} {r : Rho} {hp : Hp} {w : World}

/-- A block told in other words. -/
theorem Good.same {id : Nat} {b b' : Blk} (hg : Good P own r hp w) (hb : hget hp id = b) (hne : b ≠ .unborn) (hne' : b' ≠ .unborn) (hm : b'.mut = b.mut) (hl : b'.live = b.live)
    (hu : ∀ x g, b'.uses w x g ↔ b.uses w x g) (hB : ∀ x, r id = some x → BRel P r w x b → BRel P r w x b') : Good P own r (hsetX hp id b') w := by
  have S : ∀ i, (hget (hsetX hp id b') i).mut = (hget hp i).mut ∧ (hget (hsetX hp id b') i).live = (hget hp i).live ∧ ∀ x g, (hget (hsetX hp id b') i).uses w x g ↔ (hget hp i).uses w x g := by
    intro i
    rw [hget_hsetX]
    by_cases h : id = i
    · subst h; simp only [if_pos]; rw [hb]; exact ⟨hm, hl, hu⟩
    · simp [h]
  refine ⟨fun i hi => ?_, fun i hi => ?_, fun i x b hmm hx hbb => hg.own i x b (by rw [← (S i).1]; exact hmm) hx hbb, fun i j x y b g hij hmm hll hx hy hbb huu => ?_, fun i x g hll hx huu => ?_, fun i x g hll hx huu => ?_⟩
  · rw [hget_hsetX] at hi
    by_cases h : id = i
    · subst h; simp at hi; exact absurd hi hne'
    · simp [h] at hi; exact hg.born i hi
  · rw [hget_hsetX] at hi ⊢
    by_cases h : id = i
    · subst h
      obtain ⟨x, h1, h2⟩ := hg.rel id (by rw [hb]; exact hne)
      rw [hb] at h2
      exact ⟨x, h1, by simpa using hB x h1 h2⟩
    · simp only [h, if_false] at hi ⊢; exact hg.rel i hi
  · exact hg.apart i j x y b g hij (by rw [← (S i).1]; exact hmm) (by rw [← (S j).2.1]; exact hll) hx hy hbb (((S j).2.2 y g).1 huu)
  · exact hg.below i x g (by rw [← (S i).2.1]; exact hll) hx (((S i).2.2 x g).1 huu)
  · exact hg.seen i x g (by rw [← (S i).2.1]; exact hll) hx (((S i).2.2 x g).1 huu)

section
variable {uI : FI → Int} {uB : FB → Bool} {uS : FS → ByteArray} {uL : FL → List Int} {uT : FT → TT} (hu : Std uI uB uS uL uT)
include hu

theorem minV_val (a b : Iv) : (minV uI a b).val = if b.val < a.val then b.val else a.val := by
  unfold minV
  split
  · rfl
  · simp [hu.i, iI]

theorem copy_ok {t u ty e id : Nat} {ei : TyI} {k : IntKind} {y v : V} {a x : Value} {off n : Iv} {obl : List Bool} {out : List Blk} {new : Option Blk} (hT : TabOk P T) (hg : Good P own r hp w)
    (ht : P.underlying t = some (.slice e)) (he : TyOk P e ei) (hsz : ei.size = 1) (hsr : srcTy T u y = true) (hx : VRel r y x)
    (ha : ∃ (ra : RA) (m c : Nat) (A : Option Addr), r id = some ra ∧ n.val = m ∧ 0 ≤ off.val ∧ a = .slice A m c ∧ (0 < m → ∃ b, ra.a = some b ∧ A = some (b.add off.val.toNat))) (hd : dup (id :: idOf y) = false)
    (h : copyInts uI uB uL k off n y (hgets hp (id :: idOf y)) = .val obl v out new) (ho : AllTrue obl) :
    ROk P own r w ((Builtin.copy_ #[t, u] ty #[a, x]).run P w) v (hwrites hp (zipW (id :: idOf y) out ++ newW 0 new)) ∧ new = none := by
  obtain ⟨ra, m, c, A, hr, hm, hoff, rfl, hA⟩ := ha
  unfold copyInts at h
  split at h
  · cases h
  · rename_i md bt k' ws cb hmd hbs
    split at h
    · rename_i o ys hk hsl
      simp only [decide_eq_true_eq] at hk; subst hk
      obtain ⟨ho', rfl, rfl, rfl⟩ := outO_val h
      refine ⟨?_, rfl⟩
      obtain ⟨h1, h2⟩ := oblOk_and ⟨_, ho', ho⟩
      have h2 := cutO_ok hu h2
      rw [lv_len hu, linV_val hu, hm] at h2
      obtain ⟨id', hid⟩ : ∃ id', idOf y = [id'] := by
        cases y <;> simp [slInts] at hsl <;> exact ⟨_, rfl⟩
      rw [hid] at hbs hd ⊢
      simp only [hgets, List.cons.injEq, and_true] at hbs
      obtain ⟨hb1, hb2⟩ := hbs
      have hne : id' ≠ id := by
        have hd : (memN id [id'] || dup [id']) = false := hd
        rw [Bool.or_eq_false_iff] at hd
        intro e; subst e; simp [memN] at hd
      obtain ⟨A', m', c', rfl, rfl, hmc', hcells⟩ := slInts_cells hu hsl h1 hx hid hb2 hg
      have hmd' : md ≠ .ro := fun e => hmd e
      have hB : BRel P r w ra (.cols md bt [.ints k ws]) := brel_of hg hb1 (by simp) hr
      obtain ⟨vals, n', hc, hne0, hvar, hready⟩ := cols_ready hmd' hB
      have hvl := (colsAt_ints hc).1
      have hn' := (colsAt_ints hc).2
      obtain ⟨q, hq⟩ : ∃ q, q = Nat.min ys.raw.length m := ⟨_, rfl⟩
      have hmv : (minV uI n (ys.len uI)).val = q := by
        rw [minV_val hu, lv_len hu, hm, hq]
        simp only [Nat.min_def]
        by_cases hc : (ys.raw.length : Int) < m
        · rw [if_pos hc, if_pos (by omega)]
        · rw [if_neg hc]
          by_cases hc2 : ys.raw.length ≤ m
          · rw [if_pos hc2]; omega
          · rw [if_neg hc2]
      have hqm : q ≤ m := by rw [hq]; exact Nat.min_le_right _ _
      have hqy : q ≤ ys.raw.length := by rw [hq]; exact Nat.min_le_left _ _
      have hsub : (ys.sub uL (.lit 0) (minV uI n (ys.len uI))).raw = ys.raw.take q := by
        rw [lv_sub hu, hmv]; simp [subL]
      have hv : VRel r (.int .i64 (minV uI n (ys.len uI))) (goInt q) := by simp [VRel, hmv, goInt]
      obtain ⟨f, z, g1, g2, g3, g4, g5⟩ := he.info
      have hlw : off.val.toNat + q ≤ ws.raw.length := by omega
      have hsplr : (ws.spl uL off (ys.sub uL (.lit 0) (minV uI n (ys.len uI)))).raw = Sx.spl ws.raw off.val.toNat (ys.raw.take q) := by
        rw [lv_spl hu, hsub]; simp [splL, Sx.spl]
      obtain ⟨zs, hzs⟩ : ∃ zs, zs = ws.spl uL off (ys.sub uL (.lit 0) (minV uI n (ys.len uI))) := ⟨_, rfl⟩
      rw [← hzs] at hsplr ⊢
      have hfinH : ∀ i, hget (hwrites hp (zipW [id, id'] [.cols md bt [.ints k zs], cb] ++ newW 0 none)) i = hget (hsetX hp id (.cols md bt [.ints k zs])) i := by
        intro i
        simp only [zipW, newW, List.append_nil, hwrites, hget_hsetX]
        by_cases e2 : id' = i
        · subst e2; simp [Ne.symm hne, hb2]
        · simp [e2]
      by_cases h0 : q = 0
      · have hw : zs.raw = ws.raw := by rw [hsplr, h0]; simp [Sx.spl]
        have hrun : (Builtin.copy_ #[t, u] ty #[.slice A m c, .slice A' ys.raw.length c']).run P w = .ok (goInt 0) w :=
          run_copy_none w t u ty e A A' m c ys.raw.length c' ht (by rw [g1]; simp [g2, hsz]) (by rw [← hq, h0])
        refine ⟨_, w, r, hrun, Rho.le_refl r, by rw [h0] at hv; exact hv, Good.congr (Good.same (b' := .cols md bt [.ints k zs]) hg hb1 (by simp) (by simp) (by cases md <;> rfl) (by cases md <;> rfl) (fun _ _ => Iff.rfl) (fun x hx hB => ?_)) hfinH, Keep.refl own w⟩
        have hcc : ∀ vals n, ColsAt [.ints k ws] vals n → ColsAt [.ints k zs] vals n := by
          intro vals n hc
          obtain ⟨rfl, rfl⟩ := colsAt_ints hc
          have := colsAt_ints_mk k zs
          rwa [hw] at this
        cases md with
        | var =>
          simp only [BRel] at hB ⊢
          obtain ⟨g, vals, n, e1, e2, e3, e4, e5⟩ := hB
          exact ⟨g, vals, n, e1, e2, hcc _ _ e3, by simp, e5⟩
        | ro => exact absurd rfl hmd'
        | row s =>
          simp only [BRel] at hB ⊢
          obtain ⟨vals, n, m, e1, e2, e3⟩ := hB
          exact ⟨vals, n, m, hcc _ _ e1, by simp, e3⟩
      · have hq0 : 0 < q := by omega
        obtain ⟨b, hb, rfl⟩ := hA (by omega)
        obtain ⟨d, rfl, hdc⟩ := hcells (by omega)
        have hvne : vals ≠ [] := by
          rintro rfl
          have := congrArg List.length hvl
          simp at this; omega
        obtain ⟨g, cur, lbl, e1, e2, e3, e4⟩ := hready hvne
        rw [hb] at e1; cases e1
        have hvlen : vals.length = ws.raw.length := by rw [hvl]; simp
        have hfc : (Builtin.firstCells ei.size q (.slice (some d) ys.raw.length c')).run P w = .ok ((ys.raw.take q).map (Value.int k)).toArray w := by
          refine run_firstCells_some (P := P) w ei.size q d _ _ _ (by rw [hsz]; simp; omega) (fun j v hj => ?_)
          simp only [List.getElem?_map] at hj
          obtain ⟨z, hz, rfl⟩ := Option.map_eq_some_iff.1 hj
          rw [List.getElem?_take] at hz
          split at hz
          · exact hdc j z hz
          · cases hz
        obtain ⟨w', cur', f1, f2, f3⟩ := run_storeCells_at (P := P) g lbl off.val.toNat ((ys.raw.take q).map (Value.int k)) 0 cur w e2 (by simp; omega) (fun v hv => by
          obtain ⟨z, _, rfl⟩ := List.mem_map.1 hv; rfl)
        have hadd : (⟨g, 0, none⟩ : Addr).add off.val.toNat = ⟨g, off.val.toNat, none⟩ := by rw [add_mk, Nat.zero_add]
        have hrun : (Builtin.copy_ #[t, u] ty #[.slice (some ((⟨g, 0, none⟩ : Addr).add off.val.toNat)) m c, .slice (some d) ys.raw.length c']).run P w = .ok (goInt q) w' := by
          have f1' := f1
          rw [List.map_take] at f1'
          simp [Builtin.copy_, run_underlying ht, Builtin.lenOf, Go.sizeOf, typeInfo, g1, g2, ← hq, hfc, hadd, f1']
        have hmut : (hget hp id).mut = true := by rw [hb1]; cases md <;> first | rfl | exact absurd rfl hmd'
        have hmut' : (Blk.cols md bt [.ints k zs]).mut = true := by cases md <;> first | rfl | exact absurd rfl hmd'
        have hspv : Sx.spl vals off.val.toNat ((ys.raw.take q).map (Value.int k)) = zs.raw.map (Value.int k) := by
          rw [hsplr, hvl]
          simp [Sx.spl, List.map_take, List.map_drop]
        refine ⟨_, w', r, hrun, Rho.le_refl r, hv, Good.congr (hg.set (a := ⟨g, 0, none⟩) hmut hr hb hmut' (by first | rfl | (cases md <;> rfl)) (e4 w' cur' off.val.toNat ((ys.raw.take q).map (Value.int k)) [.ints k zs] f2.here (by simp; omega) f3 ?_ (by simp)) f2.far f2.size) hfinH, f2.keep (hg.own id ra _ hmut hr hb)⟩
        rw [hspv, hn']
        have := colsAt_ints_mk k zs
        have hzl : zs.raw.length = ws.raw.length := by rw [hsplr, spl_len _ _ _ (by simp; omega)]
        rwa [hzl] at this
    · cases h
  · cases h

theorem copyOut_ok {t u ty n : Nat} {xs : List V} {a x : Value} {obl : List Bool} {v : V} {out : List Blk} {new : Option Blk} (hT : TabOk P T) (hg : Good P own r hp w) {y1 y2 : V} (hxs : xs = [y1, y2])
    (hx1 : VRel r y1 a) (hx2 : VRel r y2 x) (hd : dup (idOf y1 ++ idOf y2) = false)
    (h : copyOut uI uB uL T t u xs (hgets hp (idOf y1 ++ idOf y2)) = .val obl v out new) (ho : AllTrue obl) :
    ROk P own r w ((Builtin.copy_ #[t, u] ty #[a, x]).run P w) v (hwrites hp (zipW (idOf y1 ++ idOf y2) out ++ newW n new)) := by
  subst hxs
  unfold copyOut at h
  split at h
  · rename_i i hi
    have hd1 := (hT _ _ hi).d
    split at h
    · rename_i e hde
      rw [hde] at hd1
      simp only [DOk] at hd1
      split at h
      · rename_i ei hei
        have he := hT _ _ hei
        split at h
        · rename_i k hk hc
          have hsz := Nat.eq_of_beq_eq_true hc
          split at h
          · rename_i id l y hl
            simp only [List.cons.injEq, and_true] at hl
            obtain ⟨rfl, rfl⟩ := hl
            split at h
            · rename_i hsr
              simp only [VRel] at hx1
              obtain ⟨ra, m, h1, h2, h3, h4, rfl⟩ := hx1
              obtain ⟨h5, rfl⟩ := copy_ok (ty := ty) (id := id) hu hT hg hd1 he hsz hsr hx2 ⟨ra, m, ra.cap, ra.a, h1, h2, by simp, rfl, fun h0 => by obtain ⟨b, hb⟩ := h4 h0; exact ⟨b, hb, by simp [hb, Addr.add]⟩⟩ hd h ho
              exact h5
            · cases h
          · rename_i id off l y hl
            simp only [List.cons.injEq, and_true] at hl
            obtain ⟨rfl, rfl⟩ := hl
            split at h
            · rename_i hsr
              simp only [VRel] at hx1
              obtain ⟨ra, m, c, A, h1, h2, h3, h4, rfl, h5⟩ := hx1
              obtain ⟨h5, rfl⟩ := copy_ok (ty := ty) (id := id) hu hT hg hd1 he hsz hsr hx2 ⟨ra, m, c, A, h1, h2, h4, rfl, h5⟩ hd h ho
              exact h5
            · cases h
          · cases h
        · cases h
      · cases h
    · cases h
  · cases h
end
end
end Sx
set_option linter.unusedVariables false
set_option linter.unusedSimpArgs false
namespace Sx
open Go
section
variable {P : Program} {T : Tab} {own : Own} {r : Rho} {hp : Hp} {w : World}

theorem hwrites_app (hp : Hp) (l m : List (Nat × Blk)) : hwrites hp (l ++ m) = hwrites (hwrites hp l) m := by
  induction l generalizing hp with
  | nil => rfl
  | cons x r ih => obtain ⟨i, b⟩ := x; simp only [List.cons_append, hwrites]; exact ih _
theorem hget_frz (hp0 : Hp) : ∀ (ids : List Nat) (hp : Hp) (i : Nat), hget (hwrites hp (zipW ids (frzL (hgets hp0 ids)))) i = if i ∈ ids then frz (hget hp0 i) else hget hp i
  | [], hp, i => by simp [hgets, frzL, zipW, hwrites]
  | id :: rest, hp, i => by
    simp only [hgets, frzL, zipW, hwrites]
    rw [hget_frz hp0 rest]
    by_cases h : i ∈ rest
    · simp [h]
    · rw [if_neg h, hget_hsetX]
      by_cases e : id = i
      · subst e; simp
      · simp [e, Ne.symm e, h]
theorem good_frz (hp0 : Hp) : ∀ (ids : List Nat) (hp : Hp), (∀ i ∈ ids, hget hp i = hget hp0 i ∨ hget hp i = frz (hget hp0 i)) → (∀ i ∈ ids, ∃ md t cs, hget hp0 i = .cols md t cs) → Good P own r hp w → Good P own r (hwrites hp (zipW ids (frzL (hgets hp0 ids)))) w
  | [], hp, _, _, hg => hg
  | id :: rest, hp, h, hc, hg => by
    simp only [hgets, frzL, zipW, hwrites]
    obtain ⟨md, t, cs, e⟩ := hc id (by simp)
    have hid : ∃ md', hget hp id = .cols md' t cs := by
      rcases h id (by simp) with h | h
      · exact ⟨md, h.trans e⟩
      · rw [e] at h; exact ⟨.ro, h⟩
    obtain ⟨md', e'⟩ := hid
    have hg' : Good P own r (hsetX hp id (frz (hget hp0 id))) w := by rw [e]; exact hg.freeze e'
    refine good_frz hp0 rest _ (fun i hi => ?_) (fun i hi => hc i (by simp [hi])) hg'
    rw [hget_hsetX]
    by_cases q : id = i
    · subst q; simp
    · rw [if_neg q]; exact h i (by simp [hi])
theorem eqNL_eq : ∀ {a b : List Nat}, eqNL a b = true → a = b
  | [], [], _ => rfl
  | x :: a, y :: b, h => by
    simp only [eqNL, Bool.and_eq_true] at h
    rw [Nat.eq_of_beq_eq_true h.1, eqNL_eq h.2]
  | [], _ :: _, h => by simp [eqNL] at h
  | _ :: _, [], h => by simp [eqNL] at h
/-- The block of a slice. -/
theorem sl_blk {v : V} {A : Option Addr} {n c id : Nat} (h : VRel r v (.slice A n c)) (hid : idOf v = [id]) : ∃ x, r id = some x ∧ ∀ d, A = some d → 0 < n → ∃ b, x.a = some b ∧ b.block = d.block := by
  cases v with
  | vec i m =>
    simp only [idOf, List.cons.injEq, and_true] at hid; subst hid
    simp only [VRel] at h
    obtain ⟨x, m', h1, _, _, _, h2⟩ := h
    injection h2 with h3 h4 h5
    exact ⟨x, h1, fun d hd _ => ⟨d, by rw [← h3]; exact hd, rfl⟩⟩
  | sl i o m =>
    simp only [idOf, List.cons.injEq, and_true] at hid; subst hid
    simp only [VRel] at h
    obtain ⟨x, m', c', A', h1, _, _, _, h2, h3⟩ := h
    injection h2 with h4 h5 h6
    subst h4; subst h5
    refine ⟨x, h1, fun d hd h0 => ?_⟩
    obtain ⟨b, hb, e⟩ := h3 h0
    rw [hd] at e; cases e
    exact ⟨b, hb, by rw [add_block]⟩
  | ptr i o => simp [VRel] at h
  | _ => simp [idOf] at hid

section
variable {uI : FI → Int} {uB : FB → Bool} {uS : FS → ByteArray} {uL : FL → List Int} {uT : FT → TT} (hu : Std uI uB uS uL uT)
include hu
omit hu in
theorem slInts_id {k : IntKind} {v : V} {b : Blk} {o : Obl} {ys : Lv} (h : slInts uI uB uL k v b = some (o, ys)) : (∃ id, idOf v = [id]) ∧ ∃ md t cs, b = .cols md t cs := by
  cases v <;> cases b <;> simp [slInts] at h <;> exact ⟨⟨_, rfl⟩, _, _, _, rfl⟩
theorem elsOf_ok {k : IntKind} : ∀ (l : List V) (vs : List Value) (o : Obl) (m : List (List Int)), elsOf uI uB uL k l (hgets hp (idsOf l)) = some (o, m) → OblOk o → VRelL r l vs → Good P own r hp w →
    m.length = l.length ∧ (∀ i ∈ idsOf l, ∃ md t cs, hget hp i = .cols md t cs) ∧ ∀ (q : Nat) v, vs[q]? = some v → ∃ A n c, v = .slice A n c ∧ n ≤ c ∧ (m.getD q []).length = n ∧ (0 < n → ∃ d, A = some d) ∧
      (∀ d i y, A = some d → (m.getD q [])[i]? = some y → w.cell? (d.add i) = some (.int k y)) ∧ (∀ d, A = some d → 0 < n → ∃ id x b, id ∈ idsOf l ∧ r id = some x ∧ x.a = some b ∧ b.block = d.block)
  | [], vs, o, m, h, ho, hv, hg => by
    simp only [idsOf, hgets, elsOf, Option.some.injEq, Prod.mk.injEq] at h
    obtain ⟨rfl, rfl⟩ := h
    have hl := hv.length
    have : vs = [] := List.eq_nil_of_length_eq_zero hl.symm
    subst this
    exact ⟨rfl, by simp [idsOf], fun q v hv => by simp at hv⟩
  | x :: l, vs, o, m, h, ho, hv, hg => by
    match vs, hv with
    | a :: vs, hv =>
      simp only [VRelL] at hv
      obtain ⟨hxa, hvs⟩ := hv
      by_cases hx : x = .nilsl
      · subst hx
        simp only [idsOf, idOf, List.nil_append, elsOf] at h ⊢
        split at h
        · rename_i o' l' he
          simp only [Option.some.injEq, Prod.mk.injEq] at h
          obtain ⟨rfl, rfl⟩ := h
          obtain ⟨h1, h2, h3⟩ := elsOf_ok l vs o' l' he ho hvs hg
          refine ⟨by simp [h1], h2, fun q v hq => ?_⟩
          match q, hq with
          | 0, hq =>
            simp only [List.getElem?_cons_zero, Option.some.injEq] at hq
            subst hq
            simp only [VRel] at hxa
            exact ⟨none, 0, 0, hxa, Nat.le_refl _, rfl, fun h => by omega, fun d i y hd => by (cases hd), fun d hd => by (cases hd)⟩
          | q + 1, hq =>
            rw [List.getElem?_cons_succ] at hq
            simpa using h3 q v hq
        · cases h
      · have key : ∃ id b o1 ys o2 l', idOf x = [id] ∧ hget hp id = b ∧ slInts uI uB uL k x b = some (o1, ys) ∧ elsOf uI uB uL k l (hgets hp (idsOf l)) = some (o2, l') ∧ o = andO o1 o2 ∧ m = ys.raw :: l' := by
          cases hc : hgets hp (idsOf (x :: l)) with
          | nil => rw [hc] at h; cases x <;> first | exact absurd rfl hx | simp [elsOf] at h
          | cons b bs =>
            rw [hc] at h
            have h' : (match slInts uI uB uL k x b, elsOf uI uB uL k l bs with
              | some (o, ys), some (o', l) => some (andO o o', ys.raw :: l)
              | _, _ => none) = some (o, m) := by
              cases x <;> first | exact absurd rfl hx | exact h
            split at h'
            · rename_i o1 ys o2 l' h1 h2
              simp only [Option.some.injEq, Prod.mk.injEq] at h'
              obtain ⟨rfl, rfl⟩ := h'
              obtain ⟨⟨id, hid⟩, _⟩ := slInts_id h1
              rw [idsOf, hid] at hc
              simp only [List.cons_append, List.nil_append, hgets, List.cons.injEq] at hc
              obtain ⟨rfl, rfl⟩ := hc
              exact ⟨id, _, o1, ys, o2, l', hid, rfl, h1, h2, rfl, rfl⟩
            · cases h'
        obtain ⟨id, b, o1, ys, o2, l', hid, hb, h1, h2, rfl, rfl⟩ := key
        obtain ⟨ho1, ho2⟩ := oblOk_and ho
        obtain ⟨i1, i2, i3⟩ := elsOf_ok l vs o2 l' h2 ho2 hvs hg
        obtain ⟨A, n, c, rfl, hn, hnc, hcells⟩ := slInts_cells hu h1 ho1 hxa hid hb hg
        obtain ⟨_, md, t, cs, hbc⟩ := slInts_id h1
        obtain ⟨y, hy1, hy2⟩ := sl_blk hxa hid
        refine ⟨by simp [i1], fun i hi => ?_, fun q v hq => ?_⟩
        · rw [idsOf, hid] at hi
          simp only [List.cons_append, List.nil_append, List.mem_cons] at hi
          rcases hi with rfl | hi
          · exact ⟨md, t, cs, hb.trans hbc⟩
          · exact i2 i hi
        · match q, hq with
          | 0, hq =>
            simp only [List.getElem?_cons_zero, Option.some.injEq] at hq
            subst hq
            refine ⟨A, n, c, rfl, hnc, by simpa using hn.symm, fun h0 => ?_, fun d i z hd hz => ?_, fun d hd h0 => ?_⟩
            · obtain ⟨d, hd, _⟩ := hcells h0; exact ⟨d, hd⟩
            · have hz' : ys.raw[i]? = some z := by simpa using hz
              have h0 : 0 < n := by
                rw [hn]
                have := (List.getElem?_eq_some_iff.1 hz').1
                omega
              obtain ⟨d', hd', hc'⟩ := hcells h0
              rw [hd] at hd'; cases hd'
              exact hc' i z hz'
            · obtain ⟨b', hb1, hb2⟩ := hy2 d hd h0
              exact ⟨id, y, b', by rw [idsOf, hid]; simp, hy1, hb1, hb2⟩
          | q + 1, hq =>
            rw [List.getElem?_cons_succ] at hq
            obtain ⟨A, n, c, e1, e2, e3, e4, e5, e6⟩ := i3 q v hq
            refine ⟨A, n, c, e1, e2, by simpa using e3, e4, fun d i z hd hz => e5 d i z hd (by simpa using hz), fun d hd h0 => ?_⟩
            obtain ⟨id', x', b', f1, f2⟩ := e6 d hd h0
            exact ⟨id', x', b', by rw [idsOf]; exact List.mem_append_right _ f1, f2⟩

theorem buildRow_ok {t n len e : Nat} {i ei : TyI} {k : IntKind} {ps : Array (Nat × Operand)} {ρ : Operand → Value} {xs : List V} {v : V} {obl : List Bool} {out : List Blk} {new : Option Blk} (hT : TabOk P T) (hg : Good P own r hp w)
    (hown : ∀ g, w.heap.size ≤ g → own g) (hn : new ≠ none → hget hp n = .unborn) (hi : T t = some i) (hde : i.d = .slice e) (hei : T e = some ei)
    (hx : VRelL r xs ((partsL ps.toList).map ρ)) (h : buildRowOut uI uB uL T n i e ei k len ps.toList xs (hgets hp (idsOf xs)) = .val obl v out new) (ho : AllTrue obl) :
    ROk P own r w ((Instr.buildSlice t len (ps.map fun x => (x.1, ρ x.2))).run P w) v (hwrites hp (zipW (idsOf xs) out ++ newW n new)) := by
  have ht := hT _ _ hi
  have hd := ht.d
  rw [hde] at hd; simp only [DOk] at hd
  have hte := hT _ _ hei
  obtain ⟨f, z, g1, g2, g3, g4, g5⟩ := hte.info
  unfold buildRowOut at h
  split at h
  · rename_i o1 l hf hc
    simp only [Bool.and_eq_true] at hc
    have hc1 := Nat.le_of_ble_eq_true hc.1
    have hs1 := Nat.eq_of_beq_eq_true hc.2
    have hc2 : 0 < ei.size := by omega
    split at h
    · rename_i o2 m hels hq
      have hids := eqNL_eq hq
      obtain ⟨ho', rfl, rfl, rfl⟩ := outO_val h
      obtain ⟨k1, k2⟩ := oblOk_and ⟨_, ho', ho⟩
      obtain ⟨o1', e1, k1⟩ := k1
      simp only [Option.some.injEq] at e1; subst e1
      have hzl : z.cells.size = ei.size := by rw [← hte.len, ← g5]; simp
      have hmt := made_toList (len := len) hzl
      rw [g5] at hmt
      obtain ⟨A, hA⟩ : ∃ A : Array Value, A = (Array.range (len * f.size)).map (z.cells[· % z.cells.size]!) := ⟨_, rfl⟩
      have hAl : A.toList = (List.range (len * ei.size)).map (fun i => i % ei.size |> fun j => ei.zero.getD j undef) := by rw [hA, g2]; exact hmt
      obtain ⟨cells', f1, f2, f3, f4, _⟩ := fill_ok (r := r) (T := T) (i := i) (place := fun n => some (n * f.size, f.size)) (ρ := ρ) hu (fun n q hq => by
        unfold placeOf at hq
        rw [hde] at hq
        simp only [hei, Option.some.injEq] at hq; subst hq
        simp [g2]) ps.toList xs _ _ _ _ A hf k1 (by rw [hAl]; exact repV_rel len ei.size ei.zero hte.len) (by rw [hAl]; exact rep_one hte.one hte.len) hx
      have hAs : A.size = len * ei.size := by rw [hA, g2]; simp
      have hrun : (Instr.buildSlice t len (ps.map fun x => (x.1, ρ x.2))).run P w = .ok (.slice (some ⟨w.heap.size, 0, none⟩) len len) (w.alloc (.cells cells' e)) := by
        have hsm : ¬ 16777216 < len * f.size := by rw [g2]; omega
        by_cases h0 : len * f.size = 0
        · have hl0 : len = 0 := by
            rcases Nat.mul_eq_zero.1 h0 with h0 | h0
            · exact h0
            · omega
          subst hl0
          rw [hA] at f1
          simp [Array.range_zero'] at f1
          simp [Instr.buildSlice, run_underlying hd, Go.sizeOf, typeInfo, g1, hsm, newRow, Array.range_zero', f1]
        · have hpos : ¬ len * f.size = 0 := h0
          refine run_buildSlice w t e len _ cells' f z hd g1 g4 (by simpa using hsm) hpos ?_
          rw [← hA]
          simpa using f1
      have hcs : cells'.size = len := by rw [f4, hAs, hs1, Nat.mul_one]
      have hml : len ≤ maxLen := by simp only [maxLen]; rw [hs1] at hc1; omega
      rw [← hids] at hels ⊢
      obtain ⟨j1, j2, j3⟩ := elsOf_ok hu l cells'.toList o2 m hels k2 f2 hg
      have hml' : m.length = len := by rw [j1, f2.length]; simpa using hcs
      have hg1 := good_frz (P := P) (own := own) (r := r) (w := w) hp (idsOf l) hp (fun i _ => .inl rfl) j2 hg
      obtain ⟨hp1, ehp⟩ : ∃ hp1, hp1 = hwrites hp (zipW (idsOf l) (frzL (hgets hp (idsOf l)))) := ⟨_, rfl⟩
      rw [← ehp] at hg1
      have hget1 : ∀ i, hget hp1 i = if i ∈ idsOf l then frz (hget hp i) else hget hp i := fun i => by rw [ehp]; exact hget_frz hp _ hp i
      have hun := hn (by simp)
      have hn1 : hget hp1 n = .unborn := by
        rw [hget1]
        split
        · rename_i hm
          obtain ⟨md, t', cs, e⟩ := j2 n hm
          rw [hun] at e; cases e
        · exact hun
      have hel : ElsOk w k m cells'.toList := ⟨by rw [hml']; simpa using hcs, fun q v hq => by
        obtain ⟨A, n, c, e1, e2, e3, e4, e5, _⟩ := j3 q v hq
        exact ⟨A, n, c, e1, e2, e3, e4, e5⟩⟩
      have hLL : LeansAll r hp1 w cells'.toList := fun q A n c hq h0 => by
        obtain ⟨A', n', c', e1, e2, e3, e4, e5, e6⟩ := j3 q _ hq
        injection e1 with e7 e8 e9
        subst e7; subst e8
        obtain ⟨id, x, b, s1, s2, s3, s4⟩ := e6 A rfl h0
        obtain ⟨md, t', cs, e⟩ := j2 id s1
        have hid : hget hp1 id = .cols .ro t' cs := by rw [hget1, if_pos s1, e]; rfl
        refine ⟨id, x, by rw [hid]; rfl, s2, ?_, fun hm => ?_⟩
        · rw [hid]; exact ⟨b, s3, s4⟩
        · rw [hid] at hm; simp [Blk.mut] at hm
      obtain ⟨b1, b2⟩ := srow_mk (P := P) (r' := fun i => if i = n then some ⟨some ⟨w.heap.size, 0, none⟩, len⟩ else r i) (x' := ⟨some ⟨w.heap.size, 0, none⟩, len⟩) (e := e) hel hLL (w' := w.alloc (.cells cells' e))
        (by
          rw [hml']
          exact ⟨by simpa using hcs, .inr ⟨w.heap.size, len, cells', rfl, Nat.zero_le _, heap_new w _, Nat.le_refl _, hml, by simpa using hcs, List.take_of_length_le (by simp [hcs])⟩⟩)
        (fun g hL => ⟨heap_alloc_old w _ (hL.below hg1), fun b hb e1 => by
          cases hb
          have := hL.below hg1
          simp only at e1; omega⟩)
      obtain ⟨c1, c2⟩ := hg1.pushS (n := n) (x := ⟨some ⟨w.heap.size, 0, none⟩, len⟩) (b := .srow e k m) (w' := w.alloc (.cells cells' e)) hn1 rfl (fun g hgl => heap_alloc_old w _ hgl) (by simp) b1 hown
        (fun g hgu => (b2 g hgu).imp (fun ⟨a', ha', hb'⟩ => by cases ha'; subst hb'; exact ⟨Nat.le_refl _, by simp⟩) id) (fun b hb => by cases hb; exact Nat.le_refl _)
      refine ⟨_, _, _, hrun, c1, ?_, ?_, keep_alloc own w _⟩
      · simp only [VRel]
        exact ⟨⟨some ⟨w.heap.size, 0, none⟩, len⟩, len, by simp, by simp, Nat.le_refl _, fun _ => ⟨_, rfl⟩, rfl⟩
      · rw [hwrites_app, ← ehp]; exact c2
    · cases h
  · cases h
theorem buildOutS_ok {t n len : Nat} {ps : Array (Nat × Operand)} {ρ : Operand → Value} {xs : List V} {v : V} {obl : List Bool} {out : List Blk} {new : Option Blk} (hT : TabOk P T) (hg : Good P own r hp w)
    (hown : ∀ g, w.heap.size ≤ g → own g) (hn : new ≠ none → hget hp n = .unborn)
    (hx : VRelL r xs ((partsL ps.toList).map ρ)) (h : buildOutS uI uB uL T n t len ps.toList xs (hgets hp (foot (.buildSlice t len ps) xs)) = .val obl v out new) (ho : AllTrue obl) :
    ROk P own r w ((Instr.buildSlice t len (ps.map fun x => (x.1, ρ x.2))).run P w) v (hwrites hp (zipW (foot (.buildSlice t len ps) xs) out ++ newW n new)) := by
  have hf : foot (.buildSlice t len ps) xs = idsOf xs := rfl
  rw [hf] at h ⊢
  have plain : buildSliceOut uI T n t len ps.toList xs = .val obl v out new → hgets hp (idsOf xs) = [] → ROk P own r w ((Instr.buildSlice t len (ps.map fun x => (x.1, ρ x.2))).run P w) v (hwrites hp (zipW (idsOf xs) out ++ newW n new)) := fun h hb => by
    have hnil : idsOf xs = [] := by
      cases hq : idsOf xs with
      | nil => rfl
      | cons a b => rw [hq] at hb; simp [hgets] at hb
    rw [hnil]
    have := buildSlice_ok hu hT hg hown hn hx h ho
    simpa [zipW] using this
  unfold buildOutS at h
  split at h
  · rename_i i hi
    split at h
    · rename_i e hde
      split at h
      · rename_i ei hei
        split at h
        · split at h
          · split at h
            · exact buildRow_ok hu hT hg hown hn hi hde hei hx h ho
            · cases h
          · cases h
        · split at h
          · rename_i hb; exact plain h hb
          · cases h
      · cases h
    · cases h
  · cases h
end
end
end Sx
set_option linter.unusedVariables false
set_option linter.unusedSimpArgs false
namespace Sx
open Go
section
variable {P : Program} {T : Tab} {own : Own} {r : Rho} {hp : Hp} {w : World}

/-- What an operation owes. -/
def NOk (P : Program) (own : Own) (r : Rho) (w : World) (res : Result Next) (v : V) (hp' : Hp) : Prop :=
  ∃ nx w' r', res = .ok nx w' ∧ r.le r' ∧ Good P own r' hp' w' ∧ Keep own w w' ∧ ((∃ v', nx = .value v' ∧ VRel r' v v') ∨ (nx = .skip ∧ v = .undef))

theorem NOk.of {s : Sem Value} {v : V} {hp' : Hp} (h : ROk P own r w (s.run P w) v hp') : NOk P own r w ((do let x ← s; pure (.value x) : Sem Next).run P w) v hp' := by
  obtain ⟨v', w', r', h1, h2, h3, h4, h5⟩ := h
  exact ⟨.value v', w', r', by simp [h1], h2, h4, h5, .inl ⟨v', rfl, h3⟩⟩
theorem NOk.ofS {s : Sem Unit} {hp' : Hp} (h : SOk P own r w (s.run P w) hp') : NOk P own r w ((do s; pure .skip : Sem Next).run P w) .undef hp' := by
  obtain ⟨w', h1, h4, h5⟩ := h
  exact ⟨.skip, w', r, by simp [h1], Rho.le_refl r, h4, h5, .inr ⟨rfl, rfl⟩⟩
theorem NOk.plain {nx : Next} {v : V} {v' : Value} {hp' : Hp} {res : Result Next} (hg : Good P own r hp w) (he : ∀ i, hget hp' i = hget hp i) (h : res = .ok (.value v') w) (hv : VRel r v v') : NOk P own r w res v hp' :=
  ⟨.value v', w, r, h, Rho.le_refl r, hg.congr he, Keep.refl own w, .inl ⟨v', rfl, hv⟩⟩

theorem zipW_nil (l : List Nat) : zipW l [] = [] := by cases l <;> rfl
theorem relL1 {xs : List V} {a : Value} (h : VRelL r xs [a]) : ∃ u, xs = [u] ∧ VRel r u a := by
  match xs, h with
  | [u], h => simp only [VRelL] at h; exact ⟨u, rfl, h.1⟩
  | [], h => simp [VRelL] at h
  | _ :: _ :: _, h => simp [VRelL] at h
theorem relL2 {xs : List V} {a b : Value} (h : VRelL r xs [a, b]) : ∃ u v, xs = [u, v] ∧ VRel r u a ∧ VRel r v b := by
  match xs, h with
  | [u, v], h => simp only [VRelL] at h; exact ⟨u, v, rfl, h.1, h.2.1⟩
  | [], h => simp [VRelL] at h
  | [_], h => simp [VRelL] at h
  | _ :: _ :: _ :: _, h => simp [VRelL] at h
theorem relL3 {xs : List V} {a b c : Value} (h : VRelL r xs [a, b, c]) : ∃ u v z, xs = [u, v, z] ∧ VRel r u a ∧ VRel r v b ∧ VRel r z c := by
  match xs, h with
  | [u, v, z], h => simp only [VRelL] at h; exact ⟨u, v, z, rfl, h.1, h.2.1, h.2.2.1⟩
  | [], h => simp [VRelL] at h
  | [_], h => simp [VRelL] at h
  | [_, _], h => simp [VRelL] at h
  | _ :: _ :: _ :: _ :: _, h => simp [VRelL] at h

section
variable {uI : FI → Int} {uB : FB → Bool} {uS : FS → ByteArray} {uL : FL → List Int} {uT : FT → TT} (hu : Std uI uB uS uL uT)
include hu

omit hu in
theorem max_run {ts : Array TypeId} {ty : TypeId} {k k' : IntKind} {a b : Int} : (Builtin.max_ ts ty #[.int k a, .int k' b]).run P w = .ok (.int k (if b > a then b else a)) w := by
  simp [Builtin.max_, Builtin.max2]
omit hu in
theorem min_run {ts : Array TypeId} {ty : TypeId} {k k' : IntKind} {a b : Int} : (Builtin.min_ ts ty #[.int k a, .int k' b]).run P w = .ok (.int k (if b < a then b else a)) w := by
  simp [Builtin.min_, Builtin.min2]
omit hu in
theorem relL2' {u v : V} {l : List Value} (h : VRelL r [u, v] l) : ∃ a b, l = [a, b] ∧ VRel r u a ∧ VRel r v b := by
  match l, h with
  | [a, b], h => simp only [VRelL] at h; exact ⟨a, b, rfl, h.1, h.2.1⟩
  | [], h => simp [VRelL] at h
  | [_], h => simp [VRelL] at h
  | _ :: _ :: _ :: _, h => simp [VRelL] at h

theorem call_ok {c : Call} {ty : TypeId} {ρ : Operand → Value} {n : Nat} {xs : List V} {ids : List Nat} {obl : List Bool} {v : V} {out : List Blk} {new : Option Blk}
    (hT : TabOk P T) (hg : Good P own r hp w) (hown : ∀ g, w.heap.size ≤ g → own g) (hn : new ≠ none → hget hp n = .unborn)
    (hx : VRelL r xs ((operandsL (.call c)).map ρ)) (hids : ids = foot (.call c) xs) (hd : dup ids = false) (h : callOut uI uB uL uT T n c xs (hgets hp ids) = .val obl v out new) (ho : AllTrue obl) :
    NOk P own r w ((do let d ← resolve ρ c ty; invoke d.target d.args : Sem Next).run P w) v (hwrites hp (zipW ids out ++ newW n new)) := by
  subst hids
  unfold callOut at h
  split at h
  · split at h
    · split at h <;> cases h
    · cases h
  · rename_i b hb
    have hargs : VRelL r xs (c.args.toList.map ρ) := by simpa [operandsL, calleeL, hb] using hx
    obtain ⟨cc, hrun⟩ : ∃ cc, ((do let d ← resolve ρ c ty; invoke d.target d.args : Sem Next)).run P w = (builtin b c.argTypes ty cc (c.args.map ρ)).run P w := by
      refine ⟨c.args.map (fun x => match x with | .const _ => true | _ => false), ?_⟩
      simp only [resolve, hb, invoke, Sem.run_bind, Sem.run_pure, Result.andThen_ok]
      rfl
    rw [hrun]
    have hca : ∀ l, c.args.toList.map ρ = l → c.args.map ρ = l.toArray := fun l e => Array.ext' (by rw [Array.toList_map, e])
    split at h
    · -- len
      rename_i t ts hts
      split at h
      · rename_i x rest
        split at h
        · rename_i m hm
          simp only [Out.val.injEq] at h; obtain ⟨rfl, rfl, rfl, rfl⟩ := h
          have hts0 : c.argTypes[0]? = some t := by rw [← Array.getElem?_toList, hts]; rfl
          obtain ⟨a, as, ha⟩ : ∃ a as, c.args.toList.map ρ = a :: as := by
            cases hq : c.args.toList.map ρ with
            | nil => rw [hq] at hargs; simp [VRelL] at hargs
            | cons a as => exact ⟨a, as, rfl⟩
          rw [ha] at hargs
          simp only [VRelL] at hargs
          rw [hca _ ha]
          have hl := lenV_ok (P := P) (w := w) (ty := ty) (as := as) hu hT hts0 hargs.1 hm
          refine NOk.plain (nx := .skip) (v' := .int .i64 m.val) hg (fun _ => by rw [zipW_nil]; rfl) ?_ (by simp [VRel])
          simp only [builtin, Sem.run_bind, hl, Result.andThen_ok, Sem.run_pure]
        · cases h
      · cases h
    · rename_i t u hts
      have hct : c.argTypes = #[t, u] := by apply Array.ext'; rw [hts]
      have hxx : ∃ y1 y2, xs = [y1, y2] := by
        unfold appOut at h
        split at h
        · split at h
          · split at h
            · split at h
              · unfold appInts at h
                split at h
                · exact ⟨_, _, rfl⟩
                · exact ⟨_, _, rfl⟩
                · cases h
              · split at h
                · unfold appArrs at h
                  split at h
                  · exact ⟨_, _, rfl⟩
                  · exact ⟨_, _, rfl⟩
                  · cases h
                · cases h
              · split at h
                · split at h
                  · unfold appSrow at h
                    split at h
                    · exact ⟨_, _, rfl⟩
                    · exact ⟨_, _, rfl⟩
                    · cases h
                  · cases h
                · cases h
              · cases h
            · cases h
          · cases h
        · cases h
      obtain ⟨y1, y2, rfl⟩ := hxx
      have hf : foot (.call c) [y1, y2] = idOf y1 ++ idOf y2 := by simp [foot, hb]
      rw [hf] at hd h ⊢
      obtain ⟨a, x, ha⟩ : ∃ a x, c.args.toList.map ρ = [a, x] := by
        have := hargs.length
        match hq : c.args.toList.map ρ with
        | [a, x] => exact ⟨a, x, rfl⟩
        | [] => rw [hq] at this; simp at this
        | [_] => rw [hq] at this; simp at this
        | _ :: _ :: _ :: _ => rw [hq] at this; simp at this
      rw [ha] at hargs
      simp only [VRelL] at hargs
      rw [hca _ ha, hct]
      exact NOk.of (appOut_ok hu hT hg hown hn hargs.1 hargs.2.1 hd h ho)
    · rename_i t u hts
      have hct : c.argTypes = #[t, u] := by apply Array.ext'; rw [hts]
      have hxx : ∃ y1 y2, xs = [y1, y2] := by
        unfold copyOut at h
        split at h
        · split at h
          · split at h
            · split at h
              · split at h
                · exact ⟨_, _, rfl⟩
                · exact ⟨_, _, rfl⟩
                · cases h
              · cases h
            · cases h
          · cases h
        · cases h
      obtain ⟨y1, y2, rfl⟩ := hxx
      have hf : foot (.call c) [y1, y2] = idOf y1 ++ idOf y2 := by simp [foot, hb]
      rw [hf] at hd h ⊢
      obtain ⟨a, x, ha⟩ : ∃ a x, c.args.toList.map ρ = [a, x] := by
        have := hargs.length
        match hq : c.args.toList.map ρ with
        | [a, x] => exact ⟨a, x, rfl⟩
        | [] => rw [hq] at this; simp at this
        | [_] => rw [hq] at this; simp at this
        | _ :: _ :: _ :: _ => rw [hq] at this; simp at this
      rw [ha] at hargs
      simp only [VRelL] at hargs
      rw [hca _ ha, hct]
      exact NOk.of (copyOut_ok hu hT hg rfl hargs.1 hargs.2.1 hd h ho)
    · split at h
      · rename_i k a k' b
        simp only [Out.val.injEq] at h; obtain ⟨rfl, rfl, rfl, rfl⟩ := h
        obtain ⟨x, y, ha, h1, h2⟩ := relL2' hargs
        rw [hca _ ha]
        simp only [VRel] at h1 h2; subst h1; subst h2
        exact NOk.plain (nx := .skip) (v' := .int k (if b > a then b else a)) hg (fun _ => by rw [zipW_nil]; rfl) (by simp only [builtin, Sem.run_bind, max_run, Result.andThen_ok, Sem.run_pure, Iv.val_lit]) (by simp [VRel])
      · rename_i k a k' b _
        simp only [Out.val.injEq] at h; obtain ⟨rfl, rfl, rfl, rfl⟩ := h
        obtain ⟨x, y, ha, h1, h2⟩ := relL2' hargs
        rw [hca _ ha]
        simp only [VRel] at h1 h2; subst h1; subst h2
        exact NOk.plain (nx := .skip) (v' := .int k (if b.val > a.val then b.val else a.val)) hg (fun _ => by rw [zipW_nil]; rfl) (by simp only [builtin, Sem.run_bind, max_run, Result.andThen_ok, Sem.run_pure]) (by simp [VRel, hu.i, iI])
      · cases h
    · split at h
      · rename_i k a k' b
        simp only [Out.val.injEq] at h; obtain ⟨rfl, rfl, rfl, rfl⟩ := h
        obtain ⟨x, y, ha, h1, h2⟩ := relL2' hargs
        rw [hca _ ha]
        simp only [VRel] at h1 h2; subst h1; subst h2
        exact NOk.plain (nx := .skip) (v' := .int k (if b < a then b else a)) hg (fun _ => by rw [zipW_nil]; rfl) (by simp only [builtin, Sem.run_bind, min_run, Result.andThen_ok, Sem.run_pure, Iv.val_lit]) (by simp [VRel])
      · rename_i k a k' b _
        simp only [Out.val.injEq] at h; obtain ⟨rfl, rfl, rfl, rfl⟩ := h
        obtain ⟨x, y, ha, h1, h2⟩ := relL2' hargs
        rw [hca _ ha]
        simp only [VRel] at h1 h2; subst h1; subst h2
        exact NOk.plain (nx := .skip) (v' := .int k (if b.val < a.val then b.val else a.val)) hg (fun _ => by rw [zipW_nil]; rfl) (by simp only [builtin, Sem.run_bind, min_run, Result.andThen_ok, Sem.run_pure]) (by simp [VRel, hu.i, iI])
      · cases h
    · cases h
  · cases h

theorem op_ok {o : Oper} {ρ : Operand → Value} {n : Nat} {xs : List V} {ids : List Nat} {obl : List Bool} {v : V} {out : List Blk} {new : Option Blk}
    (hT : TabOk P T) (hg : Good P own r hp w) (hown : ∀ g, w.heap.size ≤ g → own g) (hn : new ≠ none → hget hp n = .unborn)
    (hx : VRelL r xs ((operandsL o.op).map ρ)) (hids : ids = foot o.op xs) (hd : dup ids = false) (h : vact uI uB uS uL uT T n o.op xs (hgets hp ids) = .val obl v out new) (ho : AllTrue obl) :
    NOk P own r w ((execOp ρ o).run P w) v (hwrites hp (zipW ids out ++ newW n new)) := by
  subst hids
  unfold execOp
  unfold vact at h
  split at h <;> (try rename_i hop) <;> (try simp only [hop, operandsL, List.map_cons, List.map_nil] at hx ⊢) <;> (try simp only [hop] at hd h)
  · -- move
    obtain ⟨u, rfl, h1⟩ := relL1 hx
    simp only [actMove, Out.val.injEq] at h; obtain ⟨rfl, rfl, rfl, rfl⟩ := h
    exact NOk.plain (nx := .skip) hg (fun _ => rfl) rfl h1
  · obtain ⟨u, rfl, h1⟩ := relL1 hx
    simp only [actMove, Out.val.injEq] at h; obtain ⟨rfl, rfl, rfl, rfl⟩ := h
    exact NOk.plain (nx := .skip) hg (fun _ => rfl) rfl h1
  · obtain ⟨u, v1, v2, rfl, h1, h2, h3⟩ := relL3 hx
    unfold actPick at h
    split at h
    · rename_i a b hl
      simp only [List.cons.injEq, and_true] at hl
      obtain ⟨rfl, rfl, rfl⟩ := hl
      simp only [Out.val.injEq] at h; obtain ⟨rfl, rfl, rfl, rfl⟩ := h
      simp only [VRel] at h1
      exact NOk.plain (nx := .skip) hg (fun _ => rfl) (by simp [h1, asBool]) h2
    · rename_i a b hl
      simp only [List.cons.injEq, and_true] at hl
      obtain ⟨rfl, rfl, rfl⟩ := hl
      simp only [Out.val.injEq] at h; obtain ⟨rfl, rfl, rfl, rfl⟩ := h
      simp only [VRel] at h1
      exact NOk.plain (nx := .skip) hg (fun _ => rfl) (by simp [h1, asBool]) h3
    · cases h
  · exact NOk.of (alloc_ok hT hg hown hn h)
  · obtain ⟨u, rfl, h1⟩ := relL1 hx
    exact NOk.of (box_ok hu hT hg hown hn h1 h ho)
  · exact NOk.of (build_ok hu hT hg hx h ho)
  · exact NOk.of (buildOutS_ok hu hT hg hown hn hx h ho)
  · obtain ⟨u, rfl, h1⟩ := relL1 hx
    unfold actLoad at h
    split at h
    · rename_i id of b hl hb
      simp only [List.cons.injEq, and_true] at hl; subst hl
      simp only [foot, idOf, hgets, List.cons.injEq, and_true] at hb; subst hb
      exact NOk.of (load_ok hu hT hg hn h1 h ho).rok
    · cases h
  · obtain ⟨u, v1, rfl, h1, h2⟩ := relL2 hx
    unfold actStore at h
    split at h
    · rename_i id of v2 b hl hb
      simp only [List.cons.injEq, and_true] at hl; obtain ⟨rfl, rfl⟩ := hl
      simp only [foot, idOf, hgets, List.cons.injEq, and_true] at hb; subst hb
      obtain ⟨rfl, rfl, h3⟩ := store_ok hu hT hg h1 h2 h ho
      have h4 := NOk.ofS h3
      simpa [newW, foot, idOf] using h4
    · cases h
  · obtain ⟨u, rfl, h1⟩ := relL1 hx
    unfold actNil at h
    split at h
    · rename_i id of hl
      simp only [List.cons.injEq, and_true] at hl; subst hl
      simp only [Out.val.injEq] at h; obtain ⟨rfl, rfl, rfl, rfl⟩ := h
      have h1' := h1
      simp only [VRel] at h1
      obtain ⟨_, _, _, _, _, h2⟩ := h1
      refine NOk.plain (nx := .skip) hg (fun _ => rfl) ?_ h1'
      simp [h2]
    · cases h
  · rename_i bop t x y q
    obtain ⟨u, v1, rfl, h1, h2⟩ := relL2 hx
    exact NOk.of (binOut_ok hu hT hg (fun hc => by simpa using hc) h1 h2 h ho)
  · obtain ⟨u, rfl, h1⟩ := relL1 hx
    exact NOk.of (unOut_ok hu hg h1 h)
  · obtain ⟨u, rfl, h1⟩ := relL1 hx
    exact NOk.of (conv_ok hu hT hg hown hn h1 rfl h ho)
  · obtain ⟨u, rfl, h1⟩ := relL1 hx
    exact NOk.of (arrPtr_ok hu hT hg h1 h ho)
  · obtain ⟨u, rfl, h1⟩ := relL1 hx
    exact NOk.of (iface_ok hT hg h1 h)
  · obtain ⟨u, v1, rfl, h1, h2⟩ := relL2 hx
    exact NOk.of (makeSlice_ok hu hT hg hown hn h1 h2 h ho)
  · rename_i t x lo hi
    cases lo <;> cases hi <;> simp only [operandsL, optL, List.nil_append, List.cons_append, List.map_cons, List.map_nil] at hx
    · obtain ⟨u, rfl, h1⟩ := relL1 hx
      have := slice_ok (n := n) (lo := []) (hi := []) (blo := []) (bhi := []) hu hT hg h1 (by simp [VRelL]) (by simp [VRelL]) h ho
      exact NOk.of this
    · obtain ⟨u, v1, rfl, h1, h2⟩ := relL2 hx
      have := slice_ok (n := n) (lo := []) (hi := [v1]) (blo := []) (bhi := [_]) hu hT hg h1 (by simp [VRelL]) (by simp only [VRelL]; exact ⟨h2, trivial⟩) h ho
      exact NOk.of this
    · obtain ⟨u, v1, rfl, h1, h2⟩ := relL2 hx
      have := slice_ok (n := n) (lo := [v1]) (hi := []) (blo := [_]) (bhi := []) hu hT hg h1 (by simp only [VRelL]; exact ⟨h2, trivial⟩) (by simp [VRelL]) h ho
      exact NOk.of this
    · obtain ⟨u, v1, v2, rfl, h1, h2, h3⟩ := relL3 hx
      have := slice_ok (n := n) (lo := [v1]) (hi := [v2]) (blo := [_]) (bhi := [_]) hu hT hg h1 (by simp only [VRelL]; exact ⟨h2, trivial⟩) (by simp only [VRelL]; exact ⟨h3, trivial⟩) h ho
      exact NOk.of this
  · obtain ⟨u, rfl, h1⟩ := relL1 hx
    exact NOk.of (fieldAddr_ok hT hg h1 h)
  · obtain ⟨u, rfl, h1⟩ := relL1 hx
    exact NOk.of (field_ok hT hg h1 h)
  · obtain ⟨u, v1, rfl, h1, h2⟩ := relL2 hx
    exact NOk.of (indexAddr_ok hu hT hg h1 h2 h ho)
  · obtain ⟨u, v1, rfl, h1, h2⟩ := relL2 hx
    exact NOk.of (index_ok hu hT hg h1 h2 h ho)
  · obtain ⟨u, rfl, h1⟩ := relL1 hx
    exact NOk.of (extract_ok hg h1 h)
  · rename_i c
    exact call_ok hu hT hg hown hn hx rfl hd h ho
  · cases h
end
end
end Sx
set_option linter.unusedVariables false
set_option linter.unusedSimpArgs false
namespace Sx
open Go

/-! ## A call: what is handed in -/
def Src.id : Src → Nat
  | .own id => id
  | .view id _ => id
def isRo : Blk → Bool
  | .cols .ro _ _ => true
  | _ => false

section
variable {P : Program} {own : Own} {r : Rho} {hp hp' : Hp} {w : World}

/-- What is known of the names handed in. -/
structure PrepOk (P : Program) (r : Rho) (hp' : Hp) (w : World) (p : Prep) (r0 : Rho) : Prop where
  len : p.blks.length = p.src.length
  own : ∀ (i id : Nat), p.src[i]? = some (.own id) → ∃ x, r0 i = some x ∧ r id = some x
  view : ∀ (i id : Nat) (off : Iv), p.src[i]? = some (.view id off) → ∃ x y b, r0 i = some x ∧ r id = some y ∧ p.blks[i]? = some b ∧ isRo b = true ∧ BRel P r w x b ∧ (hget hp' id).live = true ∧
    0 ≤ off.val ∧ (∀ a, x.a = some a → ∃ d, y.a = some d ∧ a = d.add off.val.toNat) ∧ (∃ md t cs, hget hp' id = .cols md t cs)
  nope : ∀ (i : Nat), p.src[i]? = none → r0 i = none
  inj : ∀ (i j id : Nat), p.src[i]? = some (.own id) → p.src[j]? = some (.own id) → i = j

/-- How it grows. -/
structure Grow (p p' : Prep) (r0 r0' : Rho) : Prop where
  le : r0.le r0'
  src : ∃ l, p'.src = p.src ++ l
  blks : ∃ l, p'.blks = p.blks ++ l
  obl : OblOk p'.obl → OblOk p.obl
theorem Grow.refl (p : Prep) (r0 : Rho) : Grow p p r0 r0 := ⟨Rho.le_refl _, ⟨[], by simp⟩, ⟨[], by simp⟩, id⟩
theorem Grow.trans {p q s : Prep} {a b c : Rho} (h : Grow p q a b) (k : Grow q s b c) : Grow p s a c := by
  obtain ⟨l, hl⟩ := h.src
  obtain ⟨m, hm⟩ := k.src
  obtain ⟨l', hl'⟩ := h.blks
  obtain ⟨m', hm'⟩ := k.blks
  exact ⟨Rho.le_trans h.le k.le, ⟨l ++ m, by rw [hm, hl]; simp⟩, ⟨l' ++ m', by rw [hm', hl']; simp⟩, fun q => h.obl (k.obl q)⟩

theorem srcIdx_some {n : Nat} : ∀ {l : List Src} {k i : Nat}, srcIdx n l k = some i → ∃ j, i = k + j ∧ l[j]? = some (.own n)
  | [], _, _, h => by simp [srcIdx] at h
  | s :: l, k, i, h => by
    simp only [srcIdx] at h
    split at h
    · rename_i hs
      simp only [Option.some.injEq] at h; subst h
      refine ⟨0, rfl, ?_⟩
      cases s with
      | own id => simp only [Src.is] at hs; simp [Nat.eq_of_beq_eq_true hs]
      | view => simp [Src.is] at hs
    · obtain ⟨j, h1, h2⟩ := srcIdx_some h
      exact ⟨j + 1, by omega, by simpa using h2⟩
theorem srcIdx_none {n : Nat} : ∀ {l : List Src} {k : Nat}, srcIdx n l k = none → ∀ j : Nat, l[j]? ≠ some (.own n)
  | [], _, h, j => by simp
  | s :: l, k, h, j => by
    simp only [srcIdx] at h
    split at h
    · cases h
    · rename_i hs
      cases j with
      | zero =>
        simp only [List.getElem?_cons_zero, ne_eq, Option.some.injEq]
        rintro rfl
        simp [Src.is] at hs
      | succ j => simpa using srcIdx_none h j

/-- A block taken. -/
theorem take_ok {p p' : Prep} {r0 : Rho} {id i : Nat} {x : RA} (hp0 : PrepOk P r hp' w p r0) (hx : r id = some x) (h : takeOwn p id = (p', i)) :
    ∃ r0', PrepOk P r hp' w p' r0' ∧ Grow p p' r0 r0' ∧ r0' i = some x ∧ p'.obl = p.obl := by
  unfold takeOwn at h
  split at h
  · rename_i j hj
    simp only [Prod.mk.injEq] at h; obtain ⟨rfl, rfl⟩ := h
    obtain ⟨k, h1, h2⟩ := srcIdx_some hj
    rw [Nat.zero_add] at h1; subst h1
    obtain ⟨y, h3, h4⟩ := hp0.own _ _ h2
    rw [hx] at h4; cases h4
    exact ⟨r0, hp0, Grow.refl _ _, h3, rfl⟩
  · rename_i hj
    simp only [Prod.mk.injEq, llen_eq] at h; obtain ⟨rfl, rfl⟩ := h
    have hno := srcIdx_none hj
    have hn : r0 p.src.length = none := hp0.nope _ (List.getElem?_eq_none (Nat.le_refl _))
    have hlt : ∀ {i : Nat} {s : Src}, (p.src ++ [Src.own id])[i]? = some s → (i < p.src.length ∧ p.src[i]? = some s) ∨ (i = p.src.length ∧ s = .own id) := by
      intro i s hi
      by_cases hl : i < p.src.length
      · rw [List.getElem?_append_left hl] at hi; exact .inl ⟨hl, hi⟩
      · rw [List.getElem?_append_right (by omega)] at hi
        have : i - p.src.length = 0 := by
          rcases Nat.eq_zero_or_pos (i - p.src.length) with h0 | h0
          · exact h0
          · rw [List.getElem?_eq_none (by simp; omega)] at hi; cases hi
        rw [this] at hi; simp at hi
        exact .inr ⟨by omega, hi.symm⟩
    refine ⟨fun i => if i = p.src.length then some x else r0 i, ⟨by simp [hp0.len], ?_, ?_, ?_, ?_⟩, ⟨?_, ⟨_, rfl⟩, ⟨_, rfl⟩, fun q => q⟩, by simp, rfl⟩
    · intro i k hi
      rcases hlt hi with ⟨h1, h2⟩ | ⟨rfl, h2⟩
      · obtain ⟨y, h3, h4⟩ := hp0.own _ _ h2
        exact ⟨y, by simp [show i ≠ p.src.length by omega, h3], h4⟩
      · cases h2; exact ⟨x, by simp, hx⟩
    · intro i k off hi
      rcases hlt hi with ⟨h1, h2⟩ | ⟨rfl, h2⟩
      · obtain ⟨y, z, b, h3, h4, h5, h6⟩ := hp0.view _ _ _ h2
        refine ⟨y, z, b, by simp [show i ≠ p.src.length by omega, h3], h4, ?_, h6⟩
        show (p.blks ++ [Blk.dead])[i]? = some b
        rw [List.getElem?_append_left (by rw [hp0.len]; exact h1)]; exact h5
      · cases h2
    · intro i hi
      have : p.src.length + 1 ≤ i := by simpa using List.getElem?_eq_none_iff.1 hi
      simp only [show i ≠ p.src.length by omega, if_false]
      exact hp0.nope i (List.getElem?_eq_none (by omega))
    · intro i j k hi hj'
      rcases hlt hi with ⟨h1, h2⟩ | ⟨rfl, h2⟩ <;> rcases hlt hj' with ⟨h3, h4⟩ | ⟨rfl, h4⟩
      · exact hp0.inj i j k h2 h4
      · cases h4; exact absurd h2 (hno i)
      · cases h2; exact absurd h4 (hno j)
      · rfl
    · intro i y hi
      by_cases e : i = p.src.length
      · subst e; rw [hn] at hi; cases hi
      · simp [e, hi]

section
variable {uI : FI → Int} {uB : FB → Bool} {uS : FS → ByteArray} {uL : FL → List Int} {uT : FT → TT} (hu : Std uI uB uS uL uT)
include hu

/-- A value that leads to a slice of a block. -/
def IsSl (r : Rho) (v : Value) (id : Nat) (off n : Iv) : Prop := VRel r (.sl id off n) v
omit hu in
theorem vec_sl {id : Nat} {n : Iv} {v : Value} (h : VRel r (.vec id n) v) : VRel r (.sl id (.lit 0) n) v := by
  simp only [VRel] at h ⊢
  obtain ⟨x, m, h1, h2, h3, h4, h5⟩ := h
  refine ⟨x, m, x.cap, x.a, h1, h2, h3, by simp, h5, fun h0 => ?_⟩
  obtain ⟨b, hb⟩ := h4 h0
  exact ⟨b, hb, by simp [Addr.add, hb]⟩

omit hu in
theorem sl_own {p p' : Prep} {r0 : Rho} {id i : Nat} {off n : Iv} {v : Value} (hp0 : PrepOk P r hp' w p r0) (hv : VRel r (.sl id off n) v) (h : takeOwn p id = (p', i)) :
    ∃ r0', PrepOk P r hp' w p' r0' ∧ Grow p p' r0 r0' ∧ VRel r0' (.sl i off n) v := by
  simp only [VRel] at hv
  obtain ⟨x, m, c, A, h1, h2⟩ := hv
  obtain ⟨r0', g1, g2, g3, g4⟩ := take_ok hp0 h1 h
  exact ⟨r0', g1, g2, by simp only [VRel]; exact ⟨x, m, c, A, g3, h2⟩⟩

theorem view_ok {p p' : Prep} {r0 : Rho} {id : Nat} {off n : Iv} {x x' : V} {v : Value} (hg : Good P own r hp' w) (hp0 : PrepOk P r hp' w p r0) (hv : VRel r (.sl id off n) v) (hx : (x = .vec id n ∧ off = .lit 0) ∨ x = .sl id off n)
    (hxv : VRel r x v) (h : takeView uI uB uL hp p id off n x = (p', x')) (ho : OblOk p'.obl) (hag : ∀ s ∈ p'.src, hget hp' s.id = hget hp s.id) :
    ∃ r0', PrepOk P r hp' w p' r0' ∧ Grow p p' r0 r0' ∧ VRel r0' x' v := by
  have bad : ¬ OblOk (none : Obl) := by rintro ⟨l, h, _⟩; cases h
  unfold takeView at h
  split at h
  · cases hq : takeOwn p id with
    | mk q i =>
      rw [hq] at h
      rcases hx with ⟨rfl, _⟩ | rfl
      · simp only [Prod.mk.injEq] at h; obtain ⟨rfl, rfl⟩ := h
        simp only [VRel] at hxv
        obtain ⟨y, m, h1, h2⟩ := hxv
        obtain ⟨r0', g1, g2, g3, g4⟩ := take_ok hp0 h1 hq
        exact ⟨r0', g1, g2, by simp only [VRel]; exact ⟨y, m, g3, h2⟩⟩
      · simp only [Prod.mk.injEq] at h; obtain ⟨rfl, rfl⟩ := h; exact sl_own hp0 hv hq
  · rename_i md t k xs _ hb
    split at h
    · rename_i o ys hsl
      simp only [Prod.mk.injEq] at h; obtain ⟨rfl, rfl⟩ := h
      have hb' : hget hp' id = .cols md t [.ints k xs] := by
        rw [← hb]; exact hag (.view id off) (by simp)
      obtain ⟨ho1, ho2⟩ := oblOk_and ho
      have hid : idOf x = [id] := by rcases hx with ⟨rfl, _⟩ | rfl <;> rfl
      obtain ⟨A, m, c, rfl, h1, h2, h3⟩ := slInts_cells hu hsl ho2 hxv hid hb' hg
      simp only [VRel] at hv
      obtain ⟨y, m', c', A', h4, h5, h6, h7, h8, h9⟩ := hv
      injection h8 with e1 e2 e3
      subst e1; subst e2; subst e3
      have hn : r0 p.src.length = none := hp0.nope _ (List.getElem?_eq_none (Nat.le_refl _))
      have hlt : ∀ {i : Nat} {s : Src}, (p.src ++ [Src.view id off])[i]? = some s → (i < p.src.length ∧ p.src[i]? = some s) ∨ (i = p.src.length ∧ s = .view id off) := by
        intro i s hi
        by_cases hl : i < p.src.length
        · rw [List.getElem?_append_left hl] at hi; exact .inl ⟨hl, hi⟩
        · rw [List.getElem?_append_right (by omega)] at hi
          have : i - p.src.length = 0 := by
            rcases Nat.eq_zero_or_pos (i - p.src.length) with h0 | h0
            · exact h0
            · rw [List.getElem?_eq_none (by simp; omega)] at hi; cases hi
          rw [this] at hi; simp at hi
          exact .inr ⟨by omega, hi.symm⟩
      obtain ⟨X, hX⟩ : ∃ X : RA, X = ⟨if 0 < m then A else none, c⟩ := ⟨_, rfl⟩
      refine ⟨fun i => if i = p.src.length then some X else r0 i, ⟨by simp [hp0.len], ?_, ?_, ?_, ?_⟩, ⟨?_, ⟨_, rfl⟩, ⟨_, rfl⟩, fun q => (oblOk_and q).1⟩, ?_⟩
      · intro i q hi
        rcases hlt hi with ⟨k1, k2⟩ | ⟨rfl, k2⟩
        · obtain ⟨z, k3, k4⟩ := hp0.own _ _ k2
          exact ⟨z, by simp [show i ≠ p.src.length by omega, k3], k4⟩
        · cases k2
      · intro i q off' hi
        rcases hlt hi with ⟨k1, k2⟩ | ⟨rfl, k2⟩
        · obtain ⟨z, z', b, k3, k4, k5, k6⟩ := hp0.view _ _ _ k2
          refine ⟨z, z', b, by simp [show i ≠ p.src.length by omega, k3], k4, ?_, k6⟩
          show (p.blks ++ [_])[i]? = some b
          rw [List.getElem?_append_left (by rw [hp0.len]; exact k1)]; exact k5
        · cases k2
          refine ⟨X, y, .cols .ro t [.ints k ys], by simp, h4, ?_, rfl, ?_, by rw [hb']; rfl, h7, ?_, ⟨_, _, _, hb'⟩⟩
          · show (p.blks ++ [_])[p.src.length]? = _
            rw [← hp0.len]; simp
          · simp only [BRel]
            refine ⟨_, _, colsAt_ints_mk k ys, by simp, ?_, ?_⟩
            · intro hne
              have h0 : 0 < m := by
                rw [h1]
                rcases Nat.eq_zero_or_pos ys.raw.length with h0 | h0
                · rw [List.eq_nil_of_length_eq_zero h0] at hne; simp at hne
                · exact h0
              obtain ⟨d, hd, _⟩ := h3 h0
              exact ⟨d, by rw [hX]; simp [h0, hd]⟩
            · intro b j z hb0 hz
              rw [hX] at hb0
              by_cases h0 : 0 < m
              · obtain ⟨d, hd, h10⟩ := h3 h0
                simp only [h0, if_true, hd, Option.some.injEq] at hb0; subst hb0
                simp only [List.getElem?_map] at hz
                obtain ⟨y', hy', rfl⟩ := Option.map_eq_some_iff.1 hz
                exact h10 j y' hy'
              · simp [h0] at hb0
          · intro a ha
            rw [hX] at ha
            by_cases h0 : 0 < m
            · obtain ⟨b, hb1, hb2⟩ := h9 h0
              simp only [h0, if_true, hb2, Option.some.injEq] at ha; subst ha
              exact ⟨b, hb1, rfl⟩
            · simp [h0] at ha
      · intro i hi
        have : p.src.length + 1 ≤ i := by simpa using List.getElem?_eq_none_iff.1 hi
        simp only [show i ≠ p.src.length by omega, if_false]
        exact hp0.nope i (List.getElem?_eq_none (by omega))
      · intro i j q hi hj'
        rcases hlt hi with ⟨k1, k2⟩ | ⟨rfl, k2⟩ <;> rcases hlt hj' with ⟨k3, k4⟩ | ⟨rfl, k4⟩
        · exact hp0.inj i j q k2 k4
        · cases k4
        · cases k2
        · cases k2
      · intro i z hi
        by_cases e : i = p.src.length
        · subst e; rw [hn] at hi; cases hi
        · simp [e, hi]
      · simp only [VRel, llen_eq, Iv.val_lit, Int.toNat_zero]
        refine ⟨X, m, c, A, by simp, h5, h6, Int.le_refl _, rfl, fun h0 => ?_⟩
        obtain ⟨d, hd, _⟩ := h3 h0
        exact ⟨d, by rw [hX]; simp [h0, hd], by rw [hd]; simp [Addr.add]⟩
    · simp only [Prod.mk.injEq] at h; obtain ⟨rfl, rfl⟩ := h
      exact absurd ho bad
  · cases hq : takeOwn p id with
    | mk q i => rw [hq] at h; simp only [Prod.mk.injEq] at h; obtain ⟨rfl, rfl⟩ := h; exact sl_own hp0 hv hq
  · cases hq : takeOwn p id with
    | mk q i => rw [hq] at h; simp only [Prod.mk.injEq] at h; obtain ⟨rfl, rfl⟩ := h; exact sl_own hp0 hv hq
  · cases hq : takeOwn p id with
    | mk q i => rw [hq] at h; simp only [Prod.mk.injEq] at h; obtain ⟨rfl, rfl⟩ := h; exact sl_own hp0 hv hq
  · cases hq : takeOwn p id with
    | mk q i =>
      rw [hq] at h
      rcases hx with ⟨rfl, _⟩ | rfl
      · simp only [Prod.mk.injEq] at h; obtain ⟨rfl, rfl⟩ := h
        simp only [VRel] at hxv
        obtain ⟨y, m, h1, h2⟩ := hxv
        obtain ⟨r0', g1, g2, g3, g4⟩ := take_ok hp0 h1 hq
        exact ⟨r0', g1, g2, by simp only [VRel]; exact ⟨y, m, g3, h2⟩⟩
      · simp only [Prod.mk.injEq] at h; obtain ⟨rfl, rfl⟩ := h; exact sl_own hp0 hv hq
  · cases hq : takeOwn p id with
    | mk q i => rw [hq] at h; simp only [Prod.mk.injEq] at h; obtain ⟨rfl, rfl⟩ := h; exact sl_own hp0 hv hq
  · cases hq : takeOwn p id with
    | mk q i =>
      rw [hq] at h
      rcases hx with ⟨rfl, _⟩ | rfl
      · simp only [Prod.mk.injEq] at h; obtain ⟨rfl, rfl⟩ := h
        simp only [VRel] at hxv
        obtain ⟨y, m, h1, h2⟩ := hxv
        obtain ⟨r0', g1, g2, g3, g4⟩ := take_ok hp0 h1 hq
        exact ⟨r0', g1, g2, by simp only [VRel]; exact ⟨y, m, g3, h2⟩⟩
      · simp only [Prod.mk.injEq] at h; obtain ⟨rfl, rfl⟩ := h; exact sl_own hp0 hv hq
  · simp only [Prod.mk.injEq] at h; obtain ⟨rfl, rfl⟩ := h
    exact absurd ho bad

omit hu in
theorem ptr_own {p p' : Prep} {r0 : Rho} {id i : Nat} {o : Off} {v : Value} (hp0 : PrepOk P r hp' w p r0) (hv : VRel r (.ptr id o) v) (h : takeOwn p id = (p', i)) :
    ∃ r0', PrepOk P r hp' w p' r0' ∧ Grow p p' r0 r0' ∧ VRel r0' (.ptr i o) v := by
  simp only [VRel] at hv
  obtain ⟨x, b, h1, h2⟩ := hv
  obtain ⟨r0', g1, g2, g3, g4⟩ := take_ok hp0 h1 h
  exact ⟨r0', g1, g2, by simp only [VRel]; exact ⟨x, b, g3, h2⟩⟩
omit hu in
theorem vec_own {p p' : Prep} {r0 : Rho} {id i : Nat} {n : Iv} {v : Value} (hp0 : PrepOk P r hp' w p r0) (hv : VRel r (.vec id n) v) (h : takeOwn p id = (p', i)) :
    ∃ r0', PrepOk P r hp' w p' r0' ∧ Grow p p' r0 r0' ∧ VRel r0' (.vec i n) v := by
  simp only [VRel] at hv
  obtain ⟨x, b, h1, h2⟩ := hv
  obtain ⟨r0', g1, g2, g3, g4⟩ := take_ok hp0 h1 h
  exact ⟨r0', g1, g2, by simp only [VRel]; exact ⟨x, b, g3, h2⟩⟩
omit hu in
theorem Grow.mem {p p' : Prep} {r0 r0' : Rho} (h : Grow p p' r0 r0') {s : Src} (hs : s ∈ p.src) : s ∈ p'.src := by
  obtain ⟨l, hl⟩ := h.src
  rw [hl]; simp [hs]

omit hu in
theorem take_grow {p p' : Prep} {id i : Nat} (h : takeOwn p id = (p', i)) : (∃ l, p'.src = p.src ++ l) ∧ p'.obl = p.obl := by
  unfold takeOwn at h
  split at h <;> simp only [Prod.mk.injEq] at h <;> obtain ⟨rfl, rfl⟩ := h
  · exact ⟨⟨[], by simp⟩, rfl⟩
  · exact ⟨⟨_, rfl⟩, rfl⟩
omit hu in
theorem view_grow {p p' : Prep} {id : Nat} {off n : Iv} {x x' : V} (h : takeView uI uB uL hp p id off n x = (p', x')) : (∃ l, p'.src = p.src ++ l) ∧ (OblOk p'.obl → OblOk p.obl) := by
  have bad : ¬ OblOk (none : Obl) := by rintro ⟨l, h, _⟩; cases h
  have tk : ∀ {q : Prep} {i : Nat} {y : V}, takeOwn p id = (q, i) → (∃ l, q.src = p.src ++ l) ∧ (OblOk q.obl → OblOk p.obl) := fun hq => by
    obtain ⟨h1, h2⟩ := take_grow hq
    exact ⟨h1, by rw [h2]; exact fun q => q⟩
  unfold takeView at h
  split at h
  · cases hq : takeOwn p id with
    | mk q i =>
      rw [hq] at h
      cases x <;> (simp only [Prod.mk.injEq] at h; obtain ⟨rfl, rfl⟩ := h; exact tk (y := .any) hq)
  · split at h <;> simp only [Prod.mk.injEq] at h <;> obtain ⟨rfl, rfl⟩ := h
    · exact ⟨⟨_, rfl⟩, fun q => (oblOk_and q).1⟩
    · exact ⟨⟨[], by simp⟩, fun q => absurd q bad⟩
  all_goals first
    | (cases hq : takeOwn p id with
       | mk q i =>
         rw [hq] at h
         first
          | (simp only [Prod.mk.injEq] at h; obtain ⟨rfl, rfl⟩ := h; exact tk (y := .any) hq)
          | (cases x <;> (simp only [Prod.mk.injEq] at h; obtain ⟨rfl, rfl⟩ := h; exact tk (y := .any) hq)))
    | (simp only [Prod.mk.injEq] at h; obtain ⟨rfl, rfl⟩ := h; exact ⟨⟨[], by simp⟩, fun q => absurd q bad⟩)
omit hu in
mutual
theorem prepV_grow {view : Bool} : ∀ (v : V) {p p' : Prep} {v' : V}, prepV uI uB uL view hp p v = (p', v') → (∃ l, p'.src = p.src ++ l) ∧ (OblOk p'.obl → OblOk p.obl)
  | .ptr id o, p, p', v', h => by
    simp only [prepV] at h
    cases hq : takeOwn p id with
    | mk q i => rw [hq] at h; simp only [Prod.mk.injEq] at h; obtain ⟨rfl, rfl⟩ := h; have := take_grow hq; exact ⟨this.1, by rw [this.2]; exact fun q => q⟩
  | .vec id n, p, p', v', h => by
    simp only [prepV] at h
    cases view with
    | true => exact view_grow h
    | false =>
      cases hq : takeOwn p id with
      | mk q i => rw [hq] at h; simp only [Prod.mk.injEq] at h; obtain ⟨rfl, rfl⟩ := h; have := take_grow hq; exact ⟨this.1, by rw [this.2]; exact fun q => q⟩
  | .sl id off n, p, p', v', h => by
    simp only [prepV] at h
    cases view with
    | true => exact view_grow h
    | false =>
      cases hq : takeOwn p id with
      | mk q i => rw [hq] at h; simp only [Prod.mk.injEq] at h; obtain ⟨rfl, rfl⟩ := h; have := take_grow hq; exact ⟨this.1, by rw [this.2]; exact fun q => q⟩
  | .agg l, p, p', v', h => by
    simp only [prepV] at h
    cases hq : prepL uI uB uL view hp p l with
    | mk q l' => rw [hq] at h; simp only [Prod.mk.injEq] at h; obtain ⟨rfl, rfl⟩ := h; exact prepL_grow l hq
  | .tup l, p, p', v', h => by
    simp only [prepV] at h
    cases hq : prepL uI uB uL view hp p l with
    | mk q l' => rw [hq] at h; simp only [Prod.mk.injEq] at h; obtain ⟨rfl, rfl⟩ := h; exact prepL_grow l hq
  | .iface t v, p, p', v', h => by
    simp only [prepV] at h
    cases hq : prepV uI uB uL view hp p v with
    | mk q l' => rw [hq] at h; simp only [Prod.mk.injEq] at h; obtain ⟨rfl, rfl⟩ := h; exact prepV_grow v hq
  | .any, p, p', v', h | .undef, p, p', v', h | .bool _, p, p', v', h | .sbool _, p, p', v', h | .int _ _, p, p', v', h | .str _, p, p', v', h | .nilp, p, p', v', h | .nilsl, p, p', v', h
  | .cols _ _, p, p', v', h | .nilif, p, p', v', h | .nilq _ _, p, p', v', h | .raw _, p, p', v', h => by
    simp only [prepV, Prod.mk.injEq] at h; obtain ⟨rfl, rfl⟩ := h
    exact ⟨⟨[], by simp⟩, fun q => q⟩
theorem prepL_grow {view : Bool} : ∀ (l : List V) {p p' : Prep} {l' : List V}, prepL uI uB uL view hp p l = (p', l') → (∃ l, p'.src = p.src ++ l) ∧ (OblOk p'.obl → OblOk p.obl)
  | [], p, p', l', h => by
    simp only [prepL, Prod.mk.injEq] at h; obtain ⟨rfl, rfl⟩ := h
    exact ⟨⟨[], by simp⟩, fun q => q⟩
  | v :: l, p, p', l', h => by
    simp only [prepL] at h
    cases hq : prepV uI uB uL view hp p v with
    | mk q v' =>
      rw [hq] at h; simp only at h
      cases hq2 : prepL uI uB uL view hp q l with
      | mk q2 l2 =>
        rw [hq2] at h; simp only [Prod.mk.injEq] at h; obtain ⟨rfl, rfl⟩ := h
        obtain ⟨⟨a, ha⟩, h1⟩ := prepV_grow v hq
        obtain ⟨⟨b, hb⟩, h2⟩ := prepL_grow l hq2
        exact ⟨⟨a ++ b, by rw [hb, ha]; simp⟩, fun q => h1 (h2 q)⟩
end
mutual
theorem prepV_ok (hg : Good P own r hp' w) {view : Bool} : ∀ (v : V) {p p' : Prep} {r0 : Rho} {v' : V} {x : Value}, PrepOk P r hp' w p r0 → VRel r v x → prepV uI uB uL view hp p v = (p', v') → OblOk p'.obl →
    (∀ s ∈ p'.src, hget hp' s.id = hget hp s.id) → ∃ r0', PrepOk P r hp' w p' r0' ∧ Grow p p' r0 r0' ∧ VRel r0' v' x
  | .ptr id o, p, p', r0, v', x, hp0, hv, h, ho, hag => by
    simp only [prepV] at h
    cases hq : takeOwn p id with
    | mk q i => rw [hq] at h; simp only [Prod.mk.injEq] at h; obtain ⟨rfl, rfl⟩ := h; exact ptr_own hp0 hv hq
  | .vec id n, p, p', r0, v', x, hp0, hv, h, ho, hag => by
    simp only [prepV] at h
    cases view with
    | true => exact view_ok hu hg hp0 (vec_sl hv) (.inl ⟨rfl, rfl⟩) hv h ho hag
    | false =>
      cases hq : takeOwn p id with
      | mk q i => rw [hq] at h; simp only [Prod.mk.injEq] at h; obtain ⟨rfl, rfl⟩ := h; exact vec_own hp0 hv hq
  | .sl id off n, p, p', r0, v', x, hp0, hv, h, ho, hag => by
    simp only [prepV] at h
    cases view with
    | true => exact view_ok hu hg hp0 hv (.inr rfl) hv h ho hag
    | false =>
      cases hq : takeOwn p id with
      | mk q i => rw [hq] at h; simp only [Prod.mk.injEq] at h; obtain ⟨rfl, rfl⟩ := h; exact sl_own hp0 hv hq
  | .agg l, p, p', r0, v', x, hp0, hv, h, ho, hag => by
    simp only [prepV] at h
    cases hq : prepL uI uB uL view hp p l with
    | mk q l' =>
      rw [hq] at h; simp only [Prod.mk.injEq] at h; obtain ⟨rfl, rfl⟩ := h
      simp only [VRel] at hv
      obtain ⟨cs, rfl, h1, h2⟩ := hv
      obtain ⟨r0', g1, g2, g3⟩ := prepL_ok hg l hp0 h1 hq ho hag
      exact ⟨r0', g1, g2, by simp only [VRel]; exact ⟨cs, rfl, g3, h2⟩⟩
  | .tup l, p, p', r0, v', x, hp0, hv, h, ho, hag => by
    simp only [prepV] at h
    cases hq : prepL uI uB uL view hp p l with
    | mk q l' =>
      rw [hq] at h; simp only [Prod.mk.injEq] at h; obtain ⟨rfl, rfl⟩ := h
      simp only [VRel] at hv
      obtain ⟨cs, rfl, h1⟩ := hv
      obtain ⟨r0', g1, g2, g3⟩ := prepL_ok hg l hp0 h1 hq ho hag
      exact ⟨r0', g1, g2, by simp only [VRel]; exact ⟨cs, rfl, g3⟩⟩
  | .iface t v, p, p', r0, v', x, hp0, hv, h, ho, hag => by
    simp only [prepV] at h
    cases hq : prepV uI uB uL view hp p v with
    | mk q v2 =>
      rw [hq] at h; simp only [Prod.mk.injEq] at h; obtain ⟨rfl, rfl⟩ := h
      simp only [VRel] at hv
      obtain ⟨u, rfl, h1⟩ := hv
      obtain ⟨r0', g1, g2, g3⟩ := prepV_ok hg v hp0 h1 hq ho hag
      exact ⟨r0', g1, g2, by simp only [VRel]; exact ⟨u, rfl, g3⟩⟩
  | .any, p, p', r0, v', x, hp0, hv, h, ho, hag => by
    simp only [prepV, Prod.mk.injEq] at h; obtain ⟨rfl, rfl⟩ := h
    exact ⟨r0, hp0, Grow.refl _ _, by simpa [VRel] using hv⟩
  | .undef, p, p', r0, v', x, hp0, hv, h, ho, hag => by
    simp only [prepV, Prod.mk.injEq] at h; obtain ⟨rfl, rfl⟩ := h
    exact ⟨r0, hp0, Grow.refl _ _, by simpa [VRel] using hv⟩
  | .bool b, p, p', r0, v', x, hp0, hv, h, ho, hag => by
    simp only [prepV, Prod.mk.injEq] at h; obtain ⟨rfl, rfl⟩ := h
    exact ⟨r0, hp0, Grow.refl _ _, by simpa [VRel] using hv⟩
  | .sbool b, p, p', r0, v', x, hp0, hv, h, ho, hag => by
    simp only [prepV, Prod.mk.injEq] at h; obtain ⟨rfl, rfl⟩ := h
    exact ⟨r0, hp0, Grow.refl _ _, by simpa [VRel] using hv⟩
  | .int k n, p, p', r0, v', x, hp0, hv, h, ho, hag => by
    simp only [prepV, Prod.mk.injEq] at h; obtain ⟨rfl, rfl⟩ := h
    exact ⟨r0, hp0, Grow.refl _ _, by simpa [VRel] using hv⟩
  | .str n, p, p', r0, v', x, hp0, hv, h, ho, hag => by
    simp only [prepV, Prod.mk.injEq] at h; obtain ⟨rfl, rfl⟩ := h
    exact ⟨r0, hp0, Grow.refl _ _, by simpa [VRel] using hv⟩
  | .nilp, p, p', r0, v', x, hp0, hv, h, ho, hag => by
    simp only [prepV, Prod.mk.injEq] at h; obtain ⟨rfl, rfl⟩ := h
    exact ⟨r0, hp0, Grow.refl _ _, by simpa [VRel] using hv⟩
  | .nilsl, p, p', r0, v', x, hp0, hv, h, ho, hag => by
    simp only [prepV, Prod.mk.injEq] at h; obtain ⟨rfl, rfl⟩ := h
    exact ⟨r0, hp0, Grow.refl _ _, by simpa [VRel] using hv⟩
  | .cols n cs, p, p', r0, v', x, hp0, hv, h, ho, hag => by
    simp only [prepV, Prod.mk.injEq] at h; obtain ⟨rfl, rfl⟩ := h
    exact ⟨r0, hp0, Grow.refl _ _, by simpa [VRel] using hv⟩
  | .nilif, p, p', r0, v', x, hp0, hv, h, ho, hag => by
    simp only [prepV, Prod.mk.injEq] at h; obtain ⟨rfl, rfl⟩ := h
    exact ⟨r0, hp0, Grow.refl _ _, by simpa [VRel] using hv⟩
  | .nilq _ _, p, p', r0, v', x, hp0, hv, h, ho, hag => by
    simp only [prepV, Prod.mk.injEq] at h; obtain ⟨rfl, rfl⟩ := h
    exact ⟨r0, hp0, Grow.refl _ _, by simpa [VRel] using hv⟩
  | .raw v, p, p', r0, v', x, hp0, hv, h, ho, hag => by
    simp only [prepV, Prod.mk.injEq] at h; obtain ⟨rfl, rfl⟩ := h
    exact ⟨r0, hp0, Grow.refl _ _, by simpa [VRel] using hv⟩
theorem prepL_ok (hg : Good P own r hp' w) {view : Bool} : ∀ (l : List V) {p p' : Prep} {r0 : Rho} {l' : List V} {xs : List Value}, PrepOk P r hp' w p r0 → VRelL r l xs → prepL uI uB uL view hp p l = (p', l') → OblOk p'.obl →
    (∀ s ∈ p'.src, hget hp' s.id = hget hp s.id) → ∃ r0', PrepOk P r hp' w p' r0' ∧ Grow p p' r0 r0' ∧ VRelL r0' l' xs
  | [], p, p', r0, l', xs, hp0, hv, h, ho, hag => by
    have h : (p, []) = (p', l') := h
    simp only [Prod.mk.injEq] at h; obtain ⟨rfl, rfl⟩ := h
    cases xs with
    | nil => exact ⟨r0, hp0, Grow.refl _ _, by simp [VRelL]⟩
    | cons => simp [VRelL] at hv
  | v :: l, p, p', r0, l', xs, hp0, hv, h, ho, hag => by
    simp only [prepL] at h
    cases hq : prepV uI uB uL view hp p v with
    | mk q v' =>
      rw [hq] at h; simp only at h
      cases hq2 : prepL uI uB uL view hp q l with
      | mk q2 l2 =>
        rw [hq2] at h; simp only [Prod.mk.injEq] at h; obtain ⟨rfl, rfl⟩ := h
        cases xs with
        | nil => simp [VRelL] at hv
        | cons x xs =>
          simp only [VRelL] at hv
          have hgr := prepL_grow (view := view) (hp := hp) l hq2
          obtain ⟨r1, g1, g2, g3⟩ := prepV_ok hg v hp0 hv.1 hq (hgr.2 ho) (fun s hs => hag s (by obtain ⟨l, hl⟩ := hgr.1; rw [hl]; simp [hs]))
          obtain ⟨r2, k1, k2, k3⟩ := prepL_ok hg l g1 hv.2 hq2 ho hag
          exact ⟨r2, k1, g2.trans k2, by simp only [VRelL]; exact ⟨VRel.mono k2.le g3, k3⟩⟩
end
end
end
end Sx
set_option linter.unusedVariables false
set_option linter.unusedSimpArgs false
namespace Sx
open Go
section
variable {P : Program} {own : Own} {r : Rho} {hp hp' : Hp} {w : World}

/-- A block that is handed in. -/
def AccOk (P : Program) (r : Rho) (hp' : Hp) (w : World) (p : Prep) (r0 : Rho) (j : Nat) (b : Blk) : Prop :=
  (∀ id, p.src[j]? = some (.own id) → ∃ x, r0 j = some x ∧ BRel P r0 w x b ∧ b.mut = (hget hp' id).mut ∧ b.live = true ∧ (hget hp' id).live = true ∧ ∀ g, b.uses w x g ↔ (hget hp' id).uses w x g) ∧
  (∀ id off, p.src[j]? = some (.view id off) → p.blks[j]? = some b)

theorem AccOk.grow {p p' : Prep} {r0 r0' : Rho} {j : Nat} {b : Blk} (h : AccOk P r hp' w p r0 j b) (hp0 : PrepOk P r hp' w p r0) (hj : j < p.src.length) (hg : Grow p p' r0 r0') : AccOk P r hp' w p' r0' j b := by
  obtain ⟨l, hl⟩ := hg.src
  obtain ⟨m, hm⟩ := hg.blks
  have e1 : p'.src[j]? = p.src[j]? := by rw [hl, List.getElem?_append_left hj]
  have e2 : p'.blks[j]? = p.blks[j]? := by rw [hm, List.getElem?_append_left (by rw [hp0.len]; exact hj)]
  refine ⟨fun id hid => ?_, fun id off hid => ?_⟩
  · obtain ⟨x, h1, h2, h3⟩ := h.1 id (by rw [← e1]; exact hid)
    exact ⟨x, hg.le _ _ h1, h2.mono hg.le, h3⟩
  · rw [e2]; exact h.2 id off (by rw [← e1]; exact hid)

theorem split_last {α : Type} {acc : List α} {b c : α} {j : Nat} (h : (acc ++ [b])[j]? = some c) : (j < acc.length ∧ acc[j]? = some c) ∨ (j = acc.length ∧ c = b) := by
  by_cases hl : j < acc.length
  · rw [List.getElem?_append_left hl] at h; exact .inl ⟨hl, h⟩
  · rw [List.getElem?_append_right (by omega)] at h
    have : j - acc.length = 0 := by
      rcases Nat.eq_zero_or_pos (j - acc.length) with h0 | h0
      · exact h0
      · rw [List.getElem?_eq_none (by simp; omega)] at h; cases h
    rw [this] at h; simp at h
    exact .inr ⟨by omega, h.symm⟩

section
variable {uI : FI → Int} {uB : FB → Bool} {uS : FS → ByteArray} {uL : FL → List Int} {uT : FT → TT} (hu : Std uI uB uS uL uT)
include hu

omit hu in
theorem close_grow : ∀ (fuel i : Nat) {p p' : Prep} {acc E0 : List Blk}, closeUp uI uB uL hp fuel i p acc = (p', E0) → (∃ l, p'.src = p.src ++ l) ∧ (OblOk p'.obl → OblOk p.obl)
  | 0, i, p, p', acc, E0, h => by
    have bad : ¬ OblOk (none : Obl) := by rintro ⟨l, h, _⟩; cases h
    simp only [closeUp, Prod.mk.injEq] at h; obtain ⟨rfl, rfl⟩ := h
    exact ⟨⟨[], by simp⟩, fun q => absurd q bad⟩
  | fuel + 1, i, p, p', acc, E0, h => by
    have bad : ¬ OblOk (none : Obl) := by rintro ⟨l, h, _⟩; cases h
    simp only [closeUp] at h
    split at h
    · simp only [Prod.mk.injEq] at h; obtain ⟨rfl, rfl⟩ := h
      exact ⟨⟨[], by simp⟩, fun q => q⟩
    · exact close_grow fuel _ h
    · split at h
      · rename_i t cs _
        cases hq : prepL uI uB uL false hp p cs with
        | mk q cs' =>
          rw [hq] at h
          obtain ⟨⟨a, ha⟩, h1⟩ := prepL_grow cs hq
          obtain ⟨⟨b, hb⟩, h2⟩ := close_grow fuel _ h
          exact ⟨⟨a ++ b, by rw [hb, ha]; simp⟩, fun q => h1 (h2 q)⟩
      · simp only [Prod.mk.injEq] at h; obtain ⟨rfl, rfl⟩ := h
        exact ⟨⟨[], by simp⟩, fun q => absurd q bad⟩
      · simp only [Prod.mk.injEq] at h; obtain ⟨rfl, rfl⟩ := h
        exact ⟨⟨[], by simp⟩, fun q => absurd q bad⟩
      · exact close_grow fuel _ h

theorem close_ok (hg : Good P own r hp' w) : ∀ (fuel i : Nat) {p p' : Prep} {acc E0 : List Blk} {r0 : Rho}, PrepOk P r hp' w p r0 → acc.length = i → i ≤ p.src.length → (∀ j b, acc[j]? = some b → AccOk P r hp' w p r0 j b) →
    closeUp uI uB uL hp fuel i p acc = (p', E0) → OblOk p'.obl → (∀ s ∈ p'.src, hget hp' s.id = hget hp s.id) →
    ∃ r0', PrepOk P r hp' w p' r0' ∧ Grow p p' r0 r0' ∧ E0.length = p'.src.length ∧ ∀ j b, E0[j]? = some b → AccOk P r hp' w p' r0' j b
  | 0, i, p, p', acc, E0, r0, hp0, hl, hle, hacc, h, ho, hag => by
    simp only [closeUp, Prod.mk.injEq] at h; obtain ⟨rfl, rfl⟩ := h
    obtain ⟨l, h, _⟩ := ho; cases h
  | fuel + 1, i, p, p', acc, E0, r0, hp0, hl, hle, hacc, h, ho, hag => by
    have h0 := h
    simp only [closeUp] at h
    split at h
    · rename_i hn
      simp only [Prod.mk.injEq] at h; obtain ⟨rfl, rfl⟩ := h
      have : p.src.length ≤ i := List.getElem?_eq_none_iff.1 hn
      exact ⟨r0, hp0, Grow.refl _ _, by omega, hacc⟩
    · rename_i id off hs
      have hlt : i < p.src.length := (List.getElem?_eq_some_iff.1 hs).1
      obtain ⟨x, y, b, h1, h2, h3, _⟩ := hp0.view _ _ _ hs
      refine close_ok hg fuel (i + 1) hp0 (by simp [hl]) (by omega) (fun j c hj => ?_) h ho hag
      rcases split_last hj with ⟨k1, k2⟩ | ⟨rfl, rfl⟩
      · exact hacc j c k2
      · rw [hl]
        refine ⟨fun id' hid => ?_, fun id' off' hid => ?_⟩
        · rw [hs] at hid; cases hid
        · rw [h3]; rfl
    · rename_i id hs
      have hlt : i < p.src.length := (List.getElem?_eq_some_iff.1 hs).1
      obtain ⟨x, h1, h2⟩ := hp0.own _ _ hs
      have hsame : hget hp' id = hget hp id := by
        obtain ⟨l, hl'⟩ := (close_grow (fuel + 1) i h0).1
        exact hag (.own id) (by rw [hl']; exact List.mem_append_left _ (List.mem_of_getElem? hs))
      split at h
      · rename_i t cs hb
        cases hq : prepL uI uB uL false hp p cs with
        | mk q cs' =>
          rw [hq] at h
          simp only at h
          obtain ⟨l2, hl2⟩ := (close_grow fuel (i + 1) h).1
          have ho2 := (close_grow fuel (i + 1) h).2 ho
          have hb' : hget hp' id = .cells t cs := hsame.trans hb
          have hbr := brel_of hg hb' (by simp) h2
          simp only [BRel] at hbr
          obtain ⟨g, vals, b1, b2, b3, b4, b5⟩ := hbr
          obtain ⟨r1, g1, g2, g3⟩ := prepL_ok hu hg cs hp0 b3 hq ho2 (fun s hs => hag s (by rw [hl2]; simp [hs]))
          obtain ⟨ls, hls⟩ := g2.src
          have hlen : p.src.length ≤ q.src.length := by rw [hls]; simp
          have hnew : ∀ j c, (acc ++ [Blk.cells t cs'])[j]? = some c → AccOk P r hp' w q r1 j c := by
            intro j c hj
            rcases split_last hj with ⟨m1, m2⟩ | ⟨rfl, rfl⟩
            · exact (hacc j c m2).grow hp0 (by omega) g2
            · rw [hl]
              have e1 : q.src[i]? = p.src[i]? := by rw [hls, List.getElem?_append_left hlt]
              refine ⟨fun id' hid => ?_, fun id' off' hid => ?_⟩
              · rw [e1, hs] at hid; cases hid
                refine ⟨x, g2.le _ _ h1, ⟨g, vals, b1, b2, g3, b4, b5⟩, by rw [hb']; rfl, rfl, by rw [hb']; rfl, ?_⟩
                intro g'; rw [hb']; exact Iff.rfl
              · rw [e1, hs] at hid; cases hid
          obtain ⟨r2, k1, k2, k3⟩ := close_ok hg fuel (i + 1) g1 (by simp [hl]) (by omega) hnew h ho hag
          exact ⟨r2, k1, g2.trans k2, k3⟩
      · simp only [Prod.mk.injEq] at h; obtain ⟨rfl, rfl⟩ := h
        obtain ⟨l, h, _⟩ := ho; cases h
      · simp only [Prod.mk.injEq] at h; obtain ⟨rfl, rfl⟩ := h
        obtain ⟨l, h, _⟩ := ho; cases h
      · rename_i b hn1 hn2 hn3
        refine close_ok hg fuel (i + 1) hp0 (by simp [hl]) (by omega) (fun j c hj => ?_) h ho hag
        rcases split_last hj with ⟨k1, k2⟩ | ⟨rfl, rfl⟩
        · exact hacc j c k2
        · rw [hl]
          refine ⟨fun id' hid => ?_, fun id' off' hid => ?_⟩
          · rw [hs] at hid; cases hid
            obtain ⟨y, h3, h4⟩ := hg.rel id (by rw [hsame]; exact fun e => hn2 e)
            rw [h2] at h3; cases h3
            rw [hsame] at h4
            refine ⟨x, h1, ?_, by rw [hsame], ?_, ?_, ?_⟩
            · cases hq : hget hp id with
              | cells t cs => exact absurd hq (hn1 t cs)
              | unborn => exact absurd hq hn2
              | dead => exact absurd hq hn3
              | cols md t cs => rw [hq] at h4; cases md <;> exact h4
              | slices k xss => rw [hq] at h4; exact h4
              | srow e k xss => rw [hq] at h4; exact h4
            · cases hq : hget hp id with
              | unborn => exact absurd hq hn2
              | dead => exact absurd hq hn3
              | _ => rfl
            · rw [hsame]
              cases hq : hget hp id with
              | unborn => exact absurd hq hn2
              | dead => exact absurd hq hn3
              | _ => rfl
            · intro g; rw [hsame]
          · rw [hs] at hid; cases hid
end

theorem viewsOk_spec {all : List Src} : ∀ {l : List Src}, viewsOk hp all l = true → ∀ id off, .view id off ∈ l → .own id ∈ all → (hget hp id).mut = false
  | [], _, _, _, hm, _ => by simp at hm
  | .view id' off' :: l, h, id, off, hm, ha => by
    simp only [viewsOk, Bool.and_eq_true] at h
    rcases List.mem_cons.1 hm with e | hm
    · cases e
      have h1 := h.1
      split at h1
      · simpa using h1
      · rename_i hs
        obtain ⟨j, hj⟩ := List.mem_iff_getElem?.1 ha
        exact absurd hj (srcIdx_none hs j)
    · exact viewsOk_spec h.2 id off hm ha
  | .own id' :: l, h, id, off, hm, ha => by
    simp only [viewsOk] at h
    rcases List.mem_cons.1 hm with e | hm
    · cases e
    · exact viewsOk_spec h id off hm ha

theorem isRo_uses {b : Blk} (h : isRo b = true) (w : World) (x : RA) (g : Nat) : b.uses w x g ↔ ∃ a, x.a = some a ∧ a.block = g := by
  cases b with
  | slices => simp [isRo] at h
  | srow => simp [isRo] at h
  | _ => exact Iff.rfl
theorem isRo_mut {b : Blk} (h : isRo b = true) : b.mut = false ∧ b.live = true := by
  cases b with
  | cols md t cs => cases md <;> simp [isRo] at h; exact ⟨rfl, rfl⟩
  | _ => simp [isRo] at h

/-- The name in the caller's heap, and what it leads to. -/
structure Came (P : Program) (r : Rho) (hp' : Hp) (w : World) (p : Prep) (r0 : Rho) (E0 : Hp) : Prop where
  prep : PrepOk P r hp' w p r0
  len : E0.length = p.src.length
  acc : ∀ j b, E0[j]? = some b → AccOk P r hp' w p r0 j b
  views : ∀ id off, Src.view id off ∈ p.src → Src.own id ∈ p.src → (hget hp' id).mut = false

theorem hget_some {E : Hp} {i : Nat} {b : Blk} (h : E[i]? = some b) : hget E i = b := by rw [hget_eq, List.getD, h]; rfl

/-- Each block handed in: whose it is. -/
theorem Came.use {p : Prep} {r0 : Rho} {E0 : Hp} (h : Came P r hp' w p r0 E0) {i : Nat} {x : RA} {g : Nat} (hl : (hget E0 i).live = true) (hx : r0 i = some x) (hu : (hget E0 i).uses w x g) :
    ∃ s y, p.src[i]? = some s ∧ r s.id = some y ∧ (hget hp' s.id).live = true ∧ (hget hp' s.id).uses w y g ∧ ((hget E0 i).mut = true → s = .own s.id ∧ (hget hp' s.id).mut = true ∧ x = y) := by
  have hlt : i < E0.length := by
    rcases Nat.lt_or_ge i E0.length with h1 | h1
    · exact h1
    · rw [hget_ge _ _ h1] at hl; simp [Blk.live] at hl
  have hb : E0[i]? = some (hget E0 i) := by rw [hget_eq, List.getD, List.getElem?_eq_getElem hlt]; rfl
  have hacc := h.acc i _ hb
  cases hs : p.src[i]? with
  | none => have := List.getElem?_eq_none_iff.1 hs; rw [h.len] at hlt; omega
  | some s =>
    cases s with
    | own id =>
      obtain ⟨y, h1, h2, h3, h4, h5, h6⟩ := hacc.1 id hs
      rw [hx] at h1; cases h1
      obtain ⟨z, h7, h8⟩ := h.prep.own i id hs
      rw [hx] at h7; cases h7
      exact ⟨.own id, x, rfl, h8, h5, (h6 g).1 hu, fun hm => ⟨rfl, h3 ▸ hm, rfl⟩⟩
    | view id off =>
      obtain ⟨y, z, b, h1, h2, h3, h4, h5, h6, _, h7, md, t, cs, h8⟩ := h.prep.view i id off hs
      rw [hx] at h1; cases h1
      have := hacc.2 id off hs
      rw [h3] at this; cases this
      rw [isRo_uses h4] at hu
      obtain ⟨a, ha, rfl⟩ := hu
      obtain ⟨d, hd, rfl⟩ := h7 a ha
      refine ⟨.view id off, z, rfl, h2, h6, ?_, fun hm => ?_⟩
      · show (hget hp' id).uses w z _
        rw [h8]; exact ⟨d, hd, (add_block d _).symm⟩
      · rw [(isRo_mut h4).1] at hm; cases hm

theorem Came.good {p : Prep} {r0 : Rho} {E0 : Hp} (hg : Good P own r hp' w) (h : Came P r hp' w p r0 E0) : Good P (ownOf r0 E0 w) r0 E0 w := by
  have live_of : ∀ i b, E0[i]? = some b → b.live = true ∧ ∃ x, r0 i = some x ∧ BRel P r0 w x b := by
    intro i b hb
    have hacc := h.acc i _ hb
    cases hs : p.src[i]? with
    | none => have := List.getElem?_eq_none_iff.1 hs; have := (List.getElem?_eq_some_iff.1 hb).1; rw [h.len] at this; omega
    | some s =>
      cases s with
      | own id =>
        obtain ⟨y, h1, h2, h3, h4, _⟩ := hacc.1 id hs
        exact ⟨h4, y, h1, h2⟩
      | view id off =>
        obtain ⟨y, z, b', h1, h2, h3, h4, h5, h6⟩ := h.prep.view i id off hs
        have := hacc.2 id off hs
        rw [h3] at this; cases this
        refine ⟨(isRo_mut h4).2, y, h1, ?_⟩
        cases b with
        | cols md t cs => cases md <;> simp [isRo] at h4; exact h5
        | _ => simp [isRo] at h4
  have hin : ∀ i, hget E0 i ≠ .unborn → E0[i]? = some (hget E0 i) := by
    intro i hi
    have hlt : i < E0.length := by
      rcases Nat.lt_or_ge i E0.length with h1 | h1
      · exact h1
      · exact absurd (hget_ge _ _ h1) hi
    rw [hget_eq, List.getD, List.getElem?_eq_getElem hlt]; rfl
  refine ⟨fun i hi => ?_, fun i hi => ?_, fun i x b hm hx hb => ?_, fun i j x y b g hij hm hl hx hy hb hu => ?_, fun i x g hl hx hu => ?_, fun i x g hl hx hu => ?_⟩
  · refine h.prep.nope i ?_
    rcases Nat.lt_or_ge i E0.length with h1 | h1
    · have := (live_of i _ (List.getElem?_eq_getElem h1)).1
      rw [hget_eq, List.getD, List.getElem?_eq_getElem h1] at hi
      simp only [Option.getD_some] at hi
      rw [hi] at this; simp [Blk.live] at this
    · rw [h.len] at h1; exact List.getElem?_eq_none h1
  · exact (live_of i _ (hin i hi)).2
  · exact .inr ⟨i, x, b, hm, hx, hb, rfl⟩
  · obtain ⟨s, z, h1, h2, h3, h4, h5⟩ := h.use (mut_live hm) hx (mut_self w x _ ⟨b, hb, rfl⟩)
    obtain ⟨h6, h7, h8⟩ := h5 hm
    subst h8
    obtain ⟨s', z', k1, k2, k3, k4, k5⟩ := h.use hl hy hu
    by_cases he : s.id = s'.id
    · cases s' with
      | own id' =>
        rw [h6, he] at h1
        exact absurd (h.prep.inj i j _ h1 k1) hij
      | view id' off =>
        have := h.views id' off (List.mem_of_getElem? k1) (by
          have e1 : s = .own id' := by rw [h6, he]; rfl
          rw [← e1]; exact List.mem_of_getElem? h1)
        have e2 : s.id = id' := he
        rw [e2] at h7; rw [this] at h7; cases h7
    · exact hg.apart s.id s'.id x z' b g he h7 k3 h2 k2 hb k4
  · obtain ⟨s, z, h1, h2, h3, h4, h5⟩ := h.use hl hx hu
    exact hg.below s.id z g h3 h2 h4
  · exact .inr ⟨i, x, hl, hx, hu⟩
end
end Sx
set_option linter.unusedVariables false
set_option linter.unusedSimpArgs false
namespace Sx
open Go

theorem hwrites_notin : ∀ {W : List (Nat × Blk)} {hp : Hp} {i : Nat}, (∀ b, (i, b) ∉ W) → hget (hwrites hp W) i = hget hp i
  | [], hp, i, _ => rfl
  | (j, b) :: W, hp, i, h => by
    simp only [hwrites]
    rw [hwrites_notin (fun c hc => h c (List.mem_cons_of_mem _ hc)), hget_hsetX, if_neg]
    rintro rfl; exact h b (by simp)
theorem hwrites_mem : ∀ {W : List (Nat × Blk)} {hp : Hp} {i : Nat} {b : Blk}, (i, b) ∈ W → (∀ b', (i, b') ∈ W → b' = b) → hget (hwrites hp W) i = b
  | [], hp, i, b, h, _ => by simp at h
  | (j, c) :: W, hp, i, b, h, hu => by
    simp only [hwrites]
    by_cases hw : ∃ b', (i, b') ∈ W
    · obtain ⟨b', hb'⟩ := hw
      obtain rfl := hu b' (by simp [hb'])
      exact hwrites_mem hb' (fun b2 h2 => hu b2 (by simp [h2]))
    · rw [hwrites_notin (fun b' hb' => hw ⟨b', hb'⟩), hget_hsetX]
      rcases List.mem_cons.1 h with e | e
      · cases e; simp
      · exact absurd ⟨b, e⟩ hw

section
variable {P : Program} {own : Own} {r : Rho} {hp hp' : Hp} {w : World}
section
variable {uI : FI → Int} {uB : FB → Bool} {uS : FS → ByteArray} {uL : FL → List Int} {uT : FT → TT} (hu : Std uI uB uS uL uT)
include hu

omit hu in
theorem mergeH_mem {src : List Src} {base n : Nat} : ∀ {E : List Blk} {i0 : Nat} {id : Nat} {b : Blk}, (id, b) ∈ mergeH uI src base n i0 E ↔
    ∃ j c, E[j]? = some c ∧ b = backB uI src base n c ∧ (src[i0 + j]? = some (.own id) ∨ (src[i0 + j]? = none ∧ id = base + (i0 + j - n)))
  | [], i0, id, b => by simp [mergeH]
  | c :: E, i0, id, b => by
    have ih := fun i0 => mergeH_mem (src := src) (base := base) (n := n) (E := E) (i0 := i0) (id := id) (b := b)
    have shift : (∃ j c', (c :: E)[j]? = some c' ∧ b = backB uI src base n c' ∧ (src[i0 + j]? = some (.own id) ∨ (src[i0 + j]? = none ∧ id = base + (i0 + j - n)))) ↔
        ((b = backB uI src base n c ∧ (src[i0]? = some (.own id) ∨ (src[i0]? = none ∧ id = base + (i0 - n)))) ∨
         (∃ j c', E[j]? = some c' ∧ b = backB uI src base n c' ∧ (src[i0 + 1 + j]? = some (.own id) ∨ (src[i0 + 1 + j]? = none ∧ id = base + (i0 + 1 + j - n))))) := by
      constructor
      · rintro ⟨j, c', h1, h2, h3⟩
        cases j with
        | zero => simp at h1; subst h1; exact .inl ⟨h2, by simpa using h3⟩
        | succ j => exact .inr ⟨j, c', by simpa using h1, h2, by simpa [Nat.add_assoc, Nat.add_comm 1 j] using h3⟩
      · rintro (⟨h2, h3⟩ | ⟨j, c', h1, h2, h3⟩)
        · exact ⟨0, c, rfl, h2, by simpa using h3⟩
        · exact ⟨j + 1, c', by simpa using h1, h2, by simpa [Nat.add_assoc, Nat.add_comm 1 j] using h3⟩
    rw [shift]
    simp only [mergeH]
    split
    · rename_i id' hs
      simp only [List.mem_cons, Prod.mk.injEq, ih, hs, Option.some.injEq, Src.own.injEq, reduceCtorEq, false_and, or_false]
      constructor
      · rintro (⟨rfl, rfl⟩ | h)
        · exact .inl ⟨rfl, rfl⟩
        · exact .inr h
      · rintro (⟨rfl, rfl⟩ | h)
        · exact .inl ⟨rfl, rfl⟩
        · exact .inr h
    · rename_i id' off hs
      simp only [ih, hs, Option.some.injEq, reduceCtorEq, false_and, or_false, and_false, false_or]
    · rename_i hs
      simp only [List.mem_cons, Prod.mk.injEq, ih, hs, reduceCtorEq, true_and, false_or]
      constructor
      · rintro (⟨rfl, rfl⟩ | h)
        · exact .inl ⟨rfl, rfl⟩
        · exact .inr h
      · rintro (⟨rfl, rfl⟩ | h)
        · exact .inl ⟨rfl, rfl⟩
        · exact .inr h

/-- The name that a callee's name comes back under. -/
def Turn (src : List Src) (base : Nat) (E : Hp) (i id : Nat) : Prop := src[i]? = some (.own id) ∨ (src[i]? = none ∧ i < E.length ∧ id = base + (i - src.length))

omit hu in
theorem backB_mut {src : List Src} {base n : Nat} (b : Blk) : (backB uI src base n b).mut = b.mut ∧ (backB uI src base n b).live = b.live ∧ ∀ (w : World) (x : RA) (g : Nat), (backB uI src base n b).uses w x g ↔ b.uses w x g := by
  cases b <;> exact ⟨rfl, rfl, fun _ _ _ => Iff.rfl⟩

mutual
theorem back_rel {src : List Src} {base : Nat} {r1 r2 : Rho} (h1 : ∀ i id, src[i]? = some (.own id) → r2 id = r1 i) (h2 : ∀ i x, src[i]? = none → r1 i = some x → r2 (base + (i - src.length)) = some x)
    (h3 : ∀ i id off, src[i]? = some (.view id off) → 0 ≤ off.val ∧ ∀ x, r1 i = some x → ∃ y, r2 id = some y ∧ ∀ a, x.a = some a → ∃ d, y.a = some d ∧ a = d.add off.val.toNat) :
    ∀ (v : V) {x : Value}, VRel r1 v x → VRel r2 (backV uI src base src.length v) x
  | .ptr i o, x, hv => by
    simp only [VRel] at hv
    obtain ⟨y, b, k1, k2⟩ := hv
    simp only [backV]
    split
    · rename_i id hs; simp only [VRel]; exact ⟨y, b, by rw [h1 i id hs]; exact k1, k2⟩
    · simp [VRel]
    · rename_i hs; simp only [VRel]; exact ⟨y, b, h2 i y hs k1, k2⟩
  | .vec i n, x, hv => by
    simp only [VRel] at hv
    obtain ⟨y, b, k1, k2⟩ := hv
    simp only [backV]
    split
    · rename_i id hs; simp only [VRel]; exact ⟨y, b, by rw [h1 i id hs]; exact k1, k2⟩
    · simp [VRel]
    · rename_i hs; simp only [VRel]; exact ⟨y, b, h2 i y hs k1, k2⟩
  | .sl i q n, x, hv => by
    simp only [VRel] at hv
    obtain ⟨y, m, c, A, k1, k2, k3, k4, k5, k6⟩ := hv
    simp only [backV]
    split
    · rename_i id hs; simp only [VRel]; exact ⟨y, m, c, A, by rw [h1 i id hs]; exact k1, k2, k3, k4, k5, k6⟩
    · rename_i id off hs
      obtain ⟨k7, k8⟩ := h3 i id off hs
      obtain ⟨z, k9, k10⟩ := k8 y k1
      simp only [VRel]
      refine ⟨z, m, c, A, k9, k2, k3, by rw [linV_val hu]; omega, k5, fun h0 => ?_⟩
      obtain ⟨b, hb, rfl⟩ := k6 h0
      obtain ⟨d, hd, rfl⟩ := k10 b hb
      refine ⟨d, hd, ?_⟩
      rw [add_add, linV_val hu]
      congr 2
      omega
    · rename_i hs; simp only [VRel]; exact ⟨y, m, c, A, h2 i y hs k1, k2, k3, k4, k5, k6⟩
  | .agg l, x, hv => by
    simp only [VRel] at hv
    obtain ⟨cs, rfl, k1, k2⟩ := hv
    simp only [backV, VRel]
    exact ⟨cs, rfl, back_relL h1 h2 h3 l k1, k2⟩
  | .tup l, x, hv => by
    simp only [VRel] at hv
    obtain ⟨cs, rfl, k1⟩ := hv
    simp only [backV, VRel]
    exact ⟨cs, rfl, back_relL h1 h2 h3 l k1⟩
  | .iface t v, x, hv => by
    simp only [VRel] at hv
    obtain ⟨u, rfl, k1⟩ := hv
    simp only [backV, VRel]
    exact ⟨u, rfl, back_rel h1 h2 h3 v k1⟩
  | .any, x, hv | .undef, x, hv | .bool _, x, hv | .sbool _, x, hv | .int _ _, x, hv | .str _, x, hv | .nilp, x, hv | .nilsl, x, hv | .cols _ _, x, hv | .nilif, x, hv | .nilq _ _, x, hv | .raw _, x, hv => by
    simpa [backV, VRel] using hv
theorem back_relL {src : List Src} {base : Nat} {r1 r2 : Rho} (h1 : ∀ i id, src[i]? = some (.own id) → r2 id = r1 i) (h2 : ∀ i x, src[i]? = none → r1 i = some x → r2 (base + (i - src.length)) = some x)
    (h3 : ∀ i id off, src[i]? = some (.view id off) → 0 ≤ off.val ∧ ∀ x, r1 i = some x → ∃ y, r2 id = some y ∧ ∀ a, x.a = some a → ∃ d, y.a = some d ∧ a = d.add off.val.toNat) :
    ∀ (l : List V) {xs : List Value}, VRelL r1 l xs → VRelL r2 (backL uI src base src.length l) xs
  | [], xs, hv => by simpa [backL] using (show VRelL r2 [] xs by cases xs <;> simp [VRelL] at hv ⊢)
  | v :: l, xs, hv => by
    cases xs with
    | nil => simp [VRelL] at hv
    | cons x xs =>
      simp only [VRelL] at hv
      simp only [backL, VRelL]
      exact ⟨back_rel h1 h2 h3 v hv.1, back_relL h1 h2 h3 l hv.2⟩
end
end
end
end Sx
set_option linter.unusedVariables false
set_option linter.unusedSimpArgs false
namespace Sx
open Go
theorem viewsRo_spec {hp : Hp} : ∀ {l : List Src}, viewsRo hp l = true → ∀ id off, Src.view id off ∈ l → (hget hp id).mut = false
  | [], _, _, _, hm => by simp at hm
  | .view id' off' :: l, h, id, off, hm => by
    simp only [viewsRo, Bool.and_eq_true, Bool.not_eq_true'] at h
    rcases List.mem_cons.1 hm with e | hm
    · cases e; exact h.1
    · exact viewsRo_spec h.2 id off hm
  | .own id' :: l, h, id, off, hm => by
    simp only [viewsRo] at h
    rcases List.mem_cons.1 hm with e | hm
    · cases e
    · exact viewsRo_spec h id off hm
theorem newsMut_spec : ∀ {l : List Blk}, newsMut l = true → ∀ b ∈ l, (b.mut = true ∧ b.plain = true) ∨ b.live = false
  | [], _, _, hm => by simp at hm
  | c :: l, h, b, hm => by
    simp only [newsMut, Bool.and_eq_true, Bool.or_eq_true, Bool.not_eq_true'] at h
    rcases List.mem_cons.1 hm with rfl | hm
    · exact h.1
    · exact newsMut_spec h.2 b hm
theorem noSlices_spec {l : List Blk} (h : noSlices l = true) : ∀ b ∈ l, b.plain = true := by
  induction l with
  | nil => simp
  | cons c l ih =>
    rintro b hm
    rcases List.mem_cons.1 hm with e | hm
    · subst e
      cases b <;> first | rfl | (simp [noSlices] at h)
    · refine ih ?_ _ hm
      cases c <;> first | exact h | (simp [noSlices] at h)
theorem uses_plain {b : Blk} {w : World} {x : RA} {g : Nat} (h : ∃ a, x.a = some a ∧ a.block = g) : b.uses w x g := mut_self w x g h

section
variable {P : Program} {own : Own} {r r0 r1 : Rho} {hp hp' E0 E1 : Hp} {w w1 : World} {p : Prep} {base : Nat}
section
variable {uI : FI → Int} {uB : FB → Bool} {uS : FS → ByteArray} {uL : FL → List Int} {uT : FT → TT} (hu : Std uI uB uS uL uT)
include hu

omit hu in
theorem Came.wr {w : World} (hc : Came P r hp' w p r0 E0) (hg : Good P own r hp' w) (hown : ∀ g, w.heap.size ≤ g → own.wr g) : ∀ g, (ownOf r0 E0 w).wr g → own.wr g := by
  rintro g (h | ⟨i, x, b, h2, h3, h4, rfl⟩)
  · exact hown g h
  · obtain ⟨s, y, k1, k2, k3, k4, k5⟩ := hc.use (mut_live h2) h3 (mut_self w x _ ⟨b, h4, rfl⟩)
    obtain ⟨k6, k7, rfl⟩ := k5 h2
    exact hg.own s.id x b k7 k2 h4
theorem merge_good (hg : Good P own r hp' w) (hown : ∀ g, w.heap.size ≤ g → own g) (hc : Came P r hp' w p r0 E0) (hle : r0.le r1) (h1 : Good P (ownOf r0 E0 w) r1 E1 w1) (hk : Keep (ownOf r0 E0 w) w w1)
    (hnews : newsOk hp p.src E1 = true) (hag : ∀ s ∈ p.src, hget hp' s.id = hget hp s.id) (hfresh : ∀ i, p.src.length ≤ i → i < E1.length → hget hp' (base + (i - p.src.length)) = .unborn) :
    ∃ r2, r.le r2 ∧ Good P own r2 (hwrites hp' (mergeH uI p.src base (llen p.src) 0 E1)) w1 ∧ Keep own w w1 ∧ (∀ v x, VRel r1 v x → VRel r2 (backV uI p.src base (llen p.src) v) x) := by
  rw [llen_eq]
  -- the callee's own writing is the caller's
  have hwr : ∀ g, (ownOf r0 E0 w).wr g → own.wr g := by
    rintro g (h | ⟨i, x, b, h2, h3, h4, rfl⟩)
    · exact hown g h
    · obtain ⟨s, y, k1, k2, k3, k4, k5⟩ := hc.use (mut_live h2) h3 (mut_self w x _ ⟨b, h4, rfl⟩)
      obtain ⟨k6, k7, rfl⟩ := k5 h2
      exact hg.own s.id x b k7 k2 h4
  have hkeep : Keep own w w1 := ⟨hk.os, hk.tape, hk.output, hk.size, fun g hg' ho => hk.block g hg' fun hw => ho (hwr g hw)⟩
  -- names
  have hin : ∀ i x, r1 i = some x → i < E1.length := fun i x hx => by
    rcases Nat.lt_or_ge i E1.length with h | h
    · exact h
    · rw [h1.born i (hget_ge _ _ h)] at hx; cases hx
  have hown1 : ∀ i id, p.src[i]? = some (.own id) → ∃ x, r0 i = some x ∧ r id = some x ∧ r1 i = some x := fun i id hs => by
    obtain ⟨x, h2, h3⟩ := hc.prep.own i id hs
    exact ⟨x, h2, h3, hle _ _ h2⟩
  obtain ⟨r2, hr2⟩ : ∃ r2 : Rho, r2 = fun id => match r id with
    | some x => some x
    | none => if base ≤ id then r1 (id - base + p.src.length) else none := ⟨_, rfl⟩
  have hle2 : r.le r2 := fun i x hx => by rw [hr2]; simp [hx]
  have hnone : ∀ i, p.src[i]? = none ↔ p.src.length ≤ i := fun i => List.getElem?_eq_none_iff
  have hnew : ∀ i, p.src[i]? = none → i < E1.length → r2 (base + (i - p.src.length)) = r1 i ∧ r (base + (i - p.src.length)) = none := fun i hs hi => by
    have hi' := (hnone i).1 hs
    have hrn := hg.born _ (hfresh i hi' hi)
    refine ⟨?_, hrn⟩
    rw [hr2]
    simp only [hrn, Nat.le_add_right, if_true]
    congr 1; omega
  have hT1 : ∀ i id, Turn p.src base E1 i id → r2 id = r1 i ∧ i < E1.length := by
    rintro i id (hs | ⟨hs, hi, rfl⟩)
    · obtain ⟨x, h2, h3, h4⟩ := hown1 i id hs
      exact ⟨by rw [hle2 _ _ h3, h4], hin i x h4⟩
    · exact ⟨(hnew i hs hi).1, hi⟩
  have hTinj : ∀ i j id, Turn p.src base E1 i id → Turn p.src base E1 j id → i = j := by
    rintro i j id (hs | ⟨hs, hi, rfl⟩) (hs' | ⟨hs', hj, e⟩)
    · exact hc.prep.inj i j id hs hs'
    · obtain ⟨x, _, h3, _⟩ := hown1 i id hs
      rw [e, (hnew j hs' hj).2] at h3; cases h3
    · obtain ⟨x, _, h3, _⟩ := hown1 j _ hs'
      rw [(hnew i hs hi).2] at h3; cases h3
    · have := (hnone i).1 hs; have := (hnone j).1 hs'; omega
  have hTfun : ∀ i id id', Turn p.src base E1 i id → Turn p.src base E1 i id' → id = id' := by
    rintro i id id' (hs | ⟨hs, hi, rfl⟩) (hs' | ⟨hs', hj, rfl⟩)
    · rw [hs] at hs'; cases hs'; rfl
    · rw [hs] at hs'; cases hs'
    · rw [hs] at hs'; cases hs'
    · rfl
  have hmem : ∀ id b, (id, b) ∈ mergeH uI p.src base p.src.length 0 E1 ↔ ∃ i, Turn p.src base E1 i id ∧ b = backB uI p.src base p.src.length (hget E1 i) := by
    intro id b
    rw [mergeH_mem]
    simp only [Nat.zero_add]
    constructor
    · rintro ⟨j, c, h2, h3, h4 | ⟨h4, h5⟩⟩
      · exact ⟨j, .inl h4, by rw [hget_some h2]; exact h3⟩
      · exact ⟨j, .inr ⟨h4, (List.getElem?_eq_some_iff.1 h2).1, h5⟩, by rw [hget_some h2]; exact h3⟩
    · rintro ⟨i, ht, hb⟩
      have hi := (hT1 i id ht).2
      refine ⟨i, E1[i], List.getElem?_eq_getElem hi, by rw [← hget_some (List.getElem?_eq_getElem hi)]; exact hb, ?_⟩
      rcases ht with hs | ⟨hs, _, e⟩
      · exact .inl hs
      · exact .inr ⟨hs, e⟩
  obtain ⟨hp2, hp2e⟩ : ∃ hp2, hp2 = hwrites hp' (mergeH uI p.src base p.src.length 0 E1) := ⟨_, rfl⟩
  have hgetT : ∀ i id, Turn p.src base E1 i id → hget hp2 id = backB uI p.src base p.src.length (hget E1 i) := fun i id ht => by
    rw [hp2e]
    refine hwrites_mem ((hmem id _).2 ⟨i, ht, rfl⟩) (fun b' hb' => ?_)
    obtain ⟨j, ht', rfl⟩ := (hmem id b').1 hb'
    rw [hTinj i j id ht ht']
  have hgetN : ∀ id, (¬ ∃ i, Turn p.src base E1 i id) → hget hp2 id = hget hp' id ∧ r2 id = r id := fun id hn => by
    refine ⟨by rw [hp2e]; exact hwrites_notin (fun b hb => by obtain ⟨i, ht, _⟩ := (hmem id b).1 hb; exact hn ⟨i, ht⟩), ?_⟩
    cases hr : r id with
    | some x => exact hle2 _ _ hr
    | none =>
      rw [hr2]; simp only [hr]
      split
      · rename_i hb
        cases hq : r1 (id - base + p.src.length) with
        | none => rfl
        | some x =>
          refine absurd ⟨_, Or.inr ⟨?_, hin _ x hq, ?_⟩⟩ hn
          · exact List.getElem?_eq_none (by omega)
          · omega
      · rfl
  -- blocks that aren't touched
  have hfar : ∀ id x g, (¬ ∃ i, Turn p.src base E1 i id) → (hget hp' id).live = true → r id = some x → (hget hp' id).uses w x g → w1.heap[g]? = w.heap[g]? := by
    intro id x g hn hl hx hu'
    refine hk.block g (hg.below id x g hl hx hu') ?_
    rintro (h | ⟨i, y, b, h2, h3, h4, rfl⟩)
    · have := hg.below id x g hl hx hu'; omega
    · obtain ⟨s, z, k1, k2, k3, k4, k5⟩ := hc.use (mut_live h2) h3 (mut_self w y _ ⟨b, h4, rfl⟩)
      obtain ⟨k6, k7, rfl⟩ := k5 h2
      have hne : s.id ≠ id := fun e => hn ⟨i, .inl (by rw [k1, k6, e])⟩
      exact hg.apart s.id id y x b _ hne k7 hl k2 hx h4 hu' rfl
  -- what a touched block leads to
  have hsee : ∀ g, (ownOf r0 E0 w).see g → own.see g := by
    rintro g (h | ⟨i, x, h2, h3, h4⟩)
    · exact own.sub g (hown g h)
    · obtain ⟨s, y, k1, k2, k3, k4, k5⟩ := hc.use h2 h3 h4
      exact hg.seen s.id y g k3 k2 k4
  have hback : ∀ v x, VRel r1 v x → VRel r2 (backV uI p.src base p.src.length v) x := by
    intro v x hv
    refine back_rel hu (fun i id hs => (hT1 i id (.inl hs)).1) (fun i y hs hy => ?_) (fun i id off hs => ?_) v hv
    · rw [(hnew i hs (hin i y hy)).1]; exact hy
    · obtain ⟨y, z, b, k1, k2, k3, k4, k5, k6, k7, k8, _⟩ := hc.prep.view i id off hs
      refine ⟨k7, fun y' hy' => ?_⟩
      have := hle _ _ k1
      rw [hy'] at this; cases this
      exact ⟨z, hle2 _ _ k2, k8⟩
  have hbackL : ∀ (l : List V) xs, VRelL r1 l xs → VRelL r2 (backL uI p.src base p.src.length l) xs := by
    intro l
    induction l with
    | nil => intro xs h; cases xs <;> simp [VRelL, backL] at h ⊢
    | cons v l ih =>
      intro xs h
      cases xs with
      | nil => simp [VRelL] at h
      | cons x xs => simp only [VRelL, backL] at h ⊢; exact ⟨hback v x h.1, ih xs h.2⟩
  -- a block that is changed by the caller, and one that came back
  have hcross : ∀ k y b i x g, (¬ ∃ i, Turn p.src base E1 i k) → (hget hp' k).mut = true → r k = some y → y.a = some b → (∃ id, Turn p.src base E1 i id) → (hget E1 i).live = true → r1 i = some x → (hget E1 i).uses w1 x g → b.block ≠ g := by
    intro k y b i x g hn hm hy hb ⟨id, ht⟩ hl hx hu' e
    have hblt := hg.below k y b.block (mut_live hm) hy (mut_self w y _ ⟨b, hb, rfl⟩)
    have hs := h1.seen i x g hl hx hu'
    have viaOwn : ∀ s z, s ∈ p.src → r s.id = some z → (hget hp' s.id).live = true → (hget hp' s.id).uses w z g → (∀ id off, s = .view id off → (hget hp id).mut = false) → False := by
      intro s z hs hz hl' hu2 hv
      by_cases hks : k = s.id
      · cases s with
        | own id' =>
          obtain ⟨j, hj⟩ := List.mem_iff_getElem?.1 hs
          exact hn ⟨j, .inl (by rw [hj, hks]; rfl)⟩
        | view id' off =>
          have h9 := hv id' off rfl
          have h10 := hag (.view id' off) hs
          have h11 : hget hp' id' = hget hp id' := h10
          have hk' : k = id' := hks
          rw [hk', h11, h9] at hm; cases hm
      · exact hg.apart k s.id y z b g hks hm hl' hy hz hb hu2 e
    unfold newsOk at hnews
    rw [Bool.or_eq_true] at hnews
    rcases hnews with hv | hv
    · have hv' := viewsRo_spec hv
      rcases hs with h | ⟨j, z, h2, h3, h4⟩
      · omega
      · obtain ⟨s, z', k1, k2, k3, k4, k5⟩ := hc.use h2 h3 h4
        exact viaOwn s z' (List.mem_of_getElem? k1) k2 k3 k4 (fun id off es => hv' id off (by rw [← es]; exact List.mem_of_getElem? k1))
    · rw [Bool.and_eq_true, llen_eq, ltake_eq, ldrop_eq] at hv
      rcases ht with ht | ⟨ht, hi, _⟩
      · -- a name handed in: where it lay
        have hlt : i < p.src.length := (List.getElem?_eq_some_iff.1 ht).1
        have hi := hin i x hx
        have hns := noSlices_spec hv.1 (hget E1 i) (by
          have e : E1[i]? = some (hget E1 i) := by rw [hget_eq, List.getD, List.getElem?_eq_getElem hi]; rfl
          exact List.mem_iff_getElem?.2 ⟨i, by rw [List.getElem?_take, if_pos hlt]; exact e⟩)
        rw [plain_iff hns] at hu'
        obtain ⟨z, k1, k2, k3⟩ := hown1 i id ht
        rw [hx] at k3; cases k3
        have hacc := (hc.acc i (hget E0 i) (by
          have hl0 : i < E0.length := by rw [hc.len]; exact hlt
          rw [hget_eq, List.getD, List.getElem?_eq_getElem hl0]; rfl)).1 id ht
        obtain ⟨z, k4, _, _, _, k5, _⟩ := hacc
        exact viaOwn (.own id) x (List.mem_of_getElem? ht) k2 k5 (uses_plain hu') (fun id off es => by cases es)
      · have hm2 := newsMut_spec hv.2 (hget E1 i) (by
          have hge := (hnone i).1 ht
          refine List.mem_iff_getElem?.2 ⟨i - p.src.length, ?_⟩
          rw [List.getElem?_drop, show p.src.length + (i - p.src.length) = i by omega, hget_eq, List.getD, List.getElem?_eq_getElem hi]; rfl)
        rcases hm2 with ⟨hm2, hpl2⟩ | hm2
        · -- changed by the callee: its own
          rw [plain_iff hpl2] at hu'
          obtain ⟨a, ha, rfl⟩ := hu'
          rcases h1.own i x a hm2 hx ha with h | ⟨j, z, b', h2, h3, h4, h5⟩
          · omega
          · obtain ⟨s, z', k1, k2, k3, k4, k5⟩ := hc.use (mut_live h2) h3 (mut_self w z _ ⟨b', h4, rfl⟩)
            obtain ⟨k6, k7, rfl⟩ := k5 h2
            exact viaOwn s z (List.mem_of_getElem? k1) k2 k3 (by rw [← h5]; exact k4) (fun id off es => by rw [k6] at es; cases es)
        · rw [hm2] at hl; cases hl
  refine ⟨r2, hle2, ?_, hkeep, hback⟩
  rw [← hp2e]
  -- kinds
  have kind : ∀ id, (∃ i, Turn p.src base E1 i id ∧ hget hp2 id = backB uI p.src base p.src.length (hget E1 i) ∧ r2 id = r1 i ∧ i < E1.length) ∨ ((¬ ∃ i, Turn p.src base E1 i id) ∧ hget hp2 id = hget hp' id ∧ r2 id = r id) := by
    intro id
    by_cases h : ∃ i, Turn p.src base E1 i id
    · obtain ⟨i, ht⟩ := h
      exact .inl ⟨i, ht, hgetT i id ht, hT1 i id ht⟩
    · exact .inr ⟨h, hgetN id h⟩
  have busesT := fun b => (backB_mut (uI := uI) (src := p.src) (base := base) (n := p.src.length) b).2.2
  have bmut := fun b => (backB_mut (uI := uI) (src := p.src) (base := base) (n := p.src.length) b).1
  have blive := fun b => (backB_mut (uI := uI) (src := p.src) (base := base) (n := p.src.length) b).2.1
  refine ⟨fun id hid => ?_, fun id hid => ?_, fun id x b hm hx hb => ?_, fun i j x y b g hij hm hl hx hy hb hu' => ?_, fun id x g hl hx hu' => ?_, fun id x g hl hx hu' => ?_⟩
  · rcases kind id with ⟨i, ht, e1, e2, hi⟩ | ⟨hn, e1, e2⟩
    · rw [e1] at hid
      rw [e2]
      refine h1.born i ?_
      cases hq : hget E1 i <;> rw [hq] at hid <;> simp [backB] at hid
    · rw [e2]; rw [e1] at hid; exact hg.born id hid
  · rcases kind id with ⟨i, ht, e1, e2, hi⟩ | ⟨hn, e1, e2⟩
    · have hne : hget E1 i ≠ .unborn := fun q => by rw [e1, q] at hid; exact hid rfl
      obtain ⟨x, h2, h3⟩ := h1.rel i hne
      refine ⟨x, by rw [e2]; exact h2, ?_⟩
      rw [e1]
      cases hq : hget E1 i with
      | cells t cs =>
        rw [hq] at h3
        obtain ⟨g, vals, b1, b2, b3, b4⟩ := h3
        exact ⟨g, vals, b1, b2, hbackL cs _ b3, b4⟩
      | unborn => exact absurd hq hne
      | dead => trivial
      | cols md t cs => rw [hq] at h3; cases md <;> exact h3
      | slices k xss => rw [hq] at h3; exact h3
      | srow e k xss => rw [hq] at h3; exact h3
    · rw [e1] at hid ⊢
      obtain ⟨x, h2, h3⟩ := hg.rel id hid
      refine ⟨x, by rw [e2]; exact h2, ?_⟩
      by_cases hl : (hget hp' id).live = true
      · exact (h3.world (fun g hu' => hfar id x g hn hl h2 hu')).mono hle2
      · cases hq : hget hp' id with
        | unborn => exact absurd hq hid
        | dead => trivial
        | _ => simp [hq, Blk.live] at hl
  · rcases kind id with ⟨i, ht, e1, e2, hi⟩ | ⟨hn, e1, e2⟩
    · rw [e1, bmut] at hm; rw [e2] at hx
      exact hwr _ (h1.own i x b hm hx hb)
    · rw [e1] at hm; rw [e2] at hx
      exact hg.own id x b hm hx hb
  · rcases kind i with ⟨i', ht, e1, e2, hi⟩ | ⟨hn, e1, e2⟩ <;> rcases kind j with ⟨j', ht', e1', e2', hj⟩ | ⟨hn', e1', e2'⟩
    · rw [e1, bmut] at hm; rw [e2] at hx; rw [e1', blive] at hl; rw [e1', busesT] at hu'; rw [e2'] at hy
      exact h1.apart i' j' x y b g (fun e => hij (by subst e; exact hTfun i' i j ht ht')) hm hl hx hy hb hu'
    · -- changed by the callee; the caller's
      rw [e1, bmut] at hm; rw [e2] at hx; rw [e1'] at hl hu'; rw [e2'] at hy
      have hu2 := (uses_congr (fun g hg' => hfar j y g hn' hl hy hg') g).1 hu'
      have hlt := hg.below j y g hl hy hu2
      rcases h1.own i' x b hm hx hb with h | ⟨q, z, b', h2, h3, h4, h5⟩
      · omega
      · obtain ⟨s, z', k1, k2, k3, k4, k5⟩ := hc.use (mut_live h2) h3 (mut_self w z _ ⟨b', h4, rfl⟩)
        obtain ⟨k6, k7, rfl⟩ := k5 h2
        rw [← h5]
        exact hg.apart s.id j z y b' g (fun e => hn' ⟨q, .inl (by rw [k1, k6, e])⟩) k7 hl k2 hy h4 hu2
    · rw [e1] at hm; rw [e2] at hx; rw [e1', blive] at hl; rw [e1', busesT] at hu'; rw [e2'] at hy
      exact hcross i x b j' y g hn hm hx hb ⟨j, ht'⟩ hl hy hu'
    · rw [e1] at hm; rw [e2] at hx; rw [e1'] at hl hu'; rw [e2'] at hy
      exact hg.apart i j x y b g hij hm hl hx hy hb ((uses_congr (fun g hg' => hfar j y g hn' hl hy hg') g).1 hu')
  · rcases kind id with ⟨i, ht, e1, e2, hi⟩ | ⟨hn, e1, e2⟩
    · rw [e1, blive] at hl; rw [e1, busesT] at hu'; rw [e2] at hx
      exact h1.below i x g hl hx hu'
    · rw [e1] at hl hu'; rw [e2] at hx
      exact Nat.lt_of_lt_of_le (hg.below id x g hl hx ((uses_congr (fun g hg' => hfar id x g hn hl hx hg') g).1 hu')) hk.size
  · rcases kind id with ⟨i, ht, e1, e2, hi⟩ | ⟨hn, e1, e2⟩
    · rw [e1, blive] at hl; rw [e1, busesT] at hu'; rw [e2] at hx
      exact hsee g (h1.seen i x g hl hx hu')
    · rw [e1] at hl hu'; rw [e2] at hx
      exact hg.seen id x g hl hx ((uses_congr (fun g hg' => hfar id x g hn hl hx hg') g).1 hu')
end
end
end Sx
set_option linter.unusedVariables false
set_option linter.unusedSimpArgs false
namespace Sx
open Go

theorem Glob.keep {P : Program} {own : Own} {w w' : World} (h : Glob P own w) (hk : Keep own w w') : Glob P own w' := by
  intro g i v hg
  obtain ⟨h1, h2⟩ := h g i v hg
  refine ⟨?_, h2⟩
  have hlt : g < w.heap.size := by
    rcases Nat.lt_or_ge g w.heap.size with h | h
    · exact h
    · simp [World.cell?, Array.getElem?_eq_none h] at h1
  have hb := hk.block g hlt h2
  unfold World.cell? at h1 ⊢
  simp only at h1 ⊢
  rw [hb]; exact h1
theorem Glob.sub {P : Program} {own own' : Own} {w : World} (h : Glob P own w) (hs : ∀ g, own'.wr g → own.wr g) : Glob P own' w :=
  fun g i v hg => ⟨(h g i v hg).1, fun hw => (h g i v hg).2 (hs g hw)⟩
/-- A state of a walk. -/
structure St (P : Program) (own : Own) (w0 : World) (rb r : Rho) (fr : Fr) (hp : Hp) (a : Act) (w : World) : Prop where
  len : fr.length = a.tmps.size
  defers : a.defers = []
  rel : ∀ t, VRel r (fget fr t) (a.tmps.getD t undef)
  good : Good P own r hp w
  news : ∀ g, w.heap.size ≤ g → own.wr g
  keep : Keep own w0 w
  base : rb.le r
  glob : Glob P own w

section
variable {P : Program} {T : Tab} {own : Own} {r : Rho} {fr : Fr} {hp : Hp} {a : Act} {w w0 : World} {rb : Rho}

theorem St.opd (h : St P own w0 rb r fr hp a w) (x : Operand) : VRel r (opd fr x) (a.eval x) := by
  cases x with
  | tmp t => exact h.rel t
  | const v => exact ofValue_rel r v
  | global g => simp [Sx.opd, VRel, Act.eval]
  | func f => simp [Sx.opd, VRel, Act.eval]
theorem St.opds (h : St P own w0 rb r fr hp a w) : ∀ l : List Operand, VRelL r (opds fr l) (l.map a.eval)
  | [] => by simp [Sx.opds, VRelL]
  | x :: l => by simp only [Sx.opds, List.map_cons, VRelL]; exact ⟨h.opd x, h.opds l⟩

theorem opd_congr {fr fr' : Fr} : ∀ {l : List Operand}, (∀ t ∈ tmpsOf l, fget fr' t = fget fr t) → opds fr' l = opds fr l
  | [], _ => rfl
  | x :: l, h => by
    cases x with
    | tmp t =>
      simp only [tmpsOf] at h
      simp only [Sx.opds, Sx.opd, h t (by simp), opd_congr (fun q hq => h q (List.mem_cons_of_mem _ hq))]
    | const v => simp only [tmpsOf] at h; simp only [Sx.opds, Sx.opd, opd_congr h]
    | global g => simp only [tmpsOf] at h; simp only [Sx.opds, Sx.opd, opd_congr h]
    | func f => simp only [tmpsOf] at h; simp only [Sx.opds, Sx.opd, opd_congr h]
theorem hgets_congr {hp hp' : Hp} : ∀ {l : List Nat}, (∀ i ∈ l, hget hp' i = hget hp i) → hgets hp' l = hgets hp l
  | [], _ => rfl
  | i :: l, h => by simp only [hgets, h i (by simp), hgets_congr (fun q hq => h q (List.mem_cons_of_mem _ hq))]

/-- A slot that is written. -/
theorem St.put {r' : Rho} {hp' : Hp} {w' : World} {v : V} {x : Value} {d : Option Nat} (h : St P own w0 rb r fr hp a w) (hle : r.le r') (hv : VRel r' v x) (hg : Good P own r' hp' w') (hk : Keep own w w') :
    St P own w0 rb r' (fsetO fr d v) hp' (a.put d x) w' := by
  have hk' := h.keep.trans hk
  have hn : ∀ g, w'.heap.size ≤ g → own.wr g := fun g hg' => h.news g (Nat.le_trans hk.size hg')
  cases d with
  | none => exact ⟨h.len, h.defers, fun t => VRel.mono hle (h.rel t), hg, hn, hk', Rho.le_trans h.base hle, h.glob.keep hk⟩
  | some d =>
    refine ⟨by simp [fsetO, fset_length, Act.put, h.len], h.defers, fun t => ?_, hg, hn, hk', Rho.le_trans h.base hle, h.glob.keep hk⟩
    simp only [fsetO, Act.put]
    by_cases e : d = t
    · subst e
      by_cases hl : d < fr.length
      · rw [fget_fset_eq _ _ _ hl]
        have hl' : d < a.tmps.size := by rw [← h.len]; exact hl
        simpa [Array.getD_eq_getD_getElem?, hl'] using hv
      · rw [fget_ge _ _ (by rw [fset_length]; omega)]
        have hl' : ¬ d < a.tmps.size := by rw [← h.len]; exact hl
        simp [Array.getD_eq_getD_getElem?, hl', VRel]
    · rw [fget_fset_ne _ _ _ _ e]
      have := VRel.mono hle (h.rel t)
      simpa [Array.getD_eq_getD_getElem?, Array.getElem?_setIfInBounds, e] using this

theorem St.decide {b c : Bool} {d : Option Nat} (h : St P own w0 rb r (fsetO fr d (.sbool b)) hp a w) (e : b = c) : St P own w0 rb r (fsetO fr d (.bool c)) hp a w := by
  subst e
  refine ⟨by have := h.len; cases d <;> simpa [fsetO, fset_length] using this, h.defers, fun t => ?_, h.good, h.news, h.keep, h.base, h.glob⟩
  have := h.rel t
  cases d with
  | none => exact this
  | some d =>
    simp only [fsetO] at this ⊢
    by_cases e : d = t
    · subst e
      by_cases hl : d < fr.length
      · rw [fget_fset_eq _ _ _ hl] at this ⊢
        simpa [VRel] using this
      · rw [fget_ge _ _ (by rw [fset_length]; omega)] at this ⊢
        exact this
    · rw [fget_fset_ne _ _ _ _ e] at this ⊢; exact this
theorem St.split {v : V} {k : V → Prop} {d : Option Nat} (h : splitV v k) : ∃ u, k u ∧ ∀ {P : Program} {own : Own} {w0 : World} {rb r : Rho} {fr : Fr} {hp : Hp} {a : Act} {w : World}, St P own w0 rb r (fsetO fr d v) hp a w → St P own w0 rb r (fsetO fr d u) hp a w := by
  unfold splitV at h
  split at h
  · rename_i b
    cases b with
    | true => exact ⟨.bool true, h.1 rfl, fun hs => hs.decide rfl⟩
    | false => exact ⟨.bool false, h.2 rfl, fun hs => hs.decide rfl⟩
  · exact ⟨v, h, fun hs => hs⟩

section
variable {uI : FI → Int} {uB : FB → Bool} {uS : FS → ByteArray} {uL : FL → List Int} {uT : FT → TT} (hu : Std uI uB uS uL uT)
include hu

/-- One operation that is no call. -/
theorem step_val {o : Oper} {K : Act → World → Prop} {Q : Exit → Act → World → Prop} {n : Nat} {xs : List V} {ids : List Nat} {obl : List Bool} {v : V} {out : List Blk} {new : Option Blk} (hT : TabOk P T)
    (hs : St P own w0 rb r fr hp a w) (hn : new ≠ none → hget hp n = .unborn) (hx : xs = opds fr (operandsL o.op)) (hids : ids = foot o.op xs) (hd : dup ids = false)
    (h : vact uI uB uS uL uT T n o.op xs (hgets hp ids) = .val obl v out new) (ho : AllTrue obl)
    (hK : ∀ r' a' w', St P own w0 rb r' (fsetO fr o.dst v) (hwrites hp (zipW ids out ++ newW n new)) a' w' → K a' w') : o.wp P a w K Q := by
  have hrel := hs.opds (operandsL o.op)
  rw [← hx] at hrel
  obtain ⟨nx, w', r', h1, h2, h3, h4, h5⟩ := op_ok hu hT hs.good hs.news hn hrel hids hd h ho
  unfold Oper.wp
  rw [h1]
  rcases h5 with ⟨v', rfl, h6⟩ | ⟨rfl, rfl⟩
  · exact hK r' _ _ (hs.put h2 h6 h3 h4)
  · exact hK r' _ _ (hs.put h2 (by simp [VRel]) h3 h4)

/-- A call. -/
theorem call_sound {f : FuncId} {args args' : List V} {hpT : Hp} {p p2 : Prep} {E0 : Hp} {o : List Bool} {R : V → Hp → Prop} {vals : List Value} {base : Nat}
    (hs : St P own w0 rb r fr hp a w) (hp1 : prepL uI uB uL true hpT ⟨[], [], some []⟩ args = (p, args')) (hp2 : closeUp uI uB uL hpT 100 0 p [] = (p2, E0)) (ho : p2.obl = some o) (hot : AllTrue o)
    (hv : viewsOk hpT p2.src p2.src = true) (hag : ∀ s ∈ p2.src, hget hp s.id = hget hpT s.id) (hctr : Ctr P f E0 args' R) (hvals : VRelL r args vals) :
    Calls P f vals.toArray w fun e w' => ∃ v x E, e = .returned v ∧ R x E ∧ (newsOk hpT p2.src E = true → (∀ i, p2.src.length ≤ i → i < E.length → hget hp (base + (i - p2.src.length)) = .unborn) →
      ∃ r', r.le r' ∧ VRel r' (backV uI p2.src base (llen p2.src) x) v ∧ Good P own r' (hwrites hp (mergeH uI p2.src base (llen p2.src) 0 E)) w' ∧ Keep own w w') := by
  have hg := hs.good
  have hO : OblOk p2.obl := ⟨o, ho, hot⟩
  have hcg := close_grow (uI := uI) (uB := uB) (uL := uL) (hp := hpT) 100 0 hp2
  have hO1 := hcg.2 hO
  have hp00 : PrepOk P r hp w ⟨[], [], some []⟩ (fun _ => none) := ⟨rfl, by simp, by simp, by simp, by simp⟩
  obtain ⟨l, hl⟩ := hcg.1
  obtain ⟨r1, g1, g2, g3⟩ := prepL_ok hu hg args hp00 hvals hp1 hO1 (fun s hs => hag s (by rw [hl]; simp [hs]))
  obtain ⟨r0, k1, k2, k3, k4⟩ := close_ok hu hg 100 0 g1 rfl (Nat.zero_le _) (by simp) hp2 hO hag
  have hcame : Came P r hp w p2 r0 E0 := ⟨k1, k3, k4, fun id off h1 h2 => by
    have := viewsOk_spec hv id off h1 h2
    have e := hag (.own id) h2
    rw [show hget hp id = hget hpT id from e]; exact this⟩
  have hgood := hcame.good hg
  refine (hctr.spec w r0 vals hgood (hs.glob.sub (hcame.wr hg hs.news)) (VRelL.mono k2.le g3)).mono ?_
  rintro e w' ⟨v, x, E, rr, rfl, h1, h2, h3, h4, h5⟩
  refine ⟨v, x, E, rfl, h2, fun hnews hfresh => ?_⟩
  obtain ⟨r2, m1, m2, m3, m4⟩ := merge_good hu hg hs.news hcame h3 h4 h5 hnews hag hfresh
  exact ⟨r2, m1, m4 x v h1, m2, m3⟩

omit hu in
theorem mem_views : ∀ {l : List Src} {id : Nat}, id ∈ viewIds l ↔ ∃ off, Src.view id off ∈ l
  | [], id => by simp [viewIds]
  | .view j o :: l, id => by
    simp only [viewIds, List.mem_cons, mem_views (l := l), Src.view.injEq]
    constructor
    · rintro (rfl | ⟨off, h⟩)
      · exact ⟨o, .inl ⟨rfl, rfl⟩⟩
      · exact ⟨off, .inr h⟩
    · rintro ⟨off, ⟨rfl, rfl⟩ | h⟩
      · exact .inl rfl
      · exact .inr ⟨off, h⟩
  | .own j :: l, id => by
    simp only [viewIds, List.mem_cons, mem_views (l := l)]
    constructor
    · rintro ⟨off, h⟩; exact ⟨off, .inr h⟩
    · rintro ⟨off, h | h⟩
      · cases h
      · exact ⟨off, h⟩
omit hu in
theorem Came.cols {p : Prep} {r0 : Rho} {E0 : Hp} (hc : Came P r hp w p r0 E0) {id : Nat} (h : id ∈ viewIds p.src) : ∃ md t cs, hget hp id = .cols md t cs := by
  obtain ⟨off, h⟩ := mem_views.1 h
  obtain ⟨i, hi⟩ := List.mem_iff_getElem?.1 h
  obtain ⟨_, _, _, _, _, _, _, _, _, _, _, h9⟩ := hc.prep.view i id off hi
  exact h9
omit hu in
theorem frzW_get {p : Prep} (i : Nat) : hget (hwrites hp (frzW hp p.src)) i = if i ∈ viewIds p.src then Sx.frz (hget hp i) else hget hp i := hget_frz hp _ hp i
omit hu in
theorem Came.frz {p : Prep} {r0 : Rho} {E0 : Hp} (hc : Came P r hp w p r0 E0) : Came P r (hwrites hp (frzW hp p.src)) w p r0 E0 := by
  have hv : ∀ id, id ∈ viewIds p.src → ∃ t cs, hget (hwrites hp (frzW hp p.src)) id = .cols .ro t cs := fun id h => by
    obtain ⟨md, t, cs, e⟩ := hc.cols h
    rw [frzW_get, if_pos h, e]; exact ⟨t, cs, rfl⟩
  have ho : ∀ id, Src.own id ∈ p.src → hget (hwrites hp (frzW hp p.src)) id = hget hp id := fun id h => by
    rw [frzW_get]
    split
    · rename_i h2
      obtain ⟨md, t, cs, e⟩ := hc.cols h2
      obtain ⟨off, h3⟩ := mem_views.1 h2
      have h4 := hc.views id off h3 h
      rw [e] at h4 ⊢
      cases md with
      | ro => rfl
      | var => cases h4
      | row n => cases h4
    · rfl
  refine ⟨⟨hc.prep.len, hc.prep.own, fun i id off h => ?_, hc.prep.nope, hc.prep.inj⟩, hc.len, fun j b hj => ⟨fun id hid => ?_, (hc.acc j b hj).2⟩, fun id off h1 h2 => ?_⟩
  · obtain ⟨x, y, b, h1, h2, h3, h4, h5, h6, h7, h8, h9⟩ := hc.prep.view i id off h
    obtain ⟨t, cs, e⟩ := hv id (mem_views.2 ⟨off, List.mem_of_getElem? h⟩)
    exact ⟨x, y, b, h1, h2, h3, h4, h5, by rw [e]; rfl, h7, h8, ⟨.ro, t, cs, e⟩⟩
  · rw [ho id (List.mem_of_getElem? hid)]
    exact (hc.acc j b hj).1 id hid
  · obtain ⟨t, cs, e⟩ := hv id (mem_views.2 ⟨off, h1⟩)
    rw [e]; rfl
/-- A call, whatever comes back. -/
theorem call_sound2 {view : Bool} {f : FuncId} {args args' : List V} {p p2 : Prep} {E0 : Hp} {o : List Bool} {R : V → Hp → Prop} {vals : List Value} {base : Nat}
    (hs : St P own w0 rb r fr hp a w) (hp1 : prepL uI uB uL view hp ⟨[], [], some []⟩ args = (p, args')) (hp2 : closeUp uI uB uL hp 100 0 p [] = (p2, E0)) (ho : p2.obl = some o) (hot : AllTrue o)
    (hv : viewsOk hp p2.src p2.src = true) (hctr : Ctr P f E0 args' R) (hvals : VRelL r args vals) :
    Calls P f vals.toArray w fun e w' => ∃ v x E, e = .returned v ∧ R x E ∧ ∀ W, ((W = mergeH uI p2.src base (llen p2.src) 0 E ∧ newsOk hp p2.src E = true) ∨ (W = frzW hp p2.src ++ mergeH uI p2.src base (llen p2.src) 0 E ∧ newsOk (hwrites hp (frzW hp p2.src)) p2.src E = true)) →
      (∀ i, p2.src.length ≤ i → i < E.length → hget hp (base + (i - p2.src.length)) = .unborn) →
      ∃ r', r.le r' ∧ VRel r' (backV uI p2.src base (llen p2.src) x) v ∧ Good P own r' (hwrites hp W) w' ∧ Keep own w w' := by
  have hg := hs.good
  have hO : OblOk p2.obl := ⟨o, ho, hot⟩
  have hcg := close_grow (uI := uI) (uB := uB) (uL := uL) (hp := hp) 100 0 hp2
  have hO1 := hcg.2 hO
  have hp00 : PrepOk P r hp w ⟨[], [], some []⟩ (fun _ => none) := ⟨rfl, by simp, by simp, by simp, by simp⟩
  obtain ⟨l, hl⟩ := hcg.1
  obtain ⟨r1, g1, g2, g3⟩ := prepL_ok hu hg args hp00 hvals hp1 hO1 (fun s hs => rfl)
  obtain ⟨r0, k1, k2, k3, k4⟩ := close_ok hu hg 100 0 g1 rfl (Nat.zero_le _) (by simp) hp2 hO (fun _ _ => rfl)
  have hcame : Came P r hp w p2 r0 E0 := ⟨k1, k3, k4, fun id off h1 h2 => viewsOk_spec hv id off h1 h2⟩
  have hgood := hcame.good hg
  refine (hctr.spec w r0 vals hgood (hs.glob.sub (hcame.wr hg hs.news)) (VRelL.mono k2.le g3)).mono ?_
  rintro e w' ⟨v, x, E, rr, rfl, h1, h2, h3, h4, h5⟩
  refine ⟨v, x, E, rfl, h2, fun W hW hfresh => ?_⟩
  rcases hW with ⟨rfl, hnews⟩ | ⟨rfl, hnews⟩
  · obtain ⟨r2, m1, m2, m3, m4⟩ := merge_good hu hg hs.news hcame h3 h4 h5 hnews (fun _ _ => rfl) hfresh
    exact ⟨r2, m1, m4 x v h1, m2, m3⟩
  · have hgF : Good P own r (hwrites hp (frzW hp p2.src)) w := good_frz hp _ hp (fun _ _ => .inl rfl) (fun i hi => hcame.cols hi) hg
    obtain ⟨r2, m1, m2, m3, m4⟩ := merge_good hu hgF hs.news hcame.frz h3 h4 h5 hnews (fun _ _ => rfl) (fun i h6 h7 => by
      rw [frzW_get, hfresh i h6 h7]; split <;> rfl)
    rw [hwrites_app]
    exact ⟨r2, m1, m4 x v h1, m2, m3⟩

omit hu in
theorem call_run {c : Call} {ty : TypeId} {ρ : Operand → Value} {f : FuncId} {first captured : Array Value} {fv : Operand} (hc : c.callee = .value fv) (hf : ρ fv = .func (.func f) first captured) (h1 : first.size = 0) (h2 : captured.size = 0)
    (he : Entered P f) : (do let d ← resolve ρ c ty; invoke d.target d.args : Sem Next).run P w = .ok (.enter f (c.args.map ρ)) w := by
  obtain ⟨fn, e1, e2, e3⟩ := he
  have a1 : first = #[] := Array.eq_empty_of_size_eq_zero h1
  have a2 : captured = #[] := Array.eq_empty_of_size_eq_zero h2
  subst a1; subst a2
  have e3' : ¬ fn.name = "runtime.NumGoroutine" := by simpa using e3
  have e2' : ¬ fn.body = none := by intro h; rw [h] at e2; cases e2
  simp [resolve, hc, hf, Deferred.ofValue, invoke, callFunc, e1, e2', e3']

/-- What the evaluator finds at a call. -/
theorem vact_call {o : Oper} {n : Nat} {xs : List V} {bs : List Blk} {f : FuncId} {args : List V} (hc : isCallV o.op = true) (h : vact uI uB uS uL uT T n o.op xs bs = .call f args) :
    ∃ c fv first captured, o.op = .call c ∧ c.callee = .value fv ∧ xs = .raw (.func (.func f) first captured) :: args ∧ first.size = 0 ∧ captured.size = 0 := by
  unfold isCallV at hc
  split at hc
  · rename_i c hop
    split at hc
    · rename_i fv hcal
      simp only [hop, vact, callOut, hcal] at h
      split at h
      · rename_i g first captured args' 
        split at h
        · rename_i hb
          simp only [Out.call.injEq] at h; obtain ⟨rfl, rfl⟩ := h
          simp only [Bool.and_eq_true] at hb
          exact ⟨c, fv, first, captured, hop, hcal, rfl, Nat.eq_of_beq_eq_true hb.1, Nat.eq_of_beq_eq_true hb.2⟩
        · cases h
      · cases h
    · cases hc
  · cases hc

/-- One operation that is a call. -/
theorem step_call {o : Oper} {K : Act → World → Prop} {Q : Exit → Act → World → Prop} {n : Nat} {xs : List V} {bs : List Blk} {f : FuncId} {args args' : List V} {hpT : Hp} {p p2 : Prep} {E0 : Hp} {ob : List Bool} {R : V → Hp → Prop} {base : Nat}
    (hs : St P own w0 rb r fr hp a w) (hx : xs = opds fr (operandsL o.op)) (hic : isCallV o.op = true) (h : vact uI uB uS uL uT T n o.op xs bs = .call f args)
    (hp1 : prepL uI uB uL true hpT ⟨[], [], some []⟩ args = (p, args')) (hp2 : closeUp uI uB uL hpT 100 0 p [] = (p2, E0)) (ho : p2.obl = some ob) (hot : AllTrue ob)
    (hv : viewsOk hpT p2.src p2.src = true) (hag : ∀ s ∈ p2.src, hget hp s.id = hget hpT s.id) (hctr : Ctr P f E0 args' R)
    (hfresh : ∀ x E, R x E → newsOk hpT p2.src E = true ∧ ∀ i, p2.src.length ≤ i → i < E.length → hget hp (base + (i - p2.src.length)) = .unborn)
    (hK : ∀ r' x E a' w', R x E → St P own w0 rb r' (fsetO fr o.dst (backV uI p2.src base (llen p2.src) x)) (hwrites hp (mergeH uI p2.src base (llen p2.src) 0 E)) a' w' → K a' w') : o.wp P a w K Q := by
  obtain ⟨c, fv, first, captured, hop, hcal, hxs, h1, h2⟩ := vact_call hu hic h
  have hrel := hs.opds (operandsL o.op)
  rw [← hx, hxs, hop] at hrel
  simp only [operandsL, calleeL, hcal, List.cons_append, List.nil_append, List.map_cons, VRelL] at hrel
  have hfv : a.eval fv = .func (.func f) first captured := by simpa [VRel] using hrel.1
  unfold Oper.wp execOp
  simp only [hop]
  rw [call_run hcal hfv h1 h2 hctr.enter]
  rw [Oper.upon_enter]
  have hcs := call_sound hu (base := base) hs hp1 hp2 ho hot hv hag hctr hrel.2
  have hargs : (c.args.toList.map a.eval).toArray = c.args.map a.eval := Array.ext' (by simp)
  rw [hargs] at hcs
  refine hcs.mono ?_
  rintro e w' ⟨v, x, E, rfl, hR, hrest⟩
  obtain ⟨hn1, hn2⟩ := hfresh x E hR
  obtain ⟨r', m1, m2, m3, m4⟩ := hrest hn1 hn2
  exact hK r' x E _ w' hR (hs.put m1 m2 m3 m4)
/-- One operation that is a call, whatever comes back. -/
theorem step_call2 {view : Bool} {o : Oper} {K : Act → World → Prop} {Q : Exit → Act → World → Prop} {n : Nat} {xs : List V} {bs : List Blk} {f : FuncId} {args args' : List V} {p p2 : Prep} {E0 : Hp} {ob : List Bool} {R : V → Hp → Prop} {base : Nat}
    (hs : St P own w0 rb r fr hp a w) (hx : xs = opds fr (operandsL o.op)) (hic : isCallV o.op = true) (h : vact uI uB uS uL uT T n o.op xs bs = .call f args)
    (hp1 : prepL uI uB uL view hp ⟨[], [], some []⟩ args = (p, args')) (hp2 : closeUp uI uB uL hp 100 0 p [] = (p2, E0)) (ho : p2.obl = some ob) (hot : AllTrue ob)
    (hv : viewsOk hp p2.src p2.src = true) (hctr : Ctr P f E0 args' R)
    (hfresh : ∀ x E, R x E → ∃ W, ((W = mergeH uI p2.src base (llen p2.src) 0 E ∧ newsOk hp p2.src E = true) ∨ (W = frzW hp p2.src ++ mergeH uI p2.src base (llen p2.src) 0 E ∧ newsOk (hwrites hp (frzW hp p2.src)) p2.src E = true)) ∧
      (∀ i, p2.src.length ≤ i → i < E.length → hget hp (base + (i - p2.src.length)) = .unborn) ∧
      ∀ r' a' w', St P own w0 rb r' (fsetO fr o.dst (backV uI p2.src base (llen p2.src) x)) (hwrites hp W) a' w' → K a' w') : o.wp P a w K Q := by
  obtain ⟨c, fv, first, captured, hop, hcal, hxs, h1, h2⟩ := vact_call hu hic h
  have hrel := hs.opds (operandsL o.op)
  rw [← hx, hxs, hop] at hrel
  simp only [operandsL, calleeL, hcal, List.cons_append, List.nil_append, List.map_cons, VRelL] at hrel
  have hfv : a.eval fv = .func (.func f) first captured := by simpa [VRel] using hrel.1
  unfold Oper.wp execOp
  simp only [hop]
  rw [call_run hcal hfv h1 h2 hctr.enter]
  rw [Oper.upon_enter]
  have hcs := call_sound2 hu (base := base) hs hp1 hp2 ho hot hv hctr hrel.2
  have hargs : (c.args.toList.map a.eval).toArray = c.args.map a.eval := Array.ext' (by simp)
  rw [hargs] at hcs
  refine hcs.mono ?_
  rintro e w' ⟨v, x, E, rfl, hR, hrest⟩
  obtain ⟨W, hn1, hn2, hK⟩ := hfresh x E hR
  obtain ⟨r', m1, m2, m3, m4⟩ := hrest W hn1 hn2
  exact hK r' _ w' (hs.put m1 m2 m3 m4)
end
end
end Sx
set_option linter.unusedVariables false
set_option linter.unusedSimpArgs false
namespace Sx
open Go
section
variable {P : Program} {T : Tab} {own : Own} {r rb : Rho} {fr : Fr} {hp : Hp} {a : Act} {w w0 : World}
theorem colsSub_at : ∀ {cs ds : List Col} {j : Nat} {d : Col}, colsSub cs ds → colAt ds j = some d → ∃ c, colAt cs j = some c ∧ Col.sub c d
  | [], [], _, _, _, h => by simp [colAt] at h
  | c :: cs, d :: ds, 0, e, h, hd => by simp only [colsSub] at h; simp [colAt] at hd; subst hd; exact ⟨c, rfl, h.1⟩
  | c :: cs, d :: ds, j + 1, e, h, hd => by simp only [colsSub] at h; simp only [colAt] at hd ⊢; exact colsSub_at h.2 hd
  | [], _ :: _, _, _, h, _ => by simp [colsSub] at h
  | _ :: _, [], _, _, h, _ => by simp [colsSub] at h
theorem colsSub_len : ∀ {cs ds : List Col}, colsSub cs ds → ds.length = cs.length
  | [], [], _ => rfl
  | c :: cs, d :: ds, h => by simp only [colsSub] at h; simp [colsSub_len h.2]
  | [], _ :: _, h => by simp [colsSub] at h
  | _ :: _, [], h => by simp [colsSub] at h
theorem colSub_same {c d : Col} (h : Col.sub c d) : d.size = c.size ∧ ∀ i, d.cell i = c.cell i := by
  cases c <;> cases d <;> simp only [Col.sub] at h <;> try (exact h.elim)
  · obtain ⟨rfl, h⟩ := h; simp [Col.size, Col.cell, h]
  · simp [Col.size, Col.cell, h]
  · simp [Col.size, Col.cell, h]
theorem colAt_of_mem : ∀ {cs : List Col} {c : Col}, c ∈ cs → ∃ j, colAt cs j = some c
  | d :: cs, c, h => by
    rcases List.mem_cons.1 h with rfl | h
    · exact ⟨0, rfl⟩
    · obtain ⟨j, hj⟩ := colAt_of_mem h; exact ⟨j + 1, hj⟩
theorem cols_sub {cs ds : List Col} {vals : List Value} {n : Nat} (h : colsSub cs ds) (hc : ColsAt cs vals n) : ColsAt ds vals n := by
  have hl := colsSub_len h
  refine ⟨by rw [hl]; exact hc.len, fun d hd => ?_, fun i j d hi hd => ?_⟩
  · obtain ⟨j, hj⟩ := colAt_of_mem hd
    obtain ⟨c, h1, h2⟩ := colsSub_at h hj
    rw [(colSub_same h2).1]; exact hc.size c (colAt_mem h1)
  · obtain ⟨c, h1, h2⟩ := colsSub_at h hd
    rw [hl, (colSub_same h2).2]; exact hc.at_ i j c hi h1

/-! ## What is so of less -/
mutual
theorem sub_rel : ∀ {a b : V} {x : Value}, V.sub a b → VRel r a x → VRel r b x
  | _, .any, _, _, _ => by simp [VRel]
  | .int k a, .int k' b, x, h, hr => by simp only [V.sub] at h; simp only [VRel] at hr ⊢; rw [hr, h.1, h.2]
  | .str a, .str b, x, h, hr => by simp only [V.sub] at h; simp only [VRel] at hr ⊢; rw [hr, h]
  | .bool a, .bool b, x, h, hr => by simp only [V.sub] at h; simp only [VRel] at hr ⊢; rw [hr, h]
  | .sbool a, .bool b, x, h, hr => by simp only [V.sub] at h; simp only [VRel] at hr ⊢; rw [hr, h]
  | .bool a, .sbool b, x, h, hr => by simp only [V.sub] at h; simp only [VRel] at hr ⊢; rw [hr, h]
  | .sbool a, .sbool b, x, h, hr => by simp only [V.sub] at h; simp only [VRel] at hr ⊢; rw [hr, h]
  | .vec i a, .vec j b, x, h, hr => by simp only [V.sub] at h; simp only [VRel] at hr ⊢; rw [← h.1, ← h.2]; exact hr
  | .vec i a, .sl j q b, x, h, hr => by
    simp only [V.sub] at h; simp only [VRel] at hr ⊢
    obtain ⟨y, m, h1, h2, h3, h4, rfl⟩ := hr
    refine ⟨y, m, y.cap, y.a, by rw [← h.1]; exact h1, by rw [← h.2.2]; exact h2, h3, by rw [h.2.1]; exact Int.le_refl 0, rfl, fun h0 => ?_⟩
    obtain ⟨b', hb⟩ := h4 h0
    exact ⟨b', hb, by rw [hb, h.2.1]; simp [Addr.add]⟩
  | .sl i o a, .sl j q b, x, h, hr => by simp only [V.sub] at h; simp only [VRel] at hr ⊢; rw [← h.1, ← h.2.1, ← h.2.2]; exact hr
  | .ptr i o, .ptr j q, x, h, hr => by
    simp only [V.sub] at h; simp only [VRel] at hr ⊢
    obtain ⟨y, b, h1, h2, h3, h4⟩ := hr
    exact ⟨y, b, by rw [← h.1]; exact h1, h2, h.2.2 h3, by rw [← h.2.1]; exact h4⟩
  | .agg l, .agg m, x, h, hr => by
    simp only [V.sub] at h; simp only [VRel] at hr ⊢
    obtain ⟨cs, h1, h2, h3⟩ := hr
    exact ⟨cs, h1, subL_rel h h2, h3⟩
  | .tup l, .tup m, x, h, hr => by
    simp only [V.sub] at h; simp only [VRel] at hr ⊢
    obtain ⟨cs, h1, h2⟩ := hr
    exact ⟨cs, h1, subL_rel h h2⟩
  | .cols n c, .cols m d, x, h, hr => by
    simp only [V.sub] at h; simp only [VRel] at hr ⊢
    obtain ⟨vals, q, h1, h2, h3⟩ := hr
    exact ⟨vals, q, h1, cols_sub h.2 h2, by rw [h3, h.1]⟩
  | .iface t a, .iface u b, x, h, hr => by
    simp only [V.sub] at h; simp only [VRel] at hr ⊢
    obtain ⟨y, h1, h2⟩ := hr
    exact ⟨y, by rw [← h.1]; exact h1, sub_rel h.2 h2⟩
  | .nilif, .nilif, x, h, hr => hr
  | .nilp, .nilp, x, h, hr => hr
  | .nilsl, .nilsl, x, h, hr => hr
  | .undef, .undef, x, h, hr => hr
  | .raw a, .raw b, x, h, hr => by simp only [V.sub] at h; rw [← h]; exact hr
  | .undef, .bool _, _, h, _ => by simp [V.sub] at h
  | .nilq p a, .nilq q b, x, h, hr => by simp only [V.sub] at h; simp only [VRel] at hr ⊢; rw [← h.1, ← h.2]; exact hr
theorem subL_rel : ∀ {l m : List V} {xs : List Value}, V.subL l m → VRelL r l xs → VRelL r m xs
  | [], [], xs, _, hr => hr
  | a :: l, b :: m, [], _, hr => by simp [VRelL] at hr
  | a :: l, b :: m, x :: xs, h, hr => by simp only [V.subL] at h; simp only [VRelL] at hr ⊢; exact ⟨sub_rel h.1 hr.1, subL_rel h.2 hr.2⟩
  | [], _ :: _, _, h, _ => by simp [V.subL] at h
  | _ :: _, [], _, h, _ => by simp [V.subL] at h
end


end
/-! ## A contract for less -/
def Blk.alike (a b : Blk) : Prop := Blk.sub a b ∧ b.live = a.live
def alikeH : Hp → Hp → Prop
  | [], [] => True
  | a :: r, b :: q => Blk.alike a b ∧ alikeH r q
  | _, _ => False
theorem alikeH_get : ∀ {E E' : Hp}, alikeH E E' → ∀ i, Blk.alike (hget E i) (hget E' i)
  | [], [], _, i => ⟨by simp [hget, Blk.sub], rfl⟩
  | a :: r, b :: q, h, 0 => by simp only [alikeH] at h; exact h.1
  | a :: r, b :: q, h, i + 1 => by simp only [alikeH] at h; exact alikeH_get h.2 i
  | [], _ :: _, h, _ => by simp [alikeH] at h
  | _ :: _, [], h, _ => by simp [alikeH] at h
theorem alike_same {a b : Blk} (h : Blk.alike a b) : b.mut = a.mut ∧ b.live = a.live ∧ (a.live = true → ∀ (w : World) (x : RA) (g : Nat), b.uses w x g ↔ a.uses w x g) ∧ (b = .unborn → a = .unborn) := by
  obtain ⟨h1, h2⟩ := h
  cases a <;> cases b <;> simp only [Blk.sub, Blk.live] at h1 h2 <;> try (first | exact h1.elim | (cases h2; done))
  · exact ⟨rfl, rfl, fun h => (by cases h), fun _ => rfl⟩
  · exact ⟨rfl, rfl, fun h => (by cases h), fun h => (by cases h)⟩
  · exact ⟨rfl, rfl, fun _ _ _ _ => Iff.rfl, fun h => (by cases h)⟩
  · rename_i md _ _ md' _ _
    cases md <;> cases md' <;> simp only [Blk.sub] at h1
    · exact ⟨rfl, rfl, fun _ _ _ _ => Iff.rfl, fun h => (by cases h)⟩
    · exact ⟨rfl, rfl, fun _ _ _ _ => Iff.rfl, fun h => (by cases h)⟩
    · exact ⟨rfl, rfl, fun _ _ _ _ => Iff.rfl, fun h => (by cases h)⟩
  · obtain ⟨rfl, rfl⟩ := h1; exact ⟨rfl, rfl, fun _ _ _ _ => Iff.rfl, fun h => (by cases h)⟩
  · obtain ⟨rfl, rfl, rfl⟩ := h1; exact ⟨rfl, rfl, fun _ _ _ _ => Iff.rfl, fun h => (by cases h)⟩
theorem alike_rel {P : Program} {r : Rho} {w : World} {x : RA} {a b : Blk} (h : Blk.alike a b) (hr : BRel P r w x a) : BRel P r w x b := by
  obtain ⟨h1, h2⟩ := h
  cases a <;> cases b <;> simp only [Blk.sub, Blk.live] at h1 h2 <;> try (first | exact h1.elim | (cases h2; done))
  · exact hr
  · trivial
  · obtain ⟨rfl, hs⟩ := h1
    obtain ⟨g, vals, b1, b2, b3, b4⟩ := hr
    exact ⟨g, vals, b1, b2, subL_rel hs b3, b4⟩
  · rename_i md _ _ md' _ _
    cases md <;> cases md' <;> simp only [Blk.sub] at h1
    · obtain ⟨rfl, hc⟩ := h1
      obtain ⟨g, vals, n, b1, b2, b3, b4, b5⟩ := hr
      exact ⟨g, vals, n, b1, b2, cols_sub hc b3, fun e => b4 (by have := colsSub_len hc; rw [e] at this; exact List.eq_nil_of_length_eq_zero this.symm), b5⟩
    · obtain ⟨rfl, hc⟩ := h1
      obtain ⟨vals, n, b1, b2, b3⟩ := hr
      exact ⟨vals, n, cols_sub hc b1, fun e => b2 (by have := colsSub_len hc; rw [e] at this; exact List.eq_nil_of_length_eq_zero this.symm), b3⟩
    · obtain ⟨rfl, rfl, hc⟩ := h1
      obtain ⟨vals, n, m, b1, b2, b3⟩ := hr
      exact ⟨vals, n, m, cols_sub hc b1, fun e => b2 (by have := colsSub_len hc; rw [e] at this; exact List.eq_nil_of_length_eq_zero this.symm), b3⟩
  · obtain ⟨rfl, rfl⟩ := h1; exact hr
  · obtain ⟨rfl, rfl, rfl⟩ := h1; exact hr
theorem alike_good {P : Program} {own : Own} {r : Rho} {w : World} {E E' : Hp} (h : alikeH E E') (hg : Good P own r E w) : Good P own r E' w := by
  have S := fun i => alike_same (alikeH_get h i)
  refine ⟨fun i hi => hg.born i ((S i).2.2.2 hi), fun i hi => ?_, fun i x b hm hx hb => hg.own i x b (by rw [← (S i).1]; exact hm) hx hb, fun i j x y b g hij hm hl hx hy hb hu => ?_, fun i x g hl hx hu => ?_, fun i x g hl hx hu => ?_⟩
  · have hne : hget E i ≠ .unborn := by
      intro e
      have := (alikeH_get h i).1
      rw [e] at this
      cases hq : hget E' i <;> rw [hq] at this hi <;> simp only [Blk.sub] at this
      exact hi rfl
    obtain ⟨x, h1, h2⟩ := hg.rel i hne
    exact ⟨x, h1, alike_rel (alikeH_get h i) h2⟩
  · have hl' : (hget E j).live = true := by rw [← (S j).2.1]; exact hl
    exact hg.apart i j x y b g hij (by rw [← (S i).1]; exact hm) hl' hx hy hb (((S j).2.2.1 hl' w y g).1 hu)
  · have hl' : (hget E i).live = true := by rw [← (S i).2.1]; exact hl
    exact hg.below i x g hl' hx (((S i).2.2.1 hl' w x g).1 hu)
  · have hl' : (hget E i).live = true := by rw [← (S i).2.1]; exact hl
    exact hg.seen i x g hl' hx (((S i).2.2.1 hl' w x g).1 hu)
theorem alike_own {r : Rho} {w : World} {E E' : Hp} (h : alikeH E E') : ownOf r E' w = ownOf r E w := by
  have S := fun i => alike_same (alikeH_get h i)
  have h1 : (ownOf r E' w).wr = (ownOf r E w).wr := by
    funext g
    simp only [ownOf, (S _).1]
  have h2 : (ownOf r E' w).see = (ownOf r E w).see := by
    funext g
    simp only [ownOf, (S _).2.1]
    refine propext (or_congr Iff.rfl ⟨?_, ?_⟩)
    · rintro ⟨i, x, k1, k2, k3⟩; exact ⟨i, x, k1, k2, ((S i).2.2.1 k1 w x g).1 k3⟩
    · rintro ⟨i, x, k1, k2, k3⟩; exact ⟨i, x, k1, k2, ((S i).2.2.1 k1 w x g).2 k3⟩
  cases hA : ownOf r E' w
  cases hB : ownOf r E w
  rw [hA, hB] at h1 h2
  simp only at h1 h2
  subst h1; subst h2; rfl
theorem Ctr.conv {P : Program} {f : FuncId} {E0 E1 : Hp} {args args1 : List V} {R : V → Hp → Prop} (h : Ctr P f E0 args R) (hE : alikeH E1 E0) (ha : V.subL args1 args) : Ctr P f E1 args1 R := by
  refine ⟨h.enter, fun w0 r0 vals hg hgl hv => ?_⟩
  have hg' := alike_good hE hg
  rw [← alike_own hE] at hg' hgl ⊢
  exact h.spec w0 r0 vals hg' hgl (subL_rel ha hv)

/-! ## What is handed in, as terms -/
theorem colsSub_norm : ∀ cs : List Col, colsSub cs (normC cs)
  | [] => trivial
  | .ints k xs :: r => ⟨⟨rfl, rfl⟩, colsSub_norm r⟩
  | .strs xs :: r => ⟨rfl, colsSub_norm r⟩
  | .bools xs :: r => ⟨rfl, colsSub_norm r⟩
mutual
theorem sub_norm (b c : Bool) : ∀ v : V, V.sub v (normV b c v)
  | .any => trivial
  | .undef => trivial
  | .bool t => by cases c <;> rfl
  | .sbool b => rfl
  | .int k n => ⟨rfl, rfl⟩
  | .str s => rfl
  | .nilp => trivial
  | .ptr _ o => ⟨rfl, rfl, fun h => h⟩
  | .nilsl => trivial
  | .vec id n => ⟨rfl, rfl⟩
  | .sl id off n => by cases b <;> exact ⟨rfl, rfl, rfl⟩
  | .agg l => subL_norm b true l
  | .cols sz cs => ⟨rfl, colsSub_norm cs⟩
  | .tup l => subL_norm b true l
  | .iface t v => ⟨rfl, sub_norm b c v⟩
  | .nilif => trivial
  | .nilq p n => ⟨rfl, rfl⟩
  | .raw v => rfl
theorem subL_norm (b c : Bool) : ∀ l : List V, V.subL l (normL b c l)
  | [] => trivial
  | v :: r => ⟨sub_norm b c v, subL_norm b c r⟩
end
theorem alike_norm (b : Blk) : Blk.alike b (normB b) := by
  cases b with
  | unborn => exact ⟨trivial, rfl⟩
  | dead => exact ⟨trivial, rfl⟩
  | cells t cs => exact ⟨⟨rfl, subL_norm true true cs⟩, rfl⟩
  | cols md t cs => cases md <;> first | exact ⟨⟨rfl, colsSub_norm cs⟩, rfl⟩ | exact ⟨⟨rfl, rfl, colsSub_norm cs⟩, rfl⟩
  | slices k xss => exact ⟨⟨rfl, rfl⟩, rfl⟩
  | srow e k xss => exact ⟨⟨rfl, rfl, rfl⟩, rfl⟩
theorem alikeH_norm : ∀ H : Hp, alikeH H (normH H)
  | [] => trivial
  | b :: H => ⟨alike_norm b, alikeH_norm H⟩
theorem Ctr.norm {P : Program} {f : FuncId} {E : Hp} {args : List V} {R : V → Hp → Prop} (h : Ctr P f (normH E) (normL false false args) R) : Ctr P f E args R :=
  h.conv (alikeH_norm E) (subL_norm false false args)
end Sx
set_option linter.unusedVariables false
set_option linter.unusedSimpArgs false
namespace Sx
open Go
section
variable {P : Program} {T : Tab} {own : Own} {r : Rho} {fr : Fr} {hp : Hp} {a : Act} {w w0 : World} {rb : Rho}

theorem dstOf_eq : ∀ (all : List Oper) (j : Nat), dstOf all j = (all[j]?).bind (·.dst)
  | [], j => by simp [dstOf]
  | o :: r, 0 => by simp [dstOf]
  | o :: r, j + 1 => by simp [dstOf, dstOf_eq r j]

theorem wanted_ok {all : List Oper} {o : Oper} {b : Bool} (hs : ∀ t, VRel r (fget fr t) (a.tmps.getD t undef)) (h : wantedV all o fr = some b) : Region.wanted o (yielded all.toArray a.tmps) = b := by
  unfold wantedV at h
  unfold Region.wanted
  split at h
  · rename_i hg; simp only [hg]; simpa using h
  · rename_i j want hg
    simp only [hg]
    split at h
    · cases h
    · rename_i d hd
      rw [dstOf_eq] at hd
      have hy : yielded all.toArray a.tmps j = match a.tmps[d]? with | some (.bool b) => some b | _ => none := by
        unfold yielded
        rw [List.getElem?_toArray, hd]; rfl
      rw [hy]
      have hr := hs d
      split at h
      · rename_i c hc
        rw [hc] at hr
        simp only [VRel] at hr
        have : a.tmps[d]? = some (.bool c) := by
          rw [Array.getD_eq_getD_getElem?] at hr
          cases hq : a.tmps[d]? with
          | none => rw [hq] at hr; simp [undef] at hr
          | some x => rw [hq] at hr; simp at hr; rw [hr]
        rw [this]
        simp only [Option.some.injEq] at h
        rw [← h]
        cases c <;> cases want <;> rfl
      · rename_i hc
        rw [hc] at hr
        simp only [VRel] at hr
        simp only [Option.some.injEq] at h; subst h
        rw [Array.getD_eq_getD_getElem?] at hr
        cases hq : a.tmps[d]? with
        | none => rfl
        | some x => rw [hq] at hr; simp at hr; rw [hr]; rfl
      · cases h

/-- Slots that aren't written stay. -/
structure Same (ws : List Nat) (fr fr' : Fr) : Prop where
  len : fr'.length = fr.length
  keep : ∀ t, t ∉ ws → fget fr' t = fget fr t ∨ fget fr' t = .any
theorem Same.refl (ws : List Nat) (fr : Fr) : Same ws fr fr := ⟨rfl, fun _ _ => .inl rfl⟩
theorem Same.trans {ws us : List Nat} {a b c : Fr} (h : Same ws a b) (k : Same us b c) : Same (ws ++ us) a c :=
  ⟨k.len.trans h.len, fun t ht => by
    rcases k.keep t (fun q => ht (by simp [q])) with e | e
    · rw [e]; exact h.keep t (fun q => ht (by simp [q]))
    · exact .inr e⟩
theorem Same.mono {ws us : List Nat} {a b : Fr} (h : Same ws a b) (hs : ∀ t ∈ ws, t ∈ us) : Same us a b := ⟨h.len, fun t ht => h.keep t (fun q => ht (hs t q))⟩

section
variable {uI : FI → Int} {uB : FB → Bool} {uS : FS → ByteArray} {uL : FL → List Int} {uT : FT → TT} (hu : Std uI uB uS uL uT)
include hu

omit hu in
theorem Same.put {fr fr' : Fr} {d : Option Nat} {v : V} {l : List Oper} {o : Oper} (hd : o.dst = d) (h : Same (dstsL l) (fsetO fr d v) fr') : Same (dstsL (o :: l)) fr fr' := by
  refine ⟨?_, fun t ht => ?_⟩
  · rw [h.len]; cases d <;> simp [fsetO, fset_length]
  · have hl : t ∉ dstsL l := fun q => ht (by simp only [dstsL]; split <;> simp [q])
    refine (h.keep t hl).imp (fun e0 => ?_) id
    rw [e0]
    cases d with
    | none => rfl
    | some d => exact fget_fset_ne _ _ _ _ (fun e => ht (by simp [dstsL, hd, e]))

theorem vops_sound {all : List Oper} {K : Fr → Hp → Prop} {Q : Exit → Act → World → Prop} (hT : TabOk P T) :
    ∀ (l : List Oper) {r : Rho} {fr : Fr} {hp : Hp} {a : Act} {w : World}, St P own w0 rb r fr hp a w → (∀ r fr' hp a w, St P own w0 rb r fr' hp a w → Same (dstsL l) fr fr' → K fr' hp → Q .normal a w) →
      vops uI uB uS uL uT T P all K l fr hp → wpList P all.toArray Q l a w
  | [], r, fr, hp, a, w, hs, hK, h => hK r fr hp a w hs (Same.refl _ _) h
  | o :: l, r, fr, hp, a, w, hs, hK, h => by
    have ih := fun {v : V} {r : Rho} {hp : Hp} {a : Act} {w : World} (hs' : St P own w0 rb r (fsetO fr o.dst v) hp a w) => vops_sound (all := all) (Q := Q) hT l (r := r) (hp := hp) (a := a) (w := w) hs'
      (fun r fr' hp a w h1 h2 h3 => hK r fr' hp a w h1 (Same.put rfl h2) h3)
    simp only [vops] at h
    simp only [wpList]
    unfold vopGo at h
    split at h
    · exact h.elim
    · rename_i hw
      rw [if_neg (by rw [wanted_ok hs.rel hw]; simp)]
      exact ih (hs.put (Rho.le_refl r) (by simp [VRel]) hs.good (Keep.refl own w)) h
    · rename_i hw
      rw [if_pos (wanted_ok hs.rel hw)]
      refine .inl ?_
      unfold vopXs vopIds at h
      split at h
      · exact h.elim
      · rename_i hd
        unfold vopOut at h
        split at h
        · exact h.elim
        · rename_i obl v out new hv
          obtain ⟨ho, h2⟩ := obls_of h
          obtain ⟨u, hu1, hu2⟩ := St.split (d := o.dst) h2
          refine step_val hu hT hs (fun _ => hget_ge _ _ (by rw [llen_eq]; exact Nat.le_refl _)) rfl rfl hd hv ho (fun r' a' w' hs' => ?_)
          exact ih (hu2 hs') hu1
        · rename_i f args hv
          split at h
          · rename_i hic
            have key : ∀ {view : Bool}, callK uI uB uL view P f args hp (fun v W => splitV v fun v => vops uI uB uS uL uT T P all K l (fsetO fr o.dst v) (hwrites hp W)) → o.wp P a w (fun a w => wpList P all.toArray Q l a w) (Q) := fun {view} h => by
              unfold callK at h
              split at h
              rename_i p args' hp1
              split at h
              rename_i p2 E0 hp2
              split at h
              · exact h.elim
              · rename_i ob hob
                split at h
                · exact h.elim
                · rename_i hvo
                  obtain ⟨ho, h2⟩ := obls_of h
                  refine step_call2 hu (base := llen hp) hs rfl hic hv hp1 hp2 hob ho hvo h2.spec.norm (fun x E hR => ?_)
                  split at hR
                  · rename_i hno
                    split at hR
                    · exact hR.elim
                    · rename_i hno2
                      obtain ⟨u, hu1, hu2⟩ := St.split (d := o.dst) hR
                      exact ⟨_, .inr ⟨rfl, hno2⟩, fun i _ _ => hget_ge _ _ (by rw [llen_eq]; omega), fun r' a' w' hs' => ih (hu2 hs') hu1⟩
                  · rename_i hno
                    obtain ⟨u, hu1, hu2⟩ := St.split (d := o.dst) hR
                    exact ⟨_, .inl ⟨rfl, hno⟩, fun i _ _ => hget_ge _ _ (by rw [llen_eq]; omega), fun r' a' w' hs' => ih (hu2 hs') hu1⟩
            split at h
            · exact key h
            · cases h with
              | view h => exact key h
              | own h => exact key h
          · exact h.elim
end
end
end Sx
