import Derived.Test.YtdpfjoojppmpbaaDoorSx2
import Derived.ChangeOld
import Derived.OpenShut
import Derived.WideShapes
import Derived.ProofKit
import Derived.Laws.BitsAllLaws
import Derived.Laws.BitsLemmas
set_option linter.all false
set_option linter.unusedSectionVars false
set_option linter.unusedVariables false
set_option linter.unusedSimpArgs false
namespace Sx
open Go Go.ChangeShapes Go.WideShapes Go.RowKit

/-- A cell's kind, as it came in. -/
inductive CK where
  | int (k : IntKind)
  | str
  | bool
  | sl (e : TypeId) (ks : List CK)
mutual
def CellOk (w : World) : CK → Value → Prop
  | .int k, v => ∃ n, v = .int k n ∧ (Lit.int k n).wf = true
  | .str, v => ∃ s : ByteArray, v = .string s ∧ s.size ≤ maxLen
  | .bool, v => ∃ b, v = .bool b
  | .sl e ks, v => ∃ (A : Option Addr) (len cap : Nat) (rows : List (List Value)), v = .slice A len cap ∧ len ≤ cap ∧ cap ≤ maxLen ∧ rows.length = len ∧ (0 < len → ∃ a, A = some a ∧ a.block < w.heap.size) ∧
      (∀ vs, vs ∈ rows → CellsOk w ks vs) ∧ ∀ a, A = some a → ∀ i j, i < len → j < ks.length → w.cell? (a.add (i * ks.length + j)) = (rows.getD i [])[j]?
def CellsOk (w : World) : List CK → List Value → Prop
  | [], [] => True
  | k :: ks, v :: vs => CellOk w k v ∧ CellsOk w ks vs
  | _, _ => False
end
theorem CellsOk.len {w : World} : ∀ {ks : List CK} {vs : List Value}, CellsOk w ks vs → vs.length = ks.length
  | [], [], _ => rfl
  | k :: ks, v :: vs, h => by simp only [CellsOk] at h; simp [CellsOk.len h.2]
  | [], _ :: _, h => by simp [CellsOk] at h
  | _ :: _, [], h => by simp [CellsOk] at h
theorem CellsOk.append {w : World} : ∀ {ks ks' : List CK} {vs vs' : List Value}, CellsOk w ks vs → CellsOk w ks' vs' → CellsOk w (ks ++ ks') (vs ++ vs')
  | [], _, [], _, _, h => h
  | k :: ks, ks', v :: vs, vs', h, h' => by simp only [CellsOk, List.cons_append] at h ⊢; exact ⟨h.1, CellsOk.append h.2 h'⟩
  | [], _, _ :: _, _, h, _ => by simp [CellsOk] at h
  | _ :: _, _, [], _, h, _ => by simp [CellsOk] at h
def repK (n : Nat) (ks : List CK) : List CK :=
  match n with
  | 0 => []
  | n + 1 => ks ++ repK n ks
/-- The kinds of fields that lie one behind the other. -/
def kindsFs (f : TypeId → Option (List CK)) : Nat → List Field → Option (List CK)
  | _, [] => some []
  | o, x :: r => match f x.type with
    | some ks => if x.offset = o then (match kindsFs f (o + ks.length) r with
      | some l => some (ks ++ l)
      | none => none) else none
    | none => none
def kindsOf (P : Program) : Nat → TypeId → Option (List CK)
  | 0, _ => none
  | n + 1, t => match P.underlying t with
    | some (.int k) => some [.int k]
    | some .string => some [.str]
    | some .bool => some [.bool]
    | some (.struct fs) => match kindsFs (kindsOf P n) 0 fs.toList with
      | some ks => if ks.length = P.cellsOf t then some ks else none
      | none => none
    | some (.array m e) => match kindsOf P n e with
      | some ks => if m * ks.length = P.cellsOf t ∧ ks.length = P.cellsOf e then some (repK m ks) else none
      | none => none
    | some (.slice e) => match kindsOf P n e with
      | some ks => if ks.length = P.cellsOf e ∧ 0 < ks.length then some [.sl e ks] else none
      | none => none
    | _ => none

section
variable {H : Type} {enc : TypeId × Value → H} {P : Program} {w : World}

theorem repK_ok {ks : List CK} : ∀ {n : Nat} {cs : List Value}, cs.length = n * ks.length → (∀ i, i < n → CellsOk w ks ((cs.drop (i * ks.length)).take ks.length)) → CellsOk w (repK n ks) cs
  | 0, cs, hl, _ => by
    have : cs = [] := List.eq_nil_of_length_eq_zero (by omega)
    subst this; simp [repK, CellsOk]
  | n + 1, cs, hl, h => by
    have e : cs = cs.take ks.length ++ cs.drop ks.length := (List.take_append_drop _ _).symm
    rw [e]
    simp only [repK]
    refine CellsOk.append (by have := h 0 (by omega); simpa using this) (repK_ok (by simp [hl, Nat.add_mul]) (fun i hi => ?_))
    have := h (i + 1) (by omega)
    rw [List.drop_drop]
    rw [show (i + 1) * ks.length = ks.length + i * ks.length by rw [Nat.add_mul]; omega] at this
    exact this
theorem take_same {α : Type} (l : List α) {c k : Nat} (h : (l.take c).length = k) : l.take c = l.take k := by
  rw [List.length_take] at h
  subst h
  rw [List.take_eq_take_min]
theorem kindsFs_ok {f : TypeId → Option (List CK)} : ∀ (fs : List Field) (o : Nat) (cs : List Value) (ks : List CK), kindsFs f o fs = some ks →
    (∀ x ∈ fs, ∀ k, f x.type = some k → CellsOk w k ((cs.drop x.offset).take (P.cellsOf x.type))) → CellsOk w ks ((cs.drop o).take ks.length)
  | [], o, cs, ks, h, _ => by simp only [kindsFs, Option.some.injEq] at h; subst h; simp [CellsOk]
  | x :: r, o, cs, ks, h, hx => by
    simp only [kindsFs] at h
    split at h
    · rename_i k hk
      split at h
      · rename_i ho
        split at h
        · rename_i l hl
          simp only [Option.some.injEq] at h; subst h
          have h1 := hx x (by simp) k hk
          rw [take_same _ h1.len, ho] at h1
          have h2 := kindsFs_ok r _ cs _ hl (fun y hy => hx y (by simp [hy]))
          have e : (cs.drop o).take (k ++ l).length = (cs.drop o).take k.length ++ (cs.drop (o + k.length)).take l.length := by
            rw [List.length_append, List.take_add, List.drop_drop]
          rw [e]; exact h1.append h2
        · cases h
      · cases h
    · cases h

theorem kinds_ok {held : Bool} : ∀ (n : Nat) {t : TypeId} {fuel : Nat} {cs : List Value} {x : DataW H × List MemPlace} {ks : List CK}, DataW.trod enc P w 0 (fun _ => true) held fuel t cs = some x → kindsOf P n t = some ks → CellsOk w ks cs
  | 0, _, _, _, _, _, _, h => by simp [kindsOf] at h
  | n + 1, t, fuel, cs, x, ks, hx, h => by
    have hlt := DataW.trod_lt (enc := enc) (P := P) (w := w) (base := 0) (spare := fun _ => true) (held := held) fuel t cs x hx
    simp only [kindsOf] at h
    split at h
    · rename_i k ht
      simp only [Option.some.injEq] at h; subst h
      obtain ⟨m, rfl, _, hw⟩ := DataW.trod_int ht hx
      exact ⟨⟨m, rfl, hw⟩, trivial⟩
    · rename_i ht
      simp only [Option.some.injEq] at h; subst h
      obtain ⟨m, rfl, _, hw⟩ := DataW.trod_string ht hx
      exact ⟨⟨m, rfl, hw⟩, trivial⟩
    · rename_i ht
      simp only [Option.some.injEq] at h; subst h
      obtain ⟨m, rfl, _⟩ := DataW.trod_bool ht hx
      exact ⟨⟨m, rfl⟩, trivial⟩
    · rename_i fs ht
      split at h
      · rename_i l hl
        split at h
        · rename_i hlen
          simp only [Option.some.injEq] at h; subst h
          obtain ⟨xs, m, _, _, hcl, hxl, hf⟩ := DataW.trod_struct ht hx
          have := kindsFs_ok (P := P) (w := w) fs.toList 0 cs l hl (fun y hy k hk => by
            obtain ⟨i, hi⟩ := List.getElem?_of_mem hy
            have hi' : fs[i]? = some y := by simpa using hi
            have hil : i < fs.size := by
              rcases Nat.lt_or_ge i fs.size with h | h
              · exact h
              · rw [Array.getElem?_eq_none h] at hi'; cases hi'
            have hxi := hf i y hi'
            rw [List.getElem?_eq_getElem (by omega)] at hxi
            exact kinds_ok n hxi hk)
          rwa [List.drop_zero, List.take_of_length_le (by omega)] at this
        · cases h
      · cases h
    · rename_i m e ht
      split at h
      · rename_i l hl
        split at h
        · rename_i hlen
          simp only [Option.some.injEq] at h; subst h
          obtain ⟨xs, q, _, _, hcl, hxl, hf⟩ := DataW.trod_array ht hx
          refine repK_ok (by omega) (fun i hi => ?_)
          have hxi := hf i hi
          rw [List.getElem?_eq_getElem (by omega), ← hlen.2] at hxi
          exact kinds_ok n hxi hl
        · cases h
      · cases h
    · rename_i e ht
      split at h
      · rename_i l hl
        split at h
        · rename_i hlen
          simp only [Option.some.injEq] at h; subst h
          rcases DataW.trod_slice ht hx with ⟨rfl, _⟩ | ⟨a, len, cap, elems, rest, q, _, rfl, rfl, hb, hll, hm, hel, hei, _, _⟩
          · exact ⟨⟨none, 0, 0, [], rfl, by omega, by unfold maxLen; omega, rfl, by omega, by simp, by simp⟩, trivial⟩
          · have each : ∀ i, i < len → ∃ vs, w.cells? 0 (a.add (i * P.cellsOf e)) (P.cellsOf e) = some vs ∧ CellsOk w l vs := by
              intro i hi
              have := hei i hi
              rw [List.getElem?_eq_getElem (by omega)] at this
              obtain ⟨vs, h1, h2⟩ := Option.bind_eq_some_iff.1 this
              exact ⟨vs, h1, kinds_ok n h2 hl⟩
            refine ⟨⟨some a, len, cap, (List.range len).map fun i => (w.cells? 0 (a.add (i * P.cellsOf e)) (P.cellsOf e)).getD [], rfl, hll, hm, by simp, fun h0 => ⟨a, rfl, ?_⟩, fun vs hvs => ?_, fun b hb' i j hi hj => ?_⟩, trivial⟩
            · refine hlt (.cell a.block a.off) ?_
              simp only [List.mem_append]
              left
              simp only [MemPlace.row, List.mem_map, List.mem_range]
              exact ⟨0, Nat.mul_pos (by omega) (by omega), by simp⟩
            · obtain ⟨i, hi, rfl⟩ := List.mem_map.1 hvs
              obtain ⟨vs, h1, h2⟩ := each i (List.mem_range.1 hi)
              rw [h1]; exact h2
            · cases hb'
              obtain ⟨vs, h1, h2⟩ := each i hi
              obtain ⟨_, h3, h4⟩ := World.cells?_some h1
              have e1 : ((List.range len).map fun i => (w.cells? 0 (a.add (i * P.cellsOf e)) (P.cellsOf e)).getD []).getD i [] = vs := by
                simp [List.getD, hi, h1]
              rw [e1, hlen.1, ← h4 j (by omega), add_add]
        · cases h
      · cases h
    · cases h

theorem cell_of_okWide {t : TypeId} {v : Value} {base : Nat} {r : Reach} (h : Value.okWide P w r base t v) : (∃ cs, v = .agg cs ∧ v.cells = cs) ∨ v.cells = #[v] := by
  cases v <;> first | exact .inl ⟨_, rfl, rfl⟩ | exact .inr rfl
/-- An argument that came in: its value. -/
theorem arg_ok {held : Bool} {n : Nat} {t : TypeId} {v : Value} {d : DataW H} {p : List MemPlace} {ks : List CK} (h : DataW.Trod enc P w 0 (fun _ => true) held t v d p) (hk : kindsOf P n t = some ks) : CellsOk w ks v.cells.toList := by
  obtain ⟨fuel, hf⟩ := h
  exact kinds_ok n hf hk
theorem arg_agg {t : TypeId} {v : Value} {base : Nat} {r : Reach} (hv : Value.okWide P w r base t v) (ha : (match P.underlying t with | some (.struct _) | some (.array _ _) => true | _ => false) = true) : ∃ cs : List Value, v = .agg cs.toArray ∧ v.cells.toList = cs := by
  unfold Value.okWide at hv
  split at hv
  · obtain ⟨cs, rfl, _⟩ := hv; exact ⟨cs.toList, by simp, rfl⟩
  · obtain ⟨cs, rfl, _⟩ := hv; exact ⟨cs.toList, by simp, rfl⟩
  · rename_i h1 h2
    exfalso
    revert ha
    split
    · rename_i fs h; exact absurd h (h1 fs)
    · rename_i m e h; exact absurd h (h2 m e)
    · simp
theorem arg_one {t : TypeId} {v : Value} {base : Nat} {r : Reach} (hv : Value.okWide P w r base t v) (ha : (match P.underlying t with | some (.struct _) | some (.array _ _) => true | _ => false) = false) : v.cells.toList = [v] := by
  unfold Value.okWide at hv
  split at hv
  · rename_i h; rw [h] at ha; cases ha
  · rename_i h; rw [h] at ha; cases ha
  · cases v <;> first | rfl | (rename_i cs; unfold Cell.okWide at hv; revert hv; split <;> simp_all [Cell.ok])

/-- The arguments read as they did. -/
theorem trodAll_below {W W' : World} (hlo : laidOutB P = true) (bel : Below W.heap.size W W') : ∀ {ts : List TypeId} {vs : List Value} {ds : List (DataW H)} {ps : List MemPlace},
    (ts.all fun t => P.readableRec t && decide (t < P.types.size)) = true → DataW.TrodAll enc P W 0 (fun _ => true) true ts vs ds ps → (∀ x ∈ ps, x.block < W.heap.size) → DataW.TrodAll enc P W' 0 (fun b => decide (b < W.heap.size)) true ts vs ds ps
  | [], [], [], _, _, h, _ => h
  | t :: ts, v :: vs, d :: ds, ps, hr, h, hlt => by
    obtain ⟨p, q, h1, h2, rfl⟩ := h
    simp only [List.all_cons, Bool.and_eq_true, decide_eq_true_eq] at hr
    exact ⟨p, q, Below.trod hlo hr.1.1 hr.1.2 h1 bel (fun x hx => hlt x (by simp [hx])), trodAll_below hlo bel hr.2 h2 (fun x hx => hlt x (by simp [hx])), rfl⟩
  | [], _ :: _, _, _, _, h, _ => by simp [DataW.TrodAll] at h
  | [], [], _ :: _, _, _, h, _ => by simp [DataW.TrodAll] at h
  | _ :: _, [], _, _, _, h, _ => by simp [DataW.TrodAll] at h
  | _ :: _, _ :: _, [], _, _, h, _ => by simp [DataW.TrodAll] at h
/-- What an answer 'true' over memory that stays makes of the arguments. -/
theorem args_done {W W' : World} {base : Nat} {ts : List TypeId} {vs : List Value} {ds : List (DataW H)} {ps : List MemPlace} (hlo : laidOutB P = true) (bel : Below W.heap.size W W')
    (hr : (ts.all fun t => P.readableRec t && decide (t < P.types.size)) = true) (h : DataW.TrodAll enc P W 0 (fun _ => true) true ts vs ds ps) : DataW.TrodAll enc P W' 0 (fun b => decide (b < W.heap.size)) true ts vs ds ps :=
  trodAll_below hlo bel hr h (DataW.TrodAll.lt h)
end
end Sx
set_option linter.unusedVariables false
set_option linter.unusedSimpArgs false
namespace Sx
open Go Go.ChangeShapes Go.WideShapes Go.RowKit

def CK.flat : CK → Bool
  | .sl _ _ => false
  | _ => true
def vInt : Value → Int
  | .int _ n => n
  | _ => 0
def vStr : Value → ByteArray
  | .string s => s
  | _ => ByteArray.empty
def vBool : Value → Bool
  | .bool b => b
  | _ => false
def colInts (rows : List (List Value)) (j : Nat) : List Int := rows.map fun r => vInt (r.getD j undef)
def colStrs (rows : List (List Value)) (j : Nat) : List ByteArray := rows.map fun r => vStr (r.getD j undef)
def colBools (rows : List (List Value)) (j : Nat) : List Bool := rows.map fun r => vBool (r.getD j undef)
def colOfK (rows : List (List Value)) (j : Nat) : CK → Col
  | .int k => .ints k (.sym (colInts rows j))
  | .str => .strs (.sym (colStrs rows j))
  | _ => .bools (colBools rows j)
def colsFrom (rows : List (List Value)) : Nat → List CK → List Col
  | _, [] => []
  | j, k :: ks => colOfK rows j k :: colsFrom rows (j + 1) ks
theorem colsFrom_len (rows : List (List Value)) : ∀ (j : Nat) (ks : List CK), (colsFrom rows j ks).length = ks.length
  | _, [] => rfl
  | j, k :: ks => by simp [colsFrom, colsFrom_len rows (j + 1) ks]
theorem colsFrom_get (rows : List (List Value)) : ∀ (ks : List CK) (o j : Nat) (c : Col), colAt (colsFrom rows o ks) j = some c → ∃ k, ks[j]? = some k ∧ c = colOfK rows (o + j) k
  | [], o, j, c, h => by simp [colsFrom, colAt] at h
  | k :: ks, o, 0, c, h => by simp only [colsFrom, colAt, Option.some.injEq] at h; exact ⟨k, rfl, h.symm⟩
  | k :: ks, o, j + 1, c, h => by
    simp only [colsFrom, colAt] at h
    obtain ⟨k', h1, h2⟩ := colsFrom_get rows ks (o + 1) j c h
    exact ⟨k', h1, by rw [h2]; congr 1; omega⟩
theorem colsFrom_size (rows : List (List Value)) : ∀ (j : Nat) (ks : List CK), ∀ c ∈ colsFrom rows j ks, c.size = rows.length
  | _, [], c, h => by simp [colsFrom] at h
  | j, k :: ks, c, h => by
    simp only [colsFrom, List.mem_cons] at h
    rcases h with rfl | h
    · cases k <;> simp [colOfK, Col.size, Lv.raw, Tv.raw, colInts, colStrs, colBools]
    · exact colsFrom_size rows (j + 1) ks c h
theorem flatten_get {m : Nat} : ∀ {rows : List (List Value)} {i j : Nat}, (∀ r ∈ rows, r.length = m) → j < m → rows.flatten[i * m + j]? = (rows[i]?).bind fun r => r[j]?
  | [], i, j, _, _ => by simp
  | r :: rows, 0, j, h, hj => by
    have := h r (by simp)
    simp [List.getElem?_append_left (show j < r.length by omega)]
  | r :: rows, i + 1, j, h, hj => by
    have h1 := h r (by simp)
    rw [List.flatten_cons, List.getElem?_append_right (by rw [h1, Nat.add_mul]; omega), h1, show (i + 1) * m + j - m = i * m + j by rw [Nat.add_mul]; omega]
    simpa using flatten_get (i := i) (fun q hq => h q (by simp [hq])) hj
theorem flatten_len {m : Nat} : ∀ {rows : List (List Value)}, (∀ r ∈ rows, r.length = m) → rows.flatten.length = rows.length * m
  | [], _ => by simp
  | r :: rows, h => by
    rw [List.flatten_cons, List.length_append, flatten_len (fun q hq => h q (by simp [hq])), h r (by simp), List.length_cons, Nat.add_mul]; omega
theorem CellsOk.get {w : World} : ∀ {ks : List CK} {vs : List Value} {j : Nat} {k : CK}, CellsOk w ks vs → ks[j]? = some k → ∃ v, vs[j]? = some v ∧ CellOk w k v
  | [], [], _, _, _, h => by simp at h
  | k :: ks, v :: vs, 0, k', h, hk => by simp only [CellsOk] at h; simp at hk; subst hk; exact ⟨v, rfl, h.1⟩
  | k :: ks, v :: vs, j + 1, k', h, hk => by simp only [CellsOk] at h; simpa using CellsOk.get h.2 (by simpa using hk)
  | [], _ :: _, _, _, h, _ => by simp [CellsOk] at h
  | _ :: _, [], _, _, h, _ => by simp [CellsOk] at h

section
variable {P : Program} {w : World} {ks : List CK} {rows : List (List Value)}

theorem colsFrom_at (h : ∀ r ∈ rows, CellsOk w ks r) (hf : ks.all CK.flat = true) : ColsAt (colsFrom rows 0 ks) rows.flatten rows.length := by
  have hl : ∀ r ∈ rows, r.length = ks.length := fun r hr => (h r hr).len
  refine ⟨by rw [flatten_len hl, colsFrom_len], colsFrom_size rows 0 ks, fun i j c hi hc => ?_⟩
  obtain ⟨k, h1, rfl⟩ := colsFrom_get rows ks 0 j c hc
  have hj : j < ks.length := (List.getElem?_eq_some_iff.1 h1).1
  rw [colsFrom_len, flatten_get hl hj, Nat.zero_add]
  have hr : rows[i]? = some rows[i] := List.getElem?_eq_getElem hi
  obtain ⟨v, h2, h3⟩ := (h _ (List.getElem_mem hi)).get h1
  have hflat : k.flat = true := List.all_eq_true.1 hf k (List.mem_of_getElem? h1)
  have hd : (rows[i]).getD j undef = v := by rw [List.getD_eq_getElem?_getD, h2]; rfl
  rw [hr]
  simp only [Option.bind_some, h2]
  cases k with
  | int k => obtain ⟨n, rfl, _⟩ := h3; simp [colOfK, Col.cell, Lv.raw, colInts, hr, h2, vInt]
  | str => obtain ⟨n, rfl, _⟩ := h3; simp [colOfK, Col.cell, Tv.raw, colStrs, hr, h2, vStr]
  | bool => obtain ⟨n, rfl⟩ := h3; simp [colOfK, Col.cell, colBools, hr, h2, vBool]
  | sl => simp [CK.flat] at hflat
theorem colInts_wf {j : Nat} {k : IntKind} (h : ∀ r ∈ rows, CellsOk w ks r) (hk : ks[j]? = some (.int k)) : ∀ x ∈ colInts rows j, (Lit.int k x).wf = true := by
  intro x hx
  obtain ⟨r, hr, rfl⟩ := List.mem_map.1 hx
  obtain ⟨v, h2, n, rfl, h3⟩ := (h r hr).get hk
  rw [List.getD_eq_getElem?_getD, h2]; exact h3
theorem colStrs_size {j : Nat} (h : ∀ r ∈ rows, CellsOk w ks r) (hk : ks[j]? = some .str) : ∀ x ∈ colStrs rows j, x.size ≤ maxLen := by
  intro x hx
  obtain ⟨r, hr, rfl⟩ := List.mem_map.1 hx
  obtain ⟨v, h2, n, rfl, h3⟩ := (h r hr).get hk
  rw [List.getD_eq_getElem?_getD, h2]; exact h3

/-- A slice that came in, of plain elements. -/
theorem slice_in (P : Program) {e : TypeId} {v : Value} (h : CellOk w (.sl e ks) v) (hf : ks.all CK.flat = true) (hne : ks ≠ []) :
    ∃ (x : RA) (rows : List (List Value)), (∀ (r : Rho) (j : Nat), r j = some x → VRel r (.sl j (.lit 0) (.sym (rows.length : Int))) v) ∧ RoIn P w x (.cols .ro e (colsFrom rows 0 ks)) ∧ (∀ r ∈ rows, CellsOk w ks r) ∧ rows.length ≤ maxLen := by
  obtain ⟨A, len, cap, rows, rfl, h1, h2, h3, h4, h5, h6⟩ := h
  have hl : ∀ r ∈ rows, r.length = ks.length := fun r hr => (h5 r hr).len
  have hpos : 0 < ks.length := List.length_pos_iff.2 hne
  refine ⟨⟨if len = 0 then none else A, cap⟩, rows, fun r j hr => ?_, ⟨rfl, rfl, fun r => ?_, fun g hu => ?_⟩, h5, by omega⟩
  · simp only [VRel]
    refine ⟨_, len, cap, A, hr, by simp [h3], h1, by simp, rfl, fun h0 => ?_⟩
    obtain ⟨a, rfl, _⟩ := h4 h0
    exact ⟨a, by simp [show len ≠ 0 by omega], by simp [Addr.add]⟩
  · simp only [BRel]
    refine ⟨rows.flatten, rows.length, colsFrom_at h5 hf, ?_, fun hne' => ?_, fun b q v hb hq => ?_⟩
    · intro e0
      have := colsFrom_len rows 0 ks
      rw [e0] at this; simp at this; omega
    · have hr0 : 0 < rows.length := by
        cases rows with
        | nil => simp at hne'
        | cons => simp
      obtain ⟨a, rfl, _⟩ := h4 (by omega)
      exact ⟨a, by simp [show len ≠ 0 by omega]⟩
    · by_cases h0 : len = 0
      · simp [h0] at hb
      · simp only [h0, if_false] at hb
        have hq' := (List.getElem?_eq_some_iff.1 hq).1
        rw [flatten_len hl, h3] at hq'
        have e1 : q = q / ks.length * ks.length + q % ks.length := by rw [Nat.div_add_mod']
        have hi : q / ks.length < len := (Nat.div_lt_iff_lt_mul hpos).2 hq'
        have hj : q % ks.length < ks.length := Nat.mod_lt _ hpos
        have := h6 b hb _ _ hi hj
        rw [← e1] at this
        rw [this, ← hq]
        conv => rhs; rw [e1, flatten_get hl hj]
        rw [List.getElem?_eq_getElem (by omega : q / ks.length < rows.length), List.getD_eq_getElem?_getD, List.getElem?_eq_getElem (by omega : q / ks.length < rows.length)]
        rfl
  · obtain ⟨b, hb, rfl⟩ := hu
    by_cases h0 : len = 0
    · simp [h0] at hb
    · simp only [h0, if_false] at hb
      obtain ⟨a, ha, hlt⟩ := h4 (by omega)
      rw [ha] at hb; cases hb
      exact hlt
theorem repK_rows {n : Nat} : ∀ {cs : List Value}, CellsOk w (repK n ks) cs → ∃ rows : List (List Value), rows.length = n ∧ (∀ r ∈ rows, CellsOk w ks r) ∧ cs = rows.flatten := by
  induction n with
  | zero =>
    intro cs h
    have : cs = [] := List.eq_nil_of_length_eq_zero (by simpa [repK] using h.len)
    exact ⟨[], rfl, by simp, by simp [this]⟩
  | succ n ih =>
    intro cs h
    have hlen := h.len
    simp only [repK, List.length_append] at hlen
    have split : ∀ {a b : List CK} {vs : List Value}, CellsOk w (a ++ b) vs → CellsOk w a (vs.take a.length) ∧ CellsOk w b (vs.drop a.length) := by
      intro a
      induction a with
      | nil => intro b vs h; simpa [CellsOk] using h
      | cons k a iha =>
        intro b vs h
        cases vs with
        | nil => simp [CellsOk] at h
        | cons v vs =>
          simp only [List.cons_append, CellsOk] at h
          have := iha h.2
          simpa [CellsOk] using ⟨⟨h.1, this.1⟩, this.2⟩
    obtain ⟨h1, h2⟩ := split (by simpa [repK] using h)
    obtain ⟨rows, r1, r2, r3⟩ := ih h2
    refine ⟨cs.take ks.length :: rows, by simp [r1], fun r hr => ?_, by rw [List.flatten_cons, ← r3, List.take_append_drop]⟩
    rcases List.mem_cons.1 hr with rfl | hr
    · exact h1
    · exact r2 r hr
/-- An array of plain elements, by value. -/
theorem array_in {n : Nat} {cs : List Value} (h : CellsOk w (repK n ks) cs) (hf : ks.all CK.flat = true) :
    ∃ rows : List (List Value), rows.length = n ∧ (∀ r ∈ rows, CellsOk w ks r) ∧ ∀ r : Rho, VRel r (.cols (n * ks.length) (colsFrom rows 0 ks)) (.agg cs.toArray) := by
  obtain ⟨rows, h1, h2, rfl⟩ := repK_rows h
  refine ⟨rows, h1, h2, fun r => ?_⟩
  simp only [VRel]
  exact ⟨_, rows.length, rfl, by simpa using colsFrom_at h2 hf, by simp [flatten_len (fun r hr => (h2 r hr).len), h1]⟩
/-- Cells that are written out. -/
theorem oneCells_in : ∀ {ks : List CK} {cs : List Value}, CellsOk w ks cs → OneCells cs
  | [], [], _ => by simp [OneCells]
  | k :: ks, v :: vs, h => by
    simp only [CellsOk] at h
    intro x hx
    rcases List.mem_cons.1 hx with rfl | hx
    · have := h.1
      cases k <;> simp only [CellOk] at this
      · obtain ⟨n, rfl, _⟩ := this; rfl
      · obtain ⟨n, rfl, _⟩ := this; rfl
      · obtain ⟨n, rfl⟩ := this; rfl
      · obtain ⟨A, l, c, rows, rfl, _⟩ := this; rfl
    · exact oneCells_in h.2 x hx
  | [], _ :: _, h => by simp [CellsOk] at h
  | _ :: _, [], h => by simp [CellsOk] at h
/-- Cells as they came in. -/
def cellsV (cs : List Value) : Nat → List CK → List V
  | _, [] => []
  | j, .int k :: ks => .int k (.sym (vInt (cs.getD j undef))) :: cellsV cs (j + 1) ks
  | j, .str :: ks => .str (.sym (vStr (cs.getD j undef))) :: cellsV cs (j + 1) ks
  | j, .bool :: ks => .sbool (vBool (cs.getD j undef)) :: cellsV cs (j + 1) ks
  | j, .sl _ _ :: ks => .any :: cellsV cs (j + 1) ks
theorem cellsV_drop {r : Rho} : ∀ {ks : List CK} {cs ds : List Value} {j : Nat}, CellsOk w ks ds → (∀ i, ds[i]? = cs[j + i]?) → VRelL r (cellsV cs j ks) ds
  | [], cs, [], j, _, _ => by simp [cellsV, VRelL]
  | k :: ks, cs, v :: vs, j, h, hd => by
    simp only [CellsOk] at h
    have h0 := hd 0
    simp only [List.getElem?_cons_zero, Nat.add_zero] at h0
    have hv : cs.getD j undef = v := by rw [List.getD_eq_getElem?_getD, ← h0]; rfl
    have ih := cellsV_drop (r := r) (j := j + 1) (cs := cs) h.2 (fun i => by have := hd (i + 1); simpa [Nat.add_assoc, Nat.add_comm 1 i] using this)
    have h1 := h.1
    cases k with
    | int k => obtain ⟨n, rfl, _⟩ := h1; simp only [cellsV, VRelL, hv]; exact ⟨by simp [VRel, vInt], ih⟩
    | str => obtain ⟨n, rfl, _⟩ := h1; simp only [cellsV, VRelL, hv]; exact ⟨by simp [VRel, vStr], ih⟩
    | bool => obtain ⟨n, rfl⟩ := h1; simp only [cellsV, VRelL, hv]; exact ⟨by simp [VRel, vBool], ih⟩
    | sl e ks' => simp only [cellsV, VRelL]; exact ⟨by simp [VRel], ih⟩
  | [], _, _ :: _, _, h, _ => by simp [CellsOk] at h
  | _ :: _, _, [], _, h, _ => by simp [CellsOk] at h
theorem cells_in {r : Rho} {cs : List Value} (h : CellsOk w ks cs) : VRelL r (cellsV cs 0 ks) cs := cellsV_drop h (fun i => by simp)
theorem agg_in {cs : List Value} (h : CellsOk w ks cs) : ∀ r : Rho, VRel r (.agg (cellsV cs 0 ks)) (.agg cs.toArray) := fun r => by
  simp only [VRel]; exact ⟨_, rfl, cells_in h, oneCells_in h⟩
theorem one_in {v : Value} {k : CK} {u : V} (h : CellsOk w [k] [v]) (hu : cellsV [v] 0 [k] = [u]) : ∀ r : Rho, VRel r u v := fun r => by
  have := cells_in (r := r) h
  rw [hu] at this
  simp only [VRelL] at this
  exact this.1
theorem cell_wf {cs : List Value} {j : Nat} {k : IntKind} (h : CellsOk w ks cs) (hk : ks[j]? = some (.int k)) : (Lit.int k (vInt (cs.getD j undef))).wf = true := by
  obtain ⟨v, h2, n, rfl, h3⟩ := h.get hk
  rw [List.getD_eq_getElem?_getD, h2]; exact h3
theorem cell_short {cs : List Value} {j : Nat} (h : CellsOk w ks cs) (hk : ks[j]? = some .str) : (vStr (cs.getD j undef)).size ≤ maxLen := by
  obtain ⟨v, h2, n, rfl, h3⟩ := h.get hk
  rw [List.getD_eq_getElem?_getD, h2]; exact h3
theorem bytes_of {j : Nat} (h : ∀ r ∈ rows, CellsOk w ks r) (hk : ks[j]? = some (.int .u8)) : ∀ x ∈ colInts rows j, 0 ≤ x ∧ x < 256 := by
  intro x hx
  have := colInts_wf h hk x hx
  simp [Lit.wf, IntKind.min, IntKind.max, IntKind.signed, IntKind.bits] at this
  omega
theorem i64s_of {j : Nat} (h : ∀ r ∈ rows, CellsOk w ks r) (hk : ks[j]? = some (.int .i64)) : ∀ x ∈ colInts rows j, -9223372036854775808 ≤ x ∧ x ≤ 9223372036854775807 := by
  intro x hx
  have := colInts_wf h hk x hx
  simp [Lit.wf, IntKind.min, IntKind.max, IntKind.signed, IntKind.bits] at this
  omega
theorem u8_of {n : Int} (h : (Lit.int .u8 n).wf = true) : 0 ≤ n ∧ n < 256 := by
  simp [Lit.wf, IntKind.min, IntKind.max, IntKind.signed, IntKind.bits] at h; omega
theorem u16_of {n : Int} (h : (Lit.int .u16 n).wf = true) : 0 ≤ n ∧ n < 65536 := by
  simp [Lit.wf, IntKind.min, IntKind.max, IntKind.signed, IntKind.bits] at h; omega
theorem u64_of {n : Int} (h : (Lit.int .u64 n).wf = true) : 0 ≤ n ∧ n < 18446744073709551616 := by
  simp [Lit.wf, IntKind.min, IntKind.max, IntKind.signed, IntKind.bits] at h; omega
theorem i64_of {n : Int} (h : (Lit.int .i64 n).wf = true) : -9223372036854775808 ≤ n ∧ n ≤ 9223372036854775807 := by
  simp [Lit.wf, IntKind.min, IntKind.max, IntKind.signed, IntKind.bits] at h; omega
theorem noGlob (h : P.globalNamed "errors.errorType" = none) (h' : P.globalNamed "math/bits.deBruijn64tab" = none) : ∀ g i v, globCell P g i = some v → w.cell? ⟨g, i, none⟩ = some v := by
  intro g i v hg
  simp [globCell, h, h'] at hg
end
end Sx
set_option linter.unusedVariables false
set_option linter.unusedSimpArgs false
namespace Sx
open Go

theorem wr_u8 (n : Int) : IntKind.u8.wrap n = n % 256 := IntKind.wrap_u8 n
theorem wr_u16 (n : Int) : IntKind.u16.wrap n = n % 65536 := by simp [IntKind.wrap, IntKind.bits, IntKind.signed]
theorem wr_u32 (n : Int) : IntKind.u32.wrap n = n % 4294967296 := IntKind.wrap_u32 n
theorem wr_u64 (n : Int) : IntKind.u64.wrap n = n % 18446744073709551616 := by simp [IntKind.wrap, IntKind.bits, IntKind.signed]
theorem wr_i64 (n : Int) (h0 : -9223372036854775808 ≤ n) (h1 : n ≤ 9223372036854775807) : IntKind.i64.wrap n = n := by rw [IntKind.wrap_i64]; omega
theorem fdiv2 (x : Int) (n : Nat) : x.fdiv (2 ^ n) = x / 2 ^ n := Int.fdiv_eq_ediv_of_nonneg x (by exact Int.pow_nonneg (by decide))
theorem lvals_length (l : List Iv) : (lvals l).length = l.length := by rw [lvals_eq]; simp
theorem strL_bytesL (s : ByteArray) : strL (bytesL s) = s := by
  unfold strL bytesL
  cases s with
  | mk d =>
    simp only [List.map_map]
    congr 1
    have : (d.toList.map ((fun n : Int => UInt8.ofNat n.toNat) ∘ fun b : UInt8 => (b.toNat : Int))) = d.toList := by
      conv => rhs; rw [← List.map_id d.toList]
      refine List.map_congr_left (fun b _ => ?_)
      simp
    rw [this]
/-- Bytes. -/
def Bytes (xs : List Int) : Prop := ∀ x ∈ xs, 0 ≤ x ∧ x < 256
theorem bytesL_strL {xs : List Int} (h : Bytes xs) : bytesL (strL xs) = xs := by
  unfold strL bytesL
  simp only [List.map_map]
  conv => rhs; rw [← List.map_id xs]
  refine List.map_congr_left (fun x hx => ?_)
  have := h x hx
  simp only [Function.comp, UInt8.toNat_ofNat', id]
  omega
theorem Bytes.get {xs : List Int} (h : Bytes xs) (i : Nat) : 0 ≤ xs.getD i 0 ∧ xs.getD i 0 < 256 := by
  by_cases hi : i < xs.length
  · rw [List.getD_eq_getElem?_getD, List.getElem?_eq_getElem hi]; exact h _ (List.getElem_mem hi)
  · rw [List.getD_eq_getElem?_getD, List.getElem?_eq_none (by omega)]; decide
theorem bytesL_bytes (s : ByteArray) : Bytes (bytesL s) := by
  intro x hx
  obtain ⟨b, _, rfl⟩ := List.mem_map.1 hx
  have := b.toNat_lt
  omega
theorem size_strL (xs : List Int) : (strL xs).size = xs.length := by simp [strL, ByteArray.size]
theorem lgetD_set_ne {α : Type} (l : List α) {i k : Nat} (v d : α) (h : i ≠ k) : (l.set i v).getD k d = l.getD k d := by
  simp only [List.getD_eq_getElem?_getD, List.getElem?_set_ne h]
theorem lgetD_set_eq {α : Type} (l : List α) {i : Nat} (v d : α) (h : i < l.length) : (l.set i v).getD i d = v := by
  simp only [List.getD_eq_getElem?_getD, List.getElem?_set_self h, Option.getD_some]
theorem nil_toList {s : ByteArray} : s.toList = [] ↔ s.size = 0 := by
  have e : s.toList = s.data.toList := by simp only [ByteArray.toList_eq]
  rw [e, List.eq_nil_iff_length_eq_zero]
  show s.data.toList.length = 0 ↔ s.data.size = 0
  rw [Array.length_toList]
def deadOf : Blk → Blk
  | .unborn => .unborn
  | _ => .dead
theorem subH_deads : ∀ (H : Hp), subH H (H.map deadOf)
  | [] => trivial
  | b :: H => by
    refine ⟨?_, subH_deads H⟩
    cases b <;> simp [Blk.sub, deadOf]
theorem fitsH_deads (n : Nat) : ∀ (E : Hp), fitsH n (E.map deadOf) = true
  | [] => rfl
  | b :: E => by
    have := fitsH_deads n E
    cases b <;> simpa [fitsH, deadOf] using this
/-- A law's end. -/
theorem Weak.law {E0 : Hp} {v : V} {H : Hp} (h1 : v = .bool true) (h2 : Nat.ble (llen E0) (llen H) = true) : Weak E0 (fun v _ => v = .bool true) v H := by
  subst h1
  refine ⟨.bool true, H.map deadOf, rfl, subH_deads H, ?_, rfl⟩
  have h3 : Nat.ble (llen E0) (llen (H.map deadOf)) = true := by
    rw [llen_eq, llen_eq] at *; simpa using h2
  simp only [fits, h3, fitsH_deads, idsL, idsV, List.append_nil, idsUp, Bool.and_self]
theorem nilS : ({ data := #[] } : ByteArray).toList = [] := nil_toList.2 rfl
theorem quo_i64 {x d : Int} (h0 : 0 ≤ x) (h1 : x ≤ 9223372036854775807) (hd : 0 < d) : binI .quo .i64 x d = x / d := by
  show IntKind.i64.wrap (x.tdiv d) = _
  rw [Int.tdiv_eq_ediv_of_nonneg h0]
  have a := Int.ediv_nonneg h0 (Int.le_of_lt hd)
  have b := Int.ediv_le_self d h0
  exact wr_i64 _ (by omega) (by omega)
theorem rem_nn {k : IntKind} {x d : Int} (h0 : 0 ≤ x) : binI .rem k x d = x % d := Int.tmod_eq_emod_of_nonneg h0
theorem add_i64 {x y : Int} (h0 : -9223372036854775808 ≤ x + y) (h1 : x + y ≤ 9223372036854775807) : binI .add .i64 x y = x + y := wr_i64 _ h0 h1
theorem sub_i64 {x y : Int} (h0 : -9223372036854775808 ≤ x - y) (h1 : x - y ≤ 9223372036854775807) : binI .sub .i64 x y = x - y := wr_i64 _ h0 h1
theorem mul_i64 {x y : Int} (h0 : -9223372036854775808 ≤ x * y) (h1 : x * y ≤ 9223372036854775807) : binI .mul .i64 x y = x * y := wr_i64 _ h0 h1
theorem subL_all (xs : List Int) (n : Int) (h : n = xs.length) : subL xs 0 n = xs := by simp [subL, h]
theorem subL_bytes (s : ByteArray) : subL (bytesL s) 0 (s.size : Int) = bytesL s := subL_all _ _ (by rw [bytesL_length])
/-- Rows that are alike up to a place. -/
theorem list_eq_of_get {xs ys : List Int} (hl : xs.length = ys.length) (h : ∀ k : Nat, k < xs.length → xs.getD k 0 = ys.getD k 0) : xs = ys := by
  refine List.ext_getElem hl fun i h1 h2 => ?_
  have := h i h1
  simpa [List.getD_eq_getElem?_getD, List.getElem?_eq_getElem h1, List.getElem?_eq_getElem h2] using this
/-- A loop with two, three ghosts. -/
theorem LoopVC.inv2 {ws : List Nat} {body : (Ex → Fr → Hp → Prop) → Fr → Hp → Prop} {K : Ex → Fr → Hp → Prop} {fr : Fr} {hp : Hp} (A B : Type) (slots : List Nat) (st : A → B → List V × Hp) (pre : A → B → Prop) (μ : A → B → Nat) (a0 : A) (b0 : B)
    (sl : subN slots ws = true) (fit : ∀ a b, pre a b → fits hp (st a b).2 (fsets slots (st a b).1 (havoc ws fr)) = true)
    (start : pre a0 b0 ∧ V.subL (fgets fr slots) (st a0 b0).1 ∧ subH hp (st a0 b0).2)
    (round : ∀ a b, pre a b → body (fun e fr' hp' => match e with
      | .norm => ∃ g : A × B, pre g.1 g.2 ∧ μ g.1 g.2 < μ a b ∧ V.subL (fgets fr' slots) (st g.1 g.2).1 ∧ subH hp' (st g.1 g.2).2
      | e => K e fr' hp') (fsets slots (st a b).1 (havoc ws fr)) (st a b).2) : LoopVC ws body K fr hp :=
  .inv (A × B) slots (fun g => st g.1 g.2) (fun g => pre g.1 g.2) (fun g => μ g.1 g.2) (a0, b0) sl (fun g h => fit g.1 g.2 h) start (fun g h => round g.1 g.2 h)
theorem LoopVC.inv3 {ws : List Nat} {body : (Ex → Fr → Hp → Prop) → Fr → Hp → Prop} {K : Ex → Fr → Hp → Prop} {fr : Fr} {hp : Hp} (A B C : Type) (slots : List Nat) (st : A → B → C → List V × Hp) (pre : A → B → C → Prop) (μ : A → B → C → Nat) (a0 : A) (b0 : B) (c0 : C)
    (sl : subN slots ws = true) (fit : ∀ a b c, pre a b c → fits hp (st a b c).2 (fsets slots (st a b c).1 (havoc ws fr)) = true)
    (start : pre a0 b0 c0 ∧ V.subL (fgets fr slots) (st a0 b0 c0).1 ∧ subH hp (st a0 b0 c0).2)
    (round : ∀ a b c, pre a b c → body (fun e fr' hp' => match e with
      | .norm => ∃ g : A × B × C, pre g.1 g.2.1 g.2.2 ∧ μ g.1 g.2.1 g.2.2 < μ a b c ∧ V.subL (fgets fr' slots) (st g.1 g.2.1 g.2.2).1 ∧ subH hp' (st g.1 g.2.1 g.2.2).2
      | e => K e fr' hp') (fsets slots (st a b c).1 (havoc ws fr)) (st a b c).2) : LoopVC ws body K fr hp :=
  .inv (A × B × C) slots (fun g => st g.1 g.2.1 g.2.2) (fun g => pre g.1 g.2.1 g.2.2) (fun g => μ g.1 g.2.1 g.2.2) (a0, b0, c0) sl (fun g h => fit g.1 g.2.1 g.2.2 h) start (fun g h => round g.1 g.2.1 g.2.2 h)
end Sx
set_option linter.unusedVariables false
set_option linter.unusedSimpArgs false
namespace Sx
open Go Go.RowKit
section
variable {P : Program}

/-- What is there stays, whatever comes behind it. -/
theorem Good.stays {own : Own} {r : Rho} {hp : Hp} {w w' : World} (h : Good P own r hp w) (hw : ∀ k, k < w.heap.size → w'.heap[k]? = w.heap[k]?) (hsz : w.heap.size ≤ w'.heap.size) : Good P own r hp w' := by
  have hc : ∀ i x, (hget hp i).live = true → r i = some x → ∀ g, (hget hp i).uses w x g → w'.heap[g]? = w.heap[g]? := fun i x hl hx g hg => hw g (h.below i x g hl hx hg)
  refine ⟨h.born, fun i hi => ?_, h.own, fun i j x y b g hij hm hl hx hy hb hu => ?_, fun i x g hl hx hu => ?_, fun i x g hl hx hu => ?_⟩
  · obtain ⟨x, h1, h2⟩ := h.rel i hi
    refine ⟨x, h1, ?_⟩
    by_cases hl : (hget hp i).live = true
    · exact h2.world (hc i x hl h1)
    · cases hq : hget hp i with
      | unborn => exact absurd hq hi
      | dead => trivial
      | _ => simp [hq, Blk.live] at hl
  · exact h.apart i j x y b g hij hm hl hx hy hb ((uses_congr (hc j y hl hy) g).1 hu)
  · exact Nat.lt_of_lt_of_le (h.below i x g hl hx ((uses_congr (hc i x hl hx) g).1 hu)) hsz
  · exact h.seen i x g hl hx ((uses_congr (hc i x hl hx) g).1 hu)
/-- A contract out of the kit's own word: nothing that was there is written. -/
theorem Ctr.of_below {f : FuncId} {E : Hp} {args : List V} {v : V} (he : Entered P f)
    (h : ∀ (w : World) (r : Rho) (vals : List Value), Good P (ownOf r E w) r E w → Glob P (ownOf r E w) w → VRelL r args vals → Calls P f vals.toArray w fun e w' => ∃ x, e = .returned x ∧ VRel r v x ∧ Below w.heap.size w w') :
    Ctr P f E args fun u H => u = v ∧ H = E :=
  ⟨he, fun w0 r0 vals hg hgl hv => (h w0 r0 vals hg hgl hv).mono fun e w ⟨x, h1, h2, h3⟩ => ⟨x, v, E, r0, h1, h2, ⟨rfl, rfl⟩, Rho.le_refl r0, hg.stays h3.block h3.size, ⟨h3.os, h3.tape, h3.output, h3.size, fun k hk _ => h3.block k hk⟩⟩⟩
/-- Arguments that are written out. -/
theorem vrelL_one {r : Rho} {v : V} {vals : List Value} (h : VRelL r [v] vals) : ∃ x, vals = [x] ∧ VRel r v x := by
  cases vals with
  | nil => simp [VRelL] at h
  | cons x l =>
    cases l with
    | nil => simp only [VRelL] at h; exact ⟨x, rfl, h.1⟩
    | cons => simp [VRelL] at h
/-- The laid variable's cell. -/
theorem globErr {ow : Own} {w : World} {g rt et : Nat} (h : Glob P ow w) (h1 : P.globalNamed "errors.errorType" = some g) (h2 : (P.cutTypes.find? (·.1 == "internal/reflectlite.rtype")).map (·.2) = some rt)
    (h3 : (List.range P.types.size).find? (fun t => P.rowNamed t [101, 114, 114, 111, 114]) = some et) : w.cell? ⟨g, 0, none⟩ = some (.iface rt (.agg #[typeHandle P et])) :=
  (h g 0 _ (by simp [globCell, h1, h2, h3])).1
end
end Sx
