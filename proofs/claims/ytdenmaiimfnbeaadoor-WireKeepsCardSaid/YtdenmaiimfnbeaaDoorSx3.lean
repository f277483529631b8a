import Derived.Test.YtdenmaiimfnbeaaDoorSx2
import Derived.ChangeKeysEq
import Derived.Below
import Derived.ChangeOld
import Derived.OpenShut
import Derived.WideShapes
import Derived.ProofKit
import Derived.Laws.BitsAllLaws
import Derived.Laws.BitsLemmas
set_option linter.all false
set_option linter.unusedSectionVars false
set_option linter.unusedVariables false
set_option linter.unusedSimpArgs false
namespace Sx
open Go

/-! ## A region that draws its order: what the order doesn't tell -/
/-- The last of the updates that count. -/
def lastI {α : Type} (flag : Nat → Bool) (u : Nat → Option α) (x : α) : Nat → α
  | 0 => x
  | n + 1 => if flag n then (u n).getD (lastI flag u x n) else lastI flag u x n

theorem lastI_congr {α : Type} {flag flag' : Nat → Bool} {u : Nat → Option α} {x : α} : ∀ {n : Nat}, (∀ i, i < n → (u i).isSome = true → flag i = flag' i) → lastI flag u x n = lastI flag' u x n
  | 0, _ => rfl
  | n + 1, h => by
    have ih := lastI_congr (x := x) (n := n) (fun i hi => h i (by omega))
    simp only [lastI, ih]
    cases hu : u n with
    | none => simp
    | some v => rw [h n (by omega) (by simp [hu])]

theorem lastI_read {α : Type} {flag : Nat → Bool} {u : Nat → Option α} {x : α} {j : Nat} : ∀ {n : Nat}, j ≤ n → (∀ i, i < j → (u i).isSome = true → flag i = true) → (∀ i, j ≤ i → i < n → (u i).isSome = true → flag i = false) →
    lastI flag u x n = lastI (fun _ => true) u x j
  | 0, hj, h1, h2 => by
    have : j = 0 := by omega
    subst this; rfl
  | n + 1, hj, h1, h2 => by
    by_cases e : j = n + 1
    · subst e
      exact lastI_congr (fun i hi hs => h1 i hi hs)
    · have ih := lastI_read (x := x) (n := n) (j := j) (by omega) h1 (fun i hi hl => h2 i hi (by omega))
      simp only [lastI]
      cases hu : u n with
      | none => simp only [Option.getD_none, ite_self]; exact ih
      | some v =>
        rw [h2 n (by omega) (by omega) (by simp [hu])]
        simpa using ih

theorem lastI_put {α : Type} {flag : Nat → Bool} {u : Nat → Option α} {x : α} {j : Nat} (hj : flag j = false) : ∀ {n : Nat}, j < n → (∀ i, j < i → i < n → (u j).isSome = true → (u i).isSome = true → flag i = false) →
    lastI (fun i => if i = j then true else flag i) u x n = (u j).getD (lastI flag u x n)
  | 0, h, _ => by omega
  | n + 1, h, hc => by
    by_cases e : j = n
    · subst e
      simp only [lastI, if_true, hj, Bool.false_eq_true, if_false]
      congr 1
      exact lastI_congr (fun i hi _ => by simp [show i ≠ j by omega])
    · have ih := lastI_put (x := x) hj (n := n) (by omega) (fun i h1 h2 => hc i h1 (by omega))
      simp only [lastI, show n ≠ j from fun q => e q.symm, if_false]
      by_cases hf : flag n = true
      · simp only [hf, if_true]
        cases hu : u n with
        | none => simpa using ih
        | some v =>
          cases huj : u j with
          | none => simp
          | some v' =>
            have := hc n (by omega) (by omega) (by simp [huj]) (by simp [hu])
            rw [hf] at this; cases this
      · simp only [hf, Bool.false_eq_true, if_false]; exact ih

/-- The last writing of a block. -/
def wr : List (Nat × Blk) → Nat → Option Blk
  | [], _ => none
  | (j, b) :: r, i => match wr r i with
    | some c => some c
    | none => if j = i then some b else none
theorem hget_wr : ∀ (W : List (Nat × Blk)) (hp : Hp) (i : Nat), hget (hwrites hp W) i = (wr W i).getD (hget hp i)
  | [], _, _ => rfl
  | (j, b) :: r, hp, i => by
    simp only [hwrites, wr, hget_wr r, hget_hsetX]
    cases wr r i with
    | some c => rfl
    | none => by_cases e : j = i <;> simp [e]
theorem wr_some : ∀ {W : List (Nat × Blk)} {i : Nat}, (wr W i).isSome = true → i ∈ fstL W
  | [], i, h => by simp [wr] at h
  | (j, b) :: r, i, h => by
    simp only [wr] at h
    simp only [fstL, List.mem_cons]
    split at h
    · rename_i c hc; exact .inr (wr_some (by rw [hc]; rfl))
    · split at h
      · rename_i e; exact .inl e.symm
      · cases h

def Item.none : Item := ⟨[], .none, .undef, [], []⟩
def itemAt (its : List Item) (i : Nat) : Item := its.getD i Item.none
def frS (its : List Item) (fr : Fr) (flag : Nat → Bool) : Nat → Fr
  | 0 => fr
  | n + 1 => if flag n then fsetO (frS its fr flag n) (itemAt its n).dst (itemAt its n).v else frS its fr flag n
def hpS (its : List Item) (hp : Hp) (flag : Nat → Bool) : Nat → Hp
  | 0 => hp
  | n + 1 => if flag n then hwrites (hpS its hp flag n) (itemAt its n).W else hpS its hp flag n
def frU (its : List Item) (L t : Nat) (i : Nat) : Option V := if (itemAt its i).dst = some t ∧ t < L then some (itemAt its i).v else .none
theorem frS_len (its : List Item) (fr : Fr) (flag : Nat → Bool) : ∀ n, (frS its fr flag n).length = fr.length
  | 0 => rfl
  | n + 1 => by
    simp only [frS]
    split
    · cases (itemAt its n).dst <;> simp [fsetO, fset_length, frS_len its fr flag n]
    · exact frS_len its fr flag n
theorem fget_fsetO (fr : Fr) (d : Option Nat) (v : V) (t : Nat) : fget (fsetO fr d v) t = (if d = some t ∧ t < fr.length then some v else .none).getD (fget fr t) := by
  cases d with
  | none => simp [fsetO]
  | some d =>
    simp only [fsetO]
    by_cases e : d = t
    · subst e
      by_cases hl : d < fr.length
      · simp [fget_fset_eq _ _ _ hl, hl]
      · rw [fget_ge _ _ (by rw [fset_length]; omega), fget_ge _ _ (by omega)]; simp [hl]
    · simp [fget_fset_ne _ _ _ _ e, e]
theorem frS_get (its : List Item) (fr : Fr) (flag : Nat → Bool) (t : Nat) : ∀ n, fget (frS its fr flag n) t = lastI flag (frU its fr.length t) (fget fr t) n
  | 0 => rfl
  | n + 1 => by
    simp only [frS, lastI]
    split
    · rw [fget_fsetO, frS_get its fr flag t n, frS_len]; rfl
    · exact frS_get its fr flag t n
theorem hpS_get (its : List Item) (hp : Hp) (flag : Nat → Bool) (i : Nat) : ∀ n, hget (hpS its hp flag n) i = lastI flag (fun j => wr (itemAt its j).W i) (hget hp i) n
  | 0 => rfl
  | n + 1 => by
    simp only [hpS, lastI]
    split
    · rw [hget_wr, hpS_get its hp flag i n]
    · exact hpS_get its hp flag i n
theorem frU_some {its : List Item} {L t i : Nat} (h : (frU its L t i).isSome = true) : (itemAt its i).dst = some t := by
  unfold frU at h
  split at h
  · rename_i hc; exact hc.1
  · cases h

/-- Is the way of one item in the other's? -/
theorem meets_iff : ∀ {a b : List Nat}, meets a b = true ↔ ∃ x, x ∈ a ∧ x ∈ b
  | [], b => by simp [meets]
  | x :: a, b => by
    have hm : ∀ (x : Nat) (l : List Nat), memN x l = true ↔ x ∈ l := by
      intro x l
      induction l with
      | nil => simp [memN]
      | cons y l ih =>
        simp only [memN, Bool.or_eq_true, ih, List.mem_cons]
        constructor
        · rintro (h | h)
          · exact .inl (Nat.eq_of_beq_eq_true h).symm
          · exact .inr h
        · rintro (h | h)
          · subst h; left; simp
          · exact .inr h
    simp only [meets, Bool.or_eq_true, hm, meets_iff (a := a) (b := b)]
    constructor
    · rintro (h | ⟨y, h1, h2⟩)
      · exact ⟨x, by simp, h⟩
      · exact ⟨y, by simp [h1], h2⟩
    · rintro ⟨y, h1, h2⟩
      rcases List.mem_cons.1 h1 with rfl | h1
      · exact .inl h2
      · exact .inr ⟨y, h1, h2⟩

/-- Apart: an item ahead of j that is in its way counts, one behind doesn't. -/
structure Fits (its : List Item) (flag : Nat → Bool) (n j : Nat) : Prop where
  lt : j < n
  off : flag j = false
  ahead : ∀ i, i < j → clash (itemAt its i) (itemAt its j) = true → flag i = true
  behind : ∀ i, j < i → i < n → clash (itemAt its j) (itemAt its i) = true → flag i = false

theorem Fits.fr {its : List Item} {flag : Nat → Bool} {n j : Nat} (h : Fits its flag n j) (fr : Fr) {t : Nat} (ht : t ∈ (itemAt its j).rd) : fget (frS its fr flag n) t = fget (frS its fr (fun _ => true) j) t := by
  rw [frS_get, frS_get]
  refine lastI_read (Nat.le_of_lt h.lt) (fun i hi hs => h.ahead i hi ?_) (fun i hi hn hs => ?_)
  · have hd := frU_some hs
    simp only [clash, Bool.or_eq_true, meets_iff, optN, hd]
    exact .inl (.inl (.inl ⟨t, by simp, by simp [ht]⟩))
  · by_cases e : i = j
    · subst e; exact h.off
    · refine h.behind i (by omega) hn ?_
      have hd := frU_some hs
      simp only [clash, Bool.or_eq_true, meets_iff, optN, hd]
      exact .inl (.inl (.inr ⟨t, by simp, ht⟩))
theorem Fits.hp {its : List Item} {flag : Nat → Bool} {n j : Nat} (h : Fits its flag n j) (hp : Hp) {t : Nat} (ht : t ∈ (itemAt its j).F) : hget (hpS its hp flag n) t = hget (hpS its hp (fun _ => true) j) t := by
  rw [hpS_get, hpS_get]
  refine lastI_read (Nat.le_of_lt h.lt) (fun i hi hs => h.ahead i hi ?_) (fun i hi hn hs => ?_)
  · have hd := wr_some hs
    simp only [clash, Bool.or_eq_true, meets_iff]
    exact .inl (.inr ⟨t, hd, by simp [ht]⟩)
  · by_cases e : i = j
    · subst e; exact h.off
    · refine h.behind i (by omega) hn ?_
      have hd := wr_some hs
      simp only [clash, Bool.or_eq_true, meets_iff]
      exact .inr ⟨t, hd, ht⟩
theorem Fits.frPut {its : List Item} {flag : Nat → Bool} {n j : Nat} (h : Fits its flag n j) (fr : Fr) (t : Nat) :
    fget (frS its fr (fun i => if i = j then true else flag i) n) t = fget (fsetO (frS its fr flag n) (itemAt its j).dst (itemAt its j).v) t := by
  rw [fget_fsetO, frS_get, frS_get, frS_len, lastI_put h.off h.lt (fun i h1 h2 h3 h4 => h.behind i h1 h2 ?_)]
  · rfl
  · have hd := frU_some h3
    have hd' := frU_some h4
    simp only [clash, Bool.or_eq_true, meets_iff, optN, hd, hd']
    exact .inl (.inl (.inl ⟨t, by simp, by simp⟩))
theorem Fits.hpPut {its : List Item} {flag : Nat → Bool} {n j : Nat} (h : Fits its flag n j) (hp : Hp) (t : Nat) :
    hget (hpS its hp (fun i => if i = j then true else flag i) n) t = hget (hwrites (hpS its hp flag n) (itemAt its j).W) t := by
  rw [hget_wr, hpS_get, hpS_get, lastI_put h.off h.lt (fun i h1 h2 h3 h4 => h.behind i h1 h2 ?_)]
  have hd := wr_some h3
  have hd' := wr_some h4
  simp only [clash, Bool.or_eq_true, meets_iff]
  exact .inl (.inr ⟨t, hd, by simp [hd']⟩)
end Sx
set_option linter.unusedVariables false
set_option linter.unusedSimpArgs false
namespace Sx
open Go

theorem waits_bit (anc : List Nat) (i : Nat) : ∀ (l : List Edge) (s : Nat),
    Nat.testBit (l.foldl (fun s e => if Region.binds .any e then Nat.lor s (Nat.lor (2 ^ e.on) ((anc[e.on]?).getD 0)) else s) s) i = true →
    Nat.testBit s i = true ∨ ∃ e ∈ l, Region.binds .any e = true ∧ (i = e.on ∨ Nat.testBit ((anc[e.on]?).getD 0) i = true)
  | [], s, h => .inl h
  | e :: l, s, h => by
    simp only [List.foldl_cons] at h
    rcases waits_bit anc i l _ h with h1 | ⟨e', h1, h2⟩
    · split at h1
      · rename_i hb
        have h1' : Nat.testBit (s ||| (2 ^ e.on ||| (anc[e.on]?).getD 0)) i = true := h1
        simp only [Nat.testBit_or, Bool.or_eq_true, Nat.testBit_two_pow, decide_eq_true_eq] at h1'
        rcases h1' with h1' | h1' | h1'
        · exact .inl h1'
        · exact .inr ⟨e, by simp, hb, .inl h1'.symm⟩
        · exact .inr ⟨e, by simp, hb, .inr h1'⟩
      · exact .inl h1
    · exact .inr ⟨e', by simp [h1], h2⟩

/-- The ancestors of each, in order. -/
theorem ancs_spec : ∀ (all : List Oper) (acc : List Nat) (j : Nat), (ancs all acc).length = acc.length + all.length ∧ (∀ k, k < acc.length → (ancs all acc)[k]? = acc[k]?) ∧
    ∀ o, all[j]? = some o → (ancs all acc)[acc.length + j]? = some (waits o ((ancs all acc).take (acc.length + j)))
  | [], acc, j => by simp [ancs]
  | o :: r, acc, j => by
    simp only [ancs]
    obtain ⟨h1, h2, h3⟩ := ancs_spec r (acc ++ [waits o acc]) (j - 1)
    simp only [List.length_append, List.length_cons, List.length_nil] at h1 h2 h3
    refine ⟨by simp only [h1, List.length_cons]; omega, fun k hk => ?_, fun o' ho => ?_⟩
    · rw [h2 k (by omega), List.getElem?_append_left hk]
    · cases j with
      | zero =>
        simp at ho; subst ho
        rw [Nat.add_zero, h2 acc.length (by omega)]
        rw [List.getElem?_append_right (by omega)]
        simp only [Nat.sub_self, List.getElem?_cons_zero, Option.some.injEq]
        congr 1
        apply List.ext_getElem?
        intro k
        rw [List.getElem?_take]
        split
        · rename_i hk; rw [h2 k (by omega), List.getElem?_append_left hk]
        · rename_i hk; rw [List.getElem?_eq_none (by omega)]
      | succ j =>
        have := h3 o' (by simpa using ho)
        rw [show acc.length + (0 + 1) + (j + 1 - 1) = acc.length + (j + 1) by omega] at this
        exact this

def ancAt (all : List Oper) (j : Nat) : Nat := ((ancs all [])[j]?).getD 0

theorem backwards_spec : ∀ {all : List Oper} {k : Nat}, backwards k all = true → ∀ (j : Nat) (o : Oper), all[j]? = some o → ∀ e ∈ o.after.toList, Region.binds .any e = true → e.on < k + j
  | [], k, _, j, o, ho, e, he, _ => by simp at ho
  | a :: r, k, h, j, o, ho, e, he, hbd => by
    simp only [backwards, Bool.and_eq_true, List.all_eq_true] at h
    cases j with
    | zero =>
      simp at ho; subst ho
      have := h.1 e he
      simpa [hbd] using this
    | succ j =>
      have := backwards_spec h.2 j o (by simpa using ho) e he hbd
      omega

/-- What is listed has what it waits for. -/
def Closed (all : List Oper) (flag : Nat → Bool) : Prop := ∀ (j : Nat) (o : Oper), all[j]? = some o → flag j = true → ∀ e ∈ o.after.toList, Region.binds .any e = true → flag e.on = true

theorem anc_listed {all : List Oper} {flag : Nat → Bool} (hc : Closed all flag) (hb : backwards 0 all = true) : ∀ (j : Nat) (o : Oper), all[j]? = some o → (∀ e ∈ o.after.toList, Region.binds .any e = true → flag e.on = true) →
    ∀ i, Nat.testBit (ancAt all j) i = true → flag i = true := by
  intro j
  induction j using Nat.strongRecOn with
  | _ j ih =>
    intro o ho he i hi
    obtain ⟨h1, h2, h3⟩ := ancs_spec all [] j
    have h4 := h3 o ho
    simp only [List.length_nil, Nat.zero_add] at h4 h1
    unfold ancAt at hi
    rw [h4] at hi
    simp only [Option.getD_some, waits] at hi
    rcases waits_bit _ i _ 0 hi with h5 | ⟨e, h5, h6, h7⟩
    · simp at h5
    · have hlt : e.on < j := by have := backwards_spec hb j o ho e h5 h6; omega
      rcases h7 with rfl | h7
      · exact he e h5 h6
      · have hjl : j < all.length := (List.getElem?_eq_some_iff.1 ho).1
        have ho' : all[e.on]? = some all[e.on] := List.getElem?_eq_getElem (by omega)
        refine ih e.on hlt _ ho' (hc e.on _ ho' (he e h5 h6)) i ?_
        unfold ancAt
        rw [List.getElem?_take, if_pos hlt] at h7
        exact h7

theorem clashFrom_spec {anc : List Nat} {i : Nat} {a : Item} : ∀ {its : List Item} {j : Nat}, clashFrom anc i a j its = true → ∀ (k : Nat) (b : Item), its[k]? = some b → Nat.testBit ((anc[j + k]?).getD 0) i = true ∨ clash a b = false
  | [], j, _, k, b, hb => by simp at hb
  | c :: its, j, h, k, b, hb => by
    simp only [clashFrom, Bool.and_eq_true, Bool.or_eq_true, Bool.not_eq_true'] at h
    cases k with
    | zero => simp at hb; subst hb; exact h.1
    | succ k => have := clashFrom_spec h.2 k b (by simpa using hb); rwa [show j + 1 + k = j + (k + 1) by omega] at this
theorem clashAll_spec {anc : List Nat} : ∀ {its : List Item} {i0 : Nat}, clashAll anc i0 its = true → ∀ (i k : Nat) (a b : Item), i < k → its[i]? = some a → its[k]? = some b → Nat.testBit ((anc[i0 + k]?).getD 0) (i0 + i) = true ∨ clash a b = false
  | [], i0, _, i, k, a, b, _, ha, _ => by simp at ha
  | c :: its, i0, h, i, k, a, b, hik, ha, hb => by
    simp only [clashAll, Bool.and_eq_true] at h
    obtain ⟨k', rfl⟩ : ∃ k', k = k' + 1 := ⟨k - 1, by omega⟩
    simp at hb
    cases i with
    | zero =>
      simp at ha; subst ha
      have := clashFrom_spec h.1 k' b hb
      rwa [show i0 + 1 + k' = i0 + (k' + 1) by omega, show i0 = i0 + 0 from rfl] at this
    | succ i =>
      have := clashAll_spec h.2 i k' a b (by omega) (by simpa using ha) hb
      rwa [show i0 + 1 + k' = i0 + (k' + 1) by omega, show i0 + 1 + i = i0 + (i + 1) by omega] at this

theorem itemAt_some {its : List Item} {i : Nat} (h : i < its.length) : its[i]? = some (itemAt its i) := by
  simp [itemAt, List.getD, List.getElem?_eq_getElem h]

theorem order_fits {all : List Oper} {its : List Item} {flag : Nat → Bool} (hd : drawOk all its = true) (hl : its.length = all.length) (hc : Closed all flag) {j : Nat} {o : Oper} (ho : all[j]? = some o) (hf : flag j = false)
    (he : ∀ e ∈ o.after.toList, Region.binds .any e = true → flag e.on = true) : Fits its flag all.length j := by
  unfold drawOk at hd
  rw [Bool.and_eq_true] at hd
  have hjl : j < all.length := (List.getElem?_eq_some_iff.1 ho).1
  refine ⟨hjl, hf, fun i hi hcl => ?_, fun i hi hin hcl => ?_⟩
  · rcases clashAll_spec hd.1 i j _ _ hi (itemAt_some (by omega)) (itemAt_some (by omega)) with h | h
    · simp only [Nat.zero_add] at h
      exact anc_listed hc hd.2 j o ho he i h
    · rw [h] at hcl; cases hcl
  · rcases clashAll_spec hd.1 j i _ _ hi (itemAt_some (by omega)) (itemAt_some (by omega)) with h | h
    · simp only [Nat.zero_add] at h
      cases hfi : flag i with
      | false => rfl
      | true =>
        have ho' : all[i]? = some all[i] := List.getElem?_eq_getElem hin
        have := anc_listed hc hd.2 i _ ho' (hc i _ ho' hfi) j h
        rw [hf] at this; cases this
    · rw [h] at hcl; cases hcl

/-- Nothing is ready: all are listed. -/
theorem all_listed {all : List Oper} {listed : Array Bool} (hs : listed.size = all.length) (hb : backwards 0 all = true) (h : Region.ready .any all.toArray listed = []) : ∀ i, i < all.length → listed.getD i false = true := by
  intro i
  induction i using Nat.strongRecOn with
  | _ i ih =>
    intro hi
    cases hq : listed.getD i false with
    | true => rfl
    | false =>
      have ho : all[i]? = some all[i] := List.getElem?_eq_getElem hi
      have : i ∈ Region.ready .any all.toArray listed := by
        unfold Region.ready
        rw [List.mem_filter]
        refine ⟨by simpa using hi, ?_⟩
        have hlt : i < listed.size := by omega
        have hq' : listed[i] = false := by simpa [Array.getD_eq_getD_getElem?, hlt] using hq
        simp only [List.getElem?_toArray, ho, Option.map_some, Option.getD_some, Bool.and_eq_true]
        refine ⟨by simp [Array.getD_eq_getD_getElem?, hlt, hq'], ?_⟩
        rw [Array.all_eq_true_iff_forall_mem]
        intro e he
        cases hbd : Region.binds .any e with
        | false => simp
        | true =>
          have := backwards_spec hb i _ ho e (by simpa using he) hbd
          have h2 := ih e.on (by omega) (by omega)
          simp [h2]
      rw [h] at this; simp at this
theorem ready_spec {all : List Oper} {listed : Array Bool} (hs : listed.size = all.length) {i : Nat} (h : i ∈ Region.ready .any all.toArray listed) :
    ∃ o, all[i]? = some o ∧ listed.getD i false = false ∧ ∀ e ∈ o.after.toList, Region.binds .any e = true → listed.getD e.on false = true := by
  unfold Region.ready at h
  rw [List.mem_filter] at h
  obtain ⟨h1, h2⟩ := h
  have hi : i < all.length := by simpa using h1
  have ho : all[i]? = some all[i] := List.getElem?_eq_getElem hi
  simp only [List.getElem?_toArray, ho, Option.map_some, Option.getD_some, Bool.and_eq_true] at h2
  refine ⟨_, ho, ?_, fun e he hb => ?_⟩
  · have hlt : i < listed.size := by omega
    have := h2.1
    simpa [Array.getD_eq_getD_getElem?, hlt] using this
  · have h3 := h2.2
    rw [Array.all_eq_true_iff_forall_mem] at h3
    have := h3 e (by simpa using he)
    simpa [hb] using this
end Sx
set_option linter.unusedVariables false
set_option linter.unusedSimpArgs false
namespace Sx
open Go
section
variable {P : Program} {T : Tab} {own : Own} {r : Rho} {fr : Fr} {hp : Hp} {a : Act} {w w0 : World} {rb : Rho}

/-- What an item says of its operation: from whatever state that has what it looks at. -/
def StepOk (P : Program) (own : Own) (w0 : World) (rb : Rho) (all : List Oper) (o : Oper) (it : Item) (frT : Fr) (hpT : Hp) : Prop :=
  ∀ (r : Rho) (fr : Fr) (hp : Hp) (a : Act) (w : World) (K : Act → World → Prop) (Q : Exit → Act → World → Prop), St P own w0 rb r fr hp a w → (∀ t ∈ it.rd, fget fr t = fget frT t) → (∀ i ∈ it.F, hget hp i = hget hpT i) →
    (∀ r' a' w', St P own w0 rb r' (fsetO fr it.dst it.v) (hwrites hp it.W) a' w' → K a' w') →
    if Region.wanted o (yielded all.toArray a.tmps) then o.wp P a w K Q ∨ (o.asks P a w ∧ LetsOut Q) else K (a.put o.dst undef) w

theorem St.congr {hp' : Hp} (h : St P own w0 rb r fr hp a w) (he : ∀ i, hget hp' i = hget hp i) : St P own w0 rb r fr hp' a w := ⟨h.len, h.defers, h.rel, h.good.congr he, h.news, h.keep, h.base, h.glob⟩
theorem St.congrF {fr' : Fr} (h : St P own w0 rb r fr hp a w) (hl : fr'.length = fr.length) (he : ∀ i, fget fr' i = fget fr i) : St P own w0 rb r fr' hp a w := ⟨by rw [hl]; exact h.len, h.defers, fun t => by rw [he]; exact h.rel t, h.good, h.news, h.keep, h.base, h.glob⟩

theorem wanted_congr {all : List Oper} {o : Oper} {fr fr' : Fr} (h : ∀ t ∈ rdOf all o, fget fr' t = fget fr t) : wantedV all o fr' = wantedV all o fr := by
  unfold wantedV
  cases hg : o.guard with
  | none => rfl
  | some p =>
    obtain ⟨j, want⟩ := p
    simp only
    cases hd : dstOf all j with
    | none => rfl
    | some d => simp only [h d (by simp [rdOf, hg, hd])]

/-- An operation that doesn't write leaves the blocks that it looks into. -/
theorem outO_out {o : Obl} {v v' : V} {out out' : List Blk} {new new' : Option Blk} {obl : List Bool} (h : outO o v out new = .val obl v' out' new') : out' = out := (outO_val h).2.2.1

section
variable {uI : FI → Int} {uB : FB → Bool} {uS : FS → ByteArray} {uL : FL → List Int} {uT : FT → TT}

theorem loadB_out {n : Nat} {t : TypeId} {o : Off} {b : Blk} {obl : List Bool} {v : V} {out : List Blk} {new : Option Blk} (h : loadB uI uB uS uL T n t o b = .val obl v out new) : out = [b] := by
  unfold loadB at h
  repeat' split at h
  all_goals first
    | (cases h; done)
    | (simp only [Out.val.injEq] at h; obtain ⟨_, _, rfl, _⟩ := h; rfl)
    | (exact outO_out h)
theorem convOut_out {n : Nat} {src dst : TypeId} {x : V} {bs : List Blk} {obl : List Bool} {v : V} {out : List Blk} {new : Option Blk} (h : convOut uI uB uS uL T n src dst x bs = .val obl v out new) : out = [] ∨ out = bs := by
  unfold convOut at h
  repeat' split at h
  all_goals first
    | (cases h; done)
    | (simp only [Out.val.injEq] at h; obtain ⟨_, _, rfl, _⟩ := h; exact .inl rfl)
    | (exact .inr (outO_out h))
theorem actMove_out (xs : List V) {obl : List Bool} {v : V} {out : List Blk} {new : Option Blk} (h : actMove xs = .val obl v out new) : out = [] := by
  unfold actMove at h
  repeat' split at h
  all_goals first
    | (cases h; done)
    | (simp only [Out.val.injEq] at h; exact h.2.2.1.symm)
    | (exact outO_out h)
theorem actPick_out (xs : List V) {obl : List Bool} {v : V} {out : List Blk} {new : Option Blk} (h : actPick xs = .val obl v out new) : out = [] := by
  unfold actPick at h
  repeat' split at h
  all_goals first
    | (cases h; done)
    | (simp only [Out.val.injEq] at h; exact h.2.2.1.symm)
    | (exact outO_out h)
theorem actAlloc_out (n : Nat) (t : TypeId) {obl : List Bool} {v : V} {out : List Blk} {new : Option Blk} (h : actAlloc T n t = .val obl v out new) : out = [] := by
  unfold actAlloc at h
  repeat' split at h
  all_goals first
    | (cases h; done)
    | (simp only [Out.val.injEq] at h; exact h.2.2.1.symm)
    | (exact outO_out h)
theorem actBox_out (n : Nat) (t : TypeId) (xs : List V) {obl : List Bool} {v : V} {out : List Blk} {new : Option Blk} (h : actBox uI T n t xs = .val obl v out new) : out = [] := by
  unfold actBox at h
  repeat' split at h
  all_goals first
    | (cases h; done)
    | (simp only [Out.val.injEq] at h; exact h.2.2.1.symm)
    | (exact outO_out h)
theorem buildOut_out (t : TypeId) (ps : List (Nat × Operand)) (xs : List V) {obl : List Bool} {v : V} {out : List Blk} {new : Option Blk} (h : buildOut uI T t ps xs = .val obl v out new) : out = [] := by
  unfold buildOut at h
  repeat' split at h
  all_goals first
    | (cases h; done)
    | (simp only [Out.val.injEq] at h; exact h.2.2.1.symm)
    | (exact outO_out h)
theorem buildSliceOut_out (n : Nat) (t : TypeId) (len : Nat) (ps : List (Nat × Operand)) (xs : List V) {obl : List Bool} {v : V} {out : List Blk} {new : Option Blk} (h : buildSliceOut uI T n t len ps xs = .val obl v out new) : out = [] := by
  unfold buildSliceOut at h
  repeat' split at h
  all_goals first
    | (cases h; done)
    | (simp only [Out.val.injEq] at h; exact h.2.2.1.symm)
    | (exact outO_out h)
theorem actNil_out (xs : List V) {obl : List Bool} {v : V} {out : List Blk} {new : Option Blk} (h : actNil xs = .val obl v out new) : out = [] := by
  unfold actNil at h
  repeat' split at h
  all_goals first
    | (cases h; done)
    | (simp only [Out.val.injEq] at h; exact h.2.2.1.symm)
    | (exact outO_out h)
theorem unOut_out (op : UnOp) (x : V) {obl : List Bool} {v : V} {out : List Blk} {new : Option Blk} (h : unOut uI op x = .val obl v out new) : out = [] := by
  unfold unOut at h
  repeat' split at h
  all_goals first
    | (cases h; done)
    | (simp only [Out.val.injEq] at h; exact h.2.2.1.symm)
    | (exact outO_out h)
theorem arrPtrOut_out (t : TypeId) (x : V) {obl : List Bool} {v : V} {out : List Blk} {new : Option Blk} (h : arrPtrOut uB T t x = .val obl v out new) : out = [] := by
  unfold arrPtrOut at h
  repeat' split at h
  all_goals first
    | (cases h; done)
    | (simp only [Out.val.injEq] at h; exact h.2.2.1.symm)
    | (exact outO_out h)
theorem ifaceOut_out (t : TypeId) (x : V) {obl : List Bool} {v : V} {out : List Blk} {new : Option Blk} (h : ifaceOut T t x = .val obl v out new) : out = [] := by
  unfold ifaceOut at h
  repeat' split at h
  all_goals first
    | (cases h; done)
    | (simp only [Out.val.injEq] at h; exact h.2.2.1.symm)
    | (exact outO_out h)
theorem makeOut_out (n : Nat) (t : TypeId) (x y : V) {obl : List Bool} {v : V} {out : List Blk} {new : Option Blk} (h : makeOut uI uB uL T n t x y = .val obl v out new) : out = [] := by
  unfold makeOut at h
  repeat' split at h
  all_goals first
    | (cases h; done)
    | (simp only [Out.val.injEq] at h; exact h.2.2.1.symm)
    | (exact outO_out h)
theorem sliceOut_out (t : TypeId) (x : V) (lo hi : List V) {obl : List Bool} {v : V} {out : List Blk} {new : Option Blk} (h : sliceOut uI uB uS T t x lo hi = .val obl v out new) : out = [] := by
  unfold sliceOut at h
  repeat' split at h
  all_goals first
    | (cases h; done)
    | (simp only [Out.val.injEq] at h; exact h.2.2.1.symm)
    | (exact outO_out h)
theorem fieldAddrOut_out (t : TypeId) (x : V) (f : Nat) {obl : List Bool} {v : V} {out : List Blk} {new : Option Blk} (h : fieldAddrOut T t x f = .val obl v out new) : out = [] := by
  unfold fieldAddrOut at h
  repeat' split at h
  all_goals first
    | (cases h; done)
    | (simp only [Out.val.injEq] at h; exact h.2.2.1.symm)
    | (exact outO_out h)
theorem fieldOut_out (t : TypeId) (x : V) (f : Nat) {obl : List Bool} {v : V} {out : List Blk} {new : Option Blk} (h : fieldOut T t x f = .val obl v out new) : out = [] := by
  unfold fieldOut at h
  repeat' split at h
  all_goals first
    | (cases h; done)
    | (simp only [Out.val.injEq] at h; exact h.2.2.1.symm)
    | (exact outO_out h)
theorem indexAddrOut_out (t : TypeId) (x y : V) {obl : List Bool} {v : V} {out : List Blk} {new : Option Blk} (h : indexAddrOut uI uB T t x y = .val obl v out new) : out = [] := by
  unfold indexAddrOut at h
  repeat' split at h
  all_goals first
    | (cases h; done)
    | (simp only [Out.val.injEq] at h; exact h.2.2.1.symm)
    | (exact outO_out h)
theorem indexStr_out (s : Sv) (y : Iv) {obl : List Bool} {v : V} {out : List Blk} {new : Option Blk} (h : indexStr uI uB s y = .val obl v out new) : out = [] := by
  unfold indexStr at h
  repeat' split at h
  all_goals first
    | (cases h; done)
    | (simp only [Out.val.injEq] at h; exact h.2.2.1.symm)
    | (exact outO_out h)
theorem actExtract_out (n : Nat) (xs : List V) {obl : List Bool} {v : V} {out : List Blk} {new : Option Blk} (h : actExtract n xs = .val obl v out new) : out = [] := by
  unfold actExtract at h
  repeat' split at h
  all_goals first
    | (cases h; done)
    | (simp only [Out.val.injEq] at h; exact h.2.2.1.symm)
    | (exact outO_out h)
theorem valV_out (x : V) {obl : List Bool} {v : V} {out : List Blk} {new : Option Blk} (h : valV x = .val obl v out new) : out = [] := by
  unfold valV at h
  repeat' split at h
  all_goals first
    | (cases h; done)
    | (simp only [Out.val.injEq] at h; exact h.2.2.1.symm)
    | (exact outO_out h)
theorem indexOut_out (t : TypeId) (x y : V) {obl : List Bool} {v : V} {out : List Blk} {new : Option Blk} (h : indexOut uI uB uS T t x y = .val obl v out new) : out = [] := by
  unfold indexOut at h
  repeat' split at h
  all_goals first
    | (cases h; done)
    | (exact outO_out h)
    | (exact indexStr_out _ _ h)
theorem binOut_out (t : TypeId) (c : Bool) (op : BinOp) (x y : V) {obl : List Bool} {v : V} {out : List Blk} {new : Option Blk} (h : binOut uI uB uS T t c op x y = .val obl v out new) : out = [] := by
  unfold binOut at h
  repeat' split at h
  all_goals first
    | (cases h; done)
    | (simp only [Out.val.injEq] at h; exact h.2.2.1.symm)
    | (exact outO_out h)
    | (exact valV_out _ h)
theorem vact_out {n : Nat} {op : Op} {xs : List V} {bs : List Blk} {obl : List Bool} {v : V} {out : List Blk} {new : Option Blk} (hw : writes op = false) (h : vact uI uB uS uL uT T n op xs bs = .val obl v out new) : out = [] ∨ out = bs := by
  unfold vact at h
  split at h
  · exact .inl (actMove_out _ h)
  · exact .inl (actMove_out _ h)
  · exact .inl (actPick_out _ h)
  · exact .inl (actAlloc_out _ _ h)
  · exact .inl (actBox_out _ _ _ h)
  · exact .inl (buildOut_out _ _ _ h)
  · simp [writes] at hw
  · unfold actLoad at h
    split at h
    · exact .inr (loadB_out h)
    · cases h
  · simp [writes] at hw
  · exact .inl (actNil_out _ h)
  · unfold act2 at h
    split at h
    · exact .inl (binOut_out _ _ _ _ _ h)
    · cases h
  · unfold act1 at h
    split at h
    · exact .inl (unOut_out _ _ h)
    · cases h
  · unfold act1 at h
    split at h
    · exact convOut_out h
    · cases h
  · unfold act1 at h
    split at h
    · exact .inl (arrPtrOut_out _ _ h)
    · cases h
  · unfold act1 at h
    split at h
    · exact .inl (ifaceOut_out _ _ h)
    · cases h
  · unfold act2 at h
    split at h
    · exact .inl (makeOut_out _ _ _ _ h)
    · cases h
  · unfold actSlice at h
    repeat' split at h
    all_goals first
      | (cases h; done)
      | (exact .inl (sliceOut_out _ _ _ _ h))
  · unfold act1 at h
    split at h
    · exact .inl (fieldAddrOut_out _ _ _ h)
    · cases h
  · unfold act1 at h
    split at h
    · exact .inl (fieldOut_out _ _ _ h)
    · cases h
  · unfold act2 at h
    split at h
    · exact .inl (indexAddrOut_out _ _ _ h)
    · cases h
  · unfold act2 at h
    split at h
    · exact .inl (indexOut_out _ _ _ h)
    · cases h
  · exact .inl (actExtract_out _ _ h)
  · rename_i c
    unfold callOut at h
    split at h
    · repeat' split at h
      all_goals (cases h; done)
    · rename_i b hb
      split at h
      · repeat' split at h
        all_goals first
          | (cases h; done)
          | (simp only [Out.val.injEq] at h; exact .inl h.2.2.1.symm)
      · simp [writes, hb] at hw
      · simp [writes, hb] at hw
      · repeat' split at h
        all_goals first
          | (cases h; done)
          | (simp only [Out.val.injEq] at h; exact .inl h.2.2.1.symm)
      · repeat' split at h
        all_goals first
          | (cases h; done)
          | (simp only [Out.val.injEq] at h; exact .inl h.2.2.1.symm)
      · cases h
    · cases h
  · cases h
theorem zip_same {hp : Hp} : ∀ {ids : List Nat} {out : List Blk}, (out = [] ∨ out = hgets hp ids) → ∀ x ∈ zipW ids out, hget hp x.1 = x.2
  | ids, out, .inl e, x, hx => by subst e; rw [zipW_nil] at hx; simp at hx
  | [], out, .inr e, x, hx => by subst e; simp [hgets, zipW] at hx
  | i :: ids, out, .inr e, x, hx => by
    subst e
    simp only [hgets, zipW, List.mem_cons] at hx
    rcases hx with rfl | hx
    · rfl
    · exact zip_same (.inr rfl) x hx
theorem hwrites_append : ∀ (A B : List (Nat × Blk)) (hp : Hp), hwrites hp (A ++ B) = hwrites (hwrites hp A) B
  | [], B, hp => rfl
  | (i, b) :: A, B, hp => by simp only [List.cons_append, hwrites, hwrites_append A]
theorem hget_hwrites_congr {hp hp' : Hp} (h : ∀ i, hget hp i = hget hp' i) (W : List (Nat × Blk)) (i : Nat) : hget (hwrites hp W) i = hget (hwrites hp' W) i := by rw [hget_wr, hget_wr, h]
end
end
end Sx
set_option linter.unusedVariables false
set_option linter.unusedSimpArgs false
namespace Sx
open Go
def endF (fr : Fr) : List Item → Fr
  | [] => fr
  | it :: r => endF (fsetO fr it.dst it.v) r
def endH (hp : Hp) : List Item → Hp
  | [] => hp
  | it :: r => endH (hwrites hp it.W) r
theorem fstL_mem : ∀ {W : List (Nat × Blk)} {i : Nat} {b : Blk}, (i, b) ∈ W → i ∈ fstL W
  | [], _, _, h => by simp at h
  | (j, c) :: r, i, b, h => by
    simp only [fstL, List.mem_cons]
    rcases List.mem_cons.1 h with e | h
    · cases e; exact .inl rfl
    · exact .inr (fstL_mem h)

section
variable {P : Program} {T : Tab} {own : Own} {w0 : World} {rb : Rho}
section
variable {uI : FI → Int} {uB : FB → Bool} {uS : FS → ByteArray} {uL : FL → List Int} {uT : FT → TT} (hu : Std uI uB uS uL uT)
include hu

/-- One operation of a region that draws. -/
theorem draw_step {all : List Oper} {o : Oper} {next : Item → Fr → Hp → Prop} (own : Own) (w0 : World) (rb : Rho) (hT : TabOk P T) {fr : Fr} {hp : Hp} (h : vdGo uI uB uS uL uT T P (rdOf all o) o next fr hp (wantedV all o fr)) :
    ∃ it, it.dst = o.dst ∧ StepOk P own w0 rb all o it fr hp ∧ next it (fsetO fr it.dst it.v) (hwrites hp it.W) := by
  unfold vdGo at h
  split at h
  · exact h.elim
  · rename_i hw
    refine ⟨_, rfl, ?_, h⟩
    intro r fr' hp' a w K Q hs hrd hF hK
    rw [← wanted_congr hrd] at hw
    rw [if_neg (by rw [wanted_ok hs.rel hw]; simp)]
    exact hK r _ w (hs.put (Rho.le_refl r) (by simp [VRel]) hs.good (Keep.refl own w))
  · rename_i hw
    unfold vdXs vdIds at h
    split at h
    · exact h.elim
    · rename_i hd
      unfold vdOut at h
      split at h
      · exact h.elim
      · rename_i obl v out new hv
        obtain ⟨ho, h2⟩ := obls_of h
        obtain ⟨u, hu1, hu2⟩ := St.split (d := o.dst) h2
        refine ⟨_, rfl, ?_, hu1⟩
        intro r fr' hp' a w K Q hs hrd hF hK
        simp only at hrd hF hK
        rw [← wanted_congr hrd] at hw
        rw [if_pos (wanted_ok hs.rel hw)]
        refine .inl ?_
        have hxs : opds fr' (operandsL o.op) = opds fr (operandsL o.op) := opd_congr (fun t ht => hrd t (by simp [rdOf, ht]))
        have hids : hgets hp' (foot o.op (opds fr (operandsL o.op))) = hgets hp (foot o.op (opds fr (operandsL o.op))) := hgets_congr (fun i hi => hF i (by simp [hi]))
        rw [← hids] at hv
        refine step_val hu hT hs (n := llen hp) (fun hne => ?_) hxs.symm rfl hd hv ho (fun r' a' w' hs' => ?_)
        · cases new with
          | none => exact absurd rfl hne
          | some b => rw [hF (llen hp) (by simp [newW, fstL])]; exact hget_ge _ _ (by rw [llen_eq]; exact Nat.le_refl _)
        · refine hK r' a' w' ((hu2 hs').congr (fun i => ?_))
          unfold outW
          cases hwr : writes o.op with
          | true => rfl
          | false =>
            simp only [List.nil_append]
            rw [hwrites_append]
            refine hget_hwrites_congr (fun i => ?_) _ i
            exact (hget_hwrites_same (zip_same (vact_out hwr hv)) i).symm
      · rename_i f args hv
        split at h
        · rename_i hic
          unfold callD at h
          split at h
          rename_i p args' hp1
          split at h
          rename_i p2 E0 hp2
          split at h
          · exact h.elim
          · rename_i ob hob
            split at h
            · exact h.elim
            · rename_i hvo
              obtain ⟨ho, h2⟩ := obls_of h
              obtain ⟨x, E, hspec, hk⟩ := h2
              split at hk
              · exact hk.elim
              · rename_i hno
                obtain ⟨u, hu1, hu2⟩ := St.split (d := o.dst) hk
                refine ⟨_, rfl, ?_, hu1⟩
                intro r fr' hp' a w K Q hs hrd hF hK
                simp only at hrd hF hK
                rw [← wanted_congr hrd] at hw
                rw [if_pos (wanted_ok hs.rel hw)]
                refine .inl ?_
                have hxs : opds fr' (operandsL o.op) = opds fr (operandsL o.op) := opd_congr (fun t ht => hrd t (by simp [rdOf, ht]))
                refine step_call hu (base := llen hp) hs hxs.symm hic hv hp1 hp2 hob ho hvo (fun s hs => ?_) hspec.norm (fun x' E' hR => ?_) (fun r' x' E' a' w' hR hs' => ?_)
                · refine hF s.id ?_
                  rw [List.mem_append, List.mem_map]
                  exact .inl ⟨s, hs, by cases s <;> rfl⟩
                · obtain ⟨rfl, rfl⟩ := hR
                  refine ⟨hno, fun i hi hlt => ?_⟩
                  have : (llen hp + (i - p2.src.length), backB uI p2.src (llen hp) (llen p2.src) E'[i]) ∈ mergeH uI p2.src (llen hp) (llen p2.src) 0 E' :=
                    mergeH_mem.2 ⟨i, E'[i], List.getElem?_eq_getElem hlt, rfl, .inr ⟨by rw [Nat.zero_add]; exact List.getElem?_eq_none hi, by rw [Nat.zero_add, llen_eq p2.src]⟩⟩
                  rw [hF _ (by rw [List.mem_append]; exact .inr (fstL_mem this))]
                  exact hget_ge _ _ (by rw [llen_eq]; omega)
                · obtain ⟨rfl, rfl⟩ := hR
                  exact hK r' a' w' (hu2 hs')
        · exact h.elim

theorem vdraw_chain {all : List Oper} {K : Fr → Hp → Prop} (own : Own) (w0 : World) (rb : Rho) (hT : TabOk P T) : ∀ (l : List Oper) (its : List Item) (fr : Fr) (hp : Hp), vdraw uI uB uS uL uT T P all K l its fr hp →
    ∃ items, items.length = l.length ∧ (∀ (j : Nat) o it, l[j]? = some o → items[j]? = some it → StepOk P own w0 rb all o it (endF fr (items.take j)) (endH hp (items.take j))) ∧
      Same (dstsL l) fr (endF fr items) ∧ drawOk all (its ++ items) = true ∧ K (endF fr items) (endH hp items)
  | [], its, fr, hp, h => by
    simp only [vdraw] at h
    split at h
    · rename_i hd; exact ⟨[], rfl, by simp, Same.refl _ _, by simpa using hd, h⟩
    · exact h.elim
  | o :: l, its, fr, hp, h => by
    simp only [vdraw] at h
    obtain ⟨it, h0, h1, h2⟩ := draw_step hu own w0 rb hT h
    obtain ⟨items, h3, h4, h45, h5, h6⟩ := vdraw_chain own w0 rb hT l (its ++ [it]) _ _ h2
    refine ⟨it :: items, by simp [h3], fun j o' it' ho hi => ?_, Same.put h0.symm h45, by simpa using h5, h6⟩
    cases j with
    | zero => simp at ho hi; subst ho; subst hi; exact h1
    | succ j => exact h4 j o' it' (by simpa using ho) (by simpa using hi)
end

theorem frS_true (its : List Item) (fr : Fr) : ∀ n, n ≤ its.length → frS its fr (fun _ => true) n = endF fr (its.take n) := by
  have step : ∀ (l : List Item) (fr : Fr) (it : Item), endF fr (l ++ [it]) = fsetO (endF fr l) it.dst it.v := by
    intro l
    induction l with
    | nil => intro fr it; rfl
    | cons a l ih => intro fr it; exact ih _ it
  intro n
  induction n with
  | zero => intro _; simp [frS, endF]
  | succ n ih =>
    intro h
    simp only [frS, if_true]
    rw [ih (by omega), List.take_succ, itemAt_some (by omega)]
    exact (step _ _ _).symm
theorem hpS_true (its : List Item) (hp : Hp) : ∀ n, n ≤ its.length → hpS its hp (fun _ => true) n = endH hp (its.take n) := by
  have step : ∀ (l : List Item) (hp : Hp) (it : Item), endH hp (l ++ [it]) = hwrites (endH hp l) it.W := by
    intro l
    induction l with
    | nil => intro hp it; rfl
    | cons a l ih => intro hp it; exact ih _ it
  intro n
  induction n with
  | zero => intro _; simp [hpS, endH]
  | succ n ih =>
    intro h
    simp only [hpS, if_true]
    rw [ih (by omega), List.take_succ, itemAt_some (by omega)]
    exact (step _ _ _).symm

theorem any_sound {all : List Oper} {its : List Item} {fr : Fr} {hp : Hp} {Q : Exit → Act → World → Prop} (hl : its.length = all.length) (hd : drawOk all its = true)
    (hst : ∀ (j : Nat) o it, all[j]? = some o → its[j]? = some it → StepOk P own w0 rb all o it (endF fr (its.take j)) (endH hp (its.take j)))
    (hQ : ∀ r a w, St P own w0 rb r (endF fr its) (endH hp its) a w → Q .normal a w) :
    ∀ (fuel : Nat) (listed : Array Bool) (r : Rho) (a : Act) (w : World), listed.size = all.length → Closed all (fun i => listed.getD i false) → (listed.toList.countP (fun b => !b)) = fuel →
      St P own w0 rb r (frS its fr (fun i => listed.getD i false) all.length) (hpS its hp (fun i => listed.getD i false) all.length) a w → wpAny P .any all.toArray Q fuel listed a w := by
  have hbk : backwards 0 all = true := by unfold drawOk at hd; rw [Bool.and_eq_true] at hd; exact hd.2
  have fin : ∀ (listed : Array Bool) (r : Rho) (a : Act) (w : World), listed.size = all.length → (∀ i, i < all.length → listed.getD i false = true) →
      St P own w0 rb r (frS its fr (fun i => listed.getD i false) all.length) (hpS its hp (fun i => listed.getD i false) all.length) a w → Q .normal a w := by
    intro listed r a w hs hall hst'
    have e1 := frS_true its fr all.length (by omega)
    have e2 := hpS_true its hp all.length (by omega)
    rw [← hl, List.take_length] at e1 e2
    refine hQ r a w ((hst'.congrF (fr' := endF fr its) ?_ (fun t => ?_)).congr (fun i => ?_))
    · rw [← e1, frS_len, frS_len]
    · rw [← e1, frS_get, frS_get, hl]; exact lastI_congr (fun i hi _ => (hall i hi).symm)
    · rw [← e2, hpS_get, hpS_get, hl]; exact lastI_congr (fun i hi _ => (hall i hi).symm)
  intro fuel
  induction fuel with
  | zero =>
    intro listed r a w hs hc hcount hst'
    have hall : ∀ i, i < all.length → listed.getD i false = true := by
      intro i hi
      rw [List.countP_eq_zero] at hcount
      have hlt : i < listed.size := by omega
      have := hcount listed[i] (by simp)
      simpa [Array.getD_eq_getD_getElem?, hlt] using this
    refine ⟨?_, fin listed r a w hs hall hst'⟩
    cases hr : Region.ready .any all.toArray listed with
    | nil => rfl
    | cons i rest =>
      obtain ⟨o, ho, hf, _⟩ := ready_spec hs (show i ∈ Region.ready .any all.toArray listed by rw [hr]; simp)
      have := hall i (List.getElem?_eq_some_iff.1 ho).1
      rw [hf] at this; cases this
  | succ fuel ih =>
    intro listed r a w hs hc hcount hst'
    refine ⟨fun h0 => fin listed r a w hs (all_listed hs hbk h0) hst', fun i hi => ?_⟩
    obtain ⟨o, ho, hf, he⟩ := ready_spec hs hi
    have hil : i < all.length := (List.getElem?_eq_some_iff.1 ho).1
    have hfit := order_fits hd hl hc ho hf he
    have hflag : (fun k => (listed.setIfInBounds i true).getD k false) = (fun k => if k = i then true else listed.getD k false) := by
      funext k
      by_cases e : k = i
      · subst e; simp [Array.getD_eq_getD_getElem?, show k < listed.size by omega]
      · simp [Array.getD_eq_getD_getElem?, Array.getElem?_setIfInBounds, e, Ne.symm e]
    unfold wpOp
    rw [List.getElem?_toArray, ho]
    simp only
    have hits : its[i]? = some (itemAt its i) := itemAt_some (by omega)
    have hstep := hst i o _ ho hits
    refine hstep r _ _ a w _ Q hst' (fun t ht => ?_) (fun t ht => ?_) (fun r' a' w' hs' => ?_)
    · rw [hfit.fr fr ht, frS_true its fr i (by omega)]
    · rw [hfit.hp hp ht, hpS_true its hp i (by omega)]
    · refine ih (listed.setIfInBounds i true) r' a' w' (by simp [hs]) ?_ ?_ ?_
      · rw [hflag]
        intro j o' ho' hj e he' hb
        simp only at hj ⊢
        split
        · rfl
        · by_cases e1 : j = i
          · subst e1; rw [ho] at ho'; cases ho'; exact he e he' hb
          · simp only [e1, if_false] at hj; exact hc j o' ho' hj e he' hb
      · have hlt : i < listed.toList.length := by simp; omega
        have hq : listed.toList[i] = false := by
          have hlt' : i < listed.size := by omega
          simpa [Array.getD_eq_getD_getElem?, hlt'] using hf
        rw [Array.toList_setIfInBounds, List.countP_set hlt]
        rw [hq, hcount]; simp
      · rw [hflag]
        refine (hs'.congrF ?_ (fun t => hfit.frPut fr t)).congr (fun t => hfit.hpPut hp t)
        rw [frS_len]
        cases (itemAt its i).dst <;> simp [fsetO, fset_length, frS_len]
end
end Sx
set_option linter.unusedVariables false
set_option linter.unusedSimpArgs false
namespace Sx
open Go
section
variable {P : Program} {T : Tab} {own : Own} {r rb : Rho} {fr : Fr} {hp : Hp} {a : Act} {w w0 : World}

/-! ## Forgetting blocks -/
theorem idsUp_iff {n : Nat} : ∀ {l : List Nat}, idsUp n l = true ↔ ∀ i ∈ l, i < n
  | [] => by simp [idsUp]
  | i :: l => by simp only [idsUp, Bool.and_eq_true, idsUp_iff (l := l), List.mem_cons]; simp [Nat.blt_eq]
mutual
theorem cut_rel {r s : Rho} {n : Nat} (h : ∀ i, i < n → s i = r i) : ∀ {v : V} {x : Value}, (∀ i ∈ idsV v, i < n) → VRel r v x → VRel s v x
  | .ptr i o, x, hi, hr => by simp only [VRel] at hr ⊢; rw [h i (hi i (by simp [idsV]))]; exact hr
  | .vec i m, x, hi, hr => by simp only [VRel] at hr ⊢; rw [h i (hi i (by simp [idsV]))]; exact hr
  | .sl i o m, x, hi, hr => by simp only [VRel] at hr ⊢; rw [h i (hi i (by simp [idsV]))]; exact hr
  | .agg l, x, hi, hr => by
    simp only [VRel] at hr ⊢
    obtain ⟨cs, h1, h2, h3⟩ := hr
    exact ⟨cs, h1, cutL_rel h (by simpa [idsV] using hi) h2, h3⟩
  | .tup l, x, hi, hr => by
    simp only [VRel] at hr ⊢
    obtain ⟨cs, h1, h2⟩ := hr
    exact ⟨cs, h1, cutL_rel h (by simpa [idsV] using hi) h2⟩
  | .iface t v, x, hi, hr => by
    simp only [VRel] at hr ⊢
    obtain ⟨y, h1, h2⟩ := hr
    exact ⟨y, h1, cut_rel h (by simpa [idsV] using hi) h2⟩
  | .any, x, hi, hr | .undef, x, hi, hr | .bool _, x, hi, hr | .sbool _, x, hi, hr | .int _ _, x, hi, hr | .str _, x, hi, hr | .nilp, x, hi, hr | .nilsl, x, hi, hr | .cols _ _, x, hi, hr | .nilif, x, hi, hr | .nilq _ _, x, hi, hr | .raw _, x, hi, hr => by
    simpa [VRel] using hr
theorem cutL_rel {r s : Rho} {n : Nat} (h : ∀ i, i < n → s i = r i) : ∀ {l : List V} {xs : List Value}, (∀ i ∈ idsL l, i < n) → VRelL r l xs → VRelL s l xs
  | [], xs, hi, hr => by cases xs <;> simp [VRelL] at hr ⊢
  | v :: l, [], hi, hr => by simp [VRelL] at hr
  | v :: l, x :: xs, hi, hr => by
    simp only [idsL, List.mem_append] at hi
    simp only [VRelL] at hr ⊢
    exact ⟨cut_rel h (fun i hq => hi i (.inl hq)) hr.1, cutL_rel h (fun i hq => hi i (.inr hq)) hr.2⟩
end
theorem idsL_mem {i : Nat} : ∀ {l : List V} {v : V}, v ∈ l → i ∈ idsV v → i ∈ idsL l
  | u :: l, v, h, hi => by
    simp only [idsL, List.mem_append]
    rcases List.mem_cons.1 h with rfl | h
    · exact .inl hi
    · exact .inr (idsL_mem h hi)
theorem fitsH_spec {n : Nat} : ∀ {H : Hp}, fitsH n H = true → ∀ i t cs, hget H i = .cells t cs → ∀ k ∈ idsL cs, k < n
  | [], _, i, t, cs, hb, k, hk => by simp [hget] at hb
  | b :: H, h, i, t, cs, hb, k, hk => by
    cases i with
    | zero =>
      simp only [hget] at hb; subst hb
      simp only [fitsH, Bool.and_eq_true] at h
      exact idsUp_iff.1 h.1 k hk
    | succ i =>
      simp only [hget] at hb
      have h' : fitsH n H = true := by
        cases b <;> simp only [fitsH, Bool.and_eq_true] at h <;> first | exact h.2 | exact h
      exact fitsH_spec h' i t cs hb k hk
theorem subH_get : ∀ {hp H : Hp}, subH hp H → ∀ i, i < H.length → Blk.sub (hget hp i) (hget H i)
  | a :: hp, b :: H, h, 0, _ => by simp only [subH] at h; exact h.1
  | a :: hp, b :: H, h, i + 1, hi => by simp only [subH] at h; exact subH_get h.2 i (by simpa using hi)
  | [], b :: H, h, _, _ => by simp [subH] at h
  | _, [], _, i, hi => by simp at hi

theorem good_sub {H : Hp} {rb : Rho} {F : Fr} {hp0 : Hp} (hg : Good P own r hp w) (hs : subH hp H) (hf : fits hp0 H F = true) (hb : rb.le r) (hb0 : ∀ i x, rb i = some x → i < hp0.length) :
    ∃ s : Rho, Good P own s H w ∧ rb.le s ∧ ∀ i, i < H.length → s i = r i := by
  unfold fits at hf
  simp only [Bool.and_eq_true, llen_eq] at hf
  have hle := Nat.le_of_ble_eq_true hf.1
  obtain ⟨s, hse⟩ : ∃ s : Rho, s = fun i => if i < H.length then r i else none := ⟨_, rfl⟩
  have hs1 : ∀ i, i < H.length → s i = r i := fun i hi => by rw [hse]; simp [hi]
  have hs2 : ∀ i x, s i = some x → i < H.length ∧ r i = some x := fun i x h => by
    rw [hse] at h
    by_cases hi : i < H.length
    · simp [hi] at h; exact ⟨hi, h⟩
    · simp [hi] at h
  have hlen : ∀ i, hget H i ≠ .unborn → i < H.length := fun i h => by
    rcases Nat.lt_or_ge i H.length with h1 | h1
    · exact h1
    · exact absurd (hget_ge _ _ h1) h
  -- what lives here lives there, alike
  have same : ∀ i, (hget H i).live = true → i < H.length ∧ (hget hp i).live = true ∧ (hget hp i).mut = (hget H i).mut ∧ ∀ x g, (hget H i).uses w x g ↔ (hget hp i).uses w x g := by
    intro i hl
    have hi := hlen i (live_born hl)
    have hsub := subH_get hs i hi
    refine ⟨hi, ?_⟩
    cases hq : hget H i <;> cases hq' : hget hp i <;> rw [hq, hq'] at hsub <;> rw [hq] at hl <;> simp only [Blk.sub, Blk.live] at hsub hl <;> try (first | exact hsub.elim | (cases hl; done))
    · exact ⟨rfl, rfl, fun x g => Iff.rfl⟩
    · rename_i md t cs md' t' cs'
      cases md <;> cases md' <;> simp only [Blk.sub] at hsub <;> try (exact hsub.elim)
      · exact ⟨rfl, rfl, fun x g => Iff.rfl⟩
      · exact ⟨rfl, rfl, fun x g => Iff.rfl⟩
      · exact ⟨rfl, rfl, fun x g => Iff.rfl⟩
    · obtain ⟨rfl, rfl⟩ := hsub; exact ⟨rfl, rfl, fun x g => Iff.rfl⟩
    · obtain ⟨rfl, rfl, rfl⟩ := hsub; exact ⟨rfl, rfl, fun x g => Iff.rfl⟩
  refine ⟨s, ⟨fun i hi => ?_, fun i hi => ?_, fun i x b hm hx hb => ?_, fun i j x y b g hij hm hl hx hy hb hu => ?_, fun i x g hl hx hu => ?_, fun i x g hl hx hu => ?_⟩, ?_, hs1⟩
  · rw [hse]
    by_cases h : i < H.length
    · simp only [h, if_true]
      refine hg.born i ?_
      have hsub := subH_get hs i h
      rw [hi] at hsub
      cases hq : hget hp i <;> rw [hq] at hsub <;> simp only [Blk.sub] at hsub
    · simp [h]
  · have hl := hlen i hi
    have hsub := subH_get hs i hl
    have hne : hget hp i ≠ .unborn := by
      intro e; rw [e] at hsub
      cases hq : hget H i <;> rw [hq] at hsub hi <;> simp only [Blk.sub] at hsub
      exact hi rfl
    obtain ⟨x, hx, hbr⟩ := hg.rel i hne
    refine ⟨x, by rw [hs1 i hl]; exact hx, ?_⟩
    cases hq : hget H i with
    | unborn => exact absurd hq hi
    | dead => trivial
    | cells t cs =>
      rw [hq] at hsub
      cases hq' : hget hp i <;> rw [hq'] at hsub hbr <;> try (simp only [Blk.sub] at hsub; done)
      case cells t' cs' =>
      simp only [Blk.sub] at hsub
      obtain ⟨g, vals, b1, b2, b3, b4⟩ := hbr
      exact ⟨g, vals, b1, by rw [← hsub.1]; exact b2, cutL_rel hs1 (fitsH_spec hf.2.2 i t cs hq) (subL_rel hsub.2 b3), b4⟩
    | slices k xss =>
      rw [hq] at hsub
      cases hq' : hget hp i <;> rw [hq'] at hsub hbr <;> try (simp only [Blk.sub] at hsub; done)
      case slices k' xss' =>
      simp only [Blk.sub] at hsub
      obtain ⟨rfl, rfl⟩ := hsub
      exact hbr
    | srow e k xss =>
      rw [hq] at hsub
      cases hq' : hget hp i <;> rw [hq'] at hsub hbr <;> try (simp only [Blk.sub] at hsub; done)
      case srow e' k' xss' =>
      simp only [Blk.sub] at hsub
      obtain ⟨rfl, rfl, rfl⟩ := hsub
      exact hbr
    | cols md t cs =>
      rw [hq] at hsub
      cases hq' : hget hp i <;> rw [hq'] at hsub hbr <;> try (cases md <;> simp only [Blk.sub] at hsub; done)
      case cols md' t' cs' =>
      cases md <;> cases md' <;> simp only [Blk.sub] at hsub
      · obtain ⟨rfl, hc⟩ := hsub
        obtain ⟨g, vals, n, b1, b2, b3, b4, b5⟩ := hbr
        exact ⟨g, vals, n, b1, b2, cols_sub hc b3, fun e => b4 (by have := colsSub_len hc; rw [e] at this; exact List.eq_nil_of_length_eq_zero this.symm), b5⟩
      · obtain ⟨rfl, hc⟩ := hsub
        obtain ⟨vals, n, b1, b2, b3⟩ := hbr
        exact ⟨vals, n, cols_sub hc b1, fun e => b2 (by have := colsSub_len hc; rw [e] at this; exact List.eq_nil_of_length_eq_zero this.symm), b3⟩
      · obtain ⟨rfl, rfl, hc⟩ := hsub
        obtain ⟨vals, n, m, b1, b2, b3⟩ := hbr
        exact ⟨vals, n, m, cols_sub hc b1, fun e => b2 (by have := colsSub_len hc; rw [e] at this; exact List.eq_nil_of_length_eq_zero this.symm), b3⟩
  · obtain ⟨h1, h2, h3, h4⟩ := same i (mut_live hm)
    exact hg.own i x b (by rw [h3]; exact hm) (hs2 i x hx).2 hb
  · obtain ⟨h1, h2, h3, h4⟩ := same i (mut_live hm)
    obtain ⟨k1, k2, k3, k4⟩ := same j hl
    exact hg.apart i j x y b g hij (by rw [h3]; exact hm) k2 (hs2 i x hx).2 (hs2 j y hy).2 hb ((k4 y g).1 hu)
  · obtain ⟨h1, h2, h3, h4⟩ := same i hl
    exact hg.below i x g h2 (hs2 i x hx).2 ((h4 x g).1 hu)
  · obtain ⟨h1, h2, h3, h4⟩ := same i hl
    exact hg.seen i x g h2 (hs2 i x hx).2 ((h4 x g).1 hu)
  · intro i x hx
    rw [hs1 i (Nat.lt_of_lt_of_le (hb0 i x hx) hle)]
    exact hb i x hx
end
end Sx
set_option linter.unusedVariables false
set_option linter.unusedSimpArgs false
namespace Sx
open Go
section
variable {P : Program} {T : Tab} {own : Own} {r rb : Rho} {fr : Fr} {hp : Hp} {a : Act} {w w0 : World}

theorem memN_iff : ∀ {x : Nat} {l : List Nat}, memN x l = true ↔ x ∈ l
  | x, [] => by simp [memN]
  | x, y :: l => by
    simp only [memN, Bool.or_eq_true, memN_iff (l := l), List.mem_cons]
    constructor
    · rintro (h | h)
      · exact .inl (Nat.eq_of_beq_eq_true h).symm
      · exact .inr h
    · rintro (h | h)
      · subst h; left; simp
      · exact .inr h
theorem subN_iff : ∀ {l m : List Nat}, subN l m = true → ∀ x ∈ l, x ∈ m
  | [], m, _, x, hx => by simp at hx
  | y :: l, m, h, x, hx => by
    simp only [subN, Bool.and_eq_true, memN_iff] at h
    rcases List.mem_cons.1 hx with rfl | hx
    · exact h.1
    · exact subN_iff h.2 x hx

theorem idxN_some {n : Nat} : ∀ {l : List Nat} {k j : Nat}, idxN n l k = some j → ∃ i, j = k + i ∧ l[i]? = some n
  | [], _, _, h => by simp [idxN] at h
  | x :: l, k, j, h => by
    simp only [idxN] at h
    split at h
    · rename_i hx
      simp only [Option.some.injEq] at h; subst h
      exact ⟨0, rfl, by simp [Nat.eq_of_beq_eq_true hx]⟩
    · obtain ⟨i, h1, h2⟩ := idxN_some h
      exact ⟨i + 1, by omega, by simpa using h2⟩
theorem dup_inj : ∀ {l : List Nat}, dup l = false → ∀ (i j x : Nat), l[i]? = some x → l[j]? = some x → i = j
  | [], _, i, j, x, hi, _ => by simp at hi
  | y :: l, h, i, j, x, hi, hj => by
    simp only [dup, Bool.or_eq_false_iff] at h
    have hn : ∀ k, l[k]? = some y → False := fun k hk => by
      have := memN_iff.2 (List.mem_of_getElem? hk)
      rw [this] at h; exact absurd h.1 (by simp)
    cases i with
    | zero => cases j with
      | zero => rfl
      | succ j => simp at hi hj; subst hi; exact (hn j hj).elim
    | succ i => cases j with
      | zero => simp at hi hj; subst hj; exact (hn i hi).elim
      | succ j => simp at hi hj; rw [dup_inj h.2 i j x hi hj]
theorem preOk_get : ∀ {n k : Nat} {l : List Nat}, preOk k n l = true → ∀ i : Nat, i < n → l[i]? = some (k + i)
  | 0, _, _, _, i, hi => by omega
  | n + 1, k, x :: l, h, i, hi => by
    simp only [preOk, Bool.and_eq_true] at h
    cases i with
    | zero => simp [Nat.eq_of_beq_eq_true h.1]
    | succ i => have := preOk_get h.2 i (by omega); simp only [List.getElem?_cons_succ, this]; congr 1; omega
  | n + 1, _, [], h, _, _ => by simp [preOk] at h

/-- The names of the end. -/
def selR (r : Rho) (ids : List Nat) : Rho := fun j => match ids[j]? with
  | some id => r id
  | none => none
theorem selR_idx {ids : List Nat} {i j : Nat} (h : idxN i ids 0 = some j) : selR r ids j = r i := by
  obtain ⟨k, h1, h2⟩ := idxN_some h
  rw [Nat.zero_add] at h1; subst h1
  simp [selR, h2]
mutual
theorem ren_rel {ids : List Nat} : ∀ {v : V} {x : Value}, VRel r v x → VRel (selR r ids) (ren ids v) x
  | .ptr i o, x, h => by
    simp only [ren]; split
    · rename_i j hj; simp only [VRel] at h ⊢; rw [selR_idx hj]; exact h
    · simp [VRel]
  | .vec i o, x, h => by
    simp only [ren]; split
    · rename_i j hj; simp only [VRel] at h ⊢; rw [selR_idx hj]; exact h
    · simp [VRel]
  | .sl i o n, x, h => by
    simp only [ren]; split
    · rename_i j hj; simp only [VRel] at h ⊢; rw [selR_idx hj]; exact h
    · simp [VRel]
  | .agg l, x, h => by
    simp only [VRel] at h
    obtain ⟨cs, h1, h2, h3⟩ := h
    simp only [ren, VRel]; exact ⟨cs, h1, renL_rel h2, h3⟩
  | .tup l, x, h => by
    simp only [VRel] at h
    obtain ⟨cs, h1, h2⟩ := h
    simp only [ren, VRel]; exact ⟨cs, h1, renL_rel h2⟩
  | .iface t v, x, h => by
    simp only [VRel] at h
    obtain ⟨y, h1, h2⟩ := h
    simp only [ren, VRel]; exact ⟨y, h1, ren_rel h2⟩
  | .any, x, h | .undef, x, h | .bool _, x, h | .sbool _, x, h | .int _ _, x, h | .str _, x, h | .nilp, x, h | .nilsl, x, h | .cols _ _, x, h | .nilif, x, h | .nilq _ _, x, h | .raw _, x, h => by
    simpa [ren, VRel] using h
theorem renL_rel {ids : List Nat} : ∀ {l : List V} {xs : List Value}, VRelL r l xs → VRelL (selR r ids) (renL ids l) xs
  | [], [], h => by simp [renL, VRelL]
  | [], _ :: _, h => by simp [VRelL] at h
  | _ :: _, [], h => by simp [VRelL] at h
  | v :: l, x :: xs, h => by simp only [VRelL] at h; simp only [renL, VRelL]; exact ⟨ren_rel h.1, renL_rel h.2⟩
end
theorem selH_get (l : List Nat) : ∀ (ids : List Nat) (j : Nat), hget (selH hp l ids) j = match ids[j]? with
    | some id => renB l (hget hp id)
    | none => .unborn
  | [], j => by simp [selH, hget]
  | i :: ids, 0 => by simp [selH, hget]
  | i :: ids, j + 1 => by simpa [selH, hget] using selH_get l ids j
theorem renB_same (l : List Nat) (b : Blk) : (renB l b).mut = b.mut ∧ (renB l b).live = b.live ∧ (∀ (w : World) (x : RA) (g : Nat), (renB l b).uses w x g ↔ b.uses w x g) ∧ (renB l b = .unborn ↔ b = .unborn) := by
  cases b <;> simp [renB, Blk.mut, Blk.live, Blk.uses]

theorem end_good {ids : List Nat} (hg : Good P own r hp w) (hd : dup ids = false) : Good P own (selR r ids) (selH hp ids ids) w := by
  have key : ∀ i, (∃ id, ids[i]? = some id ∧ hget (selH hp ids ids) i = renB ids (hget hp id) ∧ selR r ids i = r id) ∨ (ids[i]? = none ∧ hget (selH hp ids ids) i = .unborn ∧ selR r ids i = none) := by
    intro i
    rw [selH_get]
    cases h : ids[i]? with
    | none => exact .inr ⟨rfl, by simp, by simp [selR, h]⟩
    | some id => exact .inl ⟨id, rfl, by simp, by simp [selR, h]⟩
  have S := fun b => renB_same ids b
  refine ⟨fun i hi => ?_, fun i hi => ?_, fun i x b hm hx hb => ?_, fun i j x y b g hij hm hl hx hy hb hu => ?_, fun i x g hl hx hu => ?_, fun i x g hl hx hu => ?_⟩
  · rcases key i with ⟨id, h1, h2, h3⟩ | ⟨h1, h2, h3⟩
    · rw [h3]; rw [h2] at hi; exact hg.born id ((S _).2.2.2.1 hi)
    · exact h3
  · rcases key i with ⟨id, h1, h2, h3⟩ | ⟨h1, h2, h3⟩
    · rw [h2] at hi ⊢
      have hne : hget hp id ≠ .unborn := fun e => hi ((S _).2.2.2.2 e)
      obtain ⟨x, k1, k2⟩ := hg.rel id hne
      refine ⟨x, by rw [h3]; exact k1, ?_⟩
      cases hq : hget hp id with
      | cells t cs =>
        rw [hq] at k2
        obtain ⟨g, vals, b1, b2, b3, b4⟩ := k2
        exact ⟨g, vals, b1, b2, renL_rel b3, b4⟩
      | unborn => exact absurd hq hne
      | dead => trivial
      | cols md t cs => rw [hq] at k2; cases md <;> exact k2
      | slices k xss => rw [hq] at k2; exact k2
      | srow e k xss => rw [hq] at k2; exact k2
    · exact absurd h2 hi
  · rcases key i with ⟨id, h1, h2, h3⟩ | ⟨h1, h2, h3⟩
    · rw [h2, (S _).1] at hm; rw [h3] at hx; exact hg.own id x b hm hx hb
    · rw [h3] at hx; cases hx
  · rcases key i with ⟨id, h1, h2, h3⟩ | ⟨h1, h2, h3⟩
    · rcases key j with ⟨jd, k1, k2, k3⟩ | ⟨k1, k2, k3⟩
      · rw [h2, (S _).1] at hm; rw [h3] at hx; rw [k2, (S _).2.1] at hl; rw [k2, (S _).2.2.1] at hu; rw [k3] at hy
        exact hg.apart id jd x y b g (fun e => hij (dup_inj hd i j id h1 (by rw [e]; exact k1))) hm hl hx hy hb hu
      · rw [k3] at hy; cases hy
    · rw [h3] at hx; cases hx
  · rcases key i with ⟨id, h1, h2, h3⟩ | ⟨h1, h2, h3⟩
    · rw [h2, (S _).2.1] at hl; rw [h2, (S _).2.2.1] at hu; rw [h3] at hx; exact hg.below id x g hl hx hu
    · rw [h3] at hx; cases hx
  · rcases key i with ⟨id, h1, h2, h3⟩ | ⟨h1, h2, h3⟩
    · rw [h2, (S _).2.1] at hl; rw [h2, (S _).2.2.1] at hu; rw [h3] at hx; exact hg.seen id x g hl hx hu
    · rw [h3] at hx; cases hx

end
end Sx
set_option linter.unusedVariables false
set_option linter.unusedSimpArgs false
set_option linter.unnecessarySimpa false
namespace Sx
open Go
def Ex.to : Ex → Exit
  | .norm => .normal
  | .exit id => .exit id
  | .ret => .ret
section
variable {P : Program} {T : Tab} {nb : Nat} {own : Own} {r rb : Rho} {fr : Fr} {hp : Hp} {a : Act} {w w0 : World}

theorem havoc_len : ∀ (ws : List Nat) (fr : Fr), (havoc ws fr).length = fr.length
  | [], fr => rfl
  | i :: ws, fr => by simp [havoc, havoc_len ws, fset_length]
theorem fsets_len : ∀ (sl : List Nat) (vs : List V) (fr : Fr), (fsets sl vs fr).length = fr.length
  | [], vs, fr => by simp [fsets]
  | i :: sl, [], fr => by simp [fsets]
  | i :: sl, v :: vs, fr => by simp [fsets, fsets_len sl vs, fset_length]
theorem havoc_rel {x : Nat → Value} : ∀ (ws : List Nat) (fr : Fr), (∀ t, fr.length ≤ t → x t = undef) → (∀ t, t ∉ ws → VRel r (fget fr t) (x t)) → ∀ t, VRel r (fget (havoc ws fr) t) (x t)
  | [], fr, _, h, t => h t (by simp)
  | i :: ws, fr, hu, h, t => by
    simp only [havoc]
    refine havoc_rel ws (fset fr i .any) (fun t ht => hu t (by simpa [fset_length] using ht)) (fun t ht => ?_) t
    by_cases e : i = t
    · subst e
      by_cases hl : i < fr.length
      · rw [fget_fset_eq _ _ _ hl]; simp [VRel]
      · rw [fget_ge _ _ (by rw [fset_length]; omega), hu i (by omega)]; simp [VRel]
    · rw [fget_fset_ne _ _ _ _ e]; exact h t (by simp [Ne.symm e, ht])
theorem fsets_rel {x : Nat → Value} {fr' : Fr} (hr : ∀ t, VRel r (fget fr' t) (x t)) : ∀ (sl : List Nat) (vs : List V) (fr : Fr), (∀ t, VRel r (fget fr t) (x t)) → V.subL (fgets fr' sl) vs → ∀ t, VRel r (fget (fsets sl vs fr) t) (x t)
  | [], vs, fr, h, _, t => by simpa [fsets] using h t
  | i :: sl, [], fr, h, _, t => by simpa [fsets] using h t
  | i :: sl, v :: vs, fr, h, hs, t => by
    simp only [fgets, V.subL] at hs
    simp only [fsets]
    refine fsets_rel hr sl vs (fset fr i v) (fun t => ?_) hs.2 t
    by_cases e : i = t
    · subst e
      by_cases hl : i < fr.length
      · rw [fget_fset_eq _ _ _ hl]; exact sub_rel hs.1 (hr i)
      · have := h i
        rw [fget_ge _ _ (by omega)] at this
        rw [fget_ge _ _ (by rw [fset_length]; omega)]; exact this
    · rw [fget_fset_ne _ _ _ _ e]; exact h t
theorem havoc_keep : ∀ (ws : List Nat) (fr : Fr) (t : Nat), t ∉ ws → fget (havoc ws fr) t = fget fr t
  | [], fr, t, _ => rfl
  | i :: ws, fr, t, h => by
    simp only [havoc]
    rw [havoc_keep ws _ t (fun q => h (by simp [q])), fget_fset_ne _ _ _ _ (fun e => h (by simp [e]))]
theorem havoc_any : ∀ (ws : List Nat) (fr : Fr) (t : Nat), t ∈ ws → t < fr.length → fget (havoc ws fr) t = .any
  | [], fr, t, h, _ => by simp at h
  | i :: ws, fr, t, h, hl => by
    simp only [havoc]
    by_cases hq : t ∈ ws
    · exact havoc_any ws _ t hq (by rw [fset_length]; exact hl)
    · have e : t = i := by simpa [hq] using h
      subst e
      rw [havoc_keep ws _ t hq, fget_fset_eq _ _ _ hl]
theorem fsets_keep : ∀ (sl : List Nat) (vs : List V) (fr : Fr) (t : Nat), t ∉ sl → fget (fsets sl vs fr) t = fget fr t
  | [], vs, fr, t, _ => by simp [fsets]
  | i :: sl, [], fr, t, _ => by simp [fsets]
  | i :: sl, v :: vs, fr, t, h => by
    simp only [fsets]
    rw [fsets_keep sl vs _ t (fun q => h (by simp [q])), fget_fset_ne _ _ _ _ (fun e => h (by simp [e]))]
theorem gate_iff {b : Bool} {p : Prop} : gate b p ↔ b = true ∧ p := by cases b <;> simp [gate]
theorem anyOk_get : ∀ {F fr' : Fr}, anyOk F fr' = true → F.length = fr'.length → ∀ t, fget fr' t = .any → t < fr'.length → fget F t = .any
  | [], [], _, _, t, _, h => by simp at h
  | [], _ :: _, _, hl, _, _, _ => by simp at hl
  | _ :: _, [], _, hl, _, _, _ => by simp at hl
  | v :: F, u :: fr', h, hl, 0, hu, _ => by
    simp only [fget] at hu ⊢
    subst hu
    cases v <;> simp [anyOk] at h <;> rfl
  | v :: F, u :: fr', h, hl, t + 1, hu, ht => by
    simp only [fget] at hu ⊢
    have h2 : anyOk F fr' = true := by
      cases v <;> first | (simpa [anyOk] using h) | (cases u <;> first | (simpa [anyOk] using h) | (simp [anyOk] at h))
    exact anyOk_get h2 (by simpa using hl) t hu (by simpa using ht)
/-- Behind a round: the slots that aren't written are what they were. -/
theorem Same.exact {ws : List Nat} {fr fr' : Fr} (h : Same ws fr fr') (ha : anyOk (havoc ws fr) fr' = true) (t : Nat) (ht : t ∉ ws) : fget fr' t = fget fr t := by
  rcases h.keep t ht with e | e
  · exact e
  · rcases Nat.lt_or_ge t fr'.length with hl | hl
    · have := anyOk_get ha (by rw [havoc_len, h.len]) t e hl
      rw [havoc_keep _ _ _ ht] at this
      rw [e, this]
    · rw [fget_ge _ _ hl] at e; cases e
theorem rounds_mono {c : Code} {Q : Exit → Act → World → Prop} : ∀ (n m : Nat), n ≤ m → ∀ a w, Code.rounds P c Q n a w → Code.rounds P c Q m a w
  | 0, m, _, a, w, h => h.elim
  | n + 1, m, hm, a, w, h => by
    obtain ⟨m', rfl⟩ : ∃ m', m = m' + 1 := ⟨m - 1, by omega⟩
    rw [rounds_succ] at h ⊢
    refine wp_mono h (fun e a w hq => ?_)
    cases e <;> first | exact rounds_mono n m' (by omega) a w hq | exact hq

theorem Good.drew (h : Good P own r hp w) (n : Nat) : Good P own r hp { w with drawn := n } := by
  have hc : ∀ g : Nat, ({ w with drawn := n } : World).heap[g]? = w.heap[g]? := fun _ => rfl
  refine ⟨h.born, fun i hi => ?_, h.own, fun i j x y b g hij hm hl hx hy hb hu => ?_, fun i x g hl hx hu => ?_, fun i x g hl hx hu => ?_⟩
  · obtain ⟨x, h1, h2⟩ := h.rel i hi
    exact ⟨x, h1, h2.world (fun g _ => hc g)⟩
  · exact h.apart i j x y b g hij hm hl hx hy hb ((uses_congr (fun g _ => hc g) g).1 hu)
  · exact h.below i x g hl hx ((uses_congr (fun g _ => hc g) g).1 hu)
  · exact h.seen i x g hl hx ((uses_congr (fun g _ => hc g) g).1 hu)
theorem St.drew (h : St P own w0 rb r fr hp a w) (n : Nat) : St P own w0 rb r fr hp a { w with drawn := n } :=
  ⟨h.len, h.defers, h.rel, h.good.drew n, h.news, ⟨h.keep.os, h.keep.tape, h.keep.output, h.keep.size, h.keep.block⟩, h.base, h.glob⟩

section
variable {uI : FI → Int} {uB : FB → Bool} {uS : FS → ByteArray} {uL : FL → List Int} {uT : FT → TT} (hu : Std uI uB uS uL uT)
include hu

/-- One round of a loop, sound. -/
def Sound (uI : FI → Int) (uB : FB → Bool) (uS : FS → ByteArray) (uL : FL → List Int) (uT : FT → TT) (P : Program) (T : Tab) (nb : Nat) (own : Own) (w0 : World) (rb : Rho) (c : Code) : Prop :=
  ∀ (K : Ex → Fr → Hp → Prop) (Q : Exit → Act → World → Prop) (r : Rho) (fr : Fr) (hp : Hp) (a : Act) (w : World), St P own w0 rb r fr hp a w →
    (∀ e r' fr' hp' a' w', St P own w0 rb r' fr' hp' a' w' → Same (dsts c) fr fr' → K e fr' hp' → Q e.to a' w') → vc uI uB uS uL uT T P nb c K fr hp → c.wp P Q a w

omit hu in
theorem unroll_sound {c : Code} (hc : Sound uI uB uS uL uT P T nb own w0 rb c) {K : Ex → Fr → Hp → Prop} {Q : Exit → Act → World → Prop} :
    ∀ (n : Nat) (r : Rho) (fr : Fr) (hp : Hp) (a : Act) (w : World), St P own w0 rb r fr hp a w → (∀ e r' fr' hp' a' w', St P own w0 rb r' fr' hp' a' w' → Same (dsts c) fr fr' → K e fr' hp' → Q e.to a' w') →
      unrollN (vc uI uB uS uL uT T P nb c) K n fr hp → Code.rounds P c Q n a w
  | 0, r, fr, hp, a, w, _, _, h => h.elim
  | n + 1, r, fr, hp, a, w, hs, hK, h => by
    simp only [unrollN] at h
    rw [rounds_succ]
    refine hc _ _ r fr hp a w hs (fun e r' fr' hp' a' w' hs' hsame hk => ?_) h
    cases e with
    | norm =>
      exact unroll_sound hc n r' fr' hp' a' w' hs' (fun e r2 fr2 hp2 a2 w2 h1 h2 h3 => hK e r2 fr2 hp2 a2 w2 h1 ((hsame.trans h2).mono (by simp)) h3) hk
    | exit id => exact hK _ r' fr' hp' a' w' hs' hsame hk
    | ret => exact hK _ r' fr' hp' a' w' hs' hsame hk

omit hu in
theorem inv_sound {c : Code} (hc : Sound uI uB uS uL uT P T nb own w0 rb c) {K : Ex → Fr → Hp → Prop} {Q : Exit → Act → World → Prop} {G : Type} {slots : List Nat} {st : G → List V × Hp} {pre : G → Prop} {μ : G → Nat} {fr : Fr} {hp : Hp}
    (hb0 : ∀ i x, rb i = some x → i < hp.length) (sl : subN slots (dsts c) = true) (fit : ∀ g, pre g → fits hp (st g).2 (fsets slots (st g).1 (havoc (dsts c) fr)) = true)
    (round : ∀ g, pre g → vc uI uB uS uL uT T P nb c (fun e fr' hp' => match e with
      | .norm => ∃ g', pre g' ∧ μ g' < μ g ∧ gate (anyOk (havoc (dsts c) fr) fr') (V.subL (fgets fr' slots) (st g').1) ∧ subH hp' (st g').2
      | e => K e fr' hp') (fsets slots (st g).1 (havoc (dsts c) fr)) (st g).2)
    (hK : ∀ e r' fr' hp' a' w', St P own w0 rb r' fr' hp' a' w' → Same (dsts c) fr fr' → K e fr' hp' → Q e.to a' w') :
    ∀ (n : Nat) (g : G), μ g < n → pre g → ∀ (r : Rho) (fr' : Fr) (hp' : Hp) (a : Act) (w : World), St P own w0 rb r fr' hp' a w → fr'.length = fr.length → (∀ t, t ∉ dsts c → fget fr' t = fget fr t) → V.subL (fgets fr' slots) (st g).1 → subH hp' (st g).2 →
      Code.rounds P c Q n a w := by
  intro n
  induction n with
  | zero => intro g h; omega
  | succ n ih =>
    intro g hlt hpre r fr' hp' a w hs hlen hkeep hv hh
    rw [rounds_succ]
    obtain ⟨s, s1, s2, s3⟩ := good_sub hs.good hh (fit g hpre) hs.base hb0
    have hF : ∀ t, VRel r (fget (fsets slots (st g).1 (havoc (dsts c) fr)) t) (a.tmps.getD t undef) := by
      refine fsets_rel hs.rel slots (st g).1 _ ?_ hv
      refine havoc_rel (dsts c) fr (fun t ht => ?_) (fun t ht => ?_)
      · have : ¬ t < a.tmps.size := by rw [← hs.len, hlen]; omega
        simp [Array.getD_eq_getD_getElem?, this]
      · rw [← hkeep t ht]; exact hs.rel t
    have hfit := fit g hpre
    unfold fits at hfit
    simp only [Bool.and_eq_true, llen_eq] at hfit
    have hids := idsUp_iff.1 hfit.2.1
    have hst : St P own w0 rb s (fsets slots (st g).1 (havoc (dsts c) fr)) (st g).2 a w := by
      refine ⟨by rw [fsets_len, havoc_len, ← hlen]; exact hs.len, hs.defers, fun t => ?_, s1, hs.news, hs.keep, s2, hs.glob⟩
      refine cut_rel s3 (fun i hi => hids i ?_) (hF t)
      by_cases ht : t < (fsets slots (st g).1 (havoc (dsts c) fr)).length
      · exact idsL_mem (List.mem_of_getElem? (fget_getElem ht)) hi
      · rw [fget_ge _ _ (by omega)] at hi; simp [idsV] at hi
    have hsameF : Same (dsts c) fr (fsets slots (st g).1 (havoc (dsts c) fr)) :=
      ⟨by rw [fsets_len, havoc_len], fun t ht => .inl (by rw [fsets_keep _ _ _ _ (fun q => ht (subN_iff sl t q)), havoc_keep _ _ _ ht])⟩
    refine hc _ _ s _ _ a w hst (fun e r2 fr2 hp2 a2 w2 h1 h2 h3 => ?_) (round g hpre)
    have h4 := (hsameF.trans h2).mono (us := dsts c) (by simp)
    cases e with
    | norm =>
      obtain ⟨g', k1, k2, k3, k4⟩ := h3
      have k3 := gate_iff.1 k3
      exact ih g' (by omega) k1 r2 fr2 hp2 a2 w2 h1 h4.len (h4.exact k3.1) k3.2 k4
    | exit id => exact hK _ r2 fr2 hp2 a2 w2 h1 h4 h3
    | ret => exact hK _ r2 fr2 hp2 a2 w2 h1 h4 h3

omit hu in
theorem renL_get (ids : List Nat) : ∀ (fr : Fr) (t : Nat), fget (renL ids fr) t = ren ids (fget fr t)
  | [], _ => rfl
  | _ :: _, 0 => rfl
  | _ :: r, t + 1 => renL_get ids r t
omit hu in
theorem renL_len (ids : List Nat) : ∀ fr : Fr, (renL ids fr).length = fr.length
  | [] => rfl
  | _ :: r => by simp [renL, renL_len ids r]
omit hu in
theorem renL_gets (ids : List Nat) (fr : Fr) : ∀ slots : List Nat, fgets (renL ids fr) slots = renL ids (fgets fr slots)
  | [] => rfl
  | i :: r => by simp only [fgets, renL, renL_get, renL_gets ids fr r]
omit hu in
/-- A loop's head: what is known there. -/
theorem head_st {c : Code} {slots : List Nat} {vs : List V} {H : Hp} {fr fr' : Fr} {hp hp' : Hp} {r : Rho} {a : Act} {w : World}
    (hb0 : ∀ i x, rb i = some x → i < hp.length) (sl : subN slots (dsts c) = true) (hfit : fits hp H (fsets slots vs (havoc (dsts c) fr)) = true)
    (hs : St P own w0 rb r fr' hp' a w) (hlen : fr'.length = fr.length) (hkeep : ∀ t, t ∉ dsts c → fget fr' t = fget fr t) (hv : V.subL (fgets fr' slots) vs) (hh : subH hp' H) :
    ∃ s, St P own w0 rb s (fsets slots vs (havoc (dsts c) fr)) H a w := by
  obtain ⟨s, s1, s2, s3⟩ := good_sub hs.good hh hfit hs.base hb0
  have hF : ∀ t, VRel r (fget (fsets slots vs (havoc (dsts c) fr)) t) (a.tmps.getD t undef) := by
    refine fsets_rel hs.rel slots vs _ ?_ hv
    refine havoc_rel (dsts c) fr (fun t ht => ?_) (fun t ht => ?_)
    · have : ¬ t < a.tmps.size := by rw [← hs.len, hlen]; omega
      simp [Array.getD_eq_getD_getElem?, this]
    · rw [← hkeep t ht]; exact hs.rel t
  unfold fits at hfit
  simp only [Bool.and_eq_true, llen_eq] at hfit
  have hids := idsUp_iff.1 hfit.2.1
  refine ⟨s, by rw [fsets_len, havoc_len, ← hlen]; exact hs.len, hs.defers, fun t => ?_, s1, hs.news, hs.keep, s2, hs.glob⟩
  refine cut_rel s3 (fun i hi => hids i ?_) (hF t)
  by_cases ht : t < (fsets slots vs (havoc (dsts c) fr)).length
  · exact idsL_mem (List.mem_of_getElem? (fget_getElem ht)) hi
  · rw [fget_ge _ _ (by omega)] at hi; simp [idsV] at hi
omit hu in
theorem invr_sound {c : Code} (hc : Sound uI uB uS uL uT P T nb own w0 rb c) (hnb : ∀ i x, rb i = some x → i < nb) {K : Ex → Fr → Hp → Prop} {Q : Exit → Act → World → Prop} {G : Type} {slots : List Nat} {st : G → List V × Hp} {pre : G → Prop} {μ : G → Nat} {fr : Fr} {hp : Hp}
    (hb0 : ∀ i x, rb i = some x → i < hp.length) (sl : subN slots (dsts c) = true) (fit : ∀ g, pre g → fits hp (st g).2 (fsets slots (st g).1 (havoc (dsts c) fr)) = true)
    (round : ∀ g, pre g → vc uI uB uS uL uT T P nb c (fun e fr' hp' => match e with
      | .norm => ∃ g', pre g' ∧ μ g' < μ g ∧ ∃ ids : List Nat, (!dup ids && preOk 0 nb ids) = true ∧ renL ids (havoc (dsts c) fr) = havoc (dsts c) fr ∧ gate (anyOk (havoc (dsts c) fr) fr') (V.subL (renL ids (fgets fr' slots)) (st g').1) ∧ subH (selH hp' ids ids) (st g').2
      | e => K e fr' hp') (fsets slots (st g).1 (havoc (dsts c) fr)) (st g).2)
    (hK : ∀ e r' fr' hp' a' w', St P own w0 rb r' fr' hp' a' w' → Same (dsts c) fr fr' → K e fr' hp' → Q e.to a' w') :
    ∀ (n : Nat) (g : G), μ g < n → pre g → ∀ (r : Rho) (a : Act) (w : World), St P own w0 rb r (fsets slots (st g).1 (havoc (dsts c) fr)) (st g).2 a w → Code.rounds P c Q n a w := by
  intro n
  induction n with
  | zero => intro g h; omega
  | succ n ih =>
    intro g hlt hpre r a w hs
    rw [rounds_succ]
    have hsameF : Same (dsts c) fr (fsets slots (st g).1 (havoc (dsts c) fr)) :=
      ⟨by rw [fsets_len, havoc_len], fun t ht => .inl (by rw [fsets_keep _ _ _ _ (fun q => ht (subN_iff sl t q)), havoc_keep _ _ _ ht])⟩
    refine hc _ _ r _ _ a w hs (fun e r2 fr2 hp2 a2 w2 h1 h2 h3 => ?_) (round g hpre)
    have h4 := (hsameF.trans h2).mono (us := dsts c) (by simp)
    cases e with
    | norm =>
      obtain ⟨g', k1, k2, ids, k3, k4, k5, k6⟩ := h3
      obtain ⟨k7, k5⟩ := gate_iff.1 k5
      simp only [Bool.and_eq_true, Bool.not_eq_true'] at k3
      have hsR : St P own w0 rb (selR r2 ids) (renL ids fr2) (selH hp2 ids ids) a2 w2 := by
        refine ⟨by rw [renL_len]; exact h1.len, h1.defers, fun t => ?_, end_good h1.good k3.1, h1.news, h1.keep, fun i x hx => ?_, h1.glob⟩
        · rw [renL_get]; exact ren_rel (h1.rel t)
        · have := preOk_get k3.2 i (hnb i x hx)
          rw [Nat.zero_add] at this
          simp only [selR, this]
          exact h1.base i x hx
      obtain ⟨s, hst⟩ := head_st (c := c) (vs := (st g').1) (H := (st g').2) (fr := fr) hb0 sl (fit g' k1) hsR (by rw [renL_len]; exact h4.len) (fun t ht => by
        have e1 : fget fr2 t = fget (havoc (dsts c) fr) t := by rw [h4.exact k7 t ht, havoc_keep _ _ _ ht]
        rw [renL_get, e1, ← renL_get, k4, havoc_keep _ _ _ ht]) (by rw [renL_gets]; exact k5) k6
      exact ih g' (by omega) k1 s a2 w2 hst
    | exit id => exact hK _ r2 fr2 hp2 a2 w2 h1 h4 h3
    | ret => exact hK _ r2 fr2 hp2 a2 w2 h1 h4 h3
omit hu in
theorem invr_start {c : Code} (hc : Sound uI uB uS uL uT P T nb own w0 rb c) (hnb : ∀ i x, rb i = some x → i < nb) {K : Ex → Fr → Hp → Prop} {Q : Exit → Act → World → Prop} {G : Type} {slots : List Nat} {st : G → List V × Hp} {pre : G → Prop} {μ : G → Nat} {fr : Fr} {hp : Hp}
    (hb0 : ∀ i x, rb i = some x → i < hp.length) (sl : subN slots (dsts c) = true) (fit : ∀ g, pre g → fits hp (st g).2 (fsets slots (st g).1 (havoc (dsts c) fr)) = true)
    (round : ∀ g, pre g → vc uI uB uS uL uT T P nb c (fun e fr' hp' => match e with
      | .norm => ∃ g', pre g' ∧ μ g' < μ g ∧ ∃ ids : List Nat, (!dup ids && preOk 0 nb ids) = true ∧ renL ids (havoc (dsts c) fr) = havoc (dsts c) fr ∧ gate (anyOk (havoc (dsts c) fr) fr') (V.subL (renL ids (fgets fr' slots)) (st g').1) ∧ subH (selH hp' ids ids) (st g').2
      | e => K e fr' hp') (fsets slots (st g).1 (havoc (dsts c) fr)) (st g).2)
    (hK : ∀ e r' fr' hp' a' w', St P own w0 rb r' fr' hp' a' w' → Same (dsts c) fr fr' → K e fr' hp' → Q e.to a' w') (g0 : G) (hp0 : pre g0) (r : Rho) (a : Act) (w : World) (hs : St P own w0 rb r fr hp a w)
    (hv : V.subL (fgets fr slots) (st g0).1) (hh : subH hp (st g0).2) : Code.rounds P c Q (μ g0 + 1) a w := by
  obtain ⟨s, hst⟩ := head_st (c := c) (vs := (st g0).1) (H := (st g0).2) (fr := fr) hb0 sl (fit g0 hp0) hs rfl (fun _ _ => rfl) hv hh
  exact invr_sound hc hnb hb0 sl fit round hK (μ g0 + 1) g0 (by omega) hp0 s a w hst
omit hu in
theorem hget_append_one (hp : Hp) (b : Blk) (i : Nat) : hget (hp ++ [b]) i = hget (hsetX hp hp.length b) i := by
  rw [hget_hsetX, hget_eq, List.getD_eq_getElem?_getD]
  by_cases hi : hp.length = i
  · subst hi; simp
  · rw [if_neg hi, hget_eq, List.getD_eq_getElem?_getD]
    rcases Nat.lt_or_ge i hp.length with h | h
    · rw [List.getElem?_append_left h]
    · rw [List.getElem?_append_right h, List.getElem?_eq_none h]
      cases hq : i - hp.length with
      | zero => omega
      | succ q => rfl
omit hu in
/-- A nil slice taken for an empty row. -/
theorem nilrow_st {r : Rho} {fr : Fr} {hp : Hp} {a : Act} {w : World} {slot : Nat} {e : TypeId} {k : IntKind} (sz : Nat) (hz : 0 < sz) (hs : St P own w0 rb r fr hp a w) (h : fget fr slot = .nilsl) :
    ∃ r', St P own w0 rb r' (fset fr slot (.vec (llen hp) (.lit 0))) (hp ++ [.cols (.row sz) e [.ints k (.lits [])]]) a w := by
  have hn : hget hp hp.length = .unborn := hget_ge _ _ (Nat.le_refl _)
  obtain ⟨p1, p2⟩ := Good.push (w' := w) hs.good (n := hp.length) (x := ⟨none, 0⟩) (b := .cols (.row sz) e [.ints k (.lits [])]) hn rfl (fun _ _ => rfl) (Nat.le_refl _)
    ⟨[], 0, 0, ⟨rfl, by intro c hc; simp only [List.mem_singleton] at hc; subst hc; rfl, fun i j c hi _ => by omega⟩, by simp, hz, by simp, ⟨by simp, .inl ⟨rfl, rfl⟩⟩⟩ hs.news (fun g hu => by obtain ⟨b, hb, _⟩ := hu; cases hb) (fun a ha => by cases ha)
  refine ⟨_, ⟨by rw [fset_length]; exact hs.len, hs.defers, fun t => ?_, p2.congr (hget_append_one hp _), hs.news, hs.keep, Rho.le_trans hs.base p1, hs.glob⟩⟩
  by_cases ht : slot = t
  · subst ht
    have hl : slot < fr.length := by
      rcases Nat.lt_or_ge slot fr.length with h1 | h1
      · exact h1
      · rw [fget_ge _ _ h1] at h; cases h
    rw [fget_fset_eq _ _ _ hl]
    have := hs.rel slot
    rw [h] at this
    simp only [VRel] at this ⊢
    exact ⟨⟨none, 0⟩, 0, by simp [llen_eq], rfl, Nat.le_refl _, by omega, this⟩
  · rw [fget_fset_ne _ _ _ _ ht]
    exact VRel.mono p1 (hs.rel t)
omit hu in
theorem nilxrow_st {r : Rho} {fr : Fr} {hp : Hp} {a : Act} {w : World} {slot : Nat} {e : TypeId} {k : IntKind} (hs : St P own w0 rb r fr hp a w) (h : fget fr slot = .nilsl) :
    ∃ r', St P own w0 rb r' (fset fr slot (.vec (llen hp) (.lit 0))) (hp ++ [.srow e k []]) a w := by
  have hn : hget hp hp.length = .unborn := hget_ge _ _ (Nat.le_refl _)
  obtain ⟨p1, p2⟩ := Good.push (w' := w) hs.good (n := hp.length) (x := ⟨none, 0⟩) (b := .srow e k []) hn rfl (fun _ _ => rfl) (Nat.le_refl _)
    ⟨[], 0, rfl, rfl, ⟨by simp, .inl ⟨rfl, rfl⟩⟩, fun q v hv => by simp at hv⟩ hs.news (fun g hu => by rcases hu with ⟨b, hb, _⟩ | ⟨b, q, A, n, c, hb, _⟩ <;> cases hb) (fun a ha => by cases ha)
  refine ⟨_, ⟨by rw [fset_length]; exact hs.len, hs.defers, fun t => ?_, p2.congr (hget_append_one hp _), hs.news, hs.keep, Rho.le_trans hs.base p1, hs.glob⟩⟩
  by_cases ht : slot = t
  · subst ht
    have hl : slot < fr.length := by
      rcases Nat.lt_or_ge slot fr.length with h1 | h1
      · exact h1
      · rw [fget_ge _ _ h1] at h; cases h
    rw [fget_fset_eq _ _ _ hl]
    have := hs.rel slot
    rw [h] at this
    simp only [VRel] at this ⊢
    exact ⟨⟨none, 0⟩, 0, by simp [llen_eq], rfl, Nat.le_refl _, by omega, this⟩
  · rw [fget_fset_ne _ _ _ _ ht]
    exact VRel.mono p1 (hs.rel t)
theorem vc_sound (hm : P.follows .mixedOrders = true) (hT : TabOk P T) (hnb : ∀ i x, rb i = some x → i < nb) : ∀ c : Code, Sound uI uB uS uL uT P T nb own w0 rb c
  | .skip, K, Q, r, fr, hp, a, w, hs, hK, h => wp_skip (hK .norm r fr hp a w hs (Same.refl _ _) h)
  | .label _, K, Q, r, fr, hp, a, w, hs, hK, h => wp_label (hK .norm r fr hp a w hs (Same.refl _ _) h)
  | .region id ops false, K, Q, r, fr, hp, a, w, hs, hK, h => by
    simp only [vc] at h
    have := vops_sound hu hT ops.toList hs (fun r' fr' hp' a' w' h1 h2 h3 => hK .norm r' fr' hp' a' w' h1 h2 h3) h
    exact wp_region_list (by simpa using this)
  | .region id ops true, K, Q, r, fr, hp, a, w, hs, hK, h => by
    simp only [vc] at h
    obtain ⟨its, h1, h2, h3, h4, h5⟩ := vdraw_chain hu own w0 rb hT ops.toList [] fr hp h
    have hs' := hs.drew (w.drawn + 1)
    refine wp_region_any hm ?_
    have := any_sound (Q := Q) h1 (by simpa using h4) h2 (fun r' a' w' h6 => hK .norm r' _ _ a' w' h6 h3 h5) ops.size (Array.replicate ops.size false) r a { w with drawn := w.drawn + 1 } (by simp)
      (fun j o ho hf => by simp [Array.getD_eq_getD_getElem?, Array.getElem?_replicate] at hf; split at hf <;> simp at hf) (by simp [List.countP_replicate])
      ((hs'.congrF (by rw [frS_len]) (fun t => by
        rw [frS_get]
        have : ∀ (n : Nat) (x : V), lastI (fun i => (Array.replicate ops.size false).getD i false) (frU its fr.length t) x n = x := by
          intro n x
          induction n with
          | zero => rfl
          | succ n ih => simp only [lastI]; rw [if_neg (by simp [Array.getD_eq_getD_getElem?, Array.getElem?_replicate]; split <;> simp)]; exact ih
        exact this _ _)).congr (fun t => by
        rw [hpS_get]
        have : ∀ (n : Nat) (x : Blk), lastI (fun i => (Array.replicate ops.size false).getD i false) (fun j => wr (itemAt its j).W t) x n = x := by
          intro n x
          induction n with
          | zero => rfl
          | succ n ih => simp only [lastI]; rw [if_neg (by simp [Array.getD_eq_getD_getElem?, Array.getElem?_replicate]; split <;> simp)]; exact ih
        exact this _ _))
    simpa using this
  | .seq x y, K, Q, r, fr, hp, a, w, hs, hK, h => by
    simp only [vc] at h
    refine wp_seq (vc_sound hm hT hnb x _ _ r fr hp a w hs (fun e r' fr' hp' a' w' h1 h2 h3 => ?_) h)
    cases e with
    | norm => exact vc_sound hm hT hnb y _ _ r' fr' hp' a' w' h1 (fun e r2 fr2 hp2 a2 w2 k1 k2 k3 => hK e r2 fr2 hp2 a2 w2 k1 (h2.trans k2) k3) h3
    | exit id => exact hK _ r' fr' hp' a' w' h1 (h2.mono (by simp [dsts]; intro t ht; exact .inl ht)) h3
    | ret => exact hK _ r' fr' hp' a' w' h1 (h2.mono (by simp [dsts]; intro t ht; exact .inl ht)) h3
  | .cond c x y, K, Q, r, fr, hp, a, w, hs, hK, h => by
    simp only [vc] at h
    have hc := hs.opd c
    split at h
    · rename_i e
      rw [e] at hc; simp only [VRel] at hc
      exact wp_cond_true hc (vc_sound hm hT hnb x _ _ r fr hp a w hs (fun e r' fr' hp' a' w' h1 h2 h3 => hK e r' fr' hp' a' w' h1 (h2.mono (by simp [dsts]; intro t ht; exact .inl ht)) h3) h)
    · rename_i e
      rw [e] at hc; simp only [VRel] at hc
      exact wp_cond_false hc (vc_sound hm hT hnb y _ _ r fr hp a w hs (fun e r' fr' hp' a' w' h1 h2 h3 => hK e r' fr' hp' a' w' h1 (h2.mono (by simp [dsts]; intro t ht; exact .inr ht)) h3) h)
    · rename_i n e
      rw [e] at hc; simp only [VRel] at hc
      obtain ⟨z, hz, hc⟩ := hc
      cases z with
      | true => exact wp_cond_true hc (vc_sound hm hT hnb x _ _ r fr hp a w hs (fun e r' fr' hp' a' w' h1 h2 h3 => hK e r' fr' hp' a' w' h1 (h2.mono (by simp [dsts]; intro t ht; exact .inl ht)) h3) (h.1 (hz rfl)))
      | false => exact wp_cond_false hc (vc_sound hm hT hnb y _ _ r fr hp a w hs (fun e r' fr' hp' a' w' h1 h2 h3 => hK e r' fr' hp' a' w' h1 (h2.mono (by simp [dsts]; intro t ht; exact .inr ht)) h3) h.2)
    · rename_i n e
      rw [e] at hc; simp only [VRel] at hc
      obtain ⟨z, hz, hc⟩ := hc
      cases z with
      | true => exact wp_cond_false hc (vc_sound hm hT hnb y _ _ r fr hp a w hs (fun e r' fr' hp' a' w' h1 h2 h3 => hK e r' fr' hp' a' w' h1 (h2.mono (by simp [dsts]; intro t ht; exact .inr ht)) h3) (h.1 (hz rfl)))
      | false => exact wp_cond_true hc (vc_sound hm hT hnb x _ _ r fr hp a w hs (fun e r' fr' hp' a' w' h1 h2 h3 => hK e r' fr' hp' a' w' h1 (h2.mono (by simp [dsts]; intro t ht; exact .inl ht)) h3) h.2)
    · exact h.elim
  | .block id c, K, Q, r, fr, hp, a, w, hs, hK, h => by
    simp only [vc] at h
    refine wp_block (vc_sound hm hT hnb c _ _ r fr hp a w hs (fun e r' fr' hp' a' w' h1 h2 h3 => ?_) h)
    cases e with
    | norm => exact hK _ r' fr' hp' a' w' h1 h2 h3
    | ret => exact hK _ r' fr' hp' a' w' h1 h2 h3
    | exit j =>
      simp only [Ex.to, Exit.inBlock]
      simp only at h3
      split at h3
      · rename_i hb
        rw [if_pos (Nat.eq_of_beq_eq_true hb)]
        exact hK .norm r' fr' hp' a' w' h1 h2 h3
      · rename_i hb
        rw [if_neg (fun e => by rw [e] at hb; simp at hb)]
        exact hK (.exit j) r' fr' hp' a' w' h1 h2 h3
  | .loop c, K, Q, r, fr, hp, a, w, hs, hK, h => by
    simp only [vc] at h
    have hc : Sound uI uB uS uL uT P T nb own w0 rb c := vc_sound hm hT hnb c
    suffices hmain : ∀ fr hp, LoopN nb (dsts c) (vc uI uB uS uL uT T P nb c) K fr hp → ∀ (r : Rho) (a : Act) (w : World), St P own w0 rb r fr hp a w →
        (∀ e r' fr' hp' a' w', St P own w0 rb r' fr' hp' a' w' → Same (dsts c) fr fr' → K e fr' hp' → Q e.to a' w') → (Code.loop c).wp P Q a w from hmain fr hp h r a w hs hK
    clear h hs hK
    intro fr hp h
    induction h with
    | @forget fr hp l rest ih =>
      intro r a w hs hK
      refine ih r a w ⟨by rw [havoc_len]; exact hs.len, hs.defers, fun t => havoc_rel l fr (fun t ht => ?_) (fun t _ => hs.rel t) t, hs.good, hs.news, hs.keep, hs.base, hs.glob⟩
        (fun e r2 fr2 hp2 a2 w2 h1 h2 h3 => hK e r2 fr2 hp2 a2 w2 h1 ⟨by rw [h2.len, havoc_len], fun t ht => ?_⟩ h3)
      · have : ¬ t < a.tmps.size := by rw [← hs.len]; omega
        simp [Array.getD_eq_getD_getElem?, this]
      · rcases h2.keep t ht with e | e
        · rw [e]
          by_cases hq : t ∈ l
          · rcases Nat.lt_or_ge t fr.length with hlt | hge
            · exact .inr (havoc_any l fr t hq hlt)
            · left; rw [fget_ge _ _ (by rw [havoc_len]; exact hge), fget_ge _ _ hge]
          · exact .inl (havoc_keep _ _ _ hq)
        · exact .inr e
    | nilrow slot e k hm0 hsl rest ih =>
      intro r a w hs hK
      obtain ⟨r', hs'⟩ := nilrow_st (e := e) (k := k) 1 (by decide) hs hsl
      refine ih r' a w hs' (fun e r2 fr2 hp2 a2 w2 h1 h2 h3 => hK e r2 fr2 hp2 a2 w2 h1 ⟨by rw [h2.len, fset_length], fun t ht => ?_⟩ h3)
      refine (h2.keep t ht).imp (fun e0 => ?_) id
      rw [e0]
      exact fget_fset_ne _ _ _ _ (fun e => ht (by subst e; exact memN_iff.1 hm0))
    | nilrows slot e k sz hz hm0 hsl rest ih =>
      intro r a w hs hK
      obtain ⟨r', hs'⟩ := nilrow_st (e := e) (k := k) sz (by rw [Nat.blt_eq] at hz; exact hz) hs hsl
      refine ih r' a w hs' (fun e r2 fr2 hp2 a2 w2 h1 h2 h3 => hK e r2 fr2 hp2 a2 w2 h1 ⟨by rw [h2.len, fset_length], fun t ht => ?_⟩ h3)
      refine (h2.keep t ht).imp (fun e0 => ?_) id
      rw [e0]
      exact fget_fset_ne _ _ _ _ (fun e => ht (by subst e; exact memN_iff.1 hm0))
    | nilxrow slot e k hm0 hsl rest ih =>
      intro r a w hs hK
      obtain ⟨r', hs'⟩ := nilxrow_st (e := e) (k := k) hs hsl
      refine ih r' a w hs' (fun e r2 fr2 hp2 a2 w2 h1 h2 h3 => hK e r2 fr2 hp2 a2 w2 h1 ⟨by rw [h2.len, fset_length], fun t ht => ?_⟩ h3)
      refine (h2.keep t ht).imp (fun e0 => ?_) id
      rw [e0]
      exact fget_fset_ne _ _ _ _ (fun e => ht (by subst e; exact memN_iff.1 hm0))
    | @now fr hp h =>
    intro r a w hs hK
    cases h with
    | invr G slots st pre μ g0 sl fit start round =>
      have hb0 : ∀ i x, rb i = some x → i < hp.length := fun i x hx => by
        rcases Nat.lt_or_ge i hp.length with h1 | h1
        · exact h1
        · have := hs.base i x hx
          rw [hs.good.born i (hget_ge _ _ h1)] at this; cases this
      exact wp_loop_rounds (μ g0 + 1) (invr_start hc hnb hb0 sl fit round (fun e r' fr' hp' a' w' h1 h2 h3 => hK e r' fr' hp' a' w' h1 h2 h3) g0 start.1 r a w hs start.2.1 start.2.2)
    | unroll n h => exact wp_loop_rounds n (unroll_sound hc n r fr hp a w hs (fun e r' fr' hp' a' w' h1 h2 h3 => hK e r' fr' hp' a' w' h1 h2 h3) h)
    | inv G slots st pre μ g0 sl fit start round =>
      have hb0 : ∀ i x, rb i = some x → i < hp.length := fun i x hx => by
        rcases Nat.lt_or_ge i hp.length with h1 | h1
        · exact h1
        · have := hs.base i x hx
          rw [hs.good.born i (hget_ge _ _ h1)] at this; cases this
      exact wp_loop_rounds (μ g0 + 1) (inv_sound hc hb0 sl fit round (fun e r' fr' hp' a' w' h1 h2 h3 => hK e r' fr' hp' a' w' h1 h2 h3) (μ g0 + 1) g0 (by omega) start.1 r fr hp a w hs rfl (fun _ _ => rfl) start.2.1 start.2.2)
  | .exit id, K, Q, r, fr, hp, a, w, hs, hK, h => wp_exit (hK (.exit id) r fr hp a w hs (Same.refl _ _) h)
  | .ret, K, Q, r, fr, hp, a, w, hs, hK, h => wp_ret (hK .ret r fr hp a w hs (Same.refl _ _) h)
  | .scope .., K, Q, r, fr, hp, a, w, hs, hK, h => h.elim
end
end
end Sx
set_option linter.unusedVariables false
set_option linter.unusedSimpArgs false
namespace Sx
open Go
section
variable {P : Program} {T : Tab} {own : Own} {r rb : Rho} {fr : Fr} {hp : Hp} {a : Act} {w w0 : World}

theorem padV_get : ∀ (n t : Nat), fget (padV n) t = .undef
  | 0, _ => rfl
  | n + 1, 0 => rfl
  | n + 1, t + 1 => padV_get n t
theorem padV_len : ∀ n : Nat, (padV n).length = n
  | 0 => rfl
  | n + 1 => by simp [padV, padV_len n]

/-- One result. -/
def resOne (tmps : Array Value) (x : ResultVar) : Sem Value :=
  match x with
  | .tmp t => pure (tmps.getD t undef)
  | .cell b t => do loadVar t (← asAddr (tmps.getD b undef))
theorem results_eq (fn : Func) (tmps : Array Value) : results fn tmps = (do let vs ← fn.results.mapM (resOne tmps); pure (if h : vs.size = 1 then vs[0] else .tuple vs)) := rfl

section
variable {uI : FI → Int} {uB : FB → Bool} {uS : FS → ByteArray} {uL : FL → List Int} {uT : FT → TT} (hu : Std uI uB uS uL uT)
include hu

theorem resL_ok (hT : TabOk P T) : ∀ (rs : List ResultVar) {l : List V} {r : Rho}, Good P own r hp w → (∀ t, VRel r (fget fr t) (a.tmps.getD t undef)) → resL uI uB uS uL T fr hp rs = some l →
    ∃ vals r', (rs.mapM (resOne a.tmps)).run P w = .ok vals w ∧ r.le r' ∧ VRelL r' l vals ∧ Good P own r' hp w
  | [], l, r, hg, hr, h => by
    simp only [resL, Option.some.injEq] at h; subst h
    exact ⟨[], r, by simp, Rho.le_refl r, by simp [VRelL], hg⟩
  | x :: rs, l, r, hg, hr, h => by
    simp only [resL] at h
    split at h
    · rename_i v l' hv hl
      simp only [Option.some.injEq] at h; subst h
      have one : ∃ x' r', (resOne a.tmps x).run P w = .ok x' w ∧ r.le r' ∧ VRel r' v x' ∧ Good P own r' hp w := by
        cases x with
        | tmp t =>
          simp only [resV, Option.some.injEq] at hv; subst hv
          exact ⟨_, r, rfl, Rho.le_refl r, hr t, hg⟩
        | cell b t =>
          simp only [resV] at hv
          split at hv
          · rename_i id o hb
            have hb' := hr b
            rw [hb] at hb'
            split at hv
            · rename_i v' out hlo
              simp only [Option.some.injEq] at hv; subst hv
              obtain ⟨x', r', k1, k2, k3, k4⟩ := load_ok hu hT hg (by simp) hb' hlo (by simp [AllTrue])
              refine ⟨x', r', ?_, k2, k3, k4.congr (fun i => ?_)⟩
              · simp only [VRel] at hb'
                obtain ⟨y, c, _, _, _, hc⟩ := hb'
                show (do loadVar t (← asAddr (a.tmps.getD b undef)) : Sem Value).run P w = _
                rw [hc] at k1 ⊢
                simpa [Instr.loadAt, Instr.sureAddr, asAddr] using k1
              · have := loadB_out hlo
                subst this
                exact (pair_same rfl i).symm
            · cases hv
          · cases hv
      obtain ⟨x', r1, k1, k2, k3, k4⟩ := one
      obtain ⟨vals, r2, m1, m2, m3, m4⟩ := resL_ok hT rs (r := r1) k4 (fun t => VRel.mono k2 (hr t)) hl
      refine ⟨x' :: vals, r2, ?_, Rho.le_trans k2 m2, by simp only [VRelL]; exact ⟨VRel.mono m2 k3, m3⟩, m4⟩
      rw [List.mapM_cons]
      simp only [Sem.run_bind, Sem.run_pure]
      rw [k1]
      simp only [Result.andThen_ok]
      rw [m1]
      simp
    · cases h

theorem results_ok {fn : Func} {l : List V} (hT : TabOk P T) (hg : Good P own r hp w) (hr : ∀ t, VRel r (fget fr t) (a.tmps.getD t undef)) (h : resL uI uB uS uL T fr hp fn.results.toList = some l) :
    ∃ v r', (results fn a.tmps).run P w = .ok v w ∧ r.le r' ∧ VRel r' (tupV l) v ∧ Good P own r' hp w := by
  obtain ⟨vals, r', h1, h2, h3, h4⟩ := resL_ok hu hT fn.results.toList hg hr h
  refine ⟨if h : vals.toArray.size = 1 then vals.toArray[0] else .tuple vals.toArray, r', ?_, h2, ?_, h4⟩
  · rw [results_eq, show fn.results = fn.results.toList.toArray by simp, List.mapM_toArray]
    simp only [Sem.run_bind, Sem.run_map, h1, Result.andThen_ok, Sem.run_pure]
  · cases l with
    | nil =>
      cases vals with
      | nil => simp [tupV, VRel, VRelL]
      | cons => simp [VRelL] at h3
    | cons v l =>
      cases vals with
      | nil => simp [VRelL] at h3
      | cons x vals =>
        cases l with
        | nil =>
          cases vals with
          | nil => simp only [VRelL] at h3; simpa [tupV] using h3.1
          | cons => simp [VRelL] at h3
        | cons v2 l2 =>
          cases vals with
          | nil => simp [VRelL] at h3
          | cons x2 vals =>
            simp only [tupV, VRel]
            exact ⟨(x :: x2 :: vals).toArray, by simp, by simpa using h3⟩

/-- **The evaluator's word is a contract.** -/
theorem ctr_of_vc {f : FuncId} {fn : Func} {c : Code} {E0 : Hp} {args : List V} {R : V → Hp → Prop} (hm : P.follows .mixedOrders = true) (hT : TabOk P T) (hf : P.funcs[f]? = some fn) (hb : fn.body = some c) (hname : (fn.name == "runtime.NumGoroutine") = false)
    (h : fnVC uI uB uS uL uT T P c fn.ntmps fn.results.toList E0 args R) : Ctr P f E0 args R := by
  refine ⟨⟨fn, hf, by rw [hb]; rfl, hname⟩, fun w0 r0 vals hg hglob hv => ?_⟩
  refine calls_of_wp hf hb ?_
  have hlv : vals.length = args.length := hv.length.symm
  obtain ⟨act, hact⟩ : ∃ act : Act, act = { tmps := vals.toArray ++ Array.replicate (fn.ntmps - vals.toArray.size) undef, defers := [] } := ⟨_, rfl⟩
  rw [← hact]
  have hst : St P (ownOf r0 E0 w0) w0 r0 r0 (args ++ padV (fn.ntmps - llen args)) E0 act w0 := by
    refine ⟨by rw [hact]; simp [padV_len, llen_eq, hlv], by rw [hact], fun t => ?_, hg, fun g hg' => .inl hg', Keep.refl _ w0, Rho.le_refl _, hglob⟩
    rw [hact]
    by_cases ht : t < args.length
    · obtain ⟨x, hx, hvx⟩ := hv.get t _ (fget_getElem ht)
      have e1 : fget (args ++ padV (fn.ntmps - llen args)) t = fget args t := by rw [fget_eq, fget_eq, List.getD, List.getD, List.getElem?_append_left ht]
      have ht' : t < vals.length := by omega
      have e2 : vals[t] = x := by rw [List.getElem?_eq_getElem ht'] at hx; simpa using hx
      rw [e1]
      have e3 : (vals.toArray ++ Array.replicate (fn.ntmps - vals.toArray.size) undef).getD t undef = x := by
        rw [Array.getD_eq_getD_getElem?, Array.getElem?_append_left (by simpa using ht')]
        simp [ht', e2]
      rw [e3]; exact hvx
    · have e1 : fget (args ++ padV (fn.ntmps - llen args)) t = .undef := by
        rw [fget_eq, List.getD, List.getElem?_append_right (by omega)]
        have := padV_get (fn.ntmps - llen args) (t - args.length)
        rw [fget_eq, List.getD] at this; exact this
      rw [e1]
      simp only [VRel]
      rw [Array.getD_eq_getD_getElem?, Array.getElem?_append_right (by simp; omega)]
      simp only [Array.getElem?_replicate]
      split <;> rfl
  unfold fnVC at h
  refine vc_sound hu (nb := llen E0) hm hT (fun i x hx => by
    rw [llen_eq]
    rcases Nat.lt_or_ge i E0.length with h1 | h1
    · exact h1
    · rw [hg.born i (hget_ge _ _ h1)] at hx; cases hx) c _ _ r0 _ _ act w0 hst (fun e r fr hp a w hs hsame hk => ?_) h
  have fin : endVC uI uB uS uL T (llen E0) fn.results.toList R fr hp → a.defers = [] ∧ ∃ v, (results fn a.tmps).run P w = .ok v w ∧
      ∃ v' x E r', Ending.returned v = Ending.returned v' ∧ VRel r' x v' ∧ R x E ∧ r0.le r' ∧ Good P (ownOf r0 E0 w0) r' E w ∧ Keep (ownOf r0 E0 w0) w0 w := by
    intro he
    unfold endVC at he
    split at he
    · exact he.elim
    · rename_i l hl
      obtain ⟨v, r', k1, k2, k3, k4⟩ := results_ok hu hT hs.good hs.rel hl
      refine ⟨hs.defers, v, k1, ?_⟩
      simp only at he
      split at he
      · rename_i hok
        simp only [Bool.and_eq_true, Bool.not_eq_true'] at hok
        refine ⟨v, _, _, selR r' (grow hp 100 0 (addN (rangeFrom 0 (llen E0)) (idsL l))), rfl, ren_rel k3, he, fun i x hx => ?_, end_good k4 hok.1, hs.keep⟩
        have hi : i < llen E0 := by
          rw [llen_eq]
          rcases Nat.lt_or_ge i E0.length with h1 | h1
          · exact h1
          · rw [hg.born i (hget_ge _ _ h1)] at hx; cases hx
        have := preOk_get hok.2 i hi
        rw [Nat.zero_add] at this
        simp only [selR, this]
        exact k2 _ _ (hs.base i x hx)
      · exact he.elim
  cases e with
  | norm => exact fin hk
  | ret => exact fin hk
  | exit id => exact hk.elim
end
end
end Sx
set_option linter.unusedVariables false
set_option linter.unusedSimpArgs false
namespace Sx
open Go

/-! ## '==' at a type: cell by cell -/
def eqFs (P : Program) (f : TypeId → Option (List SK)) : Nat → List Field → Option (List SK)
  | _, [] => some []
  | off, x :: r => if x.name = "_" then none else if x.offset = off then
      match f x.type, (P.info? x.type).map (·.size) with
      | some ks, some sz => if ks.length = sz then (match eqFs P f (off + sz) r with
        | some l => some (ks ++ l)
        | none => none) else none
      | _, _ => none
    else none
def eqKs (P : Program) : Nat → TypeId → Option (List SK)
  | 0, _ => none
  | d + 1, t => match P.underlying t with
    | some (.int k) => some [.int k]
    | some .string => some [.str]
    | some .bool => some [.bool]
    | some (.struct fs) => if P.stoodInHeld t then none else eqFs P (eqKs P d) 0 fs.toList
    | some (.array n e) => match eqKs P d e, (P.info? e).map (·.size) with
      | some ks, some sz => if ks.length = sz then some (List.replicate n ks).flatten else none
      | _, _ => none
    | _ => none

theorem KindsAt.len : ∀ {ks : List SK} {vs : List Value}, KindsAt ks vs → vs.length = ks.length
  | [], [], _ => rfl
  | [], _ :: _, h => by simp [KindsAt] at h
  | _ :: _, [], h => by simp [KindsAt] at h
  | k :: ks, v :: vs, h => by simp only [KindsAt] at h; simp [KindsAt.len h.2]
theorem KindsAt.split : ∀ {a b : List SK} {vs : List Value}, KindsAt (a ++ b) vs → KindsAt a (vs.take a.length) ∧ KindsAt b (vs.drop a.length)
  | [], b, vs, h => by simpa [KindsAt] using h
  | k :: a, b, [], h => by simp [KindsAt] at h
  | k :: a, b, v :: vs, h => by
    simp only [List.cons_append, KindsAt] at h
    have := KindsAt.split h.2
    simp only [List.length_cons, List.take_succ_cons, List.drop_succ_cons, KindsAt]
    exact ⟨⟨h.1, this.1⟩, this.2⟩
theorem cellsEq_split : ∀ (n : Nat) {xs ys : List Value}, n ≤ xs.length → n ≤ ys.length → cellsEq xs ys = (cellsEq (xs.take n) (ys.take n) && cellsEq (xs.drop n) (ys.drop n))
  | 0, xs, ys, _, _ => by simp [cellsEq]
  | n + 1, [], ys, h, _ => by simp at h
  | n + 1, _ :: _, [], _, h => by simp at h
  | n + 1, x :: xs, y :: ys, h, h' => by
    simp only [List.take_succ_cons, List.drop_succ_cons, cellsEq]
    rw [cellsEq_split n (by simpa using h) (by simpa using h'), Bool.and_assoc]

/-- A value in the form of its type. -/
def Form (P : Program) (t : TypeId) (x : Value) : Prop :=
  match P.underlying t with
  | some (.struct _) => x = .agg x.cells
  | some (.array _ _) => x = .agg x.cells
  | _ => x.cells = #[x]

section
variable {P : Program}
theorem part_form {d e off : Nat} {ks : List SK} {i : TypeInfo} (h : eqKs P d e = some ks) (hi : P.info? e = some i) (hs : ks.length = i.size) {xs : Array Value} (hk : KindsAt ks ((xs.toList.drop off).take ks.length)) (w : World) :
    ∃ x, (part e xs off).run P w = .ok x w ∧ x.cells.toList = (xs.toList.drop off).take ks.length ∧ Form P e x := by
  have leaf : ∀ (td : TypeDesc) (k : SK), P.underlying e = some td → ks = [k] → (∀ v, hasKind k v → v.cells = #[v]) → (match td with | .struct _ => False | .array _ _ => False | _ => True) →
      ∃ x, (part e xs off).run P w = .ok x w ∧ x.cells.toList = (xs.toList.drop off).take ks.length ∧ Form P e x := by
    rintro td k hu rfl hc hn
    obtain ⟨v, hv⟩ : ∃ v, (xs.toList.drop off).take 1 = [v] := by
      have := KindsAt.len hk
      simp only [List.length_cons, List.length_nil, Nat.zero_add] at this
      exact List.length_eq_one_iff.1 this
    have hv0 : xs[off]? = some v := by
      have := congrArg (fun l => l[0]?) hv
      simp only [List.getElem?_take, List.getElem?_drop] at this
      simpa using this
    rw [show [k].length = 1 from rfl, hv] at hk ⊢
    simp only [KindsAt] at hk
    have hcv := hc v hk.1
    refine ⟨v, ?_, by rw [hcv], ?_⟩
    · cases td <;> simp_all [part, isAgg, run_underlying hu]
    · unfold Form; rw [hu]
      cases td <;> first | exact hn.elim | exact hcv
  have wide : ∀ td, P.underlying e = some td → (match td with | .struct _ => True | .array _ _ => True | _ => False) → ∃ x, (part e xs off).run P w = .ok x w ∧ x.cells.toList = (xs.toList.drop off).take ks.length ∧ Form P e x := by
    intro td hu hn
    refine ⟨.agg (xs.extract off (off + i.size)), ?_, ?_, ?_⟩
    · cases td <;> first | exact hn.elim | simp [part, isAgg, run_underlying hu, Go.sizeOf, typeInfo, hi]
    · simp [Value.cells, hs, List.extract_eq_take_drop]
    · unfold Form; rw [hu]
      cases td <;> first | exact hn.elim | rfl
  cases d with
  | zero => simp [eqKs] at h
  | succ d =>
    simp only [eqKs] at h
    split at h
    · rename_i k hu
      simp only [Option.some.injEq] at h
      exact leaf _ (.int k) hu h.symm (fun v hv => by obtain ⟨n, rfl⟩ := hv; rfl) trivial
    · rename_i hu
      simp only [Option.some.injEq] at h
      exact leaf _ .str hu h.symm (fun v hv => by obtain ⟨n, rfl⟩ := hv; rfl) trivial
    · rename_i hu
      simp only [Option.some.injEq] at h
      exact leaf _ .bool hu h.symm (fun v hv => by obtain ⟨n, rfl⟩ := hv; rfl) trivial
    · rename_i fs hu; exact wide _ hu trivial
    · rename_i n e' hu; exact wide _ hu trivial
    · cases h

theorem eq_sound : ∀ (d : Nat) (t : TypeId) (ks : List SK), eqKs P d t = some ks → ∀ (D : Nat) (w : World) (x y : Value), Form P t x → Form P t y → KindsAt ks x.cells.toList → KindsAt ks y.cells.toList →
    (Op.equalIn (D + d) t x y).run P w = .ok (cellsEq x.cells.toList y.cells.toList) w
  | 0, t, ks, h, _, _, _, _, _, _, _, _ => by simp [eqKs] at h
  | d + 1, t, ks, h, D, w, x, y, hx, hy, kx, ky => by
    have ih := eq_sound d
    simp only [eqKs] at h
    unfold Form at hx hy
    split at h
    · rename_i k hu
      simp only [Option.some.injEq] at h; subst h
      rw [hu] at hx hy
      simp only at hx hy
      rw [hx] at kx ⊢; rw [hy] at ky ⊢
      simp only [KindsAt] at kx ky
      obtain ⟨⟨a, rfl⟩, _⟩ := kx
      obtain ⟨⟨b, rfl⟩, _⟩ := ky
      rw [show D + (d + 1) = (D + d) + 1 from rfl, run_equalIn_int w _ t k k a b hu]
      simp [cellsEq, cellEq]
    · rename_i hu
      simp only [Option.some.injEq] at h; subst h
      rw [hu] at hx hy
      simp only at hx hy
      rw [hx] at kx ⊢; rw [hy] at ky ⊢
      simp only [KindsAt] at kx ky
      obtain ⟨⟨a, rfl⟩, _⟩ := kx
      obtain ⟨⟨b, rfl⟩, _⟩ := ky
      rw [show D + (d + 1) = (D + d) + 1 from rfl, run_equalIn_string w _ t a b hu]
      simp [cellsEq, cellEq]
    · rename_i hu
      simp only [Option.some.injEq] at h; subst h
      rw [hu] at hx hy
      simp only at hx hy
      rw [hx] at kx ⊢; rw [hy] at ky ⊢
      simp only [KindsAt] at kx ky
      obtain ⟨⟨a, rfl⟩, _⟩ := kx
      obtain ⟨⟨b, rfl⟩, _⟩ := ky
      rw [show D + (d + 1) = (D + d) + 1 from rfl, run_equalIn_bool' w _ t a b hu]
      simp [cellsEq, cellEq]
    · rename_i fs hu
      split at h
      · cases h
      · rename_i hp
        have hfo : P.fieldsOf t = fs := by simp [Program.fieldsOf, hu]
        rw [hu] at hx hy
        simp only at hx hy
        rw [hx, hy]
        rw [show D + (d + 1) = (D + d) + 1 from rfl, run_equalIn_struct w _ t _ _ (by rw [hfo]; exact hu) (by simpa using hp), hfo]
        have key : ∀ (l : List Field) (off : Nat) (ks : List SK), eqFs P (eqKs P d) off l = some ks → KindsAt ks (x.cells.toList.drop off) → KindsAt ks (y.cells.toList.drop off) →
            (Op.eqFields (D + d) x.cells y.cells l).run P w = .ok (cellsEq (x.cells.toList.drop off) (y.cells.toList.drop off)) w := by
          intro l
          induction l with
          | nil =>
            intro off ks h1 h2 h3
            simp only [eqFs, Option.some.injEq] at h1; subst h1
            have := KindsAt.len h2
            have e1 : x.cells.toList.drop off = [] := List.eq_nil_of_length_eq_zero this
            have e2 : y.cells.toList.drop off = [] := List.eq_nil_of_length_eq_zero (KindsAt.len h3)
            rw [e1, e2]; simp [Op.eqFields, cellsEq]
          | cons f l ihl =>
            intro off ks h1 h2 h3
            simp only [eqFs] at h1
            split at h1
            · cases h1
            · rename_i hname
              split at h1
              · rename_i hoff
                split at h1
                · rename_i ks1 sz hk1 hsz
                  obtain ⟨i, hi, hisz⟩ := Option.map_eq_some_iff.1 hsz
                  split at h1
                  · rename_i hlen
                    split at h1
                    · rename_i ks2 hk2
                      simp only [Option.some.injEq] at h1; subst h1
                      obtain ⟨a1, a2⟩ := KindsAt.split h2
                      obtain ⟨b1, b2⟩ := KindsAt.split h3
                      obtain ⟨u, p1, p2, p3⟩ := part_form hk1 hi (by rw [hlen, hisz]) a1 w
                      obtain ⟨v, q1, q2, q3⟩ := part_form hk1 hi (by rw [hlen, hisz]) b1 w
                      have he := ih f.type ks1 hk1 D w u v p3 q3 (by rw [p2]; exact a1) (by rw [q2]; exact b1)
                      rw [p2, q2] at he
                      rw [List.drop_drop, hlen] at a2 b2
                      have hrest := ihl (off + sz) ks2 hk2 a2 b2
                      have la := KindsAt.len h2
                      have lb := KindsAt.len h3
                      simp only [List.length_append] at la lb
                      rw [cellsEq_split ks1.length (by omega) (by omega), List.drop_drop, List.drop_drop, hlen]
                      rw [hlen] at he
                      simp only [Op.eqFields, hname, ne_eq, not_false_eq_true, if_true, Sem.run_bind, hoff, p1, q1, he, Result.andThen_ok]
                      cases hc : cellsEq ((x.cells.toList.drop off).take sz) ((y.cells.toList.drop off).take sz) with
                      | false => simp
                      | true => simp [hrest]
                    · cases h1
                  · cases h1
                · cases h1
              · cases h1
        have := key fs.toList 0 ks h (by simpa using kx) (by simpa using ky)
        simpa [Value.cells] using this
    · rename_i n e hu
      split at h
      · rename_i ks1 sz hk1 hsz
        obtain ⟨i, hi, hisz⟩ := Option.map_eq_some_iff.1 hsz
        split at h
        · rename_i hlen
          simp only [Option.some.injEq] at h; subst h
          rw [hu] at hx hy
          simp only at hx hy
          rw [hx, hy]
          rw [show D + (d + 1) = (D + d) + 1 from rfl, run_equalIn_array w _ _ _ hu hi]
          have hco : P.cellsOf e = sz := by simp [Program.cellsOf, hi, hisz]
          rw [hco, List.range_eq_range']
          have key : ∀ (m k : Nat), KindsAt (List.replicate m ks1).flatten (x.cells.toList.drop (k * sz)) → KindsAt (List.replicate m ks1).flatten (y.cells.toList.drop (k * sz)) →
              (Op.eqItems (D + d) e sz x.cells y.cells (List.range' k m)).run P w = .ok (cellsEq (x.cells.toList.drop (k * sz)) (y.cells.toList.drop (k * sz))) w := by
            intro m
            induction m with
            | zero =>
              intro k h2 h3
              have e1 : x.cells.toList.drop (k * sz) = [] := List.eq_nil_of_length_eq_zero (KindsAt.len h2)
              have e2 : y.cells.toList.drop (k * sz) = [] := List.eq_nil_of_length_eq_zero (KindsAt.len h3)
              rw [e1, e2]; simp [Op.eqItems, cellsEq]
            | succ m ihm =>
              intro k h2 h3
              rw [List.replicate_succ, List.flatten_cons] at h2 h3
              obtain ⟨a1, a2⟩ := KindsAt.split h2
              obtain ⟨b1, b2⟩ := KindsAt.split h3
              obtain ⟨u, p1, p2, p3⟩ := part_form hk1 hi (by rw [hlen, hisz]) a1 w
              obtain ⟨v, q1, q2, q3⟩ := part_form hk1 hi (by rw [hlen, hisz]) b1 w
              have he := ih e ks1 hk1 D w u v p3 q3 (by rw [p2]; exact a1) (by rw [q2]; exact b1)
              rw [p2, q2, hlen] at he
              rw [List.drop_drop, hlen, ← Nat.succ_mul] at a2 b2
              have hrest := ihm (k + 1) a2 b2
              have la := KindsAt.len h2
              have lb := KindsAt.len h3
              simp only [List.length_append] at la lb
              rw [cellsEq_split ks1.length (by omega) (by omega), List.drop_drop, List.drop_drop, hlen, ← Nat.succ_mul]
              simp only [List.range'_succ, Op.eqItems, Sem.run_bind, p1, q1, he, Result.andThen_ok]
              cases hc : cellsEq ((x.cells.toList.drop (k * sz)).take sz) ((y.cells.toList.drop (k * sz)).take sz) with
              | false => simp
              | true => simp [hrest]
          have := key n 0 (by simpa using kx) (by simpa using ky)
          simpa [Value.cells] using this
        · cases h
      · cases h
    · cases h

/-- '==' at a type, told by its kinds. -/
theorem EqOk.of {t : TypeId} {ks : List SK} (d : Nat) (hd : d ≤ 10000) (hg : P.eqGuardType P.depth t = false) (h : eqKs P d t = some ks) (hw : (match P.underlying t with | some (.struct _) => true | some (.array _ _) => true | _ => false) = true) : EqOk P t ks := by
  refine ⟨hg, fun w xs ys kx ky => ?_⟩
  have hform : ∀ zs : Array Value, Form P t (.agg zs) := by
    intro zs
    unfold Form
    cases hu : P.underlying t with
    | none => rw [hu] at hw; cases hw
    | some td => rw [hu] at hw; cases td <;> first | rfl | (cases hw)
  have := eq_sound d t ks h (10000 - d) w (.agg xs) (.agg ys) (hform xs) (hform ys) (by simpa [Value.cells] using kx) (by simpa [Value.cells] using ky)
  rw [show 10000 - d + d = 10000 by omega] at this
  simpa [Op.equal, Op.maxDepth, Value.cells] using this
end
end Sx
namespace Sx
open Go
theorem DOk.iface_of {P : Program} {t : TypeId} (h : (match P.underlying t with | some (.interface _) => true | _ => false) = true) : DOk P t .iface := by
  cases hu : P.underlying t with
  | none => rw [hu] at h; cases h
  | some d => rw [hu] at h; cases d <;> first | exact ⟨_, hu⟩ | cases h
end Sx
set_option linter.unusedVariables false
set_option linter.unusedSimpArgs false
namespace Sx
open Go

/-- There are words. -/
theorem words : ∃ uI uB uS uL uT, Std uI uB uS uL uT := ⟨iI, iB, iS, iL, iT, ⟨fun _ => rfl, fun _ => rfl, fun _ => rfl, fun _ => rfl, fun _ => rfl⟩⟩

/-- What is so of less: an answer and blocks. -/
def Weak (E0 : Hp) (R : V → Hp → Prop) (v : V) (H : Hp) : Prop := ∃ v' H', V.sub v v' ∧ subH H H' ∧ fits E0 H' [v'] = true ∧ R v' H'

theorem Weak.of {E0 : Hp} {R : V → Hp → Prop} {v v' : V} {H H' : Hp} (hR : R v' H') (h1 : V.sub v v') (h2 : subH H H') (h3 : fits E0 H' [v'] = true) : Weak E0 R v H := ⟨v', H', h1, h2, h3, hR⟩
theorem Ctr.mono {P : Program} {f : FuncId} {E0 : Hp} {args : List V} {R R' : V → Hp → Prop} (h : Ctr P f E0 args R) (hR : ∀ v H, R v H → R' v H) : Ctr P f E0 args R' :=
  ⟨h.enter, fun w0 r0 vals hg hgl hv => (h.spec w0 r0 vals hg hgl hv).mono fun e w ⟨v, x, E, r, h1, h2, h3, h4⟩ => ⟨v, x, E, r, h1, h2, hR _ _ h3, h4⟩⟩
theorem Ctr.monoR {P : Program} {f : FuncId} {E0 : Hp} {args : List V} {R R' : V → Hp → Prop} (hR : ∀ v H, R v H → R' v H) (h : Ctr P f E0 args R) : Ctr P f E0 args R' := h.mono hR
theorem Ctr.weak {P : Program} {f : FuncId} {E0 : Hp} {args : List V} {R : V → Hp → Prop} (h : Ctr P f E0 args (Weak E0 R)) : Ctr P f E0 args R := by
  refine ⟨h.enter, fun w0 r0 vals hg hgl hv => (h.spec w0 r0 vals hg hgl hv).mono ?_⟩
  rintro e w ⟨v, x, E, r, h1, h2, ⟨x', E', k1, k2, k3, k4⟩, h4, h5, h6⟩
  have hb0 : ∀ i y, r0 i = some y → i < E0.length := fun i y hy => by
    rcases Nat.lt_or_ge i E0.length with hl | hl
    · exact hl
    · rw [hg.born i (hget_ge _ _ hl)] at hy; cases hy
  obtain ⟨s, s1, s2, s3⟩ := good_sub h5 k2 k3 h4 hb0
  refine ⟨v, x', E', s, h1, cut_rel s3 (fun i hi => ?_) (sub_rel k1 h2), k4, s2, s1, h6⟩
  unfold fits at k3
  simp only [Bool.and_eq_true, llen_eq] at k3
  exact idsUp_iff.1 k3.2.1 i (by simp [idsL, hi])
/-- What comes after, its parts under names of their own. -/
structure Gen0 (p : Prop) : Prop where
  h : p
structure Gen1 {α : Type} (F : α) (k : α → Prop) : Prop where
  h : ∀ a, a = F → k a
structure Gen2 {α β : Type} (F : α) (G : β) (k : α → β → Prop) : Prop where
  h : ∀ a b, a = F → b = G → k a b
structure Gen3 {α β γ : Type} (F : α) (G : β) (D : γ) (k : α → β → γ → Prop) : Prop where
  h : ∀ a b c, a = F → b = G → c = D → k a b c
section
variable {P : Program} {f : FuncId} {E0 : Hp} {args : List V} {K : V → Hp → Prop}
theorem CallDet.mkR {x : V} {E : Hp} (k : Gen0 (K x E)) (spec : Ctr P f E0 args fun v H => v = x ∧ H = E) : CallDet P f E0 args K := .mk x E spec k.h
theorem CallDet.genR {α : Type} {F : α} {X : α → V} {Y : α → Hp} (k : Gen1 F fun a => K (X a) (Y a)) (spec : ∀ a, a = F → Ctr P f E0 args fun v H => v = X a ∧ H = Y a) : CallDet P f E0 args K :=
  .mk (X F) (Y F) (spec F rfl) (k.h F rfl)
theorem CallDet.genR2 {α β : Type} {F : α} {G : β} {X : α → β → V} {Y : α → β → Hp} (k : Gen2 F G fun a b => K (X a b) (Y a b)) (spec : ∀ a b, a = F → b = G → Ctr P f E0 args fun v H => v = X a b ∧ H = Y a b) : CallDet P f E0 args K :=
  .mk (X F G) (Y F G) (spec F G rfl rfl) (k.h F G rfl rfl)
theorem CallDet.genR3 {α β γ : Type} {F : α} {G : β} {D : γ} {X : α → β → γ → V} {Y : α → β → γ → Hp} (k : Gen3 F G D fun a b c => K (X a b c) (Y a b c)) (spec : ∀ a b c, a = F → b = G → c = D → Ctr P f E0 args fun v H => v = X a b c ∧ H = Y a b c) : CallDet P f E0 args K :=
  .mk (X F G D) (Y F G D) (spec F G D rfl rfl rfl) (k.h F G D rfl rfl rfl)
/-- Ways told apart. -/
theorem CallDet.cases (p : Prop) (h1 : p → CallDet P f E0 args K) (h2 : ¬ p → CallDet P f E0 args K) : CallDet P f E0 args K := (Classical.em p).elim h1 h2
theorem CallVC.mkR {x : V} {E : Hp} (k : Gen0 (K x E)) (spec : Ctr P f E0 args fun v H => v = x ∧ H = E) : CallVC P f E0 args K := .mk (spec.mono fun v H ⟨h1, h2⟩ => by rw [h1, h2]; exact k.h)
theorem CallVC.genR {α : Type} {F : α} {X : α → V} {Y : α → Hp} (k : Gen1 F fun a => K (X a) (Y a)) (spec : ∀ a, a = F → Ctr P f E0 args fun v H => v = X a ∧ H = Y a) : CallVC P f E0 args K := CallVC.mkR ⟨k.h F rfl⟩ (spec F rfl)
theorem CallVC.genR2 {α β : Type} {F : α} {G : β} {X : α → β → V} {Y : α → β → Hp} (k : Gen2 F G fun a b => K (X a b) (Y a b)) (spec : ∀ a b, a = F → b = G → Ctr P f E0 args fun v H => v = X a b ∧ H = Y a b) : CallVC P f E0 args K := CallVC.mkR ⟨k.h F G rfl rfl⟩ (spec F G rfl rfl)
theorem CallVC.genR3 {α β γ : Type} {F : α} {G : β} {D : γ} {X : α → β → γ → V} {Y : α → β → γ → Hp} (k : Gen3 F G D fun a b c => K (X a b c) (Y a b c)) (spec : ∀ a b c, a = F → b = G → c = D → Ctr P f E0 args fun v H => v = X a b c ∧ H = Y a b c) : CallVC P f E0 args K := CallVC.mkR ⟨k.h F G D rfl rfl rfl⟩ (spec F G D rfl rfl rfl)
theorem CallVC.cases (p : Prop) (h1 : p → CallVC P f E0 args K) (h2 : ¬ p → CallVC P f E0 args K) : CallVC P f E0 args K := (Classical.em p).elim h1 h2
end
/-- Numbers as the evaluator leaves them. -/
theorem ofN : Int.ofNat (nat_lit 0) = (0 : Int) ∧ Int.ofNat (nat_lit 1) = (1 : Int) ∧ Int.ofNat (nat_lit 2) = (2 : Int) ∧ Int.ofNat (nat_lit 3) = (3 : Int) ∧ Int.ofNat (nat_lit 4) = (4 : Int) ∧ Int.ofNat (nat_lit 5) = (5 : Int) ∧ Int.ofNat (nat_lit 6) = (6 : Int) ∧ Int.ofNat (nat_lit 7) = (7 : Int) ∧ Int.ofNat (nat_lit 8) = (8 : Int) ∧ Int.ofNat (nat_lit 9) = (9 : Int) ∧ Int.ofNat (nat_lit 10) = (10 : Int) ∧ Int.ofNat (nat_lit 11) = (11 : Int) ∧ Int.ofNat (nat_lit 12) = (12 : Int) ∧ Int.ofNat (nat_lit 13) = (13 : Int) ∧ Int.ofNat (nat_lit 14) = (14 : Int) ∧ Int.ofNat (nat_lit 15) = (15 : Int) ∧ Int.ofNat (nat_lit 16) = (16 : Int) ∧ Int.ofNat (nat_lit 17) = (17 : Int) ∧ Int.ofNat (nat_lit 18) = (18 : Int) ∧ Int.ofNat (nat_lit 19) = (19 : Int) ∧ Int.ofNat (nat_lit 20) = (20 : Int) ∧ Int.ofNat (nat_lit 21) = (21 : Int) ∧ Int.ofNat (nat_lit 22) = (22 : Int) ∧ Int.ofNat (nat_lit 23) = (23 : Int) ∧ Int.ofNat (nat_lit 24) = (24 : Int) ∧ Int.ofNat (nat_lit 25) = (25 : Int) ∧ Int.ofNat (nat_lit 26) = (26 : Int) ∧ Int.ofNat (nat_lit 27) = (27 : Int) ∧ Int.ofNat (nat_lit 28) = (28 : Int) ∧ Int.ofNat (nat_lit 29) = (29 : Int) ∧ Int.ofNat (nat_lit 30) = (30 : Int) ∧ Int.ofNat (nat_lit 31) = (31 : Int) ∧ Int.ofNat (nat_lit 32) = (32 : Int) ∧ Int.ofNat (nat_lit 33) = (33 : Int) ∧ Int.ofNat (nat_lit 34) = (34 : Int) ∧ Int.ofNat (nat_lit 35) = (35 : Int) ∧ Int.ofNat (nat_lit 36) = (36 : Int) ∧ Int.ofNat (nat_lit 37) = (37 : Int) ∧ Int.ofNat (nat_lit 38) = (38 : Int) ∧ Int.ofNat (nat_lit 39) = (39 : Int) ∧ Int.ofNat (nat_lit 40) = (40 : Int) ∧ Int.ofNat (nat_lit 41) = (41 : Int) ∧ Int.ofNat (nat_lit 42) = (42 : Int) ∧ Int.ofNat (nat_lit 43) = (43 : Int) ∧ Int.ofNat (nat_lit 44) = (44 : Int) ∧ Int.ofNat (nat_lit 45) = (45 : Int) ∧ Int.ofNat (nat_lit 46) = (46 : Int) ∧ Int.ofNat (nat_lit 47) = (47 : Int) ∧ Int.ofNat (nat_lit 48) = (48 : Int) ∧ Int.ofNat (nat_lit 49) = (49 : Int) ∧ Int.ofNat (nat_lit 50) = (50 : Int) ∧ Int.ofNat (nat_lit 51) = (51 : Int) ∧ Int.ofNat (nat_lit 52) = (52 : Int) ∧ Int.ofNat (nat_lit 53) = (53 : Int) ∧ Int.ofNat (nat_lit 54) = (54 : Int) ∧ Int.ofNat (nat_lit 55) = (55 : Int) ∧ Int.ofNat (nat_lit 56) = (56 : Int) ∧ Int.ofNat (nat_lit 57) = (57 : Int) ∧ Int.ofNat (nat_lit 58) = (58 : Int) ∧ Int.ofNat (nat_lit 59) = (59 : Int) ∧ Int.ofNat (nat_lit 60) = (60 : Int) ∧ Int.ofNat (nat_lit 61) = (61 : Int) ∧ Int.ofNat (nat_lit 62) = (62 : Int) ∧ Int.ofNat (nat_lit 63) = (63 : Int) ∧ Int.ofNat (nat_lit 64) = (64 : Int) ∧ Int.ofNat (nat_lit 65) = (65 : Int) ∧ Int.ofNat (nat_lit 100) = (100 : Int) ∧ Int.ofNat (nat_lit 127) = (127 : Int) ∧ Int.ofNat (nat_lit 128) = (128 : Int) ∧ Int.ofNat (nat_lit 199) = (199 : Int) ∧ Int.ofNat (nat_lit 200) = (200 : Int) ∧ Int.ofNat (nat_lit 206) = (206 : Int) ∧ Int.ofNat (nat_lit 255) = (255 : Int) ∧ Int.ofNat (nat_lit 256) = (256 : Int) ∧ Int.ofNat (nat_lit 257) = (257 : Int) ∧ Int.ofNat (nat_lit 300) = (300 : Int) ∧ Int.ofNat (nat_lit 400) = (400 : Int) ∧ Int.ofNat (nat_lit 511) = (511 : Int) ∧ Int.ofNat (nat_lit 512) = (512 : Int) ∧ Int.ofNat (nat_lit 65535) = (65535 : Int) ∧ Int.ofNat (nat_lit 65536) = (65536 : Int) := by
  refine ⟨rfl, rfl, rfl, rfl, rfl, rfl, rfl, rfl, rfl, rfl, rfl, rfl, rfl, rfl, rfl, rfl, rfl, rfl, rfl, rfl, rfl, rfl, rfl, rfl, rfl, rfl, rfl, rfl, rfl, rfl, rfl, rfl, rfl, rfl, rfl, rfl, rfl, rfl, rfl, rfl, rfl, rfl, rfl, rfl, rfl, rfl, rfl, rfl, rfl, rfl, rfl, rfl, rfl, rfl, rfl, rfl, rfl, rfl, rfl, rfl, rfl, rfl, rfl, rfl, rfl, rfl, rfl, rfl, rfl, rfl, rfl, rfl, rfl, rfl, rfl, rfl, rfl, rfl, rfl, rfl, rfl⟩
theorem ofNatc (n : Nat) : Int.ofNat n = @NatCast.natCast Int instNatCastInt n := rfl
theorem natc (n : Nat) : @NatCast.natCast Int instNatCastInt n = Int.ofNat n := rfl

/-! The same by proofs that are no 'rfl': simp then names them as steps, and the kernel need not look into both sides. -/
theorem nrf {α : Type} {a b : α} (h : a = b) : a = b := h
theorem ivs (n : Int) : (Iv.sym n).val = n := nrf rfl
theorem ivl (n : Int) : (Iv.lit n).val = n := nrf rfl
theorem svs (s : ByteArray) : (Sv.sym s).val = s := nrf rfl
theorem svl (l : List UInt8) : (Sv.lit l).val = ⟨l.toArray⟩ := nrf rfl
theorem lrs (xs : List Int) : (Lv.sym xs).raw = xs := nrf rfl
theorem lrl (l : List Iv) : (Lv.lits l).raw = lvals l := nrf rfl
theorem trs (xs : List ByteArray) : (Tv.sym xs).raw = xs := nrf rfl
theorem trl (l : List Sv) : (Tv.lits l).raw = tvals l := nrf rfl
end Sx
set_option linter.unusedVariables false
set_option linter.unusedSimpArgs false
namespace Sx
open Go
section
variable {P : Program} {w : World}

/-- Blocks that are only read: what came in. -/
structure RoIn (P : Program) (w : World) (x : RA) (b : Blk) : Prop where
  ro : b.mut = false
  live : b.live = true
  rel : ∀ r, BRel P r w x b
  below : ∀ g, b.uses w x g → g < w.heap.size
def rhoOf (l : List RA) : Rho := fun i => l[i]?
/-- All that came in. -/
def AllRo (P : Program) (w : World) : List RA → Hp → Prop
  | [], [] => True
  | x :: l, b :: E => RoIn P w x b ∧ AllRo P w l E
  | _, _ => False
theorem AllRo.get : ∀ {l : List RA} {E : Hp}, AllRo P w l E → ∀ i, (∃ x, l[i]? = some x ∧ RoIn P w x (hget E i)) ∨ (l[i]? = none ∧ hget E i = .unborn)
  | [], [], _, i => .inr ⟨by simp, rfl⟩
  | x :: l, b :: E, h, 0 => by simp only [AllRo] at h; exact .inl ⟨x, rfl, h.1⟩
  | x :: l, b :: E, h, i + 1 => by simp only [AllRo] at h; simpa [hget] using AllRo.get h.2 i
  | [], _ :: _, h, _ => by simp [AllRo] at h
  | _ :: _, [], h, _ => by simp [AllRo] at h
theorem good_ro {l : List RA} {E : Hp} (h : AllRo P w l E) : Good P (ownOf (rhoOf l) E w) (rhoOf l) E w := by
  have hmut : ∀ i, (hget E i).mut = false := fun i => by
    rcases h.get i with ⟨x, _, hr⟩ | ⟨_, hu⟩
    · exact hr.ro
    · rw [hu]; rfl
  refine ⟨fun i hi => ?_, fun i hi => ?_, fun i x b hm _ _ => ?_, fun i j x y b g _ hm => ?_, fun i x g hl hx hu => ?_, fun i x g hl hx hu => .inr ⟨i, x, hl, hx, hu⟩⟩
  · rcases h.get i with ⟨x, _, hr⟩ | ⟨hn, _⟩
    · have := hr.live; rw [hi] at this; cases this
    · exact hn
  · rcases h.get i with ⟨x, hx, hr⟩ | ⟨_, hu⟩
    · exact ⟨x, hx, hr.rel _⟩
    · exact absurd hu hi
  · rw [hmut] at hm; cases hm
  · rw [hmut] at hm; cases hm
  · rcases h.get i with ⟨y, hy, hr⟩ | ⟨hn, _⟩
    · have : l[i]? = some x := hx
      rw [hy] at this; cases this
      exact hr.below g hu
    · have : l[i]? = some x := hx
      rw [hn] at this; cases this
/-- **A law**: a contract over what is only read, that answers true. -/
theorem Ctr.law {f : FuncId} {l : List RA} {E : Hp} {args : List V} {vals : List Value} {R : V → Hp → Prop} (h : Ctr P f E args R) (hR : ∀ v H, R v H → ∀ r x, VRel r v x → x = .bool true) (hE : AllRo P w l E) (hG : ∀ g i v, globCell P g i = some v → w.cell? ⟨g, i, none⟩ = some v) (hv : VRelL (rhoOf l) args vals) :
    Calls P f vals.toArray w fun e w' => e = .returned (.bool true) ∧ Go.RowKit.Below w.heap.size w w' := by
  refine (h.spec w (rhoOf l) vals (good_ro hE) ?_ hv).mono ?_
  · intro g q v hgv
    refine ⟨hG g q v hgv, ?_⟩
    have hc := hG g q v hgv
    rintro (hn | ⟨i, y, b, hm, _⟩)
    · simp [World.cell?, Array.getElem?_eq_none hn] at hc
    · rcases hE.get i with ⟨z, _, hr⟩ | ⟨_, hu⟩
      · rw [hr.ro] at hm; cases hm
      · rw [hu] at hm; cases hm
  rintro e w' ⟨v, x, E', r, rfl, h1, h2, h3, h4, h5⟩
  refine ⟨by rw [hR x E' h2 r v h1], ⟨h5.os, h5.tape, h5.output, h5.size, fun k hk => h5.block k hk ?_⟩⟩
  rintro (hn | ⟨i, y, b, hm, _⟩)
  · omega
  · rcases hE.get i with ⟨z, _, hr⟩ | ⟨_, hu⟩
    · rw [hr.ro] at hm; cases hm
    · rw [hu] at hm; cases hm
/-- A row of numbers that came in. -/
theorem roIn_ints {k : IntKind} {t : TypeId} {xs : List Int} {a : Option Addr} {cap : Nat} (hlt : ∀ x, a = some x → xs ≠ [] → x.block < w.heap.size) (hc : xs ≠ [] → ∃ x, a = some x ∧ ∀ i, i < xs.length → w.cell? (x.add i) = some (.int k (xs.getD i 0))) :
    RoIn P w ⟨if xs = [] then none else a, cap⟩ (.cols .ro t [.ints k (.sym xs)]) := by
  refine ⟨rfl, rfl, fun r => ?_, fun g hu => ?_⟩
  · simp only [BRel]
    refine ⟨_, _, colsAt_ints_mk k (.sym xs), by simp, fun hne => ?_, fun b q v hb hq => ?_⟩
    · have hx : xs ≠ [] := by rintro rfl; simp [Lv.raw] at hne
      obtain ⟨x, hx1, _⟩ := hc hx
      exact ⟨x, by simp [hx, hx1]⟩
    · by_cases hx : xs = []
      · simp [hx] at hb
      · obtain ⟨x, hx1, hx2⟩ := hc hx
        simp only [hx, if_false, hx1, Option.some.injEq] at hb; subst hb
        simp only [Lv.raw, List.getElem?_map] at hq
        obtain ⟨y, hy, rfl⟩ := Option.map_eq_some_iff.1 hq
        have hl := (List.getElem?_eq_some_iff.1 hy).1
        rw [hx2 q hl]
        simp [List.getD, hy]
  · obtain ⟨b, hb, rfl⟩ := hu
    by_cases hx : xs = []
    · simp [hx] at hb
    · simp only [hx, if_false] at hb
      exact hlt b hb hx
end
end Sx
set_option linter.unusedVariables false
set_option linter.unusedSimpArgs false
namespace Sx
open Go Go.ChangeShapes Go.WideShapes Go.RowKit

/-- A cell's kind, as it came in. -/
inductive CK where
  | int (k : IntKind)
  | str
  | bool
  | sl (e : TypeId) (ks : List CK)
mutual
def CellOk (w : World) : CK → Value → Prop
  | .int k, v => ∃ n, v = .int k n ∧ (Lit.int k n).wf = true
  | .str, v => ∃ s : ByteArray, v = .string s ∧ s.size ≤ maxLen
  | .bool, v => ∃ b, v = .bool b
  | .sl e ks, v => ∃ (A : Option Addr) (len cap : Nat) (rows : List (List Value)), v = .slice A len cap ∧ len ≤ cap ∧ cap ≤ maxLen ∧ rows.length = len ∧ (0 < len → ∃ a, A = some a ∧ a.block < w.heap.size) ∧
      (∀ vs, vs ∈ rows → CellsOk w ks vs) ∧ ∀ a, A = some a → ∀ i j, i < len → j < ks.length → w.cell? (a.add (i * ks.length + j)) = (rows.getD i [])[j]?
def CellsOk (w : World) : List CK → List Value → Prop
  | [], [] => True
  | k :: ks, v :: vs => CellOk w k v ∧ CellsOk w ks vs
  | _, _ => False
end
theorem CellsOk.len {w : World} : ∀ {ks : List CK} {vs : List Value}, CellsOk w ks vs → vs.length = ks.length
  | [], [], _ => rfl
  | k :: ks, v :: vs, h => by simp only [CellsOk] at h; simp [CellsOk.len h.2]
  | [], _ :: _, h => by simp [CellsOk] at h
  | _ :: _, [], h => by simp [CellsOk] at h
theorem CellsOk.append {w : World} : ∀ {ks ks' : List CK} {vs vs' : List Value}, CellsOk w ks vs → CellsOk w ks' vs' → CellsOk w (ks ++ ks') (vs ++ vs')
  | [], _, [], _, _, h => h
  | k :: ks, ks', v :: vs, vs', h, h' => by simp only [CellsOk, List.cons_append] at h ⊢; exact ⟨h.1, CellsOk.append h.2 h'⟩
  | [], _, _ :: _, _, h, _ => by simp [CellsOk] at h
  | _ :: _, _, [], _, h, _ => by simp [CellsOk] at h
def repK (n : Nat) (ks : List CK) : List CK :=
  match n with
  | 0 => []
  | n + 1 => ks ++ repK n ks
/-- The kinds of fields that lie one behind the other. -/
def kindsFs (f : TypeId → Option (List CK)) : Nat → List Field → Option (List CK)
  | _, [] => some []
  | o, x :: r => match f x.type with
    | some ks => if x.offset = o then (match kindsFs f (o + ks.length) r with
      | some l => some (ks ++ l)
      | none => none) else none
    | none => none
def kindsOf (P : Program) : Nat → TypeId → Option (List CK)
  | 0, _ => none
  | n + 1, t => match P.underlying t with
    | some (.int k) => some [.int k]
    | some .string => some [.str]
    | some .bool => some [.bool]
    | some (.struct fs) => match kindsFs (kindsOf P n) 0 fs.toList with
      | some ks => if ks.length = P.cellsOf t then some ks else none
      | none => none
    | some (.array m e) => match kindsOf P n e with
      | some ks => if m * ks.length = P.cellsOf t ∧ ks.length = P.cellsOf e then some (repK m ks) else none
      | none => none
    | some (.slice e) => match kindsOf P n e with
      | some ks => if ks.length = P.cellsOf e ∧ 0 < ks.length then some [.sl e ks] else none
      | none => none
    | _ => none

section
variable {H : Type} {enc : TypeId × Value → H} {P : Program} {w : World}

theorem repK_ok {ks : List CK} : ∀ {n : Nat} {cs : List Value}, cs.length = n * ks.length → (∀ i, i < n → CellsOk w ks ((cs.drop (i * ks.length)).take ks.length)) → CellsOk w (repK n ks) cs
  | 0, cs, hl, _ => by
    have : cs = [] := List.eq_nil_of_length_eq_zero (by omega)
    subst this; simp [repK, CellsOk]
  | n + 1, cs, hl, h => by
    have e : cs = cs.take ks.length ++ cs.drop ks.length := (List.take_append_drop _ _).symm
    rw [e]
    simp only [repK]
    refine CellsOk.append (by have := h 0 (by omega); simpa using this) (repK_ok (by simp [hl, Nat.add_mul]) (fun i hi => ?_))
    have := h (i + 1) (by omega)
    rw [List.drop_drop]
    rw [show (i + 1) * ks.length = ks.length + i * ks.length by rw [Nat.add_mul]; omega] at this
    exact this
theorem take_same {α : Type} (l : List α) {c k : Nat} (h : (l.take c).length = k) : l.take c = l.take k := by
  rw [List.length_take] at h
  subst h
  rw [List.take_eq_take_min]
theorem kindsFs_ok {f : TypeId → Option (List CK)} : ∀ (fs : List Field) (o : Nat) (cs : List Value) (ks : List CK), kindsFs f o fs = some ks →
    (∀ x ∈ fs, ∀ k, f x.type = some k → CellsOk w k ((cs.drop x.offset).take (P.cellsOf x.type))) → CellsOk w ks ((cs.drop o).take ks.length)
  | [], o, cs, ks, h, _ => by simp only [kindsFs, Option.some.injEq] at h; subst h; simp [CellsOk]
  | x :: r, o, cs, ks, h, hx => by
    simp only [kindsFs] at h
    split at h
    · rename_i k hk
      split at h
      · rename_i ho
        split at h
        · rename_i l hl
          simp only [Option.some.injEq] at h; subst h
          have h1 := hx x (by simp) k hk
          rw [take_same _ h1.len, ho] at h1
          have h2 := kindsFs_ok r _ cs _ hl (fun y hy => hx y (by simp [hy]))
          have e : (cs.drop o).take (k ++ l).length = (cs.drop o).take k.length ++ (cs.drop (o + k.length)).take l.length := by
            rw [List.length_append, List.take_add, List.drop_drop]
          rw [e]; exact h1.append h2
        · cases h
      · cases h
    · cases h

theorem kinds_ok {held : Bool} : ∀ (n : Nat) {t : TypeId} {fuel : Nat} {cs : List Value} {x : DataW H × List MemPlace} {ks : List CK}, DataW.trod enc P w 0 (fun _ => true) held fuel t cs = some x → kindsOf P n t = some ks → CellsOk w ks cs
  | 0, _, _, _, _, _, _, h => by simp [kindsOf] at h
  | n + 1, t, fuel, cs, x, ks, hx, h => by
    have hlt := DataW.trod_lt (enc := enc) (P := P) (w := w) (base := 0) (spare := fun _ => true) (held := held) fuel t cs x hx
    simp only [kindsOf] at h
    split at h
    · rename_i k ht
      simp only [Option.some.injEq] at h; subst h
      obtain ⟨m, rfl, _, hw⟩ := DataW.trod_int ht hx
      exact ⟨⟨m, rfl, hw⟩, trivial⟩
    · rename_i ht
      simp only [Option.some.injEq] at h; subst h
      obtain ⟨m, rfl, _, hw⟩ := DataW.trod_string ht hx
      exact ⟨⟨m, rfl, hw⟩, trivial⟩
    · rename_i ht
      simp only [Option.some.injEq] at h; subst h
      obtain ⟨m, rfl, _⟩ := DataW.trod_bool ht hx
      exact ⟨⟨m, rfl⟩, trivial⟩
    · rename_i fs ht
      split at h
      · rename_i l hl
        split at h
        · rename_i hlen
          simp only [Option.some.injEq] at h; subst h
          obtain ⟨xs, m, _, _, hcl, hxl, hf⟩ := DataW.trod_struct ht hx
          have := kindsFs_ok (P := P) (w := w) fs.toList 0 cs l hl (fun y hy k hk => by
            obtain ⟨i, hi⟩ := List.getElem?_of_mem hy
            have hi' : fs[i]? = some y := by simpa using hi
            have hil : i < fs.size := by
              rcases Nat.lt_or_ge i fs.size with h | h
              · exact h
              · rw [Array.getElem?_eq_none h] at hi'; cases hi'
            have hxi := hf i y hi'
            rw [List.getElem?_eq_getElem (by omega)] at hxi
            exact kinds_ok n hxi hk)
          rwa [List.drop_zero, List.take_of_length_le (by omega)] at this
        · cases h
      · cases h
    · rename_i m e ht
      split at h
      · rename_i l hl
        split at h
        · rename_i hlen
          simp only [Option.some.injEq] at h; subst h
          obtain ⟨xs, q, _, _, hcl, hxl, hf⟩ := DataW.trod_array ht hx
          refine repK_ok (by omega) (fun i hi => ?_)
          have hxi := hf i hi
          rw [List.getElem?_eq_getElem (by omega), ← hlen.2] at hxi
          exact kinds_ok n hxi hl
        · cases h
      · cases h
    · rename_i e ht
      split at h
      · rename_i l hl
        split at h
        · rename_i hlen
          simp only [Option.some.injEq] at h; subst h
          rcases DataW.trod_slice ht hx with ⟨rfl, _⟩ | ⟨a, len, cap, elems, rest, q, _, rfl, rfl, hb, hll, hm, hel, hei, _, _⟩
          · exact ⟨⟨none, 0, 0, [], rfl, by omega, by unfold maxLen; omega, rfl, by omega, by simp, by simp⟩, trivial⟩
          · have each : ∀ i, i < len → ∃ vs, w.cells? 0 (a.add (i * P.cellsOf e)) (P.cellsOf e) = some vs ∧ CellsOk w l vs := by
              intro i hi
              have := hei i hi
              rw [List.getElem?_eq_getElem (by omega)] at this
              obtain ⟨vs, h1, h2⟩ := Option.bind_eq_some_iff.1 this
              exact ⟨vs, h1, kinds_ok n h2 hl⟩
            refine ⟨⟨some a, len, cap, (List.range len).map fun i => (w.cells? 0 (a.add (i * P.cellsOf e)) (P.cellsOf e)).getD [], rfl, hll, hm, by simp, fun h0 => ⟨a, rfl, ?_⟩, fun vs hvs => ?_, fun b hb' i j hi hj => ?_⟩, trivial⟩
            · refine hlt (.cell a.block a.off) ?_
              simp only [List.mem_append]
              left
              simp only [MemPlace.row, List.mem_map, List.mem_range]
              exact ⟨0, Nat.mul_pos (by omega) (by omega), by simp⟩
            · obtain ⟨i, hi, rfl⟩ := List.mem_map.1 hvs
              obtain ⟨vs, h1, h2⟩ := each i (List.mem_range.1 hi)
              rw [h1]; exact h2
            · cases hb'
              obtain ⟨vs, h1, h2⟩ := each i hi
              obtain ⟨_, h3, h4⟩ := World.cells?_some h1
              have e1 : ((List.range len).map fun i => (w.cells? 0 (a.add (i * P.cellsOf e)) (P.cellsOf e)).getD []).getD i [] = vs := by
                simp [List.getD, hi, h1]
              rw [e1, hlen.1, ← h4 j (by omega), add_add]
        · cases h
      · cases h
    · cases h

theorem cell_of_okWide {t : TypeId} {v : Value} {base : Nat} {r : Reach} (h : Value.okWide P w r base t v) : (∃ cs, v = .agg cs ∧ v.cells = cs) ∨ v.cells = #[v] := by
  cases v <;> first | exact .inl ⟨_, rfl, rfl⟩ | exact .inr rfl
/-- An argument that came in: its value. -/
theorem arg_ok {held : Bool} {n : Nat} {t : TypeId} {v : Value} {d : DataW H} {p : List MemPlace} {ks : List CK} (h : DataW.Trod enc P w 0 (fun _ => true) held t v d p) (hk : kindsOf P n t = some ks) : CellsOk w ks v.cells.toList := by
  obtain ⟨fuel, hf⟩ := h
  exact kinds_ok n hf hk
theorem arg_agg {t : TypeId} {v : Value} {base : Nat} {r : Reach} (hv : Value.okWide P w r base t v) (ha : (match P.underlying t with | some (.struct _) | some (.array _ _) => true | _ => false) = true) : ∃ cs : List Value, v = .agg cs.toArray ∧ v.cells.toList = cs := by
  unfold Value.okWide at hv
  split at hv
  · obtain ⟨cs, rfl, _⟩ := hv; exact ⟨cs.toList, by simp, rfl⟩
  · obtain ⟨cs, rfl, _⟩ := hv; exact ⟨cs.toList, by simp, rfl⟩
  · rename_i h1 h2
    exfalso
    revert ha
    split
    · rename_i fs h; exact absurd h (h1 fs)
    · rename_i m e h; exact absurd h (h2 m e)
    · simp
theorem arg_one {t : TypeId} {v : Value} {base : Nat} {r : Reach} (hv : Value.okWide P w r base t v) (ha : (match P.underlying t with | some (.struct _) | some (.array _ _) => true | _ => false) = false) : v.cells.toList = [v] := by
  unfold Value.okWide at hv
  split at hv
  · rename_i h; rw [h] at ha; cases ha
  · rename_i h; rw [h] at ha; cases ha
  · cases v <;> first | rfl | (rename_i cs; unfold Cell.okWide at hv; revert hv; split <;> simp_all [Cell.ok])

/-- The arguments read as they did. -/
theorem trodAll_below {W W' : World} (hlo : laidOutB P = true) (bel : Below W.heap.size W W') : ∀ {ts : List TypeId} {vs : List Value} {ds : List (DataW H)} {ps : List MemPlace},
    (ts.all fun t => P.readableRec t && decide (t < P.types.size)) = true → DataW.TrodAll enc P W 0 (fun _ => true) true ts vs ds ps → (∀ x ∈ ps, x.block < W.heap.size) → DataW.TrodAll enc P W' 0 (fun b => decide (b < W.heap.size)) true ts vs ds ps
  | [], [], [], _, _, h, _ => h
  | t :: ts, v :: vs, d :: ds, ps, hr, h, hlt => by
    obtain ⟨p, q, h1, h2, rfl⟩ := h
    simp only [List.all_cons, Bool.and_eq_true, decide_eq_true_eq] at hr
    exact ⟨p, q, Below.trod hlo hr.1.1 hr.1.2 h1 bel (fun x hx => hlt x (by simp [hx])), trodAll_below hlo bel hr.2 h2 (fun x hx => hlt x (by simp [hx])), rfl⟩
  | [], _ :: _, _, _, _, h, _ => by simp [DataW.TrodAll] at h
  | [], [], _ :: _, _, _, h, _ => by simp [DataW.TrodAll] at h
  | _ :: _, [], _, _, _, h, _ => by simp [DataW.TrodAll] at h
  | _ :: _, _ :: _, [], _, _, h, _ => by simp [DataW.TrodAll] at h
/-- What an answer 'true' over memory that stays makes of the arguments. -/
theorem args_done {W W' : World} {base : Nat} {ts : List TypeId} {vs : List Value} {ds : List (DataW H)} {ps : List MemPlace} (hlo : laidOutB P = true) (bel : Below W.heap.size W W')
    (hr : (ts.all fun t => P.readableRec t && decide (t < P.types.size)) = true) (h : DataW.TrodAll enc P W 0 (fun _ => true) true ts vs ds ps) : DataW.TrodAll enc P W' 0 (fun b => decide (b < W.heap.size)) true ts vs ds ps :=
  trodAll_below hlo bel hr h (DataW.TrodAll.lt h)
end
end Sx
set_option linter.unusedVariables false
set_option linter.unusedSimpArgs false
namespace Sx
open Go Go.ChangeShapes Go.WideShapes Go.RowKit

def CK.flat : CK → Bool
  | .sl _ _ => false
  | _ => true
def vInt : Value → Int
  | .int _ n => n
  | _ => 0
def vStr : Value → ByteArray
  | .string s => s
  | _ => ByteArray.empty
def vBool : Value → Bool
  | .bool b => b
  | _ => false
def colInts (rows : List (List Value)) (j : Nat) : List Int := rows.map fun r => vInt (r.getD j undef)
def colStrs (rows : List (List Value)) (j : Nat) : List ByteArray := rows.map fun r => vStr (r.getD j undef)
def colBools (rows : List (List Value)) (j : Nat) : List Bool := rows.map fun r => vBool (r.getD j undef)
def colOfK (rows : List (List Value)) (j : Nat) : CK → Col
  | .int k => .ints k (.sym (colInts rows j))
  | .str => .strs (.sym (colStrs rows j))
  | _ => .bools (colBools rows j)
def colsFrom (rows : List (List Value)) : Nat → List CK → List Col
  | _, [] => []
  | j, k :: ks => colOfK rows j k :: colsFrom rows (j + 1) ks
theorem colsFrom_len (rows : List (List Value)) : ∀ (j : Nat) (ks : List CK), (colsFrom rows j ks).length = ks.length
  | _, [] => rfl
  | j, k :: ks => by simp [colsFrom, colsFrom_len rows (j + 1) ks]
theorem colsFrom_get (rows : List (List Value)) : ∀ (ks : List CK) (o j : Nat) (c : Col), colAt (colsFrom rows o ks) j = some c → ∃ k, ks[j]? = some k ∧ c = colOfK rows (o + j) k
  | [], o, j, c, h => by simp [colsFrom, colAt] at h
  | k :: ks, o, 0, c, h => by simp only [colsFrom, colAt, Option.some.injEq] at h; exact ⟨k, rfl, h.symm⟩
  | k :: ks, o, j + 1, c, h => by
    simp only [colsFrom, colAt] at h
    obtain ⟨k', h1, h2⟩ := colsFrom_get rows ks (o + 1) j c h
    exact ⟨k', h1, by rw [h2]; congr 1; omega⟩
theorem colsFrom_size (rows : List (List Value)) : ∀ (j : Nat) (ks : List CK), ∀ c ∈ colsFrom rows j ks, c.size = rows.length
  | _, [], c, h => by simp [colsFrom] at h
  | j, k :: ks, c, h => by
    simp only [colsFrom, List.mem_cons] at h
    rcases h with rfl | h
    · cases k <;> simp [colOfK, Col.size, Lv.raw, Tv.raw, colInts, colStrs, colBools]
    · exact colsFrom_size rows (j + 1) ks c h
theorem flatten_get {m : Nat} : ∀ {rows : List (List Value)} {i j : Nat}, (∀ r ∈ rows, r.length = m) → j < m → rows.flatten[i * m + j]? = (rows[i]?).bind fun r => r[j]?
  | [], i, j, _, _ => by simp
  | r :: rows, 0, j, h, hj => by
    have := h r (by simp)
    simp [List.getElem?_append_left (show j < r.length by omega)]
  | r :: rows, i + 1, j, h, hj => by
    have h1 := h r (by simp)
    rw [List.flatten_cons, List.getElem?_append_right (by rw [h1, Nat.add_mul]; omega), h1, show (i + 1) * m + j - m = i * m + j by rw [Nat.add_mul]; omega]
    simpa using flatten_get (i := i) (fun q hq => h q (by simp [hq])) hj
theorem flatten_len {m : Nat} : ∀ {rows : List (List Value)}, (∀ r ∈ rows, r.length = m) → rows.flatten.length = rows.length * m
  | [], _ => by simp
  | r :: rows, h => by
    rw [List.flatten_cons, List.length_append, flatten_len (fun q hq => h q (by simp [hq])), h r (by simp), List.length_cons, Nat.add_mul]; omega
theorem CellsOk.get {w : World} : ∀ {ks : List CK} {vs : List Value} {j : Nat} {k : CK}, CellsOk w ks vs → ks[j]? = some k → ∃ v, vs[j]? = some v ∧ CellOk w k v
  | [], [], _, _, _, h => by simp at h
  | k :: ks, v :: vs, 0, k', h, hk => by simp only [CellsOk] at h; simp at hk; subst hk; exact ⟨v, rfl, h.1⟩
  | k :: ks, v :: vs, j + 1, k', h, hk => by simp only [CellsOk] at h; simpa using CellsOk.get h.2 (by simpa using hk)
  | [], _ :: _, _, _, h, _ => by simp [CellsOk] at h
  | _ :: _, [], _, _, h, _ => by simp [CellsOk] at h

section
variable {P : Program} {w : World} {ks : List CK} {rows : List (List Value)}

theorem colsFrom_at (h : ∀ r ∈ rows, CellsOk w ks r) (hf : ks.all CK.flat = true) : ColsAt (colsFrom rows 0 ks) rows.flatten rows.length := by
  have hl : ∀ r ∈ rows, r.length = ks.length := fun r hr => (h r hr).len
  refine ⟨by rw [flatten_len hl, colsFrom_len], colsFrom_size rows 0 ks, fun i j c hi hc => ?_⟩
  obtain ⟨k, h1, rfl⟩ := colsFrom_get rows ks 0 j c hc
  have hj : j < ks.length := (List.getElem?_eq_some_iff.1 h1).1
  rw [colsFrom_len, flatten_get hl hj, Nat.zero_add]
  have hr : rows[i]? = some rows[i] := List.getElem?_eq_getElem hi
  obtain ⟨v, h2, h3⟩ := (h _ (List.getElem_mem hi)).get h1
  have hflat : k.flat = true := List.all_eq_true.1 hf k (List.mem_of_getElem? h1)
  have hd : (rows[i]).getD j undef = v := by rw [List.getD_eq_getElem?_getD, h2]; rfl
  rw [hr]
  simp only [Option.bind_some, h2]
  cases k with
  | int k => obtain ⟨n, rfl, _⟩ := h3; simp [colOfK, Col.cell, Lv.raw, colInts, hr, h2, vInt]
  | str => obtain ⟨n, rfl, _⟩ := h3; simp [colOfK, Col.cell, Tv.raw, colStrs, hr, h2, vStr]
  | bool => obtain ⟨n, rfl⟩ := h3; simp [colOfK, Col.cell, colBools, hr, h2, vBool]
  | sl => simp [CK.flat] at hflat
theorem colInts_wf {j : Nat} {k : IntKind} (h : ∀ r ∈ rows, CellsOk w ks r) (hk : ks[j]? = some (.int k)) : ∀ x ∈ colInts rows j, (Lit.int k x).wf = true := by
  intro x hx
  obtain ⟨r, hr, rfl⟩ := List.mem_map.1 hx
  obtain ⟨v, h2, n, rfl, h3⟩ := (h r hr).get hk
  rw [List.getD_eq_getElem?_getD, h2]; exact h3
theorem colStrs_size {j : Nat} (h : ∀ r ∈ rows, CellsOk w ks r) (hk : ks[j]? = some .str) : ∀ x ∈ colStrs rows j, x.size ≤ maxLen := by
  intro x hx
  obtain ⟨r, hr, rfl⟩ := List.mem_map.1 hx
  obtain ⟨v, h2, n, rfl, h3⟩ := (h r hr).get hk
  rw [List.getD_eq_getElem?_getD, h2]; exact h3

/-- A slice that came in, of plain elements. -/
theorem slice_in (P : Program) {e : TypeId} {v : Value} (h : CellOk w (.sl e ks) v) (hf : ks.all CK.flat = true) (hne : ks ≠ []) :
    ∃ (x : RA) (rows : List (List Value)), (∀ (r : Rho) (j : Nat), r j = some x → VRel r (.sl j (.lit 0) (.sym (rows.length : Int))) v) ∧ RoIn P w x (.cols .ro e (colsFrom rows 0 ks)) ∧ (∀ r ∈ rows, CellsOk w ks r) ∧ rows.length ≤ maxLen := by
  obtain ⟨A, len, cap, rows, rfl, h1, h2, h3, h4, h5, h6⟩ := h
  have hl : ∀ r ∈ rows, r.length = ks.length := fun r hr => (h5 r hr).len
  have hpos : 0 < ks.length := List.length_pos_iff.2 hne
  refine ⟨⟨if len = 0 then none else A, cap⟩, rows, fun r j hr => ?_, ⟨rfl, rfl, fun r => ?_, fun g hu => ?_⟩, h5, by omega⟩
  · simp only [VRel]
    refine ⟨_, len, cap, A, hr, by simp [h3], h1, by simp, rfl, fun h0 => ?_⟩
    obtain ⟨a, rfl, _⟩ := h4 h0
    exact ⟨a, by simp [show len ≠ 0 by omega], by simp [Addr.add]⟩
  · simp only [BRel]
    refine ⟨rows.flatten, rows.length, colsFrom_at h5 hf, ?_, fun hne' => ?_, fun b q v hb hq => ?_⟩
    · intro e0
      have := colsFrom_len rows 0 ks
      rw [e0] at this; simp at this; omega
    · have hr0 : 0 < rows.length := by
        cases rows with
        | nil => simp at hne'
        | cons => simp
      obtain ⟨a, rfl, _⟩ := h4 (by omega)
      exact ⟨a, by simp [show len ≠ 0 by omega]⟩
    · by_cases h0 : len = 0
      · simp [h0] at hb
      · simp only [h0, if_false] at hb
        have hq' := (List.getElem?_eq_some_iff.1 hq).1
        rw [flatten_len hl, h3] at hq'
        have e1 : q = q / ks.length * ks.length + q % ks.length := by rw [Nat.div_add_mod']
        have hi : q / ks.length < len := (Nat.div_lt_iff_lt_mul hpos).2 hq'
        have hj : q % ks.length < ks.length := Nat.mod_lt _ hpos
        have := h6 b hb _ _ hi hj
        rw [← e1] at this
        rw [this, ← hq]
        conv => rhs; rw [e1, flatten_get hl hj]
        rw [List.getElem?_eq_getElem (by omega : q / ks.length < rows.length), List.getD_eq_getElem?_getD, List.getElem?_eq_getElem (by omega : q / ks.length < rows.length)]
        rfl
  · obtain ⟨b, hb, rfl⟩ := hu
    by_cases h0 : len = 0
    · simp [h0] at hb
    · simp only [h0, if_false] at hb
      obtain ⟨a, ha, hlt⟩ := h4 (by omega)
      rw [ha] at hb; cases hb
      exact hlt
theorem repK_rows {n : Nat} : ∀ {cs : List Value}, CellsOk w (repK n ks) cs → ∃ rows : List (List Value), rows.length = n ∧ (∀ r ∈ rows, CellsOk w ks r) ∧ cs = rows.flatten := by
  induction n with
  | zero =>
    intro cs h
    have : cs = [] := List.eq_nil_of_length_eq_zero (by simpa [repK] using h.len)
    exact ⟨[], rfl, by simp, by simp [this]⟩
  | succ n ih =>
    intro cs h
    have hlen := h.len
    simp only [repK, List.length_append] at hlen
    have split : ∀ {a b : List CK} {vs : List Value}, CellsOk w (a ++ b) vs → CellsOk w a (vs.take a.length) ∧ CellsOk w b (vs.drop a.length) := by
      intro a
      induction a with
      | nil => intro b vs h; simpa [CellsOk] using h
      | cons k a iha =>
        intro b vs h
        cases vs with
        | nil => simp [CellsOk] at h
        | cons v vs =>
          simp only [List.cons_append, CellsOk] at h
          have := iha h.2
          simpa [CellsOk] using ⟨⟨h.1, this.1⟩, this.2⟩
    obtain ⟨h1, h2⟩ := split (by simpa [repK] using h)
    obtain ⟨rows, r1, r2, r3⟩ := ih h2
    refine ⟨cs.take ks.length :: rows, by simp [r1], fun r hr => ?_, by rw [List.flatten_cons, ← r3, List.take_append_drop]⟩
    rcases List.mem_cons.1 hr with rfl | hr
    · exact h1
    · exact r2 r hr
/-- An array of plain elements, by value. -/
theorem array_in {n : Nat} {cs : List Value} (h : CellsOk w (repK n ks) cs) (hf : ks.all CK.flat = true) :
    ∃ rows : List (List Value), rows.length = n ∧ (∀ r ∈ rows, CellsOk w ks r) ∧ ∀ r : Rho, VRel r (.cols (n * ks.length) (colsFrom rows 0 ks)) (.agg cs.toArray) := by
  obtain ⟨rows, h1, h2, rfl⟩ := repK_rows h
  refine ⟨rows, h1, h2, fun r => ?_⟩
  simp only [VRel]
  exact ⟨_, rows.length, rfl, by simpa using colsFrom_at h2 hf, by simp [flatten_len (fun r hr => (h2 r hr).len), h1]⟩
/-- Cells that are written out. -/
theorem oneCells_in : ∀ {ks : List CK} {cs : List Value}, CellsOk w ks cs → OneCells cs
  | [], [], _ => by simp [OneCells]
  | k :: ks, v :: vs, h => by
    simp only [CellsOk] at h
    intro x hx
    rcases List.mem_cons.1 hx with rfl | hx
    · have := h.1
      cases k <;> simp only [CellOk] at this
      · obtain ⟨n, rfl, _⟩ := this; rfl
      · obtain ⟨n, rfl, _⟩ := this; rfl
      · obtain ⟨n, rfl⟩ := this; rfl
      · obtain ⟨A, l, c, rows, rfl, _⟩ := this; rfl
    · exact oneCells_in h.2 x hx
  | [], _ :: _, h => by simp [CellsOk] at h
  | _ :: _, [], h => by simp [CellsOk] at h
/-- Cells as they came in. -/
def cellsV (cs : List Value) : Nat → List CK → List V
  | _, [] => []
  | j, .int k :: ks => .int k (.sym (vInt (cs.getD j undef))) :: cellsV cs (j + 1) ks
  | j, .str :: ks => .str (.sym (vStr (cs.getD j undef))) :: cellsV cs (j + 1) ks
  | j, .bool :: ks => .sbool (vBool (cs.getD j undef)) :: cellsV cs (j + 1) ks
  | j, .sl _ _ :: ks => .any :: cellsV cs (j + 1) ks
theorem cellsV_drop {r : Rho} : ∀ {ks : List CK} {cs ds : List Value} {j : Nat}, CellsOk w ks ds → (∀ i, ds[i]? = cs[j + i]?) → VRelL r (cellsV cs j ks) ds
  | [], cs, [], j, _, _ => by simp [cellsV, VRelL]
  | k :: ks, cs, v :: vs, j, h, hd => by
    simp only [CellsOk] at h
    have h0 := hd 0
    simp only [List.getElem?_cons_zero, Nat.add_zero] at h0
    have hv : cs.getD j undef = v := by rw [List.getD_eq_getElem?_getD, ← h0]; rfl
    have ih := cellsV_drop (r := r) (j := j + 1) (cs := cs) h.2 (fun i => by have := hd (i + 1); simpa [Nat.add_assoc, Nat.add_comm 1 i] using this)
    have h1 := h.1
    cases k with
    | int k => obtain ⟨n, rfl, _⟩ := h1; simp only [cellsV, VRelL, hv]; exact ⟨by simp [VRel, vInt], ih⟩
    | str => obtain ⟨n, rfl, _⟩ := h1; simp only [cellsV, VRelL, hv]; exact ⟨by simp [VRel, vStr], ih⟩
    | bool => obtain ⟨n, rfl⟩ := h1; simp only [cellsV, VRelL, hv]; exact ⟨by simp [VRel, vBool], ih⟩
    | sl e ks' => simp only [cellsV, VRelL]; exact ⟨by simp [VRel], ih⟩
  | [], _, _ :: _, _, h, _ => by simp [CellsOk] at h
  | _ :: _, _, [], _, h, _ => by simp [CellsOk] at h
theorem cells_in {r : Rho} {cs : List Value} (h : CellsOk w ks cs) : VRelL r (cellsV cs 0 ks) cs := cellsV_drop h (fun i => by simp)
theorem agg_in {cs : List Value} (h : CellsOk w ks cs) : ∀ r : Rho, VRel r (.agg (cellsV cs 0 ks)) (.agg cs.toArray) := fun r => by
  simp only [VRel]; exact ⟨_, rfl, cells_in h, oneCells_in h⟩
theorem one_in {v : Value} {k : CK} {u : V} (h : CellsOk w [k] [v]) (hu : cellsV [v] 0 [k] = [u]) : ∀ r : Rho, VRel r u v := fun r => by
  have := cells_in (r := r) h
  rw [hu] at this
  simp only [VRelL] at this
  exact this.1
theorem cell_wf {cs : List Value} {j : Nat} {k : IntKind} (h : CellsOk w ks cs) (hk : ks[j]? = some (.int k)) : (Lit.int k (vInt (cs.getD j undef))).wf = true := by
  obtain ⟨v, h2, n, rfl, h3⟩ := h.get hk
  rw [List.getD_eq_getElem?_getD, h2]; exact h3
theorem cell_short {cs : List Value} {j : Nat} (h : CellsOk w ks cs) (hk : ks[j]? = some .str) : (vStr (cs.getD j undef)).size ≤ maxLen := by
  obtain ⟨v, h2, n, rfl, h3⟩ := h.get hk
  rw [List.getD_eq_getElem?_getD, h2]; exact h3
theorem bytes_of {j : Nat} (h : ∀ r ∈ rows, CellsOk w ks r) (hk : ks[j]? = some (.int .u8)) : ∀ x ∈ colInts rows j, 0 ≤ x ∧ x < 256 := by
  intro x hx
  have := colInts_wf h hk x hx
  simp [Lit.wf, IntKind.min, IntKind.max, IntKind.signed, IntKind.bits] at this
  omega
theorem i64s_of {j : Nat} (h : ∀ r ∈ rows, CellsOk w ks r) (hk : ks[j]? = some (.int .i64)) : ∀ x ∈ colInts rows j, -9223372036854775808 ≤ x ∧ x ≤ 9223372036854775807 := by
  intro x hx
  have := colInts_wf h hk x hx
  simp [Lit.wf, IntKind.min, IntKind.max, IntKind.signed, IntKind.bits] at this
  omega
theorem u8_of {n : Int} (h : (Lit.int .u8 n).wf = true) : 0 ≤ n ∧ n < 256 := by
  simp [Lit.wf, IntKind.min, IntKind.max, IntKind.signed, IntKind.bits] at h; omega
theorem u16_of {n : Int} (h : (Lit.int .u16 n).wf = true) : 0 ≤ n ∧ n < 65536 := by
  simp [Lit.wf, IntKind.min, IntKind.max, IntKind.signed, IntKind.bits] at h; omega
theorem u64_of {n : Int} (h : (Lit.int .u64 n).wf = true) : 0 ≤ n ∧ n < 18446744073709551616 := by
  simp [Lit.wf, IntKind.min, IntKind.max, IntKind.signed, IntKind.bits] at h; omega
theorem i64_of {n : Int} (h : (Lit.int .i64 n).wf = true) : -9223372036854775808 ≤ n ∧ n ≤ 9223372036854775807 := by
  simp [Lit.wf, IntKind.min, IntKind.max, IntKind.signed, IntKind.bits] at h; omega
theorem noGlob (h : P.globalNamed "errors.errorType" = none) (h' : P.globalNamed "math/bits.deBruijn64tab" = none) : ∀ g i v, globCell P g i = some v → w.cell? ⟨g, i, none⟩ = some v := by
  intro g i v hg
  simp [globCell, h, h'] at hg
end
end Sx
set_option linter.unusedVariables false
set_option linter.unusedSimpArgs false
namespace Sx
open Go

/-- A thing by a name, where a goal may not be looked into. -/
theorem nameIt {α : Sort _} (x : α) {P : Prop} (h : ∀ y, y = x → P) : P := h x rfl
theorem wr_u8 (n : Int) : IntKind.u8.wrap n = n % 256 := IntKind.wrap_u8 n
theorem wr_u16 (n : Int) : IntKind.u16.wrap n = n % 65536 := by simp [IntKind.wrap, IntKind.bits, IntKind.signed]
theorem wr_u32 (n : Int) : IntKind.u32.wrap n = n % 4294967296 := IntKind.wrap_u32 n
theorem wr_u64 (n : Int) : IntKind.u64.wrap n = n % 18446744073709551616 := by simp [IntKind.wrap, IntKind.bits, IntKind.signed]
theorem wr_i64 (n : Int) (h0 : -9223372036854775808 ≤ n) (h1 : n ≤ 9223372036854775807) : IntKind.i64.wrap n = n := by rw [IntKind.wrap_i64]; omega
theorem fdiv2 (x : Int) (n : Nat) : x.fdiv (2 ^ n) = x / 2 ^ n := Int.fdiv_eq_ediv_of_nonneg x (by exact Int.pow_nonneg (by decide))
theorem lvals_length (l : List Iv) : (lvals l).length = l.length := by rw [lvals_eq]; simp
theorem strL_bytesL (s : ByteArray) : strL (bytesL s) = s := by
  unfold strL bytesL
  cases s with
  | mk d =>
    simp only [List.map_map]
    congr 1
    have : (d.toList.map ((fun n : Int => UInt8.ofNat n.toNat) ∘ fun b : UInt8 => (b.toNat : Int))) = d.toList := by
      conv => rhs; rw [← List.map_id d.toList]
      refine List.map_congr_left (fun b _ => ?_)
      simp
    rw [this]
theorem bin_add (k : IntKind) (x y : Int) : binI .add k x y = k.wrap (x + y) := nrf rfl
theorem bin_sub (k : IntKind) (x y : Int) : binI .sub k x y = k.wrap (x - y) := nrf rfl
theorem bin_mul (k : IntKind) (x y : Int) : binI .mul k x y = k.wrap (x * y) := nrf rfl
/-- Bytes. -/
def Bytes (xs : List Int) : Prop := ∀ x ∈ xs, 0 ≤ x ∧ x < 256
theorem bytesL_strL {xs : List Int} (h : Bytes xs) : bytesL (strL xs) = xs := by
  unfold strL bytesL
  simp only [List.map_map]
  conv => rhs; rw [← List.map_id xs]
  refine List.map_congr_left (fun x hx => ?_)
  have := h x hx
  simp only [Function.comp, UInt8.toNat_ofNat', id]
  omega
theorem Bytes.get {xs : List Int} (h : Bytes xs) (i : Nat) : 0 ≤ xs.getD i 0 ∧ xs.getD i 0 < 256 := by
  by_cases hi : i < xs.length
  · rw [List.getD_eq_getElem?_getD, List.getElem?_eq_getElem hi]; exact h _ (List.getElem_mem hi)
  · rw [List.getD_eq_getElem?_getD, List.getElem?_eq_none (by omega)]; decide
theorem bytesL_bytes (s : ByteArray) : Bytes (bytesL s) := by
  intro x hx
  obtain ⟨b, _, rfl⟩ := List.mem_map.1 hx
  have := b.toNat_lt
  omega
theorem size_strL (xs : List Int) : (strL xs).size = xs.length := by simp [strL, ByteArray.size]
theorem lgetD_set_ne {α : Type} (l : List α) {i k : Nat} (v d : α) (h : i ≠ k) : (l.set i v).getD k d = l.getD k d := by
  simp only [List.getD_eq_getElem?_getD, List.getElem?_set_ne h]
theorem lgetD_set_eq {α : Type} (l : List α) {i : Nat} (v d : α) (h : i < l.length) : (l.set i v).getD i d = v := by
  simp only [List.getD_eq_getElem?_getD, List.getElem?_set_self h, Option.getD_some]
theorem nil_toList {s : ByteArray} : s.toList = [] ↔ s.size = 0 := by
  have e : s.toList = s.data.toList := by simp only [ByteArray.toList_eq]
  rw [e, List.eq_nil_iff_length_eq_zero]
  show s.data.toList.length = 0 ↔ s.data.size = 0
  rw [Array.length_toList]
def deadOf : Blk → Blk
  | .unborn => .unborn
  | _ => .dead
theorem subH_deads : ∀ (H : Hp), subH H (H.map deadOf)
  | [] => trivial
  | b :: H => by
    refine ⟨?_, subH_deads H⟩
    cases b <;> simp [Blk.sub, deadOf]
theorem fitsH_deads (n : Nat) : ∀ (E : Hp), fitsH n (E.map deadOf) = true
  | [] => rfl
  | b :: E => by
    have := fitsH_deads n E
    cases b <;> simpa [fitsH, deadOf] using this
/-- A law's end. -/
theorem Weak.law {E0 : Hp} {v : V} {H : Hp} (h1 : v = .bool true) (h2 : Nat.ble (llen E0) (llen H) = true) : Weak E0 (fun v _ => v = .bool true) v H := by
  subst h1
  refine ⟨.bool true, H.map deadOf, rfl, subH_deads H, ?_, rfl⟩
  have h3 : Nat.ble (llen E0) (llen (H.map deadOf)) = true := by
    rw [llen_eq, llen_eq] at *; simpa using h2
  simp only [fits, h3, fitsH_deads, idsL, idsV, List.append_nil, idsUp, Bool.and_self]
theorem nilS : ({ data := #[] } : ByteArray).toList = [] := nil_toList.2 rfl
theorem quo_i64 {x d : Int} (h0 : 0 ≤ x) (h1 : x ≤ 9223372036854775807) (hd : 0 < d) : binI .quo .i64 x d = x / d := by
  show IntKind.i64.wrap (x.tdiv d) = _
  rw [Int.tdiv_eq_ediv_of_nonneg h0]
  have a := Int.ediv_nonneg h0 (Int.le_of_lt hd)
  have b := Int.ediv_le_self d h0
  exact wr_i64 _ (by omega) (by omega)
theorem rem_nn {k : IntKind} {x d : Int} (h0 : 0 ≤ x) : binI .rem k x d = x % d := Int.tmod_eq_emod_of_nonneg h0
theorem add_i64 {x y : Int} (h0 : -9223372036854775808 ≤ x + y) (h1 : x + y ≤ 9223372036854775807) : binI .add .i64 x y = x + y := wr_i64 _ h0 h1
theorem sub_i64 {x y : Int} (h0 : -9223372036854775808 ≤ x - y) (h1 : x - y ≤ 9223372036854775807) : binI .sub .i64 x y = x - y := wr_i64 _ h0 h1
theorem mul_i64 {x y : Int} (h0 : -9223372036854775808 ≤ x * y) (h1 : x * y ≤ 9223372036854775807) : binI .mul .i64 x y = x * y := wr_i64 _ h0 h1
theorem subL_all (xs : List Int) (n : Int) (h : n = xs.length) : subL xs 0 n = xs := by simp [subL, h]
theorem subL_bytes (s : ByteArray) : subL (bytesL s) 0 (s.size : Int) = bytesL s := subL_all _ _ (by rw [bytesL_length])
/-- Rows that are alike up to a place. -/
theorem list_eq_of_get {xs ys : List Int} (hl : xs.length = ys.length) (h : ∀ k : Nat, k < xs.length → xs.getD k 0 = ys.getD k 0) : xs = ys := by
  refine List.ext_getElem hl fun i h1 h2 => ?_
  have := h i h1
  simpa [List.getD_eq_getElem?_getD, List.getElem?_eq_getElem h1, List.getElem?_eq_getElem h2] using this
/-- A loop with two, three ghosts. -/
theorem LoopN.unroll {nb : Nat} {ws : List Nat} {body : (Ex → Fr → Hp → Prop) → Fr → Hp → Prop} {K : Ex → Fr → Hp → Prop} {fr : Fr} {hp : Hp} (n : Nat) (h : unrollN body K n fr hp) : LoopN nb ws body K fr hp := .now (.unroll n h)
theorem LoopN.inv {nb : Nat} {ws : List Nat} {body : (Ex → Fr → Hp → Prop) → Fr → Hp → Prop} {K : Ex → Fr → Hp → Prop} {fr : Fr} {hp : Hp} (G : Type) (slots : List Nat) (st : G → List V × Hp) (pre : G → Prop) (μ : G → Nat) (g0 : G)
    (sl : subN slots ws = true) (fit : ∀ g, pre g → fits hp (st g).2 (fsets slots (st g).1 (havoc ws fr)) = true)
    (start : pre g0 ∧ V.subL (fgets fr slots) (st g0).1 ∧ subH hp (st g0).2)
    (round : ∀ g, pre g → body (fun e fr' hp' => match e with
      | .norm => ∃ g', pre g' ∧ μ g' < μ g ∧ gate (anyOk (havoc ws fr) fr') (V.subL (fgets fr' slots) (st g').1) ∧ subH hp' (st g').2
      | e => K e fr' hp') (fsets slots (st g).1 (havoc ws fr)) (st g).2) : LoopN nb ws body K fr hp := .now (.inv G slots st pre μ g0 sl fit start round)
theorem LoopN.inv2 {nb : Nat} {ws : List Nat} {body : (Ex → Fr → Hp → Prop) → Fr → Hp → Prop} {K : Ex → Fr → Hp → Prop} {fr : Fr} {hp : Hp} (A B : Type) (slots : List Nat) (st : A → B → List V × Hp) (pre : A → B → Prop) (μ : A → B → Nat) (a0 : A) (b0 : B)
    (sl : subN slots ws = true) (fit : ∀ a b, pre a b → fits hp (st a b).2 (fsets slots (st a b).1 (havoc ws fr)) = true)
    (start : pre a0 b0 ∧ V.subL (fgets fr slots) (st a0 b0).1 ∧ subH hp (st a0 b0).2)
    (round : ∀ a b, pre a b → body (fun e fr' hp' => match e with
      | .norm => ∃ g : A × B, pre g.1 g.2 ∧ μ g.1 g.2 < μ a b ∧ gate (anyOk (havoc ws fr) fr') (V.subL (fgets fr' slots) (st g.1 g.2).1) ∧ subH hp' (st g.1 g.2).2
      | e => K e fr' hp') (fsets slots (st a b).1 (havoc ws fr)) (st a b).2) : LoopN nb ws body K fr hp :=
  .inv (A × B) slots (fun g => st g.1 g.2) (fun g => pre g.1 g.2) (fun g => μ g.1 g.2) (a0, b0) sl (fun g h => fit g.1 g.2 h) start (fun g h => round g.1 g.2 h)
theorem LoopN.inv3 {nb : Nat} {ws : List Nat} {body : (Ex → Fr → Hp → Prop) → Fr → Hp → Prop} {K : Ex → Fr → Hp → Prop} {fr : Fr} {hp : Hp} (A B C : Type) (slots : List Nat) (st : A → B → C → List V × Hp) (pre : A → B → C → Prop) (μ : A → B → C → Nat) (a0 : A) (b0 : B) (c0 : C)
    (sl : subN slots ws = true) (fit : ∀ a b c, pre a b c → fits hp (st a b c).2 (fsets slots (st a b c).1 (havoc ws fr)) = true)
    (start : pre a0 b0 c0 ∧ V.subL (fgets fr slots) (st a0 b0 c0).1 ∧ subH hp (st a0 b0 c0).2)
    (round : ∀ a b c, pre a b c → body (fun e fr' hp' => match e with
      | .norm => ∃ g : A × B × C, pre g.1 g.2.1 g.2.2 ∧ μ g.1 g.2.1 g.2.2 < μ a b c ∧ gate (anyOk (havoc ws fr) fr') (V.subL (fgets fr' slots) (st g.1 g.2.1 g.2.2).1) ∧ subH hp' (st g.1 g.2.1 g.2.2).2
      | e => K e fr' hp') (fsets slots (st a b c).1 (havoc ws fr)) (st a b c).2) : LoopN nb ws body K fr hp :=
  .inv (A × B × C) slots (fun g => st g.1 g.2.1 g.2.2) (fun g => pre g.1 g.2.1 g.2.2) (fun g => μ g.1 g.2.1 g.2.2) (a0, b0, c0) sl (fun g h => fit g.1 g.2.1 g.2.2 h) start (fun g h => round g.1 g.2.1 g.2.2 h)
/-- A loop that appends: a round ends with the block numbers chosen anew. -/
theorem LoopN.invr {nb : Nat} {ws : List Nat} {body : (Ex → Fr → Hp → Prop) → Fr → Hp → Prop} {K : Ex → Fr → Hp → Prop} {fr : Fr} {hp : Hp} (G : Type) (slots : List Nat) (st : G → List V × Hp) (pre : G → Prop) (μ : G → Nat) (g0 : G)
    (sl : subN slots ws = true) (fit : ∀ g, pre g → fits hp (st g).2 (fsets slots (st g).1 (havoc ws fr)) = true)
    (start : pre g0 ∧ V.subL (fgets fr slots) (st g0).1 ∧ subH hp (st g0).2)
    (round : ∀ g, pre g → body (fun e fr' hp' => match e with
      | .norm => ∃ g', pre g' ∧ μ g' < μ g ∧ ∃ ids : List Nat, (!dup ids && preOk 0 nb ids) = true ∧ renL ids (havoc ws fr) = havoc ws fr ∧ gate (anyOk (havoc ws fr) fr') (V.subL (renL ids (fgets fr' slots)) (st g').1) ∧ subH (selH hp' ids ids) (st g').2
      | e => K e fr' hp') (fsets slots (st g).1 (havoc ws fr)) (st g).2) : LoopN nb ws body K fr hp := .now (.invr G slots st pre μ g0 sl fit start round)
theorem LoopN.invr2 {nb : Nat} {ws : List Nat} {body : (Ex → Fr → Hp → Prop) → Fr → Hp → Prop} {K : Ex → Fr → Hp → Prop} {fr : Fr} {hp : Hp} (A B : Type) (slots : List Nat) (st : A → B → List V × Hp) (pre : A → B → Prop) (μ : A → B → Nat) (a0 : A) (b0 : B)
    (sl : subN slots ws = true) (fit : ∀ a b, pre a b → fits hp (st a b).2 (fsets slots (st a b).1 (havoc ws fr)) = true)
    (start : pre a0 b0 ∧ V.subL (fgets fr slots) (st a0 b0).1 ∧ subH hp (st a0 b0).2)
    (round : ∀ a b, pre a b → body (fun e fr' hp' => match e with
      | .norm => ∃ g : A × B, pre g.1 g.2 ∧ μ g.1 g.2 < μ a b ∧ ∃ ids : List Nat, (!dup ids && preOk 0 nb ids) = true ∧ renL ids (havoc ws fr) = havoc ws fr ∧ gate (anyOk (havoc ws fr) fr') (V.subL (renL ids (fgets fr' slots)) (st g.1 g.2).1) ∧ subH (selH hp' ids ids) (st g.1 g.2).2
      | e => K e fr' hp') (fsets slots (st a b).1 (havoc ws fr)) (st a b).2) : LoopN nb ws body K fr hp :=
  .invr (A × B) slots (fun g => st g.1 g.2) (fun g => pre g.1 g.2) (fun g => μ g.1 g.2) (a0, b0) sl (fun g h => fit g.1 g.2 h) start (fun g h => round g.1 g.2 h)
theorem subL_length {xs : List Int} {i n : Int} (hi : 0 ≤ i) (hn : 0 ≤ n) (h : i + n ≤ xs.length) : ((subL xs i n).length : Int) = n := by
  simp only [subL, List.length_take, List.length_drop]; omega
theorem subL_getD {xs : List Int} {i n : Int} {k : Nat} (hi : 0 ≤ i) (hk : (k : Int) < n) : (subL xs i n).getD k 0 = xs.getD (i.toNat + k) 0 := by
  simp only [subL, List.getD_eq_getElem?_getD, List.getElem?_take, List.getElem?_drop]
  rw [if_pos (by omega)]
theorem subL_sub {xs : List Int} {i n j m : Int} (hi : 0 ≤ i) (hj : 0 ≤ j) (hm : 0 ≤ m) (h : j + m ≤ n) : subL (subL xs i n) j m = subL xs (i + j) m := by
  simp only [subL]
  rw [List.drop_take, List.drop_drop, List.take_take]
  congr 1
  · omega
  · congr 1; omega
theorem subL_cat {xs : List Int} {i n m : Int} (hi : 0 ≤ i) (hn : 0 ≤ n) (hm : 0 ≤ m) : subL xs i n ++ subL xs (i + n) m = subL xs i (n + m) := by
  simp only [subL]
  rw [show (n + m).toNat = n.toNat + m.toNat by omega, List.take_add, List.drop_drop, show i.toNat + n.toNat = (i + n).toNat by omega]
theorem Bytes.sub {xs : List Int} (h : Bytes xs) (i n : Int) : Bytes (subL xs i n) := fun x hx => h x (List.mem_of_mem_drop (List.mem_of_mem_take hx))
theorem splL_length {xs ys : List Int} {o : Int} (ho : 0 ≤ o) (h : o + ys.length ≤ xs.length) : (splL xs o ys).length = xs.length := by
  simp only [splL, List.length_append, List.length_take, List.length_drop]; omega
theorem splL_getD {xs ys : List Int} {o : Int} (ho : 0 ≤ o) (h : o + ys.length ≤ xs.length) (j : Nat) : (splL xs o ys).getD j 0 = if (j : Int) < o then xs.getD j 0 else if (j : Int) < o + ys.length then ys.getD (j - o.toNat) 0 else xs.getD j 0 := by
  simp only [splL, List.getD_eq_getElem?_getD]
  by_cases h1 : (j : Int) < o
  · rw [if_pos h1, List.append_assoc, List.getElem?_append_left (by rw [List.length_take]; omega), List.getElem?_take, if_pos (by omega)]
  · rw [if_neg h1]
    by_cases h2 : (j : Int) < o + ys.length
    · rw [if_pos h2, List.getElem?_append_left (by rw [List.length_append, List.length_take]; omega), List.getElem?_append_right (by rw [List.length_take]; omega), List.length_take, Nat.min_eq_left (by omega)]
    · rw [if_neg h2, List.getElem?_append_right (by rw [List.length_append, List.length_take]; omega), List.length_append, List.length_take, List.getElem?_drop]
      congr 2; omega
theorem getD_take {ys : List Int} {q j : Nat} (h : j < q) : (ys.take q).getD j 0 = ys.getD j 0 := by
  simp only [List.getD_eq_getElem?_getD, List.getElem?_take, if_pos h]
theorem getD_set {xs : List Int} {i j : Nat} {v : Int} (h : i < xs.length) : (xs.set i v).getD j 0 = if i = j then v else xs.getD j 0 := by
  simp only [List.getD_eq_getElem?_getD, List.getElem?_set]
  by_cases e : i = j
  · subst e; simp [h]
  · simp [e]
/-- A piece that is laid number by number. -/
theorem spl_next {xs ys : List Int} {o q : Int} (ho : 0 ≤ o) (hq : 0 ≤ q) (hl : q < ys.length) (h : o + ys.length ≤ xs.length) :
    (splL xs o (ys.take q.toNat)).set (o + q).toNat (ys.getD q.toNat 0) = splL xs o (ys.take (q + 1).toNat) := by
  have l1 : (ys.take q.toNat).length = q.toNat := by rw [List.length_take]; omega
  have l2 : (ys.take (q + 1).toNat).length = (q + 1).toNat := by rw [List.length_take]; omega
  have e1 := splL_length (xs := xs) (ys := ys.take q.toNat) ho (by omega)
  have e2 := splL_length (xs := xs) (ys := ys.take (q + 1).toNat) ho (by omega)
  refine list_eq_of_get (by rw [List.length_set, e1, e2]) fun j hj => ?_
  rw [List.length_set, e1] at hj
  rw [getD_set (by omega), splL_getD ho (by omega), splL_getD ho (by omega), l1, l2]
  by_cases h1 : (j : Int) < o
  · rw [if_neg (by omega), if_pos h1, if_pos h1]
  · rw [if_neg h1, if_neg h1]
    by_cases h2 : (j : Int) = o + q
    · rw [if_pos (by omega), if_pos (by omega), getD_take (by omega)]
      congr 1; omega
    · rw [if_neg (by omega)]
      by_cases h3 : (j : Int) < o + q
      · rw [if_pos (by omega), if_pos (by omega), getD_take (by omega), getD_take (by omega)]
      · rw [if_neg (by omega), if_neg (by omega)]
theorem colsSub_refl : ∀ cs : List Col, colsSub cs cs
  | [] => trivial
  | .ints k xs :: r => ⟨⟨rfl, rfl⟩, colsSub_refl r⟩
  | .strs xs :: r => ⟨rfl, colsSub_refl r⟩
  | .bools xs :: r => ⟨rfl, colsSub_refl r⟩
mutual
theorem vsub_refl : ∀ v : V, V.sub v v
  | .any => trivial
  | .undef => trivial
  | .bool t => rfl
  | .sbool b => rfl
  | .int k n => ⟨rfl, rfl⟩
  | .str s => rfl
  | .nilp => trivial
  | .ptr _ o => ⟨rfl, rfl, fun h => h⟩
  | .nilsl => trivial
  | .vec id n => ⟨rfl, rfl⟩
  | .sl id off n => ⟨rfl, rfl, rfl⟩
  | .agg l => vsubL_refl l
  | .cols sz cs => ⟨rfl, colsSub_refl cs⟩
  | .tup l => vsubL_refl l
  | .iface t v => ⟨rfl, vsub_refl v⟩
  | .nilif => trivial
  | .nilq p n => ⟨rfl, rfl⟩
  | .raw v => rfl
theorem vsubL_refl : ∀ l : List V, V.subL l l
  | [] => trivial
  | v :: r => ⟨vsub_refl v, vsubL_refl r⟩
end
theorem subH_refl : ∀ H : Hp, subH H H
  | [] => trivial
  | b :: H => by
    refine ⟨?_, subH_refl H⟩
    cases b with
    | unborn => trivial
    | dead => trivial
    | cells t cs => exact ⟨rfl, vsubL_refl cs⟩
    | cols md t cs => cases md <;> first | exact ⟨rfl, colsSub_refl cs⟩ | exact ⟨rfl, rfl, colsSub_refl cs⟩
    | slices k xss => exact ⟨rfl, rfl⟩
    | srow e k xss => exact ⟨rfl, rfl, rfl⟩
/-- A loop that leaves the blocks as they are. -/
theorem LoopN.same {nb : Nat} {ws : List Nat} {body : (Ex → Fr → Hp → Prop) → Fr → Hp → Prop} {K : Ex → Fr → Hp → Prop} {fr : Fr} {hp : Hp} (G : Type) (slots : List Nat) (st : G → List V) (pre : G → Prop) (μ : G → Nat) (g0 : G)
    (sl : subN slots ws = true) (fit : ∀ g, pre g → fits hp hp (fsets slots (st g) (havoc ws fr)) = true)
    (start : pre g0 ∧ V.subL (fgets fr slots) (st g0))
    (round : ∀ g, pre g → body (fun e fr' hp' => match e with
      | .norm => ∃ g', pre g' ∧ μ g' < μ g ∧ gate (anyOk (havoc ws fr) fr') (V.subL (fgets fr' slots) (st g')) ∧ subH hp' hp
      | e => K e fr' hp') (fsets slots (st g) (havoc ws fr)) hp) : LoopN nb ws body K fr hp :=
  .inv G slots (fun g => (st g, hp)) pre μ g0 sl fit ⟨start.1, start.2, subH_refl hp⟩ round
/-- A row that is laid anew, number by number, up to a place. -/
structure Upto (F : Nat → Int) (b : List Int) (i : Int) (ys : List Int) : Prop where
  len : ys.length = b.length
  at_ : ∀ k : Nat, k < b.length → ys.getD k 0 = if (k : Int) < i then F k else b.getD k 0
theorem Upto.zero (F : Nat → Int) (b : List Int) : Upto F b 0 b := ⟨rfl, fun k _ => by rw [if_neg (by omega)]⟩
theorem Upto.next {F : Nat → Int} {b : List Int} {i : Int} {ys : List Int} (h : Upto F b i ys) (h0 : 0 ≤ i) (h1 : i < b.length) : Upto F b (i + 1) (ys.set i.toNat (F i.toNat)) := by
  refine ⟨by rw [List.length_set]; exact h.len, fun k hk => ?_⟩
  rw [getD_set (by rw [h.len]; omega)]
  by_cases e : i.toNat = k
  · rw [if_pos e, if_pos (by omega), e]
  · rw [if_neg e, h.at_ k hk]
    by_cases e2 : (k : Int) < i
    · rw [if_pos e2, if_pos (by omega)]
    · rw [if_neg e2, if_neg (by omega)]
theorem Upto.here {F : Nat → Int} {b : List Int} {i : Int} {ys : List Int} (h : Upto F b i ys) (h0 : 0 ≤ i) (h1 : i < b.length) : ys.getD i.toNat 0 = b.getD i.toNat 0 := by
  rw [h.at_ _ (by omega), if_neg (by omega)]
theorem Upto.done {F : Nat → Int} {b : List Int} {i : Int} {ys : List Int} (h : Upto F b i ys) (h1 : (b.length : Int) ≤ i) : ys = (List.range b.length).map F := by
  refine list_eq_of_get (by rw [h.len]; simp) fun k hk => ?_
  rw [h.len] at hk
  rw [h.at_ k hk, if_pos (by omega)]
  simp [List.getD_eq_getElem?_getD, List.getElem?_map, List.getElem?_range hk]
end Sx
set_option linter.unusedVariables false
set_option linter.unusedSimpArgs false
namespace Sx
open Go Go.RowKit
section
variable {P : Program}

/-- What is there stays, whatever comes behind it. -/
theorem Good.stays {own : Own} {r : Rho} {hp : Hp} {w w' : World} (h : Good P own r hp w) (hw : ∀ k, k < w.heap.size → w'.heap[k]? = w.heap[k]?) (hsz : w.heap.size ≤ w'.heap.size) : Good P own r hp w' := by
  have hc : ∀ i x, (hget hp i).live = true → r i = some x → ∀ g, (hget hp i).uses w x g → w'.heap[g]? = w.heap[g]? := fun i x hl hx g hg => hw g (h.below i x g hl hx hg)
  refine ⟨h.born, fun i hi => ?_, h.own, fun i j x y b g hij hm hl hx hy hb hu => ?_, fun i x g hl hx hu => ?_, fun i x g hl hx hu => ?_⟩
  · obtain ⟨x, h1, h2⟩ := h.rel i hi
    refine ⟨x, h1, ?_⟩
    by_cases hl : (hget hp i).live = true
    · exact h2.world (hc i x hl h1)
    · cases hq : hget hp i with
      | unborn => exact absurd hq hi
      | dead => trivial
      | _ => simp [hq, Blk.live] at hl
  · exact h.apart i j x y b g hij hm hl hx hy hb ((uses_congr (hc j y hl hy) g).1 hu)
  · exact Nat.lt_of_lt_of_le (h.below i x g hl hx ((uses_congr (hc i x hl hx) g).1 hu)) hsz
  · exact h.seen i x g hl hx ((uses_congr (hc i x hl hx) g).1 hu)
/-- A contract out of the kit's own word: nothing that was there is written. -/
theorem Ctr.of_below {f : FuncId} {E : Hp} {args : List V} {v : V} (he : Entered P f)
    (h : ∀ (w : World) (r : Rho) (vals : List Value), Good P (ownOf r E w) r E w → Glob P (ownOf r E w) w → VRelL r args vals → Calls P f vals.toArray w fun e w' => ∃ x, e = .returned x ∧ VRel r v x ∧ Below w.heap.size w w') :
    Ctr P f E args fun u H => u = v ∧ H = E :=
  ⟨he, fun w0 r0 vals hg hgl hv => (h w0 r0 vals hg hgl hv).mono fun e w ⟨x, h1, h2, h3⟩ => ⟨x, v, E, r0, h1, h2, ⟨rfl, rfl⟩, Rho.le_refl r0, hg.stays h3.block h3.size, ⟨h3.os, h3.tape, h3.output, h3.size, fun k hk _ => h3.block k hk⟩⟩⟩
/-- Arguments that are written out. -/
theorem vrelL_one {r : Rho} {v : V} {vals : List Value} (h : VRelL r [v] vals) : ∃ x, vals = [x] ∧ VRel r v x := by
  cases vals with
  | nil => simp [VRelL] at h
  | cons x l =>
    cases l with
    | nil => simp only [VRelL] at h; exact ⟨x, rfl, h.1⟩
    | cons => simp [VRelL] at h
/-- The laid variable's cell. -/
theorem globErr {ow : Own} {w : World} {g rt et : Nat} (h : Glob P ow w) (h1 : P.globalNamed "errors.errorType" = some g) (h2 : (P.cutTypes.find? (·.1 == "internal/reflectlite.rtype")).map (·.2) = some rt)
    (h3 : (List.range P.types.size).find? (fun t => P.rowNamed t [101, 114, 114, 111, 114]) = some et) : w.cell? ⟨g, 0, none⟩ = some (.iface rt (.agg #[typeHandle P et])) :=
  (h g 0 _ (by simp [globCell, h1, h2, h3])).1
/-- A nil slice is an empty row of one's own. -/
theorem Ctr.nil_row {f : FuncId} {E : Hp} {args : List V} {R R' : V → Hp → Prop} (h : Ctr P f E args R)
    (hR : ∀ v H, R v H → R' v H ∨ (v = .nilsl ∧ E.length ≤ H.length ∧ ∃ e k, R' (.vec (llen H) (.lit 0)) (H ++ [.cols (.row 1) e [.ints k (.lits [])]]))) : Ctr P f E args R' := by
  refine ⟨h.enter, fun w0 r0 vals hg hgl hv => (h.spec w0 r0 vals hg hgl hv).mono ?_⟩
  rintro e w ⟨v, x, H, r, h1, h2, h3, h4, h5, h6⟩
  rcases hR x H h3 with h | ⟨rfl, hle, e', k, h⟩
  · exact ⟨v, x, H, r, h1, h2, h, h4, h5, h6⟩
  · have hn : hget H H.length = .unborn := hget_ge _ _ (Nat.le_refl _)
    obtain ⟨p1, p2⟩ := Good.push (w' := w) h5 (n := H.length) (x := ⟨none, 0⟩) (b := .cols (.row 1) e' [.ints k (.lits [])]) hn rfl (fun _ _ => rfl) (Nat.le_refl _)
      ⟨[], 0, 0, ⟨rfl, by intro c hc; simp only [List.mem_singleton] at hc; subst hc; rfl, fun i j c hi _ => by omega⟩, by simp, by omega, rfl, ⟨rfl, .inl ⟨rfl, rfl⟩⟩⟩ (fun g hg' => .inl (Nat.le_trans h6.size hg')) (fun g hu => by obtain ⟨b, hb, _⟩ := hu; cases hb) (fun a ha => by cases ha)
    refine ⟨v, _, _, _, h1, ?_, h, Rho.le_trans h4 p1, p2.congr (fun i => ?_), h6⟩
    · simp only [VRel] at h2 ⊢
      subst h2
      exact ⟨⟨none, 0⟩, 0, by simp [llen_eq], rfl, Nat.le_refl _, by omega, rfl⟩
    · rw [hget_hsetX, hget_eq, List.getD_eq_getElem?_getD]
      by_cases hi : H.length = i
      · subst hi; simp
      · rw [if_neg hi, hget_eq, List.getD_eq_getElem?_getD]
        rcases Nat.lt_or_ge i H.length with h | h
        · rw [List.getElem?_append_left h]
        · rw [List.getElem?_append_right h, List.getElem?_eq_none h]
          cases hq : i - H.length with
          | zero => omega
          | succ q => rfl
end
end Sx
set_option linter.unusedVariables false
set_option linter.unusedSimpArgs false
namespace Sx
open Go Go.ChangeShapes Go.WideShapes Go.RowKit
section
variable {P : Program} {w : World}
/-- A slice of numbers in a row that came in. -/
def SlRow (w : World) (k : IntKind) (r : List Value) (xs : List Int) : Prop :=
  ∃ A n c, r = [.slice A n c] ∧ n ≤ c ∧ xs.length = n ∧ n ≤ maxLen ∧ (0 < n → ∃ d, A = some d ∧ d.block < w.heap.size) ∧
    (∀ d i y, A = some d → xs[i]? = some y → w.cell? (d.add i) = some (.int k y)) ∧ ∀ y ∈ xs, (Lit.int k y).wf = true
theorem slRow_of {k : IntKind} {e' : TypeId} {r : List Value} (h : CellsOk w [.sl e' [.int k]] r) : ∃ xs, SlRow w k r xs := by
  cases r with
  | nil => simp [CellsOk] at h
  | cons v r =>
    simp only [CellsOk] at h
    obtain ⟨h, h0⟩ := h
    have hr : r = [] := by cases r with
      | nil => rfl
      | cons => simp [CellsOk] at h0
    subst hr
    obtain ⟨A, len, cap, rows, rfl, h1, h2, h3, h4, h5, h6⟩ := h
    refine ⟨colInts rows 0, A, len, cap, rfl, h1, by simp [colInts, h3], by omega, h4, fun d i y hd hy => ?_, colInts_wf h5 rfl⟩
    have hi : i < len := by
      have := (List.getElem?_eq_some_iff.1 hy).1
      simpa [colInts, h3] using this
    have hc := h6 d hd i 0 hi (by simp)
    have e : d.add (i * [CK.int k].length + 0) = d.add i := by simp
    rw [e] at hc
    have hri : rows[i]? = some rows[i] := List.getElem?_eq_getElem (by omega)
    obtain ⟨v, k2, n, rfl, k3⟩ := (h5 _ (List.getElem_mem (show i < rows.length by omega))).get (j := 0) (k := .int k) rfl
    rw [hc, List.getD_eq_getElem?_getD, hri]
    show (rows[i])[0]? = _
    rw [k2]
    have : y = n := by
      simp only [colInts, List.getElem?_map, hri, Option.map_some, Option.some.injEq] at hy
      rw [← hy, List.getD_eq_getElem?_getD, k2]; rfl
    rw [this]
theorem slRows_of {k : IntKind} : ∀ {rows : List (List Value)}, (∀ r ∈ rows, ∃ xs, SlRow w k r xs) → ∃ xss : List (List Int), xss.length = rows.length ∧ ∀ i r, rows[i]? = some r → SlRow w k r (xss.getD i [])
  | [], _ => ⟨[], rfl, fun i r h => by simp at h⟩
  | r :: rows, h => by
    obtain ⟨xs, h1⟩ := h r (by simp)
    obtain ⟨xss, h2, h3⟩ := slRows_of (rows := rows) fun r hr => h r (by simp [hr])
    refine ⟨xs :: xss, by simp [h2], fun i r' hi => ?_⟩
    cases i with
    | zero => simp at hi; subst hi; exact h1
    | succ i => simpa using h3 i r' (by simpa using hi)
/-- A slice of slices of numbers that came in. -/
theorem slices_in (P : Program) {e e' : TypeId} {k : IntKind} {v : Value} (h : CellOk w (.sl e [.sl e' [.int k]]) v) :
    ∃ (x : RA) (xss : List (List Int)), (∀ (r : Rho) (j : Nat), r j = some x → VRel r (.sl j (.lit 0) (.sym (xss.length : Int))) v) ∧ RoIn P w x (.slices k xss) ∧ (∀ i, ∀ y ∈ xss.getD i [], (Lit.int k y).wf = true) ∧ xss.length ≤ maxLen ∧ ∀ i, (xss.getD i []).length ≤ maxLen := by
  obtain ⟨A, len, cap, rows, rfl, h1, h2, h3, h4, h5, h6⟩ := h
  obtain ⟨xss, hx, hrow⟩ := slRows_of (w := w) (k := k) fun r hr => slRow_of (h5 r hr)
  have hin : ∀ i, i < len → ∃ A' n c, rows[i]? = some [.slice A' n c] ∧ n ≤ c ∧ (xss.getD i []).length = n ∧ n ≤ maxLen ∧ (0 < n → ∃ d, A' = some d ∧ d.block < w.heap.size) ∧
      (∀ d j y, A' = some d → (xss.getD i [])[j]? = some y → w.cell? (d.add j) = some (.int k y)) ∧ ∀ y ∈ xss.getD i [], (Lit.int k y).wf = true := fun i hi => by
    have e : rows[i]? = some rows[i] := List.getElem?_eq_getElem (by omega)
    obtain ⟨A', n, c, q1, q2⟩ := hrow i _ e
    exact ⟨A', n, c, by rw [e, q1], q2⟩
  have hcell : ∀ a i, A = some a → i < len → w.cell? (a.add i) = (rows.getD i [])[0]? := fun a i ha hi => by
    have := h6 a ha i 0 hi (by simp)
    simpa using this
  refine ⟨⟨if len = 0 then none else A, cap⟩, xss, fun r j hr => ?_, ⟨rfl, rfl, fun r => ?_, fun g hu => ?_⟩, fun i y hy => ?_, by omega, fun i => ?_⟩
  · simp only [VRel]
    refine ⟨_, len, cap, A, hr, by simp [h3, hx], h1, by simp, rfl, fun h0 => ?_⟩
    obtain ⟨a, rfl, _⟩ := h4 h0
    exact ⟨a, by simp [show len ≠ 0 by omega], by simp [Addr.add]⟩
  · simp only [BRel]
    refine ⟨rows.map fun r => r.getD 0 undef, by simp [hx], fun hne' => ?_, fun b q v hb hq => ?_⟩
    · have hr0 : 0 < rows.length := by
        cases rows with
        | nil => simp at hne'
        | cons => simp
      obtain ⟨a, rfl, _⟩ := h4 (by omega)
      exact ⟨a, by simp [show len ≠ 0 by omega]⟩
    · by_cases h0 : len = 0
      · simp [h0] at hb
      · simp only [h0, if_false] at hb
        have hq' := (List.getElem?_eq_some_iff.1 hq).1
        rw [List.length_map, h3] at hq'
        obtain ⟨A', n, c, q1, q2, q3, q4, q5, q6, q7⟩ := hin q hq'
        have hv : v = .slice A' n c := by
          simp only [List.getElem?_map, q1, Option.map_some, Option.some.injEq] at hq
          rw [← hq]; rfl
        refine ⟨?_, A', n, c, hv, q2, q3, fun hn => (q5 hn).imp fun d h => h.1, q6⟩
        rw [hcell b q hb hq', List.getD_eq_getElem?_getD, q1, hv]; rfl
  · simp only [Blk.uses] at hu
    rcases hu with ⟨b, hb, rfl⟩ | ⟨b, q, A', n, c, hb, hq, hn, hc, rfl⟩
    · by_cases h0 : len = 0
      · simp [h0] at hb
      · simp only [h0, if_false] at hb
        obtain ⟨a, ha, hlt⟩ := h4 (by omega)
        rw [ha] at hb; cases hb
        exact hlt
    · by_cases h0 : len = 0
      · simp [h0] at hb
      · simp only [h0, if_false] at hb
        rw [hx, h3] at hq
        obtain ⟨A2, n2, c2, q1, q2, q3, q4, q5, q6, q7⟩ := hin q hq
        have e := hcell b q hb hq
        rw [hc, List.getD_eq_getElem?_getD, q1] at e
        have e2 : (Value.slice (some A') n c) = .slice A2 n2 c2 := by simpa using e
        injection e2 with f1 f2 f3
        obtain ⟨d, hd, hlt⟩ := q5 (by omega)
        rw [hd] at f1; cases f1
        exact hlt
  · by_cases hi : i < len
    · obtain ⟨A2, n2, c2, q1, q2, q3, q4, q5, q6, q7⟩ := hin i hi
      exact q7 y hy
    · rw [List.getD_eq_getElem?_getD, List.getElem?_eq_none (by omega)] at hy; cases hy
  · by_cases hi : i < len
    · obtain ⟨A2, n2, c2, q1, q2, q3, q4, q5, q6, q7⟩ := hin i hi
      omega
    · rw [List.getD_eq_getElem?_getD, List.getElem?_eq_none (by omega)]; simp
theorem bytes_wf {l : List Int} (h : ∀ y ∈ l, (Lit.int .u8 y).wf = true) : Bytes l := by
  intro x hx
  have := h x hx
  simp [Lit.wf, IntKind.min, IntKind.max, IntKind.signed, IntKind.bits] at this
  omega
end
end Sx
set_option linter.unusedVariables false
set_option linter.unusedSimpArgs false
namespace Sx
open Go Go.ChangeShapes Go.WideShapes Go.RowKit
section
variable {P : Program} {w : World}
theorem VRelL.app {r : Rho} : ∀ {a b : List V} {c d : List Value}, VRelL r a c → VRelL r b d → VRelL r (a ++ b) (c ++ d)
  | [], b, [], d, _, h => h
  | x :: a, b, y :: c, d, h, k => by
    simp only [VRelL, List.cons_append] at h ⊢
    exact ⟨h.1, VRelL.app h.2 k⟩
  | [], _, _ :: _, _, h, _ => by simp [VRelL] at h
  | _ :: _, _, [], _, h, _ => by simp [VRelL] at h
theorem cellsV_pre {r : Rho} : ∀ {ks : List CK} {cs ds : List Value} {j : Nat}, CellsOk w ks ds → (∀ i, i < ds.length → ds[i]? = cs[j + i]?) → VRelL r (cellsV cs j ks) ds
  | [], cs, [], j, _, _ => by simp [cellsV, VRelL]
  | k :: ks, cs, v :: vs, j, h, hd => by
    simp only [CellsOk] at h
    have h0 := hd 0 (by simp)
    simp only [List.getElem?_cons_zero, Nat.add_zero] at h0
    have hv : cs.getD j undef = v := by rw [List.getD_eq_getElem?_getD, ← h0]; rfl
    have ih := cellsV_pre (r := r) (j := j + 1) (cs := cs) h.2 (fun i hi => by have := hd (i + 1) (by simpa using hi); simpa [Nat.add_assoc, Nat.add_comm 1 i] using this)
    have h1 := h.1
    cases k with
    | int k => obtain ⟨n, rfl, _⟩ := h1; simp only [cellsV, VRelL, hv]; exact ⟨by simp [VRel, vInt], ih⟩
    | str => obtain ⟨n, rfl, _⟩ := h1; simp only [cellsV, VRelL, hv]; exact ⟨by simp [VRel, vStr], ih⟩
    | bool => obtain ⟨n, rfl⟩ := h1; simp only [cellsV, VRelL, hv]; exact ⟨by simp [VRel, vBool], ih⟩
    | sl e ks' => simp only [cellsV, VRelL]; exact ⟨by simp [VRel], ih⟩
  | [], _, _ :: _, _, h, _ => by simp [CellsOk] at h
  | _ :: _, _, [], _, h, _ => by simp [CellsOk] at h
theorem cellsOk_split : ∀ {a b : List CK} {vs : List Value}, CellsOk w (a ++ b) vs → CellsOk w a (vs.take a.length) ∧ CellsOk w b (vs.drop a.length)
  | [], b, vs, h => by simpa [CellsOk] using h
  | k :: a, b, [], h => by simp [CellsOk] at h
  | k :: a, b, v :: vs, h => by
    simp only [List.cons_append, CellsOk] at h
    have := cellsOk_split h.2
    simpa [CellsOk] using ⟨⟨h.1, this.1⟩, this.2⟩
/-- A struct that came in, whose last field is a slice of plain elements. -/
theorem agg_tail_in (P : Program) {ks es : List CK} {e : TypeId} {cs : List Value} (h : CellsOk w (ks ++ [.sl e es]) cs) (hf : es.all CK.flat = true) (hne : es ≠ []) :
    ∃ (x : RA) (rows : List (List Value)), (∀ (r : Rho) (j : Nat), r j = some x → VRel r (.agg (cellsV cs 0 ks ++ [.sl j (.lit 0) (.sym (rows.length : Int))])) (.agg cs.toArray)) ∧ RoIn P w x (.cols .ro e (colsFrom rows 0 es)) ∧ (∀ r ∈ rows, CellsOk w es r) ∧ rows.length ≤ maxLen := by
  obtain ⟨h1, h2⟩ := cellsOk_split h
  obtain ⟨v, hv⟩ : ∃ v, cs.drop ks.length = [v] := by
    have := h2.len
    cases hq : cs.drop ks.length with
    | nil => rw [hq] at this; simp at this
    | cons v l =>
      rw [hq] at this
      have : l = [] := List.eq_nil_of_length_eq_zero (by simpa using this)
      exact ⟨v, by rw [this]⟩
  rw [hv] at h2
  simp only [CellsOk, and_true] at h2
  obtain ⟨x, rows, q1, q2, q3, q4⟩ := slice_in P h2 hf hne
  refine ⟨x, rows, fun r j hr => ?_, q2, q3, q4⟩
  simp only [VRel]
  refine ⟨_, rfl, ?_, oneCells_in h⟩
  have e : cs = cs.take ks.length ++ [v] := by rw [← hv, List.take_append_drop]
  show VRelL r _ cs
  conv => rhs; rw [e]
  refine VRelL.app (cellsV_pre h1 fun i hi => ?_) ⟨q1 r j hr, trivial⟩
  rw [List.length_take] at hi
  rw [List.getElem?_take, if_pos (by omega), Nat.zero_add]
end
end Sx
set_option linter.unusedVariables false
namespace Sx
open Go
/-! What comes back under names of its own, of which only some property is told. -/
structure GenP1 {α : Type} (Q : α → Prop) (k : α → Prop) : Prop where
  h : ∀ a, Q a → k a
structure GenP2 {α β : Type} (Q : α → β → Prop) (k : α → β → Prop) : Prop where
  h : ∀ a b, Q a b → k a b
structure GenP3 {α β γ : Type} (Q : α → β → γ → Prop) (k : α → β → γ → Prop) : Prop where
  h : ∀ a b c, Q a b c → k a b c
structure GenP4 {α β γ δ : Type} (Q : α → β → γ → δ → Prop) (k : α → β → γ → δ → Prop) : Prop where
  h : ∀ a b c d, Q a b c d → k a b c d
section
variable {P : Program} {f : FuncId} {E0 : Hp} {args : List V} {K : V → Hp → Prop}
theorem CallDet.exR1 {α : Type} {Q : α → Prop} {X : α → V} {Y : α → Hp} (k : GenP1 Q fun a => K (X a) (Y a)) (spec : ∃ a, Q a ∧ Ctr P f E0 args fun v H => v = X a ∧ H = Y a) : CallDet P f E0 args K := by
  obtain ⟨a, hq, s⟩ := spec; exact .mk _ _ s (k.h a hq)
theorem CallDet.exR2 {α β : Type} {Q : α → β → Prop} {X : α → β → V} {Y : α → β → Hp} (k : GenP2 Q fun a b => K (X a b) (Y a b)) (spec : ∃ a b, Q a b ∧ Ctr P f E0 args fun v H => v = X a b ∧ H = Y a b) : CallDet P f E0 args K := by
  obtain ⟨a, b, hq, s⟩ := spec; exact .mk _ _ s (k.h a b hq)
theorem CallDet.exR3 {α β γ : Type} {Q : α → β → γ → Prop} {X : α → β → γ → V} {Y : α → β → γ → Hp} (k : GenP3 Q fun a b c => K (X a b c) (Y a b c)) (spec : ∃ a b c, Q a b c ∧ Ctr P f E0 args fun v H => v = X a b c ∧ H = Y a b c) : CallDet P f E0 args K := by
  obtain ⟨a, b, c, hq, s⟩ := spec; exact .mk _ _ s (k.h a b c hq)
theorem CallDet.exR4 {α β γ δ : Type} {Q : α → β → γ → δ → Prop} {X : α → β → γ → δ → V} {Y : α → β → γ → δ → Hp} (k : GenP4 Q fun a b c d => K (X a b c d) (Y a b c d)) (spec : ∃ a b c d, Q a b c d ∧ Ctr P f E0 args fun v H => v = X a b c d ∧ H = Y a b c d) : CallDet P f E0 args K := by
  obtain ⟨a, b, c, d, hq, s⟩ := spec; exact .mk _ _ s (k.h a b c d hq)
theorem CallVC.exR1 {α : Type} {Q : α → Prop} {X : α → V} {Y : α → Hp} (k : GenP1 Q fun a => K (X a) (Y a)) (spec : ∃ a, Q a ∧ Ctr P f E0 args fun v H => v = X a ∧ H = Y a) : CallVC P f E0 args K := by
  obtain ⟨a, hq, s⟩ := spec; exact CallVC.mkR ⟨k.h a hq⟩ s
theorem CallVC.exR2 {α β : Type} {Q : α → β → Prop} {X : α → β → V} {Y : α → β → Hp} (k : GenP2 Q fun a b => K (X a b) (Y a b)) (spec : ∃ a b, Q a b ∧ Ctr P f E0 args fun v H => v = X a b ∧ H = Y a b) : CallVC P f E0 args K := by
  obtain ⟨a, b, hq, s⟩ := spec; exact CallVC.mkR ⟨k.h a b hq⟩ s
theorem CallVC.exR3 {α β γ : Type} {Q : α → β → γ → Prop} {X : α → β → γ → V} {Y : α → β → γ → Hp} (k : GenP3 Q fun a b c => K (X a b c) (Y a b c)) (spec : ∃ a b c, Q a b c ∧ Ctr P f E0 args fun v H => v = X a b c ∧ H = Y a b c) : CallVC P f E0 args K := by
  obtain ⟨a, b, c, hq, s⟩ := spec; exact CallVC.mkR ⟨k.h a b c hq⟩ s
theorem CallVC.exR4 {α β γ δ : Type} {Q : α → β → γ → δ → Prop} {X : α → β → γ → δ → V} {Y : α → β → γ → δ → Hp} (k : GenP4 Q fun a b c d => K (X a b c d) (Y a b c d)) (spec : ∃ a b c d, Q a b c d ∧ Ctr P f E0 args fun v H => v = X a b c d ∧ H = Y a b c d) : CallVC P f E0 args K := by
  obtain ⟨a, b, c, d, hq, s⟩ := spec; exact CallVC.mkR ⟨k.h a b c d hq⟩ s
end
end Sx
