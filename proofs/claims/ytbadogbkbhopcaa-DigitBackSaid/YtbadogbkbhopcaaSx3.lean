import Derived.Test.YtbadogbkbhopcaaSx2
import Derived.ChangeKeysEq
import Derived.Below
import Derived.ChangeOld
import Derived.OpenShut
import Derived.WideShapes
import Derived.ProofKit
import Derived.Laws.BitsAllLaws
import Derived.Laws.BitsLemmas
set_option linter.all false
set_option linter.unusedSectionVars false
set_option linter.unusedVariables false
set_option linter.unusedSimpArgs false
set_option linter.unnecessarySimpa false
namespace Sx
open Go
def Ex.to : Ex → Exit
  | .norm => .normal
  | .exit id => .exit id
  | .ret => .ret
section
variable {P : Program} {T : Tab} {nb : Nat} {own : Own} {r rb : Rho} {fr : Fr} {hp : Hp} {a : Act} {w w0 : World}

theorem havoc_len : ∀ (ws : List Nat) (fr : Fr), (havoc ws fr).length = fr.length
  | [], fr => rfl
  | i :: ws, fr => by simp [havoc, havoc_len ws, fset_length]
theorem fsets_len : ∀ (sl : List Nat) (vs : List V) (fr : Fr), (fsets sl vs fr).length = fr.length
  | [], vs, fr => by simp [fsets]
  | i :: sl, [], fr => by simp [fsets]
  | i :: sl, v :: vs, fr => by simp [fsets, fsets_len sl vs, fset_length]
theorem havoc_rel {x : Nat → Value} : ∀ (ws : List Nat) (fr : Fr), (∀ t, fr.length ≤ t → x t = undef) → (∀ t, t ∉ ws → VRel r (fget fr t) (x t)) → ∀ t, VRel r (fget (havoc ws fr) t) (x t)
  | [], fr, _, h, t => h t (by simp)
  | i :: ws, fr, hu, h, t => by
    simp only [havoc]
    refine havoc_rel ws (fset fr i .any) (fun t ht => hu t (by simpa [fset_length] using ht)) (fun t ht => ?_) t
    by_cases e : i = t
    · subst e
      by_cases hl : i < fr.length
      · rw [fget_fset_eq _ _ _ hl]; simp [VRel]
      · rw [fget_ge _ _ (by rw [fset_length]; omega), hu i (by omega)]; simp [VRel]
    · rw [fget_fset_ne _ _ _ _ e]; exact h t (by simp [Ne.symm e, ht])
theorem fsets_rel {x : Nat → Value} {fr' : Fr} (hr : ∀ t, VRel r (fget fr' t) (x t)) : ∀ (sl : List Nat) (vs : List V) (fr : Fr), (∀ t, VRel r (fget fr t) (x t)) → V.subL (fgets fr' sl) vs → ∀ t, VRel r (fget (fsets sl vs fr) t) (x t)
  | [], vs, fr, h, _, t => by simpa [fsets] using h t
  | i :: sl, [], fr, h, _, t => by simpa [fsets] using h t
  | i :: sl, v :: vs, fr, h, hs, t => by
    simp only [fgets, V.subL] at hs
    simp only [fsets]
    refine fsets_rel hr sl vs (fset fr i v) (fun t => ?_) hs.2 t
    by_cases e : i = t
    · subst e
      by_cases hl : i < fr.length
      · rw [fget_fset_eq _ _ _ hl]; exact sub_rel hs.1 (hr i)
      · have := h i
        rw [fget_ge _ _ (by omega)] at this
        rw [fget_ge _ _ (by rw [fset_length]; omega)]; exact this
    · rw [fget_fset_ne _ _ _ _ e]; exact h t
theorem havoc_keep : ∀ (ws : List Nat) (fr : Fr) (t : Nat), t ∉ ws → fget (havoc ws fr) t = fget fr t
  | [], fr, t, _ => rfl
  | i :: ws, fr, t, h => by
    simp only [havoc]
    rw [havoc_keep ws _ t (fun q => h (by simp [q])), fget_fset_ne _ _ _ _ (fun e => h (by simp [e]))]
theorem havoc_any : ∀ (ws : List Nat) (fr : Fr) (t : Nat), t ∈ ws → t < fr.length → fget (havoc ws fr) t = .any
  | [], fr, t, h, _ => by simp at h
  | i :: ws, fr, t, h, hl => by
    simp only [havoc]
    by_cases hq : t ∈ ws
    · exact havoc_any ws _ t hq (by rw [fset_length]; exact hl)
    · have e : t = i := by simpa [hq] using h
      subst e
      rw [havoc_keep ws _ t hq, fget_fset_eq _ _ _ hl]
theorem fsets_keep : ∀ (sl : List Nat) (vs : List V) (fr : Fr) (t : Nat), t ∉ sl → fget (fsets sl vs fr) t = fget fr t
  | [], vs, fr, t, _ => by simp [fsets]
  | i :: sl, [], fr, t, _ => by simp [fsets]
  | i :: sl, v :: vs, fr, t, h => by
    simp only [fsets]
    rw [fsets_keep sl vs _ t (fun q => h (by simp [q])), fget_fset_ne _ _ _ _ (fun e => h (by simp [e]))]
theorem gate_iff {b : Bool} {p : Prop} : gate b p ↔ b = true ∧ p := by cases b <;> simp [gate]
theorem anyOk_get : ∀ {F fr' : Fr}, anyOk F fr' = true → F.length = fr'.length → ∀ t, fget fr' t = .any → t < fr'.length → fget F t = .any
  | [], [], _, _, t, _, h => by simp at h
  | [], _ :: _, _, hl, _, _, _ => by simp at hl
  | _ :: _, [], _, hl, _, _, _ => by simp at hl
  | v :: F, u :: fr', h, hl, 0, hu, _ => by
    simp only [fget] at hu ⊢
    subst hu
    cases v <;> simp [anyOk] at h <;> rfl
  | v :: F, u :: fr', h, hl, t + 1, hu, ht => by
    simp only [fget] at hu ⊢
    have h2 : anyOk F fr' = true := by
      cases v <;> first | (simpa [anyOk] using h) | (cases u <;> first | (simpa [anyOk] using h) | (simp [anyOk] at h))
    exact anyOk_get h2 (by simpa using hl) t hu (by simpa using ht)
/-- Behind a round: the slots that aren't written are what they were. -/
theorem Same.exact {ws : List Nat} {fr fr' : Fr} (h : Same ws fr fr') (ha : anyOk (havoc ws fr) fr' = true) (t : Nat) (ht : t ∉ ws) : fget fr' t = fget fr t := by
  rcases h.keep t ht with e | e
  · exact e
  · rcases Nat.lt_or_ge t fr'.length with hl | hl
    · have := anyOk_get ha (by rw [havoc_len, h.len]) t e hl
      rw [havoc_keep _ _ _ ht] at this
      rw [e, this]
    · rw [fget_ge _ _ hl] at e; cases e
theorem rounds_mono {c : Code} {Q : Exit → Act → World → Prop} : ∀ (n m : Nat), n ≤ m → ∀ a w, Code.rounds P c Q n a w → Code.rounds P c Q m a w
  | 0, m, _, a, w, h => h.elim
  | n + 1, m, hm, a, w, h => by
    obtain ⟨m', rfl⟩ : ∃ m', m = m' + 1 := ⟨m - 1, by omega⟩
    rw [rounds_succ] at h ⊢
    refine wp_mono h (fun e a w hq => ?_)
    cases e <;> first | exact rounds_mono n m' (by omega) a w hq | exact hq

theorem Good.drew (h : Good P own r hp w) (n : Nat) : Good P own r hp { w with drawn := n } := by
  have hc : ∀ g : Nat, ({ w with drawn := n } : World).heap[g]? = w.heap[g]? := fun _ => rfl
  refine ⟨h.born, fun i hi => ?_, h.own, fun i j x y b g hij hm hl hx hy hb hu => ?_, fun i x g hl hx hu => ?_, fun i x g hl hx hu => ?_⟩
  · obtain ⟨x, h1, h2⟩ := h.rel i hi
    exact ⟨x, h1, h2.world (fun g _ => hc g)⟩
  · exact h.apart i j x y b g hij hm hl hx hy hb ((uses_congr (fun g _ => hc g) g).1 hu)
  · exact h.below i x g hl hx ((uses_congr (fun g _ => hc g) g).1 hu)
  · exact h.seen i x g hl hx ((uses_congr (fun g _ => hc g) g).1 hu)
theorem St.drew (h : St P own w0 rb r fr hp a w) (n : Nat) : St P own w0 rb r fr hp a { w with drawn := n } :=
  ⟨h.len, h.defers, h.rel, h.good.drew n, h.news, ⟨h.keep.os, h.keep.tape, h.keep.output, h.keep.size, h.keep.block⟩, h.base, h.glob⟩

section
variable {uI : FI → Int} {uB : FB → Bool} {uS : FS → ByteArray} {uL : FL → List Int} {uT : FT → List ByteArray} (hu : Std uI uB uS uL uT)
include hu

/-- One round of a loop, sound. -/
def Sound (uI : FI → Int) (uB : FB → Bool) (uS : FS → ByteArray) (uL : FL → List Int) (uT : FT → List ByteArray) (P : Program) (T : Tab) (nb : Nat) (own : Own) (w0 : World) (rb : Rho) (c : Code) : Prop :=
  ∀ (K : Ex → Fr → Hp → Prop) (Q : Exit → Act → World → Prop) (r : Rho) (fr : Fr) (hp : Hp) (a : Act) (w : World), St P own w0 rb r fr hp a w →
    (∀ e r' fr' hp' a' w', St P own w0 rb r' fr' hp' a' w' → Same (dsts c) fr fr' → K e fr' hp' → Q e.to a' w') → vc uI uB uS uL uT T P nb c K fr hp → c.wp P Q a w

omit hu in
theorem unroll_sound {c : Code} (hc : Sound uI uB uS uL uT P T nb own w0 rb c) {K : Ex → Fr → Hp → Prop} {Q : Exit → Act → World → Prop} :
    ∀ (n : Nat) (r : Rho) (fr : Fr) (hp : Hp) (a : Act) (w : World), St P own w0 rb r fr hp a w → (∀ e r' fr' hp' a' w', St P own w0 rb r' fr' hp' a' w' → Same (dsts c) fr fr' → K e fr' hp' → Q e.to a' w') →
      unrollN (vc uI uB uS uL uT T P nb c) K n fr hp → Code.rounds P c Q n a w
  | 0, r, fr, hp, a, w, _, _, h => h.elim
  | n + 1, r, fr, hp, a, w, hs, hK, h => by
    simp only [unrollN] at h
    rw [rounds_succ]
    refine hc _ _ r fr hp a w hs (fun e r' fr' hp' a' w' hs' hsame hk => ?_) h
    cases e with
    | norm =>
      exact unroll_sound hc n r' fr' hp' a' w' hs' (fun e r2 fr2 hp2 a2 w2 h1 h2 h3 => hK e r2 fr2 hp2 a2 w2 h1 ((hsame.trans h2).mono (by simp)) h3) hk
    | exit id => exact hK _ r' fr' hp' a' w' hs' hsame hk
    | ret => exact hK _ r' fr' hp' a' w' hs' hsame hk

omit hu in
theorem inv_sound {c : Code} (hc : Sound uI uB uS uL uT P T nb own w0 rb c) {K : Ex → Fr → Hp → Prop} {Q : Exit → Act → World → Prop} {G : Type} {slots : List Nat} {st : G → List V × Hp} {pre : G → Prop} {μ : G → Nat} {fr : Fr} {hp : Hp}
    (hb0 : ∀ i x, rb i = some x → i < hp.length) (sl : subN slots (dsts c) = true) (fit : ∀ g, pre g → fits hp (st g).2 (fsets slots (st g).1 (havoc (dsts c) fr)) = true)
    (round : ∀ g, pre g → vc uI uB uS uL uT T P nb c (fun e fr' hp' => match e with
      | .norm => ∃ g', pre g' ∧ μ g' < μ g ∧ gate (anyOk (havoc (dsts c) fr) fr') (V.subL (fgets fr' slots) (st g').1) ∧ subH hp' (st g').2
      | e => K e fr' hp') (fsets slots (st g).1 (havoc (dsts c) fr)) (st g).2)
    (hK : ∀ e r' fr' hp' a' w', St P own w0 rb r' fr' hp' a' w' → Same (dsts c) fr fr' → K e fr' hp' → Q e.to a' w') :
    ∀ (n : Nat) (g : G), μ g < n → pre g → ∀ (r : Rho) (fr' : Fr) (hp' : Hp) (a : Act) (w : World), St P own w0 rb r fr' hp' a w → fr'.length = fr.length → (∀ t, t ∉ dsts c → fget fr' t = fget fr t) → V.subL (fgets fr' slots) (st g).1 → subH hp' (st g).2 →
      Code.rounds P c Q n a w := by
  intro n
  induction n with
  | zero => intro g h; omega
  | succ n ih =>
    intro g hlt hpre r fr' hp' a w hs hlen hkeep hv hh
    rw [rounds_succ]
    obtain ⟨s, s1, s2, s3⟩ := good_sub hs.good hh (fit g hpre) hs.base hb0
    have hF : ∀ t, VRel r (fget (fsets slots (st g).1 (havoc (dsts c) fr)) t) (a.tmps.getD t undef) := by
      refine fsets_rel hs.rel slots (st g).1 _ ?_ hv
      refine havoc_rel (dsts c) fr (fun t ht => ?_) (fun t ht => ?_)
      · have : ¬ t < a.tmps.size := by rw [← hs.len, hlen]; omega
        simp [Array.getD_eq_getD_getElem?, this]
      · rw [← hkeep t ht]; exact hs.rel t
    have hfit := fit g hpre
    unfold fits at hfit
    simp only [Bool.and_eq_true, llen_eq] at hfit
    have hids := idsUp_iff.1 hfit.2.1
    have hst : St P own w0 rb s (fsets slots (st g).1 (havoc (dsts c) fr)) (st g).2 a w := by
      refine ⟨by rw [fsets_len, havoc_len, ← hlen]; exact hs.len, hs.defers, fun t => ?_, s1, hs.news, hs.keep, s2, hs.glob⟩
      refine cut_rel s3 (fun i hi => hids i ?_) (hF t)
      by_cases ht : t < (fsets slots (st g).1 (havoc (dsts c) fr)).length
      · exact idsL_mem (List.mem_of_getElem? (fget_getElem ht)) hi
      · rw [fget_ge _ _ (by omega)] at hi; simp [idsV] at hi
    have hsameF : Same (dsts c) fr (fsets slots (st g).1 (havoc (dsts c) fr)) :=
      ⟨by rw [fsets_len, havoc_len], fun t ht => .inl (by rw [fsets_keep _ _ _ _ (fun q => ht (subN_iff sl t q)), havoc_keep _ _ _ ht])⟩
    refine hc _ _ s _ _ a w hst (fun e r2 fr2 hp2 a2 w2 h1 h2 h3 => ?_) (round g hpre)
    have h4 := (hsameF.trans h2).mono (us := dsts c) (by simp)
    cases e with
    | norm =>
      obtain ⟨g', k1, k2, k3, k4⟩ := h3
      have k3 := gate_iff.1 k3
      exact ih g' (by omega) k1 r2 fr2 hp2 a2 w2 h1 h4.len (h4.exact k3.1) k3.2 k4
    | exit id => exact hK _ r2 fr2 hp2 a2 w2 h1 h4 h3
    | ret => exact hK _ r2 fr2 hp2 a2 w2 h1 h4 h3

omit hu in
theorem renL_get (ids : List Nat) : ∀ (fr : Fr) (t : Nat), fget (renL ids fr) t = ren ids (fget fr t)
  | [], _ => rfl
  | _ :: _, 0 => rfl
  | _ :: r, t + 1 => renL_get ids r t
omit hu in
theorem renL_len (ids : List Nat) : ∀ fr : Fr, (renL ids fr).length = fr.length
  | [] => rfl
  | _ :: r => by simp [renL, renL_len ids r]
omit hu in
theorem renL_gets (ids : List Nat) (fr : Fr) : ∀ slots : List Nat, fgets (renL ids fr) slots = renL ids (fgets fr slots)
  | [] => rfl
  | i :: r => by simp only [fgets, renL, renL_get, renL_gets ids fr r]
omit hu in
/-- A loop's head: what is known there. -/
theorem head_st {c : Code} {slots : List Nat} {vs : List V} {H : Hp} {fr fr' : Fr} {hp hp' : Hp} {r : Rho} {a : Act} {w : World}
    (hb0 : ∀ i x, rb i = some x → i < hp.length) (sl : subN slots (dsts c) = true) (hfit : fits hp H (fsets slots vs (havoc (dsts c) fr)) = true)
    (hs : St P own w0 rb r fr' hp' a w) (hlen : fr'.length = fr.length) (hkeep : ∀ t, t ∉ dsts c → fget fr' t = fget fr t) (hv : V.subL (fgets fr' slots) vs) (hh : subH hp' H) :
    ∃ s, St P own w0 rb s (fsets slots vs (havoc (dsts c) fr)) H a w := by
  obtain ⟨s, s1, s2, s3⟩ := good_sub hs.good hh hfit hs.base hb0
  have hF : ∀ t, VRel r (fget (fsets slots vs (havoc (dsts c) fr)) t) (a.tmps.getD t undef) := by
    refine fsets_rel hs.rel slots vs _ ?_ hv
    refine havoc_rel (dsts c) fr (fun t ht => ?_) (fun t ht => ?_)
    · have : ¬ t < a.tmps.size := by rw [← hs.len, hlen]; omega
      simp [Array.getD_eq_getD_getElem?, this]
    · rw [← hkeep t ht]; exact hs.rel t
  unfold fits at hfit
  simp only [Bool.and_eq_true, llen_eq] at hfit
  have hids := idsUp_iff.1 hfit.2.1
  refine ⟨s, by rw [fsets_len, havoc_len, ← hlen]; exact hs.len, hs.defers, fun t => ?_, s1, hs.news, hs.keep, s2, hs.glob⟩
  refine cut_rel s3 (fun i hi => hids i ?_) (hF t)
  by_cases ht : t < (fsets slots vs (havoc (dsts c) fr)).length
  · exact idsL_mem (List.mem_of_getElem? (fget_getElem ht)) hi
  · rw [fget_ge _ _ (by omega)] at hi; simp [idsV] at hi
omit hu in
theorem invr_sound {c : Code} (hc : Sound uI uB uS uL uT P T nb own w0 rb c) (hnb : ∀ i x, rb i = some x → i < nb) {K : Ex → Fr → Hp → Prop} {Q : Exit → Act → World → Prop} {G : Type} {slots : List Nat} {st : G → List V × Hp} {pre : G → Prop} {μ : G → Nat} {fr : Fr} {hp : Hp}
    (hb0 : ∀ i x, rb i = some x → i < hp.length) (sl : subN slots (dsts c) = true) (fit : ∀ g, pre g → fits hp (st g).2 (fsets slots (st g).1 (havoc (dsts c) fr)) = true)
    (round : ∀ g, pre g → vc uI uB uS uL uT T P nb c (fun e fr' hp' => match e with
      | .norm => ∃ g', pre g' ∧ μ g' < μ g ∧ ∃ ids : List Nat, (!dup ids && preOk 0 nb ids) = true ∧ renL ids (havoc (dsts c) fr) = havoc (dsts c) fr ∧ gate (anyOk (havoc (dsts c) fr) fr') (V.subL (renL ids (fgets fr' slots)) (st g').1) ∧ subH (selH hp' ids ids) (st g').2
      | e => K e fr' hp') (fsets slots (st g).1 (havoc (dsts c) fr)) (st g).2)
    (hK : ∀ e r' fr' hp' a' w', St P own w0 rb r' fr' hp' a' w' → Same (dsts c) fr fr' → K e fr' hp' → Q e.to a' w') :
    ∀ (n : Nat) (g : G), μ g < n → pre g → ∀ (r : Rho) (a : Act) (w : World), St P own w0 rb r (fsets slots (st g).1 (havoc (dsts c) fr)) (st g).2 a w → Code.rounds P c Q n a w := by
  intro n
  induction n with
  | zero => intro g h; omega
  | succ n ih =>
    intro g hlt hpre r a w hs
    rw [rounds_succ]
    have hsameF : Same (dsts c) fr (fsets slots (st g).1 (havoc (dsts c) fr)) :=
      ⟨by rw [fsets_len, havoc_len], fun t ht => .inl (by rw [fsets_keep _ _ _ _ (fun q => ht (subN_iff sl t q)), havoc_keep _ _ _ ht])⟩
    refine hc _ _ r _ _ a w hs (fun e r2 fr2 hp2 a2 w2 h1 h2 h3 => ?_) (round g hpre)
    have h4 := (hsameF.trans h2).mono (us := dsts c) (by simp)
    cases e with
    | norm =>
      obtain ⟨g', k1, k2, ids, k3, k4, k5, k6⟩ := h3
      obtain ⟨k7, k5⟩ := gate_iff.1 k5
      simp only [Bool.and_eq_true, Bool.not_eq_true'] at k3
      have hsR : St P own w0 rb (selR r2 ids) (renL ids fr2) (selH hp2 ids ids) a2 w2 := by
        refine ⟨by rw [renL_len]; exact h1.len, h1.defers, fun t => ?_, end_good h1.good k3.1, h1.news, h1.keep, fun i x hx => ?_, h1.glob⟩
        · rw [renL_get]; exact ren_rel (h1.rel t)
        · have := preOk_get k3.2 i (hnb i x hx)
          rw [Nat.zero_add] at this
          simp only [selR, this]
          exact h1.base i x hx
      obtain ⟨s, hst⟩ := head_st (c := c) (vs := (st g').1) (H := (st g').2) (fr := fr) hb0 sl (fit g' k1) hsR (by rw [renL_len]; exact h4.len) (fun t ht => by
        have e1 : fget fr2 t = fget (havoc (dsts c) fr) t := by rw [h4.exact k7 t ht, havoc_keep _ _ _ ht]
        rw [renL_get, e1, ← renL_get, k4, havoc_keep _ _ _ ht]) (by rw [renL_gets]; exact k5) k6
      exact ih g' (by omega) k1 s a2 w2 hst
    | exit id => exact hK _ r2 fr2 hp2 a2 w2 h1 h4 h3
    | ret => exact hK _ r2 fr2 hp2 a2 w2 h1 h4 h3
omit hu in
theorem invr_start {c : Code} (hc : Sound uI uB uS uL uT P T nb own w0 rb c) (hnb : ∀ i x, rb i = some x → i < nb) {K : Ex → Fr → Hp → Prop} {Q : Exit → Act → World → Prop} {G : Type} {slots : List Nat} {st : G → List V × Hp} {pre : G → Prop} {μ : G → Nat} {fr : Fr} {hp : Hp}
    (hb0 : ∀ i x, rb i = some x → i < hp.length) (sl : subN slots (dsts c) = true) (fit : ∀ g, pre g → fits hp (st g).2 (fsets slots (st g).1 (havoc (dsts c) fr)) = true)
    (round : ∀ g, pre g → vc uI uB uS uL uT T P nb c (fun e fr' hp' => match e with
      | .norm => ∃ g', pre g' ∧ μ g' < μ g ∧ ∃ ids : List Nat, (!dup ids && preOk 0 nb ids) = true ∧ renL ids (havoc (dsts c) fr) = havoc (dsts c) fr ∧ gate (anyOk (havoc (dsts c) fr) fr') (V.subL (renL ids (fgets fr' slots)) (st g').1) ∧ subH (selH hp' ids ids) (st g').2
      | e => K e fr' hp') (fsets slots (st g).1 (havoc (dsts c) fr)) (st g).2)
    (hK : ∀ e r' fr' hp' a' w', St P own w0 rb r' fr' hp' a' w' → Same (dsts c) fr fr' → K e fr' hp' → Q e.to a' w') (g0 : G) (hp0 : pre g0) (r : Rho) (a : Act) (w : World) (hs : St P own w0 rb r fr hp a w)
    (hv : V.subL (fgets fr slots) (st g0).1) (hh : subH hp (st g0).2) : Code.rounds P c Q (μ g0 + 1) a w := by
  obtain ⟨s, hst⟩ := head_st (c := c) (vs := (st g0).1) (H := (st g0).2) (fr := fr) hb0 sl (fit g0 hp0) hs rfl (fun _ _ => rfl) hv hh
  exact invr_sound hc hnb hb0 sl fit round hK (μ g0 + 1) g0 (by omega) hp0 s a w hst
omit hu in
theorem hget_append_one (hp : Hp) (b : Blk) (i : Nat) : hget (hp ++ [b]) i = hget (hsetX hp hp.length b) i := by
  rw [hget_hsetX, hget_eq, List.getD_eq_getElem?_getD]
  by_cases hi : hp.length = i
  · subst hi; simp
  · rw [if_neg hi, hget_eq, List.getD_eq_getElem?_getD]
    rcases Nat.lt_or_ge i hp.length with h | h
    · rw [List.getElem?_append_left h]
    · rw [List.getElem?_append_right h, List.getElem?_eq_none h]
      cases hq : i - hp.length with
      | zero => omega
      | succ q => rfl
omit hu in
/-- A nil slice taken for an empty row. -/
theorem nilrow_st {r : Rho} {fr : Fr} {hp : Hp} {a : Act} {w : World} {slot : Nat} {e : TypeId} {k : IntKind} (sz : Nat) (hz : 0 < sz) (hs : St P own w0 rb r fr hp a w) (h : fget fr slot = .nilsl) :
    ∃ r', St P own w0 rb r' (fset fr slot (.vec (llen hp) (.lit 0))) (hp ++ [.cols (.row sz) e [.ints k (.lits [])]]) a w := by
  have hn : hget hp hp.length = .unborn := hget_ge _ _ (Nat.le_refl _)
  obtain ⟨p1, p2⟩ := Good.push (w' := w) hs.good (n := hp.length) (x := ⟨none, 0⟩) (b := .cols (.row sz) e [.ints k (.lits [])]) hn rfl (fun _ _ => rfl) (Nat.le_refl _)
    ⟨[], 0, 0, ⟨rfl, by intro c hc; simp only [List.mem_singleton] at hc; subst hc; rfl, fun i j c hi _ => by omega⟩, by simp, hz, by simp, ⟨by simp, .inl ⟨rfl, rfl⟩⟩⟩ hs.news (fun g hu => by obtain ⟨b, hb, _⟩ := hu; cases hb) (fun a ha => by cases ha)
  refine ⟨_, ⟨by rw [fset_length]; exact hs.len, hs.defers, fun t => ?_, p2.congr (hget_append_one hp _), hs.news, hs.keep, Rho.le_trans hs.base p1, hs.glob⟩⟩
  by_cases ht : slot = t
  · subst ht
    have hl : slot < fr.length := by
      rcases Nat.lt_or_ge slot fr.length with h1 | h1
      · exact h1
      · rw [fget_ge _ _ h1] at h; cases h
    rw [fget_fset_eq _ _ _ hl]
    have := hs.rel slot
    rw [h] at this
    simp only [VRel] at this ⊢
    exact ⟨⟨none, 0⟩, 0, by simp [llen_eq], rfl, Nat.le_refl _, by omega, this⟩
  · rw [fget_fset_ne _ _ _ _ ht]
    exact VRel.mono p1 (hs.rel t)
theorem vc_sound (hm : P.follows .mixedOrders = true) (hT : TabOk P T) (hnb : ∀ i x, rb i = some x → i < nb) : ∀ c : Code, Sound uI uB uS uL uT P T nb own w0 rb c
  | .skip, K, Q, r, fr, hp, a, w, hs, hK, h => wp_skip (hK .norm r fr hp a w hs (Same.refl _ _) h)
  | .label _, K, Q, r, fr, hp, a, w, hs, hK, h => wp_label (hK .norm r fr hp a w hs (Same.refl _ _) h)
  | .region id ops false, K, Q, r, fr, hp, a, w, hs, hK, h => by
    simp only [vc] at h
    have := vops_sound hu hT ops.toList hs (fun r' fr' hp' a' w' h1 h2 h3 => hK .norm r' fr' hp' a' w' h1 h2 h3) h
    exact wp_region_list (by simpa using this)
  | .region id ops true, K, Q, r, fr, hp, a, w, hs, hK, h => by
    simp only [vc] at h
    obtain ⟨its, h1, h2, h3, h4, h5⟩ := vdraw_chain hu own w0 rb hT ops.toList [] fr hp h
    have hs' := hs.drew (w.drawn + 1)
    refine wp_region_any hm ?_
    have := any_sound (Q := Q) h1 (by simpa using h4) h2 (fun r' a' w' h6 => hK .norm r' _ _ a' w' h6 h3 h5) ops.size (Array.replicate ops.size false) r a { w with drawn := w.drawn + 1 } (by simp)
      (fun j o ho hf => by simp [Array.getD_eq_getD_getElem?, Array.getElem?_replicate] at hf; split at hf <;> simp at hf) (by simp [List.countP_replicate])
      ((hs'.congrF (by rw [frS_len]) (fun t => by
        rw [frS_get]
        have : ∀ (n : Nat) (x : V), lastI (fun i => (Array.replicate ops.size false).getD i false) (frU its fr.length t) x n = x := by
          intro n x
          induction n with
          | zero => rfl
          | succ n ih => simp only [lastI]; rw [if_neg (by simp [Array.getD_eq_getD_getElem?, Array.getElem?_replicate]; split <;> simp)]; exact ih
        exact this _ _)).congr (fun t => by
        rw [hpS_get]
        have : ∀ (n : Nat) (x : Blk), lastI (fun i => (Array.replicate ops.size false).getD i false) (fun j => wr (itemAt its j).W t) x n = x := by
          intro n x
          induction n with
          | zero => rfl
          | succ n ih => simp only [lastI]; rw [if_neg (by simp [Array.getD_eq_getD_getElem?, Array.getElem?_replicate]; split <;> simp)]; exact ih
        exact this _ _))
    simpa using this
  | .seq x y, K, Q, r, fr, hp, a, w, hs, hK, h => by
    simp only [vc] at h
    refine wp_seq (vc_sound hm hT hnb x _ _ r fr hp a w hs (fun e r' fr' hp' a' w' h1 h2 h3 => ?_) h)
    cases e with
    | norm => exact vc_sound hm hT hnb y _ _ r' fr' hp' a' w' h1 (fun e r2 fr2 hp2 a2 w2 k1 k2 k3 => hK e r2 fr2 hp2 a2 w2 k1 (h2.trans k2) k3) h3
    | exit id => exact hK _ r' fr' hp' a' w' h1 (h2.mono (by simp [dsts]; intro t ht; exact .inl ht)) h3
    | ret => exact hK _ r' fr' hp' a' w' h1 (h2.mono (by simp [dsts]; intro t ht; exact .inl ht)) h3
  | .cond c x y, K, Q, r, fr, hp, a, w, hs, hK, h => by
    simp only [vc] at h
    have hc := hs.opd c
    split at h
    · rename_i e
      rw [e] at hc; simp only [VRel] at hc
      exact wp_cond_true hc (vc_sound hm hT hnb x _ _ r fr hp a w hs (fun e r' fr' hp' a' w' h1 h2 h3 => hK e r' fr' hp' a' w' h1 (h2.mono (by simp [dsts]; intro t ht; exact .inl ht)) h3) h)
    · rename_i e
      rw [e] at hc; simp only [VRel] at hc
      exact wp_cond_false hc (vc_sound hm hT hnb y _ _ r fr hp a w hs (fun e r' fr' hp' a' w' h1 h2 h3 => hK e r' fr' hp' a' w' h1 (h2.mono (by simp [dsts]; intro t ht; exact .inr ht)) h3) h)
    · rename_i n e
      rw [e] at hc; simp only [VRel] at hc
      obtain ⟨z, hz, hc⟩ := hc
      cases z with
      | true => exact wp_cond_true hc (vc_sound hm hT hnb x _ _ r fr hp a w hs (fun e r' fr' hp' a' w' h1 h2 h3 => hK e r' fr' hp' a' w' h1 (h2.mono (by simp [dsts]; intro t ht; exact .inl ht)) h3) (h.1 (hz rfl)))
      | false => exact wp_cond_false hc (vc_sound hm hT hnb y _ _ r fr hp a w hs (fun e r' fr' hp' a' w' h1 h2 h3 => hK e r' fr' hp' a' w' h1 (h2.mono (by simp [dsts]; intro t ht; exact .inr ht)) h3) h.2)
    · rename_i n e
      rw [e] at hc; simp only [VRel] at hc
      obtain ⟨z, hz, hc⟩ := hc
      cases z with
      | true => exact wp_cond_false hc (vc_sound hm hT hnb y _ _ r fr hp a w hs (fun e r' fr' hp' a' w' h1 h2 h3 => hK e r' fr' hp' a' w' h1 (h2.mono (by simp [dsts]; intro t ht; exact .inr ht)) h3) (h.1 (hz rfl)))
      | false => exact wp_cond_true hc (vc_sound hm hT hnb x _ _ r fr hp a w hs (fun e r' fr' hp' a' w' h1 h2 h3 => hK e r' fr' hp' a' w' h1 (h2.mono (by simp [dsts]; intro t ht; exact .inl ht)) h3) h.2)
    · exact h.elim
  | .block id c, K, Q, r, fr, hp, a, w, hs, hK, h => by
    simp only [vc] at h
    refine wp_block (vc_sound hm hT hnb c _ _ r fr hp a w hs (fun e r' fr' hp' a' w' h1 h2 h3 => ?_) h)
    cases e with
    | norm => exact hK _ r' fr' hp' a' w' h1 h2 h3
    | ret => exact hK _ r' fr' hp' a' w' h1 h2 h3
    | exit j =>
      simp only [Ex.to, Exit.inBlock]
      simp only at h3
      split at h3
      · rename_i hb
        rw [if_pos (Nat.eq_of_beq_eq_true hb)]
        exact hK .norm r' fr' hp' a' w' h1 h2 h3
      · rename_i hb
        rw [if_neg (fun e => by rw [e] at hb; simp at hb)]
        exact hK (.exit j) r' fr' hp' a' w' h1 h2 h3
  | .loop c, K, Q, r, fr, hp, a, w, hs, hK, h => by
    simp only [vc] at h
    have hc : Sound uI uB uS uL uT P T nb own w0 rb c := vc_sound hm hT hnb c
    suffices hmain : ∀ fr hp, LoopN nb (dsts c) (vc uI uB uS uL uT T P nb c) K fr hp → ∀ (r : Rho) (a : Act) (w : World), St P own w0 rb r fr hp a w →
        (∀ e r' fr' hp' a' w', St P own w0 rb r' fr' hp' a' w' → Same (dsts c) fr fr' → K e fr' hp' → Q e.to a' w') → (Code.loop c).wp P Q a w from hmain fr hp h r a w hs hK
    clear h hs hK
    intro fr hp h
    induction h with
    | @forget fr hp l rest ih =>
      intro r a w hs hK
      refine ih r a w ⟨by rw [havoc_len]; exact hs.len, hs.defers, fun t => havoc_rel l fr (fun t ht => ?_) (fun t _ => hs.rel t) t, hs.good, hs.news, hs.keep, hs.base, hs.glob⟩
        (fun e r2 fr2 hp2 a2 w2 h1 h2 h3 => hK e r2 fr2 hp2 a2 w2 h1 ⟨by rw [h2.len, havoc_len], fun t ht => ?_⟩ h3)
      · have : ¬ t < a.tmps.size := by rw [← hs.len]; omega
        simp [Array.getD_eq_getD_getElem?, this]
      · rcases h2.keep t ht with e | e
        · rw [e]
          by_cases hq : t ∈ l
          · rcases Nat.lt_or_ge t fr.length with hlt | hge
            · exact .inr (havoc_any l fr t hq hlt)
            · left; rw [fget_ge _ _ (by rw [havoc_len]; exact hge), fget_ge _ _ hge]
          · exact .inl (havoc_keep _ _ _ hq)
        · exact .inr e
    | nilrow slot e k hm0 hsl rest ih =>
      intro r a w hs hK
      obtain ⟨r', hs'⟩ := nilrow_st (e := e) (k := k) 1 (by decide) hs hsl
      refine ih r' a w hs' (fun e r2 fr2 hp2 a2 w2 h1 h2 h3 => hK e r2 fr2 hp2 a2 w2 h1 ⟨by rw [h2.len, fset_length], fun t ht => ?_⟩ h3)
      refine (h2.keep t ht).imp (fun e0 => ?_) id
      rw [e0]
      exact fget_fset_ne _ _ _ _ (fun e => ht (by subst e; exact memN_iff.1 hm0))
    | nilrows slot e k sz hz hm0 hsl rest ih =>
      intro r a w hs hK
      obtain ⟨r', hs'⟩ := nilrow_st (e := e) (k := k) sz (by rw [Nat.blt_eq] at hz; exact hz) hs hsl
      refine ih r' a w hs' (fun e r2 fr2 hp2 a2 w2 h1 h2 h3 => hK e r2 fr2 hp2 a2 w2 h1 ⟨by rw [h2.len, fset_length], fun t ht => ?_⟩ h3)
      refine (h2.keep t ht).imp (fun e0 => ?_) id
      rw [e0]
      exact fget_fset_ne _ _ _ _ (fun e => ht (by subst e; exact memN_iff.1 hm0))
    | @now fr hp h =>
    intro r a w hs hK
    cases h with
    | invr G slots st pre μ g0 sl fit start round =>
      have hb0 : ∀ i x, rb i = some x → i < hp.length := fun i x hx => by
        rcases Nat.lt_or_ge i hp.length with h1 | h1
        · exact h1
        · have := hs.base i x hx
          rw [hs.good.born i (hget_ge _ _ h1)] at this; cases this
      exact wp_loop_rounds (μ g0 + 1) (invr_start hc hnb hb0 sl fit round (fun e r' fr' hp' a' w' h1 h2 h3 => hK e r' fr' hp' a' w' h1 h2 h3) g0 start.1 r a w hs start.2.1 start.2.2)
    | unroll n h => exact wp_loop_rounds n (unroll_sound hc n r fr hp a w hs (fun e r' fr' hp' a' w' h1 h2 h3 => hK e r' fr' hp' a' w' h1 h2 h3) h)
    | inv G slots st pre μ g0 sl fit start round =>
      have hb0 : ∀ i x, rb i = some x → i < hp.length := fun i x hx => by
        rcases Nat.lt_or_ge i hp.length with h1 | h1
        · exact h1
        · have := hs.base i x hx
          rw [hs.good.born i (hget_ge _ _ h1)] at this; cases this
      exact wp_loop_rounds (μ g0 + 1) (inv_sound hc hb0 sl fit round (fun e r' fr' hp' a' w' h1 h2 h3 => hK e r' fr' hp' a' w' h1 h2 h3) (μ g0 + 1) g0 (by omega) start.1 r fr hp a w hs rfl (fun _ _ => rfl) start.2.1 start.2.2)
  | .exit id, K, Q, r, fr, hp, a, w, hs, hK, h => wp_exit (hK (.exit id) r fr hp a w hs (Same.refl _ _) h)
  | .ret, K, Q, r, fr, hp, a, w, hs, hK, h => wp_ret (hK .ret r fr hp a w hs (Same.refl _ _) h)
  | .scope .., K, Q, r, fr, hp, a, w, hs, hK, h => h.elim
end
end
end Sx
set_option linter.unusedVariables false
set_option linter.unusedSimpArgs false
namespace Sx
open Go
section
variable {P : Program} {T : Tab} {own : Own} {r rb : Rho} {fr : Fr} {hp : Hp} {a : Act} {w w0 : World}

theorem padV_get : ∀ (n t : Nat), fget (padV n) t = .undef
  | 0, _ => rfl
  | n + 1, 0 => rfl
  | n + 1, t + 1 => padV_get n t
theorem padV_len : ∀ n : Nat, (padV n).length = n
  | 0 => rfl
  | n + 1 => by simp [padV, padV_len n]

/-- One result. -/
def resOne (tmps : Array Value) (x : ResultVar) : Sem Value :=
  match x with
  | .tmp t => pure (tmps.getD t undef)
  | .cell b t => do loadVar t (← asAddr (tmps.getD b undef))
theorem results_eq (fn : Func) (tmps : Array Value) : results fn tmps = (do let vs ← fn.results.mapM (resOne tmps); pure (if h : vs.size = 1 then vs[0] else .tuple vs)) := rfl

section
variable {uI : FI → Int} {uB : FB → Bool} {uS : FS → ByteArray} {uL : FL → List Int} {uT : FT → List ByteArray} (hu : Std uI uB uS uL uT)
include hu

theorem resL_ok (hT : TabOk P T) : ∀ (rs : List ResultVar) {l : List V} {r : Rho}, Good P own r hp w → (∀ t, VRel r (fget fr t) (a.tmps.getD t undef)) → resL uI uB uS uL T fr hp rs = some l →
    ∃ vals r', (rs.mapM (resOne a.tmps)).run P w = .ok vals w ∧ r.le r' ∧ VRelL r' l vals ∧ Good P own r' hp w
  | [], l, r, hg, hr, h => by
    simp only [resL, Option.some.injEq] at h; subst h
    exact ⟨[], r, by simp, Rho.le_refl r, by simp [VRelL], hg⟩
  | x :: rs, l, r, hg, hr, h => by
    simp only [resL] at h
    split at h
    · rename_i v l' hv hl
      simp only [Option.some.injEq] at h; subst h
      have one : ∃ x' r', (resOne a.tmps x).run P w = .ok x' w ∧ r.le r' ∧ VRel r' v x' ∧ Good P own r' hp w := by
        cases x with
        | tmp t =>
          simp only [resV, Option.some.injEq] at hv; subst hv
          exact ⟨_, r, rfl, Rho.le_refl r, hr t, hg⟩
        | cell b t =>
          simp only [resV] at hv
          split at hv
          · rename_i id o hb
            have hb' := hr b
            rw [hb] at hb'
            split at hv
            · rename_i v' out hlo
              simp only [Option.some.injEq] at hv; subst hv
              obtain ⟨x', r', k1, k2, k3, k4⟩ := load_ok hu hT hg (by simp) hb' hlo (by simp [AllTrue])
              refine ⟨x', r', ?_, k2, k3, k4.congr (fun i => ?_)⟩
              · simp only [VRel] at hb'
                obtain ⟨y, c, _, _, _, hc⟩ := hb'
                show (do loadVar t (← asAddr (a.tmps.getD b undef)) : Sem Value).run P w = _
                rw [hc] at k1 ⊢
                simpa [Instr.loadAt, Instr.sureAddr, asAddr] using k1
              · have := loadB_out hlo
                subst this
                exact (pair_same rfl i).symm
            · cases hv
          · cases hv
      obtain ⟨x', r1, k1, k2, k3, k4⟩ := one
      obtain ⟨vals, r2, m1, m2, m3, m4⟩ := resL_ok hT rs (r := r1) k4 (fun t => VRel.mono k2 (hr t)) hl
      refine ⟨x' :: vals, r2, ?_, Rho.le_trans k2 m2, by simp only [VRelL]; exact ⟨VRel.mono m2 k3, m3⟩, m4⟩
      rw [List.mapM_cons]
      simp only [Sem.run_bind, Sem.run_pure]
      rw [k1]
      simp only [Result.andThen_ok]
      rw [m1]
      simp
    · cases h

theorem results_ok {fn : Func} {l : List V} (hT : TabOk P T) (hg : Good P own r hp w) (hr : ∀ t, VRel r (fget fr t) (a.tmps.getD t undef)) (h : resL uI uB uS uL T fr hp fn.results.toList = some l) :
    ∃ v r', (results fn a.tmps).run P w = .ok v w ∧ r.le r' ∧ VRel r' (tupV l) v ∧ Good P own r' hp w := by
  obtain ⟨vals, r', h1, h2, h3, h4⟩ := resL_ok hu hT fn.results.toList hg hr h
  refine ⟨if h : vals.toArray.size = 1 then vals.toArray[0] else .tuple vals.toArray, r', ?_, h2, ?_, h4⟩
  · rw [results_eq, show fn.results = fn.results.toList.toArray by simp, List.mapM_toArray]
    simp only [Sem.run_bind, Sem.run_map, h1, Result.andThen_ok, Sem.run_pure]
  · cases l with
    | nil =>
      cases vals with
      | nil => simp [tupV, VRel, VRelL]
      | cons => simp [VRelL] at h3
    | cons v l =>
      cases vals with
      | nil => simp [VRelL] at h3
      | cons x vals =>
        cases l with
        | nil =>
          cases vals with
          | nil => simp only [VRelL] at h3; simpa [tupV] using h3.1
          | cons => simp [VRelL] at h3
        | cons v2 l2 =>
          cases vals with
          | nil => simp [VRelL] at h3
          | cons x2 vals =>
            simp only [tupV, VRel]
            exact ⟨(x :: x2 :: vals).toArray, by simp, by simpa using h3⟩

/-- **The evaluator's word is a contract.** -/
theorem ctr_of_vc {f : FuncId} {fn : Func} {c : Code} {E0 : Hp} {args : List V} {R : V → Hp → Prop} (hm : P.follows .mixedOrders = true) (hT : TabOk P T) (hf : P.funcs[f]? = some fn) (hb : fn.body = some c) (hname : (fn.name == "runtime.NumGoroutine") = false)
    (h : fnVC uI uB uS uL uT T P c fn.ntmps fn.results.toList E0 args R) : Ctr P f E0 args R := by
  refine ⟨⟨fn, hf, by rw [hb]; rfl, hname⟩, fun w0 r0 vals hg hglob hv => ?_⟩
  refine calls_of_wp hf hb ?_
  have hlv : vals.length = args.length := hv.length.symm
  obtain ⟨act, hact⟩ : ∃ act : Act, act = { tmps := vals.toArray ++ Array.replicate (fn.ntmps - vals.toArray.size) undef, defers := [] } := ⟨_, rfl⟩
  rw [← hact]
  have hst : St P (ownOf r0 E0 w0) w0 r0 r0 (args ++ padV (fn.ntmps - llen args)) E0 act w0 := by
    refine ⟨by rw [hact]; simp [padV_len, llen_eq, hlv], by rw [hact], fun t => ?_, hg, fun g hg' => .inl hg', Keep.refl _ w0, Rho.le_refl _, hglob⟩
    rw [hact]
    by_cases ht : t < args.length
    · obtain ⟨x, hx, hvx⟩ := hv.get t _ (fget_getElem ht)
      have e1 : fget (args ++ padV (fn.ntmps - llen args)) t = fget args t := by rw [fget_eq, fget_eq, List.getD, List.getD, List.getElem?_append_left ht]
      have ht' : t < vals.length := by omega
      have e2 : vals[t] = x := by rw [List.getElem?_eq_getElem ht'] at hx; simpa using hx
      rw [e1]
      have e3 : (vals.toArray ++ Array.replicate (fn.ntmps - vals.toArray.size) undef).getD t undef = x := by
        rw [Array.getD_eq_getD_getElem?, Array.getElem?_append_left (by simpa using ht')]
        simp [ht', e2]
      rw [e3]; exact hvx
    · have e1 : fget (args ++ padV (fn.ntmps - llen args)) t = .undef := by
        rw [fget_eq, List.getD, List.getElem?_append_right (by omega)]
        have := padV_get (fn.ntmps - llen args) (t - args.length)
        rw [fget_eq, List.getD] at this; exact this
      rw [e1]
      simp only [VRel]
      rw [Array.getD_eq_getD_getElem?, Array.getElem?_append_right (by simp; omega)]
      simp only [Array.getElem?_replicate]
      split <;> rfl
  unfold fnVC at h
  refine vc_sound hu (nb := llen E0) hm hT (fun i x hx => by
    rw [llen_eq]
    rcases Nat.lt_or_ge i E0.length with h1 | h1
    · exact h1
    · rw [hg.born i (hget_ge _ _ h1)] at hx; cases hx) c _ _ r0 _ _ act w0 hst (fun e r fr hp a w hs hsame hk => ?_) h
  have fin : endVC uI uB uS uL T (llen E0) fn.results.toList R fr hp → a.defers = [] ∧ ∃ v, (results fn a.tmps).run P w = .ok v w ∧
      ∃ v' x E r', Ending.returned v = Ending.returned v' ∧ VRel r' x v' ∧ R x E ∧ r0.le r' ∧ Good P (ownOf r0 E0 w0) r' E w ∧ Keep (ownOf r0 E0 w0) w0 w := by
    intro he
    unfold endVC at he
    split at he
    · exact he.elim
    · rename_i l hl
      obtain ⟨v, r', k1, k2, k3, k4⟩ := results_ok hu hT hs.good hs.rel hl
      refine ⟨hs.defers, v, k1, ?_⟩
      simp only at he
      split at he
      · rename_i hok
        simp only [Bool.and_eq_true, Bool.not_eq_true'] at hok
        refine ⟨v, _, _, selR r' (grow hp 100 0 (addN (rangeFrom 0 (llen E0)) (idsL l))), rfl, ren_rel k3, he, fun i x hx => ?_, end_good k4 hok.1, hs.keep⟩
        have hi : i < llen E0 := by
          rw [llen_eq]
          rcases Nat.lt_or_ge i E0.length with h1 | h1
          · exact h1
          · rw [hg.born i (hget_ge _ _ h1)] at hx; cases hx
        have := preOk_get hok.2 i hi
        rw [Nat.zero_add] at this
        simp only [selR, this]
        exact k2 _ _ (hs.base i x hx)
      · exact he.elim
  cases e with
  | norm => exact fin hk
  | ret => exact fin hk
  | exit id => exact hk.elim
end
end
end Sx
set_option linter.unusedVariables false
set_option linter.unusedSimpArgs false
namespace Sx
open Go

/-! ## '==' at a type: cell by cell -/
def eqFs (P : Program) (f : TypeId → Option (List SK)) : Nat → List Field → Option (List SK)
  | _, [] => some []
  | off, x :: r => if x.name = "_" then none else if x.offset = off then
      match f x.type, (P.info? x.type).map (·.size) with
      | some ks, some sz => if ks.length = sz then (match eqFs P f (off + sz) r with
        | some l => some (ks ++ l)
        | none => none) else none
      | _, _ => none
    else none
def eqKs (P : Program) : Nat → TypeId → Option (List SK)
  | 0, _ => none
  | d + 1, t => match P.underlying t with
    | some (.int k) => some [.int k]
    | some .string => some [.str]
    | some .bool => some [.bool]
    | some (.struct fs) => if P.stoodInHeld t then none else eqFs P (eqKs P d) 0 fs.toList
    | some (.array n e) => match eqKs P d e, (P.info? e).map (·.size) with
      | some ks, some sz => if ks.length = sz then some (List.replicate n ks).flatten else none
      | _, _ => none
    | _ => none

theorem KindsAt.len : ∀ {ks : List SK} {vs : List Value}, KindsAt ks vs → vs.length = ks.length
  | [], [], _ => rfl
  | [], _ :: _, h => by simp [KindsAt] at h
  | _ :: _, [], h => by simp [KindsAt] at h
  | k :: ks, v :: vs, h => by simp only [KindsAt] at h; simp [KindsAt.len h.2]
theorem KindsAt.split : ∀ {a b : List SK} {vs : List Value}, KindsAt (a ++ b) vs → KindsAt a (vs.take a.length) ∧ KindsAt b (vs.drop a.length)
  | [], b, vs, h => by simpa [KindsAt] using h
  | k :: a, b, [], h => by simp [KindsAt] at h
  | k :: a, b, v :: vs, h => by
    simp only [List.cons_append, KindsAt] at h
    have := KindsAt.split h.2
    simp only [List.length_cons, List.take_succ_cons, List.drop_succ_cons, KindsAt]
    exact ⟨⟨h.1, this.1⟩, this.2⟩
theorem cellsEq_split : ∀ (n : Nat) {xs ys : List Value}, n ≤ xs.length → n ≤ ys.length → cellsEq xs ys = (cellsEq (xs.take n) (ys.take n) && cellsEq (xs.drop n) (ys.drop n))
  | 0, xs, ys, _, _ => by simp [cellsEq]
  | n + 1, [], ys, h, _ => by simp at h
  | n + 1, _ :: _, [], _, h => by simp at h
  | n + 1, x :: xs, y :: ys, h, h' => by
    simp only [List.take_succ_cons, List.drop_succ_cons, cellsEq]
    rw [cellsEq_split n (by simpa using h) (by simpa using h'), Bool.and_assoc]

/-- A value in the form of its type. -/
def Form (P : Program) (t : TypeId) (x : Value) : Prop :=
  match P.underlying t with
  | some (.struct _) => x = .agg x.cells
  | some (.array _ _) => x = .agg x.cells
  | _ => x.cells = #[x]

section
variable {P : Program}
theorem part_form {d e off : Nat} {ks : List SK} {i : TypeInfo} (h : eqKs P d e = some ks) (hi : P.info? e = some i) (hs : ks.length = i.size) {xs : Array Value} (hk : KindsAt ks ((xs.toList.drop off).take ks.length)) (w : World) :
    ∃ x, (part e xs off).run P w = .ok x w ∧ x.cells.toList = (xs.toList.drop off).take ks.length ∧ Form P e x := by
  have leaf : ∀ (td : TypeDesc) (k : SK), P.underlying e = some td → ks = [k] → (∀ v, hasKind k v → v.cells = #[v]) → (match td with | .struct _ => False | .array _ _ => False | _ => True) →
      ∃ x, (part e xs off).run P w = .ok x w ∧ x.cells.toList = (xs.toList.drop off).take ks.length ∧ Form P e x := by
    rintro td k hu rfl hc hn
    obtain ⟨v, hv⟩ : ∃ v, (xs.toList.drop off).take 1 = [v] := by
      have := KindsAt.len hk
      simp only [List.length_cons, List.length_nil, Nat.zero_add] at this
      exact List.length_eq_one_iff.1 this
    have hv0 : xs[off]? = some v := by
      have := congrArg (fun l => l[0]?) hv
      simp only [List.getElem?_take, List.getElem?_drop] at this
      simpa using this
    rw [show [k].length = 1 from rfl, hv] at hk ⊢
    simp only [KindsAt] at hk
    have hcv := hc v hk.1
    refine ⟨v, ?_, by rw [hcv], ?_⟩
    · cases td <;> simp_all [part, isAgg, run_underlying hu]
    · unfold Form; rw [hu]
      cases td <;> first | exact hn.elim | exact hcv
  have wide : ∀ td, P.underlying e = some td → (match td with | .struct _ => True | .array _ _ => True | _ => False) → ∃ x, (part e xs off).run P w = .ok x w ∧ x.cells.toList = (xs.toList.drop off).take ks.length ∧ Form P e x := by
    intro td hu hn
    refine ⟨.agg (xs.extract off (off + i.size)), ?_, ?_, ?_⟩
    · cases td <;> first | exact hn.elim | simp [part, isAgg, run_underlying hu, Go.sizeOf, typeInfo, hi]
    · simp [Value.cells, hs, List.extract_eq_take_drop]
    · unfold Form; rw [hu]
      cases td <;> first | exact hn.elim | rfl
  cases d with
  | zero => simp [eqKs] at h
  | succ d =>
    simp only [eqKs] at h
    split at h
    · rename_i k hu
      simp only [Option.some.injEq] at h
      exact leaf _ (.int k) hu h.symm (fun v hv => by obtain ⟨n, rfl⟩ := hv; rfl) trivial
    · rename_i hu
      simp only [Option.some.injEq] at h
      exact leaf _ .str hu h.symm (fun v hv => by obtain ⟨n, rfl⟩ := hv; rfl) trivial
    · rename_i hu
      simp only [Option.some.injEq] at h
      exact leaf _ .bool hu h.symm (fun v hv => by obtain ⟨n, rfl⟩ := hv; rfl) trivial
    · rename_i fs hu; exact wide _ hu trivial
    · rename_i n e' hu; exact wide _ hu trivial
    · cases h

theorem eq_sound : ∀ (d : Nat) (t : TypeId) (ks : List SK), eqKs P d t = some ks → ∀ (D : Nat) (w : World) (x y : Value), Form P t x → Form P t y → KindsAt ks x.cells.toList → KindsAt ks y.cells.toList →
    (Op.equalIn (D + d) t x y).run P w = .ok (cellsEq x.cells.toList y.cells.toList) w
  | 0, t, ks, h, _, _, _, _, _, _, _, _ => by simp [eqKs] at h
  | d + 1, t, ks, h, D, w, x, y, hx, hy, kx, ky => by
    have ih := eq_sound d
    simp only [eqKs] at h
    unfold Form at hx hy
    split at h
    · rename_i k hu
      simp only [Option.some.injEq] at h; subst h
      rw [hu] at hx hy
      simp only at hx hy
      rw [hx] at kx ⊢; rw [hy] at ky ⊢
      simp only [KindsAt] at kx ky
      obtain ⟨⟨a, rfl⟩, _⟩ := kx
      obtain ⟨⟨b, rfl⟩, _⟩ := ky
      rw [show D + (d + 1) = (D + d) + 1 from rfl, run_equalIn_int w _ t k k a b hu]
      simp [cellsEq, cellEq]
    · rename_i hu
      simp only [Option.some.injEq] at h; subst h
      rw [hu] at hx hy
      simp only at hx hy
      rw [hx] at kx ⊢; rw [hy] at ky ⊢
      simp only [KindsAt] at kx ky
      obtain ⟨⟨a, rfl⟩, _⟩ := kx
      obtain ⟨⟨b, rfl⟩, _⟩ := ky
      rw [show D + (d + 1) = (D + d) + 1 from rfl, run_equalIn_string w _ t a b hu]
      simp [cellsEq, cellEq]
    · rename_i hu
      simp only [Option.some.injEq] at h; subst h
      rw [hu] at hx hy
      simp only at hx hy
      rw [hx] at kx ⊢; rw [hy] at ky ⊢
      simp only [KindsAt] at kx ky
      obtain ⟨⟨a, rfl⟩, _⟩ := kx
      obtain ⟨⟨b, rfl⟩, _⟩ := ky
      rw [show D + (d + 1) = (D + d) + 1 from rfl, run_equalIn_bool' w _ t a b hu]
      simp [cellsEq, cellEq]
    · rename_i fs hu
      split at h
      · cases h
      · rename_i hp
        have hfo : P.fieldsOf t = fs := by simp [Program.fieldsOf, hu]
        rw [hu] at hx hy
        simp only at hx hy
        rw [hx, hy]
        rw [show D + (d + 1) = (D + d) + 1 from rfl, run_equalIn_struct w _ t _ _ (by rw [hfo]; exact hu) (by simpa using hp), hfo]
        have key : ∀ (l : List Field) (off : Nat) (ks : List SK), eqFs P (eqKs P d) off l = some ks → KindsAt ks (x.cells.toList.drop off) → KindsAt ks (y.cells.toList.drop off) →
            (Op.eqFields (D + d) x.cells y.cells l).run P w = .ok (cellsEq (x.cells.toList.drop off) (y.cells.toList.drop off)) w := by
          intro l
          induction l with
          | nil =>
            intro off ks h1 h2 h3
            simp only [eqFs, Option.some.injEq] at h1; subst h1
            have := KindsAt.len h2
            have e1 : x.cells.toList.drop off = [] := List.eq_nil_of_length_eq_zero this
            have e2 : y.cells.toList.drop off = [] := List.eq_nil_of_length_eq_zero (KindsAt.len h3)
            rw [e1, e2]; simp [Op.eqFields, cellsEq]
          | cons f l ihl =>
            intro off ks h1 h2 h3
            simp only [eqFs] at h1
            split at h1
            · cases h1
            · rename_i hname
              split at h1
              · rename_i hoff
                split at h1
                · rename_i ks1 sz hk1 hsz
                  obtain ⟨i, hi, hisz⟩ := Option.map_eq_some_iff.1 hsz
                  split at h1
                  · rename_i hlen
                    split at h1
                    · rename_i ks2 hk2
                      simp only [Option.some.injEq] at h1; subst h1
                      obtain ⟨a1, a2⟩ := KindsAt.split h2
                      obtain ⟨b1, b2⟩ := KindsAt.split h3
                      obtain ⟨u, p1, p2, p3⟩ := part_form hk1 hi (by rw [hlen, hisz]) a1 w
                      obtain ⟨v, q1, q2, q3⟩ := part_form hk1 hi (by rw [hlen, hisz]) b1 w
                      have he := ih f.type ks1 hk1 D w u v p3 q3 (by rw [p2]; exact a1) (by rw [q2]; exact b1)
                      rw [p2, q2] at he
                      rw [List.drop_drop, hlen] at a2 b2
                      have hrest := ihl (off + sz) ks2 hk2 a2 b2
                      have la := KindsAt.len h2
                      have lb := KindsAt.len h3
                      simp only [List.length_append] at la lb
                      rw [cellsEq_split ks1.length (by omega) (by omega), List.drop_drop, List.drop_drop, hlen]
                      rw [hlen] at he
                      simp only [Op.eqFields, hname, ne_eq, not_false_eq_true, if_true, Sem.run_bind, hoff, p1, q1, he, Result.andThen_ok]
                      cases hc : cellsEq ((x.cells.toList.drop off).take sz) ((y.cells.toList.drop off).take sz) with
                      | false => simp
                      | true => simp [hrest]
                    · cases h1
                  · cases h1
                · cases h1
              · cases h1
        have := key fs.toList 0 ks h (by simpa using kx) (by simpa using ky)
        simpa [Value.cells] using this
    · rename_i n e hu
      split at h
      · rename_i ks1 sz hk1 hsz
        obtain ⟨i, hi, hisz⟩ := Option.map_eq_some_iff.1 hsz
        split at h
        · rename_i hlen
          simp only [Option.some.injEq] at h; subst h
          rw [hu] at hx hy
          simp only at hx hy
          rw [hx, hy]
          rw [show D + (d + 1) = (D + d) + 1 from rfl, run_equalIn_array w _ _ _ hu hi]
          have hco : P.cellsOf e = sz := by simp [Program.cellsOf, hi, hisz]
          rw [hco, List.range_eq_range']
          have key : ∀ (m k : Nat), KindsAt (List.replicate m ks1).flatten (x.cells.toList.drop (k * sz)) → KindsAt (List.replicate m ks1).flatten (y.cells.toList.drop (k * sz)) →
              (Op.eqItems (D + d) e sz x.cells y.cells (List.range' k m)).run P w = .ok (cellsEq (x.cells.toList.drop (k * sz)) (y.cells.toList.drop (k * sz))) w := by
            intro m
            induction m with
            | zero =>
              intro k h2 h3
              have e1 : x.cells.toList.drop (k * sz) = [] := List.eq_nil_of_length_eq_zero (KindsAt.len h2)
              have e2 : y.cells.toList.drop (k * sz) = [] := List.eq_nil_of_length_eq_zero (KindsAt.len h3)
              rw [e1, e2]; simp [Op.eqItems, cellsEq]
            | succ m ihm =>
              intro k h2 h3
              rw [List.replicate_succ, List.flatten_cons] at h2 h3
              obtain ⟨a1, a2⟩ := KindsAt.split h2
              obtain ⟨b1, b2⟩ := KindsAt.split h3
              obtain ⟨u, p1, p2, p3⟩ := part_form hk1 hi (by rw [hlen, hisz]) a1 w
              obtain ⟨v, q1, q2, q3⟩ := part_form hk1 hi (by rw [hlen, hisz]) b1 w
              have he := ih e ks1 hk1 D w u v p3 q3 (by rw [p2]; exact a1) (by rw [q2]; exact b1)
              rw [p2, q2, hlen] at he
              rw [List.drop_drop, hlen, ← Nat.succ_mul] at a2 b2
              have hrest := ihm (k + 1) a2 b2
              have la := KindsAt.len h2
              have lb := KindsAt.len h3
              simp only [List.length_append] at la lb
              rw [cellsEq_split ks1.length (by omega) (by omega), List.drop_drop, List.drop_drop, hlen, ← Nat.succ_mul]
              simp only [List.range'_succ, Op.eqItems, Sem.run_bind, p1, q1, he, Result.andThen_ok]
              cases hc : cellsEq ((x.cells.toList.drop (k * sz)).take sz) ((y.cells.toList.drop (k * sz)).take sz) with
              | false => simp
              | true => simp [hrest]
          have := key n 0 (by simpa using kx) (by simpa using ky)
          simpa [Value.cells] using this
        · cases h
      · cases h
    · cases h

/-- '==' at a type, told by its kinds. -/
theorem EqOk.of {t : TypeId} {ks : List SK} (d : Nat) (hd : d ≤ 10000) (hg : P.eqGuardType P.depth t = false) (h : eqKs P d t = some ks) (hw : (match P.underlying t with | some (.struct _) => true | some (.array _ _) => true | _ => false) = true) : EqOk P t ks := by
  refine ⟨hg, fun w xs ys kx ky => ?_⟩
  have hform : ∀ zs : Array Value, Form P t (.agg zs) := by
    intro zs
    unfold Form
    cases hu : P.underlying t with
    | none => rw [hu] at hw; cases hw
    | some td => rw [hu] at hw; cases td <;> first | rfl | (cases hw)
  have := eq_sound d t ks h (10000 - d) w (.agg xs) (.agg ys) (hform xs) (hform ys) (by simpa [Value.cells] using kx) (by simpa [Value.cells] using ky)
  rw [show 10000 - d + d = 10000 by omega] at this
  simpa [Op.equal, Op.maxDepth, Value.cells] using this
end
end Sx
namespace Sx
open Go
theorem DOk.iface_of {P : Program} {t : TypeId} (h : (match P.underlying t with | some (.interface _) => true | _ => false) = true) : DOk P t .iface := by
  cases hu : P.underlying t with
  | none => rw [hu] at h; cases h
  | some d => rw [hu] at h; cases d <;> first | exact ⟨_, hu⟩ | cases h
end Sx
set_option linter.unusedVariables false
set_option linter.unusedSimpArgs false
namespace Sx
open Go

/-- There are words. -/
theorem words : ∃ uI uB uS uL uT, Std uI uB uS uL uT := ⟨iI, iB, iS, iL, iT, ⟨fun _ => rfl, fun _ => rfl, fun _ => rfl, fun _ => rfl, fun _ => rfl⟩⟩

/-- What is so of less: an answer and blocks. -/
def Weak (E0 : Hp) (R : V → Hp → Prop) (v : V) (H : Hp) : Prop := ∃ v' H', V.sub v v' ∧ subH H H' ∧ fits E0 H' [v'] = true ∧ R v' H'

theorem Weak.of {E0 : Hp} {R : V → Hp → Prop} {v v' : V} {H H' : Hp} (hR : R v' H') (h1 : V.sub v v') (h2 : subH H H') (h3 : fits E0 H' [v'] = true) : Weak E0 R v H := ⟨v', H', h1, h2, h3, hR⟩
theorem Ctr.mono {P : Program} {f : FuncId} {E0 : Hp} {args : List V} {R R' : V → Hp → Prop} (h : Ctr P f E0 args R) (hR : ∀ v H, R v H → R' v H) : Ctr P f E0 args R' :=
  ⟨h.enter, fun w0 r0 vals hg hgl hv => (h.spec w0 r0 vals hg hgl hv).mono fun e w ⟨v, x, E, r, h1, h2, h3, h4⟩ => ⟨v, x, E, r, h1, h2, hR _ _ h3, h4⟩⟩
theorem Ctr.monoR {P : Program} {f : FuncId} {E0 : Hp} {args : List V} {R R' : V → Hp → Prop} (hR : ∀ v H, R v H → R' v H) (h : Ctr P f E0 args R) : Ctr P f E0 args R' := h.mono hR
theorem Ctr.weak {P : Program} {f : FuncId} {E0 : Hp} {args : List V} {R : V → Hp → Prop} (h : Ctr P f E0 args (Weak E0 R)) : Ctr P f E0 args R := by
  refine ⟨h.enter, fun w0 r0 vals hg hgl hv => (h.spec w0 r0 vals hg hgl hv).mono ?_⟩
  rintro e w ⟨v, x, E, r, h1, h2, ⟨x', E', k1, k2, k3, k4⟩, h4, h5, h6⟩
  have hb0 : ∀ i y, r0 i = some y → i < E0.length := fun i y hy => by
    rcases Nat.lt_or_ge i E0.length with hl | hl
    · exact hl
    · rw [hg.born i (hget_ge _ _ hl)] at hy; cases hy
  obtain ⟨s, s1, s2, s3⟩ := good_sub h5 k2 k3 h4 hb0
  refine ⟨v, x', E', s, h1, cut_rel s3 (fun i hi => ?_) (sub_rel k1 h2), k4, s2, s1, h6⟩
  unfold fits at k3
  simp only [Bool.and_eq_true, llen_eq] at k3
  exact idsUp_iff.1 k3.2.1 i (by simp [idsL, hi])
/-- What comes after, its parts under names of their own. -/
structure Gen0 (p : Prop) : Prop where
  h : p
structure Gen1 {α : Type} (F : α) (k : α → Prop) : Prop where
  h : ∀ a, a = F → k a
structure Gen2 {α β : Type} (F : α) (G : β) (k : α → β → Prop) : Prop where
  h : ∀ a b, a = F → b = G → k a b
structure Gen3 {α β γ : Type} (F : α) (G : β) (D : γ) (k : α → β → γ → Prop) : Prop where
  h : ∀ a b c, a = F → b = G → c = D → k a b c
section
variable {P : Program} {f : FuncId} {E0 : Hp} {args : List V} {K : V → Hp → Prop}
theorem CallDet.mkR {x : V} {E : Hp} (k : Gen0 (K x E)) (spec : Ctr P f E0 args fun v H => v = x ∧ H = E) : CallDet P f E0 args K := .mk x E spec k.h
theorem CallDet.genR {α : Type} {F : α} {X : α → V} {Y : α → Hp} (k : Gen1 F fun a => K (X a) (Y a)) (spec : ∀ a, a = F → Ctr P f E0 args fun v H => v = X a ∧ H = Y a) : CallDet P f E0 args K :=
  .mk (X F) (Y F) (spec F rfl) (k.h F rfl)
theorem CallDet.genR2 {α β : Type} {F : α} {G : β} {X : α → β → V} {Y : α → β → Hp} (k : Gen2 F G fun a b => K (X a b) (Y a b)) (spec : ∀ a b, a = F → b = G → Ctr P f E0 args fun v H => v = X a b ∧ H = Y a b) : CallDet P f E0 args K :=
  .mk (X F G) (Y F G) (spec F G rfl rfl) (k.h F G rfl rfl)
theorem CallDet.genR3 {α β γ : Type} {F : α} {G : β} {D : γ} {X : α → β → γ → V} {Y : α → β → γ → Hp} (k : Gen3 F G D fun a b c => K (X a b c) (Y a b c)) (spec : ∀ a b c, a = F → b = G → c = D → Ctr P f E0 args fun v H => v = X a b c ∧ H = Y a b c) : CallDet P f E0 args K :=
  .mk (X F G D) (Y F G D) (spec F G D rfl rfl rfl) (k.h F G D rfl rfl rfl)
/-- Ways told apart. -/
theorem CallDet.cases (p : Prop) (h1 : p → CallDet P f E0 args K) (h2 : ¬ p → CallDet P f E0 args K) : CallDet P f E0 args K := (Classical.em p).elim h1 h2
theorem CallVC.mkR {x : V} {E : Hp} (k : Gen0 (K x E)) (spec : Ctr P f E0 args fun v H => v = x ∧ H = E) : CallVC P f E0 args K := .mk (spec.mono fun v H ⟨h1, h2⟩ => by rw [h1, h2]; exact k.h)
theorem CallVC.genR {α : Type} {F : α} {X : α → V} {Y : α → Hp} (k : Gen1 F fun a => K (X a) (Y a)) (spec : ∀ a, a = F → Ctr P f E0 args fun v H => v = X a ∧ H = Y a) : CallVC P f E0 args K := CallVC.mkR ⟨k.h F rfl⟩ (spec F rfl)
theorem CallVC.genR2 {α β : Type} {F : α} {G : β} {X : α → β → V} {Y : α → β → Hp} (k : Gen2 F G fun a b => K (X a b) (Y a b)) (spec : ∀ a b, a = F → b = G → Ctr P f E0 args fun v H => v = X a b ∧ H = Y a b) : CallVC P f E0 args K := CallVC.mkR ⟨k.h F G rfl rfl⟩ (spec F G rfl rfl)
theorem CallVC.genR3 {α β γ : Type} {F : α} {G : β} {D : γ} {X : α → β → γ → V} {Y : α → β → γ → Hp} (k : Gen3 F G D fun a b c => K (X a b c) (Y a b c)) (spec : ∀ a b c, a = F → b = G → c = D → Ctr P f E0 args fun v H => v = X a b c ∧ H = Y a b c) : CallVC P f E0 args K := CallVC.mkR ⟨k.h F G D rfl rfl rfl⟩ (spec F G D rfl rfl rfl)
theorem CallVC.cases (p : Prop) (h1 : p → CallVC P f E0 args K) (h2 : ¬ p → CallVC P f E0 args K) : CallVC P f E0 args K := (Classical.em p).elim h1 h2
end
/-- Numbers as the evaluator leaves them. -/
theorem ofN : Int.ofNat (nat_lit 0) = (0 : Int) ∧ Int.ofNat (nat_lit 1) = (1 : Int) ∧ Int.ofNat (nat_lit 2) = (2 : Int) ∧ Int.ofNat (nat_lit 3) = (3 : Int) ∧ Int.ofNat (nat_lit 4) = (4 : Int) ∧ Int.ofNat (nat_lit 5) = (5 : Int) ∧ Int.ofNat (nat_lit 6) = (6 : Int) ∧ Int.ofNat (nat_lit 7) = (7 : Int) ∧ Int.ofNat (nat_lit 8) = (8 : Int) ∧ Int.ofNat (nat_lit 9) = (9 : Int) ∧ Int.ofNat (nat_lit 10) = (10 : Int) ∧ Int.ofNat (nat_lit 11) = (11 : Int) ∧ Int.ofNat (nat_lit 12) = (12 : Int) ∧ Int.ofNat (nat_lit 13) = (13 : Int) ∧ Int.ofNat (nat_lit 14) = (14 : Int) ∧ Int.ofNat (nat_lit 15) = (15 : Int) ∧ Int.ofNat (nat_lit 16) = (16 : Int) ∧ Int.ofNat (nat_lit 17) = (17 : Int) ∧ Int.ofNat (nat_lit 18) = (18 : Int) ∧ Int.ofNat (nat_lit 19) = (19 : Int) ∧ Int.ofNat (nat_lit 20) = (20 : Int) ∧ Int.ofNat (nat_lit 21) = (21 : Int) ∧ Int.ofNat (nat_lit 22) = (22 : Int) ∧ Int.ofNat (nat_lit 23) = (23 : Int) ∧ Int.ofNat (nat_lit 24) = (24 : Int) ∧ Int.ofNat (nat_lit 25) = (25 : Int) ∧ Int.ofNat (nat_lit 26) = (26 : Int) ∧ Int.ofNat (nat_lit 27) = (27 : Int) ∧ Int.ofNat (nat_lit 28) = (28 : Int) ∧ Int.ofNat (nat_lit 29) = (29 : Int) ∧ Int.ofNat (nat_lit 30) = (30 : Int) ∧ Int.ofNat (nat_lit 31) = (31 : Int) ∧ Int.ofNat (nat_lit 32) = (32 : Int) ∧ Int.ofNat (nat_lit 33) = (33 : Int) ∧ Int.ofNat (nat_lit 34) = (34 : Int) ∧ Int.ofNat (nat_lit 35) = (35 : Int) ∧ Int.ofNat (nat_lit 36) = (36 : Int) ∧ Int.ofNat (nat_lit 37) = (37 : Int) ∧ Int.ofNat (nat_lit 38) = (38 : Int) ∧ Int.ofNat (nat_lit 39) = (39 : Int) ∧ Int.ofNat (nat_lit 40) = (40 : Int) ∧ Int.ofNat (nat_lit 41) = (41 : Int) ∧ Int.ofNat (nat_lit 42) = (42 : Int) ∧ Int.ofNat (nat_lit 43) = (43 : Int) ∧ Int.ofNat (nat_lit 44) = (44 : Int) ∧ Int.ofNat (nat_lit 45) = (45 : Int) ∧ Int.ofNat (nat_lit 46) = (46 : Int) ∧ Int.ofNat (nat_lit 47) = (47 : Int) ∧ Int.ofNat (nat_lit 48) = (48 : Int) ∧ Int.ofNat (nat_lit 49) = (49 : Int) ∧ Int.ofNat (nat_lit 50) = (50 : Int) ∧ Int.ofNat (nat_lit 51) = (51 : Int) ∧ Int.ofNat (nat_lit 52) = (52 : Int) ∧ Int.ofNat (nat_lit 53) = (53 : Int) ∧ Int.ofNat (nat_lit 54) = (54 : Int) ∧ Int.ofNat (nat_lit 55) = (55 : Int) ∧ Int.ofNat (nat_lit 56) = (56 : Int) ∧ Int.ofNat (nat_lit 57) = (57 : Int) ∧ Int.ofNat (nat_lit 58) = (58 : Int) ∧ Int.ofNat (nat_lit 59) = (59 : Int) ∧ Int.ofNat (nat_lit 60) = (60 : Int) ∧ Int.ofNat (nat_lit 61) = (61 : Int) ∧ Int.ofNat (nat_lit 62) = (62 : Int) ∧ Int.ofNat (nat_lit 63) = (63 : Int) ∧ Int.ofNat (nat_lit 64) = (64 : Int) ∧ Int.ofNat (nat_lit 65) = (65 : Int) ∧ Int.ofNat (nat_lit 100) = (100 : Int) ∧ Int.ofNat (nat_lit 127) = (127 : Int) ∧ Int.ofNat (nat_lit 128) = (128 : Int) ∧ Int.ofNat (nat_lit 199) = (199 : Int) ∧ Int.ofNat (nat_lit 200) = (200 : Int) ∧ Int.ofNat (nat_lit 206) = (206 : Int) ∧ Int.ofNat (nat_lit 255) = (255 : Int) ∧ Int.ofNat (nat_lit 256) = (256 : Int) ∧ Int.ofNat (nat_lit 257) = (257 : Int) ∧ Int.ofNat (nat_lit 300) = (300 : Int) ∧ Int.ofNat (nat_lit 400) = (400 : Int) ∧ Int.ofNat (nat_lit 511) = (511 : Int) ∧ Int.ofNat (nat_lit 512) = (512 : Int) ∧ Int.ofNat (nat_lit 65535) = (65535 : Int) ∧ Int.ofNat (nat_lit 65536) = (65536 : Int) := by
  refine ⟨rfl, rfl, rfl, rfl, rfl, rfl, rfl, rfl, rfl, rfl, rfl, rfl, rfl, rfl, rfl, rfl, rfl, rfl, rfl, rfl, rfl, rfl, rfl, rfl, rfl, rfl, rfl, rfl, rfl, rfl, rfl, rfl, rfl, rfl, rfl, rfl, rfl, rfl, rfl, rfl, rfl, rfl, rfl, rfl, rfl, rfl, rfl, rfl, rfl, rfl, rfl, rfl, rfl, rfl, rfl, rfl, rfl, rfl, rfl, rfl, rfl, rfl, rfl, rfl, rfl, rfl, rfl, rfl, rfl, rfl, rfl, rfl, rfl, rfl, rfl, rfl, rfl, rfl, rfl, rfl, rfl⟩
theorem ofNatc (n : Nat) : Int.ofNat n = @NatCast.natCast Int instNatCastInt n := rfl
theorem natc (n : Nat) : @NatCast.natCast Int instNatCastInt n = Int.ofNat n := rfl

end Sx
set_option linter.unusedVariables false
set_option linter.unusedSimpArgs false
namespace Sx
open Go
section
variable {P : Program} {w : World}

/-- Blocks that are only read: what came in. -/
structure RoIn (P : Program) (w : World) (x : RA) (b : Blk) : Prop where
  ro : b.mut = false
  live : b.live = true
  rel : ∀ r, BRel P r w x b
  below : ∀ g, b.uses w x g → g < w.heap.size
def rhoOf (l : List RA) : Rho := fun i => l[i]?
/-- All that came in. -/
def AllRo (P : Program) (w : World) : List RA → Hp → Prop
  | [], [] => True
  | x :: l, b :: E => RoIn P w x b ∧ AllRo P w l E
  | _, _ => False
theorem AllRo.get : ∀ {l : List RA} {E : Hp}, AllRo P w l E → ∀ i, (∃ x, l[i]? = some x ∧ RoIn P w x (hget E i)) ∨ (l[i]? = none ∧ hget E i = .unborn)
  | [], [], _, i => .inr ⟨by simp, rfl⟩
  | x :: l, b :: E, h, 0 => by simp only [AllRo] at h; exact .inl ⟨x, rfl, h.1⟩
  | x :: l, b :: E, h, i + 1 => by simp only [AllRo] at h; simpa [hget] using AllRo.get h.2 i
  | [], _ :: _, h, _ => by simp [AllRo] at h
  | _ :: _, [], h, _ => by simp [AllRo] at h
theorem good_ro {l : List RA} {E : Hp} (h : AllRo P w l E) : Good P (ownOf (rhoOf l) E w) (rhoOf l) E w := by
  have hmut : ∀ i, (hget E i).mut = false := fun i => by
    rcases h.get i with ⟨x, _, hr⟩ | ⟨_, hu⟩
    · exact hr.ro
    · rw [hu]; rfl
  refine ⟨fun i hi => ?_, fun i hi => ?_, fun i x b hm _ _ => ?_, fun i j x y b g _ hm => ?_, fun i x g hl hx hu => ?_, fun i x g hl hx hu => .inr ⟨i, x, hl, hx, hu⟩⟩
  · rcases h.get i with ⟨x, _, hr⟩ | ⟨hn, _⟩
    · have := hr.live; rw [hi] at this; cases this
    · exact hn
  · rcases h.get i with ⟨x, hx, hr⟩ | ⟨_, hu⟩
    · exact ⟨x, hx, hr.rel _⟩
    · exact absurd hu hi
  · rw [hmut] at hm; cases hm
  · rw [hmut] at hm; cases hm
  · rcases h.get i with ⟨y, hy, hr⟩ | ⟨hn, _⟩
    · have : l[i]? = some x := hx
      rw [hy] at this; cases this
      exact hr.below g hu
    · have : l[i]? = some x := hx
      rw [hn] at this; cases this
/-- **A law**: a contract over what is only read, that answers true. -/
theorem Ctr.law {f : FuncId} {l : List RA} {E : Hp} {args : List V} {vals : List Value} {R : V → Hp → Prop} (h : Ctr P f E args R) (hR : ∀ v H, R v H → ∀ r x, VRel r v x → x = .bool true) (hE : AllRo P w l E) (hG : ∀ g i v, globCell P g i = some v → w.cell? ⟨g, i, none⟩ = some v) (hv : VRelL (rhoOf l) args vals) :
    Calls P f vals.toArray w fun e w' => e = .returned (.bool true) ∧ Go.RowKit.Below w.heap.size w w' := by
  refine (h.spec w (rhoOf l) vals (good_ro hE) ?_ hv).mono ?_
  · intro g q v hgv
    refine ⟨hG g q v hgv, ?_⟩
    have hc := hG g q v hgv
    rintro (hn | ⟨i, y, b, hm, _⟩)
    · simp [World.cell?, Array.getElem?_eq_none hn] at hc
    · rcases hE.get i with ⟨z, _, hr⟩ | ⟨_, hu⟩
      · rw [hr.ro] at hm; cases hm
      · rw [hu] at hm; cases hm
  rintro e w' ⟨v, x, E', r, rfl, h1, h2, h3, h4, h5⟩
  refine ⟨by rw [hR x E' h2 r v h1], ⟨h5.os, h5.tape, h5.output, h5.size, fun k hk => h5.block k hk ?_⟩⟩
  rintro (hn | ⟨i, y, b, hm, _⟩)
  · omega
  · rcases hE.get i with ⟨z, _, hr⟩ | ⟨_, hu⟩
    · rw [hr.ro] at hm; cases hm
    · rw [hu] at hm; cases hm
/-- A row of numbers that came in. -/
theorem roIn_ints {k : IntKind} {t : TypeId} {xs : List Int} {a : Option Addr} {cap : Nat} (hlt : ∀ x, a = some x → xs ≠ [] → x.block < w.heap.size) (hc : xs ≠ [] → ∃ x, a = some x ∧ ∀ i, i < xs.length → w.cell? (x.add i) = some (.int k (xs.getD i 0))) :
    RoIn P w ⟨if xs = [] then none else a, cap⟩ (.cols .ro t [.ints k (.sym xs)]) := by
  refine ⟨rfl, rfl, fun r => ?_, fun g hu => ?_⟩
  · simp only [BRel]
    refine ⟨_, _, colsAt_ints_mk k (.sym xs), by simp, fun hne => ?_, fun b q v hb hq => ?_⟩
    · have hx : xs ≠ [] := by rintro rfl; simp [Lv.raw] at hne
      obtain ⟨x, hx1, _⟩ := hc hx
      exact ⟨x, by simp [hx, hx1]⟩
    · by_cases hx : xs = []
      · simp [hx] at hb
      · obtain ⟨x, hx1, hx2⟩ := hc hx
        simp only [hx, if_false, hx1, Option.some.injEq] at hb; subst hb
        simp only [Lv.raw, List.getElem?_map] at hq
        obtain ⟨y, hy, rfl⟩ := Option.map_eq_some_iff.1 hq
        have hl := (List.getElem?_eq_some_iff.1 hy).1
        rw [hx2 q hl]
        simp [List.getD, hy]
  · obtain ⟨b, hb, rfl⟩ := hu
    by_cases hx : xs = []
    · simp [hx] at hb
    · simp only [hx, if_false] at hb
      exact hlt b hb hx
end
end Sx
set_option linter.unusedVariables false
set_option linter.unusedSimpArgs false
namespace Sx
open Go Go.ChangeShapes Go.WideShapes Go.RowKit

/-- A cell's kind, as it came in. -/
inductive CK where
  | int (k : IntKind)
  | str
  | bool
  | sl (e : TypeId) (ks : List CK)
mutual
def CellOk (w : World) : CK → Value → Prop
  | .int k, v => ∃ n, v = .int k n ∧ (Lit.int k n).wf = true
  | .str, v => ∃ s : ByteArray, v = .string s ∧ s.size ≤ maxLen
  | .bool, v => ∃ b, v = .bool b
  | .sl e ks, v => ∃ (A : Option Addr) (len cap : Nat) (rows : List (List Value)), v = .slice A len cap ∧ len ≤ cap ∧ cap ≤ maxLen ∧ rows.length = len ∧ (0 < len → ∃ a, A = some a ∧ a.block < w.heap.size) ∧
      (∀ vs, vs ∈ rows → CellsOk w ks vs) ∧ ∀ a, A = some a → ∀ i j, i < len → j < ks.length → w.cell? (a.add (i * ks.length + j)) = (rows.getD i [])[j]?
def CellsOk (w : World) : List CK → List Value → Prop
  | [], [] => True
  | k :: ks, v :: vs => CellOk w k v ∧ CellsOk w ks vs
  | _, _ => False
end
theorem CellsOk.len {w : World} : ∀ {ks : List CK} {vs : List Value}, CellsOk w ks vs → vs.length = ks.length
  | [], [], _ => rfl
  | k :: ks, v :: vs, h => by simp only [CellsOk] at h; simp [CellsOk.len h.2]
  | [], _ :: _, h => by simp [CellsOk] at h
  | _ :: _, [], h => by simp [CellsOk] at h
theorem CellsOk.append {w : World} : ∀ {ks ks' : List CK} {vs vs' : List Value}, CellsOk w ks vs → CellsOk w ks' vs' → CellsOk w (ks ++ ks') (vs ++ vs')
  | [], _, [], _, _, h => h
  | k :: ks, ks', v :: vs, vs', h, h' => by simp only [CellsOk, List.cons_append] at h ⊢; exact ⟨h.1, CellsOk.append h.2 h'⟩
  | [], _, _ :: _, _, h, _ => by simp [CellsOk] at h
  | _ :: _, _, [], _, h, _ => by simp [CellsOk] at h
def repK (n : Nat) (ks : List CK) : List CK :=
  match n with
  | 0 => []
  | n + 1 => ks ++ repK n ks
/-- The kinds of fields that lie one behind the other. -/
def kindsFs (f : TypeId → Option (List CK)) : Nat → List Field → Option (List CK)
  | _, [] => some []
  | o, x :: r => match f x.type with
    | some ks => if x.offset = o then (match kindsFs f (o + ks.length) r with
      | some l => some (ks ++ l)
      | none => none) else none
    | none => none
def kindsOf (P : Program) : Nat → TypeId → Option (List CK)
  | 0, _ => none
  | n + 1, t => match P.underlying t with
    | some (.int k) => some [.int k]
    | some .string => some [.str]
    | some .bool => some [.bool]
    | some (.struct fs) => match kindsFs (kindsOf P n) 0 fs.toList with
      | some ks => if ks.length = P.cellsOf t then some ks else none
      | none => none
    | some (.array m e) => match kindsOf P n e with
      | some ks => if m * ks.length = P.cellsOf t ∧ ks.length = P.cellsOf e then some (repK m ks) else none
      | none => none
    | some (.slice e) => match kindsOf P n e with
      | some ks => if ks.length = P.cellsOf e ∧ 0 < ks.length then some [.sl e ks] else none
      | none => none
    | _ => none

section
variable {H : Type} {enc : TypeId × Value → H} {P : Program} {w : World}

theorem repK_ok {ks : List CK} : ∀ {n : Nat} {cs : List Value}, cs.length = n * ks.length → (∀ i, i < n → CellsOk w ks ((cs.drop (i * ks.length)).take ks.length)) → CellsOk w (repK n ks) cs
  | 0, cs, hl, _ => by
    have : cs = [] := List.eq_nil_of_length_eq_zero (by omega)
    subst this; simp [repK, CellsOk]
  | n + 1, cs, hl, h => by
    have e : cs = cs.take ks.length ++ cs.drop ks.length := (List.take_append_drop _ _).symm
    rw [e]
    simp only [repK]
    refine CellsOk.append (by have := h 0 (by omega); simpa using this) (repK_ok (by simp [hl, Nat.add_mul]) (fun i hi => ?_))
    have := h (i + 1) (by omega)
    rw [List.drop_drop]
    rw [show (i + 1) * ks.length = ks.length + i * ks.length by rw [Nat.add_mul]; omega] at this
    exact this
theorem take_same {α : Type} (l : List α) {c k : Nat} (h : (l.take c).length = k) : l.take c = l.take k := by
  rw [List.length_take] at h
  subst h
  rw [List.take_eq_take_min]
theorem kindsFs_ok {f : TypeId → Option (List CK)} : ∀ (fs : List Field) (o : Nat) (cs : List Value) (ks : List CK), kindsFs f o fs = some ks →
    (∀ x ∈ fs, ∀ k, f x.type = some k → CellsOk w k ((cs.drop x.offset).take (P.cellsOf x.type))) → CellsOk w ks ((cs.drop o).take ks.length)
  | [], o, cs, ks, h, _ => by simp only [kindsFs, Option.some.injEq] at h; subst h; simp [CellsOk]
  | x :: r, o, cs, ks, h, hx => by
    simp only [kindsFs] at h
    split at h
    · rename_i k hk
      split at h
      · rename_i ho
        split at h
        · rename_i l hl
          simp only [Option.some.injEq] at h; subst h
          have h1 := hx x (by simp) k hk
          rw [take_same _ h1.len, ho] at h1
          have h2 := kindsFs_ok r _ cs _ hl (fun y hy => hx y (by simp [hy]))
          have e : (cs.drop o).take (k ++ l).length = (cs.drop o).take k.length ++ (cs.drop (o + k.length)).take l.length := by
            rw [List.length_append, List.take_add, List.drop_drop]
          rw [e]; exact h1.append h2
        · cases h
      · cases h
    · cases h

theorem kinds_ok {held : Bool} : ∀ (n : Nat) {t : TypeId} {fuel : Nat} {cs : List Value} {x : DataW H × List MemPlace} {ks : List CK}, DataW.trod enc P w 0 (fun _ => true) held fuel t cs = some x → kindsOf P n t = some ks → CellsOk w ks cs
  | 0, _, _, _, _, _, _, h => by simp [kindsOf] at h
  | n + 1, t, fuel, cs, x, ks, hx, h => by
    have hlt := DataW.trod_lt (enc := enc) (P := P) (w := w) (base := 0) (spare := fun _ => true) (held := held) fuel t cs x hx
    simp only [kindsOf] at h
    split at h
    · rename_i k ht
      simp only [Option.some.injEq] at h; subst h
      obtain ⟨m, rfl, _, hw⟩ := DataW.trod_int ht hx
      exact ⟨⟨m, rfl, hw⟩, trivial⟩
    · rename_i ht
      simp only [Option.some.injEq] at h; subst h
      obtain ⟨m, rfl, _, hw⟩ := DataW.trod_string ht hx
      exact ⟨⟨m, rfl, hw⟩, trivial⟩
    · rename_i ht
      simp only [Option.some.injEq] at h; subst h
      obtain ⟨m, rfl, _⟩ := DataW.trod_bool ht hx
      exact ⟨⟨m, rfl⟩, trivial⟩
    · rename_i fs ht
      split at h
      · rename_i l hl
        split at h
        · rename_i hlen
          simp only [Option.some.injEq] at h; subst h
          obtain ⟨xs, m, _, _, hcl, hxl, hf⟩ := DataW.trod_struct ht hx
          have := kindsFs_ok (P := P) (w := w) fs.toList 0 cs l hl (fun y hy k hk => by
            obtain ⟨i, hi⟩ := List.getElem?_of_mem hy
            have hi' : fs[i]? = some y := by simpa using hi
            have hil : i < fs.size := by
              rcases Nat.lt_or_ge i fs.size with h | h
              · exact h
              · rw [Array.getElem?_eq_none h] at hi'; cases hi'
            have hxi := hf i y hi'
            rw [List.getElem?_eq_getElem (by omega)] at hxi
            exact kinds_ok n hxi hk)
          rwa [List.drop_zero, List.take_of_length_le (by omega)] at this
        · cases h
      · cases h
    · rename_i m e ht
      split at h
      · rename_i l hl
        split at h
        · rename_i hlen
          simp only [Option.some.injEq] at h; subst h
          obtain ⟨xs, q, _, _, hcl, hxl, hf⟩ := DataW.trod_array ht hx
          refine repK_ok (by omega) (fun i hi => ?_)
          have hxi := hf i hi
          rw [List.getElem?_eq_getElem (by omega), ← hlen.2] at hxi
          exact kinds_ok n hxi hl
        · cases h
      · cases h
    · rename_i e ht
      split at h
      · rename_i l hl
        split at h
        · rename_i hlen
          simp only [Option.some.injEq] at h; subst h
          rcases DataW.trod_slice ht hx with ⟨rfl, _⟩ | ⟨a, len, cap, elems, rest, q, _, rfl, rfl, hb, hll, hm, hel, hei, _, _⟩
          · exact ⟨⟨none, 0, 0, [], rfl, by omega, by unfold maxLen; omega, rfl, by omega, by simp, by simp⟩, trivial⟩
          · have each : ∀ i, i < len → ∃ vs, w.cells? 0 (a.add (i * P.cellsOf e)) (P.cellsOf e) = some vs ∧ CellsOk w l vs := by
              intro i hi
              have := hei i hi
              rw [List.getElem?_eq_getElem (by omega)] at this
              obtain ⟨vs, h1, h2⟩ := Option.bind_eq_some_iff.1 this
              exact ⟨vs, h1, kinds_ok n h2 hl⟩
            refine ⟨⟨some a, len, cap, (List.range len).map fun i => (w.cells? 0 (a.add (i * P.cellsOf e)) (P.cellsOf e)).getD [], rfl, hll, hm, by simp, fun h0 => ⟨a, rfl, ?_⟩, fun vs hvs => ?_, fun b hb' i j hi hj => ?_⟩, trivial⟩
            · refine hlt (.cell a.block a.off) ?_
              simp only [List.mem_append]
              left
              simp only [MemPlace.row, List.mem_map, List.mem_range]
              exact ⟨0, Nat.mul_pos (by omega) (by omega), by simp⟩
            · obtain ⟨i, hi, rfl⟩ := List.mem_map.1 hvs
              obtain ⟨vs, h1, h2⟩ := each i (List.mem_range.1 hi)
              rw [h1]; exact h2
            · cases hb'
              obtain ⟨vs, h1, h2⟩ := each i hi
              obtain ⟨_, h3, h4⟩ := World.cells?_some h1
              have e1 : ((List.range len).map fun i => (w.cells? 0 (a.add (i * P.cellsOf e)) (P.cellsOf e)).getD []).getD i [] = vs := by
                simp [List.getD, hi, h1]
              rw [e1, hlen.1, ← h4 j (by omega), add_add]
        · cases h
      · cases h
    · cases h

theorem cell_of_okWide {t : TypeId} {v : Value} {base : Nat} {r : Reach} (h : Value.okWide P w r base t v) : (∃ cs, v = .agg cs ∧ v.cells = cs) ∨ v.cells = #[v] := by
  cases v <;> first | exact .inl ⟨_, rfl, rfl⟩ | exact .inr rfl
/-- An argument that came in: its value. -/
theorem arg_ok {held : Bool} {n : Nat} {t : TypeId} {v : Value} {d : DataW H} {p : List MemPlace} {ks : List CK} (h : DataW.Trod enc P w 0 (fun _ => true) held t v d p) (hk : kindsOf P n t = some ks) : CellsOk w ks v.cells.toList := by
  obtain ⟨fuel, hf⟩ := h
  exact kinds_ok n hf hk
theorem arg_agg {t : TypeId} {v : Value} {base : Nat} {r : Reach} (hv : Value.okWide P w r base t v) (ha : (match P.underlying t with | some (.struct _) | some (.array _ _) => true | _ => false) = true) : ∃ cs : List Value, v = .agg cs.toArray ∧ v.cells.toList = cs := by
  unfold Value.okWide at hv
  split at hv
  · obtain ⟨cs, rfl, _⟩ := hv; exact ⟨cs.toList, by simp, rfl⟩
  · obtain ⟨cs, rfl, _⟩ := hv; exact ⟨cs.toList, by simp, rfl⟩
  · rename_i h1 h2
    exfalso
    revert ha
    split
    · rename_i fs h; exact absurd h (h1 fs)
    · rename_i m e h; exact absurd h (h2 m e)
    · simp
theorem arg_one {t : TypeId} {v : Value} {base : Nat} {r : Reach} (hv : Value.okWide P w r base t v) (ha : (match P.underlying t with | some (.struct _) | some (.array _ _) => true | _ => false) = false) : v.cells.toList = [v] := by
  unfold Value.okWide at hv
  split at hv
  · rename_i h; rw [h] at ha; cases ha
  · rename_i h; rw [h] at ha; cases ha
  · cases v <;> first | rfl | (rename_i cs; unfold Cell.okWide at hv; revert hv; split <;> simp_all [Cell.ok])

/-- The arguments read as they did. -/
theorem trodAll_below {W W' : World} (hlo : laidOutB P = true) (bel : Below W.heap.size W W') : ∀ {ts : List TypeId} {vs : List Value} {ds : List (DataW H)} {ps : List MemPlace},
    (ts.all fun t => P.readableRec t && decide (t < P.types.size)) = true → DataW.TrodAll enc P W 0 (fun _ => true) true ts vs ds ps → (∀ x ∈ ps, x.block < W.heap.size) → DataW.TrodAll enc P W' 0 (fun b => decide (b < W.heap.size)) true ts vs ds ps
  | [], [], [], _, _, h, _ => h
  | t :: ts, v :: vs, d :: ds, ps, hr, h, hlt => by
    obtain ⟨p, q, h1, h2, rfl⟩ := h
    simp only [List.all_cons, Bool.and_eq_true, decide_eq_true_eq] at hr
    exact ⟨p, q, Below.trod hlo hr.1.1 hr.1.2 h1 bel (fun x hx => hlt x (by simp [hx])), trodAll_below hlo bel hr.2 h2 (fun x hx => hlt x (by simp [hx])), rfl⟩
  | [], _ :: _, _, _, _, h, _ => by simp [DataW.TrodAll] at h
  | [], [], _ :: _, _, _, h, _ => by simp [DataW.TrodAll] at h
  | _ :: _, [], _, _, _, h, _ => by simp [DataW.TrodAll] at h
  | _ :: _, _ :: _, [], _, _, h, _ => by simp [DataW.TrodAll] at h
/-- What an answer 'true' over memory that stays makes of the arguments. -/
theorem args_done {W W' : World} {base : Nat} {ts : List TypeId} {vs : List Value} {ds : List (DataW H)} {ps : List MemPlace} (hlo : laidOutB P = true) (bel : Below W.heap.size W W')
    (hr : (ts.all fun t => P.readableRec t && decide (t < P.types.size)) = true) (h : DataW.TrodAll enc P W 0 (fun _ => true) true ts vs ds ps) : DataW.TrodAll enc P W' 0 (fun b => decide (b < W.heap.size)) true ts vs ds ps :=
  trodAll_below hlo bel hr h (DataW.TrodAll.lt h)
end
end Sx
set_option linter.unusedVariables false
set_option linter.unusedSimpArgs false
namespace Sx
open Go Go.ChangeShapes Go.WideShapes Go.RowKit

def CK.flat : CK → Bool
  | .sl _ _ => false
  | _ => true
def vInt : Value → Int
  | .int _ n => n
  | _ => 0
def vStr : Value → ByteArray
  | .string s => s
  | _ => ByteArray.empty
def vBool : Value → Bool
  | .bool b => b
  | _ => false
def colInts (rows : List (List Value)) (j : Nat) : List Int := rows.map fun r => vInt (r.getD j undef)
def colStrs (rows : List (List Value)) (j : Nat) : List ByteArray := rows.map fun r => vStr (r.getD j undef)
def colBools (rows : List (List Value)) (j : Nat) : List Bool := rows.map fun r => vBool (r.getD j undef)
def colOfK (rows : List (List Value)) (j : Nat) : CK → Col
  | .int k => .ints k (.sym (colInts rows j))
  | .str => .strs (.sym (colStrs rows j))
  | _ => .bools (colBools rows j)
def colsFrom (rows : List (List Value)) : Nat → List CK → List Col
  | _, [] => []
  | j, k :: ks => colOfK rows j k :: colsFrom rows (j + 1) ks
theorem colsFrom_len (rows : List (List Value)) : ∀ (j : Nat) (ks : List CK), (colsFrom rows j ks).length = ks.length
  | _, [] => rfl
  | j, k :: ks => by simp [colsFrom, colsFrom_len rows (j + 1) ks]
theorem colsFrom_get (rows : List (List Value)) : ∀ (ks : List CK) (o j : Nat) (c : Col), colAt (colsFrom rows o ks) j = some c → ∃ k, ks[j]? = some k ∧ c = colOfK rows (o + j) k
  | [], o, j, c, h => by simp [colsFrom, colAt] at h
  | k :: ks, o, 0, c, h => by simp only [colsFrom, colAt, Option.some.injEq] at h; exact ⟨k, rfl, h.symm⟩
  | k :: ks, o, j + 1, c, h => by
    simp only [colsFrom, colAt] at h
    obtain ⟨k', h1, h2⟩ := colsFrom_get rows ks (o + 1) j c h
    exact ⟨k', h1, by rw [h2]; congr 1; omega⟩
theorem colsFrom_size (rows : List (List Value)) : ∀ (j : Nat) (ks : List CK), ∀ c ∈ colsFrom rows j ks, c.size = rows.length
  | _, [], c, h => by simp [colsFrom] at h
  | j, k :: ks, c, h => by
    simp only [colsFrom, List.mem_cons] at h
    rcases h with rfl | h
    · cases k <;> simp [colOfK, Col.size, Lv.raw, Tv.raw, colInts, colStrs, colBools]
    · exact colsFrom_size rows (j + 1) ks c h
theorem flatten_get {m : Nat} : ∀ {rows : List (List Value)} {i j : Nat}, (∀ r ∈ rows, r.length = m) → j < m → rows.flatten[i * m + j]? = (rows[i]?).bind fun r => r[j]?
  | [], i, j, _, _ => by simp
  | r :: rows, 0, j, h, hj => by
    have := h r (by simp)
    simp [List.getElem?_append_left (show j < r.length by omega)]
  | r :: rows, i + 1, j, h, hj => by
    have h1 := h r (by simp)
    rw [List.flatten_cons, List.getElem?_append_right (by rw [h1, Nat.add_mul]; omega), h1, show (i + 1) * m + j - m = i * m + j by rw [Nat.add_mul]; omega]
    simpa using flatten_get (i := i) (fun q hq => h q (by simp [hq])) hj
theorem flatten_len {m : Nat} : ∀ {rows : List (List Value)}, (∀ r ∈ rows, r.length = m) → rows.flatten.length = rows.length * m
  | [], _ => by simp
  | r :: rows, h => by
    rw [List.flatten_cons, List.length_append, flatten_len (fun q hq => h q (by simp [hq])), h r (by simp), List.length_cons, Nat.add_mul]; omega
theorem CellsOk.get {w : World} : ∀ {ks : List CK} {vs : List Value} {j : Nat} {k : CK}, CellsOk w ks vs → ks[j]? = some k → ∃ v, vs[j]? = some v ∧ CellOk w k v
  | [], [], _, _, _, h => by simp at h
  | k :: ks, v :: vs, 0, k', h, hk => by simp only [CellsOk] at h; simp at hk; subst hk; exact ⟨v, rfl, h.1⟩
  | k :: ks, v :: vs, j + 1, k', h, hk => by simp only [CellsOk] at h; simpa using CellsOk.get h.2 (by simpa using hk)
  | [], _ :: _, _, _, h, _ => by simp [CellsOk] at h
  | _ :: _, [], _, _, h, _ => by simp [CellsOk] at h

section
variable {P : Program} {w : World} {ks : List CK} {rows : List (List Value)}

theorem colsFrom_at (h : ∀ r ∈ rows, CellsOk w ks r) (hf : ks.all CK.flat = true) : ColsAt (colsFrom rows 0 ks) rows.flatten rows.length := by
  have hl : ∀ r ∈ rows, r.length = ks.length := fun r hr => (h r hr).len
  refine ⟨by rw [flatten_len hl, colsFrom_len], colsFrom_size rows 0 ks, fun i j c hi hc => ?_⟩
  obtain ⟨k, h1, rfl⟩ := colsFrom_get rows ks 0 j c hc
  have hj : j < ks.length := (List.getElem?_eq_some_iff.1 h1).1
  rw [colsFrom_len, flatten_get hl hj, Nat.zero_add]
  have hr : rows[i]? = some rows[i] := List.getElem?_eq_getElem hi
  obtain ⟨v, h2, h3⟩ := (h _ (List.getElem_mem hi)).get h1
  have hflat : k.flat = true := List.all_eq_true.1 hf k (List.mem_of_getElem? h1)
  have hd : (rows[i]).getD j undef = v := by rw [List.getD_eq_getElem?_getD, h2]; rfl
  rw [hr]
  simp only [Option.bind_some, h2]
  cases k with
  | int k => obtain ⟨n, rfl, _⟩ := h3; simp [colOfK, Col.cell, Lv.raw, colInts, hr, h2, vInt]
  | str => obtain ⟨n, rfl, _⟩ := h3; simp [colOfK, Col.cell, Tv.raw, colStrs, hr, h2, vStr]
  | bool => obtain ⟨n, rfl⟩ := h3; simp [colOfK, Col.cell, colBools, hr, h2, vBool]
  | sl => simp [CK.flat] at hflat
theorem colInts_wf {j : Nat} {k : IntKind} (h : ∀ r ∈ rows, CellsOk w ks r) (hk : ks[j]? = some (.int k)) : ∀ x ∈ colInts rows j, (Lit.int k x).wf = true := by
  intro x hx
  obtain ⟨r, hr, rfl⟩ := List.mem_map.1 hx
  obtain ⟨v, h2, n, rfl, h3⟩ := (h r hr).get hk
  rw [List.getD_eq_getElem?_getD, h2]; exact h3
theorem colStrs_size {j : Nat} (h : ∀ r ∈ rows, CellsOk w ks r) (hk : ks[j]? = some .str) : ∀ x ∈ colStrs rows j, x.size ≤ maxLen := by
  intro x hx
  obtain ⟨r, hr, rfl⟩ := List.mem_map.1 hx
  obtain ⟨v, h2, n, rfl, h3⟩ := (h r hr).get hk
  rw [List.getD_eq_getElem?_getD, h2]; exact h3

/-- A slice that came in, of plain elements. -/
theorem slice_in (P : Program) {e : TypeId} {v : Value} (h : CellOk w (.sl e ks) v) (hf : ks.all CK.flat = true) (hne : ks ≠ []) :
    ∃ (x : RA) (rows : List (List Value)), (∀ (r : Rho) (j : Nat), r j = some x → VRel r (.sl j (.lit 0) (.sym (rows.length : Int))) v) ∧ RoIn P w x (.cols .ro e (colsFrom rows 0 ks)) ∧ (∀ r ∈ rows, CellsOk w ks r) ∧ rows.length ≤ maxLen := by
  obtain ⟨A, len, cap, rows, rfl, h1, h2, h3, h4, h5, h6⟩ := h
  have hl : ∀ r ∈ rows, r.length = ks.length := fun r hr => (h5 r hr).len
  have hpos : 0 < ks.length := List.length_pos_iff.2 hne
  refine ⟨⟨if len = 0 then none else A, cap⟩, rows, fun r j hr => ?_, ⟨rfl, rfl, fun r => ?_, fun g hu => ?_⟩, h5, by omega⟩
  · simp only [VRel]
    refine ⟨_, len, cap, A, hr, by simp [h3], h1, by simp, rfl, fun h0 => ?_⟩
    obtain ⟨a, rfl, _⟩ := h4 h0
    exact ⟨a, by simp [show len ≠ 0 by omega], by simp [Addr.add]⟩
  · simp only [BRel]
    refine ⟨rows.flatten, rows.length, colsFrom_at h5 hf, ?_, fun hne' => ?_, fun b q v hb hq => ?_⟩
    · intro e0
      have := colsFrom_len rows 0 ks
      rw [e0] at this; simp at this; omega
    · have hr0 : 0 < rows.length := by
        cases rows with
        | nil => simp at hne'
        | cons => simp
      obtain ⟨a, rfl, _⟩ := h4 (by omega)
      exact ⟨a, by simp [show len ≠ 0 by omega]⟩
    · by_cases h0 : len = 0
      · simp [h0] at hb
      · simp only [h0, if_false] at hb
        have hq' := (List.getElem?_eq_some_iff.1 hq).1
        rw [flatten_len hl, h3] at hq'
        have e1 : q = q / ks.length * ks.length + q % ks.length := by rw [Nat.div_add_mod']
        have hi : q / ks.length < len := (Nat.div_lt_iff_lt_mul hpos).2 hq'
        have hj : q % ks.length < ks.length := Nat.mod_lt _ hpos
        have := h6 b hb _ _ hi hj
        rw [← e1] at this
        rw [this, ← hq]
        conv => rhs; rw [e1, flatten_get hl hj]
        rw [List.getElem?_eq_getElem (by omega : q / ks.length < rows.length), List.getD_eq_getElem?_getD, List.getElem?_eq_getElem (by omega : q / ks.length < rows.length)]
        rfl
  · obtain ⟨b, hb, rfl⟩ := hu
    by_cases h0 : len = 0
    · simp [h0] at hb
    · simp only [h0, if_false] at hb
      obtain ⟨a, ha, hlt⟩ := h4 (by omega)
      rw [ha] at hb; cases hb
      exact hlt
theorem repK_rows {n : Nat} : ∀ {cs : List Value}, CellsOk w (repK n ks) cs → ∃ rows : List (List Value), rows.length = n ∧ (∀ r ∈ rows, CellsOk w ks r) ∧ cs = rows.flatten := by
  induction n with
  | zero =>
    intro cs h
    have : cs = [] := List.eq_nil_of_length_eq_zero (by simpa [repK] using h.len)
    exact ⟨[], rfl, by simp, by simp [this]⟩
  | succ n ih =>
    intro cs h
    have hlen := h.len
    simp only [repK, List.length_append] at hlen
    have split : ∀ {a b : List CK} {vs : List Value}, CellsOk w (a ++ b) vs → CellsOk w a (vs.take a.length) ∧ CellsOk w b (vs.drop a.length) := by
      intro a
      induction a with
      | nil => intro b vs h; simpa [CellsOk] using h
      | cons k a iha =>
        intro b vs h
        cases vs with
        | nil => simp [CellsOk] at h
        | cons v vs =>
          simp only [List.cons_append, CellsOk] at h
          have := iha h.2
          simpa [CellsOk] using ⟨⟨h.1, this.1⟩, this.2⟩
    obtain ⟨h1, h2⟩ := split (by simpa [repK] using h)
    obtain ⟨rows, r1, r2, r3⟩ := ih h2
    refine ⟨cs.take ks.length :: rows, by simp [r1], fun r hr => ?_, by rw [List.flatten_cons, ← r3, List.take_append_drop]⟩
    rcases List.mem_cons.1 hr with rfl | hr
    · exact h1
    · exact r2 r hr
/-- An array of plain elements, by value. -/
theorem array_in {n : Nat} {cs : List Value} (h : CellsOk w (repK n ks) cs) (hf : ks.all CK.flat = true) :
    ∃ rows : List (List Value), rows.length = n ∧ (∀ r ∈ rows, CellsOk w ks r) ∧ ∀ r : Rho, VRel r (.cols (n * ks.length) (colsFrom rows 0 ks)) (.agg cs.toArray) := by
  obtain ⟨rows, h1, h2, rfl⟩ := repK_rows h
  refine ⟨rows, h1, h2, fun r => ?_⟩
  simp only [VRel]
  exact ⟨_, rows.length, rfl, by simpa using colsFrom_at h2 hf, by simp [flatten_len (fun r hr => (h2 r hr).len), h1]⟩
/-- Cells that are written out. -/
theorem oneCells_in : ∀ {ks : List CK} {cs : List Value}, CellsOk w ks cs → OneCells cs
  | [], [], _ => by simp [OneCells]
  | k :: ks, v :: vs, h => by
    simp only [CellsOk] at h
    intro x hx
    rcases List.mem_cons.1 hx with rfl | hx
    · have := h.1
      cases k <;> simp only [CellOk] at this
      · obtain ⟨n, rfl, _⟩ := this; rfl
      · obtain ⟨n, rfl, _⟩ := this; rfl
      · obtain ⟨n, rfl⟩ := this; rfl
      · obtain ⟨A, l, c, rows, rfl, _⟩ := this; rfl
    · exact oneCells_in h.2 x hx
  | [], _ :: _, h => by simp [CellsOk] at h
  | _ :: _, [], h => by simp [CellsOk] at h
/-- Cells as they came in. -/
def cellsV (cs : List Value) : Nat → List CK → List V
  | _, [] => []
  | j, .int k :: ks => .int k (.sym (vInt (cs.getD j undef))) :: cellsV cs (j + 1) ks
  | j, .str :: ks => .str (.sym (vStr (cs.getD j undef))) :: cellsV cs (j + 1) ks
  | j, .bool :: ks => .sbool (vBool (cs.getD j undef)) :: cellsV cs (j + 1) ks
  | j, .sl _ _ :: ks => .any :: cellsV cs (j + 1) ks
theorem cellsV_drop {r : Rho} : ∀ {ks : List CK} {cs ds : List Value} {j : Nat}, CellsOk w ks ds → (∀ i, ds[i]? = cs[j + i]?) → VRelL r (cellsV cs j ks) ds
  | [], cs, [], j, _, _ => by simp [cellsV, VRelL]
  | k :: ks, cs, v :: vs, j, h, hd => by
    simp only [CellsOk] at h
    have h0 := hd 0
    simp only [List.getElem?_cons_zero, Nat.add_zero] at h0
    have hv : cs.getD j undef = v := by rw [List.getD_eq_getElem?_getD, ← h0]; rfl
    have ih := cellsV_drop (r := r) (j := j + 1) (cs := cs) h.2 (fun i => by have := hd (i + 1); simpa [Nat.add_assoc, Nat.add_comm 1 i] using this)
    have h1 := h.1
    cases k with
    | int k => obtain ⟨n, rfl, _⟩ := h1; simp only [cellsV, VRelL, hv]; exact ⟨by simp [VRel, vInt], ih⟩
    | str => obtain ⟨n, rfl, _⟩ := h1; simp only [cellsV, VRelL, hv]; exact ⟨by simp [VRel, vStr], ih⟩
    | bool => obtain ⟨n, rfl⟩ := h1; simp only [cellsV, VRelL, hv]; exact ⟨by simp [VRel, vBool], ih⟩
    | sl e ks' => simp only [cellsV, VRelL]; exact ⟨by simp [VRel], ih⟩
  | [], _, _ :: _, _, h, _ => by simp [CellsOk] at h
  | _ :: _, _, [], _, h, _ => by simp [CellsOk] at h
theorem cells_in {r : Rho} {cs : List Value} (h : CellsOk w ks cs) : VRelL r (cellsV cs 0 ks) cs := cellsV_drop h (fun i => by simp)
theorem agg_in {cs : List Value} (h : CellsOk w ks cs) : ∀ r : Rho, VRel r (.agg (cellsV cs 0 ks)) (.agg cs.toArray) := fun r => by
  simp only [VRel]; exact ⟨_, rfl, cells_in h, oneCells_in h⟩
theorem one_in {v : Value} {k : CK} {u : V} (h : CellsOk w [k] [v]) (hu : cellsV [v] 0 [k] = [u]) : ∀ r : Rho, VRel r u v := fun r => by
  have := cells_in (r := r) h
  rw [hu] at this
  simp only [VRelL] at this
  exact this.1
theorem cell_wf {cs : List Value} {j : Nat} {k : IntKind} (h : CellsOk w ks cs) (hk : ks[j]? = some (.int k)) : (Lit.int k (vInt (cs.getD j undef))).wf = true := by
  obtain ⟨v, h2, n, rfl, h3⟩ := h.get hk
  rw [List.getD_eq_getElem?_getD, h2]; exact h3
theorem cell_short {cs : List Value} {j : Nat} (h : CellsOk w ks cs) (hk : ks[j]? = some .str) : (vStr (cs.getD j undef)).size ≤ maxLen := by
  obtain ⟨v, h2, n, rfl, h3⟩ := h.get hk
  rw [List.getD_eq_getElem?_getD, h2]; exact h3
theorem bytes_of {j : Nat} (h : ∀ r ∈ rows, CellsOk w ks r) (hk : ks[j]? = some (.int .u8)) : ∀ x ∈ colInts rows j, 0 ≤ x ∧ x < 256 := by
  intro x hx
  have := colInts_wf h hk x hx
  simp [Lit.wf, IntKind.min, IntKind.max, IntKind.signed, IntKind.bits] at this
  omega
theorem i64s_of {j : Nat} (h : ∀ r ∈ rows, CellsOk w ks r) (hk : ks[j]? = some (.int .i64)) : ∀ x ∈ colInts rows j, -9223372036854775808 ≤ x ∧ x ≤ 9223372036854775807 := by
  intro x hx
  have := colInts_wf h hk x hx
  simp [Lit.wf, IntKind.min, IntKind.max, IntKind.signed, IntKind.bits] at this
  omega
theorem u8_of {n : Int} (h : (Lit.int .u8 n).wf = true) : 0 ≤ n ∧ n < 256 := by
  simp [Lit.wf, IntKind.min, IntKind.max, IntKind.signed, IntKind.bits] at h; omega
theorem u16_of {n : Int} (h : (Lit.int .u16 n).wf = true) : 0 ≤ n ∧ n < 65536 := by
  simp [Lit.wf, IntKind.min, IntKind.max, IntKind.signed, IntKind.bits] at h; omega
theorem u64_of {n : Int} (h : (Lit.int .u64 n).wf = true) : 0 ≤ n ∧ n < 18446744073709551616 := by
  simp [Lit.wf, IntKind.min, IntKind.max, IntKind.signed, IntKind.bits] at h; omega
theorem i64_of {n : Int} (h : (Lit.int .i64 n).wf = true) : -9223372036854775808 ≤ n ∧ n ≤ 9223372036854775807 := by
  simp [Lit.wf, IntKind.min, IntKind.max, IntKind.signed, IntKind.bits] at h; omega
theorem noGlob (h : P.globalNamed "errors.errorType" = none) (h' : P.globalNamed "math/bits.deBruijn64tab" = none) : ∀ g i v, globCell P g i = some v → w.cell? ⟨g, i, none⟩ = some v := by
  intro g i v hg
  simp [globCell, h, h'] at hg
end
end Sx
set_option linter.unusedVariables false
set_option linter.unusedSimpArgs false
namespace Sx
open Go

/-- A thing by a name, where a goal may not be looked into. -/
theorem nameIt {α : Sort _} (x : α) {P : Prop} (h : ∀ y, y = x → P) : P := h x rfl
theorem wr_u8 (n : Int) : IntKind.u8.wrap n = n % 256 := IntKind.wrap_u8 n
theorem wr_u16 (n : Int) : IntKind.u16.wrap n = n % 65536 := by simp [IntKind.wrap, IntKind.bits, IntKind.signed]
theorem wr_u32 (n : Int) : IntKind.u32.wrap n = n % 4294967296 := IntKind.wrap_u32 n
theorem wr_u64 (n : Int) : IntKind.u64.wrap n = n % 18446744073709551616 := by simp [IntKind.wrap, IntKind.bits, IntKind.signed]
theorem wr_i64 (n : Int) (h0 : -9223372036854775808 ≤ n) (h1 : n ≤ 9223372036854775807) : IntKind.i64.wrap n = n := by rw [IntKind.wrap_i64]; omega
theorem fdiv2 (x : Int) (n : Nat) : x.fdiv (2 ^ n) = x / 2 ^ n := Int.fdiv_eq_ediv_of_nonneg x (by exact Int.pow_nonneg (by decide))
theorem lvals_length (l : List Iv) : (lvals l).length = l.length := by rw [lvals_eq]; simp
theorem strL_bytesL (s : ByteArray) : strL (bytesL s) = s := by
  unfold strL bytesL
  cases s with
  | mk d =>
    simp only [List.map_map]
    congr 1
    have : (d.toList.map ((fun n : Int => UInt8.ofNat n.toNat) ∘ fun b : UInt8 => (b.toNat : Int))) = d.toList := by
      conv => rhs; rw [← List.map_id d.toList]
      refine List.map_congr_left (fun b _ => ?_)
      simp
    rw [this]
theorem bin_add (k : IntKind) (x y : Int) : binI .add k x y = k.wrap (x + y) := rfl
theorem bin_sub (k : IntKind) (x y : Int) : binI .sub k x y = k.wrap (x - y) := rfl
theorem bin_mul (k : IntKind) (x y : Int) : binI .mul k x y = k.wrap (x * y) := rfl
/-- Bytes. -/
def Bytes (xs : List Int) : Prop := ∀ x ∈ xs, 0 ≤ x ∧ x < 256
theorem bytesL_strL {xs : List Int} (h : Bytes xs) : bytesL (strL xs) = xs := by
  unfold strL bytesL
  simp only [List.map_map]
  conv => rhs; rw [← List.map_id xs]
  refine List.map_congr_left (fun x hx => ?_)
  have := h x hx
  simp only [Function.comp, UInt8.toNat_ofNat', id]
  omega
theorem Bytes.get {xs : List Int} (h : Bytes xs) (i : Nat) : 0 ≤ xs.getD i 0 ∧ xs.getD i 0 < 256 := by
  by_cases hi : i < xs.length
  · rw [List.getD_eq_getElem?_getD, List.getElem?_eq_getElem hi]; exact h _ (List.getElem_mem hi)
  · rw [List.getD_eq_getElem?_getD, List.getElem?_eq_none (by omega)]; decide
theorem bytesL_bytes (s : ByteArray) : Bytes (bytesL s) := by
  intro x hx
  obtain ⟨b, _, rfl⟩ := List.mem_map.1 hx
  have := b.toNat_lt
  omega
theorem size_strL (xs : List Int) : (strL xs).size = xs.length := by simp [strL, ByteArray.size]
theorem lgetD_set_ne {α : Type} (l : List α) {i k : Nat} (v d : α) (h : i ≠ k) : (l.set i v).getD k d = l.getD k d := by
  simp only [List.getD_eq_getElem?_getD, List.getElem?_set_ne h]
theorem lgetD_set_eq {α : Type} (l : List α) {i : Nat} (v d : α) (h : i < l.length) : (l.set i v).getD i d = v := by
  simp only [List.getD_eq_getElem?_getD, List.getElem?_set_self h, Option.getD_some]
theorem nil_toList {s : ByteArray} : s.toList = [] ↔ s.size = 0 := by
  have e : s.toList = s.data.toList := by simp only [ByteArray.toList_eq]
  rw [e, List.eq_nil_iff_length_eq_zero]
  show s.data.toList.length = 0 ↔ s.data.size = 0
  rw [Array.length_toList]
def deadOf : Blk → Blk
  | .unborn => .unborn
  | _ => .dead
theorem subH_deads : ∀ (H : Hp), subH H (H.map deadOf)
  | [] => trivial
  | b :: H => by
    refine ⟨?_, subH_deads H⟩
    cases b <;> simp [Blk.sub, deadOf]
theorem fitsH_deads (n : Nat) : ∀ (E : Hp), fitsH n (E.map deadOf) = true
  | [] => rfl
  | b :: E => by
    have := fitsH_deads n E
    cases b <;> simpa [fitsH, deadOf] using this
/-- A law's end. -/
theorem Weak.law {E0 : Hp} {v : V} {H : Hp} (h1 : v = .bool true) (h2 : Nat.ble (llen E0) (llen H) = true) : Weak E0 (fun v _ => v = .bool true) v H := by
  subst h1
  refine ⟨.bool true, H.map deadOf, rfl, subH_deads H, ?_, rfl⟩
  have h3 : Nat.ble (llen E0) (llen (H.map deadOf)) = true := by
    rw [llen_eq, llen_eq] at *; simpa using h2
  simp only [fits, h3, fitsH_deads, idsL, idsV, List.append_nil, idsUp, Bool.and_self]
theorem nilS : ({ data := #[] } : ByteArray).toList = [] := nil_toList.2 rfl
theorem quo_i64 {x d : Int} (h0 : 0 ≤ x) (h1 : x ≤ 9223372036854775807) (hd : 0 < d) : binI .quo .i64 x d = x / d := by
  show IntKind.i64.wrap (x.tdiv d) = _
  rw [Int.tdiv_eq_ediv_of_nonneg h0]
  have a := Int.ediv_nonneg h0 (Int.le_of_lt hd)
  have b := Int.ediv_le_self d h0
  exact wr_i64 _ (by omega) (by omega)
theorem rem_nn {k : IntKind} {x d : Int} (h0 : 0 ≤ x) : binI .rem k x d = x % d := Int.tmod_eq_emod_of_nonneg h0
theorem add_i64 {x y : Int} (h0 : -9223372036854775808 ≤ x + y) (h1 : x + y ≤ 9223372036854775807) : binI .add .i64 x y = x + y := wr_i64 _ h0 h1
theorem sub_i64 {x y : Int} (h0 : -9223372036854775808 ≤ x - y) (h1 : x - y ≤ 9223372036854775807) : binI .sub .i64 x y = x - y := wr_i64 _ h0 h1
theorem mul_i64 {x y : Int} (h0 : -9223372036854775808 ≤ x * y) (h1 : x * y ≤ 9223372036854775807) : binI .mul .i64 x y = x * y := wr_i64 _ h0 h1
theorem subL_all (xs : List Int) (n : Int) (h : n = xs.length) : subL xs 0 n = xs := by simp [subL, h]
theorem subL_bytes (s : ByteArray) : subL (bytesL s) 0 (s.size : Int) = bytesL s := subL_all _ _ (by rw [bytesL_length])
/-- Rows that are alike up to a place. -/
theorem list_eq_of_get {xs ys : List Int} (hl : xs.length = ys.length) (h : ∀ k : Nat, k < xs.length → xs.getD k 0 = ys.getD k 0) : xs = ys := by
  refine List.ext_getElem hl fun i h1 h2 => ?_
  have := h i h1
  simpa [List.getD_eq_getElem?_getD, List.getElem?_eq_getElem h1, List.getElem?_eq_getElem h2] using this
/-- A loop with two, three ghosts. -/
theorem LoopN.unroll {nb : Nat} {ws : List Nat} {body : (Ex → Fr → Hp → Prop) → Fr → Hp → Prop} {K : Ex → Fr → Hp → Prop} {fr : Fr} {hp : Hp} (n : Nat) (h : unrollN body K n fr hp) : LoopN nb ws body K fr hp := .now (.unroll n h)
theorem LoopN.inv {nb : Nat} {ws : List Nat} {body : (Ex → Fr → Hp → Prop) → Fr → Hp → Prop} {K : Ex → Fr → Hp → Prop} {fr : Fr} {hp : Hp} (G : Type) (slots : List Nat) (st : G → List V × Hp) (pre : G → Prop) (μ : G → Nat) (g0 : G)
    (sl : subN slots ws = true) (fit : ∀ g, pre g → fits hp (st g).2 (fsets slots (st g).1 (havoc ws fr)) = true)
    (start : pre g0 ∧ V.subL (fgets fr slots) (st g0).1 ∧ subH hp (st g0).2)
    (round : ∀ g, pre g → body (fun e fr' hp' => match e with
      | .norm => ∃ g', pre g' ∧ μ g' < μ g ∧ gate (anyOk (havoc ws fr) fr') (V.subL (fgets fr' slots) (st g').1) ∧ subH hp' (st g').2
      | e => K e fr' hp') (fsets slots (st g).1 (havoc ws fr)) (st g).2) : LoopN nb ws body K fr hp := .now (.inv G slots st pre μ g0 sl fit start round)
theorem LoopN.inv2 {nb : Nat} {ws : List Nat} {body : (Ex → Fr → Hp → Prop) → Fr → Hp → Prop} {K : Ex → Fr → Hp → Prop} {fr : Fr} {hp : Hp} (A B : Type) (slots : List Nat) (st : A → B → List V × Hp) (pre : A → B → Prop) (μ : A → B → Nat) (a0 : A) (b0 : B)
    (sl : subN slots ws = true) (fit : ∀ a b, pre a b → fits hp (st a b).2 (fsets slots (st a b).1 (havoc ws fr)) = true)
    (start : pre a0 b0 ∧ V.subL (fgets fr slots) (st a0 b0).1 ∧ subH hp (st a0 b0).2)
    (round : ∀ a b, pre a b → body (fun e fr' hp' => match e with
      | .norm => ∃ g : A × B, pre g.1 g.2 ∧ μ g.1 g.2 < μ a b ∧ gate (anyOk (havoc ws fr) fr') (V.subL (fgets fr' slots) (st g.1 g.2).1) ∧ subH hp' (st g.1 g.2).2
      | e => K e fr' hp') (fsets slots (st a b).1 (havoc ws fr)) (st a b).2) : LoopN nb ws body K fr hp :=
  .inv (A × B) slots (fun g => st g.1 g.2) (fun g => pre g.1 g.2) (fun g => μ g.1 g.2) (a0, b0) sl (fun g h => fit g.1 g.2 h) start (fun g h => round g.1 g.2 h)
theorem LoopN.inv3 {nb : Nat} {ws : List Nat} {body : (Ex → Fr → Hp → Prop) → Fr → Hp → Prop} {K : Ex → Fr → Hp → Prop} {fr : Fr} {hp : Hp} (A B C : Type) (slots : List Nat) (st : A → B → C → List V × Hp) (pre : A → B → C → Prop) (μ : A → B → C → Nat) (a0 : A) (b0 : B) (c0 : C)
    (sl : subN slots ws = true) (fit : ∀ a b c, pre a b c → fits hp (st a b c).2 (fsets slots (st a b c).1 (havoc ws fr)) = true)
    (start : pre a0 b0 c0 ∧ V.subL (fgets fr slots) (st a0 b0 c0).1 ∧ subH hp (st a0 b0 c0).2)
    (round : ∀ a b c, pre a b c → body (fun e fr' hp' => match e with
      | .norm => ∃ g : A × B × C, pre g.1 g.2.1 g.2.2 ∧ μ g.1 g.2.1 g.2.2 < μ a b c ∧ gate (anyOk (havoc ws fr) fr') (V.subL (fgets fr' slots) (st g.1 g.2.1 g.2.2).1) ∧ subH hp' (st g.1 g.2.1 g.2.2).2
      | e => K e fr' hp') (fsets slots (st a b c).1 (havoc ws fr)) (st a b c).2) : LoopN nb ws body K fr hp :=
  .inv (A × B × C) slots (fun g => st g.1 g.2.1 g.2.2) (fun g => pre g.1 g.2.1 g.2.2) (fun g => μ g.1 g.2.1 g.2.2) (a0, b0, c0) sl (fun g h => fit g.1 g.2.1 g.2.2 h) start (fun g h => round g.1 g.2.1 g.2.2 h)
/-- A loop that appends: a round ends with the block numbers chosen anew. -/
theorem LoopN.invr {nb : Nat} {ws : List Nat} {body : (Ex → Fr → Hp → Prop) → Fr → Hp → Prop} {K : Ex → Fr → Hp → Prop} {fr : Fr} {hp : Hp} (G : Type) (slots : List Nat) (st : G → List V × Hp) (pre : G → Prop) (μ : G → Nat) (g0 : G)
    (sl : subN slots ws = true) (fit : ∀ g, pre g → fits hp (st g).2 (fsets slots (st g).1 (havoc ws fr)) = true)
    (start : pre g0 ∧ V.subL (fgets fr slots) (st g0).1 ∧ subH hp (st g0).2)
    (round : ∀ g, pre g → body (fun e fr' hp' => match e with
      | .norm => ∃ g', pre g' ∧ μ g' < μ g ∧ ∃ ids : List Nat, (!dup ids && preOk 0 nb ids) = true ∧ renL ids (havoc ws fr) = havoc ws fr ∧ gate (anyOk (havoc ws fr) fr') (V.subL (renL ids (fgets fr' slots)) (st g').1) ∧ subH (selH hp' ids ids) (st g').2
      | e => K e fr' hp') (fsets slots (st g).1 (havoc ws fr)) (st g).2) : LoopN nb ws body K fr hp := .now (.invr G slots st pre μ g0 sl fit start round)
theorem LoopN.invr2 {nb : Nat} {ws : List Nat} {body : (Ex → Fr → Hp → Prop) → Fr → Hp → Prop} {K : Ex → Fr → Hp → Prop} {fr : Fr} {hp : Hp} (A B : Type) (slots : List Nat) (st : A → B → List V × Hp) (pre : A → B → Prop) (μ : A → B → Nat) (a0 : A) (b0 : B)
    (sl : subN slots ws = true) (fit : ∀ a b, pre a b → fits hp (st a b).2 (fsets slots (st a b).1 (havoc ws fr)) = true)
    (start : pre a0 b0 ∧ V.subL (fgets fr slots) (st a0 b0).1 ∧ subH hp (st a0 b0).2)
    (round : ∀ a b, pre a b → body (fun e fr' hp' => match e with
      | .norm => ∃ g : A × B, pre g.1 g.2 ∧ μ g.1 g.2 < μ a b ∧ ∃ ids : List Nat, (!dup ids && preOk 0 nb ids) = true ∧ renL ids (havoc ws fr) = havoc ws fr ∧ gate (anyOk (havoc ws fr) fr') (V.subL (renL ids (fgets fr' slots)) (st g.1 g.2).1) ∧ subH (selH hp' ids ids) (st g.1 g.2).2
      | e => K e fr' hp') (fsets slots (st a b).1 (havoc ws fr)) (st a b).2) : LoopN nb ws body K fr hp :=
  .invr (A × B) slots (fun g => st g.1 g.2) (fun g => pre g.1 g.2) (fun g => μ g.1 g.2) (a0, b0) sl (fun g h => fit g.1 g.2 h) start (fun g h => round g.1 g.2 h)
theorem subL_length {xs : List Int} {i n : Int} (hi : 0 ≤ i) (hn : 0 ≤ n) (h : i + n ≤ xs.length) : ((subL xs i n).length : Int) = n := by
  simp only [subL, List.length_take, List.length_drop]; omega
theorem subL_getD {xs : List Int} {i n : Int} {k : Nat} (hi : 0 ≤ i) (hk : (k : Int) < n) : (subL xs i n).getD k 0 = xs.getD (i.toNat + k) 0 := by
  simp only [subL, List.getD_eq_getElem?_getD, List.getElem?_take, List.getElem?_drop]
  rw [if_pos (by omega)]
theorem subL_sub {xs : List Int} {i n j m : Int} (hi : 0 ≤ i) (hj : 0 ≤ j) (hm : 0 ≤ m) (h : j + m ≤ n) : subL (subL xs i n) j m = subL xs (i + j) m := by
  simp only [subL]
  rw [List.drop_take, List.drop_drop, List.take_take]
  congr 1
  · omega
  · congr 1; omega
theorem subL_cat {xs : List Int} {i n m : Int} (hi : 0 ≤ i) (hn : 0 ≤ n) (hm : 0 ≤ m) : subL xs i n ++ subL xs (i + n) m = subL xs i (n + m) := by
  simp only [subL]
  rw [show (n + m).toNat = n.toNat + m.toNat by omega, List.take_add, List.drop_drop, show i.toNat + n.toNat = (i + n).toNat by omega]
theorem Bytes.sub {xs : List Int} (h : Bytes xs) (i n : Int) : Bytes (subL xs i n) := fun x hx => h x (List.mem_of_mem_drop (List.mem_of_mem_take hx))
theorem splL_length {xs ys : List Int} {o : Int} (ho : 0 ≤ o) (h : o + ys.length ≤ xs.length) : (splL xs o ys).length = xs.length := by
  simp only [splL, List.length_append, List.length_take, List.length_drop]; omega
theorem splL_getD {xs ys : List Int} {o : Int} (ho : 0 ≤ o) (h : o + ys.length ≤ xs.length) (j : Nat) : (splL xs o ys).getD j 0 = if (j : Int) < o then xs.getD j 0 else if (j : Int) < o + ys.length then ys.getD (j - o.toNat) 0 else xs.getD j 0 := by
  simp only [splL, List.getD_eq_getElem?_getD]
  by_cases h1 : (j : Int) < o
  · rw [if_pos h1, List.append_assoc, List.getElem?_append_left (by rw [List.length_take]; omega), List.getElem?_take, if_pos (by omega)]
  · rw [if_neg h1]
    by_cases h2 : (j : Int) < o + ys.length
    · rw [if_pos h2, List.getElem?_append_left (by rw [List.length_append, List.length_take]; omega), List.getElem?_append_right (by rw [List.length_take]; omega), List.length_take, Nat.min_eq_left (by omega)]
    · rw [if_neg h2, List.getElem?_append_right (by rw [List.length_append, List.length_take]; omega), List.length_append, List.length_take, List.getElem?_drop]
      congr 2; omega
theorem getD_take {ys : List Int} {q j : Nat} (h : j < q) : (ys.take q).getD j 0 = ys.getD j 0 := by
  simp only [List.getD_eq_getElem?_getD, List.getElem?_take, if_pos h]
theorem getD_set {xs : List Int} {i j : Nat} {v : Int} (h : i < xs.length) : (xs.set i v).getD j 0 = if i = j then v else xs.getD j 0 := by
  simp only [List.getD_eq_getElem?_getD, List.getElem?_set]
  by_cases e : i = j
  · subst e; simp [h]
  · simp [e]
/-- A piece that is laid number by number. -/
theorem spl_next {xs ys : List Int} {o q : Int} (ho : 0 ≤ o) (hq : 0 ≤ q) (hl : q < ys.length) (h : o + ys.length ≤ xs.length) :
    (splL xs o (ys.take q.toNat)).set (o + q).toNat (ys.getD q.toNat 0) = splL xs o (ys.take (q + 1).toNat) := by
  have l1 : (ys.take q.toNat).length = q.toNat := by rw [List.length_take]; omega
  have l2 : (ys.take (q + 1).toNat).length = (q + 1).toNat := by rw [List.length_take]; omega
  have e1 := splL_length (xs := xs) (ys := ys.take q.toNat) ho (by omega)
  have e2 := splL_length (xs := xs) (ys := ys.take (q + 1).toNat) ho (by omega)
  refine list_eq_of_get (by rw [List.length_set, e1, e2]) fun j hj => ?_
  rw [List.length_set, e1] at hj
  rw [getD_set (by omega), splL_getD ho (by omega), splL_getD ho (by omega), l1, l2]
  by_cases h1 : (j : Int) < o
  · rw [if_neg (by omega), if_pos h1, if_pos h1]
  · rw [if_neg h1, if_neg h1]
    by_cases h2 : (j : Int) = o + q
    · rw [if_pos (by omega), if_pos (by omega), getD_take (by omega)]
      congr 1; omega
    · rw [if_neg (by omega)]
      by_cases h3 : (j : Int) < o + q
      · rw [if_pos (by omega), if_pos (by omega), getD_take (by omega), getD_take (by omega)]
      · rw [if_neg (by omega), if_neg (by omega)]
theorem colsSub_refl : ∀ cs : List Col, colsSub cs cs
  | [] => trivial
  | .ints k xs :: r => ⟨⟨rfl, rfl⟩, colsSub_refl r⟩
  | .strs xs :: r => ⟨rfl, colsSub_refl r⟩
  | .bools xs :: r => ⟨rfl, colsSub_refl r⟩
mutual
theorem vsub_refl : ∀ v : V, V.sub v v
  | .any => trivial
  | .undef => trivial
  | .bool t => rfl
  | .sbool b => rfl
  | .int k n => ⟨rfl, rfl⟩
  | .str s => rfl
  | .nilp => trivial
  | .ptr _ o => ⟨rfl, rfl, fun h => h⟩
  | .nilsl => trivial
  | .vec id n => ⟨rfl, rfl⟩
  | .sl id off n => ⟨rfl, rfl, rfl⟩
  | .agg l => vsubL_refl l
  | .cols sz cs => ⟨rfl, colsSub_refl cs⟩
  | .tup l => vsubL_refl l
  | .iface t v => ⟨rfl, vsub_refl v⟩
  | .nilif => trivial
  | .nilq p n => ⟨rfl, rfl⟩
  | .raw v => rfl
theorem vsubL_refl : ∀ l : List V, V.subL l l
  | [] => trivial
  | v :: r => ⟨vsub_refl v, vsubL_refl r⟩
end
theorem subH_refl : ∀ H : Hp, subH H H
  | [] => trivial
  | b :: H => by
    refine ⟨?_, subH_refl H⟩
    cases b with
    | unborn => trivial
    | dead => trivial
    | cells t cs => exact ⟨rfl, vsubL_refl cs⟩
    | cols md t cs => cases md <;> first | exact ⟨rfl, colsSub_refl cs⟩ | exact ⟨rfl, rfl, colsSub_refl cs⟩
    | slices k xss => exact ⟨rfl, rfl⟩
/-- A loop that leaves the blocks as they are. -/
theorem LoopN.same {nb : Nat} {ws : List Nat} {body : (Ex → Fr → Hp → Prop) → Fr → Hp → Prop} {K : Ex → Fr → Hp → Prop} {fr : Fr} {hp : Hp} (G : Type) (slots : List Nat) (st : G → List V) (pre : G → Prop) (μ : G → Nat) (g0 : G)
    (sl : subN slots ws = true) (fit : ∀ g, pre g → fits hp hp (fsets slots (st g) (havoc ws fr)) = true)
    (start : pre g0 ∧ V.subL (fgets fr slots) (st g0))
    (round : ∀ g, pre g → body (fun e fr' hp' => match e with
      | .norm => ∃ g', pre g' ∧ μ g' < μ g ∧ gate (anyOk (havoc ws fr) fr') (V.subL (fgets fr' slots) (st g')) ∧ subH hp' hp
      | e => K e fr' hp') (fsets slots (st g) (havoc ws fr)) hp) : LoopN nb ws body K fr hp :=
  .inv G slots (fun g => (st g, hp)) pre μ g0 sl fit ⟨start.1, start.2, subH_refl hp⟩ round
/-- A row that is laid anew, number by number, up to a place. -/
structure Upto (F : Nat → Int) (b : List Int) (i : Int) (ys : List Int) : Prop where
  len : ys.length = b.length
  at_ : ∀ k : Nat, k < b.length → ys.getD k 0 = if (k : Int) < i then F k else b.getD k 0
theorem Upto.zero (F : Nat → Int) (b : List Int) : Upto F b 0 b := ⟨rfl, fun k _ => by rw [if_neg (by omega)]⟩
theorem Upto.next {F : Nat → Int} {b : List Int} {i : Int} {ys : List Int} (h : Upto F b i ys) (h0 : 0 ≤ i) (h1 : i < b.length) : Upto F b (i + 1) (ys.set i.toNat (F i.toNat)) := by
  refine ⟨by rw [List.length_set]; exact h.len, fun k hk => ?_⟩
  rw [getD_set (by rw [h.len]; omega)]
  by_cases e : i.toNat = k
  · rw [if_pos e, if_pos (by omega), e]
  · rw [if_neg e, h.at_ k hk]
    by_cases e2 : (k : Int) < i
    · rw [if_pos e2, if_pos (by omega)]
    · rw [if_neg e2, if_neg (by omega)]
theorem Upto.here {F : Nat → Int} {b : List Int} {i : Int} {ys : List Int} (h : Upto F b i ys) (h0 : 0 ≤ i) (h1 : i < b.length) : ys.getD i.toNat 0 = b.getD i.toNat 0 := by
  rw [h.at_ _ (by omega), if_neg (by omega)]
theorem Upto.done {F : Nat → Int} {b : List Int} {i : Int} {ys : List Int} (h : Upto F b i ys) (h1 : (b.length : Int) ≤ i) : ys = (List.range b.length).map F := by
  refine list_eq_of_get (by rw [h.len]; simp) fun k hk => ?_
  rw [h.len] at hk
  rw [h.at_ k hk, if_pos (by omega)]
  simp [List.getD_eq_getElem?_getD, List.getElem?_map, List.getElem?_range hk]
end Sx
set_option linter.unusedVariables false
set_option linter.unusedSimpArgs false
namespace Sx
open Go Go.RowKit
section
variable {P : Program}

/-- What is there stays, whatever comes behind it. -/
theorem Good.stays {own : Own} {r : Rho} {hp : Hp} {w w' : World} (h : Good P own r hp w) (hw : ∀ k, k < w.heap.size → w'.heap[k]? = w.heap[k]?) (hsz : w.heap.size ≤ w'.heap.size) : Good P own r hp w' := by
  have hc : ∀ i x, (hget hp i).live = true → r i = some x → ∀ g, (hget hp i).uses w x g → w'.heap[g]? = w.heap[g]? := fun i x hl hx g hg => hw g (h.below i x g hl hx hg)
  refine ⟨h.born, fun i hi => ?_, h.own, fun i j x y b g hij hm hl hx hy hb hu => ?_, fun i x g hl hx hu => ?_, fun i x g hl hx hu => ?_⟩
  · obtain ⟨x, h1, h2⟩ := h.rel i hi
    refine ⟨x, h1, ?_⟩
    by_cases hl : (hget hp i).live = true
    · exact h2.world (hc i x hl h1)
    · cases hq : hget hp i with
      | unborn => exact absurd hq hi
      | dead => trivial
      | _ => simp [hq, Blk.live] at hl
  · exact h.apart i j x y b g hij hm hl hx hy hb ((uses_congr (hc j y hl hy) g).1 hu)
  · exact Nat.lt_of_lt_of_le (h.below i x g hl hx ((uses_congr (hc i x hl hx) g).1 hu)) hsz
  · exact h.seen i x g hl hx ((uses_congr (hc i x hl hx) g).1 hu)
/-- A contract out of the kit's own word: nothing that was there is written. -/
theorem Ctr.of_below {f : FuncId} {E : Hp} {args : List V} {v : V} (he : Entered P f)
    (h : ∀ (w : World) (r : Rho) (vals : List Value), Good P (ownOf r E w) r E w → Glob P (ownOf r E w) w → VRelL r args vals → Calls P f vals.toArray w fun e w' => ∃ x, e = .returned x ∧ VRel r v x ∧ Below w.heap.size w w') :
    Ctr P f E args fun u H => u = v ∧ H = E :=
  ⟨he, fun w0 r0 vals hg hgl hv => (h w0 r0 vals hg hgl hv).mono fun e w ⟨x, h1, h2, h3⟩ => ⟨x, v, E, r0, h1, h2, ⟨rfl, rfl⟩, Rho.le_refl r0, hg.stays h3.block h3.size, ⟨h3.os, h3.tape, h3.output, h3.size, fun k hk _ => h3.block k hk⟩⟩⟩
/-- Arguments that are written out. -/
theorem vrelL_one {r : Rho} {v : V} {vals : List Value} (h : VRelL r [v] vals) : ∃ x, vals = [x] ∧ VRel r v x := by
  cases vals with
  | nil => simp [VRelL] at h
  | cons x l =>
    cases l with
    | nil => simp only [VRelL] at h; exact ⟨x, rfl, h.1⟩
    | cons => simp [VRelL] at h
/-- The laid variable's cell. -/
theorem globErr {ow : Own} {w : World} {g rt et : Nat} (h : Glob P ow w) (h1 : P.globalNamed "errors.errorType" = some g) (h2 : (P.cutTypes.find? (·.1 == "internal/reflectlite.rtype")).map (·.2) = some rt)
    (h3 : (List.range P.types.size).find? (fun t => P.rowNamed t [101, 114, 114, 111, 114]) = some et) : w.cell? ⟨g, 0, none⟩ = some (.iface rt (.agg #[typeHandle P et])) :=
  (h g 0 _ (by simp [globCell, h1, h2, h3])).1
/-- A nil slice is an empty row of one's own. -/
theorem Ctr.nil_row {f : FuncId} {E : Hp} {args : List V} {R R' : V → Hp → Prop} (h : Ctr P f E args R)
    (hR : ∀ v H, R v H → R' v H ∨ (v = .nilsl ∧ E.length ≤ H.length ∧ ∃ e k, R' (.vec (llen H) (.lit 0)) (H ++ [.cols (.row 1) e [.ints k (.lits [])]]))) : Ctr P f E args R' := by
  refine ⟨h.enter, fun w0 r0 vals hg hgl hv => (h.spec w0 r0 vals hg hgl hv).mono ?_⟩
  rintro e w ⟨v, x, H, r, h1, h2, h3, h4, h5, h6⟩
  rcases hR x H h3 with h | ⟨rfl, hle, e', k, h⟩
  · exact ⟨v, x, H, r, h1, h2, h, h4, h5, h6⟩
  · have hn : hget H H.length = .unborn := hget_ge _ _ (Nat.le_refl _)
    obtain ⟨p1, p2⟩ := Good.push (w' := w) h5 (n := H.length) (x := ⟨none, 0⟩) (b := .cols (.row 1) e' [.ints k (.lits [])]) hn rfl (fun _ _ => rfl) (Nat.le_refl _)
      ⟨[], 0, 0, ⟨rfl, by intro c hc; simp only [List.mem_singleton] at hc; subst hc; rfl, fun i j c hi _ => by omega⟩, by simp, by omega, rfl, ⟨rfl, .inl ⟨rfl, rfl⟩⟩⟩ (fun g hg' => .inl (Nat.le_trans h6.size hg')) (fun g hu => by obtain ⟨b, hb, _⟩ := hu; cases hb) (fun a ha => by cases ha)
    refine ⟨v, _, _, _, h1, ?_, h, Rho.le_trans h4 p1, p2.congr (fun i => ?_), h6⟩
    · simp only [VRel] at h2 ⊢
      subst h2
      exact ⟨⟨none, 0⟩, 0, by simp [llen_eq], rfl, Nat.le_refl _, by omega, rfl⟩
    · rw [hget_hsetX, hget_eq, List.getD_eq_getElem?_getD]
      by_cases hi : H.length = i
      · subst hi; simp
      · rw [if_neg hi, hget_eq, List.getD_eq_getElem?_getD]
        rcases Nat.lt_or_ge i H.length with h | h
        · rw [List.getElem?_append_left h]
        · rw [List.getElem?_append_right h, List.getElem?_eq_none h]
          cases hq : i - H.length with
          | zero => omega
          | succ q => rfl
end
end Sx
