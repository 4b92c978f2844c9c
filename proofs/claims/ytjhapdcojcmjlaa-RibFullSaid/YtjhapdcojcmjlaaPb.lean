/-
  Prefixes and addresses as records: which may be, what they contain and cover.
-/
import Derived.Test.YtjhapdcojcmjlaaWr
namespace Go.Proofs.Ytjhapdcojcmjlaa.Hand
open Go.RowKit Go.Proofs.Ytjhapdcojcmjlaa.Bits Go.Proofs.Ytjhapdcojcmjlaa.Dig Go.Proofs.Ytjhapdcojcmjlaa.Sq
set_option linter.unusedVariables false
set_option linter.unusedSimpArgs false
set_option maxRecDepth 100000
set_option maxHeartbeats 1000000
theorem wrap_suc {i : Nat} (h : i ≤ 1000000000) : IntKind.i64.wrap (((i : Nat) : Int) + 1) = (((i + 1 : Nat)) : Int) := by
  rw [IntWalk.i64_in _ (by omega)]; omega
noncomputable def bP (p : Prop) : Bool := @decide p (Classical.propDecidable p)
theorem bP_t {p : Prop} (h : p) : bP p = true := by unfold bP; exact @decide_eq_true _ (Classical.propDecidable p) h
theorem bP_f {p : Prop} (h : ¬p) : bP p = false := by unfold bP; exact @decide_eq_false _ (Classical.propDecidable p) h
theorem bP_iff {p : Prop} : bP p = true ↔ p := by unfold bP; exact @decide_eq_true_iff _ (Classical.propDecidable p)
theorem clampW_W (v : Bool) : clampW v ((W v : Nat) : Int) = W v := by unfold clampW mxi mni; split <;> (try split) <;> omega
noncomputable def conB (p : Px) (a : Ad) : Bool := contB p.a.hi p.a.lo p.a.v6 p.n a.hi a.lo a.v6
theorem rcon_s {p : Px} {a : Ad} (hp : p.a.wf) (ha : a.wf) : Cal Try.prog 147 [p.val, a.val] (.bool (conB p a)) := r2contains_s hp ha _ _ _
theorem con_s {p : Px} {a : Ad} (hp : p.a.wf) (ha : a.wf) : Cal Try.prog 29 [p.val, a.val] (.bool (conB p a)) := contains_s hp ha _ _ _
noncomputable def sanB (p : Px) : Bool := saneB p.a.hi p.a.lo p.a.v6 p.n
noncomputable def sanA (a : Ad) : Bool := decide (sane a.hi a.lo a.v6)
noncomputable def wholeP (a : Ad) : Px := ⟨⟨hiA a.v6 (cutd (D a.hi a.lo) (W a.v6)), loA a.v6 (cutd (D a.hi a.lo) (W a.v6)), a.v6⟩, ((W a.v6 : Nat) : Int)⟩
noncomputable def cvB (p q : Px) : Bool := covB p.a.hi p.a.lo p.a.v6 p.n q.a.hi q.a.lo q.a.v6 q.n
noncomputable def apB (p q : Px) : Bool := apaB p.a.hi p.a.lo p.a.v6 p.n q.a.hi q.a.lo q.a.v6 q.n
theorem cov_s {p q : Px} (hp : p.a.wf) (hq : q.a.wf) : Cal Try.prog 48 [p.val, q.val] (.bool (cvB p q)) := covers_s hp hq _ _ _ _
theorem apB_cv {p q : Px} (hp : sanB p = true) (hq : sanB q = true) : apB p q = (!cvB p q && !cvB q p) := by
  obtain ⟨⟨ph, pl, pv⟩, pn⟩ := p
  obtain ⟨⟨qh, ql, qv⟩, qn⟩ := q
  obtain ⟨c, hc, e1, e2, e3⟩ := saneB_ex hp
  obtain ⟨m, hm, f1, f2, f3⟩ := saneB_ex hq
  dsimp only at hc hm e1 e2 e3 f1 f2 f3
  clear hp hq
  generalize D ph pl = dp at e2 e3
  generalize D qh ql = dq at f2 f3
  subst e1 e2 e3 f1 f2 f3
  unfold apB cvB
  dsimp only
  rw [apaB_pk _ _ _ hc _ _ _ hm, covB_pk _ _ _ hc _ _ _ hm, covB_pk _ _ _ hm _ _ _ hc]
theorem cvB_sane {p q : Px} (h : cvB p q = true) : sanB p = true ∧ sanB q = true := covB_sane h
/-- Do two overlap? -/
noncomputable def ovB (p q : Px) : Bool := cvB p q || cvB q p
theorem ov_ref {p q : Px} (hq : sanB q = true) : (sanB p && !apB p q) = ovB p q := by
  unfold ovB
  cases hp : sanB p with
  | true => rw [apB_cv hp hq]; cases cvB p q <;> cases cvB q p <;> rfl
  | false =>
    cases h1 : cvB p q with
    | true => rw [(cvB_sane h1).1] at hp; cases hp
    | false =>
      cases h2 : cvB q p with
      | true => rw [(cvB_sane h2).2] at hp; cases hp
      | false => rfl
theorem con_ex {p : Px} (h : sanB p = true) : ∃ (d : Nat → Bool) (c : Nat), c ≤ W p.a.v6 ∧ p.n = (c : Int) ∧ ∀ a : Ad, conB p a = true ↔ p.a.v6 = a.v6 ∧ ∀ i, i < c → d i = D a.hi a.lo i := by
  obtain ⟨⟨ph, pl, pv⟩, pn⟩ := p
  obtain ⟨c, hc, e1, e2, e3⟩ := saneB_ex h
  dsimp only at hc e1 e2 e3 ⊢
  clear h
  generalize D ph pl = dp at e2 e3
  subst e1 e2 e3
  refine ⟨dp, c, hc, rfl, fun a => ?_⟩
  unfold conB
  dsimp only
  rw [contB_pk pv dp c hc, conD_true]
theorem con_sane {p : Px} {a : Ad} (h : conB p a = true) : sanB p = true := by
  unfold conB contB at h
  simp only [Bool.and_eq_true] at h
  exact h.1
theorem whole_sane (a : Ad) : sanB (wholeP a) = true := saneB_pk a.v6 (D a.hi a.lo) (W a.v6) (Nat.le_refl _)
theorem whole_con (a c : Ad) : conB (wholeP a) c = true ↔ a.v6 = c.v6 ∧ ∀ i, i < W a.v6 → D a.hi a.lo i = D c.hi c.lo i := by
  unfold conB wholeP
  dsimp only
  rw [contB_pk a.v6 (D a.hi a.lo) (W a.v6) (Nat.le_refl _), conD_true]
theorem con_trans {p : Px} {a c : Ad} (h1 : conB (wholeP a) c = true) (h2 : conB p a = true) : conB p c = true := by
  obtain ⟨d, k, hk, _, hq⟩ := con_ex (con_sane h2)
  obtain ⟨q1, q2⟩ := (hq a).1 h2
  obtain ⟨r1, r2⟩ := (whole_con a c).1 h1
  exact (hq c).2 ⟨q1.trans r1, fun i hi => (q2 i hi).trans (r2 i (by rw [← q1]; omega))⟩
theorem apart_q {p q : Px} (hp : p.a.wf) (hq : q.a.wf) : Cal Try.prog 49 [p.val, q.val] (.bool (apB p q)) := apart_s hp hq _ _ _ _
theorem sane_px {p : Px} (hp : p.a.wf) : Cal Try.prog 31 [p.val] (.bool (sanB p)) := sane_s hp _ _
theorem apB_no {p q : Px} (h : sanB p = false) : apB q p = false := by
  unfold sanB at h
  unfold apB apaB
  rw [h, Bool.and_false, Bool.false_and]
theorem apB_ov {p q : Px} (h : sanB p = true) (hq : sanB q = true) : apB q p = !ovB p q := by
  unfold ovB
  rw [apB_cv hq h]
  cases cvB p q <;> cases cvB q p <;> rfl
theorem ov_sane {p q : Px} (h : ovB p q = true) : sanB p = true := by
  unfold ovB at h
  rcases Bool.or_eq_true_iff.1 h with h | h
  · exact (cvB_sane h).1
  · exact (cvB_sane h).2
theorem cv_self {p : Px} (h : sanB p = true) : cvB p p = true := by
  obtain ⟨⟨ph, pl, pv⟩, pn⟩ := p
  obtain ⟨c, hc, e1, e2, e3⟩ := saneB_ex h
  dsimp only at hc e1 e2 e3
  clear h
  generalize D ph pl = dp at e2 e3
  subst e1 e2 e3
  unfold cvB
  dsimp only
  rw [covB_pk _ _ _ hc _ _ _ hc, conD_self]
  simp
theorem cv_whole {p : Px} {a : Ad} (h : conB p a = true) : cvB p (wholeP a) = true := by
  have hs := con_sane h
  obtain ⟨⟨ph, pl, pv⟩, pn⟩ := p
  obtain ⟨c, hc, e1, e2, e3⟩ := saneB_ex hs
  dsimp only at hc e1 e2 e3
  have hv := ((con_ex hs).choose_spec)
  clear hv
  generalize hd : D ph pl = dp at e2 e3
  subst e1 e2 e3
  unfold conB at h
  unfold cvB wholeP
  dsimp only at h ⊢
  rw [contB_pk _ _ _ hc] at h
  have hv : pv = a.v6 := (conD_true.1 h).1
  subst hv
  rw [covB_pk _ _ _ hc _ _ _ (Nat.le_refl _), h]
  simp [hc]
end Go.Proofs.Ytjhapdcojcmjlaa.Hand
