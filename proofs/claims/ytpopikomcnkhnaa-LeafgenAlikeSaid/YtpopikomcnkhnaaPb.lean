/-
  Prefixes and addresses as records: which may be, what they contain and cover.
-/
import Derived.Test.YtpopikomcnkhnaaWr
namespace Go.Proofs.Ytpopikomcnkhnaa.Hand
open Go.RowKit Go.Proofs.Ytpopikomcnkhnaa.Bits Go.Proofs.Ytpopikomcnkhnaa.Dig Go.Proofs.Ytpopikomcnkhnaa.Sq
set_option linter.unusedVariables false
set_option linter.unusedSimpArgs false
set_option maxRecDepth 100000
set_option maxHeartbeats 1000000
theorem wrap_suc {i : Nat} (h : i ≤ 1000000000) : IntKind.i64.wrap (((i : Nat) : Int) + 1) = (((i + 1 : Nat)) : Int) := by
  rw [IntWalk.i64_in _ (by omega)]; omega
noncomputable def conB (p : Px) (a : Ad) : Bool := contB p.a.hi p.a.lo p.a.v6 p.n a.hi a.lo a.v6
theorem con_s {p : Px} {a : Ad} (hp : p.a.wf) (ha : a.wf) : Cal Try.prog 42 [p.val, a.val] (.bool (conB p a)) := contains_s hp ha _ _ _
noncomputable def sanB (p : Px) : Bool := saneB p.a.hi p.a.lo p.a.v6 p.n
noncomputable def wholeP (a : Ad) : Px := ⟨⟨hiA a.v6 (cutd (D a.hi a.lo) (W a.v6)), loA a.v6 (cutd (D a.hi a.lo) (W a.v6)), a.v6⟩, ((W a.v6 : Nat) : Int)⟩
noncomputable def cvB (p q : Px) : Bool := covB p.a.hi p.a.lo p.a.v6 p.n q.a.hi q.a.lo q.a.v6 q.n
noncomputable def apB (p q : Px) : Bool := apaB p.a.hi p.a.lo p.a.v6 p.n q.a.hi q.a.lo q.a.v6 q.n
theorem cov_s {p q : Px} (hp : p.a.wf) (hq : q.a.wf) : Cal Try.prog 44 [p.val, q.val] (.bool (cvB p q)) := covers_s hp hq _ _ _ _
theorem apB_cv {p q : Px} (hp : sanB p = true) (hq : sanB q = true) : apB p q = (!cvB p q && !cvB q p) := by
  obtain ⟨⟨ph, pl, pv⟩, pn⟩ := p
  obtain ⟨⟨qh, ql, qv⟩, qn⟩ := q
  obtain ⟨c, hc, e1, e2, e3⟩ := saneB_ex hp
  obtain ⟨m, hm, f1, f2, f3⟩ := saneB_ex hq
  dsimp only at hc hm e1 e2 e3 f1 f2 f3
  clear hp hq
  generalize D ph pl = dp at e2 e3
  generalize D qh ql = dq at f2 f3
  subst e1 e2 e3 f1 f2 f3
  unfold apB cvB
  dsimp only
  rw [apaB_pk _ _ _ hc _ _ _ hm, covB_pk _ _ _ hc _ _ _ hm, covB_pk _ _ _ hm _ _ _ hc]
theorem cvB_sane {p q : Px} (h : cvB p q = true) : sanB p = true ∧ sanB q = true := covB_sane h
theorem con_sane {p : Px} {a : Ad} (h : conB p a = true) : sanB p = true := by
  unfold conB contB at h
  simp only [Bool.and_eq_true] at h
  exact h.1
theorem whole_sane (a : Ad) : sanB (wholeP a) = true := saneB_pk a.v6 (D a.hi a.lo) (W a.v6) (Nat.le_refl _)
theorem apart_q {p q : Px} (hp : p.a.wf) (hq : q.a.wf) : Cal Try.prog 46 [p.val, q.val] (.bool (apB p q)) := apart_s hp hq _ _ _ _
theorem sane_px {p : Px} (hp : p.a.wf) : Cal Try.prog 45 [p.val] (.bool (sanB p)) := sane_s hp _ _
end Go.Proofs.Ytpopikomcnkhnaa.Hand
