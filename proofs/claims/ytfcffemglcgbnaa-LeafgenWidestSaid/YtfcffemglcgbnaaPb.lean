/-
  Prefixes and addresses as records: which may be, what they contain and cover.
-/
import Derived.Test.YtfcffemglcgbnaaWr
namespace Go.Proofs.Ytfcffemglcgbnaa.Hand
open Go.RowKit Go.Proofs.Ytfcffemglcgbnaa.Bits Go.Proofs.Ytfcffemglcgbnaa.Dig Go.Proofs.Ytfcffemglcgbnaa.Sq
set_option linter.unusedVariables false
set_option linter.unusedSimpArgs false
set_option maxRecDepth 100000
set_option maxHeartbeats 1000000
theorem wrap_suc {i : Nat} (h : i ≤ 1000000000) : IntKind.i64.wrap (((i : Nat) : Int) + 1) = (((i + 1 : Nat)) : Int) := by
  rw [IntWalk.i64_in _ (by omega)]; omega
noncomputable def conB (p : Px) (a : Ad) : Bool := contB p.a.hi p.a.lo p.a.v6 p.n a.hi a.lo a.v6
noncomputable def sanB (p : Px) : Bool := saneB p.a.hi p.a.lo p.a.v6 p.n
noncomputable def wholeP (a : Ad) : Px := ⟨⟨hiA a.v6 (cutd (D a.hi a.lo) (W a.v6)), loA a.v6 (cutd (D a.hi a.lo) (W a.v6)), a.v6⟩, ((W a.v6 : Nat) : Int)⟩
noncomputable def cvB (p q : Px) : Bool := covB p.a.hi p.a.lo p.a.v6 p.n q.a.hi q.a.lo q.a.v6 q.n
theorem cov_s {p q : Px} (hp : p.a.wf) (hq : q.a.wf) : Cal Try.prog 17 [p.val, q.val] (.bool (cvB p q)) := covers_s hp hq _ _ _ _
theorem cvB_sane {p q : Px} (h : cvB p q = true) : sanB p = true ∧ sanB q = true := covB_sane h
theorem con_sane {p : Px} {a : Ad} (h : conB p a = true) : sanB p = true := by
  unfold conB contB at h
  simp only [Bool.and_eq_true] at h
  exact h.1
theorem whole_sane (a : Ad) : sanB (wholeP a) = true := saneB_pk a.v6 (D a.hi a.lo) (W a.v6) (Nat.le_refl _)
theorem sane_px {p : Px} (hp : p.a.wf) : Cal Try.prog 30 [p.val] (.bool (sanB p)) := sane_s hp _ _
end Go.Proofs.Ytfcffemglcgbnaa.Hand
