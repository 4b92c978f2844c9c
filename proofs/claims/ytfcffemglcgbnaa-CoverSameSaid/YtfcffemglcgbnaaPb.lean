/-
  The walks of the references of addresses and prefixes.
-/
import Derived.Test.YtfcffemglcgbnaaWp
namespace Go.Proofs.Ytfcffemglcgbnaa.Hand
open Go.RowKit Go.Proofs.Ytfcffemglcgbnaa.Bits Go.Proofs.Ytfcffemglcgbnaa.Dig Go.Proofs.Ytfcffemglcgbnaa.Sq
set_option linter.unusedVariables false
set_option linter.unusedSimpArgs false
set_option maxRecDepth 100000
set_option maxHeartbeats 1000000
theorem covB_sane {a0 a1 b0 b1 : Int} {a2 : Bool} {a3 : Int} {b2 : Bool} {b3 : Int} (h : covB a0 a1 a2 a3 b0 b1 b2 b3 = true) : saneB a0 a1 a2 a3 = true ∧ saneB b0 b1 b2 b3 = true := by
  unfold covB contB at h
  simp only [Bool.and_eq_true] at h
  exact ⟨h.2.1, h.1.2⟩
end Go.Proofs.Ytfcffemglcgbnaa.Hand
namespace Go.Proofs.Ytfcffemglcgbnaa.Hand
open Go.RowKit Go.Proofs.Ytfcffemglcgbnaa.Bits Go.Proofs.Ytfcffemglcgbnaa.Dig Go.Proofs.Ytfcffemglcgbnaa.Sq
set_option linter.unusedVariables false
set_option linter.unusedSimpArgs false
set_option maxRecDepth 100000
set_option maxHeartbeats 1000000
theorem wrap_suc {i : Nat} (h : i ≤ 1000000000) : IntKind.i64.wrap (((i : Nat) : Int) + 1) = (((i + 1 : Nat)) : Int) := by
  rw [IntWalk.i64_in _ (by omega)]; omega
noncomputable def bP (p : Prop) : Bool := @decide p (Classical.propDecidable p)
theorem bP_t {p : Prop} (h : p) : bP p = true := by unfold bP; exact @decide_eq_true _ (Classical.propDecidable p) h
theorem bP_f {p : Prop} (h : ¬p) : bP p = false := by unfold bP; exact @decide_eq_false _ (Classical.propDecidable p) h
theorem bP_iff {p : Prop} : bP p = true ↔ p := by unfold bP; exact @decide_eq_true_iff _ (Classical.propDecidable p)
theorem clampW_W (v : Bool) : clampW v ((W v : Nat) : Int) = W v := by unfold clampW mxi mni; split <;> (try split) <;> omega
noncomputable def conB (p : Px) (a : Ad) : Bool := contB p.a.hi p.a.lo p.a.v6 p.n a.hi a.lo a.v6
theorem con_s {p : Px} {a : Ad} (hp : p.a.wf) (ha : a.wf) : Cal Try.prog 51 [p.val, a.val] (.bool (conB p a)) := contains_s hp ha _ _ _
noncomputable def sanB (p : Px) : Bool := saneB p.a.hi p.a.lo p.a.v6 p.n
noncomputable def wholeP (a : Ad) : Px := ⟨⟨hiA a.v6 (cutd (D a.hi a.lo) (W a.v6)), loA a.v6 (cutd (D a.hi a.lo) (W a.v6)), a.v6⟩, ((W a.v6 : Nat) : Int)⟩
noncomputable def cvB (p q : Px) : Bool := covB p.a.hi p.a.lo p.a.v6 p.n q.a.hi q.a.lo q.a.v6 q.n
theorem cvB_sane {p q : Px} (h : cvB p q = true) : sanB p = true ∧ sanB q = true := covB_sane h
theorem con_sane {p : Px} {a : Ad} (h : conB p a = true) : sanB p = true := by
  unfold conB contB at h
  simp only [Bool.and_eq_true] at h
  exact h.1
theorem whole_sane (a : Ad) : sanB (wholeP a) = true := saneB_pk a.v6 (D a.hi a.lo) (W a.v6) (Nat.le_refl _)
theorem sane_px {p : Px} (hp : p.a.wf) : Cal Try.prog 30 [p.val] (.bool (sanB p)) := sane_s hp _ _
end Go.Proofs.Ytfcffemglcgbnaa.Hand
