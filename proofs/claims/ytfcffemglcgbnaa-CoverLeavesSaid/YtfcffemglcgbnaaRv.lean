/-
  Records for rows: routes.
-/
import Derived.Test.YtfcffemglcgbnaaRq
import Derived.Test.YtfcffemglcgbnaaTt
namespace Go.Proofs.Ytfcffemglcgbnaa.Hand
open Go.RowKit Go.Proofs.Ytfcffemglcgbnaa.Sq Go.Proofs.Ytfcffemglcgbnaa.Op
set_option linter.unusedVariables false
set_option maxRecDepth 100000
theorem opPr : OpF Try.prog 58 Pr.cells (fun x => (x.p.a.wf ∧ (Lit.int .i64 x.p.n).wf = true) ∧ (Lit.int .i64 x.v).wf = true) := opr_imp (opr_struct2 (z0 := 4) (z1 := 1) Try.underlying58 (by kernel_rfl) (by kernel_rfl) (by kernel_rfl) (by kernel_rfl) (by kernel_rfl) opPx (opf_int Try.underlying3)) fun w cs ⟨x0, x1, e, ⟨a0, o0, r0⟩, ⟨a1, o1, r1⟩⟩ => ⟨⟨a0, a1⟩, ⟨o0, o1⟩, by subst r0 r1; exact e⟩
theorem opPrs : OpR Try.prog 22 (fun w cs => ∃ (A : Option Addr) (c : Nat) (l : List Pr), cs = [.slice A l.length c] ∧ Reads w A c 5 (l.map Pr.cells) ∧ (∀ x ∈ l, (x.p.a.wf ∧ (Lit.int .i64 x.p.n).wf = true) ∧ (Lit.int .i64 x.v).wf = true) ∧ c ≤ maxLen) := opr_slice (k := 5) (by decide) (fun e => ⟨rfl, fun v hv => by simp only [Pr.cells, List.mem_cons, List.not_mem_nil, or_false] at hv; rcases hv with rfl | rfl | rfl | rfl | rfl <;> rfl⟩) Try.underlying22 (by kernel_rfl) opPr
end Go.Proofs.Ytfcffemglcgbnaa.Hand
