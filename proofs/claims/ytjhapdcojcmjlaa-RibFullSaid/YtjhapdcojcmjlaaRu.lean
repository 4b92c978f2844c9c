/-
  The parameters' types of kedgelaw06 and kedgelaw07, opened as records.
-/
import Derived.Test.YtjhapdcojcmjlaaRq
import Derived.Test.YtjhapdcojcmjlaaTt
namespace Go.Proofs.Ytjhapdcojcmjlaa.Hand
open Go.RowKit Go.Proofs.Ytjhapdcojcmjlaa.Sq Go.Proofs.Ytjhapdcojcmjlaa.Op
set_option linter.unusedVariables false
set_option maxRecDepth 100000
theorem opA6 : OpF Try.prog 54 Ac5.cells Ac5.wf := opr_imp (opr_struct3 (z0 := 1) (z1 := 4) (z2 := 1) Try.underlying54 (by kernel_rfl) (by kernel_rfl) (by kernel_rfl) (by kernel_rfl) (by kernel_rfl) (by kernel_rfl) (by kernel_rfl) (opf_bool Try.underlying4) opPx (opf_int Try.underlying3)) fun w cs ⟨x0, x1, x2, e, ⟨a0, o0, r0⟩, ⟨a1, o1, r1⟩, ⟨a2, o2, r2⟩⟩ => ⟨⟨a0, a1, a2⟩, o1.1, by subst r0 r1 r2; exact e⟩
theorem opA6s : OpR Try.prog 50 (fun w cs => ∃ (A : Option Addr) (c : Nat) (l : List Ac5), cs = [.slice A l.length c] ∧ Reads w A c 6 (l.map Ac5.cells) ∧ (∀ e ∈ l, e.wf) ∧ c ≤ maxLen) := opr_slice (k := 6) (by decide) (fun e => ⟨rfl, fun v hv => by simp only [Ac5.cells, List.mem_cons, List.not_mem_nil, or_false] at hv; rcases hv with rfl | rfl | rfl | rfl | rfl | rfl <;> rfl⟩) Try.underlying50 (by kernel_rfl) opA6
theorem opPr : OpF Try.prog 37 Pr.cells (fun x => (x.p.a.wf ∧ (Lit.int .i64 x.p.n).wf = true) ∧ (Lit.int .i64 x.v).wf = true) := opr_imp (opr_struct2 (z0 := 4) (z1 := 1) Try.underlying37 (by kernel_rfl) (by kernel_rfl) (by kernel_rfl) (by kernel_rfl) (by kernel_rfl) opPx (opf_int Try.underlying3)) fun w cs ⟨x0, x1, e, ⟨a0, o0, r0⟩, ⟨a1, o1, r1⟩⟩ => ⟨⟨a0, a1⟩, ⟨o0, o1⟩, by subst r0 r1; exact e⟩
theorem opPrs : OpR Try.prog 45 (fun w cs => ∃ (A : Option Addr) (c : Nat) (l : List Pr), cs = [.slice A l.length c] ∧ Reads w A c 5 (l.map Pr.cells) ∧ (∀ x ∈ l, (x.p.a.wf ∧ (Lit.int .i64 x.p.n).wf = true) ∧ (Lit.int .i64 x.v).wf = true) ∧ c ≤ maxLen) := opr_slice (k := 5) (by decide) (fun e => ⟨rfl, fun v hv => by simp only [Pr.cells, List.mem_cons, List.not_mem_nil, or_false] at hv; rcases hv with rfl | rfl | rfl | rfl | rfl <;> rfl⟩) Try.underlying45 (by kernel_rfl) opPr
end Go.Proofs.Ytjhapdcojcmjlaa.Hand
