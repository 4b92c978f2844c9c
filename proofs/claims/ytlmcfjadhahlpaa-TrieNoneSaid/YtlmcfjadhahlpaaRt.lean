/-
  The parameters' types of kedgelaw05, opened as records.
-/
import Derived.Test.YtlmcfjadhahlpaaRp
import Derived.Test.YtlmcfjadhahlpaaTt
namespace Go.Proofs.Ytlmcfjadhahlpaa.Hand
open Go.RowKit Go.Proofs.Ytlmcfjadhahlpaa.Sq Go.Proofs.Ytlmcfjadhahlpaa.Op
set_option linter.unusedVariables false
set_option maxRecDepth 100000
theorem opA5 : OpF Try.prog 75 Ac5.cells Ac5.wf := opr_imp (opr_struct3 (z0 := 1) (z1 := 4) (z2 := 1) Try.underlying75 (by kernel_rfl) (by kernel_rfl) (by kernel_rfl) (by kernel_rfl) (by kernel_rfl) (by kernel_rfl) (by kernel_rfl) (opf_bool Try.underlying4) opPx (opf_int Try.underlying3)) fun w cs ⟨x0, x1, x2, e, ⟨a0, o0, r0⟩, ⟨a1, o1, r1⟩, ⟨a2, o2, r2⟩⟩ => ⟨⟨a0, a1, a2⟩, o1.1, by subst r0 r1 r2; exact e⟩
theorem opA5s : OpR Try.prog 69 (fun w cs => ∃ (A : Option Addr) (c : Nat) (l : List Ac5), cs = [.slice A l.length c] ∧ Reads w A c 6 (l.map Ac5.cells) ∧ (∀ e ∈ l, e.wf) ∧ c ≤ maxLen) := opr_slice (k := 6) (by decide) (fun e => ⟨rfl, fun v hv => by simp only [Ac5.cells, List.mem_cons, List.not_mem_nil, or_false] at hv; rcases hv with rfl | rfl | rfl | rfl | rfl | rfl <;> rfl⟩) Try.underlying69 (by kernel_rfl) opA5
theorem opPxs : OpR Try.prog 81 (fun w cs => ∃ (A : Option Addr) (c : Nat) (l : List Px), cs = [.slice A l.length c] ∧ Reads w A c 4 (l.map Px.cells) ∧ (∀ p ∈ l, p.a.wf ∧ (Lit.int .i64 p.n).wf = true) ∧ c ≤ maxLen) := opr_slice (k := 4) (by decide) (fun e => ⟨rfl, fun v hv => by simp only [Px.cells, List.mem_cons, List.not_mem_nil, or_false] at hv; rcases hv with rfl | rfl | rfl | rfl <;> rfl⟩) Try.underlying81 (by kernel_rfl) opPx
end Go.Proofs.Ytlmcfjadhahlpaa.Hand
