/-
  The parameters' types, opened as records.
-/
import Derived.Test.YtfcffemglcgbnaaOp
import Derived.Test.YtfcffemglcgbnaaRecs
namespace Go.Proofs.Ytfcffemglcgbnaa.Hand
open Go.RowKit Go.Proofs.Ytfcffemglcgbnaa.Sq Go.Proofs.Ytfcffemglcgbnaa.Op
set_option linter.unusedVariables false
set_option maxRecDepth 100000
theorem RCal.out {P : Program} {f : FuncId} {vs : List Value} {U : Mem} {v : Value} (h : RCal P f vs U v) : ∀ w, (∀ u ∈ U, u.ok w) → Calls P f vs.toArray w fun e w' => e = .returned v ∧ Below w.heap.size w w' := by
  unfold RCal at h
  exact h
theorem oks_nil {w : World} : ∀ u ∈ ([] : Mem), u.ok w := fun _ h => by cases h
theorem oks_cons {w : World} {r : Pc} {U : Mem} (h : r.ok w) (hs : ∀ u ∈ U, u.ok w) : ∀ u ∈ r :: U, u.ok w := fun u hu => by
  rcases List.mem_cons.1 hu with rfl | hu
  · exact h
  · exact hs u hu
theorem wf_u64 {n : Int} (h : (Lit.int .u64 n).wf = true) : 0 ≤ n ∧ n < 18446744073709551616 := by
  simp only [Lit.wf, Bool.and_eq_true, decide_eq_true_eq] at h
  have h1 : (0 : Int) ≤ n := h.1
  have h2 : n ≤ 18446744073709551615 := h.2
  omega
theorem opAd : OpF Try.prog 25 Ad.cells Ad.wf := opr_imp (opr_struct3 (z0 := 1) (z1 := 1) (z2 := 1) Try.underlying25 (by kernel_rfl) (by kernel_rfl) (by kernel_rfl) (by kernel_rfl) (by kernel_rfl) (by kernel_rfl) (by kernel_rfl) (opf_int Try.underlying23) (opf_int Try.underlying23) (opf_bool Try.underlying4)) fun w cs ⟨x0, x1, x2, e, ⟨a0, o0, r0⟩, ⟨a1, o1, r1⟩, ⟨a2, _, r2⟩⟩ => ⟨⟨a0, a1, a2⟩, ⟨wf_u64 o0, wf_u64 o1⟩, by subst r0 r1 r2; exact e⟩
theorem opPx : OpF Try.prog 30 Px.cells (fun p => p.a.wf ∧ (Lit.int .i64 p.n).wf = true) := opr_imp (opr_struct2 (z0 := 3) (z1 := 1) Try.underlying30 (by kernel_rfl) (by kernel_rfl) (by kernel_rfl) (by kernel_rfl) (by kernel_rfl) opAd (opf_int Try.underlying3)) fun w cs ⟨x0, x1, e, ⟨a0, o0, r0⟩, ⟨a1, o1, r1⟩⟩ => ⟨⟨a0, a1⟩, ⟨o0, o1⟩, by subst r0 r1; exact e⟩
end Go.Proofs.Ytfcffemglcgbnaa.Hand
