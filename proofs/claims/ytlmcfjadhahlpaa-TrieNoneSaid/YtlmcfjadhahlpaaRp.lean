/-
  The parameters' types, opened as records.
-/
import Derived.Test.YtlmcfjadhahlpaaOp
import Derived.Test.YtlmcfjadhahlpaaRecs
namespace Go.Proofs.Ytlmcfjadhahlpaa.Hand
open Go.RowKit Go.Proofs.Ytlmcfjadhahlpaa.Sq Go.Proofs.Ytlmcfjadhahlpaa.Op
set_option linter.unusedVariables false
set_option maxRecDepth 100000
theorem RCal.out {P : Program} {f : FuncId} {vs : List Value} {U : Mem} {v : Value} (h : RCal P f vs U v) : ∀ w, (∀ u ∈ U, u.ok w) → Calls P f vs.toArray w fun e w' => e = .returned v ∧ Below w.heap.size w w' := by
  unfold RCal at h
  exact h
theorem oks_nil {w : World} : ∀ u ∈ ([] : Mem), u.ok w := fun _ h => by cases h
theorem oks_cons {w : World} {r : Pc} {U : Mem} (h : r.ok w) (hs : ∀ u ∈ U, u.ok w) : ∀ u ∈ r :: U, u.ok w := fun u hu => by
  rcases List.mem_cons.1 hu with rfl | hu
  · exact h
  · exact hs u hu
theorem wf_u64 {n : Int} (h : (Lit.int .u64 n).wf = true) : 0 ≤ n ∧ n < 18446744073709551616 := by
  simp only [Lit.wf, Bool.and_eq_true, decide_eq_true_eq] at h
  have h1 : (0 : Int) ≤ n := h.1
  have h2 : n ≤ 18446744073709551615 := h.2
  omega
theorem opAd : OpF Try.prog 34 Ad.cells Ad.wf := opr_imp (opr_struct3 (z0 := 1) (z1 := 1) (z2 := 1) Try.underlying34 (by kernel_rfl) (by kernel_rfl) (by kernel_rfl) (by kernel_rfl) (by kernel_rfl) (by kernel_rfl) (by kernel_rfl) (opf_int Try.underlying32) (opf_int Try.underlying32) (opf_bool Try.underlying4)) fun w cs ⟨x0, x1, x2, e, ⟨a0, o0, r0⟩, ⟨a1, o1, r1⟩, ⟨a2, _, r2⟩⟩ => ⟨⟨a0, a1, a2⟩, ⟨wf_u64 o0, wf_u64 o1⟩, by subst r0 r1 r2; exact e⟩
theorem opPx : OpF Try.prog 36 Px.cells (fun p => p.a.wf ∧ (Lit.int .i64 p.n).wf = true) := opr_imp (opr_struct2 (z0 := 3) (z1 := 1) Try.underlying36 (by kernel_rfl) (by kernel_rfl) (by kernel_rfl) (by kernel_rfl) (by kernel_rfl) opAd (opf_int Try.underlying3)) fun w cs ⟨x0, x1, e, ⟨a0, o0, r0⟩, ⟨a1, o1, r1⟩⟩ => ⟨⟨a0, a1⟩, ⟨o0, o1⟩, by subst r0 r1; exact e⟩
theorem opRt : OpF Try.prog 38 Rt.cells (fun x => (x.p.a.wf ∧ (Lit.int .i64 x.p.n).wf = true) ∧ (Lit.int .i64 x.hop).wf = true) := opr_imp (opr_struct2 (z0 := 4) (z1 := 1) Try.underlying38 (by kernel_rfl) (by kernel_rfl) (by kernel_rfl) (by kernel_rfl) (by kernel_rfl) opPx (opf_int Try.underlying3)) fun w cs ⟨x0, x1, e, ⟨a0, o0, r0⟩, ⟨a1, o1, r1⟩⟩ => ⟨⟨a0, a1⟩, ⟨o0, o1⟩, by subst r0 r1; exact e⟩
theorem opEn : OpF Try.prog 51 En.cells En.wf := opr_imp (opr_struct3 (z0 := 3) (z1 := 5) (z2 := 1) Try.underlying51 (by kernel_rfl) (by kernel_rfl) (by kernel_rfl) (by kernel_rfl) (by kernel_rfl) (by kernel_rfl) (by kernel_rfl) opAd opRt (opf_bool Try.underlying4)) fun w cs ⟨x0, x1, x2, e, ⟨a0, o0, r0⟩, ⟨a1, o1, r1⟩, ⟨a2, _, r2⟩⟩ => ⟨⟨a0, a1, a2⟩, ⟨o0, o1.1.1⟩, by subst r0 r1 r2; exact e⟩
theorem opQu : OpR Try.prog 30 (fun w cs => ∃ (A : Option Addr) (c : Nat) (l : List En) (b : Int), cs = [.slice A l.length c, .int .i64 b] ∧ Reads w A c 9 (l.map En.cells) ∧ (∀ e ∈ l, e.wf) ∧ c ≤ maxLen ∧ (Lit.int .i64 b).wf = true) := opr_imp (opr_struct2 (z0 := 1) (z1 := 1) Try.underlying30 (by kernel_rfl) (by kernel_rfl) (by kernel_rfl) (by kernel_rfl) (by kernel_rfl) (opr_slice (k := 9) (by decide) (fun e => ⟨rfl, fun v hv => by simp only [En.cells, List.mem_cons, List.not_mem_nil, or_false] at hv; rcases hv with rfl | rfl | rfl | rfl | rfl | rfl | rfl | rfl | rfl <;> rfl⟩) Try.underlying28 (by kernel_rfl) opEn) (opf_int Try.underlying3)) fun w cs ⟨x0, x1, e, ⟨A, c, l, r0, r1, r2, r3⟩, ⟨a1, o1, s1⟩⟩ => ⟨A, c, l, a1, by subst r0 s1; exact e, r1, r2, r3, o1⟩
theorem opAc : OpF Try.prog 40 Ac.cells Ac.wf := opr_imp (opr_struct4 (z0 := 1) (z1 := 3) (z2 := 5) (z3 := 1) Try.underlying40 (by kernel_rfl) (by kernel_rfl) (by kernel_rfl) (by kernel_rfl) (by kernel_rfl) (by kernel_rfl) (by kernel_rfl) (by kernel_rfl) (by kernel_rfl) (opf_int Try.underlying3) opAd opRt (opf_int Try.underlying3)) fun w cs ⟨x0, x1, x2, x3, e, ⟨a0, o0, r0⟩, ⟨a1, o1, r1⟩, ⟨a2, o2, r2⟩, ⟨a3, o3, r3⟩⟩ => ⟨⟨a0, a1, a2, a3⟩, ⟨o1, o2.1.1⟩, by subst r0 r1 r2 r3; exact e⟩
theorem opAcs : OpR Try.prog 22 (fun w cs => ∃ (A : Option Addr) (c : Nat) (l : List Ac), cs = [.slice A l.length c] ∧ Reads w A c 10 (l.map Ac.cells) ∧ (∀ e ∈ l, e.wf) ∧ c ≤ maxLen) := opr_slice (k := 10) (by decide) (fun e => ⟨rfl, fun v hv => by simp only [Ac.cells, List.mem_cons, List.not_mem_nil, or_false] at hv; rcases hv with rfl | rfl | rfl | rfl | rfl | rfl | rfl | rfl | rfl | rfl <;> rfl⟩) Try.underlying22 (by kernel_rfl) opAc
end Go.Proofs.Ytlmcfjadhahlpaa.Hand
