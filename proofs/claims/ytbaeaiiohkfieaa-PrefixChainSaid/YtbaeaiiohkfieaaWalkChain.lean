/-
  The plain law of PrefixChain: parent by parent.
-/
import Derived.Test.YtbaeaiiohkfieaaPIx3
import Derived.Test.YtbaeaiiohkfieaaAwakeB
namespace Go.Proofs.Ytbaeaiiohkfieaa.Hand
open Go.RowKit Go.Proofs.Ytbaeaiiohkfieaa.PI Go.Proofs.YtbaeaiiohkfieaaW.PrintWords Go.Proofs.YtbaeaiiohkfieaaW.PrintLast Go.Proofs.Ytbaeaiiohkfieaa.Bits Go.Proofs.Ytbaeaiiohkfieaa.Dig
set_option linter.unusedVariables false
set_option linter.unusedSimpArgs false

theorem wf_u64 {n : Int} (h : (Lit.int .u64 n).wf = true) : u64 n := by
  simp [Lit.wf, IntKind.min, IntKind.max, IntKind.bits, IntKind.signed] at h
  constructor <;> omega
theorem chain_loop (a0 a1 : Int) (v : Bool) (ha : u64 a0 ∧ u64 a1) (c : Nat) : ∀ (m i : Nat), i + c = W v →
    kedgelaw02_PrefixChain.l0 (m + 5 + 2 * c) true i i a0 a1 v (hiA v (cutd (D a0 a1) c)) (loA v (cutd (D a0 a1) c)) v c = some true := by
  have hW := W_le v
  have hof : ∀ c : Nat, c ≤ W v → prefix_Of.f a0 a1 v (c : Int) = some (hiA v (cutd (D a0 a1) c), loA v (cutd (D a0 a1) c), v, ((c : Nat) : Int)) := fun c hc => by rw [Of_f ha, clampW_in hc]
  induction c with
  | zero =>
    intro m i hi
    simp only [Nat.mul_zero, Nat.add_zero, kedgelaw02_PrefixChain.l0]
    rw [if_pos (by omega), Parent_0 _ _ _ (by decide), Contains_pk v _ 0 (by omega) ha, conD_self]
    simp only [Option.bind_some, if_true]
    rw [hof 0 (by omega)]
    simp only [Option.bind_some, kedgelaw02_PrefixChain.j1, beq_self_eq_true, Bool.not_true, Bool.or_self, Bool.false_eq_true, if_false, kedgelaw02_PrefixChain.j2, if_true]
    rw [if_pos (show ((0 : Nat) : Int) = 0 from rfl), show addr_Width.f v = some ((W v : Nat) : Int) from rfl]
    simp only [Option.bind_some, kedgelaw02_PrefixChain.j3]
    rw [show i = W v by omega, beq_self_eq_true]
  | succ c ih =>
    intro m i hi
    rw [show m + 5 + 2 * (c + 1) = (m + 5 + 2 * c) + 1 + 1 by omega]
    simp only [kedgelaw02_PrefixChain.l0]
    rw [if_pos (by omega), Parent_pk v _ c (by omega), Contains_pk v _ (c + 1) (by omega) ha, conD_self]
    simp only [Option.bind_some, if_true]
    rw [hof (c + 1) (by omega)]
    simp only [Option.bind_some, kedgelaw02_PrefixChain.j1, beq_self_eq_true, Bool.not_true, Bool.or_self, Bool.false_eq_true, if_false, if_true]
    rw [show m + 5 + 2 * c = (m + 4 + 2 * c) + 1 by omega, Inside_pk _ v _ c (by omega) v _ (c + 1) (by omega), conD_self, decide_eq_true (show c < c + 1 by omega)]
    simp only [Option.bind_some, Bool.and_self, if_true]
    rw [if_pos (by rw [wr64 _ (by omega)]; omega), show wrap64 ((i : Int) + 1) = ((i + 1 : Nat) : Int) by rw [wr64 _ (by omega)]; rfl]
    have := ih m (i + 1) (by omega)
    rw [show m + 5 + 2 * c = (m + 4 + 2 * c) + 1 by omega] at this
    exact this
theorem chain_law (a0 a1 : Int) (v : Bool) (ha : u64 a0 ∧ u64 a1) : ∃ k, kedgelaw02_PrefixChain.f k a0 a1 v = some true := by
  refine ⟨0 + 5 + 2 * W v, ?_⟩
  unfold kedgelaw02_PrefixChain.f
  have h := chain_loop a0 a1 v ha (W v) 0 0 (by omega)
  have hc : clampW v 128 = W v := by unfold clampW mxi mni; cases v <;> decide
  rw [show kedgelaw02_awake.f = some true from rfl, Of_f ha, hc]
  exact h
theorem prefixChain_walk (a0 a1 : Int) (a2 : Bool) (h1 : (Lit.int .u64 a0).wf = true) (h2 : (Lit.int .u64 a1).wf = true) (W : World) :
    Calls Try.prog 5 #[.agg #[.int .u64 a0, .int .u64 a1, .bool a2]] W fun e w' => e = .returned (.bool true) ∧ Below W.heap.size W w' := by
  obtain ⟨k, hk⟩ := chain_law a0 a1 a2 ⟨wf_u64 h1, wf_u64 h2⟩
  exact kedgelaw02_PrefixChain.calls k a0 a1 a2 true W hk
end Go.Proofs.Ytbaeaiiohkfieaa.Hand
