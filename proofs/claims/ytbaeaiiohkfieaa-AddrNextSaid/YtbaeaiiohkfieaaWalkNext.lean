/-
  The plain law of AddrNext: a step is a step.
-/
import Derived.Test.YtbaeaiiohkfieaaPDx
import Derived.Test.YtbaeaiiohkfieaaVal
import Derived.Test.YtbaeaiiohkfieaaLawA
namespace Go.Proofs.Ytbaeaiiohkfieaa.Hand
open Go.RowKit Go.Proofs.Ytbaeaiiohkfieaa.PD Go.Proofs.YtbaeaiiohkfieaaW.PrintWords Go.Proofs.YtbaeaiiohkfieaaW.PrintLast Go.Proofs.Ytbaeaiiohkfieaa.Bits Go.Proofs.Ytbaeaiiohkfieaa.Dig
set_option linter.unusedVariables false

theorem wf_u64 {n : Int} (h : (Lit.int .u64 n).wf = true) : u64 n := by
  simp [Lit.wf, IntKind.min, IntKind.max, IntKind.bits, IntKind.signed] at h
  constructor <;> omega
theorem Next_f {a0 a1 : Int} (h : u64 a0 ∧ u64 a1) (a2 : Bool) : addr_Next.f a0 a1 a2 = some (nextA a0 a1 a2) := by unfold addr_Next.f; rw [gd_pos h]
theorem Compare_f {a0 a1 b0 b1 : Int} (h : u64 a0 ∧ u64 a1) (a2 : Bool) (h' : u64 b0 ∧ u64 b1) (b2 : Bool) : addr_Compare.f a0 a1 a2 b0 b1 b2 = some (compA a0 a1 a2 b0 b1 b2) := by unfold addr_Compare.f; rw [gd_pos ⟨h, h'⟩]
theorem Common_f {a0 a1 b0 b1 : Int} (h : u64 a0 ∧ u64 a1) (a2 : Bool) (h' : u64 b0 ∧ u64 b1) (b2 : Bool) : addr_Common.f a0 a1 a2 b0 b1 b2 = some (commonA a0 a1 a2 b0 b1 b2) := by unfold addr_Common.f; rw [gd_pos ⟨h, h'⟩]

theorem next_tail (a0 a1 : Int) (a2 : Bool) (ha : u64 a0 ∧ u64 a1) (k : Nat) (hk : k < W a2) (h0 : D a0 a1 k = false) (h1 : ∀ i, k < i → i < W a2 → D a0 a1 i = true) :
    kedgelaw01_AddrNext.j0 2 true false a0 a1 a2 (hiA a2 (upD (D a0 a1) k)) (loA a2 (upD (D a0 a1) k)) a2 = some true := by
  have hW := W_le a2
  simp only [kedgelaw01_AddrNext.j0]
  rw [if_neg (by decide), Common_f ha _ (u_mk _ _), common_up hk h0]
  simp only [Option.bind_some, if_true]
  rw [if_pos (by omega), Bit_f ha, bitA_at, h0, Bool.and_false]
  simp only [Option.bind_some]
  rw [if_pos (show bitI false = 0 from rfl), Bit_f (u_mk _ _), bitA_mk, show upD (D a0 a1) k k = true by simp [upD], decide_eq_true hk]
  simp only [Option.bind_some]
  rw [if_pos (show bitI (true && true) = 1 from rfl), Fill_f ha, Mask_f ha, show wrap64 ((k : Int) + 1) = ((k + 1 : Nat) : Int) by unfold wrap64; omega, Mask_mk]
  simp only [Option.bind_some, mkA]
  rw [if_pos (eq3_mk (fun i hi => ?_)), eq3_mk (fun i hi => ?_)]
  · simp only [kedgelaw01_AddrNext.j1]
  · unfold upD
    by_cases h : i < k
    · rw [if_pos h]; simp; omega
    · rw [if_neg h]
      by_cases h2 : i = k
      · subst h2; simp; omega
      · simp [h2]
  · by_cases h : k < i
    · rw [h1 i h hi]; simp; omega
    · have e : decide (((k + 1 : Nat) : Int) ≤ (i : Int)) = false := decide_eq_false (by omega)
      rw [e]; simp; omega
theorem next_law (a0 a1 : Int) (a2 : Bool) (b0 b1 : Int) (b2 : Bool) (ha : u64 a0 ∧ u64 a1) (hb : u64 b0 ∧ u64 b1) : kedgelaw01_AddrNext.f 2 a0 a1 a2 b0 b1 b2 = some true := by
  unfold kedgelaw01_AddrNext.f
  rw [show kedgelaw01_awake.f = some true from rfl, Next_f ha]
  simp only [Option.bind_some]
  have hW := W_le a2
  rcases next_spec a0 a1 a2 with ⟨k, hk, h0, h1, h2⟩ | ⟨h1, h2⟩
  · rw [h2]
    simp only [if_true]
    rw [Compare_f ha _ hb]
    simp only [Option.bind_some]
    have ht := next_tail a0 a1 a2 ha k hk h0 h1
    split
    · rename_i hlt
      rw [Compare_f hb _ (u_mk _ _)]
      simp only [Option.bind_some]
      have : ¬ compA b0 b1 b2 (hiA a2 (upD (D a0 a1) k)) (loA a2 (upD (D a0 a1) k)) a2 < 0 := by
        by_cases e : b2 = a2
        · subst e
          rw [comp_val, c3_lt] at hlt ⊢
          rw [va_D, va_up hk h0 h1]
          omega
        · rw [comp_diff _ _ _ _ _ _ e]
          rw [comp_diff _ _ _ _ _ _ (fun h => e h.symm)] at hlt
          cases a2 <;> cases b2 <;> simp_all
      rw [decide_eq_false this]
      exact ht
    · exact ht
  · rw [h2]
    simp only [Bool.false_eq_true, if_false, if_true]
    rw [Fill_f ha, Mask_f ha]
    simp only [Option.bind_some, mkA]
    rw [eq3_mk (fun i hi => by rw [h1 i hi]; simp; omega)]
theorem addrNext_walk (a0 a1 : Int) (a2 : Bool) (b0 b1 : Int) (b2 : Bool) (h1 : (Lit.int .u64 a0).wf = true) (h2 : (Lit.int .u64 a1).wf = true) (h3 : (Lit.int .u64 b0).wf = true) (h4 : (Lit.int .u64 b1).wf = true) (W : World) :
    Calls Try.prog 10 #[.agg #[.int .u64 a0, .int .u64 a1, .bool a2], .agg #[.int .u64 b0, .int .u64 b1, .bool b2]] W fun e w' => e = .returned (.bool true) ∧ Below W.heap.size W w' :=
  kedgelaw01_AddrNext.calls 2 a0 a1 a2 b0 b1 b2 true W (next_law a0 a1 a2 b0 b1 b2 ⟨wf_u64 h1, wf_u64 h2⟩ ⟨wf_u64 h3, wf_u64 h4⟩)
end Go.Proofs.Ytbaeaiiohkfieaa.Hand
