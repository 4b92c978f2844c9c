/-
  The plain law of AddrOrder: addresses stand in one order.
-/
import Derived.Test.YtbaeaiiohkfieaaPHx2
import Derived.Test.YtbaeaiiohkfieaaVal
import Derived.Test.YtbaeaiiohkfieaaLawA
namespace Go.Proofs.Ytbaeaiiohkfieaa.Hand
open Go.RowKit Go.Proofs.Ytbaeaiiohkfieaa.PH Go.Proofs.YtbaeaiiohkfieaaW.PrintWords Go.Proofs.YtbaeaiiohkfieaaW.PrintLast Go.Proofs.Ytbaeaiiohkfieaa.Bits Go.Proofs.Ytbaeaiiohkfieaa.Dig
set_option linter.unusedVariables false

theorem wf_u64 {n : Int} (h : (Lit.int .u64 n).wf = true) : u64 n := by
  simp [Lit.wf, IntKind.min, IntKind.max, IntKind.bits, IntKind.signed] at h
  constructor <;> omega
theorem Next_f {a0 a1 : Int} (h : u64 a0 ∧ u64 a1) (a2 : Bool) : addr_Next.f a0 a1 a2 = some (nextA a0 a1 a2) := by unfold addr_Next.f; rw [gd_pos h]
theorem Compare_f {a0 a1 b0 b1 : Int} (h : u64 a0 ∧ u64 a1) (a2 : Bool) (h' : u64 b0 ∧ u64 b1) (b2 : Bool) : addr_Compare.f a0 a1 a2 b0 b1 b2 = some (compA a0 a1 a2 b0 b1 b2) := by unfold addr_Compare.f; rw [gd_pos ⟨h, h'⟩]
theorem Common_f {a0 a1 b0 b1 : Int} (h : u64 a0 ∧ u64 a1) (a2 : Bool) (h' : u64 b0 ∧ u64 b1) (b2 : Bool) : addr_Common.f a0 a1 a2 b0 b1 b2 = some (commonA a0 a1 a2 b0 b1 b2) := by unfold addr_Common.f; rw [gd_pos ⟨h, h'⟩]
theorem c3_rng (a b : Int) : -1 ≤ c3 a b ∧ c3 a b ≤ 1 := by unfold c3; split <;> (try split) <;> omega
theorem comp_rng (a0 a1 : Int) (a2 : Bool) (b0 b1 : Int) (b2 : Bool) : -1 ≤ compA a0 a1 a2 b0 b1 b2 ∧ compA a0 a1 a2 b0 b1 b2 ≤ 1 := by
  by_cases h : a2 = b2
  · subst h; rw [comp_val]; exact c3_rng _ _
  · rw [comp_diff _ _ _ _ _ _ h]; split <;> decide
theorem comp_neg (a0 a1 : Int) (a2 : Bool) (b0 b1 : Int) (b2 : Bool) : compA a0 a1 a2 b0 b1 b2 = wrap64 (-compA b0 b1 b2 a0 a1 a2) := by
  have := comp_rng b0 b1 b2 a0 a1 a2
  rw [wr64 _ (by omega)]
  by_cases h : a2 = b2
  · subst h; rw [comp_val, comp_val]; exact c3_neg _ _
  · rw [comp_diff _ _ _ _ _ _ h, comp_diff _ _ _ _ _ _ (fun e => h e.symm)]
    cases a2 <;> cases b2 <;> simp_all
theorem comp_trans (a0 a1 : Int) (a2 : Bool) (b0 b1 : Int) (b2 : Bool) (c0 c1 : Int) (c2 : Bool) (h1 : compA a0 a1 a2 b0 b1 b2 ≤ 0) (h2 : compA b0 b1 b2 c0 c1 c2 ≤ 0) : ¬ compA a0 a1 a2 c0 c1 c2 > 0 := by
  by_cases ab : a2 = b2
  · subst ab
    by_cases bc : a2 = c2
    · subst bc
      rw [comp_val, c3_le] at h1 h2
      have : compA a0 a1 a2 c0 c1 a2 ≤ 0 := by rw [comp_val, c3_le]; omega
      omega
    · rw [comp_diff _ _ _ _ _ _ bc] at h2 ⊢
      omega
  · rw [comp_diff _ _ _ _ _ _ ab] at h1
    by_cases bc : b2 = c2
    · subst bc
      rw [comp_diff _ _ _ _ _ _ ab]
      omega
    · rw [comp_diff _ _ _ _ _ _ bc] at h2
      cases a2 <;> cases b2 <;> cases c2 <;> simp_all
theorem comp_zero (a0 a1 : Int) (a2 : Bool) (b0 b1 : Int) : (compA a0 a1 a2 b0 b1 a2 == 0) = (commonA a0 a1 a2 b0 b1 a2 == ((W a2 : Nat) : Int)) := by
  have hl := cmn_le (D a0 a1) (D b0 b1) (W a2)
  have he := cmn_end (D a0 a1) (D b0 b1) (W a2)
  rw [comp_same, show commonA a0 a1 a2 b0 b1 a2 = ((cmn (D a0 a1) (D b0 b1) (W a2) : Nat) : Int) by unfold commonA; rw [if_pos rfl], Bool.eq_iff_iff, beq_iff_eq, beq_iff_eq]
  by_cases c : cmn (D a0 a1) (D b0 b1) (W a2) = W a2
  · rw [if_pos c, c]; simp
  · rw [if_neg c]
    have := he (by omega)
    constructor
    · intro h
      exfalso
      cases h1 : D a0 a1 (cmn (D a0 a1) (D b0 b1) (W a2)) <;> cases h2 : D b0 b1 (cmn (D a0 a1) (D b0 b1) (W a2)) <;> simp_all [bitI]
    · intro h; omega
theorem order_tail (a0 a1 : Int) (a2 : Bool) (n : Int) (ha : u64 a0 ∧ u64 a1) : kedgelaw01_AddrOrder.j0 2 n true false a0 a1 a2 = some true := by
  have hm : compA (hiA a2 fun j => decide ((j : Int) < n) && D a0 a1 j) (loA a2 fun j => decide ((j : Int) < n) && D a0 a1 j) a2 a0 a1 a2 ≤ 0 := by
    rw [comp_val, c3_le, va_D]
    exact va_mono (fun i hi h => by simp at h; exact h.2)
  have hf : ∀ n : Int, compA (hiA a2 fun j => decide (n ≤ (j : Int)) || D a0 a1 j) (loA a2 fun j => decide (n ≤ (j : Int)) || D a0 a1 j) a2 a0 a1 a2 ≥ 0 := fun n => by
    rw [comp_val, c3_ge, va_D]
    exact va_mono (fun i hi h => by simp [h])
  simp only [kedgelaw01_AddrOrder.j0]
  rw [if_neg (by decide), Next_f ha, Mask_f ha, Fill_f ha]
  simp only [Option.bind_some, if_true, mkA]
  rw [Compare_f (u_mk _ _) _ ha, Compare_f (u_mk _ _) _ ha]
  rcases next_spec a0 a1 a2 with ⟨k, hk, h0, h1, h2⟩ | ⟨h1, h2⟩
  · rw [h2]
    simp only [if_true]
    rw [Compare_f ha _ (u_mk _ _)]
    simp only [Option.bind_some]
    have hc : compA a0 a1 a2 (hiA a2 (upD (D a0 a1) k)) (loA a2 (upD (D a0 a1) k)) a2 = -1 := by
      rw [comp_val, c3_m1, va_D, va_up hk h0 h1]; omega
    rw [if_pos hc, if_pos hm, if_pos (hf n)]
    simp only [kedgelaw01_AddrOrder.j1]
  · rw [h2]
    simp only [Bool.false_eq_true, if_false, Option.bind_some]
    rw [if_pos hm, if_pos (hf n), Fill_f ha]
    simp only [Option.bind_some, mkA]
    rw [Compare_f (u_mk _ _) _ ha]
    simp only [Option.bind_some, kedgelaw01_AddrOrder.j1]
    rw [show compA (hiA a2 fun j => decide ((0 : Int) ≤ (j : Int)) || D a0 a1 j) (loA a2 fun j => decide ((0 : Int) ≤ (j : Int)) || D a0 a1 j) a2 a0 a1 a2 = 0 by
      rw [comp_val, c3_eq, va_D]
      exact va_congr (fun i hi => by rw [h1 i hi]; simp)]
    rfl
theorem order_law (a0 a1 : Int) (a2 : Bool) (b0 b1 : Int) (b2 : Bool) (c0 c1 : Int) (c2 : Bool) (n : Int) (ha : u64 a0 ∧ u64 a1) (hb : u64 b0 ∧ u64 b1) (hc : u64 c0 ∧ u64 c1) : kedgelaw01_AddrOrder.f 2 a0 a1 a2 b0 b1 b2 c0 c1 c2 n = some true := by
  have ht := order_tail a0 a1 a2 n ha
  have hz : (if (a2 == b2) = true then ((addr_Common.f a0 a1 a2 b0 b1 b2).bind fun t109 => ((addr_Width.f a2).bind fun t110 => (kedgelaw01_AddrOrder.j0 2 n true ((compA a0 a1 a2 b0 b1 b2 == 0) != (t109 == t110)) a0 a1 a2))) else (kedgelaw01_AddrOrder.j0 2 n true ((compA a0 a1 a2 b0 b1 b2 == 0) != false) a0 a1 a2)) = some true := by
    by_cases h : a2 = b2
    · subst h
      rw [if_pos (by simp), Common_f ha _ hb, show addr_Width.f a2 = some ((W a2 : Nat) : Int) from rfl]
      simp only [Option.bind_some]
      rw [comp_zero, show ((commonA a0 a1 a2 b0 b1 a2 == ((W a2 : Nat) : Int)) != (commonA a0 a1 a2 b0 b1 a2 == ((W a2 : Nat) : Int))) = false by simp]
      exact ht
    · rw [if_neg (by simpa using h), show (compA a0 a1 a2 b0 b1 b2 == 0) = false by rw [comp_diff _ _ _ _ _ _ h]; cases b2 <;> rfl]
      exact ht
  unfold kedgelaw01_AddrOrder.f
  rw [show kedgelaw01_awake.f = some true from rfl, Compare_f ha _ hb, Compare_f hb _ ha, Compare_f hb _ hc, Compare_f ha _ hc]
  simp only [Option.bind_some]
  rw [if_pos (comp_neg a0 a1 a2 b0 b1 b2)]
  split
  · rename_i h1
    split
    · rename_i h2
      rw [if_neg (comp_trans a0 a1 a2 b0 b1 b2 c0 c1 c2 h1 h2)]
      exact hz
    · exact hz
  · exact hz
theorem addrOrder_walk (a0 a1 : Int) (a2 : Bool) (b0 b1 : Int) (b2 : Bool) (c0 c1 : Int) (c2 : Bool) (n : Int) (h1 : (Lit.int .u64 a0).wf = true) (h2 : (Lit.int .u64 a1).wf = true) (h3 : (Lit.int .u64 b0).wf = true) (h4 : (Lit.int .u64 b1).wf = true)
    (h5 : (Lit.int .u64 c0).wf = true) (h6 : (Lit.int .u64 c1).wf = true) (h7 : (Lit.int .i64 n).wf = true) (W : World) :
    Calls Try.prog 9 #[.agg #[.int .u64 a0, .int .u64 a1, .bool a2], .agg #[.int .u64 b0, .int .u64 b1, .bool b2], .agg #[.int .u64 c0, .int .u64 c1, .bool c2], .int .i64 n] W fun e w' => e = .returned (.bool true) ∧ Below W.heap.size W w' :=
  kedgelaw01_AddrOrder.calls 2 a0 a1 a2 b0 b1 b2 c0 c1 c2 n true rfl W (order_law a0 a1 a2 b0 b1 b2 c0 c1 c2 n ⟨wf_u64 h1, wf_u64 h2⟩ ⟨wf_u64 h3, wf_u64 h4⟩ ⟨wf_u64 h5, wf_u64 h6⟩)
end Go.Proofs.Ytbaeaiiohkfieaa.Hand
