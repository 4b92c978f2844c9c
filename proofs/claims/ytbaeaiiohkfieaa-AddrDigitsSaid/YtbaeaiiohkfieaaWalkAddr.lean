/-
  The plain law of AddrDigits: digits set one by one make the address.
-/
import Derived.Test.YtbaeaiiohkfieaaPAx4
import Derived.Test.YtbaeaiiohkfieaaLawA
namespace Go.Proofs.Ytbaeaiiohkfieaa.Hand
open Go.RowKit Go.Proofs.Ytbaeaiiohkfieaa.PA Go.Proofs.YtbaeaiiohkfieaaW.PrintWords Go.Proofs.YtbaeaiiohkfieaaW.PrintLast Go.Proofs.Ytbaeaiiohkfieaa.Bits Go.Proofs.Ytbaeaiiohkfieaa.Dig
set_option linter.unusedVariables false

theorem awake01 (k : Nat) : kedgelaw01_awake.f (k + 1) = some true := by
  unfold kedgelaw01_awake.f
  rw [From_f [192, 168, 0, 1] false rfl (by decide)]
  simp only [Option.bind_some, if_true]
  rw [Bit_f (u_mk _ _), Bit_f (u_mk _ _), Bit_f (u_mk _ _), Bit_f (u_mk _ _), Sane_f (u_mk _ _), decide_eq_true (sane_mk _ _)]
  rw [show bitA _ _ false 0 = true from (bitA_mk false (byD [192, 168, 0, 1]) 0).trans (by decide), show bitA _ _ false 1 = true from (bitA_mk false (byD [192, 168, 0, 1]) 1).trans (by decide),
    show bitA _ _ false 2 = false from (bitA_mk false (byD [192, 168, 0, 1]) 2).trans (by decide), show bitA _ _ false 31 = true from (bitA_mk false (byD [192, 168, 0, 1]) 31).trans (by decide)]
  rfl
theorem digits_loop (hi lo : Int) (v6 : Bool) (h : u64 hi ∧ u64 lo) (d : Nat) : ∀ (k i : Nat) (b c : Nat → Bool), i + d = 128 → d + 1 < k →
    (∀ j, j < W v6 → b j = (decide (j < i) && D hi lo j)) → (∀ j, j < i → j < W v6 → c j = D hi lo j) →
    kedgelaw01_AddrDigits.l0 k true i hi lo v6 (hiA v6 b) (loA v6 b) v6 (hiA v6 c) (loA v6 c) v6 = some true := by
  induction d with
  | zero =>
    intro k i b c hi1 hk hb hc
    obtain ⟨k, rfl⟩ : ∃ m, k = m + 1 := ⟨k - 1, by omega⟩
    obtain ⟨k, rfl⟩ : ∃ m, k = m + 1 := ⟨k - 1, by omega⟩
    have e : i = 128 := by omega
    subst e
    have hW := W_le v6
    simp only [kedgelaw01_AddrDigits.l0]
    rw [if_neg (by omega), Mask_f h]
    simp only [Option.bind_some, if_true, mkA]
    rw [if_pos (eq3_mk (fun i hi => by rw [hb i hi]; simp [show i < 128 by omega]; omega)), if_pos (eq3_mk (fun i hi => by rw [hc i (by omega) hi, hb i hi]; simp; omega)), Sane_f h]
    simp only [Option.bind_some, kedgelaw01_AddrDigits.j1]
    congr 1
    have e1 : hiA v6 b = hiA v6 (D hi lo) := hi_congr (fun i hi => by rw [hb i hi]; simp; omega)
    have e2 : loA v6 b = loA v6 (D hi lo) := lo_congr (fun i hi => by rw [hb i hi]; simp; omega)
    rw [sane_b, e1, e2]
    simp
  | succ d ih =>
    intro k i b c hi1 hk hb hc
    obtain ⟨k, rfl⟩ : ∃ m, k = m + 1 := ⟨k - 1, by omega⟩
    simp only [kedgelaw01_AddrDigits.l0]
    rw [if_pos (by omega), Bit_f h]
    simp only [Option.bind_some]
    rw [Set_mk, Set_mk]
    simp only [Option.bind_some, mkA, setv_bitI]
    rw [show wrap64 ((i : Int) + 1) = ((i + 1 : Nat) : Int) by unfold wrap64; omega]
    refine ih k (i + 1) _ _ (by omega) (by omega) (fun j hj => ?_) (fun j hj hw => ?_)
    · rw [bitA_at]
      by_cases e : j = i
      · subst e; simp [hj]
      · have : ¬ ((j : Int) = i) := by omega
        rw [if_neg this, hb j hj]
        congr 1
        rw [decide_eq_decide]; omega
    · rw [bitA_at]
      by_cases e : j = i
      · subst e; simp [hw]
      · have : ¬ ((j : Int) = i) := by omega
        rw [if_neg this, hc j (by omega) hw]
theorem wf_u64 {n : Int} (h : (Lit.int .u64 n).wf = true) : u64 n := by
  simp [Lit.wf, IntKind.min, IntKind.max, IntKind.bits, IntKind.signed] at h
  constructor <;> omega
theorem digits_law (hi lo : Int) (v6 : Bool) (h : u64 hi ∧ u64 lo) : ∃ k, kedgelaw01_AddrDigits.f k hi lo v6 = some true := by
  refine ⟨200, ?_⟩
  unfold kedgelaw01_AddrDigits.f
  rw [awake01 199, Fill_f u_zero]
  simp only [Option.bind_some, mkA]
  have := digits_loop hi lo v6 h 128 200 0 (fun _ => false) (fun j => decide ((0 : Int) ≤ j) || D 0 0 j) (by omega) (by omega) (fun j hj => by simp) (fun j hj => by omega)
  rw [(zero_mk v6).1, (zero_mk v6).2] at this
  exact this
theorem addrDigits_walk (hi lo : Int) (v6 : Bool) (h1 : (Lit.int .u64 hi).wf = true) (h2 : (Lit.int .u64 lo).wf = true) (W : World) :
    Calls Try.prog 3 #[.agg #[.int .u64 hi, .int .u64 lo, .bool v6]] W fun e w' => e = .returned (.bool true) ∧ Below W.heap.size W w' := by
  obtain ⟨k, hk⟩ := digits_law hi lo v6 ⟨wf_u64 h1, wf_u64 h2⟩
  exact kedgelaw01_AddrDigits.calls k hi lo v6 true W hk
end Go.Proofs.Ytbaeaiiohkfieaa.Hand
