/-
  AddrCommon: the plain law.
-/
import Derived.Test.YtbaeaiiohkfieaaWalkCommon
namespace Go.Proofs.Ytbaeaiiohkfieaa.Hand
open Go.RowKit Go.Proofs.YtbaeaiiohkfieaaW.PrintWords Go.Proofs.YtbaeaiiohkfieaaW.PrintLast Go.Proofs.Ytbaeaiiohkfieaa.Bits Go.Proofs.Ytbaeaiiohkfieaa.Dig
set_option linter.unusedVariables false
set_option linter.unusedSimpArgs false

/-! ### The plain law -/
theorem wf_u64 {n : Int} (h : (Lit.int .u64 n).wf = true) : u64 n := by
  simp [Lit.wf, IntKind.min, IntKind.max, IntKind.bits, IntKind.signed] at h
  constructor <;> omega
theorem and_low (n : Int) : 0 ≤ Go.bits .and .i64 n 65535 ∧ Go.bits .and .i64 n 65535 ≤ 65535 := by
  have h : (BitVec.ofInt 64 n &&& BitVec.ofInt 64 65535).toNat ≤ 65535 := by
    rw [BitVec.toNat_and]
    exact Nat.le_trans Nat.and_le_right (by decide)
  have e : Go.bits .and .i64 n 65535 = (((BitVec.ofInt 64 n &&& BitVec.ofInt 64 65535).toNat : Nat) : Int) := by
    show IntKind.i64.wrap (((BitVec.ofInt 64 n &&& BitVec.ofInt 64 65535).toNat : Nat) : Int) = _
    rw [i64_w]
    exact wr64 _ (by omega)
  rw [e]
  omega
theorem mod_low (n : Int) (v : Bool) : 0 ≤ Int.tmod (Go.bits .and .i64 n 65535) (wrap64 ((W v : Nat) + 1)) ∧ Int.tmod (Go.bits .and .i64 n 65535) (wrap64 ((W v : Nat) + 1)) ≤ (W v : Nat) ∧ wrap64 ((W v : Nat) + 1) ≠ 0 := by
  have hW := W_le v
  have ⟨h0, h1⟩ := and_low n
  rw [wr64 _ (by omega)]
  refine ⟨Int.tmod_nonneg _ h0, ?_, by omega⟩
  have := Int.tmod_lt_of_pos (Go.bits .and .i64 n 65535) (show (0 : Int) < (W v : Nat) + 1 by omega)
  omega
theorem mask_mask (v : Bool) (d : Nat → Bool) (n : Int) (e : Nat → Bool) (h : ∀ i : Nat, i < W v → (i : Int) < n → e i = d i) : hiA v (maskA (hiA v e) (loA v e) n) = hiA v (fun j => decide ((j : Int) < n) && d j) ∧ loA v (maskA (hiA v e) (loA v e) n) = loA v (fun j => decide ((j : Int) < n) && d j) := by
  have k : ∀ i, i < W v → maskA (hiA v e) (loA v e) n i = (decide ((i : Int) < n) && d i) := fun i hi => by
    unfold maskA
    rw [D_mk, decide_eq_true hi, Bool.true_and]
    by_cases c : (i : Int) < n
    · rw [h i hi c]
    · rw [decide_eq_false c, Bool.false_and, Bool.false_and]
  exact ⟨hi_congr k, lo_congr k⟩
theorem addrCommon_walk (a0 a1 : Int) (a2 : Bool) (b0 b1 : Int) (b2 : Bool) (n : Int) (h1 : (Lit.int .u64 a0).wf = true) (h2 : (Lit.int .u64 a1).wf = true) (h3 : (Lit.int .u64 b0).wf = true) (h4 : (Lit.int .u64 b1).wf = true) (h5 : (Lit.int .i64 n).wf = true) (W0 : World) :
    Calls Try.prog 4 #[.agg #[.int .u64 a0, .int .u64 a1, .bool a2], .agg #[.int .u64 b0, .int .u64 b1, .bool b2], .int .i64 n] W0 fun e w' => e = .returned (.bool true) ∧ Below W0.heap.size W0 w' := by
  have ha0 := wf_u64 h1
  have ha1 := wf_u64 h2
  have hb0 := wf_u64 h3
  have hb1 := wf_u64 h4
  clear h1 h2 h3 h4 h5
  have AW := fun u => kedgelaw01_awake.calls true u rfl
  by_cases hv : a2 = b2
  · subst hv
    have hW := W_le a2
    have hl := cmn_le (D a0 a1) (D b0 b1) (W a2)
    have hal := cmn_alike (D a0 a1) (D b0 b1) (W a2)
    have hen := cmn_end (D a0 a1) (D b0 b1) (W a2)
    have hco : commonA a0 a1 a2 b0 b1 a2 = ((cmn (D a0 a1) (D b0 b1) (W a2) : Nat) : Int) := by unfold commonA; rw [if_pos rfl]
    have CO := fun w => common_c a0 a1 a2 b0 b1 a2 ha0 ha1 hb0 hb1 w
    rw [hco] at CO
    generalize hK : cmn (D a0 a1) (D b0 b1) (W a2) = K at *
    have ⟨m0, m1, hz⟩ := mod_low n a2
    generalize hm : Int.tmod (Go.bits .and .i64 n 65535) (wrap64 ((W a2 : Nat) + 1)) = m at *
    have MA := fun w => mask_c a0 a1 a2 (K : Int) ha0 ha1 w
    have MB := fun w => mask_c b0 b1 a2 (K : Int) hb0 hb1 w
    have em : ∀ i, i < W a2 → maskA b0 b1 (K : Int) i = maskA a0 a1 (K : Int) i := fun i hi => by
      unfold maskA
      by_cases c : i < K
      · rw [hal i c]
      · rw [show decide ((i : Int) < (K : Int)) = false from decide_eq_false (by omega), Bool.false_and, Bool.false_and]
    rw [hi_congr em, lo_congr em] at MB
    have FA := fun w => fill_c a0 a1 a2 m ha0 ha1 w
    have MM := fun w => mask_c a0 a1 a2 m ha0 ha1 w
    have MF := fun w => mask_c (hiA a2 (fillA a0 a1 m)) (loA a2 (fillA a0 a1 m)) a2 m (u_hiA _ _) (u_loA _ _) w
    have MP := fun w => mask_c (hiA a2 (maskA a0 a1 m)) (loA a2 (maskA a0 a1 m)) a2 m (u_hiA _ _) (u_loA _ _) w
    have e1 := mask_mask a2 (D a0 a1) m (fillA a0 a1 m) (fun i _ hi => by unfold fillA; rw [decide_eq_false (by omega), Bool.false_or])
    have e2 := mask_mask a2 (D a0 a1) m (maskA a0 a1 m) (fun i _ hi => by unfold maskA; rw [decide_eq_true hi, Bool.true_and])
    rw [e1.1, e1.2] at MF
    rw [e2.1, e2.2] at MP
    have CF := fun w => common_c (hiA a2 (maskA a0 a1 m)) (loA a2 (maskA a0 a1 m)) a2 (hiA a2 (fillA a0 a1 m)) (loA a2 (fillA a0 a1 m)) a2 (u_hiA _ _) (u_loA _ _) (u_hiA _ _) (u_loA _ _) w
    have hc : m ≤ commonA (hiA a2 (maskA a0 a1 m)) (loA a2 (maskA a0 a1 m)) a2 (hiA a2 (fillA a0 a1 m)) (loA a2 (fillA a0 a1 m)) a2 := by
      unfold commonA
      rw [if_pos rfl]
      have := le_cmn (d := D (hiA a2 (maskA a0 a1 m)) (loA a2 (maskA a0 a1 m))) (e := D (hiA a2 (fillA a0 a1 m)) (loA a2 (fillA a0 a1 m))) (n := W a2) (m := m.toNat) (by omega) (fun i hi => by
        rw [D_mk, D_mk]
        unfold maskA fillA
        rw [decide_eq_true (show (i : Int) < m by omega), decide_eq_false (show ¬ m ≤ (i : Int) by omega), Bool.true_and, Bool.false_or])
      omega
    by_cases c : K < W a2
    · have MC := fun w => mask_c a0 a1 a2 (wrap64 ((K : Int) + 1)) ha0 ha1 w
      have MD := fun w => mask_c b0 b1 a2 (wrap64 ((K : Int) + 1)) hb0 hb1 w
      have BA := fun w => bit_c a0 a1 a2 (K : Int) ha0 ha1 w
      have BB := fun w => bit_c b0 b1 a2 (K : Int) hb0 hb1 w
      have hne := hen c
      refine common_walk1 a0 a1 b0 b1 a2 n W0 K (W a2 : Nat) m _ _ _ _ _ _ _ _ _ _ _ _ _ AW CO (fun u => width_c a2 u) MA MB MC MD BA BB FA MF MM CF MP (decide_eq_false (by omega)) (decide_eq_false (by omega)) (decide_eq_true (by omega)) hm hz (decide_eq_true hc) ?_ ?_
      · rw [Bool.eq_false_iff]
        intro hh
        rw [Bool.and_eq_true, beq_iff_eq, beq_iff_eq] at hh
        have := mk_inj hh.1 hh.2 K c
        unfold maskA at this
        rw [wr64 _ (by omega), decide_eq_true (show (K : Int) < (K : Int) + 1 by omega), Bool.true_and, Bool.true_and] at this
        exact hne this
      · rw [bitA_at, bitA_at, decide_eq_true c, Bool.true_and, Bool.true_and]
        cases h1 : D a0 a1 K <;> cases h2 : D b0 b1 K <;> simp_all [bitI]
    · exact common_walk2 a0 a1 b0 b1 a2 n W0 K (W a2 : Nat) m _ _ 0 0 0 0 0 0 _ _ _ _ _ AW CO (fun u => width_c a2 u) MA MB FA MF MM CF MP (decide_eq_false (by omega)) (decide_eq_false (by omega)) (decide_eq_false (by omega)) hm hz (decide_eq_true hc)
  · have CO := fun w => common_c a0 a1 a2 b0 b1 b2 ha0 ha1 hb0 hb1 w
    rw [show commonA a0 a1 a2 b0 b1 b2 = 0 by unfold commonA; rw [if_neg hv]] at CO
    exact common_walk0 a0 a1 b0 b1 a2 b2 n W0 AW CO (by cases a2 <;> cases b2 <;> simp_all)
end Go.Proofs.Ytbaeaiiohkfieaa.Hand
