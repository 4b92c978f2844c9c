/-
  Plain laws on prefixes told by digits: apart, and the ends.
-/
import Derived.Test.YtbaeaiiohkfieaaPreC
namespace Go.Proofs.Ytbaeaiiohkfieaa.Hand
open Go.RowKit Go.Proofs.YtbaeaiiohkfieaaW.PrintWords Go.Proofs.YtbaeaiiohkfieaaW.PrintLast Go.Proofs.Ytbaeaiiohkfieaa.Bits Go.Proofs.Ytbaeaiiohkfieaa.Dig Go.Proofs.Ytbaeaiiohkfieaa.Sq
set_option linter.unusedVariables false
set_option linter.unusedSimpArgs false
set_option maxRecDepth 100000
set_option maxHeartbeats 4000000
theorem wf_u64 {n : Int} (h : (Lit.int .u64 n).wf = true) : u64 n := by
  simp [Lit.wf, IntKind.min, IntKind.max, IntKind.bits, IntKind.signed] at h
  constructor <;> omega
theorem apaB_pk (v : Bool) (d : Nat → Bool) (c : Nat) (hc : c ≤ W v) (u : Bool) (e : Nat → Bool) (m : Nat) (hm : m ≤ W u) : apaB (hiA v (cutd d c)) (loA v (cutd d c)) v c (hiA u (cutd e m)) (loA u (cutd e m)) u m = (!(decide (c ≤ m) && conD v d c u e) && !(decide (m ≤ c) && conD u e m v d)) := by
  unfold apaB
  rw [saneB_pk v d c hc, saneB_pk u e m hm, Bool.true_and, Bool.true_and]
  by_cases h : v = u
  · subst h
    have hcm : cmn (D (hiA v (cutd d c)) (loA v (cutd d c))) (D (hiA v (cutd e m)) (loA v (cutd e m))) (W v) = cmn (cutd d c) (cutd e m) (W v) := cmn_congr fun i hi => by rw [D_cut v d c i hi, D_cut v e m i hi]
    unfold commonA
    rw [if_pos rfl, hcm, mn2_nat, bne_self_eq_false, Bool.false_or]
    have hl := cmn_le (cutd d c) (cutd e m) (W v)
    have ha := cmn_alike (cutd d c) (cutd e m) (W v)
    have he := cmn_end (cutd d c) (cutd e m) (W v)
    generalize cmn (cutd d c) (cutd e m) (W v) = K at hl ha he
    by_cases hK : K < min c m
    · have hne := he (by omega)
      rw [cutd_lt (by omega), cutd_lt (by omega)] at hne
      rw [decide_eq_true (by omega : (K : Int) < ((min c m : Nat) : Int))]
      have n1 : conD v d c v e = false := Bool.eq_false_iff.mpr fun h => hne ((conD_true.mp h).2 K (by omega))
      have n2 : conD v e m v d = false := Bool.eq_false_iff.mpr fun h => hne ((conD_true.mp h).2 K (by omega)).symm
      rw [n1, n2, Bool.and_false, Bool.and_false]; rfl
    · rw [decide_eq_false (by omega : ¬ (K : Int) < ((min c m : Nat) : Int))]
      by_cases hm' : c ≤ m
      · have n1 : conD v d c v e = true := conD_true.mpr ⟨rfl, fun i hi => by
          have := ha i (by omega)
          rwa [cutd_lt hi, cutd_lt (by omega)] at this⟩
        rw [n1, decide_eq_true hm']; simp
      · have n1 : conD v e m v d = true := conD_true.mpr ⟨rfl, fun i hi => by
          have := ha i (by omega)
          rw [cutd_lt (by omega), cutd_lt (by omega)] at this
          exact this.symm⟩
        rw [n1, decide_eq_true (show m ≤ c by omega)]; simp
  · have n1 : conD v d c u e = false := Bool.eq_false_iff.mpr fun k => h (conD_true.mp k).1
    have n2 : conD u e m v d = false := Bool.eq_false_iff.mpr fun k => h (conD_true.mp k).1.symm
    rw [n1, n2, Bool.and_false, Bool.and_false, show (v != u) = true from bne_iff_ne.mpr h, Bool.true_or]; rfl
/-- The last one of those with the first c digits. -/
def filD (d : Nat → Bool) (c : Nat) (j : Nat) : Bool := decide (c ≤ j) || d j
theorem ends_pk (v : Bool) (d : Nat → Bool) (c : Nat) (hc : c ≤ W v) : Cal Try.prog 37 [.agg #[.int .u64 (hiA v (cutd d c)), .int .u64 (loA v (cutd d c)), .bool v, .int .i64 ((c : Nat) : Int)]] (.tuple #[.agg #[.int .u64 (hiA v (cutd d c)), .int .u64 (loA v (cutd d c)), .bool v], .agg #[.int .u64 (hiA v (filD d c)), .int .u64 (loA v (filD d c)), .bool v]]) := by
  have h := ends_s (u_mk v (cutd d c)) v (c : Int)
  have e1 : ∀ i, i < W v → (decide ((i : Int) < (c : Int)) && D (hiA v (cutd d c)) (loA v (cutd d c)) i) = cutd d c i := fun i hi => by
    rw [D_cut v d c i hi]
    by_cases h : i < c
    · rw [decide_eq_true (by omega), Bool.true_and]
    · rw [cutd_ge (by omega), Bool.and_false]
  have e2 : ∀ i, i < W v → (decide ((c : Int) ≤ (i : Int)) || D (hiA v (cutd d c)) (loA v (cutd d c)) i) = filD d c i := fun i hi => by
    unfold filD
    rw [D_cut v d c i hi]
    by_cases h : i < c
    · rw [cutd_lt h, show decide ((c : Int) ≤ (i : Int)) = decide (c ≤ i) by rw [decide_eq_decide]; omega]
    · rw [decide_eq_true (show c ≤ i by omega), decide_eq_true (show (c : Int) ≤ (i : Int) by omega)]; rfl
  rw [hi_congr e1, lo_congr e1, hi_congr e2, lo_congr e2] at h
  exact h
theorem of_fil (v : Bool) (d : Nat → Bool) (c : Nat) (hc : c ≤ W v) : Cal Try.prog 23 [.agg #[.int .u64 (hiA v (filD d c)), .int .u64 (loA v (filD d c)), .bool v], .int .i64 (c : Int)] (.agg #[.int .u64 (hiA v (cutd d c)), .int .u64 (loA v (cutd d c)), .bool v, .int .i64 ((c : Nat) : Int)]) := by
  have h := of_s (u_mk v (filD d c)) v (c : Int)
  have e : ∀ i, i < W v → cutd (D (hiA v (filD d c)) (loA v (filD d c))) c i = cutd d c i := fun i hi => by
    by_cases hk : i < c
    · rw [cutd_lt hk, cutd_lt hk, D_mk, decide_eq_true hi, Bool.true_and]
      unfold filD
      rw [decide_eq_false (by omega), Bool.false_or]
    · rw [cutd_ge (by omega), cutd_ge (by omega)]
  rw [clampW_in hc, hi_congr e, lo_congr e] at h
  exact h
theorem conD_fil (v : Bool) (d : Nat → Bool) (c : Nat) (hc : c ≤ W v) : conD v d c v (D (hiA v (filD d c)) (loA v (filD d c))) = true := conD_true.mpr ⟨rfl, fun i hi => by
  rw [D_mk, decide_eq_true (by omega), Bool.true_and]
  unfold filD
  rw [decide_eq_false (by omega), Bool.false_or]⟩
/-- Between the ends. -/
theorem between (v : Bool) (d : Nat → Bool) (c : Nat) (hc : c ≤ W v) (b0 b1 : Int) : conD v d c v (D b0 b1) = (decide (compA (hiA v (cutd d c)) (loA v (cutd d c)) v b0 b1 v ≤ 0) && decide (compA b0 b1 v (hiA v (filD d c)) (loA v (filD d c)) v ≤ 0)) := by
  rw [Bool.eq_iff_iff, Bool.and_eq_true, decide_eq_true_iff, decide_eq_true_iff, conD_true]
  constructor
  · rintro ⟨-, h⟩
    rw [comp_val, comp_val, c3_le, c3_le]
    constructor
    · rw [va_D]
      refine va_mono fun i hi hd => ?_
      by_cases hk : i < c
      · rw [cutd_lt hk] at hd; rw [← h i hk]; exact hd
      · rw [cutd_ge (by omega)] at hd; cases hd
    · rw [va_D]
      refine va_mono fun i hi hd => ?_
      unfold filD
      by_cases hk : i < c
      · rw [h i hk, hd, Bool.or_true]
      · rw [decide_eq_true (by omega), Bool.true_or]
  · rintro ⟨h1, h2⟩
    refine ⟨rfl, ?_⟩
    rw [comp_same] at h1 h2
    have e1 : cmn (D (hiA v (cutd d c)) (loA v (cutd d c))) (D b0 b1) (W v) = cmn (cutd d c) (D b0 b1) (W v) := cmn_congr fun i hi => by rw [D_cut v d c i hi]
    have e2 : cmn (D b0 b1) (D (hiA v (filD d c)) (loA v (filD d c))) (W v) = cmn (D b0 b1) (filD d c) (W v) := cmn_congr fun i hi => by rw [D_mk, decide_eq_true hi, Bool.true_and]
    rw [e1] at h1
    rw [e2] at h2
    have l1 := cmn_le (cutd d c) (D b0 b1) (W v)
    have x1 := cmn_alike (cutd d c) (D b0 b1) (W v)
    have n1 := cmn_end (cutd d c) (D b0 b1) (W v)
    have l2 := cmn_le (D b0 b1) (filD d c) (W v)
    have x2 := cmn_alike (D b0 b1) (filD d c) (W v)
    have n2 := cmn_end (D b0 b1) (filD d c) (W v)
    generalize hK : cmn (cutd d c) (D b0 b1) (W v) = K at *
    generalize hM : cmn (D b0 b1) (filD d c) (W v) = M at *
    have fl : ∀ i, i < c → filD d c i = d i := fun i hi => by unfold filD; rw [decide_eq_false (by omega), Bool.false_or]
    by_cases hk : K < c
    · exfalso
      have n1 := n1 (by omega)
      rw [cutd_lt hk] at n1
      have hMK : M = K := by
        rcases Nat.lt_trichotomy M K with h | h | h
        · have a := x1 M h
          rw [cutd_lt (by omega)] at a
          have b := n2 (by omega)
          rw [fl M (by omega)] at b
          exact absurd a.symm b
        · exact h
        · have a := x2 K h
          rw [fl K hk] at a
          exact absurd a.symm n1
      subst hMK
      rw [if_neg (by omega), D_cut v d c M (by omega), cutd_lt hk] at h1
      rw [if_neg (by omega), D_mk, decide_eq_true (show M < W v by omega), Bool.true_and, fl M hk] at h2
      revert h1 h2 n1
      generalize d M = p
      generalize D b0 b1 M = q
      revert p q
      decide
    · intro i hi
      have := x1 i (by omega)
      rwa [cutd_lt hi] at this
end Go.Proofs.Ytbaeaiiohkfieaa.Hand
