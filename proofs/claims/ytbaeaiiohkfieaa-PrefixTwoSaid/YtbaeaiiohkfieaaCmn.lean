/-
  Plain laws on what two addresses have in common, and on which one is ahead. No Go program.
-/
import Derived.Test.YtbaeaiiohkfieaaAddrH
namespace Go.Proofs.Ytbaeaiiohkfieaa.Hand
open Go.RowKit Go.Proofs.Ytbaeaiiohkfieaa.Bits Go.Proofs.Ytbaeaiiohkfieaa.Dig

/-- How many first digits of n are alike. -/
def cmn (d e : Nat → Bool) : Nat → Nat
  | 0 => 0
  | n + 1 => if cmn d e n = n ∧ d n = e n then n + 1 else cmn d e n
theorem cmn_le (d e : Nat → Bool) : ∀ n, cmn d e n ≤ n
  | 0 => Nat.le_refl _
  | n + 1 => by
    have := cmn_le d e n
    unfold cmn
    split <;> omega
theorem cmn_alike (d e : Nat → Bool) : ∀ n i, i < cmn d e n → d i = e i
  | 0, i, h => by simp [cmn] at h
  | n + 1, i, h => by
    unfold cmn at h
    split at h
    · rename_i hc
      rcases Nat.lt_succ_iff_lt_or_eq.mp h with h1 | rfl
      · exact cmn_alike d e n i (by omega)
      · exact hc.2
    · exact cmn_alike d e n i h
theorem cmn_end (d e : Nat → Bool) : ∀ n, cmn d e n < n → d (cmn d e n) ≠ e (cmn d e n)
  | 0, h => by omega
  | n + 1, h => by
    have hl := cmn_le d e n
    have ih := cmn_end d e n
    unfold cmn at h ⊢
    split at h
    · omega
    · rename_i hc
      rw [if_neg hc]
      rcases Nat.lt_or_eq_of_le hl with h1 | h1
      · exact ih h1
      · intro he
        rw [h1] at he
        exact hc ⟨h1, he⟩
/-- What is so is the number of the digits in common. -/
theorem cmn_is {d e : Nat → Bool} {n k : Nat} (h0 : k ≤ n) (h1 : ∀ i, i < k → d i = e i) (h2 : k < n → d k ≠ e k) : cmn d e n = k := by
  have a := cmn_le d e n
  rcases Nat.lt_trichotomy (cmn d e n) k with h | h | h
  · exact absurd (h1 _ h) (cmn_end d e n (by omega))
  · exact h
  · exact absurd (cmn_alike d e n k h) (h2 (by omega))
theorem cmn_comm (d e : Nat → Bool) (n : Nat) : cmn d e n = cmn e d n :=
  (cmn_is (cmn_le d e n) (fun i h => (cmn_alike d e n i h).symm) (fun h => (cmn_end d e n h).symm)).symm
theorem cmn_congr {d e d' e' : Nat → Bool} {n : Nat} (h : ∀ i, i < n → (d i == e i) = (d' i == e' i)) : cmn d e n = cmn d' e' n := by
  have k : ∀ i, i < n → (d i = e i ↔ d' i = e' i) := fun i hi => by have := h i hi; rw [Bool.eq_iff_iff] at this; simpa using this
  refine cmn_is (cmn_le _ _ _) (fun i hi => (k i (by have := cmn_le d' e' n; omega)).mpr (cmn_alike _ _ _ i hi)) (fun hl he => cmn_end _ _ _ hl ((k _ hl).mp he))
theorem le_cmn {d e : Nat → Bool} {n m : Nat} (hm : m ≤ n) (h : ∀ i, i < m → d i = e i) : m ≤ cmn d e n := by
  rcases Nat.lt_or_ge (cmn d e n) m with h1 | h1
  · exact absurd (h _ h1) (cmn_end d e n (by omega))
  · exact h1
theorem cmn_all {d e : Nat → Bool} {n : Nat} (h : ∀ i, i < n → d i = e i) : cmn d e n = n := Nat.le_antisymm (cmn_le _ _ _) (le_cmn (Nat.le_refl _) h)

/-! ### Words -/
theorem blen_top {x : Nat} (h : x ≠ 0) : x.testBit (blen x - 1) = true := by
  unfold blen
  rw [if_neg h, Nat.add_sub_cancel]
  exact Nat.testBit_log2 h
theorem blen_over {x j : Nat} (h : blen x ≤ j) : x.testBit j = false :=
  Nat.testBit_lt_two_pow (Nat.lt_of_lt_of_le (blen_lt x) (Nat.pow_le_pow_right (by decide) h))
/-- The leading noughts of what two words differ in: how many first digits are alike. -/
theorem lead_xor {x y : Nat} (hx : x < 18446744073709551616) (hy : y < 18446744073709551616) : 64 - blen (x ^^^ y) = cmn (fun i => x.testBit (63 - i)) (fun i => y.testBit (63 - i)) 64 := by
  have hz : x ^^^ y < 2 ^ 64 := Nat.xor_lt_two_pow (n := 64) hx hy
  have hb := blen_le hz
  refine (cmn_is (by omega) (fun i hi => ?_) (fun hi => ?_)).symm
  · have h := blen_over (x := x ^^^ y) (j := 63 - i) (by omega)
    rw [Nat.testBit_xor] at h
    cases h1 : x.testBit (63 - i) <;> cases h2 : y.testBit (63 - i) <;> simp_all
  · have h0 : x ^^^ y ≠ 0 := by intro h0; rw [h0] at hi; simp [blen] at hi
    have h := blen_top h0
    rw [show blen (x ^^^ y) - 1 = 63 - (64 - blen (x ^^^ y)) by omega, Nat.testBit_xor] at h
    cases h1 : x.testBit (63 - (64 - blen (x ^^^ y))) <;> cases h2 : y.testBit (63 - (64 - blen (x ^^^ y))) <;> simp_all
theorem lt_testBit {x y : Nat} (i : Nat) (h0 : x.testBit i = false) (h1 : y.testBit i = true) (h : ∀ j, i < j → x.testBit j = y.testBit j) : x < y := by
  have hq : x / 2 ^ (i + 1) = y / 2 ^ (i + 1) := by
    apply Nat.eq_of_testBit_eq
    intro j
    rw [Nat.testBit_div_two_pow, Nat.testBit_div_two_pow]
    exact h _ (by omega)
  have e0 : x / 2 ^ i % 2 = 0 := by
    rw [Nat.testBit_eq_decide_div_mod_eq] at h0
    have := of_decide_eq_false h0
    omega
  have e1 : y / 2 ^ i % 2 = 1 := by
    rw [Nat.testBit_eq_decide_div_mod_eq] at h1
    exact of_decide_eq_true h1
  rw [Nat.pow_succ, ← Nat.div_div_eq_div_mul, ← Nat.div_div_eq_div_mul] at hq
  have hd : x / 2 ^ i < y / 2 ^ i := by omega
  exact Nat.lt_of_div_lt_div hd
/-- Which of two words is ahead: the first digit that differs says it. -/
theorem c3_word {x y : Nat} (hx : x < 18446744073709551616) (hy : y < 18446744073709551616) :
    c3 x y = if cmn (fun i => x.testBit (63 - i)) (fun i => y.testBit (63 - i)) 64 = 64 then 0 else bitI (x.testBit (63 - cmn (fun i => x.testBit (63 - i)) (fun i => y.testBit (63 - i)) 64)) - bitI (y.testBit (63 - cmn (fun i => x.testBit (63 - i)) (fun i => y.testBit (63 - i)) 64)) := by
  have hl := cmn_le (fun i => x.testBit (63 - i)) (fun i => y.testBit (63 - i)) 64
  have ha := cmn_alike (fun i => x.testBit (63 - i)) (fun i => y.testBit (63 - i)) 64
  have he := cmn_end (fun i => x.testBit (63 - i)) (fun i => y.testBit (63 - i)) 64
  generalize cmn (fun i => x.testBit (63 - i)) (fun i => y.testBit (63 - i)) 64 = n at hl ha he
  split
  · rename_i h
    subst h
    have : x = y := word_ext hx hy (fun j hj => by have := ha (63 - j) (by omega); simpa [show 63 - (63 - j) = j by omega] using this)
    rw [this]; simp [c3]
  · rename_i h
    have he := he (by omega)
    have hh : ∀ j, 63 - n < j → x.testBit j = y.testBit j := by
      intro j hj
      rcases Nat.lt_or_ge j 64 with h1 | h1
      · have := ha (63 - j) (by omega); simpa [show 63 - (63 - j) = j by omega] using this
      · rw [testBit_hi hx h1, testBit_hi hy h1]
    cases h1 : x.testBit (63 - n) <;> cases h2 : y.testBit (63 - n) <;> simp only [h1, h2, ne_eq, not_true_eq_false] at he
    · have := lt_testBit _ h1 h2 hh
      unfold c3; rw [if_pos (by omega)]; rfl
    · have := lt_testBit _ h2 h1 (fun j hj => (hh j hj).symm)
      unfold c3; rw [if_neg (by omega), if_pos (by omega)]; rfl

/-! ### Addresses -/
/-- An address's digit, where it has one. -/
def Dw (v6 : Bool) (d : Nat → Bool) (i : Nat) : Bool := decide (i < W v6) && d i
theorem Dw_lt {v6 : Bool} {d : Nat → Bool} {i : Nat} (h : i < W v6) : Dw v6 d i = d i := by unfold Dw; simp [h]
theorem Dw_ge {v6 : Bool} {d : Nat → Bool} {i : Nat} (h : W v6 ≤ i) : Dw v6 d i = false := by unfold Dw; simp; omega
theorem hi_bits (v6 : Bool) (d : Nat → Bool) {i : Nat} (h : i < 64) : (wd (fun i => decide (i < W v6) && d i)).testBit (63 - i) = Dw v6 d i := by
  rw [testBit_wd, show 63 - (63 - i) = i by omega]
  simp [Dw]; omega
theorem lo_bits (v6 : Bool) (d : Nat → Bool) {i : Nat} (h : i < 64) : (wd (fun i => decide (64 + i < W v6) && d (64 + i))).testBit (63 - i) = Dw v6 d (64 + i) := by
  rw [testBit_wd, show 63 - (63 - i) = i by omega]
  simp [Dw]; omega
theorem cmn_two (v6 : Bool) (d e : Nat → Bool) (n1 n2 : Nat) (h1 : n1 = cmn (Dw v6 d) (Dw v6 e) 64) (h2 : n2 = cmn (fun i => Dw v6 d (64 + i)) (fun i => Dw v6 e (64 + i)) 64) :
    min (if n1 = 64 then n1 + n2 else n1) (W v6) = cmn d e (W v6) := by
  have l1 := cmn_le (Dw v6 d) (Dw v6 e) 64
  have l2 := cmn_le (fun i => Dw v6 d (64 + i)) (fun i => Dw v6 e (64 + i)) 64
  have a1 := cmn_alike (Dw v6 d) (Dw v6 e) 64
  have a2 := cmn_alike (fun i => Dw v6 d (64 + i)) (fun i => Dw v6 e (64 + i)) 64
  have e1 := cmn_end (Dw v6 d) (Dw v6 e) 64
  have e2 := cmn_end (fun i => Dw v6 d (64 + i)) (fun i => Dw v6 e (64 + i)) 64
  rw [← h1] at l1 a1 e1
  rw [← h2] at l2 a2 e2
  have hW := W_le v6
  refine (cmn_is (Nat.min_le_right _ _) (fun i hi => ?_) (fun hk => ?_)).symm
  · rw [← Dw_lt (v6 := v6) (d := d) (i := i) (by omega), ← Dw_lt (v6 := v6) (d := e) (i := i) (by omega)]
    split at hi
    · rename_i hn
      rcases Nat.lt_or_ge i 64 with h | h
      · exact a1 i (by omega)
      · have := a2 (i - 64) (by omega)
        simpa [show 64 + (i - 64) = i by omega] using this
    · exact a1 i (by omega)
  · split at hk
    · rename_i hn
      rw [if_pos hn, Nat.min_eq_left (by omega), ← Dw_lt (v6 := v6) (d := d) (i := n1 + n2) (by omega), ← Dw_lt (v6 := v6) (d := e) (i := n1 + n2) (by omega), hn]
      exact e2 (by omega)
    · rename_i hn
      rw [if_neg hn, Nat.min_eq_left (by omega), ← Dw_lt (v6 := v6) (d := d) (i := n1) (by omega), ← Dw_lt (v6 := v6) (d := e) (i := n1) (by omega)]
      exact e1 (by omega)

/-- How many first digits of two addresses are alike. -/
noncomputable def commonA (a0 a1 : Int) (a2 : Bool) (b0 b1 : Int) (b2 : Bool) : Int := if a2 = b2 then (cmn (D a0 a1) (D b0 b1) (W a2) : Nat) else 0
/-- Which of two addresses is ahead. -/
noncomputable def compA (a0 a1 : Int) (a2 : Bool) (b0 b1 : Int) (b2 : Bool) : Int :=
  or3 (c3 (W a2 : Nat) (W b2 : Nat)) (c3 (hiA a2 (D a0 a1)) (hiA b2 (D b0 b1))) (c3 (loA a2 (D a0 a1)) (loA b2 (D b0 b1)))
theorem c3_hi (v6 : Bool) (d e : Nat → Bool) : c3 (hiA v6 d) (hiA v6 e) = if cmn (Dw v6 d) (Dw v6 e) 64 = 64 then 0 else bitI (Dw v6 d (cmn (Dw v6 d) (Dw v6 e) 64)) - bitI (Dw v6 e (cmn (Dw v6 d) (Dw v6 e) 64)) := by
  unfold hiA
  rw [c3_word (wd_lt _) (wd_lt _)]
  have hc : cmn (fun i => (wd (fun i => decide (i < W v6) && d i)).testBit (63 - i)) (fun i => (wd (fun i => decide (i < W v6) && e i)).testBit (63 - i)) 64 = cmn (Dw v6 d) (Dw v6 e) 64 :=
    cmn_congr (fun i hi => by rw [hi_bits v6 d hi, hi_bits v6 e hi])
  rw [hc]
  have hl := cmn_le (Dw v6 d) (Dw v6 e) 64
  split
  · rfl
  · rw [hi_bits v6 d (by omega), hi_bits v6 e (by omega)]
theorem c3_lo (v6 : Bool) (d e : Nat → Bool) : c3 (loA v6 d) (loA v6 e) = if cmn (fun i => Dw v6 d (64 + i)) (fun i => Dw v6 e (64 + i)) 64 = 64 then 0 else bitI (Dw v6 d (64 + cmn (fun i => Dw v6 d (64 + i)) (fun i => Dw v6 e (64 + i)) 64)) - bitI (Dw v6 e (64 + cmn (fun i => Dw v6 d (64 + i)) (fun i => Dw v6 e (64 + i)) 64)) := by
  unfold loA
  rw [c3_word (wd_lt _) (wd_lt _)]
  have hc : cmn (fun i => (wd (fun i => decide (64 + i < W v6) && d (64 + i))).testBit (63 - i)) (fun i => (wd (fun i => decide (64 + i < W v6) && e (64 + i))).testBit (63 - i)) 64 = cmn (fun i => Dw v6 d (64 + i)) (fun i => Dw v6 e (64 + i)) 64 :=
    cmn_congr (fun i hi => by rw [lo_bits v6 d hi, lo_bits v6 e hi])
  rw [hc]
  have hl := cmn_le (fun i => Dw v6 d (64 + i)) (fun i => Dw v6 e (64 + i)) 64
  split
  · rfl
  · rw [lo_bits v6 d (by omega), lo_bits v6 e (by omega)]
/-- Of two addresses of one kind: the first digit that differs says which one is ahead. -/
theorem comp_same (a0 a1 b0 b1 : Int) (v6 : Bool) : compA a0 a1 v6 b0 b1 v6 = if cmn (D a0 a1) (D b0 b1) (W v6) = W v6 then 0 else bitI (D a0 a1 (cmn (D a0 a1) (D b0 b1) (W v6))) - bitI (D b0 b1 (cmn (D a0 a1) (D b0 b1) (W v6))) := by
  unfold compA
  rw [show c3 (W v6 : Nat) (W v6 : Nat) = 0 by simp [c3], c3_hi, c3_lo]
  have hh := cmn_two v6 (D a0 a1) (D b0 b1) _ _ rfl rfl
  generalize hd : D a0 a1 = d at *
  generalize he : D b0 b1 = e at *
  have l1 := cmn_le (Dw v6 d) (Dw v6 e) 64
  have l2 := cmn_le (fun i => Dw v6 d (64 + i)) (fun i => Dw v6 e (64 + i)) 64
  have x1 := cmn_end (Dw v6 d) (Dw v6 e) 64
  have x2 := cmn_end (fun i => Dw v6 d (64 + i)) (fun i => Dw v6 e (64 + i)) 64
  have a2 := cmn_alike (fun i => Dw v6 d (64 + i)) (fun i => Dw v6 e (64 + i)) 64
  rw [← hh]
  generalize cmn (Dw v6 d) (Dw v6 e) 64 = n1 at *
  generalize cmn (fun i => Dw v6 d (64 + i)) (fun i => Dw v6 e (64 + i)) 64 = n2 at *
  have hW := W_le v6
  unfold or3
  rw [if_pos rfl]
  by_cases c1 : n1 = 64
  · subst c1
    simp only [if_true]
    by_cases c2 : n2 = 64
    · subst c2
      rw [if_pos rfl, if_pos (by omega)]
    · rw [if_neg c2]
      have hw : 64 + n2 < W v6 := by
        rcases Nat.lt_or_ge (64 + n2) (W v6) with h | h
        · exact h
        · have := x2 (by omega)
          simp only [Dw_ge h, ne_eq, not_true_eq_false] at this
      rw [if_neg (by omega), Nat.min_eq_left (by omega), Dw_lt hw, Dw_lt hw]
  · have hw : n1 < W v6 := by
      rcases Nat.lt_or_ge n1 (W v6) with h | h
      · exact h
      · have := x1 (by omega)
        simp only [Dw_ge h, ne_eq, not_true_eq_false] at this
    have hne := x1 (by omega)
    rw [Dw_lt hw, Dw_lt hw] at hne
    rw [if_neg c1, if_neg c1, Nat.min_eq_left (by omega), if_neg (show ¬ n1 = W v6 by omega), Dw_lt hw, Dw_lt hw]
    rw [if_neg (show ¬ bitI (d n1) - bitI (e n1) = 0 by cases h1 : d n1 <;> cases h2 : e n1 <;> simp_all [bitI])]
theorem comp_diff (a0 a1 b0 b1 : Int) (a2 b2 : Bool) (h : a2 ≠ b2) : compA a0 a1 a2 b0 b1 b2 = if b2 then -1 else 1 := by
  unfold compA
  cases a2 <;> cases b2 <;> simp_all [W, c3, or3]
end Go.Proofs.Ytbaeaiiohkfieaa.Hand
