/-
  Plain laws on words, digits, addresses and prefixes that the walks end in. No Go program.
-/
import Derived.Test.YtfcffemglcgbnaaDig
import Derived.IntWalk
namespace Go.Proofs.Ytfcffemglcgbnaa.Hand
open Go.RowKit Go.Proofs.Ytfcffemglcgbnaa.Bits Go.Proofs.Ytfcffemglcgbnaa.Dig
set_option linter.unusedVariables false
set_option linter.unusedSimpArgs false
set_option maxRecDepth 100000
def rd (xs : List Int) (i : Int) : Int := xs.getD i.toNat 0
open Go.RowKit Go.Proofs.Ytfcffemglcgbnaa.Bits Go.Proofs.Ytfcffemglcgbnaa.Dig
def mxi (a b : Int) : Int := if a < b then b else a
def mni (a b : Int) : Int := if b < a then b else a
theorem wrap_hi (n : Nat) (h : n ≤ 64) : IntKind.u64.wrap (18446744073709551615 * 2 ^ n) = 18446744073709551616 - 2 ^ n := by
  have H : ∀ n : Fin 65, IntKind.u64.wrap (18446744073709551615 * 2 ^ n.val) = 18446744073709551616 - 2 ^ n.val := by decide +kernel
  exact H ⟨n, by omega⟩
noncomputable def hiW (n : Int) : Int := (wd (fun i => decide ((i : Int) < n)) : Nat)
theorem hiW_eq (n : Int) (h0 : 0 ≤ n) (h1 : n ≤ 64) : hiW n = 18446744073709551616 - 2 ^ (64 - n).toNat := by
  have H : ∀ n : Fin 65, ((wdN (fun i => decide ((i : Int) < n.val)) 64 : Nat) : Int) = 18446744073709551616 - 2 ^ (64 - (n.val : Int)).toNat := by decide +kernel
  unfold hiW
  rw [wd_eq]
  obtain ⟨m, rfl⟩ := Int.eq_ofNat_of_zero_le h0
  exact H ⟨m, by omega⟩
theorem ones_word (a b o : Int) : Go.bits .andNot .u64 (hiW (mxi 0 (mni (b - o) 64))) (hiW (mxi 0 (mni (a - o) 64))) = (wd (fun i => decide (a ≤ o + i ∧ o + i < b)) : Nat) := by
  unfold hiW
  rw [andNot64 (wd_lt _) (wd_lt _)]
  congr 1
  refine eq_wd (Nat.lt_of_le_of_lt Nat.and_le_left (wd_lt _)) (fun i hi => ?_)
  rw [Nat.testBit_and, testBit_not (wd_lt _), testBit_wd, testBit_wd, show 63 - (63 - i) = i by omega]
  unfold mxi mni
  rw [Bool.eq_iff_iff]
  simp only [Bool.and_eq_true, decide_eq_true_eq, Bool.not_eq_true', Bool.and_eq_false_iff, decide_eq_false_iff_not]
  omega
noncomputable def oneW (a b o : Int) : Int := (wd (fun i => decide (a ≤ o + i ∧ o + i < b)) : Nat)
theorem hiA_read (hi lo : Int) (v6 : Bool) (h : u64 hi) : Go.bits .and .u64 hi (oneW 0 (W v6 : Nat) 0) = hiA v6 (D hi lo) := by
  obtain ⟨n, rfl⟩ := Int.eq_ofNat_of_zero_le h.1
  have hn : n < 18446744073709551616 := by have := h.2; omega
  unfold oneW hiA
  rw [and64 hn (wd_lt _)]
  congr 1
  refine eq_wd (Nat.lt_of_le_of_lt Nat.and_le_left hn) (fun i hi => ?_)
  rw [Nat.testBit_and, testBit_wd, D_lo hi, show 63 - (63 - i) = i by omega, show decide ((0 : Int) ≤ 0 + i ∧ (0 : Int) + i < (W v6 : Nat)) = decide (i < W v6) from by rw [decide_eq_decide]; omega]
  rw [Int.toNat_natCast, Bool.and_comm, show decide (63 - i < 64) = true from by simp; omega, Bool.true_and]
theorem loA_read (hi lo : Int) (v6 : Bool) (h : u64 lo) : Go.bits .and .u64 lo (oneW 0 (W v6 : Nat) 64) = loA v6 (D hi lo) := by
  obtain ⟨n, rfl⟩ := Int.eq_ofNat_of_zero_le h.1
  have hn : n < 18446744073709551616 := by have := h.2; omega
  unfold oneW loA
  rw [and64 hn (wd_lt _)]
  congr 1
  refine eq_wd (Nat.lt_of_le_of_lt Nat.and_le_left hn) (fun i hi => ?_)
  rw [Nat.testBit_and, testBit_wd, D_hi hi, show 63 - (63 - i) = i by omega, show decide ((0 : Int) ≤ 64 + i ∧ (64 : Int) + i < (W v6 : Nat)) = decide (64 + i < W v6) from by rw [decide_eq_decide]; omega]
  rw [Int.toNat_natCast, Bool.and_comm, show decide (63 - i < 64) = true from by simp; omega, Bool.true_and]
def isI (v6 : Bool) (i : Int) : Bool := decide (0 ≤ i ∧ i < (W v6 : Nat))
def bitI (b : Bool) : Int := if b then 1 else 0
def bitA (hi lo : Int) (v6 : Bool) (i : Int) : Bool := isI v6 i && D hi lo i.toNat
theorem bit_word (x : Int) (n : Nat) (hx : u64 x) (hn : n < 64) : Go.bits .and .u64 (x / 2 ^ n) 1 = bitI (x.toNat.testBit n) := by
  obtain ⟨m, rfl⟩ := Int.eq_ofNat_of_zero_le hx.1
  have hm : m < 18446744073709551616 := by have := hx.2; omega
  have hd : m / 2 ^ n < 18446744073709551616 := Nat.lt_of_le_of_lt (Nat.div_le_self _ _) hm
  rw [show ((m : Int) / 2 ^ n) = ((m / 2 ^ n : Nat) : Int) by simp, show (1 : Int) = ((1 : Nat) : Int) from rfl, and64 hd (by decide), Int.toNat_natCast, Nat.and_one_is_mod]
  unfold bitI
  rw [Nat.testBit_eq_decide_div_mod_eq]
  split <;> rename_i h <;> simp at h <;> omega
theorem bit_val (hi lo : Int) (v6 : Bool) (i : Int) (h0 : 0 ≤ i) (h1 : i < (W v6 : Nat)) (c : i < 64) : Go.bits .and .u64 (hiA v6 (D hi lo) / 2 ^ (63 - i).toNat) 1 = bitI (D hi lo i.toNat) := by
  rw [bit_word _ _ (u_hiA _ _) (by omega)]
  congr 1
  have := D_mk v6 (D hi lo) i.toNat
  rw [D_lo (by omega)] at this
  rw [show (63 - i).toNat = 63 - i.toNat by omega, this]
  simp; omega
theorem bit_val2 (hi lo : Int) (v6 : Bool) (i : Int) (h0 : 64 ≤ i) (h1 : i < (W v6 : Nat)) : Go.bits .and .u64 (loA v6 (D hi lo) / 2 ^ (63 - (i - 64)).toNat) 1 = bitI (D hi lo i.toNat) := by
  rw [bit_word _ _ (u_loA _ _) (by omega)]
  congr 1
  have := D_mk v6 (D hi lo) i.toNat
  have hW := W_le v6
  rw [show i.toNat = 64 + (i.toNat - 64) by omega, D_hi (by omega)] at this
  rw [show (63 - (i - 64)).toNat = 63 - (i.toNat - 64) by omega, this]
  rw [show 64 + (i.toNat - 64) = i.toNat by omega]
  simp; omega
theorem bitI_lo (b : Bool) : 0 ≤ bitI b := by cases b <;> decide
theorem bitI_hi (b : Bool) : bitI b ≤ 1 := by cases b <;> decide
def setD (d : Nat → Bool) (i : Int) (b : Bool) (j : Nat) : Bool := if (j : Int) = i then b else d j
theorem one_shl (i : Nat) (h : i < 64) : IntKind.u64.wrap (2 ^ (63 - i)) = ((2 ^ (63 - i) : Nat) : Int) := by
  have H : ∀ i : Fin 64, IntKind.u64.wrap (2 ^ (63 - i.val)) = ((2 ^ (63 - i.val) : Nat) : Int) := by decide +kernel
  exact H ⟨i, h⟩
theorem p2_lt (i : Nat) (h : i < 64) : 2 ^ (63 - i) < 18446744073709551616 := Nat.lt_of_lt_of_le (Nat.pow_lt_pow_right (by decide) (by omega : 63 - i < 64)) (Nat.le_refl _)
theorem clear_bit (d : Nat → Bool) (i : Nat) (h : i < 64) : Go.bits .andNot .u64 (wd d : Nat) ((2 ^ (63 - i) : Nat) : Int) = (wd (fun j => if j = i then false else d j) : Nat) := by
  rw [andNot64 (wd_lt _) (p2_lt i h)]
  congr 1
  refine eq_wd (Nat.lt_of_le_of_lt Nat.and_le_left (wd_lt _)) (fun j hj => ?_)
  rw [Nat.testBit_and, testBit_not (p2_lt i h), testBit_wd, show 63 - (63 - j) = j by omega, Nat.testBit_two_pow]
  by_cases e : j = i
  · subst e; simp
  · have : ¬ (63 - i = 63 - j) := by omega
    simp [e, this, show 63 - j < 64 by omega]
theorem set_bit (d : Nat → Bool) (i : Nat) (h : i < 64) : Go.bits .or .u64 (wd d : Nat) ((2 ^ (63 - i) : Nat) : Int) = (wd (fun j => if j = i then true else d j) : Nat) := by
  rw [or64 (wd_lt _) (p2_lt i h)]
  congr 1
  refine eq_wd (Nat.or_lt_two_pow (n := 64) (wd_lt _) (p2_lt i h)) (fun j hj => ?_)
  rw [Nat.testBit_or, testBit_wd, show 63 - (63 - j) = j by omega, Nat.testBit_two_pow]
  by_cases e : j = i
  · subst e; simp
  · have : ¬ (63 - i = 63 - j) := by omega
    simp [e, this, show 63 - j < 64 by omega]
theorem hi_set (v6 : Bool) (d : Nat → Bool) (i : Nat) (h : i < W v6) (b : Bool) (c : i < 64) : hiA v6 (setD d i b) = ((wd (fun j => if j = i then b else (decide (j < W v6) && d j)) : Nat) : Int) := by
  unfold hiA
  congr 1
  refine wd_congr (fun j hj => ?_)
  unfold setD
  by_cases e : j = i
  · subst e; simp [h]
  · have : ¬ ((j : Int) = i) := by omega
    simp [e, this]
theorem lo_set (v6 : Bool) (d : Nat → Bool) (i : Nat) (h : 64 + i < W v6) (b : Bool) : loA v6 (setD d (64 + i : Nat) b) = ((wd (fun j => if j = i then b else (decide (64 + j < W v6) && d (64 + j))) : Nat) : Int) := by
  unfold loA
  congr 1
  refine wd_congr (fun j hj => ?_)
  unfold setD
  by_cases e : j = i
  · subst e; simp [h]
  · have : ¬ (((64 + j : Nat) : Int) = (64 + i : Nat)) := by omega
    rw [if_neg this, if_neg e]
theorem lo_keep (v6 : Bool) (d : Nat → Bool) (i : Nat) (c : i < 64) (b : Bool) : loA v6 (setD d i b) = loA v6 d := by
  unfold loA
  congr 1
  refine wd_congr (fun j hj => ?_)
  unfold setD
  have : ¬ (((64 + j : Nat) : Int) = i) := by omega
  rw [if_neg this]
theorem hi_keep (v6 : Bool) (d : Nat → Bool) (i : Nat) (c : 64 ≤ i) (b : Bool) : hiA v6 (setD d i b) = hiA v6 d := by
  unfold hiA
  congr 1
  refine wd_congr (fun j hj => ?_)
  unfold setD
  have : ¬ ((j : Int) = i) := by omega
  simp [this]
theorem bits_set (d : Nat → Bool) (i : Nat) (h : i < 64) : Go.bits .or .u64 (Go.bits .andNot .u64 (wd d : Nat) ((2 ^ (63 - i) : Nat) : Int)) ((2 ^ (63 - i) : Nat) : Int) = (wd (fun j => if j = i then true else d j) : Nat) := by
  rw [clear_bit d i h, set_bit _ i h]
  congr 1
  refine wd_congr (fun j _ => ?_)
  by_cases e : j = i <;> simp [e]
theorem p2c (m : Nat) : ((2 ^ (63 - m) : Nat) : Int) = 2 ^ (63 - m) := by simp
theorem hi1 (v6 : Bool) (d : Nat → Bool) (m : Nat) (h : m < W v6) (c : m < 64) : hiA v6 (setD d m true) = Go.bits .or .u64 (Go.bits .andNot .u64 (hiA v6 d) (2 ^ (63 - m))) (2 ^ (63 - m)) := by
  rw [hi_set v6 _ m h _ c, ← p2c, hiA, bits_set _ m c]
theorem hi0 (v6 : Bool) (d : Nat → Bool) (m : Nat) (h : m < W v6) (c : m < 64) : hiA v6 (setD d m false) = Go.bits .andNot .u64 (hiA v6 d) (2 ^ (63 - m)) := by
  rw [hi_set v6 _ m h _ c, ← p2c, hiA, clear_bit _ m c]
theorem lo1 (v6 : Bool) (d : Nat → Bool) (m : Nat) (h : 64 + m < W v6) (c : m < 64) : loA v6 (setD d (64 + m : Nat) true) = Go.bits .or .u64 (Go.bits .andNot .u64 (loA v6 d) (2 ^ (63 - m))) (2 ^ (63 - m)) := by
  rw [lo_set v6 _ m h, ← p2c, loA, bits_set _ m c]
theorem lo0 (v6 : Bool) (d : Nat → Bool) (m : Nat) (h : 64 + m < W v6) (c : m < 64) : loA v6 (setD d (64 + m : Nat) false) = Go.bits .andNot .u64 (loA v6 d) (2 ^ (63 - m)) := by
  rw [lo_set v6 _ m h, ← p2c, loA, clear_bit _ m c]
theorem one_shl' (m : Nat) (c : m < 64) : IntKind.u64.wrap (2 ^ (63 - m)) = 2 ^ (63 - m) := by rw [one_shl m c, p2c]
def setv (v : Int) : Bool := decide (Go.bits .and .i64 v 1 = 1)
def setA (hi lo : Int) (v6 : Bool) (i v : Int) : Nat → Bool := if isI v6 i then setD (D hi lo) i (setv v) else D hi lo
def maskA (hi lo n : Int) (i : Nat) : Bool := decide ((i : Int) < n) && D hi lo i
theorem mask_hi (hi lo n : Int) (v6 : Bool) : Go.bits .andNot .u64 (hiA v6 (D hi lo)) (oneW (mxi 0 (mni n (W v6 : Nat))) (W v6 : Nat) 0) = hiA v6 (maskA hi lo n) := by
  unfold oneW hiA
  rw [andNot64 (wd_lt _) (wd_lt _)]
  congr 1
  refine eq_wd (Nat.lt_of_le_of_lt Nat.and_le_left (wd_lt _)) (fun i hi => ?_)
  rw [Nat.testBit_and, testBit_not (wd_lt _), testBit_wd, testBit_wd, show 63 - (63 - i) = i by omega]
  unfold maskA mxi mni
  by_cases h : i < W v6
  · rw [show decide (63 - i < 64) = true by simp; omega, decide_eq_true h]
    simp only [Bool.true_and]
    rw [Bool.and_comm]
    congr 1
    rw [← decide_not, decide_eq_decide]
    omega
  · simp [h]
theorem mask_lo (hi lo n : Int) (v6 : Bool) : Go.bits .andNot .u64 (loA v6 (D hi lo)) (oneW (mxi 0 (mni n (W v6 : Nat))) (W v6 : Nat) 64) = loA v6 (maskA hi lo n) := by
  unfold oneW loA
  rw [andNot64 (wd_lt _) (wd_lt _)]
  congr 1
  refine eq_wd (Nat.lt_of_le_of_lt Nat.and_le_left (wd_lt _)) (fun i hi => ?_)
  rw [Nat.testBit_and, testBit_not (wd_lt _), testBit_wd, testBit_wd, show 63 - (63 - i) = i by omega]
  unfold maskA mxi mni
  by_cases h : 64 + i < W v6
  · rw [show decide (63 - i < 64) = true by simp; omega, decide_eq_true h]
    simp only [Bool.true_and]
    rw [Bool.and_comm]
    congr 1
    rw [← decide_not, decide_eq_decide]
    omega
  · simp [h]
def c3 (a b : Int) : Int := if a < b then -1 else if b < a then 1 else 0
def or3 (a b c : Int) : Int := if a = 0 then (if b = 0 then c else b) else a
def byD (l : List Int) (i : Nat) : Bool := (l.getD (i / 8) 0).toNat.testBit (7 - i % 8)
theorem shl_byte (c : Int) (k : Nat) (h0 : 0 ≤ c) (h1 : c < 256) (hk : k < 8) : IntKind.u64.wrap (c * 2 ^ (56 - 8 * k)) = ((c.toNat * 2 ^ (56 - 8 * k) : Nat) : Int) := by
  obtain ⟨m, rfl⟩ := Int.eq_ofNat_of_zero_le h0
  have hm : m < 256 := by omega
  have hp : 2 ^ (56 - 8 * k) ≤ 72057594037927936 := Nat.pow_le_pow_right (n := 2) (by decide) (by omega : 56 - 8 * k ≤ 56)
  have : m * 2 ^ (56 - 8 * k) < 18446744073709551616 := Nat.lt_of_le_of_lt (Nat.mul_le_mul (by omega : m ≤ 255) hp) (by decide)
  rw [wrap_u64, Int.toNat_natCast]
  have e : ((m : Int) * 2 ^ (56 - 8 * k)) = ((m * 2 ^ (56 - 8 * k) : Nat) : Int) := by simp
  rw [e]
  omega
theorem or_byte (d : Nat → Bool) (c : Int) (k : Nat) (h0 : 0 ≤ c) (h1 : c < 256) (hk : k < 8) (e : Nat → Bool) (h : ∀ i, i < 64 → e i = if i / 8 = k then (d i || c.toNat.testBit (7 - i % 8)) else d i) :
    Go.bits .or .u64 (wd d : Nat) ((c.toNat * 2 ^ (56 - 8 * k) : Nat) : Int) = (wd e : Nat) := by
  have hm : c.toNat < 256 := by omega
  have hp : 2 ^ (56 - 8 * k) ≤ 72057594037927936 := Nat.pow_le_pow_right (n := 2) (by decide) (by omega : 56 - 8 * k ≤ 56)
  have hlt : c.toNat * 2 ^ (56 - 8 * k) < 18446744073709551616 := Nat.lt_of_le_of_lt (Nat.mul_le_mul (by omega : c.toNat ≤ 255) hp) (by decide)
  rw [or64 (wd_lt _) hlt]
  congr 1
  refine eq_wd (Nat.or_lt_two_pow (n := 64) (wd_lt _) hlt) (fun i hi => ?_)
  rw [Nat.testBit_or, testBit_wd, show 63 - (63 - i) = i by omega, h i hi, Nat.testBit_mul_two_pow]
  by_cases q : i / 8 = k
  · rw [if_pos q, show decide (63 - i < 64) = true by simp; omega, show 63 - i - (56 - 8 * k) = 7 - i % 8 by omega, show decide (63 - i ≥ 56 - 8 * k) = true by simp; omega]
    simp
  · rw [if_neg q]
    have : ((decide (63 - i ≥ 56 - 8 * k)) && c.toNat.testBit (63 - i - (56 - 8 * k))) = false := by
      by_cases q2 : 63 - i ≥ 56 - 8 * k
      · rw [Nat.testBit_lt_two_pow (Nat.lt_of_lt_of_le hm (Nat.pow_le_pow_right (n := 2) (by decide) (by omega : 8 ≤ 63 - i - (56 - 8 * k))))]
        simp
      · simp [q2]
    simp only [this, Bool.or_false, show decide (63 - i < 64) = true by simp; omega, Bool.true_and]
noncomputable def frH (l : List Int) (k : Nat) : Int := (wd (fun i => decide (i < 8 * k) && byD l i) : Nat)
noncomputable def frL (l : List Int) (k : Nat) : Int := (wd (fun i => decide (64 + i < 8 * k) && byD l (64 + i)) : Nat)
theorem frH_step (l : List Int) (k : Nat) (hk : k < 8) (h0 : 0 ≤ rd l k) (h1 : rd l k < 256) : Go.bits .or .u64 (frH l k) (((rd l k).toNat * 2 ^ (56 - 8 * k) : Nat) : Int) = frH l (k + 1) := by
  unfold frH
  refine or_byte _ _ k h0 h1 hk _ (fun i hi => ?_)
  unfold byD rd
  by_cases q : i / 8 = k
  · rw [if_pos q, q, Int.toNat_natCast, show decide (i < 8 * (k + 1)) = true by simp; omega, show decide (i < 8 * k) = false by simp; omega]
    simp
  · rw [if_neg q]
    congr 1
    rw [decide_eq_decide]; omega
theorem frL_step (l : List Int) (k : Nat) (hk : k < 8) (h0 : 0 ≤ rd l (8 + k : Nat)) (h1 : rd l (8 + k : Nat) < 256) : Go.bits .or .u64 (frL l (8 + k)) (((rd l (8 + k : Nat)).toNat * 2 ^ (56 - 8 * k) : Nat) : Int) = frL l (8 + k + 1) := by
  unfold frL
  refine or_byte _ _ k h0 h1 hk _ (fun i hi => ?_)
  unfold byD rd
  by_cases q : i / 8 = k
  · rw [if_pos q, show (64 + i) / 8 = 8 + k by omega, show (64 + i) % 8 = i % 8 by omega, Int.toNat_natCast, show decide (64 + i < 8 * (8 + k + 1)) = true by simp; omega, show decide (64 + i < 8 * (8 + k)) = false by simp; omega]
    simp
  · rw [if_neg q]
    congr 1
    rw [decide_eq_decide]; omega
theorem frH_over (l : List Int) (k : Nat) (hk : 8 ≤ k) : frH l (k + 1) = frH l k := by
  unfold frH
  congr 1
  refine wd_congr (fun i hi => ?_)
  rw [show decide (i < 8 * (k + 1)) = true by simp; omega, show decide (i < 8 * k) = true by simp; omega]
theorem frL_under (l : List Int) (k : Nat) (hk : k ≤ 8) : frL l k = 0 := by
  unfold frL
  have : wd (fun i => decide (64 + i < 8 * k) && byD l (64 + i)) = 0 := by
    refine word_ext (wd_lt _) (by decide) (fun j hj => ?_)
    rw [testBit_wd]
    simp; omega
  rw [this]; rfl
theorem frH_zero (l : List Int) : frH l 0 = 0 := by
  unfold frH
  have : wd (fun i => decide (i < 8 * 0) && byD l i) = 0 := by
    refine word_ext (wd_lt _) (by decide) (fun j hj => ?_)
    rw [testBit_wd]
    simp
  rw [this]; rfl
theorem byte_cast (c : Int) (k : Nat) (h0 : 0 ≤ c) : ((c.toNat * 2 ^ (56 - 8 * k) : Nat) : Int) = c * 2 ^ (56 - 8 * k) := by
  obtain ⟨m, rfl⟩ := Int.eq_ofNat_of_zero_le h0
  simp
theorem shl_byte' (c : Int) (k : Nat) (h0 : 0 ≤ c) (h1 : c < 256) (hk : k < 8) : IntKind.u64.wrap (c * 2 ^ (56 - 8 * k)) = c * 2 ^ (56 - 8 * k) := by rw [shl_byte c k h0 h1 hk, byte_cast c k h0]
theorem stepH (l : List Int) (k : Nat) (hk : k < 8) (h0 : 0 ≤ rd l k) (h1 : rd l k < 256) : Go.bits .or .u64 (frH l k) (rd l k * 2 ^ (56 - 8 * k)) = frH l (k + 1) := by rw [← byte_cast _ k h0, frH_step l k hk h0 h1]
theorem stepL (l : List Int) (k : Nat) (hk : k < 8) (h0 : 0 ≤ rd l (8 + k : Nat)) (h1 : rd l (8 + k : Nat) < 256) : Go.bits .or .u64 (frL l (8 + k)) (rd l (8 + k : Nat) * 2 ^ (56 - 8 * k)) = frL l (8 + k + 1) := by rw [← byte_cast _ k h0, frL_step l k hk h0 h1]
def cmn (d e : Nat → Bool) : Nat → Nat
  | 0 => 0
  | n + 1 => if cmn d e n = n ∧ d n = e n then n + 1 else cmn d e n
theorem cmn_le (d e : Nat → Bool) : ∀ n, cmn d e n ≤ n
  | 0 => Nat.le_refl _
  | n + 1 => by
    have := cmn_le d e n
    unfold cmn
    split <;> omega
theorem cmn_alike (d e : Nat → Bool) : ∀ n i, i < cmn d e n → d i = e i
  | 0, i, h => by simp [cmn] at h
  | n + 1, i, h => by
    unfold cmn at h
    split at h
    · rename_i hc
      rcases Nat.lt_succ_iff_lt_or_eq.mp h with h1 | rfl
      · exact cmn_alike d e n i (by omega)
      · exact hc.2
    · exact cmn_alike d e n i h
theorem cmn_end (d e : Nat → Bool) : ∀ n, cmn d e n < n → d (cmn d e n) ≠ e (cmn d e n)
  | 0, h => by omega
  | n + 1, h => by
    have hl := cmn_le d e n
    have ih := cmn_end d e n
    unfold cmn at h ⊢
    split at h
    · omega
    · rename_i hc
      rw [if_neg hc]
      rcases Nat.lt_or_eq_of_le hl with h1 | h1
      · exact ih h1
      · intro he
        rw [h1] at he
        exact hc ⟨h1, he⟩
theorem cmn_is {d e : Nat → Bool} {n k : Nat} (h0 : k ≤ n) (h1 : ∀ i, i < k → d i = e i) (h2 : k < n → d k ≠ e k) : cmn d e n = k := by
  have a := cmn_le d e n
  rcases Nat.lt_trichotomy (cmn d e n) k with h | h | h
  · exact absurd (h1 _ h) (cmn_end d e n (by omega))
  · exact h
  · exact absurd (cmn_alike d e n k h) (h2 (by omega))
theorem cmn_comm (d e : Nat → Bool) (n : Nat) : cmn d e n = cmn e d n :=
  (cmn_is (cmn_le d e n) (fun i h => (cmn_alike d e n i h).symm) (fun h => (cmn_end d e n h).symm)).symm
theorem cmn_congr {d e d' e' : Nat → Bool} {n : Nat} (h : ∀ i, i < n → (d i == e i) = (d' i == e' i)) : cmn d e n = cmn d' e' n := by
  have k : ∀ i, i < n → (d i = e i ↔ d' i = e' i) := fun i hi => by have := h i hi; rw [Bool.eq_iff_iff] at this; simpa using this
  refine cmn_is (cmn_le _ _ _) (fun i hi => (k i (by have := cmn_le d' e' n; omega)).mpr (cmn_alike _ _ _ i hi)) (fun hl he => cmn_end _ _ _ hl ((k _ hl).mp he))
theorem le_cmn {d e : Nat → Bool} {n m : Nat} (hm : m ≤ n) (h : ∀ i, i < m → d i = e i) : m ≤ cmn d e n := by
  rcases Nat.lt_or_ge (cmn d e n) m with h1 | h1
  · exact absurd (h _ h1) (cmn_end d e n (by omega))
  · exact h1
theorem cmn_all {d e : Nat → Bool} {n : Nat} (h : ∀ i, i < n → d i = e i) : cmn d e n = n := Nat.le_antisymm (cmn_le _ _ _) (le_cmn (Nat.le_refl _) h)

/-! ### Words -/
theorem lt_testBit {x y : Nat} (i : Nat) (h0 : x.testBit i = false) (h1 : y.testBit i = true) (h : ∀ j, i < j → x.testBit j = y.testBit j) : x < y := by
  have hq : x / 2 ^ (i + 1) = y / 2 ^ (i + 1) := by
    apply Nat.eq_of_testBit_eq
    intro j
    rw [Nat.testBit_div_two_pow, Nat.testBit_div_two_pow]
    exact h _ (by omega)
  have e0 : x / 2 ^ i % 2 = 0 := by
    rw [Nat.testBit_eq_decide_div_mod_eq] at h0
    have := of_decide_eq_false h0
    omega
  have e1 : y / 2 ^ i % 2 = 1 := by
    rw [Nat.testBit_eq_decide_div_mod_eq] at h1
    exact of_decide_eq_true h1
  rw [Nat.pow_succ, ← Nat.div_div_eq_div_mul, ← Nat.div_div_eq_div_mul] at hq
  have hd : x / 2 ^ i < y / 2 ^ i := by omega
  exact Nat.lt_of_div_lt_div hd
theorem c3_word {x y : Nat} (hx : x < 18446744073709551616) (hy : y < 18446744073709551616) :
    c3 x y = if cmn (fun i => x.testBit (63 - i)) (fun i => y.testBit (63 - i)) 64 = 64 then 0 else bitI (x.testBit (63 - cmn (fun i => x.testBit (63 - i)) (fun i => y.testBit (63 - i)) 64)) - bitI (y.testBit (63 - cmn (fun i => x.testBit (63 - i)) (fun i => y.testBit (63 - i)) 64)) := by
  have hl := cmn_le (fun i => x.testBit (63 - i)) (fun i => y.testBit (63 - i)) 64
  have ha := cmn_alike (fun i => x.testBit (63 - i)) (fun i => y.testBit (63 - i)) 64
  have he := cmn_end (fun i => x.testBit (63 - i)) (fun i => y.testBit (63 - i)) 64
  generalize cmn (fun i => x.testBit (63 - i)) (fun i => y.testBit (63 - i)) 64 = n at hl ha he
  split
  · rename_i h
    subst h
    have : x = y := word_ext hx hy (fun j hj => by have := ha (63 - j) (by omega); simpa [show 63 - (63 - j) = j by omega] using this)
    rw [this]; simp [c3]
  · rename_i h
    have he := he (by omega)
    have hh : ∀ j, 63 - n < j → x.testBit j = y.testBit j := by
      intro j hj
      rcases Nat.lt_or_ge j 64 with h1 | h1
      · have := ha (63 - j) (by omega); simpa [show 63 - (63 - j) = j by omega] using this
      · rw [testBit_hi hx h1, testBit_hi hy h1]
    cases h1 : x.testBit (63 - n) <;> cases h2 : y.testBit (63 - n) <;> simp only [h1, h2, ne_eq, not_true_eq_false] at he
    · have := lt_testBit _ h1 h2 hh
      unfold c3; rw [if_pos (by omega)]; rfl
    · have := lt_testBit _ h2 h1 (fun j hj => (hh j hj).symm)
      unfold c3; rw [if_neg (by omega), if_pos (by omega)]; rfl

/-! ### Addresses -/
def Dw (v6 : Bool) (d : Nat → Bool) (i : Nat) : Bool := decide (i < W v6) && d i
theorem Dw_lt {v6 : Bool} {d : Nat → Bool} {i : Nat} (h : i < W v6) : Dw v6 d i = d i := by unfold Dw; simp [h]
theorem Dw_ge {v6 : Bool} {d : Nat → Bool} {i : Nat} (h : W v6 ≤ i) : Dw v6 d i = false := by unfold Dw; simp; omega
theorem hi_bits (v6 : Bool) (d : Nat → Bool) {i : Nat} (h : i < 64) : (wd (fun i => decide (i < W v6) && d i)).testBit (63 - i) = Dw v6 d i := by
  rw [testBit_wd, show 63 - (63 - i) = i by omega]
  simp [Dw]; omega
theorem lo_bits (v6 : Bool) (d : Nat → Bool) {i : Nat} (h : i < 64) : (wd (fun i => decide (64 + i < W v6) && d (64 + i))).testBit (63 - i) = Dw v6 d (64 + i) := by
  rw [testBit_wd, show 63 - (63 - i) = i by omega]
  simp [Dw]; omega
theorem cmn_two (v6 : Bool) (d e : Nat → Bool) (n1 n2 : Nat) (h1 : n1 = cmn (Dw v6 d) (Dw v6 e) 64) (h2 : n2 = cmn (fun i => Dw v6 d (64 + i)) (fun i => Dw v6 e (64 + i)) 64) :
    min (if n1 = 64 then n1 + n2 else n1) (W v6) = cmn d e (W v6) := by
  have l1 := cmn_le (Dw v6 d) (Dw v6 e) 64
  have l2 := cmn_le (fun i => Dw v6 d (64 + i)) (fun i => Dw v6 e (64 + i)) 64
  have a1 := cmn_alike (Dw v6 d) (Dw v6 e) 64
  have a2 := cmn_alike (fun i => Dw v6 d (64 + i)) (fun i => Dw v6 e (64 + i)) 64
  have e1 := cmn_end (Dw v6 d) (Dw v6 e) 64
  have e2 := cmn_end (fun i => Dw v6 d (64 + i)) (fun i => Dw v6 e (64 + i)) 64
  rw [← h1] at l1 a1 e1
  rw [← h2] at l2 a2 e2
  have hW := W_le v6
  refine (cmn_is (Nat.min_le_right _ _) (fun i hi => ?_) (fun hk => ?_)).symm
  · rw [← Dw_lt (v6 := v6) (d := d) (i := i) (by omega), ← Dw_lt (v6 := v6) (d := e) (i := i) (by omega)]
    split at hi
    · rename_i hn
      rcases Nat.lt_or_ge i 64 with h | h
      · exact a1 i (by omega)
      · have := a2 (i - 64) (by omega)
        simpa [show 64 + (i - 64) = i by omega] using this
    · exact a1 i (by omega)
  · split at hk
    · rename_i hn
      rw [if_pos hn, Nat.min_eq_left (by omega), ← Dw_lt (v6 := v6) (d := d) (i := n1 + n2) (by omega), ← Dw_lt (v6 := v6) (d := e) (i := n1 + n2) (by omega), hn]
      exact e2 (by omega)
    · rename_i hn
      rw [if_neg hn, Nat.min_eq_left (by omega), ← Dw_lt (v6 := v6) (d := d) (i := n1) (by omega), ← Dw_lt (v6 := v6) (d := e) (i := n1) (by omega)]
      exact e1 (by omega)
noncomputable def commonA (a0 a1 : Int) (a2 : Bool) (b0 b1 : Int) (b2 : Bool) : Int := if a2 = b2 then (cmn (D a0 a1) (D b0 b1) (W a2) : Nat) else 0
noncomputable def compA (a0 a1 : Int) (a2 : Bool) (b0 b1 : Int) (b2 : Bool) : Int :=
  or3 (c3 (W a2 : Nat) (W b2 : Nat)) (c3 (hiA a2 (D a0 a1)) (hiA b2 (D b0 b1))) (c3 (loA a2 (D a0 a1)) (loA b2 (D b0 b1)))
theorem c3_hi (v6 : Bool) (d e : Nat → Bool) : c3 (hiA v6 d) (hiA v6 e) = if cmn (Dw v6 d) (Dw v6 e) 64 = 64 then 0 else bitI (Dw v6 d (cmn (Dw v6 d) (Dw v6 e) 64)) - bitI (Dw v6 e (cmn (Dw v6 d) (Dw v6 e) 64)) := by
  unfold hiA
  rw [c3_word (wd_lt _) (wd_lt _)]
  have hc : cmn (fun i => (wd (fun i => decide (i < W v6) && d i)).testBit (63 - i)) (fun i => (wd (fun i => decide (i < W v6) && e i)).testBit (63 - i)) 64 = cmn (Dw v6 d) (Dw v6 e) 64 :=
    cmn_congr (fun i hi => by rw [hi_bits v6 d hi, hi_bits v6 e hi])
  rw [hc]
  have hl := cmn_le (Dw v6 d) (Dw v6 e) 64
  split
  · rfl
  · rw [hi_bits v6 d (by omega), hi_bits v6 e (by omega)]
theorem c3_lo (v6 : Bool) (d e : Nat → Bool) : c3 (loA v6 d) (loA v6 e) = if cmn (fun i => Dw v6 d (64 + i)) (fun i => Dw v6 e (64 + i)) 64 = 64 then 0 else bitI (Dw v6 d (64 + cmn (fun i => Dw v6 d (64 + i)) (fun i => Dw v6 e (64 + i)) 64)) - bitI (Dw v6 e (64 + cmn (fun i => Dw v6 d (64 + i)) (fun i => Dw v6 e (64 + i)) 64)) := by
  unfold loA
  rw [c3_word (wd_lt _) (wd_lt _)]
  have hc : cmn (fun i => (wd (fun i => decide (64 + i < W v6) && d (64 + i))).testBit (63 - i)) (fun i => (wd (fun i => decide (64 + i < W v6) && e (64 + i))).testBit (63 - i)) 64 = cmn (fun i => Dw v6 d (64 + i)) (fun i => Dw v6 e (64 + i)) 64 :=
    cmn_congr (fun i hi => by rw [lo_bits v6 d hi, lo_bits v6 e hi])
  rw [hc]
  have hl := cmn_le (fun i => Dw v6 d (64 + i)) (fun i => Dw v6 e (64 + i)) 64
  split
  · rfl
  · rw [lo_bits v6 d (by omega), lo_bits v6 e (by omega)]
theorem comp_same (a0 a1 b0 b1 : Int) (v6 : Bool) : compA a0 a1 v6 b0 b1 v6 = if cmn (D a0 a1) (D b0 b1) (W v6) = W v6 then 0 else bitI (D a0 a1 (cmn (D a0 a1) (D b0 b1) (W v6))) - bitI (D b0 b1 (cmn (D a0 a1) (D b0 b1) (W v6))) := by
  unfold compA
  rw [show c3 (W v6 : Nat) (W v6 : Nat) = 0 by simp [c3], c3_hi, c3_lo]
  have hh := cmn_two v6 (D a0 a1) (D b0 b1) _ _ rfl rfl
  generalize hd : D a0 a1 = d at *
  generalize he : D b0 b1 = e at *
  have l1 := cmn_le (Dw v6 d) (Dw v6 e) 64
  have l2 := cmn_le (fun i => Dw v6 d (64 + i)) (fun i => Dw v6 e (64 + i)) 64
  have x1 := cmn_end (Dw v6 d) (Dw v6 e) 64
  have x2 := cmn_end (fun i => Dw v6 d (64 + i)) (fun i => Dw v6 e (64 + i)) 64
  have a2 := cmn_alike (fun i => Dw v6 d (64 + i)) (fun i => Dw v6 e (64 + i)) 64
  rw [← hh]
  generalize cmn (Dw v6 d) (Dw v6 e) 64 = n1 at *
  generalize cmn (fun i => Dw v6 d (64 + i)) (fun i => Dw v6 e (64 + i)) 64 = n2 at *
  have hW := W_le v6
  unfold or3
  rw [if_pos rfl]
  by_cases c1 : n1 = 64
  · subst c1
    simp only [if_true]
    by_cases c2 : n2 = 64
    · subst c2
      rw [if_pos rfl, if_pos (by omega)]
    · rw [if_neg c2]
      have hw : 64 + n2 < W v6 := by
        rcases Nat.lt_or_ge (64 + n2) (W v6) with h | h
        · exact h
        · have := x2 (by omega)
          simp only [Dw_ge h, ne_eq, not_true_eq_false] at this
      rw [if_neg (by omega), Nat.min_eq_left (by omega), Dw_lt hw, Dw_lt hw]
  · have hw : n1 < W v6 := by
      rcases Nat.lt_or_ge n1 (W v6) with h | h
      · exact h
      · have := x1 (by omega)
        simp only [Dw_ge h, ne_eq, not_true_eq_false] at this
    have hne := x1 (by omega)
    rw [Dw_lt hw, Dw_lt hw] at hne
    rw [if_neg c1, if_neg c1, Nat.min_eq_left (by omega), if_neg (show ¬ n1 = W v6 by omega), Dw_lt hw, Dw_lt hw]
    rw [if_neg (show ¬ bitI (d n1) - bitI (e n1) = 0 by cases h1 : d n1 <;> cases h2 : e n1 <;> simp_all [bitI])]
theorem comp_diff (a0 a1 b0 b1 : Int) (a2 b2 : Bool) (h : a2 ≠ b2) : compA a0 a1 a2 b0 b1 b2 = if b2 then -1 else 1 := by
  unfold compA
  cases a2 <;> cases b2 <;> simp_all [W, c3, or3]
def cutd (d : Nat → Bool) (c : Nat) (j : Nat) : Bool := decide (j < c) && d j
theorem cutd_lt {d : Nat → Bool} {c j : Nat} (h : j < c) : cutd d c j = d j := by unfold cutd; simp [h]
theorem cutd_ge {d : Nat → Bool} {c j : Nat} (h : c ≤ j) : cutd d c j = false := by unfold cutd; simp; omega
theorem maskA_cut (a0 a1 : Int) (c : Nat) : maskA a0 a1 (c : Int) = cutd (D a0 a1) c := funext fun j => by
  unfold maskA cutd
  rw [show decide ((j : Int) < (c : Int)) = decide (j < c) by rw [decide_eq_decide]; omega]
def clampW (v : Bool) (n : Int) : Nat := (mxi 0 (mni n (W v : Nat))).toNat
theorem clampW_eq (v : Bool) (n : Int) : mxi 0 (mni n (W v : Nat)) = (clampW v n : Nat) := by
  unfold clampW mxi mni
  split <;> split <;> omega
theorem clampW_le (v : Bool) (n : Int) : clampW v n ≤ W v := by
  unfold clampW mxi mni
  split <;> split <;> omega
theorem clampW_in {v : Bool} {c : Nat} (h : c ≤ W v) : clampW v (c : Int) = c := by
  unfold clampW mxi mni
  split <;> split <;> omega
theorem D_cut (v : Bool) (d : Nat → Bool) (c : Nat) (i : Nat) (h : i < W v) : D (hiA v (cutd d c)) (loA v (cutd d c)) i = cutd d c i := by rw [D_mk, decide_eq_true h, Bool.true_and]
theorem cut_cut (v : Bool) (d : Nat → Bool) (c k : Nat) (h : k ≤ c) : hiA v (cutd (D (hiA v (cutd d c)) (loA v (cutd d c))) k) = hiA v (cutd d k) ∧ loA v (cutd (D (hiA v (cutd d c)) (loA v (cutd d c))) k) = loA v (cutd d k) := by
  have e : ∀ i, i < W v → cutd (D (hiA v (cutd d c)) (loA v (cutd d c))) k i = cutd d k i := fun i hi => by
    by_cases hk : i < k
    · rw [cutd_lt hk, cutd_lt hk, D_cut v d c i hi, cutd_lt (by omega)]
    · rw [cutd_ge (by omega), cutd_ge (by omega)]
  exact ⟨hi_congr e, lo_congr e⟩
noncomputable def conD (v : Bool) (d : Nat → Bool) (c : Nat) (u : Bool) (e : Nat → Bool) : Bool := @decide (v = u ∧ ∀ i, i < c → d i = e i) (Classical.propDecidable _)
theorem conD_true {v : Bool} {d : Nat → Bool} {c : Nat} {u : Bool} {e : Nat → Bool} : conD v d c u e = true ↔ v = u ∧ ∀ i, i < c → d i = e i := by unfold conD; exact @decide_eq_true_iff _ (Classical.propDecidable _)
theorem conD_congr {v : Bool} {d : Nat → Bool} {c : Nat} {u : Bool} {e e' : Nat → Bool} (h : v = u → ∀ i, i < c → e i = e' i) : conD v d c u e = conD v d c u e' := by
  rw [Bool.eq_iff_iff, conD_true, conD_true]
  exact ⟨fun ⟨h1, h2⟩ => ⟨h1, fun i hi => (h2 i hi).trans (h h1 i hi)⟩, fun ⟨h1, h2⟩ => ⟨h1, fun i hi => (h2 i hi).trans (h h1 i hi).symm⟩⟩
theorem eq_pk (v : Bool) (d : Nat → Bool) (c : Nat) (hc : c ≤ W v) (u : Bool) (e : Nat → Bool) : ((hiA v (cutd d c) == hiA u (cutd e (clampW u (c : Int))) && (loA v (cutd d c) == loA u (cutd e (clampW u (c : Int))) && (v == u))) && ((c : Int) == ((clampW u (c : Int) : Nat) : Int))) = conD v d c u e := by
  rw [Bool.eq_iff_iff, conD_true]
  simp only [Bool.and_eq_true, beq_iff_eq]
  constructor
  · rintro ⟨⟨h1, h2, rfl⟩, h3⟩
    rw [clampW_in hc] at h1 h2
    refine ⟨rfl, fun i hi => ?_⟩
    have := mk_inj h1 h2 i (by omega)
    rwa [cutd_lt hi, cutd_lt hi] at this
  · rintro ⟨rfl, h⟩
    rw [clampW_in hc]
    have k : ∀ i, i < W v → cutd d c i = cutd e c i := fun i _ => by
      by_cases hi : i < c
      · rw [cutd_lt hi, cutd_lt hi, h i hi]
      · rw [cutd_ge (by omega), cutd_ge (by omega)]
    exact ⟨⟨hi_congr k, lo_congr k, rfl⟩, rfl⟩
theorem conD_self (v : Bool) (d : Nat → Bool) (c : Nat) : conD v d c v d = true := conD_true.mpr ⟨rfl, fun _ _ => rfl⟩
end Go.Proofs.Ytfcffemglcgbnaa.Hand
