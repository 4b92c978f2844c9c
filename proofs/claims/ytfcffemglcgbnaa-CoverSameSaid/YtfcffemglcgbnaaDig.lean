/-
  Plain laws on 64-bit words: the machine's bit operations on numbers below 2^64, told by their binary digits. No Go program.
-/
import Derived.Laws.BitsLemmas
import Derived.RowKit
namespace Go.Proofs.Ytfcffemglcgbnaa.Bits
open Go.RowKit

theorem wrap_u64 (n : Int) : IntKind.u64.wrap n = n % 18446744073709551616 := by simp [IntKind.wrap, IntKind.bits, IntKind.signed]
theorem wraps_u64 (n : Int) (h₀ : 0 ≤ n) (h₁ : n < 2 ^ 64) : IntKind.u64.wrap n = n := by rw [wrap_u64]; omega

def full : Nat := 18446744073709551615

theorem cast64 {n : Nat} (h : n < 18446744073709551616) : IntKind.u64.wrap (n : Int) = (n : Int) := by rw [wrap_u64]; omega

theorem and64 {a b : Nat} (ha : a < 18446744073709551616) (hb : b < 18446744073709551616) : Go.bits .and .u64 a b = ((a &&& b : Nat) : Int) :=
  (bits_nat .u64 64 (by decide) wraps_u64 a b ha hb).1
theorem or64 {a b : Nat} (ha : a < 18446744073709551616) (hb : b < 18446744073709551616) : Go.bits .or .u64 a b = ((a ||| b : Nat) : Int) :=
  (bits_nat .u64 64 (by decide) wraps_u64 a b ha hb).2
theorem andNot64 {a b : Nat} (ha : a < 18446744073709551616) (hb : b < 18446744073709551616) : Go.bits .andNot .u64 a b = ((a &&& (full - b) : Nat) : Int) := by
  have ha' : a % 2 ^ IntKind.u64.bits = a := Nat.mod_eq_of_lt ha
  have hb' : b % 2 ^ IntKind.u64.bits = b := Nat.mod_eq_of_lt hb
  have hx : a &&& (full - b) < 18446744073709551616 := Nat.lt_of_le_of_lt Nat.and_le_left ha
  simp only [Go.bits, BitVec.ofInt_natCast, BitVec.toNat_and, BitVec.toNat_not, BitVec.toNat_ofNat, ha', hb']
  exact cast64 hx

theorem testBit_hi {x : Nat} (h : x < 18446744073709551616) {j : Nat} (hj : 64 ≤ j) : x.testBit j = false :=
  Nat.testBit_lt_two_pow (Nat.lt_of_lt_of_le h (by exact Nat.pow_le_pow_right (n := 2) (by decide) hj))
theorem testBit_not {b : Nat} (hb : b < 18446744073709551616) (j : Nat) : (full - b).testBit j = (decide (j < 64) && !b.testBit j) := by
  have := Nat.testBit_two_pow_sub_succ (n := 64) (x := b) hb j
  rw [show full - b = 2 ^ 64 - (b + 1) from by unfold full; omega]
  exact this

theorem word_ext {a b : Nat} (ha : a < 18446744073709551616) (hb : b < 18446744073709551616) (h : ∀ j, j < 64 → a.testBit j = b.testBit j) : a = b := by
  apply Nat.eq_of_testBit_eq
  intro j
  rcases Nat.lt_or_ge j 64 with hj | hj
  · exact h j hj
  · rw [testBit_hi ha hj, testBit_hi hb hj]

end Go.Proofs.Ytfcffemglcgbnaa.Bits
namespace Go.Proofs.Ytfcffemglcgbnaa.Dig
open Go.Proofs.Ytfcffemglcgbnaa.Bits

abbrev u64 (x : Int) : Prop := 0 ≤ x ∧ x < 18446744073709551616
def W (v6 : Bool) : Nat := if v6 then 128 else 32
theorem W_f : W false = 32 := rfl
theorem W_le (v6 : Bool) : W v6 ≤ 128 := by cases v6 <;> decide

def wdN (d : Nat → Bool) : Nat → Nat
  | 0 => 0
  | n + 1 => 2 * wdN d n + (d n).toNat
theorem wdN_lt (d : Nat → Bool) : ∀ n, wdN d n < 2 ^ n
  | 0 => by simp [wdN]
  | n + 1 => by
    have := wdN_lt d n
    have hb : (d n).toNat ≤ 1 := by cases d n <;> decide
    rw [wdN, Nat.pow_succ]
    omega
theorem testBit_wdN (d : Nat → Bool) : ∀ n j, (wdN d n).testBit j = (decide (j < n) && d (n - 1 - j))
  | 0, j => by simp [wdN]
  | n + 1, 0 => by
    rw [wdN, Nat.testBit_zero]
    cases h : d n <;> simp [h] <;> omega
  | n + 1, j + 1 => by
    rw [wdN, Nat.testBit_succ]
    have hb : (d n).toNat ≤ 1 := by cases d n <;> decide
    rw [show (2 * wdN d n + (d n).toNat) / 2 = wdN d n by omega, testBit_wdN d n j, show n + 1 - 1 - (j + 1) = n - 1 - j by omega]
    congr 1
    simp
theorem wd_ex (d : Nat → Bool) : ∃ n : Nat, n < 18446744073709551616 ∧ ∀ j, n.testBit j = (decide (j < 64) && d (63 - j)) := ⟨wdN d 64, wdN_lt d 64, fun j => testBit_wdN d 64 j⟩
noncomputable def wd (d : Nat → Bool) : Nat := Classical.choose (wd_ex d)
theorem wd_lt (d : Nat → Bool) : wd d < 18446744073709551616 := (Classical.choose_spec (wd_ex d)).1
theorem testBit_wd (d : Nat → Bool) (j : Nat) : (wd d).testBit j = (decide (j < 64) && d (63 - j)) := (Classical.choose_spec (wd_ex d)).2 j
theorem wd_eq (d : Nat → Bool) : wd d = wdN d 64 := word_ext (wd_lt d) (wdN_lt d 64) (fun j _ => by rw [testBit_wd, testBit_wdN])
theorem eq_wd {x : Nat} (hx : x < 18446744073709551616) {d : Nat → Bool} (h : ∀ i, i < 64 → x.testBit (63 - i) = d i) : x = wd d := by
  refine word_ext hx (wd_lt d) (fun j hj => ?_)
  rw [testBit_wd, ← h (63 - j) (by omega), show 63 - (63 - j) = j by omega]
  simp [hj]
theorem wd_congr {d e : Nat → Bool} (h : ∀ i, i < 64 → d i = e i) : wd d = wd e :=
  eq_wd (wd_lt d) (fun i hi => by rw [testBit_wd, show 63 - (63 - i) = i by omega, h i hi]; simp; omega)

def D (hi lo : Int) (i : Nat) : Bool := if i < 64 then hi.toNat.testBit (63 - i) else if i < 128 then lo.toNat.testBit (127 - i) else false
theorem D_lo {hi lo : Int} {i : Nat} (h : i < 64) : D hi lo i = hi.toNat.testBit (63 - i) := by unfold D; rw [if_pos h]
theorem D_hi {hi lo : Int} {i : Nat} (h : i < 64) : D hi lo (64 + i) = lo.toNat.testBit (63 - i) := by
  unfold D
  rw [if_neg (by omega), if_pos (by omega), show 127 - (64 + i) = 63 - i by omega]

noncomputable def hiA (v6 : Bool) (d : Nat → Bool) : Int := (wd (fun i => decide (i < W v6) && d i) : Nat)
noncomputable def loA (v6 : Bool) (d : Nat → Bool) : Int := (wd (fun i => decide (64 + i < W v6) && d (64 + i)) : Nat)
theorem u_hiA (v6 : Bool) (d : Nat → Bool) : u64 (hiA v6 d) := by have := wd_lt (fun i => decide (i < W v6) && d i); unfold hiA; constructor <;> omega
theorem u_loA (v6 : Bool) (d : Nat → Bool) : u64 (loA v6 d) := by have := wd_lt (fun i => decide (64 + i < W v6) && d (64 + i)); unfold loA; constructor <;> omega
theorem D_mk (v6 : Bool) (d : Nat → Bool) (i : Nat) : D (hiA v6 d) (loA v6 d) i = (decide (i < W v6) && d i) := by
  have hW := W_le v6
  unfold D hiA loA
  simp only [Int.toNat_natCast, testBit_wd]
  split
  · rename_i h
    rw [show 63 - (63 - i) = i by omega]
    simp; omega
  · split
    · rename_i h1 h2
      rw [show 64 + (63 - (127 - i)) = i by omega]
      simp; omega
    · rename_i h1 h2
      simp; omega
theorem hi_congr {v6 : Bool} {d e : Nat → Bool} (h : ∀ i, i < W v6 → d i = e i) : hiA v6 d = hiA v6 e := by
  unfold hiA
  rw [wd_congr (e := fun i => decide (i < W v6) && e i)]
  intro i _
  by_cases hi : i < W v6
  · simp [h i hi]
  · simp [hi]
theorem lo_congr {v6 : Bool} {d e : Nat → Bool} (h : ∀ i, i < W v6 → d i = e i) : loA v6 d = loA v6 e := by
  unfold loA
  rw [wd_congr (e := fun i => decide (64 + i < W v6) && e (64 + i))]
  intro i _
  by_cases hi : 64 + i < W v6
  · simp [h _ hi]
  · simp [hi]
theorem mk_inj {v6 : Bool} {d e : Nat → Bool} (h1 : hiA v6 d = hiA v6 e) (h2 : loA v6 d = loA v6 e) : ∀ i, i < W v6 → d i = e i := by
  intro i hi
  have a := D_mk v6 d i
  rw [h1, h2, D_mk] at a
  simpa [hi] using a.symm


attribute [irreducible] wd hiA loA D
end Go.Proofs.Ytfcffemglcgbnaa.Dig
