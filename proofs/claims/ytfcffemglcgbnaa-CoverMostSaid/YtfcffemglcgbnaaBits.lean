/-
  Plain laws on 64-bit words: the machine's bit operations on numbers below 2^64, told by their binary digits. No Go program.
-/
import Derived.Laws.BitsLemmas
import Derived.RowKit
namespace Go.Proofs.Ytfcffemglcgbnaa.Bits
open Go.RowKit

theorem wrap_u64 (n : Int) : IntKind.u64.wrap n = n % 18446744073709551616 := by simp [IntKind.wrap, IntKind.bits, IntKind.signed]
theorem wraps_u64 (n : Int) (h₀ : 0 ≤ n) (h₁ : n < 2 ^ 64) : IntKind.u64.wrap n = n := by rw [wrap_u64]; omega

def full : Nat := 18446744073709551615

theorem cast64 {n : Nat} (h : n < 18446744073709551616) : IntKind.u64.wrap (n : Int) = (n : Int) := by rw [wrap_u64]; omega

theorem and64 {a b : Nat} (ha : a < 18446744073709551616) (hb : b < 18446744073709551616) : Go.bits .and .u64 a b = ((a &&& b : Nat) : Int) :=
  (bits_nat .u64 64 (by decide) wraps_u64 a b ha hb).1
theorem or64 {a b : Nat} (ha : a < 18446744073709551616) (hb : b < 18446744073709551616) : Go.bits .or .u64 a b = ((a ||| b : Nat) : Int) :=
  (bits_nat .u64 64 (by decide) wraps_u64 a b ha hb).2
theorem andNot64 {a b : Nat} (ha : a < 18446744073709551616) (hb : b < 18446744073709551616) : Go.bits .andNot .u64 a b = ((a &&& (full - b) : Nat) : Int) := by
  have ha' : a % 2 ^ IntKind.u64.bits = a := Nat.mod_eq_of_lt ha
  have hb' : b % 2 ^ IntKind.u64.bits = b := Nat.mod_eq_of_lt hb
  have hx : a &&& (full - b) < 18446744073709551616 := Nat.lt_of_le_of_lt Nat.and_le_left ha
  simp only [Go.bits, BitVec.ofInt_natCast, BitVec.toNat_and, BitVec.toNat_not, BitVec.toNat_ofNat, ha', hb']
  exact cast64 hx

theorem testBit_hi {x : Nat} (h : x < 18446744073709551616) {j : Nat} (hj : 64 ≤ j) : x.testBit j = false :=
  Nat.testBit_lt_two_pow (Nat.lt_of_lt_of_le h (by exact Nat.pow_le_pow_right (n := 2) (by decide) hj))
theorem testBit_not {b : Nat} (hb : b < 18446744073709551616) (j : Nat) : (full - b).testBit j = (decide (j < 64) && !b.testBit j) := by
  have := Nat.testBit_two_pow_sub_succ (n := 64) (x := b) hb j
  rw [show full - b = 2 ^ 64 - (b + 1) from by unfold full; omega]
  exact this

theorem word_ext {a b : Nat} (ha : a < 18446744073709551616) (hb : b < 18446744073709551616) (h : ∀ j, j < 64 → a.testBit j = b.testBit j) : a = b := by
  apply Nat.eq_of_testBit_eq
  intro j
  rcases Nat.lt_or_ge j 64 with hj | hj
  · exact h j hj
  · rw [testBit_hi ha hj, testBit_hi hb hj]

end Go.Proofs.Ytfcffemglcgbnaa.Bits
