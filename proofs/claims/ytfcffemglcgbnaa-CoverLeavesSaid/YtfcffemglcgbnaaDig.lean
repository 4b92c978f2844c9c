/-
  Plain laws on addresses told by their digits: a word out of its digits, an address out of its digits. No Go program.
-/
import Derived.Test.YtfcffemglcgbnaaBits
namespace Go.Proofs.Ytfcffemglcgbnaa.Dig
open Go.Proofs.Ytfcffemglcgbnaa.Bits

abbrev u64 (x : Int) : Prop := 0 ≤ x ∧ x < 18446744073709551616
def W (v6 : Bool) : Nat := if v6 then 128 else 32
theorem W_t : W true = 128 := rfl
theorem W_f : W false = 32 := rfl
theorem W_le (v6 : Bool) : W v6 ≤ 128 := by cases v6 <;> decide

def wdN (d : Nat → Bool) : Nat → Nat
  | 0 => 0
  | n + 1 => 2 * wdN d n + (d n).toNat
theorem wdN_lt (d : Nat → Bool) : ∀ n, wdN d n < 2 ^ n
  | 0 => by simp [wdN]
  | n + 1 => by
    have := wdN_lt d n
    have hb : (d n).toNat ≤ 1 := by cases d n <;> decide
    rw [wdN, Nat.pow_succ]
    omega
theorem testBit_wdN (d : Nat → Bool) : ∀ n j, (wdN d n).testBit j = (decide (j < n) && d (n - 1 - j))
  | 0, j => by simp [wdN]
  | n + 1, 0 => by
    rw [wdN, Nat.testBit_zero]
    cases h : d n <;> simp [h] <;> omega
  | n + 1, j + 1 => by
    rw [wdN, Nat.testBit_succ]
    have hb : (d n).toNat ≤ 1 := by cases d n <;> decide
    rw [show (2 * wdN d n + (d n).toNat) / 2 = wdN d n by omega, testBit_wdN d n j, show n + 1 - 1 - (j + 1) = n - 1 - j by omega]
    congr 1
    simp
theorem wd_ex (d : Nat → Bool) : ∃ n : Nat, n < 18446744073709551616 ∧ ∀ j, n.testBit j = (decide (j < 64) && d (63 - j)) := ⟨wdN d 64, wdN_lt d 64, fun j => testBit_wdN d 64 j⟩
noncomputable def wd (d : Nat → Bool) : Nat := Classical.choose (wd_ex d)
theorem wd_lt (d : Nat → Bool) : wd d < 18446744073709551616 := (Classical.choose_spec (wd_ex d)).1
theorem testBit_wd (d : Nat → Bool) (j : Nat) : (wd d).testBit j = (decide (j < 64) && d (63 - j)) := (Classical.choose_spec (wd_ex d)).2 j
theorem wd_eq (d : Nat → Bool) : wd d = wdN d 64 := word_ext (wd_lt d) (wdN_lt d 64) (fun j _ => by rw [testBit_wd, testBit_wdN])
theorem eq_wd {x : Nat} (hx : x < 18446744073709551616) {d : Nat → Bool} (h : ∀ i, i < 64 → x.testBit (63 - i) = d i) : x = wd d := by
  refine word_ext hx (wd_lt d) (fun j hj => ?_)
  rw [testBit_wd, ← h (63 - j) (by omega), show 63 - (63 - j) = j by omega]
  simp [hj]
theorem wd_congr {d e : Nat → Bool} (h : ∀ i, i < 64 → d i = e i) : wd d = wd e :=
  eq_wd (wd_lt d) (fun i hi => by rw [testBit_wd, show 63 - (63 - i) = i by omega, h i hi]; simp; omega)

def D (hi lo : Int) (i : Nat) : Bool := if i < 64 then hi.toNat.testBit (63 - i) else if i < 128 then lo.toNat.testBit (127 - i) else false
theorem D_lo {hi lo : Int} {i : Nat} (h : i < 64) : D hi lo i = hi.toNat.testBit (63 - i) := by unfold D; rw [if_pos h]
theorem D_hi {hi lo : Int} {i : Nat} (h : i < 64) : D hi lo (64 + i) = lo.toNat.testBit (63 - i) := by
  unfold D
  rw [if_neg (by omega), if_pos (by omega), show 127 - (64 + i) = 63 - i by omega]

noncomputable def hiA (v6 : Bool) (d : Nat → Bool) : Int := (wd (fun i => decide (i < W v6) && d i) : Nat)
noncomputable def loA (v6 : Bool) (d : Nat → Bool) : Int := (wd (fun i => decide (64 + i < W v6) && d (64 + i)) : Nat)
theorem u_hiA (v6 : Bool) (d : Nat → Bool) : u64 (hiA v6 d) := by have := wd_lt (fun i => decide (i < W v6) && d i); unfold hiA; constructor <;> omega
theorem u_loA (v6 : Bool) (d : Nat → Bool) : u64 (loA v6 d) := by have := wd_lt (fun i => decide (64 + i < W v6) && d (64 + i)); unfold loA; constructor <;> omega
theorem D_mk (v6 : Bool) (d : Nat → Bool) (i : Nat) : D (hiA v6 d) (loA v6 d) i = (decide (i < W v6) && d i) := by
  have hW := W_le v6
  unfold D hiA loA
  simp only [Int.toNat_natCast, testBit_wd]
  split
  · rename_i h
    rw [show 63 - (63 - i) = i by omega]
    simp; omega
  · split
    · rename_i h1 h2
      rw [show 64 + (63 - (127 - i)) = i by omega]
      simp; omega
    · rename_i h1 h2
      simp; omega
theorem hi_congr {v6 : Bool} {d e : Nat → Bool} (h : ∀ i, i < W v6 → d i = e i) : hiA v6 d = hiA v6 e := by
  unfold hiA
  rw [wd_congr (e := fun i => decide (i < W v6) && e i)]
  intro i _
  by_cases hi : i < W v6
  · simp [h i hi]
  · simp [hi]
theorem lo_congr {v6 : Bool} {d e : Nat → Bool} (h : ∀ i, i < W v6 → d i = e i) : loA v6 d = loA v6 e := by
  unfold loA
  rw [wd_congr (e := fun i => decide (64 + i < W v6) && e (64 + i))]
  intro i _
  by_cases hi : 64 + i < W v6
  · simp [h _ hi]
  · simp [hi]
theorem mk_inj {v6 : Bool} {d e : Nat → Bool} (h1 : hiA v6 d = hiA v6 e) (h2 : loA v6 d = loA v6 e) : ∀ i, i < W v6 → d i = e i := by
  intro i hi
  have a := D_mk v6 d i
  rw [h1, h2, D_mk] at a
  simpa [hi] using a.symm

def sane (hi lo : Int) (v6 : Bool) : Prop := hi = hiA v6 (D hi lo) ∧ lo = loA v6 (D hi lo)
theorem hi_v6 {hi lo : Int} (h : u64 hi) : hiA true (D hi lo) = hi := by
  obtain ⟨n, rfl⟩ := Int.eq_ofNat_of_zero_le h.1
  unfold hiA
  congr 1
  refine (eq_wd (by have := h.2; omega) (fun i hi => ?_)).symm
  rw [D_lo hi, W_t]
  simp; omega
theorem lo_v6 {hi lo : Int} (h : u64 lo) : loA true (D hi lo) = lo := by
  obtain ⟨n, rfl⟩ := Int.eq_ofNat_of_zero_le h.1
  unfold loA
  congr 1
  refine (eq_wd (by have := h.2; omega) (fun i hi => ?_)).symm
  rw [D_hi hi, W_t]
  simp; omega
theorem sane_mk (v6 : Bool) (d : Nat → Bool) : sane (hiA v6 d) (loA v6 d) v6 := by
  constructor
  · exact (hi_congr (fun i hi => by rw [D_mk]; simp [hi])).symm
  · exact (lo_congr (fun i hi => by rw [D_mk]; simp [hi])).symm
theorem sane_out {hi lo : Int} {v6 : Bool} (h : sane hi lo v6) {i : Nat} (hi' : W v6 ≤ i) : D hi lo i = false := by
  have := D_mk v6 (D hi lo) i
  rw [← h.1, ← h.2] at this
  rw [this]
  simp; omega

attribute [irreducible] wd hiA loA D
end Go.Proofs.Ytfcffemglcgbnaa.Dig
