/-
  Plain laws on addresses as numbers: the order of addresses is the order of the numbers that their digits make. No Go program.
-/
import Derived.Test.YtbaeaiiohkfieaaNext
namespace Go.Proofs.Ytbaeaiiohkfieaa.Hand
open Go.RowKit Go.Proofs.Ytbaeaiiohkfieaa.Bits Go.Proofs.Ytbaeaiiohkfieaa.Dig

/-- The number that an address's digits make. -/
noncomputable def va (v6 : Bool) (d : Nat → Bool) : Int := (wdN d (W v6) : Nat)
theorem va_congr {v6 : Bool} {d e : Nat → Bool} (h : ∀ i, i < W v6 → d i = e i) : va v6 d = va v6 e := by unfold va; rw [wdN_congr h]
theorem va_D (v6 : Bool) (d : Nat → Bool) : va v6 (D (hiA v6 d) (loA v6 d)) = va v6 d := va_congr (fun i hi => by rw [D_mk]; simp [hi])
theorem wdN_inj {d e : Nat → Bool} {n : Nat} (h : wdN d n = wdN e n) : ∀ i, i < n → d i = e i := by
  intro i hi
  have h1 := testBit_wdN d n (n - 1 - i)
  have h2 := testBit_wdN e n (n - 1 - i)
  rw [h, h2, show n - 1 - (n - 1 - i) = i by omega] at h1
  simpa [show n - 1 - i < n by omega] using h1.symm
theorem va_inj {v6 : Bool} {d e : Nat → Bool} (h : va v6 d = va v6 e) : ∀ i, i < W v6 → d i = e i := wdN_inj (by unfold va at h; omega)
theorem wdN_mono {d e : Nat → Bool} : ∀ {n : Nat}, (∀ i, i < n → d i = true → e i = true) → wdN d n ≤ wdN e n
  | 0, _ => Nat.le_refl _
  | n + 1, h => by
    have ih := wdN_mono (n := n) (d := d) (e := e) (fun i hi => h i (by omega))
    have hn := h n (by omega)
    rw [wdN, wdN]
    cases h1 : d n <;> cases h2 : e n <;> simp_all <;> omega
theorem va_mono {v6 : Bool} {d e : Nat → Bool} (h : ∀ i, i < W v6 → d i = true → e i = true) : va v6 d ≤ va v6 e := by
  unfold va
  have := wdN_mono h
  omega
/-- Which one is ahead is which number is less. -/
theorem comp_val (a0 a1 b0 b1 : Int) (v6 : Bool) : compA a0 a1 v6 b0 b1 v6 = c3 (va v6 (D a0 a1)) (va v6 (D b0 b1)) := by
  unfold compA
  rw [show c3 (W v6 : Nat) (W v6 : Nat) = 0 by simp [c3]]
  generalize D a0 a1 = d
  generalize D b0 b1 = e
  have ⟨a0, a1⟩ := u_hiA v6 d
  have ⟨b0, b1⟩ := u_loA v6 d
  have ⟨c0, c1⟩ := u_hiA v6 e
  have ⟨e0, e1⟩ := u_loA v6 e
  cases v6 with
  | true =>
    have h1 := val6 d
    have h2 := val6 e
    unfold va
    rw [W_t, h1, h2]
    unfold or3 c3
    generalize hiA true d = x at *
    generalize loA true d = y at *
    generalize hiA true e = x' at *
    generalize loA true e = y' at *
    clear h1 h2
    rcases Int.lt_trichotomy x x' with h | h | h
    · have : ¬ x' < x := by omega
      have h3 : x * 18446744073709551616 + y < x' * 18446744073709551616 + y' := by omega
      rw [if_pos rfl, if_pos h, if_pos h3]
      rfl
    · subst h
      rw [if_pos rfl, if_neg (Int.lt_irrefl x), if_neg (Int.lt_irrefl x), if_pos rfl]
      rcases Int.lt_trichotomy y y' with h | h | h
      · rw [if_pos h, if_pos (show x * 18446744073709551616 + y < x * 18446744073709551616 + y' by omega)]
      · subst h
        rw [if_neg (Int.lt_irrefl y), if_neg (Int.lt_irrefl y), if_neg (Int.lt_irrefl _), if_neg (Int.lt_irrefl _)]
      · rw [if_neg (show ¬ y < y' by omega), if_pos h, if_neg (show ¬ x * 18446744073709551616 + y < x * 18446744073709551616 + y' by omega), if_pos (show x * 18446744073709551616 + y' < x * 18446744073709551616 + y by omega)]
    · have h3 : x' * 18446744073709551616 + y' < x * 18446744073709551616 + y := by omega
      rw [if_pos rfl, if_neg (show ¬ x < x' by omega), if_pos h, if_neg (show ¬ x * 18446744073709551616 + y < x' * 18446744073709551616 + y' by omega), if_pos h3]
      rfl
  | false =>
    have ⟨h1, z1⟩ := val4 d
    have ⟨h2, z2⟩ := val4 e
    unfold va
    rw [W_f, ← h1, ← h2, z1, z2]
    generalize ((wdN d 32 : Nat) : Int) = x
    generalize ((wdN e 32 : Nat) : Int) = y
    unfold or3 c3
    rw [if_pos rfl]
    rcases Int.lt_trichotomy x y with h | h | h
    · rw [if_pos h, if_pos (show x * 4294967296 < y * 4294967296 by omega)]
      rfl
    · subst h
      simp
    · rw [if_neg (show ¬ x < y by omega), if_pos h, if_neg (show ¬ x * 4294967296 < y * 4294967296 by omega), if_pos (show y * 4294967296 < x * 4294967296 by omega)]
      rfl
theorem c3_neg (a b : Int) : c3 a b = - c3 b a := by unfold c3; split <;> split <;> omega
theorem c3_lt {a b : Int} : c3 a b < 0 ↔ a < b := by unfold c3; split <;> (try split) <;> omega
theorem c3_le {a b : Int} : c3 a b ≤ 0 ↔ a ≤ b := by unfold c3; split <;> (try split) <;> omega
theorem c3_ge {a b : Int} : c3 a b ≥ 0 ↔ b ≤ a := by unfold c3; split <;> (try split) <;> omega
theorem c3_eq {a b : Int} : c3 a b = 0 ↔ a = b := by unfold c3; split <;> (try split) <;> omega
theorem c3_m1 {a b : Int} : c3 a b = -1 ↔ a < b := by unfold c3; split <;> (try split) <;> omega
/-- Where the next one is: its number is one more. -/
theorem va_up {v6 : Bool} {d : Nat → Bool} {k : Nat} (hk : k < W v6) (h0 : d k = false) (h1 : ∀ i, k < i → i < W v6 → d i = true) : va v6 (upD d k) = va v6 d + 1 := by
  rcases wdN_up d (W v6) with ⟨h, _⟩ | ⟨j, hj, j0, j1, j2⟩
  · rw [h k hk] at h0; cases h0
  · have e : j = k := by
      rcases Nat.lt_trichotomy j k with h | h | h
      · rw [j1 k h hk] at h0; cases h0
      · exact h
      · rw [h1 j h hj] at j0; cases j0
    subst e
    unfold va
    omega
theorem common_up {a0 a1 : Int} {v6 : Bool} {k : Nat} (hk : k < W v6) (h0 : D a0 a1 k = false) :
    commonA a0 a1 v6 (hiA v6 (upD (D a0 a1) k)) (loA v6 (upD (D a0 a1) k)) v6 = k := by
  unfold commonA
  rw [if_pos rfl]
  congr 1
  refine cmn_is (by omega) (fun i hi => ?_) (fun _ => ?_)
  · rw [D_mk]; simp [upD, hi]; omega
  · rw [D_mk, h0]; simp [upD, hk]
end Go.Proofs.Ytbaeaiiohkfieaa.Hand
