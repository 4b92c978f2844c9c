/-
  Plain laws on the address that is one more, told by digits. No Go program.
-/
import Derived.Test.YtbaeaiiohkfieaaCmn
namespace Go.Proofs.Ytbaeaiiohkfieaa.Hand
open Go.RowKit Go.Proofs.Ytbaeaiiohkfieaa.Bits Go.Proofs.Ytbaeaiiohkfieaa.Dig

theorem wdN_congr {d e : Nat → Bool} : ∀ {n : Nat}, (∀ i, i < n → d i = e i) → wdN d n = wdN e n
  | 0, _ => rfl
  | n + 1, h => by rw [wdN, wdN, wdN_congr (fun i hi => h i (by omega)), h n (by omega)]
theorem wdN_add (d : Nat → Bool) (m : Nat) : ∀ n, wdN d (m + n) = wdN d m * 2 ^ n + wdN (fun i => d (m + i)) n
  | 0 => by simp [wdN]
  | n + 1 => by
    rw [← Nat.add_assoc, wdN, wdN, wdN_add d m n, Nat.pow_succ]
    have : wdN d m * (2 ^ n * 2) = 2 * (wdN d m * 2 ^ n) := by rw [← Nat.mul_assoc, Nat.mul_comm]
    omega
theorem wdN_zero {d : Nat → Bool} : ∀ {n : Nat}, (∀ i, i < n → d i = false) → wdN d n = 0
  | 0, _ => rfl
  | n + 1, h => by rw [wdN, wdN_zero (fun i hi => h i (by omega)), h n (by omega)]; rfl
/-- One more: the last 0 is 1, what is behind it is 0; or there is none. -/
def upD (d : Nat → Bool) (k i : Nat) : Bool := if i < k then d i else decide (i = k)
theorem wdN_up (d : Nat → Bool) : ∀ n, ((∀ i, i < n → d i = true) ∧ wdN d n + 1 = 2 ^ n) ∨ ∃ k, k < n ∧ d k = false ∧ (∀ i, k < i → i < n → d i = true) ∧ wdN (upD d k) n = wdN d n + 1
  | 0 => .inl ⟨fun i h => by omega, rfl⟩
  | n + 1 => by
    cases hd : d n with
    | false =>
      refine .inr ⟨n, by omega, hd, fun i _ _ => by omega, ?_⟩
      rw [wdN, wdN, wdN_congr (d := upD d n) (e := d) (fun i hi => by simp [upD, hi]), hd]
      simp [upD]
    | true =>
      rcases wdN_up d n with ⟨h1, h2⟩ | ⟨k, hk, h0, h1, h2⟩
      · refine .inl ⟨fun i hi => ?_, ?_⟩
        · rcases Nat.lt_succ_iff_lt_or_eq.mp hi with h | rfl
          · exact h1 i h
          · exact hd
        · rw [wdN, hd, Nat.pow_succ, ← h2]
          simp; omega
      · refine .inr ⟨k, by omega, h0, fun i hi hn => ?_, ?_⟩
        · rcases Nat.lt_succ_iff_lt_or_eq.mp hn with h | rfl
          · exact h1 i hi h
          · exact hd
        · rw [wdN, wdN, h2, hd, show upD d k n = false by unfold upD; rw [if_neg (by omega)]; simp; omega]
          simp; omega
theorem hiA_N (v6 : Bool) (d : Nat → Bool) : hiA v6 d = (wdN (Dw v6 d) 64 : Nat) := by
  unfold hiA
  rw [wd_eq]
  rfl
theorem loA_N (v6 : Bool) (d : Nat → Bool) : loA v6 d = (wdN (fun i => Dw v6 d (64 + i)) 64 : Nat) := by
  unfold loA
  rw [wd_eq]
  rfl
theorem val6 (d : Nat → Bool) : (wdN d 128 : Int) = hiA true d * 18446744073709551616 + loA true d := by
  rw [hiA_N, loA_N, show (128 : Nat) = 64 + 64 from rfl, wdN_add]
  rw [wdN_congr (d := Dw true d) (e := d) (fun i hi => Dw_lt (by rw [W_t]; omega)), wdN_congr (d := fun i => Dw true d (64 + i)) (e := fun i => d (64 + i)) (fun i hi => Dw_lt (by rw [W_t]; omega)), Int.natCast_add, Int.natCast_mul, show ((2 ^ 64 : Nat) : Int) = 18446744073709551616 by decide]
theorem val4 (d : Nat → Bool) : (wdN d 32 : Int) * 4294967296 = hiA false d ∧ loA false d = 0 := by
  constructor
  · rw [hiA_N, show (64 : Nat) = 32 + 32 from rfl, wdN_add]
    rw [wdN_congr (d := Dw false d) (e := d) (fun i hi => Dw_lt (by rw [W_f]; omega)), wdN_zero (d := fun i => Dw false d (32 + i)) (fun i hi => Dw_ge (by rw [W_f]; omega)), Nat.add_zero, Int.natCast_mul, show ((2 ^ 32 : Nat) : Int) = 4294967296 by decide]
  · rw [loA_N, wdN_zero (fun i hi => Dw_ge (by rw [W_f]; omega))]
    rfl
theorem next_spec (hi lo : Int) (v6 : Bool) :
    (∃ k, k < W v6 ∧ D hi lo k = false ∧ (∀ i, k < i → i < W v6 → D hi lo i = true) ∧ nextA hi lo v6 = (hiA v6 (upD (D hi lo) k), loA v6 (upD (D hi lo) k), v6, true)) ∨
    ((∀ i, i < W v6 → D hi lo i = true) ∧ nextA hi lo v6 = (hiA v6 (D hi lo), loA v6 (D hi lo), v6, false)) := by
  generalize hd : D hi lo = d
  unfold nextA
  rw [hd]
  cases v6 with
  | true =>
    have hv := val6 d
    have ⟨a0, a1⟩ := u_hiA true d
    have ⟨b0, b1⟩ := u_loA true d
    rcases wdN_up d 128 with ⟨h1, h2⟩ | ⟨k, hk, h0, h1, h2⟩
    · refine .inr ⟨h1, ?_⟩
      have h3 : (2 : Nat) ^ 128 = 340282366920938463463374607431768211456 := by decide
      rw [h3] at h2
      rw [if_pos rfl, if_neg (by omega), if_neg (by omega)]
    · refine .inl ⟨k, hk, h0, h1, ?_⟩
      have hu := val6 (upD d k)
      have ⟨c0, c1⟩ := u_hiA true (upD d k)
      have ⟨e0, e1⟩ := u_loA true (upD d k)
      rw [h2] at hu
      push_cast at hu
      rw [hv] at hu
      clear hv h2
      rw [if_pos rfl]
      split
      · refine Prod.ext ?_ (Prod.ext ?_ rfl)
        · show hiA true d = hiA true (upD d k)
          omega
        · show loA true d + 1 = loA true (upD d k)
          omega
      · rw [if_pos (by omega)]
        refine Prod.ext ?_ (Prod.ext ?_ rfl)
        · show hiA true d + 1 = hiA true (upD d k)
          omega
        · show (0 : Int) = loA true (upD d k)
          omega
  | false =>
    have ⟨hv, hz⟩ := val4 d
    rcases wdN_up d 32 with ⟨h1, h2⟩ | ⟨k, hk, h0, h1, h2⟩
    · refine .inr ⟨h1, ?_⟩
      have h3 : (2 : Nat) ^ 32 = 4294967296 := by decide
      rw [h3] at h2
      rw [if_neg (by decide), if_neg (by omega)]
    · refine .inl ⟨k, hk, h0, h1, ?_⟩
      have ⟨hu, hy⟩ := val4 (upD d k)
      have ⟨c0, c1⟩ := u_hiA false (upD d k)
      rw [h2] at hu
      push_cast at hu
      rw [if_neg (by decide), if_pos (by omega)]
      refine Prod.ext ?_ (Prod.ext ?_ rfl)
      · show hiA false d + 4294967296 = hiA false (upD d k)
        omega
      · exact hy.symm
end Go.Proofs.Ytbaeaiiohkfieaa.Hand
