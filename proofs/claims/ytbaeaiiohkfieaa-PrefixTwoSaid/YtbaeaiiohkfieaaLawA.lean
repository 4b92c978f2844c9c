/-
  Plain laws on the answers of package addr's functions: each as digits. No Go memory.
-/
import Derived.Test.YtbaeaiiohkfieaaAddrG
namespace Go.Proofs.Ytbaeaiiohkfieaa.Hand
open Go.RowKit Go.Proofs.YtbaeaiiohkfieaaW.PrintWords Go.Proofs.Ytbaeaiiohkfieaa.Bits Go.Proofs.Ytbaeaiiohkfieaa.Dig
set_option linter.unusedVariables false

theorem u_mk (v6 : Bool) (d : Nat → Bool) : u64 (hiA v6 d) ∧ u64 (loA v6 d) := ⟨u_hiA v6 d, u_loA v6 d⟩
theorem setv_bitI (b : Bool) : setv (bitI b) = b := by cases b <;> decide
theorem Set_mk (v6 : Bool) (d : Nat → Bool) (i v : Int) : addr_Set.f (hiA v6 d) (loA v6 d) v6 i v = some (mkA v6 fun j => if (j : Int) = i then setv v else d j) := by
  unfold addr_Set.f
  rw [gd_pos (u_mk v6 d)]
  congr 1
  refine mk_congr (fun j hj => ?_)
  unfold setA
  split
  · unfold setD
    split
    · rfl
    · rw [D_mk]; simp [hj]
  · rename_i h
    have : ¬ ((j : Int) = i) := by
      intro e
      apply h
      unfold isI
      rw [decide_eq_true_eq]
      omega
    rw [if_neg this, D_mk]; simp [hj]
theorem Set_f {hi lo : Int} (h : u64 hi ∧ u64 lo) (v6 : Bool) (i v : Int) : addr_Set.f hi lo v6 i v = some (mkA v6 fun j => if (j : Int) = i then setv v else D hi lo j) := by
  unfold addr_Set.f
  rw [gd_pos h]
  congr 1
  refine mk_congr (fun j hj => ?_)
  unfold setA
  split
  · rfl
  · rename_i h
    have : ¬ ((j : Int) = i) := by
      intro e
      apply h
      unfold isI
      rw [decide_eq_true_eq]
      omega
    rw [if_neg this]
theorem Mask_f {hi lo : Int} (h : u64 hi ∧ u64 lo) (v6 : Bool) (n : Int) : addr_Mask.f hi lo v6 n = some (mkA v6 fun j => decide ((j : Int) < n) && D hi lo j) := by unfold addr_Mask.f; rw [gd_pos h]; rfl
theorem Fill_f {hi lo : Int} (h : u64 hi ∧ u64 lo) (v6 : Bool) (n : Int) : addr_Fill.f hi lo v6 n = some (mkA v6 fun j => decide (n ≤ (j : Int)) || D hi lo j) := by unfold addr_Fill.f; rw [gd_pos h]; rfl
theorem Mask_mk (v6 : Bool) (d : Nat → Bool) (n : Int) : addr_Mask.f (hiA v6 d) (loA v6 d) v6 n = some (mkA v6 fun j => decide ((j : Int) < n) && d j) := by
  rw [Mask_f (u_mk v6 d)]
  congr 1
  refine mk_congr (fun j hj => ?_)
  rw [D_mk]; simp [hj]
theorem Fill_mk (v6 : Bool) (d : Nat → Bool) (n : Int) : addr_Fill.f (hiA v6 d) (loA v6 d) v6 n = some (mkA v6 fun j => decide (n ≤ (j : Int)) || d j) := by
  rw [Fill_f (u_mk v6 d)]
  congr 1
  refine mk_congr (fun j hj => ?_)
  rw [D_mk]; simp [hj]
theorem Bit_f {hi lo : Int} (h : u64 hi ∧ u64 lo) (v6 : Bool) (i : Int) : addr_Bit.f hi lo v6 i = some (bitI (bitA hi lo v6 i)) := by unfold addr_Bit.f; rw [gd_pos h]
theorem bitA_at (hi lo : Int) (v6 : Bool) (i : Nat) : bitA hi lo v6 i = (decide (i < W v6) && D hi lo i) := by
  unfold bitA isI
  rw [Int.toNat_natCast]
  congr 1
  rw [decide_eq_decide]; omega
theorem bitA_mk (v6 : Bool) (d : Nat → Bool) (i : Nat) : bitA (hiA v6 d) (loA v6 d) v6 i = (decide (i < W v6) && d i) := by
  rw [bitA_at, D_mk, ← Bool.and_assoc, Bool.and_self]
theorem Sane_f {hi lo : Int} (h : u64 hi ∧ u64 lo) (v6 : Bool) : addr_Sane.f hi lo v6 = some (decide (sane hi lo v6)) := by unfold addr_Sane.f; rw [gd_pos h]
theorem eq3 (a b : Int) (x : Bool) : (a == a && (b == b && (x == x))) = true := by simp
/-- '==' of an address and one out of digits. -/
theorem eq3_mk {v6 : Bool} {d e : Nat → Bool} (h : ∀ i, i < W v6 → d i = e i) : (hiA v6 d == hiA v6 e && (loA v6 d == loA v6 e && (v6 == v6))) = true := by
  rw [hi_congr h, lo_congr h]; simp
theorem u_zero : u64 0 ∧ u64 0 := by decide
theorem D_zero (j : Nat) : D 0 0 j = false := by
  unfold D
  simp
theorem zero_mk (v6 : Bool) : hiA v6 (fun _ => false) = 0 ∧ loA v6 (fun _ => false) = 0 := by
  have e : ∀ d : Nat → Bool, (∀ i, i < 64 → d i = false) → ((wd d : Nat) : Int) = 0 := by
    intro d h
    rw [show wd d = 0 from word_ext (wd_lt d) (by decide) (fun j hj => by rw [testBit_wd, h _ (by omega)]; simp)]
    rfl
  unfold hiA loA
  exact ⟨e _ (fun i _ => by simp), e _ (fun i _ => by simp)⟩
/-! ### From -/
theorem fr4 (l : List Int) : frH l 4 = hiA false (byD l) ∧ frL l 4 = loA false (byD l) := by
  unfold frH frL hiA loA
  exact ⟨rfl, rfl⟩
theorem fr16 (l : List Int) : frH l 16 = hiA true (byD l) ∧ frL l 16 = loA true (byD l) := by
  unfold frH frL hiA loA
  exact ⟨rfl, rfl⟩
theorem From_f (l : List Int) (v6 : Bool) (hl : l.length = if v6 then 16 else 4) (h : ∀ i : Nat, i < l.length → 0 ≤ rd l i ∧ rd l i < 256) : addr_From.f l = some (hiA v6 (byD l), loA v6 (byD l), v6, 0) := by
  unfold addr_From.f
  cases v6 with
  | false =>
    have hl : l.length = 4 := by simpa using hl
    rw [if_pos (Or.inl hl), gd_pos h, hl, (fr4 l).1, (fr4 l).2]
    rfl
  | true =>
    have hl : l.length = 16 := by simpa using hl
    rw [if_pos (Or.inr hl), gd_pos h, hl, (fr16 l).1, (fr16 l).2]
    rfl
theorem From_no (l : List Int) (h4 : l.length ≠ 4) (h16 : l.length ≠ 16) : addr_From.f l = some (0, 0, false, 4) := by
  unfold addr_From.f
  rw [if_neg (by omega)]
end Go.Proofs.Ytbaeaiiohkfieaa.Hand
