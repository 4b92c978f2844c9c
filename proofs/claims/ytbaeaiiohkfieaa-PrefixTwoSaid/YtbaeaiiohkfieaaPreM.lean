/-
  Plain laws on prefixes told by digits.
-/
import Derived.Test.YtbaeaiiohkfieaaPreO
import Derived.Test.YtbaeaiiohkfieaaVal
import Derived.Test.YtbaeaiiohkfieaaLawA
namespace Go.Proofs.Ytbaeaiiohkfieaa.Hand
open Go.RowKit Go.Proofs.YtbaeaiiohkfieaaW.PrintWords Go.Proofs.YtbaeaiiohkfieaaW.PrintLast Go.Proofs.Ytbaeaiiohkfieaa.Bits Go.Proofs.Ytbaeaiiohkfieaa.Dig
set_option linter.unusedVariables false
set_option linter.unusedSimpArgs false

theorem Of_f {a0 a1 : Int} (h : u64 a0 ∧ u64 a1) (v : Bool) (n : Int) : prefix_Of.f a0 a1 v n = some (hiA v (cutd (D a0 a1) (clampW v n)), loA v (cutd (D a0 a1) (clampW v n)), v, ((clampW v n : Nat) : Int)) := by
  unfold prefix_Of.f
  rw [gd_pos h]
/-- A prefix that may be. -/
def saneP (a0 a1 : Int) (v : Bool) (n : Int) : Prop := ∃ c : Nat, c ≤ W v ∧ n = c ∧ a0 = hiA v (cutd (D a0 a1) c) ∧ a1 = loA v (cutd (D a0 a1) c)
noncomputable instance (a0 a1 : Int) (v : Bool) (n : Int) : Decidable (saneP a0 a1 v n) := Classical.propDecidable _
theorem D_cut (v : Bool) (d : Nat → Bool) (c : Nat) (i : Nat) (h : i < W v) : D (hiA v (cutd d c)) (loA v (cutd d c)) i = cutd d c i := by rw [D_mk, decide_eq_true h, Bool.true_and]
theorem cut_cut (v : Bool) (d : Nat → Bool) (c k : Nat) (h : k ≤ c) : hiA v (cutd (D (hiA v (cutd d c)) (loA v (cutd d c))) k) = hiA v (cutd d k) ∧ loA v (cutd (D (hiA v (cutd d c)) (loA v (cutd d c))) k) = loA v (cutd d k) := by
  have e : ∀ i, i < W v → cutd (D (hiA v (cutd d c)) (loA v (cutd d c))) k i = cutd d k i := fun i hi => by
    by_cases hk : i < k
    · rw [cutd_lt hk, cutd_lt hk, D_cut v d c i hi, cutd_lt (by omega)]
    · rw [cutd_ge (by omega), cutd_ge (by omega)]
  exact ⟨hi_congr e, lo_congr e⟩
theorem saneP_pk (v : Bool) (d : Nat → Bool) (c : Nat) (h : c ≤ W v) : saneP (hiA v (cutd d c)) (loA v (cutd d c)) v c := by
  have e := cut_cut v d c c (Nat.le_refl _)
  exact ⟨c, h, rfl, e.1.symm, e.2.symm⟩
/-- Are they of one kind, and the first c digits alike? -/
noncomputable def conD (v : Bool) (d : Nat → Bool) (c : Nat) (u : Bool) (e : Nat → Bool) : Bool := @decide (v = u ∧ ∀ i, i < c → d i = e i) (Classical.propDecidable _)
theorem conD_true {v : Bool} {d : Nat → Bool} {c : Nat} {u : Bool} {e : Nat → Bool} : conD v d c u e = true ↔ v = u ∧ ∀ i, i < c → d i = e i := by unfold conD; exact @decide_eq_true_iff _ (Classical.propDecidable _)
theorem conD_congr {v : Bool} {d : Nat → Bool} {c : Nat} {u : Bool} {e e' : Nat → Bool} (h : v = u → ∀ i, i < c → e i = e' i) : conD v d c u e = conD v d c u e' := by
  rw [Bool.eq_iff_iff, conD_true, conD_true]
  exact ⟨fun ⟨h1, h2⟩ => ⟨h1, fun i hi => (h2 i hi).trans (h h1 i hi)⟩, fun ⟨h1, h2⟩ => ⟨h1, fun i hi => (h2 i hi).trans (h h1 i hi).symm⟩⟩
theorem eq_pk (v : Bool) (d : Nat → Bool) (c : Nat) (hc : c ≤ W v) (u : Bool) (e : Nat → Bool) : ((hiA v (cutd d c) == hiA u (cutd e (clampW u (c : Int))) && (loA v (cutd d c) == loA u (cutd e (clampW u (c : Int))) && (v == u))) && ((c : Int) == ((clampW u (c : Int) : Nat) : Int))) = conD v d c u e := by
  rw [Bool.eq_iff_iff, conD_true]
  simp only [Bool.and_eq_true, beq_iff_eq]
  constructor
  · rintro ⟨⟨h1, h2, rfl⟩, h3⟩
    rw [clampW_in hc] at h1 h2
    refine ⟨rfl, fun i hi => ?_⟩
    have := mk_inj h1 h2 i (by omega)
    rwa [cutd_lt hi, cutd_lt hi] at this
  · rintro ⟨rfl, h⟩
    rw [clampW_in hc]
    have k : ∀ i, i < W v → cutd d c i = cutd e c i := fun i _ => by
      by_cases hi : i < c
      · rw [cutd_lt hi, cutd_lt hi, h i hi]
      · rw [cutd_ge (by omega), cutd_ge (by omega)]
    exact ⟨⟨hi_congr k, lo_congr k, rfl⟩, rfl⟩
theorem conD_self (v : Bool) (d : Nat → Bool) (c : Nat) : conD v d c v d = true := conD_true.mpr ⟨rfl, fun _ _ => rfl⟩
/-- Are two prefixes told by digits one? -/
theorem ne_pk {v : Bool} {d : Nat → Bool} {c : Nat} {u : Bool} {e : Nat → Bool} {m : Nat} (hc : c ≤ W v) (hm : m ≤ W u) : ((!(hiA v (cutd d c) == hiA u (cutd e m)) || (!(loA v (cutd d c) == loA u (cutd e m)) || (!(v == u)))) || (!((c : Int) == (m : Int)))) = !(decide (c = m) && conD v d c u e) := by
  rw [← Bool.not_inj_iff]
  simp only [Bool.not_or, Bool.not_not]
  rw [Bool.eq_iff_iff]
  simp only [Bool.and_eq_true, beq_iff_eq, decide_eq_true_iff, conD_true]
  constructor
  · rintro ⟨⟨h1, h2, rfl⟩, h3⟩
    obtain rfl : c = m := by omega
    refine ⟨rfl, rfl, fun i hi => ?_⟩
    have := mk_inj h1 h2 i (by omega)
    rwa [cutd_lt hi, cutd_lt hi] at this
  · rintro ⟨rfl, rfl, h⟩
    have k : ∀ i, i < W v → cutd d c i = cutd e c i := fun i _ => by
      by_cases hi : i < c
      · rw [cutd_lt hi, cutd_lt hi, h i hi]
      · rw [cutd_ge (by omega), cutd_ge (by omega)]
    exact ⟨⟨hi_congr k, lo_congr k, rfl⟩, rfl⟩
end Go.Proofs.Ytbaeaiiohkfieaa.Hand
