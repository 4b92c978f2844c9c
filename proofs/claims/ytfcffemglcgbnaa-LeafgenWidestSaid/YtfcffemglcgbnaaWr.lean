/-
  The walks of the references of addresses and prefixes.
-/
import Derived.Test.YtfcffemglcgbnaaWp
namespace Go.Proofs.Ytfcffemglcgbnaa.Hand
open Go.RowKit Go.Proofs.Ytfcffemglcgbnaa.Bits Go.Proofs.Ytfcffemglcgbnaa.Dig Go.Proofs.Ytfcffemglcgbnaa.Sq
set_option linter.unusedVariables false
set_option linter.unusedSimpArgs false
set_option maxRecDepth 100000
set_option maxHeartbeats 1000000
theorem sane4 {a0 a1 : Int} (h : u64 a0 ∧ u64 a1) : sane a0 a1 false ↔ ∀ i, 32 ≤ i → i < 128 → D a0 a1 i = false := by
  constructor
  · intro hs i h1 h2
    exact sane_out hs (show W false ≤ i from h1)
  · intro k
    refine ⟨(hi_v6 (lo := a1) h.1).symm.trans ?_, (lo_v6 (hi := a0) h.2).symm.trans ?_⟩
    · unfold hiA
      rw [wd_congr (d := fun i => decide (i < W true) && D a0 a1 i) (e := fun i => decide (i < W false) && D a0 a1 i) fun i hi => ?_]
      rw [W_t, W_f, decide_eq_true (show i < 128 by omega), Bool.true_and]
      by_cases c : i < 32
      · rw [decide_eq_true c, Bool.true_and]
      · rw [k i (by omega) (by omega), Bool.and_false]
    · unfold loA
      rw [wd_congr (d := fun i => decide (64 + i < W true) && D a0 a1 (64 + i)) (e := fun i => decide (64 + i < W false) && D a0 a1 (64 + i)) fun i hi => ?_]
      rw [k (64 + i) (by omega) (by omega), Bool.and_false, Bool.and_false]
theorem saneB_iff {a0 a1 : Int} {v : Bool} {x : Int} : saneB a0 a1 v x = true ↔ sane a0 a1 v ∧ 0 ≤ x ∧ x ≤ ((W v : Nat) : Int) ∧ ∀ i : Nat, x ≤ (i : Int) → i < W v → D a0 a1 i = false := by
  constructor
  · intro h
    obtain ⟨c, hc, rfl, h0, h1⟩ := saneB_ex h
    refine ⟨?_, by omega, by omega, fun i h2 h3 => ?_⟩
    · have := sane_mk v (cutd (D a0 a1) c)
      rwa [← h0, ← h1] at this
    · have e0 := D_cut v (D a0 a1) c i h3
      rw [← h0, ← h1] at e0
      rw [e0, cutd_ge (by omega)]
  · rintro ⟨hs, h0, h1, h2⟩
    obtain ⟨c, rfl⟩ : ∃ c : Nat, x = (c : Int) := ⟨x.toNat, by omega⟩
    unfold saneB eqOf
    have e : ∀ i, i < W v → cutd (D a0 a1) c i = D a0 a1 i := fun i hi => by
      by_cases k : i < c
      · rw [cutd_lt k]
      · rw [cutd_ge (by omega), h2 i (by omega) hi]
    rw [clampW_in (by omega), hi_congr e, lo_congr e, ← hs.1, ← hs.2]
    simp
theorem covB_sane {a0 a1 b0 b1 : Int} {a2 : Bool} {a3 : Int} {b2 : Bool} {b3 : Int} (h : covB a0 a1 a2 a3 b0 b1 b2 b3 = true) : saneB a0 a1 a2 a3 = true ∧ saneB b0 b1 b2 b3 = true := by
  unfold covB contB at h
  simp only [Bool.and_eq_true] at h
  exact ⟨h.2.1, h.1.2⟩
end Go.Proofs.Ytfcffemglcgbnaa.Hand
