/-
  CoverLeaves.
-/
import Derived.Test.YtfcffemglcgbnaaCc
namespace Go.Proofs.Ytfcffemglcgbnaa.Hand
open Go.RowKit Go.Proofs.Ytfcffemglcgbnaa.Bits Go.Proofs.Ytfcffemglcgbnaa.Dig Go.Proofs.Ytfcffemglcgbnaa.Sq
set_option linter.unusedVariables false
set_option linter.unusedSimpArgs false
set_option maxRecDepth 100000
set_option maxHeartbeats 8000000
theorem pcs_mem {L : List Pr} (hg : GoodL L) {v : Bool} : ∀ (k : Nat) (q0 : List Bool), q0.length + k = W v → ∀ x ∈ pcsK L v k q0, ∃ q : List Bool, q0 <+: q ∧ q.length ≤ W v ∧ x = pieceN L (pxK (v, q)) ∧ insN L (pxK (v, q)) = false ∧ (q = q0 ∨ (∃ q1 b, q = q1 ++ [b] ∧ insN L (pxK (v, q1)) = true))
  | 0, q0, h, x, hx => by
    rw [pcsK] at hx
    obtain rfl := List.mem_singleton.1 hx
    exact ⟨q0, List.prefix_refl _, by omega, rfl, insK_full hg (by omega), .inl rfl⟩
  | k + 1, q0, h, x, hx => by
    rw [pcsK] at hx
    split at hx
    · rename_i hi
      have step : ∀ b : Bool, x ∈ pcsK L v k (q0 ++ [b]) → _ := fun b hb => pcs_mem hg k (q0 ++ [b]) (by rw [List.length_append, List.length_singleton]; omega) x hb
      have fin : ∀ b : Bool, x ∈ pcsK L v k (q0 ++ [b]) → ∃ q : List Bool, q0 <+: q ∧ q.length ≤ W v ∧ x = pieceN L (pxK (v, q)) ∧ insN L (pxK (v, q)) = false ∧ (q = q0 ∨ (∃ q1 b, q = q1 ++ [b] ∧ insN L (pxK (v, q1)) = true)) := fun b hb => by
        obtain ⟨q, h1, h2, h3, h4, h5⟩ := step b hb
        refine ⟨q, (List.prefix_append _ _).trans h1, h2, h3, h4, .inr ?_⟩
        rcases h5 with rfl | h5
        · exact ⟨q0, b, rfl, hi⟩
        · exact h5
      rcases List.mem_append.1 hx with hx | hx
      · exact fin _ hx
      · exact fin _ hx
    · rename_i hi
      obtain rfl := List.mem_singleton.1 hx
      exact ⟨q0, List.prefix_refl _, by omega, rfl, by simpa using hi, .inl rfl⟩
theorem blk_first {L : List Pr} {p : Px} (hs : sanB p = true) (hi : insN L p = false) : cvB (blkP L p.a) p = true := by
  obtain ⟨q1, q2, q3⟩ := con_ofP (con_first hs)
  have h9 := ofP_cov (no_blk (L := L) (a := p.a) (c := p.n.toNat) (by rw [← q2]; exact hi)) q1
  rw [← q2] at h9
  exact h9
theorem pcs_leaf {L : List Pr} (hg : GoodL L) {p : Px} {x : P8} (hx : x ∈ pcsN L p) : x.p.a.wf ∧ (leafX L (blkP L x.p.a)).2 = x.ok ∧ (leafX L (blkP L x.p.a)).1.v = x.v ∧ (x.p = blkP L x.p.a ∨ (x.p = p ∧ cvB (blkP L x.p.a) p = true)) := by
  unfold pcsN at hx
  split at hx
  · rename_i hs
    have hk := key_le hs
    obtain ⟨q, h1, h2, rfl, h4, h5⟩ := pcs_mem hg _ _ (by omega) x hx
    generalize hv : (keyP p).1 = v at *
    have hsx := sanB_pxK (k := (v, q)) h2
    have hgb := (gov_con hg (blk_con L (pxK (v, q)).a) (blk_no L (pxK (v, q)).a)).trans (gov_con hg (con_first hsx) h4).symm
    refine ⟨pxK_wf _, ?_, ?_, ?_⟩
    · rw [leafX_ok]; unfold pieceN; rw [hgb]
    · rw [leafX_v]; unfold pieceN; rw [hgb]
    · unfold pieceN
      dsimp only
      have hcv := blk_first hsx h4
      rcases h5 with rfl | ⟨q1, b, rfl, hi⟩
      · right
        have : pxK (v, (keyP p).2) = p := by rw [← hv]; exact pxK_keyP hs
        rw [this] at hcv ⊢
        exact ⟨rfl, hcv⟩
      · left
        refine cv_anti ?_ hcv
        obtain ⟨c1, c2, c3⟩ := con_ofP (con_first hsx)
        have hlen : (pxK (v, q1 ++ [b])).n.toNat = q1.length + 1 := by show (((q1 ++ [b]).length : Nat) : Int).toNat = _; rw [Int.toNat_natCast, List.length_append, List.length_singleton]
        have hpar : pxK (v, q1) = ofP (pxK (v, q1 ++ [b])).a q1.length := by
          have hl1 : q1.length ≤ W v := by rw [List.length_append, List.length_singleton] at h2; omega
          refine key_inj (sanB_pxK (k := (v, q1)) hl1) (ofP_sane hl1) ?_
          rw [keyP_pxK (k := (v, q1)) hl1, ofP_key (show q1.length ≤ W (pxK (v, q1 ++ [b])).a.v6 from hl1)]
          refine Prod.ext rfl ?_
          have hk2 := congrArg Prod.snd (keyP_pxK (k := (v, q1 ++ [b])) h2)
          unfold keyP at hk2
          dsimp only at hk2
          rw [hlen, pth_succ] at hk2
          exact (List.append_inj_left' hk2 rfl).symm
        have hlt : q1.length < blkN L (pxK (v, q1 ++ [b])).a := by
          refine Nat.lt_of_not_le fun hle => ?_
          have := ins_down (ofP_cov hle (by rw [hlen] at c1; omega)) (blk_no L (pxK (v, q1 ++ [b])).a)
          rw [← hpar, hi] at this
          cases this
        have h9 := ofP_cov (a := (pxK (v, q1 ++ [b])).a) (c := (pxK (v, q1 ++ [b])).n.toNat) (by rw [hlen]; exact hlt) (blk_le L (pxK (v, q1 ++ [b])).a)
        rw [← c2] at h9
        exact h9
  · cases hx
end Go.Proofs.Ytfcffemglcgbnaa.Hand
