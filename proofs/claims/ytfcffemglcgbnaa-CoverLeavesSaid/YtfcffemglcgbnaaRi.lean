/-
  kedgelaw06: what so many acts leave; the document's example.
-/
import Derived.Test.YtfcffemglcgbnaaRh
import Derived.Test.YtfcffemglcgbnaaPd
namespace Go.Proofs.Ytfcffemglcgbnaa.Hand
open Go.RowKit Go.Proofs.Ytfcffemglcgbnaa.Bits Go.Proofs.Ytfcffemglcgbnaa.Dig Go.Proofs.Ytfcffemglcgbnaa.Sq
set_option linter.unusedVariables false
set_option linter.unusedSimpArgs false
set_option maxRecDepth 100000
set_option maxHeartbeats 1000000
theorem rnd_rng {L : List Pr} (hg : GoodL L) : 2 ≤ nodesN L ∧ nodesN L ≤ 2 + 128 * (L.length : Int) := ndT_rng L hg.sane L.length
structure RI (n : Nat) (L : List Pr) (mo N H : Int) : Prop where
  good : GoodL L
  len : L.length ≤ n
  hi : mo ≤ 2 + 128 * (n : Int)
  room : (L.length : Int) ≤ N
  hops : (hopsN L : Int) ≤ H
  hop : ∀ e ∈ L, 0 ≤ e.v ∧ e.v ≤ 65535
theorem ri_zero {N H : Int} (hN : 0 ≤ N) (hH : 0 ≤ H) : RI 0 [] 2 N H := ⟨GoodL.nil, Nat.le_refl _, by decide, hN, hH, fun _ h => by cases h⟩
theorem RI.more {n : Nat} {L : List Pr} {mo N H : Int} (h : RI n L mo N H) : RI (n + 1) L mo N H := ⟨h.good, by have := h.len; omega, by have := h.hi; omega, h.room, h.hops, h.hop⟩
theorem add_ri {n : Nat} {L : List Pr} {mo N H : Int} (h : RI n L mo N H) (p : Px) (hop : Int) : RI (n + 1) (addN L mo N H p hop).1 (addN L mo N H p hop).2.1 N H := by
  unfold addN
  split
  · rename_i hs
    split
    · rename_i hh
      split
      · rename_i hf
        have hf' := of_decide_eq_true hf
        obtain ⟨h1, h2⟩ := put_spec (v := hop) hs h.good
        have hl := put_len h.good hs hop
        have ho : (outN L p).length ≤ L.length := List.length_filter_le _ _
        have hr := rnd_rng h1
        have := h.len
        have := h.hi
        refine ⟨h1, by dsimp only; omega, ?_, hf'.1, hf'.2, fun e he => ?_⟩
        · dsimp only; unfold mx2; split <;> omega
        · rcases (h2 e).1 he with rfl | ⟨q, _⟩
          · exact hh
          · exact h.hop e q
      · exact h.more
    · exact h.more
  · exact h.more
theorem put_nil {p : Px} (v : Int) : putG p v false [] = [⟨p, v⟩] := by rw [putG, if_neg (by decide)]
theorem one_good {p : Px} (hs : sanB p = true) (v : Int) : GoodL [⟨p, v⟩] := ⟨fun e he => by obtain rfl := List.mem_singleton.1 he; exact hs, List.pairwise_singleton _ _⟩
end Go.Proofs.Ytfcffemglcgbnaa.Hand
