/-
  package trie: prune, Del.
-/
import Derived.Test.YtfcffemglcgbnaaTq
namespace Go.Proofs.Ytfcffemglcgbnaa.Hand
open Go.RowKit Go.Proofs.Ytfcffemglcgbnaa.Bits Go.Proofs.Ytfcffemglcgbnaa.Dig Go.Proofs.Ytfcffemglcgbnaa.Sq
set_option linter.unusedVariables false
set_option linter.unusedSimpArgs false
set_option maxRecDepth 100000
set_option maxHeartbeats 2000000
theorem tm_tv {g : Nat} {T : Ts} {Aa : Option Addr} {ca : Nat} {Af : Option Addr} {cf : Nat} (w : World) (hw : ∀ u ∈ tM g T Aa ca Af cf, u.ok w) : ∀ u ∈ tv g T Aa ca Af cf, u.ok w := fun u hu => by
  simp only [List.mem_cons, List.not_mem_nil, or_false] at hu hw
  rcases hu with rfl | rfl | rfl
  · exact blk_reads (hw _ (.inl rfl)) (fun v hv => by simp only [List.mem_cons, List.not_mem_nil, or_false] at hv; rcases hv with rfl | rfl | rfl <;> rfl)
  · exact Owns.reads (hw _ (.inr (.inl rfl)))
  · exact Owns.reads (hw _ (.inr (.inr rfl)))
theorem fr_len {T : Ts} {lab : Lab} {L : List Pr} {xk : Key} (h : InvX T lab L xk) : T.fr.length ≤ T.ar.length := by
  have := nodup_len (m := List.range T.ar.length) h.nodup fun z hz => List.mem_range.2 ((h.free z).1 hz).1
  rwa [List.length_range] at this
end Go.Proofs.Ytfcffemglcgbnaa.Hand
