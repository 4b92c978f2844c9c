/-
  package trie: Under.
-/
import Derived.Test.YtfcffemglcgbnaaTl
namespace Go.Proofs.Ytfcffemglcgbnaa.Hand
open Go.RowKit Go.Proofs.Ytfcffemglcgbnaa.Bits Go.Proofs.Ytfcffemglcgbnaa.Dig Go.Proofs.Ytfcffemglcgbnaa.Sq
set_option linter.unusedVariables false
set_option linter.unusedSimpArgs false
set_option maxRecDepth 100000
set_option maxHeartbeats 2000000
theorem dig_snoc (q : List Bool) (b : Bool) : cutd (putd (digK q) q.length b) (q.length + 1) = digK (q ++ [b]) := funext fun i => by
  unfold cutd putd digK
  by_cases h : i < q.length
  · rw [decide_eq_true (by omega), if_neg (by omega), List.getD_eq_getElem?_getD, List.getD_eq_getElem?_getD, List.getElem?_append_left h, Bool.true_and]
  · by_cases h2 : i = q.length
    · subst h2
      simp
    · have e1 : decide (i < q.length + 1) = false := decide_eq_false (by omega)
      have e2 : (q ++ [b])[i]? = none := List.getElem?_eq_none (by rw [List.length_append, List.length_singleton]; omega)
      rw [e1, Bool.false_and, List.getD_eq_getElem?_getD, e2]
      rfl
theorem child_k {v : Bool} {q : List Bool} (hq : q.length < W v) (x : Int) : Cal Try.prog 110 [(pxK (v, q)).val, .int .i64 x] (.tuple #[(pxK (v, q ++ [setv x])).val, .bool true]) := by
  have h := child_pk v (digK q) q.length hq x
  rw [digK_cut, dig_snoc] at h
  have e : ((((q ++ [setv x]).length : Nat)) : Int) = ((q.length + 1 : Nat) : Int) := by simp
  unfold pxK
  dsimp only
  rw [e]
  exact h
end Go.Proofs.Ytfcffemglcgbnaa.Hand
