/-
  The document's trie: Del, Put.
-/
import Derived.Test.YtpopikomcnkhnaaTc
namespace Go.Proofs.Ytpopikomcnkhnaa.Hand
open Go.RowKit Go.Proofs.Ytpopikomcnkhnaa.Bits Go.Proofs.Ytpopikomcnkhnaa.Dig Go.Proofs.Ytpopikomcnkhnaa.Sq
set_option linter.unusedVariables false
set_option linter.unusedSimpArgs false
set_option maxRecDepth 100000
set_option maxHeartbeats 1000000
def outN (L : List Pr) (p : Px) : List Pr := L.filter fun e => !eqPx e.p p
noncomputable def putG (p : Px) (v : Int) : Bool → List Pr → List Pr
  | put, [] => if put then [] else [⟨p, v⟩]
  | put, x :: L => (if (decide (cmpP x.p p ≥ 0) && !put) = true then [⟨p, v⟩] else []) ++ ((if (cmpP x.p p != 0) = true then [x] else []) ++ putG p v (put || decide (cmpP x.p p ≥ 0)) L)
theorem putG_len {p : Px} {v : Int} : ∀ (L : List Pr) (put : Bool), (putG p v put L).length ≤ L.length + 1 ∧ (put = true → (putG p v put L).length ≤ L.length)
  | [], put => by unfold putG; cases put <;> simp
  | x :: L, put => by
    have h := putG_len (p := p) (v := v) L (put || decide (cmpP x.p p ≥ 0))
    rw [putG, List.length_append, List.length_append, List.length_cons]
    cases put with
    | true =>
      simp only [Bool.not_true, Bool.and_false, Bool.false_eq_true, if_false, List.length_nil, Bool.true_or] at h ⊢
      have := h.2 trivial
      split <;> simp <;> omega
    | false =>
      cases hd : decide (cmpP x.p p ≥ 0) with
      | true =>
        rw [hd] at h
        have := h.2 rfl
        simp only [Bool.not_false, Bool.and_self, if_true, List.length_singleton, Bool.false_or, reduceCtorEq, false_implies, and_true] at this ⊢
        split <;> simp <;> omega
      | false =>
        rw [hd] at h
        have := h.1
        simp only [Bool.false_and, Bool.false_eq_true, if_false, List.length_nil, Bool.false_or, reduceCtorEq, false_implies, and_true] at this ⊢
        split <;> simp <;> omega
noncomputable def putN (L : List Pr) (mo : Int) (p : Px) (v : Int) : List Pr × Int × Int := if sanB p = true then (putG p v false L, mx2 mo (nodesN (putG p v false L)), 0) else (L, mo, 1)
end Go.Proofs.Ytpopikomcnkhnaa.Hand
