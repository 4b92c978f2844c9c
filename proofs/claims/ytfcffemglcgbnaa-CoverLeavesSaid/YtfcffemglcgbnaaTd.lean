/-
  The document's trie: Del, Put.
-/
import Derived.Test.YtfcffemglcgbnaaTc
namespace Go.Proofs.Ytfcffemglcgbnaa.Hand
open Go.RowKit Go.Proofs.Ytfcffemglcgbnaa.Bits Go.Proofs.Ytfcffemglcgbnaa.Dig Go.Proofs.Ytfcffemglcgbnaa.Sq
set_option linter.unusedVariables false
set_option linter.unusedSimpArgs false
set_option maxRecDepth 100000
set_option maxHeartbeats 1000000
def outN (L : List Pr) (p : Px) : List Pr := L.filter fun e => !eqPx e.p p
noncomputable def putG (p : Px) (v : Int) : Bool → List Pr → List Pr
  | put, [] => if put then [] else [⟨p, v⟩]
  | put, x :: L => (if (decide (cmpP x.p p ≥ 0) && !put) = true then [⟨p, v⟩] else []) ++ ((if (cmpP x.p p != 0) = true then [x] else []) ++ putG p v (put || decide (cmpP x.p p ≥ 0)) L)
noncomputable def putN (L : List Pr) (mo : Int) (p : Px) (v : Int) : List Pr × Int × Int := if sanB p = true then (putG p v false L, mx2 mo (nodesN (putG p v false L)), 0) else (L, mo, 1)
end Go.Proofs.Ytfcffemglcgbnaa.Hand
