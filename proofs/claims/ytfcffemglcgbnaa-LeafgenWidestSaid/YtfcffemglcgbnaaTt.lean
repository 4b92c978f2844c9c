/-
  kedgelaw05: what its laws lean on.
-/
import Derived.Test.YtfcffemglcgbnaaTs
import Derived.Test.YtfcffemglcgbnaaPd
namespace Go.Proofs.Ytfcffemglcgbnaa.Hand
open Go.RowKit Go.Proofs.Ytfcffemglcgbnaa.Bits Go.Proofs.Ytfcffemglcgbnaa.Dig Go.Proofs.Ytfcffemglcgbnaa.Sq
set_option linter.unusedVariables false
set_option linter.unusedSimpArgs false
set_option maxRecDepth 100000
set_option maxHeartbeats 1000000
def zeroPx (v : Bool) : Px := ⟨⟨0, 0, v⟩, 0⟩
theorem zeroD (i : Nat) : D 0 0 i = false := by unfold D; split <;> (try split) <;> simp
theorem zeroPx_sane (v : Bool) : sanB (zeroPx v) = true := by
  refine saneB_iff.2 ⟨?_, Int.le_refl 0, Int.natCast_nonneg _, fun i _ _ => zeroD i⟩
  cases v
  · exact (sane4 ⟨by decide, by decide⟩).2 fun i _ _ => zeroD i
  · exact ⟨(hi_v6 (by decide)).symm, (lo_v6 (by decide)).symm⟩
theorem zeroPx_key (v : Bool) : keyP (zeroPx v) = (v, []) := rfl
end Go.Proofs.Ytfcffemglcgbnaa.Hand
