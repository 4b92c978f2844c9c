/-
  the reference's Same at equal queues; lengths.
-/
import Derived.Test.YtlmcfjadhahlpaaQi
namespace Go.Proofs.Ytlmcfjadhahlpaa.Hand
open Go.RowKit Go.Proofs.Ytlmcfjadhahlpaa.Bits Go.Proofs.Ytlmcfjadhahlpaa.Dig Go.Proofs.Ytlmcfjadhahlpaa.Sq
set_option linter.unusedVariables false
set_option linter.unusedSimpArgs false
set_option maxRecDepth 100000
set_option maxHeartbeats 1000000
theorem same_t (l : List En) (hl : l.length ≤ 100000000) (b : Int) (A : Option Addr) (c : Nat) (A2 : Option Addr) (c2 : Nat) :
    RCal Try.prog 24 [.agg #[.slice A l.length c, .int .i64 b], .agg #[.slice A2 l.length c2, .int .i64 b]] [.vw A c 9 (l.map En.cells), .vw A2 c2 9 (l.map En.cells)] (.bool true) := by
  have h := same_s l l hl b b A c A2 c2
  rwa [bP_t ⟨rfl, rfl⟩] at h
theorem offer_len (l : List En) (b : Int) (a : Ad) (x : Rt) : (offerN l b a x).1.length ≤ l.length + 1 := by
  unfold offerN
  split <;> (try split) <;> (try split) <;> simp
theorem nar_len (l : List En) (b : Int) (p : Px) : (narN l b p).1.length ≤ l.length + 1 := by
  unfold narN
  split <;> simp
theorem pick_len (l : List En) (b n : Int) : (pickN l b n).1.length ≤ l.length + 1 := by
  unfold pickN
  split <;> (try split) <;> simp [List.length_eraseIdx]
  split <;> omega
end Go.Proofs.Ytlmcfjadhahlpaa.Hand
