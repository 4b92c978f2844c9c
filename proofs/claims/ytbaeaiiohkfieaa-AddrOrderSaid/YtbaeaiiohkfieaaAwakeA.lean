/-
  kedgelaw01.awake answers true (out of the driver's printed walk, set W1).
-/
import Derived.Test.YtbaeaiiohkfieaaPW1x1
import Derived.Test.YtbaeaiiohkfieaaLawA
namespace Go.Proofs.Ytbaeaiiohkfieaa.Hand
open Go.RowKit Go.Proofs.YtbaeaiiohkfieaaW.PrintWords Go.Proofs.YtbaeaiiohkfieaaW.PrintLast Go.Proofs.Ytbaeaiiohkfieaa.Bits Go.Proofs.Ytbaeaiiohkfieaa.Dig
set_option linter.unusedVariables false
theorem awake01_f : PW1.kedgelaw01_awake.f 1 = some true := by
  unfold PW1.kedgelaw01_awake.f
  rw [From_f [192, 168, 0, 1] false rfl (by decide)]
  simp only [Option.bind_some, if_true]
  rw [Bit_f (u_mk _ _), Bit_f (u_mk _ _), Bit_f (u_mk _ _), Bit_f (u_mk _ _), Sane_f (u_mk _ _), decide_eq_true (sane_mk _ _)]
  rw [show bitA _ _ false 0 = true from (bitA_mk false (byD [192, 168, 0, 1]) 0).trans (by decide), show bitA _ _ false 1 = true from (bitA_mk false (byD [192, 168, 0, 1]) 1).trans (by decide),
    show bitA _ _ false 2 = false from (bitA_mk false (byD [192, 168, 0, 1]) 2).trans (by decide), show bitA _ _ false 31 = true from (bitA_mk false (byD [192, 168, 0, 1]) 31).trans (by decide)]
  rfl
def kedgelaw01_awake.f : Option Bool := some true
theorem kedgelaw01_awake.calls (r : Bool) (w : World) (h : kedgelaw01_awake.f = some r) : Calls Try.prog 14 #[] w fun e w' => e = .returned (.bool r) ∧ Below w.heap.size w w' := by
  obtain rfl := Option.some.inj h
  exact PW1.kedgelaw01_awake.calls 1 true w awake01_f
end Go.Proofs.Ytbaeaiiohkfieaa.Hand
