-- Written by a program of this session (wip/tools/pp.py drives the kit's print with hand-proved contracts); Lean checks it.
import Derived.Test.YtbaeaiiohkfieaaPW1x0
import Derived.Test.YtbaeaiiohkfieaaPW1x1
namespace Go.Proofs.Ytbaeaiiohkfieaa.PW1
open Go.RowKit Go.Proofs.Ytbaeaiiohkfieaa.Hand Go.Proofs.YtbaeaiiohkfieaaW.PrintWords Go.Proofs.YtbaeaiiohkfieaaW.PrintLast Go.Proofs.YtbaeaiiohkfieaaW.PrintMore
attribute [local go_sem] max2_int min2_int max_two min_two max_three min_three max_four min_four   -- for this text's walks alone
set_option linter.unusedVariables false
set_option linter.unusedSimpArgs false

noncomputable section
end
end Go.Proofs.Ytbaeaiiohkfieaa.PW1
