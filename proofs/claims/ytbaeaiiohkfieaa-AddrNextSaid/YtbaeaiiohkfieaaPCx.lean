-- Written by a program of this session (wip/tools/pp.py drives the kit's print with hand-proved contracts); Lean checks it.
import Derived.Test.YtbaeaiiohkfieaaPCx0
import Derived.Test.YtbaeaiiohkfieaaPCx1
import Derived.Test.YtbaeaiiohkfieaaPCx2
import Derived.Test.YtbaeaiiohkfieaaPCx3
import Derived.Test.YtbaeaiiohkfieaaPCx4
namespace Go.Proofs.Ytbaeaiiohkfieaa.PC
open Go.RowKit Go.Proofs.Ytbaeaiiohkfieaa.Hand Go.Proofs.YtbaeaiiohkfieaaW.PrintWords Go.Proofs.YtbaeaiiohkfieaaW.PrintLast Go.Proofs.YtbaeaiiohkfieaaW.PrintMore
attribute [local go_sem] max2_int min2_int max_two min_two max_three min_three max_four min_four   -- for this text's walks alone
set_option linter.unusedVariables false
set_option linter.unusedSimpArgs false

noncomputable section
end
end Go.Proofs.Ytbaeaiiohkfieaa.PC
