-- Written by a program of this session (wip/tools/pp.py drives the kit's print with hand-proved contracts); Lean checks it.
import Derived.Test.YtbaeaiiohkfieaaPCx0
namespace Go.Proofs.Ytbaeaiiohkfieaa.PC
open Go.RowKit Go.Proofs.Ytbaeaiiohkfieaa.Hand Go.Proofs.YtbaeaiiohkfieaaW.PrintWords Go.Proofs.YtbaeaiiohkfieaaW.PrintLast Go.Proofs.YtbaeaiiohkfieaaW.PrintMore
attribute [local go_sem] max2_int min2_int max_two min_two max_three min_three max_four min_four   -- for this text's walks alone
set_option linter.unusedVariables false
set_option linter.unusedSimpArgs false

noncomputable section
-- GIVEN: function 21 (addr_Width)

-- GIVEN: function 46 (addr_read)

-- GIVEN: function 52 (cmp_Or_int)

-- GIVEN: function 53 (cmp_Compare_int)

-- GIVEN: function 54 (cmp_Compare_uint64)

end
end Go.Proofs.Ytbaeaiiohkfieaa.PC
