-- written by a program of this session's (wip/myprint.py) over the kit's print.py
import Derived.Test.YtefeklhdaafbbaaMAllx0
import Derived.Test.YtefeklhdaafbbaaMAllx1
import Derived.Test.YtefeklhdaafbbaaMAllx2
namespace Go.Proofs.Ytefeklhdaafbbaa.MAll
open Go.RowKit Go.Proofs.YtefeklhdaafbbaaW.PrintWords Go.Proofs.YtefeklhdaafbbaaW.PrintLast Go.Proofs.YtefeklhdaafbbaaW.PrintMore
attribute [local go_sem] max2_int min2_int max_two min_two max_three min_three max_four min_four   -- for this text's walks alone
set_option linter.unusedVariables false
set_option linter.unusedSimpArgs false

end Go.Proofs.Ytefeklhdaafbbaa.MAll
