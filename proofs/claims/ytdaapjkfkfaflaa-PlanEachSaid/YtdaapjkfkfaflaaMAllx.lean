-- written by a program of this session's (wip/myprint.py) over the kit's print.py
import Derived.Test.YtdaapjkfkfaflaaMAllx0
import Derived.Test.YtdaapjkfkfaflaaMAllx1
import Derived.Test.YtdaapjkfkfaflaaMAllx2
import Derived.Test.YtdaapjkfkfaflaaMAllx3
import Derived.Test.YtdaapjkfkfaflaaMAllx4
import Derived.Test.YtdaapjkfkfaflaaMAllx5
namespace Go.Proofs.Ytdaapjkfkfaflaa.MAll
open Go.RowKit Go.Proofs.YtdaapjkfkfaflaaW.PrintWords Go.Proofs.YtdaapjkfkfaflaaW.PrintLast Go.Proofs.YtdaapjkfkfaflaaW.PrintMore
attribute [local go_sem] max2_int min2_int max_two min_two max_three min_three max_four min_four   -- for this text's walks alone
set_option linter.unusedVariables false
set_option linter.unusedSimpArgs false

end Go.Proofs.Ytdaapjkfkfaflaa.MAll
