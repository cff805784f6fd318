-- written by a program of this session's (wip/myprint.py) over the kit's print.py
import Derived.Test.YtdaapjkfkfaflaaProg
import Derived.Below
import Derived.Deep.Draws
import Derived.Deep.AppendLies
import Derived.Maps.AppendAt
import Derived.OwnWalk
import Derived.Laws.BytesArg
import Derived.Laws.MakeOwn
import Derived.Laws.OwnMore
import Derived.Deep.OwnRows
import Derived.Tactics
import Derived.Lib.ConvBytes
import Derived.Laws.Slices
import Derived.WalkKit
import Derived.KernelRfl
import Derived.RowKit3
import Derived.Deep.LoopGhost
import Derived.Deep.QuietTactic
import Derived.BigQuiet
import Derived.WideLaws
import Derived.Deep.DeepCutAuto
import Derived.Deep.CutBlock
import Derived.Deep.RegionHeld3
import Derived.Laws.Rows
import Derived.Lib.AppendStr
import Derived.ArgAppend
import Derived.Laws.IdiomCopy
import Derived.OrdersHeld
import Derived.Laws.BitsLemmas
import Derived.RowKit
import Derived.Lib.SliceRun
import Derived.Test.YtdaapjkfkfaflaaErr
import Derived.Test.YtdaapjkfkfaflaaKit
import Derived.Test.YtdaapjkfkfaflaaWWords
import Derived.Test.YtdaapjkfkfaflaaWLast
import Derived.Test.YtdaapjkfkfaflaaWTab
import Derived.Test.YtdaapjkfkfaflaaWFour
import Derived.Test.YtdaapjkfkfaflaaWQPut
import Derived.Test.YtdaapjkfkfaflaaWApart
import Derived.Test.YtdaapjkfkfaflaaWArr
import Derived.Test.YtdaapjkfkfaflaaWZeros
import Derived.Test.YtdaapjkfkfaflaaWFoot
import Derived.Test.YtdaapjkfkfaflaaWKept
import Derived.Test.YtdaapjkfkfaflaaWShare
import Derived.Test.YtdaapjkfkfaflaaWN
import Derived.Test.YtdaapjkfkfaflaaWFootNe
import Derived.Test.YtdaapjkfkfaflaaWAt
import Derived.Test.YtdaapjkfkfaflaaWEqStruct
import Derived.Test.YtdaapjkfkfaflaaWRepsOne
import Derived.Test.YtdaapjkfkfaflaaWInv
import Derived.Test.YtdaapjkfkfaflaaWInvWords
import Derived.Test.YtdaapjkfkfaflaaWGuard
import Derived.Test.YtdaapjkfkfaflaaWNEv
import Derived.Test.YtdaapjkfkfaflaaWMore
namespace Go.Proofs.Ytdaapjkfkfaflaa.MAll
open Go.RowKit Go.Proofs.YtdaapjkfkfaflaaW.PrintWords Go.Proofs.YtdaapjkfkfaflaaW.PrintLast Go.Proofs.YtdaapjkfkfaflaaW.PrintMore
attribute [local go_sem] max2_int min2_int max_two min_two max_three min_three max_four min_four   -- for this text's walks alone
set_option linter.unusedVariables false
set_option linter.unusedSimpArgs false



def errW : Option Int → Value
  | none => .nilIface
  | some c => .iface 29 (.int .i64 c)
theorem errW_none : errW none = .nilIface := rfl
theorem errW_some (c : Int) : errW (some c) = .iface 29 (.int .i64 c) := rfl

theorem info3 : (Try.prog.info? 3).map (fun i => (i.zero, i.size, i.bytes)) = some (some (.int .i64 0), 1, 8) := by kernel_rfl
-- the values' own types

end Go.Proofs.Ytdaapjkfkfaflaa.MAll
