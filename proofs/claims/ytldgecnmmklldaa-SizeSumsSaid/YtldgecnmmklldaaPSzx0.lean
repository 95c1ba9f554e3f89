-- written by a changed copy of the kit's print program, for this claim
import Derived.Test.YtldgecnmmklldaaProg
import Derived.Below
import Derived.Deep.Draws
import Derived.Deep.AppendLies
import Derived.Maps.AppendAt
import Derived.OwnWalk
import Derived.Laws.BytesArg
import Derived.Laws.MakeOwn
import Derived.Laws.OwnMore
import Derived.Deep.OwnRows
import Derived.Tactics
import Derived.Lib.ConvBytes
import Derived.Laws.Slices
import Derived.WalkKit
import Derived.KernelRfl
import Derived.RowKit3
import Derived.Deep.LoopGhost
import Derived.Deep.QuietTactic
import Derived.BigQuiet
import Derived.WideLaws
import Derived.Deep.DeepCutAuto
import Derived.Deep.CutBlock
import Derived.Deep.RegionHeld3
import Derived.Laws.Rows
import Derived.Lib.AppendStr
import Derived.ArgAppend
import Derived.Laws.IdiomCopy
import Derived.OrdersHeld
import Derived.Laws.BitsLemmas
import Derived.RowKit
import Derived.Test.YtldgecnmmklldaaWWords
import Derived.Test.YtldgecnmmklldaaWLast
import Derived.Test.YtldgecnmmklldaaWTab
import Derived.Test.YtldgecnmmklldaaWFour
import Derived.Test.YtldgecnmmklldaaWQPut
import Derived.Test.YtldgecnmmklldaaWApart
import Derived.Test.YtldgecnmmklldaaWArr
import Derived.Test.YtldgecnmmklldaaWZeros
import Derived.Test.YtldgecnmmklldaaWFoot
import Derived.Test.YtldgecnmmklldaaWKept
import Derived.Test.YtldgecnmmklldaaWShare
import Derived.Test.YtldgecnmmklldaaWN
import Derived.Test.YtldgecnmmklldaaWFootNe
import Derived.Test.YtldgecnmmklldaaWAt
import Derived.Test.YtldgecnmmklldaaWEqStruct
import Derived.Test.YtldgecnmmklldaaWRepsOne
import Derived.Test.YtldgecnmmklldaaWInv
import Derived.Test.YtldgecnmmklldaaWInvWords
import Derived.Test.YtldgecnmmklldaaWGuard
import Derived.Test.YtldgecnmmklldaaWNEv
import Derived.Test.YtldgecnmmklldaaWMore
namespace Go.Proofs.Ytldgecnmmklldaa.PSz
open Go.RowKit Go.Proofs.YtldgecnmmklldaaW.PrintWords Go.Proofs.YtldgecnmmklldaaW.PrintLast Go.Proofs.YtldgecnmmklldaaW.PrintMore
attribute [local go_sem] max2_int min2_int max_two min_two max_three min_three max_four min_four   -- for this text's walks alone
set_option linter.unusedVariables false
set_option linter.unusedSimpArgs false



def errW : Option Int → Value
  | none => .nilIface
  | some c => .iface 0 (.int .i64 c)
theorem errW_none : errW none = .nilIface := rfl
theorem errW_some (c : Int) : errW (some c) = .iface 0 (.int .i64 c) := rfl

theorem info3 : (Try.prog.info? 3).map (fun i => (i.zero, i.size, i.bytes)) = some (some (.int .i64 0), 1, 8) := by kernel_rfl
-- the values' own types

end Go.Proofs.Ytldgecnmmklldaa.PSz
