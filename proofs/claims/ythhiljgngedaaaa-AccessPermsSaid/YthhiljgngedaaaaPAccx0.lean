-- written by a changed copy of the kit's print program, for this claim
import Derived.Test.YthhiljgngedaaaaProg
import Derived.Below
import Derived.Deep.Draws
import Derived.Deep.AppendLies
import Derived.Maps.AppendAt
import Derived.OwnWalk
import Derived.Laws.BytesArg
import Derived.Laws.MakeOwn
import Derived.Laws.OwnMore
import Derived.Deep.OwnRows
import Derived.Tactics
import Derived.Lib.ConvBytes
import Derived.Laws.Slices
import Derived.WalkKit
import Derived.KernelRfl
import Derived.RowKit3
import Derived.Deep.LoopGhost
import Derived.Deep.QuietTactic
import Derived.BigQuiet
import Derived.WideLaws
import Derived.Deep.DeepCutAuto
import Derived.Deep.CutBlock
import Derived.Deep.RegionHeld3
import Derived.Laws.Rows
import Derived.Lib.AppendStr
import Derived.ArgAppend
import Derived.Laws.IdiomCopy
import Derived.OrdersHeld
import Derived.Laws.BitsLemmas
import Derived.RowKit
import Derived.Test.YthhiljgngedaaaaWWords
import Derived.Test.YthhiljgngedaaaaWLast
import Derived.Test.YthhiljgngedaaaaWTab
import Derived.Test.YthhiljgngedaaaaWFour
import Derived.Test.YthhiljgngedaaaaWQPut
import Derived.Test.YthhiljgngedaaaaWApart
import Derived.Test.YthhiljgngedaaaaWArr
import Derived.Test.YthhiljgngedaaaaWZeros
import Derived.Test.YthhiljgngedaaaaWFoot
import Derived.Test.YthhiljgngedaaaaWKept
import Derived.Test.YthhiljgngedaaaaWShare
import Derived.Test.YthhiljgngedaaaaWN
import Derived.Test.YthhiljgngedaaaaWFootNe
import Derived.Test.YthhiljgngedaaaaWAt
import Derived.Test.YthhiljgngedaaaaWEqStruct
import Derived.Test.YthhiljgngedaaaaWRepsOne
import Derived.Test.YthhiljgngedaaaaWInv
import Derived.Test.YthhiljgngedaaaaWInvWords
import Derived.Test.YthhiljgngedaaaaWGuard
import Derived.Test.YthhiljgngedaaaaWNEv
import Derived.Test.YthhiljgngedaaaaWMore
namespace Go.Proofs.Ythhiljgngedaaaa.PAcc
open Go.RowKit Go.Proofs.YthhiljgngedaaaaW.PrintWords Go.Proofs.YthhiljgngedaaaaW.PrintLast Go.Proofs.YthhiljgngedaaaaW.PrintMore
attribute [local go_sem] max2_int min2_int max_two min_two max_three min_three max_four min_four   -- for this text's walks alone
set_option linter.unusedVariables false
set_option linter.unusedSimpArgs false



def errW : Option Int → Value
  | none => .nilIface
  | some c => .iface 0 (.int .i64 c)
theorem errW_none : errW none = .nilIface := rfl
theorem errW_some (c : Int) : errW (some c) = .iface 0 (.int .i64 c) := rfl

theorem info3 : (Try.prog.info? 3).map (fun i => (i.zero, i.size, i.bytes)) = some (some (.int .i64 0), 1, 8) := by kernel_rfl
-- the values' own types

end Go.Proofs.Ythhiljgngedaaaa.PAcc
