-- out of the print program's words, cut by this session down to what this claim reaches
import Derived.Test.YtgkmacgckoifaaaWInv
import Derived.Test.YtgkmacgckoifaaaWFootNe
namespace Go.Proofs.YtgkmacgckoifaaaW.PrintWords
open Go.RowKit
end Go.Proofs.YtgkmacgckoifaaaW.PrintWords
namespace Go.Proofs.YtgkmacgckoifaaaW.PrintLast
section
variable {ops : Array Oper} {a : Act} {o og : Oper} {g : Nat} {t : Tmp} {u : Bool}
end
end Go.Proofs.YtgkmacgckoifaaaW.PrintLast
