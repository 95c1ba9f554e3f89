-- written by a changed copy of the kit's print program, for this claim
import Derived.Test.YtldgecnmmklldaaPSzx0
import Derived.Test.YtldgecnmmklldaaPSzx1
import Derived.Test.YtldgecnmmklldaaPSzx2
import Derived.Test.YtldgecnmmklldaaPSzx3
import Derived.Test.YtldgecnmmklldaaPSzx4
import Derived.Test.YtldgecnmmklldaaPSzx5
namespace Go.Proofs.Ytldgecnmmklldaa.PSz
open Go.RowKit Go.Proofs.YtldgecnmmklldaaW.PrintWords Go.Proofs.YtldgecnmmklldaaW.PrintLast Go.Proofs.YtldgecnmmklldaaW.PrintMore
attribute [local go_sem] max2_int min2_int max_two min_two max_three min_three max_four min_four   -- for this text's walks alone
set_option linter.unusedVariables false
set_option linter.unusedSimpArgs false

end Go.Proofs.Ytldgecnmmklldaa.PSz
