/- The plain law of SizeClasses: sizes of classes rise, are multiples of 16, and each is of its own class. -/
import Derived.Test.YtldgecnmmklldaaSizeFacts
import Derived.Test.YtldgecnmmklldaaPSzx
namespace Go.Proofs.Ytldgecnmmklldaa.Pure
open Go.RowKit Go.Proofs.Ytldgecnmmklldaa.PSz Go.Proofs.YtldgecnmmklldaaW.PrintWords Go.Proofs.YtldgecnmmklldaaW.PrintLast
set_option linter.unusedVariables false
theorem SizeClasses : seizinlaw11_SizeClasses.Pure := by
  intro a0 w0
  have h0 := wf_u8 w0
  refine ⟨20, ?_⟩
  have h : ∀ n : Fin 256, seizinlaw11_SizeClasses.f 20 (n.val : Int) = some true := by decide +kernel
  have := h ⟨a0.toNat, by omega⟩
  simpa [Int.toNat_of_nonneg h0.1] using this
end Go.Proofs.Ytldgecnmmklldaa.Pure
