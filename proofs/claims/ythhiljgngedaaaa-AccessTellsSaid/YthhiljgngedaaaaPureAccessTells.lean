/- The plain law of AccessTells: the program's answers on uses and steps are the document's. -/
import Derived.Test.YthhiljgngedaaaaAccFacts
namespace Go.Proofs.Ythhiljgngedaaaa.Pure
open Go.RowKit Go.Proofs.Ythhiljgngedaaaa.PAcc Go.Proofs.YthhiljgngedaaaaW.PrintWords Go.Proofs.YthhiljgngedaaaaW.PrintLast Go.Proofs.YthhiljgngedaaaaW.PrintMore
set_option linter.unusedVariables false
set_option linter.unusedSimpArgs false

theorem AccessTells (a0_0 : Bool) (a0_1 a0_2 a0_3 a0_4 a0_5 : Int) (a1 a2 a3 : Int) (w0_1 : I64 a0_1) (w0_2 : I64 a0_2) (w0_3 : I64 a0_3) (w0_4 : I64 a0_4) (w0_5 : I64 a0_5) (w1 : I64 a1) (w2 : I64 a2) (w3 : I64 a3) : ∃ k, seizinlaw05_AccessTells.f k a0_0 a0_1 a0_2 a0_3 a0_4 a0_5 a1 a2 a3 = some true := by
  refine ⟨64, ?_⟩
  unfold seizinlaw05_AccessTells.f
  simp only [head64, check_eq 64 (by decide) _ _ _ _ _ _ _ _ _ w0_4 w1 w0_2, refCheck_eq 64 (by decide) _ _ _ _ _ _ _ _ _ w0_2, step_eq _ _ _ _ _ _ _ w0_4, refStep_eq, Option.bind_some]
  simp

end Go.Proofs.Ythhiljgngedaaaa.Pure
