/- The plain law of CapTells: whatever two capabilities and two ints are given, the program's answers are the document's. -/
import Derived.Test.YtgilagbfgbgplaaCapFacts
import Derived.Test.YtgilagbfgbgplaaPCapx4
namespace Go.Proofs.Ytgilagbfgbgplaa.Pure
open Go.RowKit Go.Proofs.Ytgilagbfgbgplaa.PCap Go.Proofs.YtgilagbfgbgplaaW.PrintWords Go.Proofs.YtgilagbfgbgplaaW.PrintLast Go.Proofs.YtgilagbfgbgplaaW.PrintMore
set_option linter.unusedVariables false
set_option linter.unusedSimpArgs false


theorem CapTells (a0_0 : Bool) (a0_1 a0_2 a0_3 a0_4 a0_5 : Int) (a1_0 : Bool) (a1_1 a1_2 a1_3 a1_4 a1_5 : Int) (a2 a3 : Int) (w0_1 : I64 a0_1) (w0_2 : I64 a0_2) (w0_3 : I64 a0_3) (w0_4 : I64 a0_4) (w0_5 : I64 a0_5) (w1_1 : I64 a1_1) (w1_2 : I64 a1_2) (w1_3 : I64 a1_3) (w1_4 : I64 a1_4) (w1_5 : I64 a1_5) (w2 : I64 a2) (w3 : I64 a3) : ∃ k, seizinlaw02_CapTells.f k a0_0 a0_1 a0_2 a0_3 a0_4 a0_5 a1_0 a1_1 a1_2 a1_3 a1_4 a1_5 a2 a3 = some true := by
  refine ⟨8, ?_⟩
  unfold seizinlaw02_CapTells.f
  simp only [head_eq, capRight_eq _ _ _ _ _ _ w0_4, refRight_eq, capSize_eq, refSize_eq, capOff_eq, refOff_eq _ _ _ _ _ _ w0_1 w0_3, capValue_eq, refValue_eq, capIn_eq _ _ _ _ _ _ _ _ w0_2, refIn_eq _ _ _ _ _ _ _ _ w0_2, capUnder_eq _ _ _ _ _ _ _ _ _ _ _ _ w0_4 w1_4, refUnder_eq, capInt_eq, refInt_eq _ w3, capRoot_eq, refRoot_eq, Option.bind_some]
  simp

end Go.Proofs.Ytgilagbfgbgplaa.Pure
