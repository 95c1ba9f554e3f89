/- The plain law of CapNumbers: numbers are told as they were, modulo 2^32. -/
import Derived.Test.YtgilagbfgbgplaaCapFacts
import Derived.Test.YtgilagbfgbgplaaPCapx6
namespace Go.Proofs.Ytgilagbfgbgplaa.Pure
open Go.RowKit Go.Proofs.Ytgilagbfgbgplaa.PCap Go.Proofs.YtgilagbfgbgplaaW.PrintWords Go.Proofs.YtgilagbfgbgplaaW.PrintLast Go.Proofs.YtgilagbfgbgplaaW.PrintMore
set_option linter.unusedVariables false
set_option linter.unusedSimpArgs false


theorem CapNumbers (a0 a1 : Int) (w0 : I64 a0) (w1 : 0 ≤ a1 ∧ a1 ≤ 4294967295) : seizinlaw02_CapNumbers.f a0 a1 = some true := by
  unfold seizinlaw02_CapNumbers.f
  have e1 : wrap64 a1 = a1 := by unfold wrap64; omega
  have e2 : a1 % 4294967296 = a1 := by omega
  have e3 : a0 % 4294967296 % 4294967296 = a0 % 4294967296 := by omega
  have wz : I64 0 := ⟨by omega, by omega⟩
  have hR : rightB false 0 0 (a0 % 4294967296) 0 0 = true := by unfold rightB; rw [decide_eq_true_eq]; unfold RightP; refine ⟨?_, ?_, ?_, ?_, ?_, ?_, ?_, ?_, ?_, ?_, ?_⟩ <;> first | omega | (intro h; cases h)
  have hS : sizeN 0 0 = 0 := by decide
  have hO : offN 0 a1 = a1 := by unfold offN; omega
  simp only [head_eq, capInt_eq, Option.bind_some, e1, e2, e3, capRight_eq _ _ _ _ _ _ wz, hR, if_true, Bool.false_eq_true, if_false, capSize_eq, hS, capValue_eq, capOff_eq, hO]
  simp

end Go.Proofs.Ytgilagbfgbgplaa.Pure
