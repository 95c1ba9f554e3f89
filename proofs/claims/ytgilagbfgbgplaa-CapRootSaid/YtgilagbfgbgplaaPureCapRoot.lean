/- The plain law of CapRoot: all of a memory spans each byte of it, and no other one. -/
import Derived.Test.YtgilagbfgbgplaaCapFacts
import Derived.Test.YtgilagbfgbgplaaPCapx8
namespace Go.Proofs.Ytgilagbfgbgplaa.Pure
open Go.RowKit Go.Proofs.Ytgilagbfgbgplaa.PCap Go.Proofs.YtgilagbfgbgplaaW.PrintWords Go.Proofs.YtgilagbfgbgplaaW.PrintLast Go.Proofs.YtgilagbfgbgplaaW.PrintMore
set_option linter.unusedVariables false
set_option linter.unusedSimpArgs false


theorem CapRoot (a0 a1 : Int) (w0 : 0 ≤ a0 ∧ a0 ≤ 4294967295) (w1 : 0 ≤ a1 ∧ a1 ≤ 4294967295) : ∃ k, seizinlaw02_CapRoot.f k a0 a1 = some true := by
  refine ⟨1, ?_⟩
  unfold seizinlaw02_CapRoot.f
  have e0 : wrap64 a0 = a0 := by unfold wrap64; omega
  have e1 : wrap64 a1 = a1 := by unfold wrap64; omega
  simp only [head_eq, capRoot_eq, Option.bind_some, e0]
  unfold seizinlaw02_CapRoot.j0
  by_cases h1 : a0 < 1
  · simp [h1, rootN, capNull_eq]
  by_cases h2 : a0 > 16777216
  · simp [h1, h2, rootN, capNull_eq]
  have hr : rootN a0 = (true, 0, a0, 0, 127, 0) := by unfold rootN; rw [if_neg (by omega)]
  have hm : rootN 16777216 = (true, 0, 16777216, 0, 127, 0) := by unfold rootN; rw [if_neg (by omega)]
  have e2 : wrap64 (a0 + 1) = a0 + 1 := by unfold wrap64; omega
  rw [if_neg h1]
  have h2' : decide (a0 > 16777216) = false := by simp; omega
  have hR : rightB true 0 a0 0 127 0 = true := by unfold rightB RightP; simp only [decide_eq_true_eq]; omega
  have hS : sizeN 0 a0 = a0 := by unfold sizeN wrap64; split <;> omega
  have hI1 : (inB 0 a0 a1 1 == decide (a1 < a0)) = true := by unfold inB; rw [beq_iff_eq, Bool.eq_iff_iff]; simp only [decide_eq_true_eq]; omega
  have hI2 : inB 0 a0 0 a0 = true := by unfold inB; simp only [decide_eq_true_eq]; omega
  have hI3 : inB 0 a0 0 (a0 + 1) = false := by unfold inB; simp only [decide_eq_false_iff_not]; omega
  have hU : underB 0 a0 127 0 16777216 127 = true := by
    unfold underB; rw [hasB_refl (by omega) (by omega)]; simp; omega
  have w127 : I64 127 := ⟨by omega, by omega⟩
  have wa : I64 a0 := ⟨by omega, by omega⟩
  simp only [h2', hr, e1, e2, Bool.false_eq_true, if_false, if_true, capRight_eq _ _ _ _ _ _ w127, capSize_eq, capIn_eq _ _ _ _ _ _ _ _ wa, capRoot_eq, Option.bind_some, hR, hS, hI1, hI2, hI3, hm, capUnder_eq _ _ _ _ _ _ _ _ _ _ _ _ w127 w127, hU]

end Go.Proofs.Ytgilagbfgbgplaa.Pure
