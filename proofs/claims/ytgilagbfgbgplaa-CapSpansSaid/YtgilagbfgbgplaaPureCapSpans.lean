/- The plain law of CapSpans: what one spans, all right ones that it is under span too. -/
import Derived.Test.YtgilagbfgbgplaaCapFacts
import Derived.Test.YtgilagbfgbgplaaPCapx5
namespace Go.Proofs.Ytgilagbfgbgplaa.Pure
open Go.RowKit Go.Proofs.Ytgilagbfgbgplaa.PCap Go.Proofs.YtgilagbfgbgplaaW.PrintWords Go.Proofs.YtgilagbfgbgplaaW.PrintLast Go.Proofs.YtgilagbfgbgplaaW.PrintMore
set_option linter.unusedVariables false
set_option linter.unusedSimpArgs false


theorem CapSpans (a0_0 : Bool) (a0_1 a0_2 a0_3 a0_4 a0_5 : Int) (a1_0 : Bool) (a1_1 a1_2 a1_3 a1_4 a1_5 : Int) (a2 a3 : Int) (w0_1 : I64 a0_1) (w0_2 : I64 a0_2) (w0_3 : I64 a0_3) (w0_4 : I64 a0_4) (w0_5 : I64 a0_5) (w1_1 : I64 a1_1) (w1_2 : I64 a1_2) (w1_3 : I64 a1_3) (w1_4 : I64 a1_4) (w1_5 : I64 a1_5) (w2 : I64 a2) (w3 : I64 a3) : ∃ k, seizinlaw02_CapSpans.f k a0_0 a0_1 a0_2 a0_3 a0_4 a0_5 a1_0 a1_1 a1_2 a1_3 a1_4 a1_5 a2 a3 = some true := by
  refine ⟨1, ?_⟩
  unfold seizinlaw02_CapSpans.f
  simp only [head_eq, capRight_eq _ _ _ _ _ _ w1_4, capUnder_eq _ _ _ _ _ _ _ _ _ _ _ _ w0_4 w1_4, Option.bind_some]
  cases hU : underB a0_1 a0_2 a0_4 a1_1 a1_2 a1_4
  · simp [seizinlaw02_CapSpans.j0]
  cases hR : rightB a1_0 a1_1 a1_2 a1_3 a1_4 a1_5
  · simp [seizinlaw02_CapSpans.j0]
  unfold underB at hU
  simp only [Bool.and_eq_true, decide_eq_true_eq] at hU
  obtain ⟨⟨h1, h2, h3⟩, _⟩ := hU
  unfold rightB at hR
  rw [decide_eq_true_eq] at hR
  unfold RightP at hR
  obtain ⟨r1, r2, r3, r4, _⟩ := hR
  have hs : sizeN a0_1 a0_2 ≤ sizeN a1_1 a1_2 := by
    unfold sizeN wrap64
    split <;> split <;> omega
  try simp only [if_true, Bool.not_true]
  unfold seizinlaw02_CapSpans.j0
  simp only [Bool.false_eq_true, if_false, if_true, capIn_eq _ _ _ _ _ _ _ _ w0_2, capIn_eq _ _ _ _ _ _ _ _ w1_2, capSize_eq, Option.bind_some]
  cases hI : inB a0_1 a0_2 a2 a3
  · simp [hs]
  have hJ : inB a1_1 a1_2 a2 a3 = true := by
    unfold inB at *
    simp only [decide_eq_true_eq] at *
    omega
  simp [hs, hJ]

end Go.Proofs.Ytgilagbfgbgplaa.Pure
