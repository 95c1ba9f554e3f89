/- The plain law of AccessWithin: an address that is OK, and all bytes from it on, are in what one spans. -/
import Derived.Test.YthhiljgngedaaaaAccFacts
import Derived.Test.YthhiljgngedaaaaPAccx5
namespace Go.Proofs.Ythhiljgngedaaaa.Pure
open Go.RowKit Go.Proofs.Ythhiljgngedaaaa.PAcc Go.Proofs.YthhiljgngedaaaaW.PrintWords Go.Proofs.YthhiljgngedaaaaW.PrintLast Go.Proofs.YthhiljgngedaaaaW.PrintMore
set_option linter.unusedVariables false
set_option linter.unusedSimpArgs false

theorem AccessWithin (a0_0 : Bool) (a0_1 a0_2 a0_3 a0_4 a0_5 : Int) (a1 a2 a3 : Int) (w0_1 : I64 a0_1) (w0_2 : I64 a0_2) (w0_3 : I64 a0_3) (w0_4 : I64 a0_4) (w0_5 : I64 a0_5) (w1 : I64 a1) (w2 : I64 a2) (w3 : I64 a3) : ∃ k, seizinlaw05_AccessWithin.f k a0_0 a0_1 a0_2 a0_3 a0_4 a0_5 a1 a2 a3 = some true := by
  refine ⟨64, ?_⟩
  unfold seizinlaw05_AccessWithin.f
  simp only [head64, check_eq 64 (by decide) _ _ _ _ _ _ _ _ _ w0_4 w1 w0_2, refHas_ge _ _ 64 (by decide), Option.bind_some]
  by_cases h : (chk a0_0 a0_1 a0_2 a0_3 a0_4 a0_5 a1 a2 a3).2 = 0
  · obtain ⟨h1, h2, h3, h4, h5, h6, h7, h8, h9, h10, h11⟩ := chk_ok h
    have hR := right_at h1
    unfold RightP at hR
    obtain ⟨r1, r2, r3, r4, r5, r6, r7, r8, r9, r10, r11⟩ := hR
    have r11 := r11 h6
    unfold inB at h10
    unfold nearB at h9
    rw [decide_eq_true_eq] at h9 h10
    have e1 : wrap64 (a0_3 + a2) = a0_3 + a2 := by unfold wrap64; omega
    rw [e1] at h10 h11
    have e2 : wrap64 (a0_3 + a2 + a3) = a0_3 + a2 + a3 := by unfold wrap64; omega
    rw [h11]
    simp only [e1, e2, h8, if_true]
    have q1 : a0_3 + a2 ≥ a0_1 := by omega
    have q2 : a0_3 + a2 + a3 ≤ a0_2 := by omega
    have q3 : a0_3 + a2 + a3 ≤ 16777216 := by omega
    simp [h6, h7, q1, q2, q3]
  · rw [if_neg h]
    simp [chk_err h]

end Go.Proofs.Ythhiljgngedaaaa.Pure
