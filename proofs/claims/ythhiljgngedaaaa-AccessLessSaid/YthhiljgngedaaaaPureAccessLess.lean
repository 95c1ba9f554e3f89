/- The plain law of AccessLess: what is OK of one is OK of one that it is under, if that stands there, at the same address. -/
import Derived.Test.YthhiljgngedaaaaAccFacts
import Derived.Test.YthhiljgngedaaaaPAccx5
namespace Go.Proofs.Ythhiljgngedaaaa.Pure
open Go.RowKit Go.Proofs.Ythhiljgngedaaaa.PAcc Go.Proofs.YthhiljgngedaaaaW.PrintWords Go.Proofs.YthhiljgngedaaaaW.PrintLast Go.Proofs.YthhiljgngedaaaaW.PrintMore
set_option linter.unusedVariables false
set_option linter.unusedSimpArgs false

theorem refUnder_ge (k : Nat) (hk : 8 ≤ k) (a : Bool) (b c d e f : Int) (a' : Bool) (b' c' d' e' f' : Int) : seizinref02_Under.f k a b c d e f a' b' c' d' e' f' = some (underB b c e b' c' e') := by
  unfold seizinref02_Under.f underB
  simp only [Option.bind_some, refHas_ge e' e k hk]
  by_cases h1 : b' ≤ b <;> by_cases h2 : b ≤ c <;> by_cases h3 : c ≤ c' <;> simp [h1, h2, h3]
theorem AccessLess (a0_0 : Bool) (a0_1 a0_2 a0_3 a0_4 a0_5 : Int) (a1_0 : Bool) (a1_1 a1_2 a1_3 a1_4 a1_5 : Int) (a2 a3 a4 : Int) (w0_1 : I64 a0_1) (w0_2 : I64 a0_2) (w0_3 : I64 a0_3) (w0_4 : I64 a0_4) (w0_5 : I64 a0_5) (w1_1 : I64 a1_1) (w1_2 : I64 a1_2) (w1_3 : I64 a1_3) (w1_4 : I64 a1_4) (w1_5 : I64 a1_5) (w2 : I64 a2) (w3 : I64 a3) (w4 : I64 a4) : ∃ k, seizinlaw05_AccessLess.f k a0_0 a0_1 a0_2 a0_3 a0_4 a0_5 a1_0 a1_1 a1_2 a1_3 a1_4 a1_5 a2 a3 a4 = some true := by
  refine ⟨64, ?_⟩
  unfold seizinlaw05_AccessLess.f
  simp only [head64, check_eq 64 (by decide) _ _ _ _ _ _ _ _ _ w0_4 w2 w0_2, check_eq 64 (by decide) _ _ _ _ _ _ _ _ _ w1_4 w2 w1_2, refRight_eq, refUnder_ge 64 (by decide), Option.bind_some]
  by_cases h : (chk a0_0 a0_1 a0_2 a0_3 a0_4 a0_5 a2 a3 a4).2 = 0
  · rw [if_pos h]
    obtain ⟨h1, h2, h3, h4, h5, h6, h7, h8, h9, h10, h11⟩ := chk_ok h
    cases hR : rightB a1_0 a1_1 a1_2 a0_3 a1_4 a1_5
    · simp
    cases a1_0
    · simp
    by_cases hf : a1_5 = 0
    · cases hU : underB a0_1 a0_2 a0_4 a1_1 a1_2 a1_4
      · simp [hf]
      unfold underB at hU
      simp only [Bool.and_eq_true, decide_eq_true_eq] at hU
      obtain ⟨⟨u1, u2, u3⟩, u4⟩ := hU
      have h10' : inB a1_1 a1_2 (wrap64 (a0_3 + a3)) a4 = true := by
        unfold inB at *
        rw [decide_eq_true_eq] at *
        omega
      rw [h11, chk_of hR h2 h3 h4 h5 rfl hf (hasB_trans h8 u4) h9 h10']
      simp [hf]
    · simp [hf]
  · rw [if_neg h]

end Go.Proofs.Ythhiljgngedaaaa.Pure
