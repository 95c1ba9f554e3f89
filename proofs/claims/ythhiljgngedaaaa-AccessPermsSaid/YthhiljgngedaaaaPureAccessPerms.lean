/- The plain law of AccessPerms: what may be used with some permissions, and with others, may be with both, and with none. -/
import Derived.Test.YthhiljgngedaaaaAccFacts
import Derived.Test.YthhiljgngedaaaaAccPmx
namespace Go.Proofs.Ythhiljgngedaaaa.Pure
open Go.RowKit Go.Proofs.Ythhiljgngedaaaa.PAcc Go.Proofs.YthhiljgngedaaaaW.PrintWords Go.Proofs.YthhiljgngedaaaaW.PrintLast Go.Proofs.YthhiljgngedaaaaW.PrintMore
set_option linter.unusedVariables false
set_option linter.unusedSimpArgs false

theorem hasB_or (e p q : Int) (hp0 : 0 ≤ p) (hp : p ≤ 127) (hq0 : 0 ≤ q) (hq : q ≤ 127) : hasB e (Go.bits .or .i64 p q) = (hasB e p && hasB e q) := by
  have h := Bt.or_lt p q hp0 hp hq0 hq
  unfold hasB
  rw [Bt.sub_or]
  have h1 : decide (0 ≤ Go.bits .or .i64 p q ∧ Go.bits .or .i64 p q ≤ 127) = true := by rw [decide_eq_true_eq]; exact h
  have h2 : decide (0 ≤ p ∧ p ≤ 127) = true := by rw [decide_eq_true_eq]; omega
  have h3 : decide (0 ≤ q ∧ q ≤ 127) = true := by rw [decide_eq_true_eq]; omega
  rw [h1, h2, h3]
  generalize decide (0 ≤ e ∧ e ≤ 127) = x
  cases x <;> simp
theorem hasB_zero {e : Int} (h0 : 0 ≤ e) (h : e ≤ 127) : hasB e 0 = true := by
  unfold hasB; rw [Bt.sub_zero]; simp; omega
/-- What one comes to that may be used with no permission, with some. -/
theorem chk_perm {a : Bool} {b c d e f off n : Int} (h : (chk a b c d e f 0 off n).2 = 0) (need : Int) (h0 : 0 ≤ need) (h1 : need ≤ 127) : (chk a b c d e f need off n).2 = (if hasB e need = true then 0 else 44) := by
  obtain ⟨r, _, _, q1, q2, q3, q4, q5, q6, q7, q8⟩ := chk_ok h
  split
  · rename_i hh
    rw [chk_of r h0 h1 q1 q2 q3 q4 hh q6 q7]
  · rename_i hh
    have hA : argB a b c d e f need n = true := by unfold argB; simp [r, h0, h1, q1, q2]
    unfold chk
    rw [if_pos hA]
    unfold chk2
    rw [if_pos q3, if_pos q4, if_neg hh]
theorem chk_none {a : Bool} {b c d e f off n need : Int} (h : (chk a b c d e f 0 off n).2 ≠ 0) : (chk a b c d e f need off n).2 ≠ 0 := by
  intro h'
  obtain ⟨r, _, _, q1, q2, q3, q4, q5, q6, q7, q8⟩ := chk_ok h'
  have hR := right_at r
  unfold RightP at hR
  exact h (by rw [chk_of r (by omega) (by omega) q1 q2 q3 q4 (hasB_zero (by omega) (by omega)) q6 q7])
theorem AccessPerms (a0_0 : Bool) (a0_1 a0_2 a0_3 a0_4 a0_5 : Int) (a1 a2 a3 : Int) (w0_1 : I64 a0_1) (w0_2 : I64 a0_2) (w0_3 : I64 a0_3) (w0_4 : I64 a0_4) (w0_5 : I64 a0_5) (w1 : 0 ≤ a1 ∧ a1 ≤ 255) (w2 : 0 ≤ a2 ∧ a2 ≤ 255) (w3 : -32768 ≤ a3 ∧ a3 ≤ 32767) : ∃ k, seizinlaw05_AccessPerms.f k a0_0 a0_1 a0_2 a0_3 a0_4 a0_5 a1 a2 a3 = some true := by
  refine ⟨64, ?_⟩
  unfold seizinlaw05_AccessPerms.f
  have e1 : wrap64 (Go.bits .and .u8 a1 127) = a1 % 128 := by rw [Bt.u8_and127 a1 w1.1 w1.2]; unfold wrap64; omega
  have e2 : wrap64 (Go.bits .and .u8 a2 127) = a2 % 128 := by rw [Bt.u8_and127 a2 w2.1 w2.2]; unfold wrap64; omega
  have b1 : 0 ≤ a1 % 128 ∧ a1 % 128 ≤ 127 := by omega
  have b2 : 0 ≤ a2 % 128 ∧ a2 % 128 ≤ 127 := by omega
  simp only [e1, e2]
  generalize a1 % 128 = p at *
  generalize a2 % 128 = q at *
  have b3 := Bt.or_lt p q b1.1 b1.2 b2.1 b2.2
  have hor := hasB_or a0_4 p q b1.1 b1.2 b2.1 b2.2
  generalize Go.bits .or .i64 p q = o at *
  have i0 : I64 0 := ⟨by omega, by omega⟩
  have i1 : I64 p := ⟨by omega, by omega⟩
  have i2 : I64 q := ⟨by omega, by omega⟩
  have i3 : I64 o := ⟨by omega, by omega⟩
  simp only [head64, check_eq 64 (by decide) _ _ _ _ _ _ _ _ _ w0_4 i0 w0_2, check_eq 64 (by decide) _ _ _ _ _ _ _ _ _ w0_4 i1 w0_2, check_eq 64 (by decide) _ _ _ _ _ _ _ _ _ w0_4 i2 w0_2, check_eq 64 (by decide) _ _ _ _ _ _ _ _ _ w0_4 i3 w0_2, refHas_ge _ _ 64 (by decide), Option.bind_some]
  by_cases h : (chk a0_0 a0_1 a0_2 a0_3 a0_4 a0_5 0 (wrap64 a3) 1).2 = 0
  · rw [chk_perm h p b1.1 b1.2, chk_perm h q b2.1 b2.2, chk_perm h o b3.1 b3.2, hor]
    cases hasB a0_4 p <;> cases hasB a0_4 q <;> simp [h]
  · have n1 := chk_none (need := p) h
    have n2 := chk_none (need := q) h
    have n3 := chk_none (need := o) h
    simp [h, n1, n2, n3]

end Go.Proofs.Ythhiljgngedaaaa.Pure
