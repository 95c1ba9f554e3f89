/- The plain law of DeriveMoves: one that is moved twice stands where it was moved last; nothing else of it changes. -/
import Derived.Test.YtgkmacgckoifaaaDerFacts
import Derived.Test.YtgkmacgckoifaaaPDrx26
namespace Go.Proofs.Ytgkmacgckoifaaa.Pure
open Go.RowKit Go.Proofs.Ytgkmacgckoifaaa.PDr Go.Proofs.YtgkmacgckoifaaaW.PrintWords Go.Proofs.YtgkmacgckoifaaaW.PrintLast Go.Proofs.YtgkmacgckoifaaaW.PrintMore
set_option linter.unusedVariables false
set_option linter.unusedSimpArgs false

theorem right_at {a : Bool} {b c d e f : Int} (x : Int) (h : rightB a b c d e f = true) (h0 : 0 ≤ x) (h1 : x ≤ 4294967295) : rightB a b c x e f = true := by
  unfold rightB at *; rw [decide_eq_true_eq] at *; unfold RightP at *; obtain ⟨q1, q2, q3, q4, q5, q6, q7, q8, q9, q10, q11⟩ := h; exact ⟨q1, q2, q3, q4, h0, h1, q7, q8, q9, q10, q11⟩
theorem move_ok {a : Bool} {b c d e f : Int} (n : Int) (h : rightB a b c d e f = true) (k : a = true → f = 0) : moveR a b c d e f n = (a, b, c, n % 4294967296, e, f, 0) := by
  unfold moveR; rw [if_pos h]
  cases a
  · rfl
  · rw [if_pos rfl, if_pos (k rfl)]
theorem move_not {a : Bool} {b c d e f : Int} (n : Int) (h : ¬ (rightB a b c d e f = true ∧ (a = true → f = 0))) : ∃ z, z ≠ 0 ∧ moveR a b c d e f n = zz z := by
  unfold moveR
  by_cases h1 : rightB a b c d e f = true
  · rw [if_pos h1]
    cases a
    · exact absurd ⟨h1, fun q => by cases q⟩ h
    · by_cases hf : f = 0
      · exact absurd ⟨h1, fun _ => hf⟩ h
      · rw [if_pos rfl, if_neg hf]; exact ⟨42, by omega, rfl⟩
  · rw [if_neg h1]; exact ⟨1, by omega, rfl⟩
theorem DeriveMoves (a0_0 : Bool) (a0_1 a0_2 a0_3 a0_4 a0_5 : Int) (a1 a2 : Int) (w0_1 : I64 a0_1) (w0_2 : I64 a0_2) (w0_3 : I64 a0_3) (w0_4 : I64 a0_4) (w0_5 : I64 a0_5) (w1 : I64 a1) (w2 : I64 a2) : seizinlaw04_DeriveMoves.f a0_0 a0_1 a0_2 a0_3 a0_4 a0_5 a1 a2 = some true := by
  unfold seizinlaw04_DeriveMoves.f
  rw [head_eq, Move_eq _ _ _ _ _ _ _ w0_4, Move_eq _ _ _ _ _ _ _ w0_4]
  simp only [Option.bind_some]
  by_cases h : rightB a0_0 a0_1 a0_2 a0_3 a0_4 a0_5 = true ∧ (a0_0 = true → a0_5 = 0)
  · have h1 := right_at (a1 % 4294967296) h.1 (by omega) (by omega)
    have h2 := right_at (a2 % 4294967296) h.1 (by omega) (by omega)
    rw [move_ok a1 h.1 h.2, move_ok a2 h.1 h.2]
    simp only [if_true]
    rw [Move_eq _ _ _ _ _ _ _ w0_4, move_ok a2 h1 h.2]
    simp only [Option.bind_some]
    rw [Move_eq _ _ _ _ _ _ _ w0_4, move_ok a0_3 h2 h.2]
    have h3 : a0_3 % 4294967296 = a0_3 := by
      have := h.1; unfold rightB at this; rw [decide_eq_true_eq] at this; unfold RightP at this; omega
    simp only [Option.bind_some, if_true, beq_self_eq_true, Bool.and_self, h3]
  · obtain ⟨z, hz, e⟩ := move_not a1 h
    rw [e]
    unfold zz
    simp [hz]

end Go.Proofs.Ytgkmacgckoifaaa.Pure
