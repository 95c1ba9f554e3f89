/- The plain law of AccessSteps: one that steps on, and back, is as it was; none leaves what it spans, but to just behind it. -/
import Derived.Test.YthhiljgngedaaaaAccFacts
import Derived.Test.YthhiljgngedaaaaAccStx
namespace Go.Proofs.Ythhiljgngedaaaa.Pure
open Go.RowKit Go.Proofs.Ythhiljgngedaaaa.PAcc Go.Proofs.YthhiljgngedaaaaW.PrintWords Go.Proofs.YthhiljgngedaaaaW.PrintLast Go.Proofs.YthhiljgngedaaaaW.PrintMore
set_option linter.unusedVariables false
set_option linter.unusedSimpArgs false

theorem stp_two (a : Bool) (b c d e f n : Int) : (stp a b c d e f n).2.2.2.2.2.2 = false ∨ (stp a b c d e f n = (a, b, c, d + n, e, f, true) ∧ rightB a b c d e f = true ∧ a = true ∧ f = 0 ∧ nearB n = true ∧ b ≤ d + n ∧ d + n ≤ c) := by
  unfold stp
  by_cases h1 : rightB a b c d e f = true
  · by_cases h2 : a = true
    · by_cases h3 : f = 0
      · by_cases h4 : nearB n = true
        · have hP := right_at h1
          unfold RightP at hP
          have hn := h4
          unfold nearB at hn
          rw [decide_eq_true_eq] at hn
          have e1 : wrap64 (d + n) = d + n := by unfold wrap64; omega
          rw [if_pos h1, if_pos h2, if_pos h3, if_pos h4, e1]
          by_cases h5 : d + n < b
          · left; rw [if_pos h5]
          · by_cases h6 : d + n > c
            · left; rw [if_neg h5, if_pos h6]
            · right; rw [if_neg h5, if_neg h6]; exact ⟨rfl, h1, h2, h3, h4, by omega, by omega⟩
        · left; rw [if_pos h1, if_pos h2, if_pos h3, if_neg h4]
      · left; rw [if_pos h1, if_pos h2, if_neg h3]
    · left; rw [if_pos h1, if_neg h2]
  · left; rw [if_neg h1]
theorem stp_back {a : Bool} {b c d e f n : Int} (h1 : rightB a b c d e f = true) (h2 : a = true) (h3 : f = 0) (h4 : nearB n = true) (h5 : b ≤ d + n) (h6 : d + n ≤ c) : stp a b c (d + n) e f (-n) = if d < b then (false, 0, 0, 0, 0, 0, false) else if d > c then (false, 0, 0, 0, 0, 0, false) else (a, b, c, d, e, f, true) := by
  have hP := right_at h1
  unfold RightP at hP
  obtain ⟨p1, p2, p3, p4, p5, p6, p7, p8, p9, pa, pb⟩ := hP
  have pb := pb h2
  have hr : rightB a b c (d + n) e f = true := by
    unfold rightB; rw [decide_eq_true_eq]; unfold RightP
    exact ⟨p1, p2, p3, p4, by omega, by omega, p7, p8, p9, pa, fun _ => pb⟩
  unfold nearB at h4
  rw [decide_eq_true_eq] at h4
  have hn : nearB (-n) = true := by unfold nearB; rw [decide_eq_true_eq]; omega
  have e1 : wrap64 (d + n + -n) = d := by unfold wrap64; omega
  unfold stp
  rw [if_pos hr, if_pos h2, if_pos h3, if_pos hn, e1]
theorem steps_loop (l : List Int) (hw : ∀ x ∈ l, (Lit.int .i16 x).wf = true) (hlen : (l.length : Int) ≤ 500) (a : Bool) (b c d0 e f : Int) (he : I64 e) (q : Nat) : ∀ (k : Nat) (i d : Int), 0 ≤ i → i ≤ l.length → l.length - i = q → q < k →
    seizinlaw05_AccessSteps.l0 k l true i a b c d0 e f a b c d e f = some true := by
  induction q with
  | zero =>
    intro k i d h0 h1 hq hk
    obtain ⟨k, rfl⟩ : ∃ m, k = m + 1 := ⟨k - 1, by omega⟩
    simp only [seizinlaw05_AccessSteps.l0]; rw [if_neg (by omega)]
    simp
  | succ q ih =>
    intro k i d h0 h1 hq hk
    obtain ⟨k, rfl⟩ : ∃ m, k = m + 1 := ⟨k - 1, by omega⟩
    have hm : rd l i ∈ l := by
      unfold rd
      rw [List.getD_eq_getElem?_getD, List.getElem?_eq_getElem (by omega), Option.getD_some]
      exact List.getElem_mem _
    have hn := Bt.i16 (hw _ hm)
    generalize hN : rd l i = n at *
    have e0 : wrap64 n = n := by unfold wrap64; omega
    have e2 : wrap64 (-n) = -n := by unfold wrap64; omega
    have e3 : wrap64 (i + 1) = i + 1 := by unfold wrap64; omega
    have r := fun d => ih k (i + 1) d (by omega) (by omega) (by omega) (by omega)
    simp only [seizinlaw05_AccessSteps.l0]
    rw [if_pos (by omega), if_pos h0, hN, e0, e2, e3, step_eq _ _ _ _ _ _ _ he]
    rcases stp_two a b c d e f n with h | ⟨h, g1, g2, g3, g4, g5, g6⟩
    · simp only [Option.bind_some, h, Bool.false_eq_true, if_false]; exact r d
    · simp only [Option.bind_some, h, if_true]
      rw [step_eq _ _ _ _ _ _ _ he, stp_back g1 g2 g3 g4 g5 g6]
      simp only [Option.bind_some]
      rw [if_neg (by omega), if_neg (by omega)]
      by_cases h7 : d < b
      · rw [if_pos h7]
        simp only [Bool.false_eq_true, if_false]
        rw [if_neg (by omega)]; exact r _
      · by_cases h8 : d > c
        · rw [if_neg h7, if_pos h8]
          simp only [Bool.false_eq_true, if_false]
          rw [if_pos (by omega), if_neg (by omega)]; exact r _
        · rw [if_neg h7, if_neg h8]
          simp only [if_true]
          rw [if_neg (by simp)]
          exact r _

theorem AccessSteps (a0_0 : Bool) (a0_1 a0_2 a0_3 a0_4 a0_5 : Int) (l1 : List Int) (w0_1 : I64 a0_1) (w0_2 : I64 a0_2) (w0_3 : I64 a0_3) (w0_4 : I64 a0_4) (w0_5 : I64 a0_5) (hm1 : l1.length ≤ maxLen) (y1 : l1.length * 2 ≤ 140737488351232) (hw1 : ∀ x ∈ l1, (Lit.int .i16 x).wf = true) : ∃ k, seizinlaw05_AccessSteps.f k a0_0 a0_1 a0_2 a0_3 a0_4 a0_5 l1 = some true := by
  refine ⟨l1.length + 64, ?_⟩
  unfold seizinlaw05_AccessSteps.f
  rw [at_rounds (seizinlaw05_head.mono) (by omega) head64]
  simp only [Option.bind_some]
  by_cases h : (l1.length : Int) > 500
  · rw [if_pos h]
  · rw [if_neg h]
    exact steps_loop l1 hw1 (by omega) _ _ _ _ _ _ w0_4 l1.length (l1.length + 64) 0 a0_3 (by omega) (by omega) (by omega) (by omega)
end Go.Proofs.Ythhiljgngedaaaa.Pure
