/- The plain law of CapIn: a span has all bytes that it has one by one, and no other ones. -/
import Derived.Test.YtgilagbfgbgplaaCapFacts
import Derived.Test.YtgilagbfgbgplaaPCapx7
namespace Go.Proofs.Ytgilagbfgbgplaa.Pure
open Go.RowKit Go.Proofs.Ytgilagbfgbgplaa.PCap Go.Proofs.YtgilagbfgbgplaaW.PrintWords Go.Proofs.YtgilagbfgbgplaaW.PrintLast Go.Proofs.YtgilagbfgbgplaaW.PrintMore
set_option linter.unusedVariables false
set_option linter.unusedSimpArgs false


theorem capIn_loop (b c a n : Int) (t : Bool) (d e f : Int) (hb0 : 0 ≤ b) (hb : b ≤ 4294967295) (hc0 : 0 ≤ c) (hc : c ≤ 4294967295) (ha : b - 20 ≤ a) (ha1 : a ≤ b + 64) (hn : n ≤ 64) (q : Nat) : ∀ (k : Nat) (i : Int) (x : Bool), 0 ≤ i → i ≤ n → n - i = q → q < k →
    seizinlaw02_CapIn.l0 k true a n x i t b c d e f = some (inB b c a n == (x && decide (i < n → b ≤ a + i ∧ a + n ≤ c))) := by
  induction q with
  | zero =>
    intro k i x h0 h1 hd hk
    obtain ⟨k, rfl⟩ : ∃ m, k = m + 1 := ⟨k - 1, by omega⟩
    simp only [seizinlaw02_CapIn.l0]; rw [if_neg (by omega), if_pos trivial, capIn_eq _ _ _ _ _ _ _ _ ⟨by omega, by omega⟩]
    have : decide (i < n → b ≤ a + i ∧ a + n ≤ c) = true := by rw [decide_eq_true_eq]; omega
    rw [this]; simp
  | succ q ih =>
    intro k i x h0 h1 hd hk
    obtain ⟨k, rfl⟩ : ∃ m, k = m + 1 := ⟨k - 1, by omega⟩
    have hw : wrap64 (i + 1) = i + 1 := by unfold wrap64; omega
    have hw2 : wrap64 (a + i) = a + i := by unfold wrap64; omega
    simp only [seizinlaw02_CapIn.l0]; rw [if_pos (by omega), hw, hw2]
    cases x
    · rw [if_neg (by simp), ih k (i + 1) false (by omega) (by omega) (by omega) (by omega)]
      simp
    · rw [if_pos rfl]
      by_cases hge : a + i ≥ b
      · rw [if_pos hge, ih k (i + 1) _ (by omega) (by omega) (by omega) (by omega)]
        congr 2
        rw [Bool.eq_iff_iff]
        simp only [Bool.and_eq_true, decide_eq_true_eq, Bool.true_and]
        omega
      · rw [if_neg hge, ih k (i + 1) _ (by omega) (by omega) (by omega) (by omega)]
        congr 2
        rw [Bool.eq_iff_iff]
        simp only [Bool.and_eq_true, decide_eq_true_eq, Bool.true_and, Bool.false_and, Bool.false_eq_true, false_iff]
        omega

theorem CapIn (a0_0 : Bool) (a0_1 a0_2 a0_3 a0_4 a0_5 : Int) (a1 a2 : Int) (w0_1 : I64 a0_1) (w0_2 : I64 a0_2) (w0_3 : I64 a0_3) (w0_4 : I64 a0_4) (w0_5 : I64 a0_5) (w1 : 0 ≤ a1 ∧ a1 ≤ 65535) (w2 : 0 ≤ a2 ∧ a2 ≤ 255) : ∃ k, seizinlaw02_CapIn.f k a0_0 a0_1 a0_2 a0_3 a0_4 a0_5 a1 a2 = some true := by
  refine ⟨70, ?_⟩
  unfold seizinlaw02_CapIn.f
  simp only [head_eq, capRight_eq _ _ _ _ _ _ w0_4, Option.bind_some]
  cases hR : rightB a0_0 a0_1 a0_2 a0_3 a0_4 a0_5
  · simp [seizinlaw02_CapIn.j0]
  cases a0_0
  · simp [seizinlaw02_CapIn.j0]
  unfold rightB at hR
  rw [decide_eq_true_eq] at hR
  unfold RightP at hR
  obtain ⟨r1, r2, r3, r4, r5, r6, r7, r8, r9, r10, r11⟩ := hR
  have r11 := r11 rfl
  have e1 : wrap64 a1 = a1 := by unfold wrap64; omega
  have e2 : wrap64 a2 = a2 := by unfold wrap64; omega
  have e3 : a1.tmod 64 = a1 % 64 := Int.tmod_eq_emod_of_nonneg w1.1
  have e4 : a2.tmod 64 = a2 % 64 := Int.tmod_eq_emod_of_nonneg w2.1
  have e5 : wrap64 (a0_1 - 20) = a0_1 - 20 := by unfold wrap64; omega
  have e6 : wrap64 (a0_1 - 20 + a1 % 64) = a0_1 - 20 + a1 % 64 := by unfold wrap64; omega
  try simp only [if_true, Bool.not_true]
  unfold seizinlaw02_CapIn.j0
  simp only [Bool.false_eq_true, if_false, e1, e2, e3, e4, e5, e6]
  have key : ∀ x, seizinlaw02_CapIn.j1 69 true (a0_1 - 20 + a1 % 64) (a2 % 64) x true a0_1 a0_2 a0_3 a0_4 a0_5 = some (inB a0_1 a0_2 (a0_1 - 20 + a1 % 64) (a2 % 64) == (x && decide (0 < a2 % 64 → a0_1 ≤ (a0_1 - 20 + a1 % 64) + 0 ∧ (a0_1 - 20 + a1 % 64) + a2 % 64 ≤ a0_2))) := by
    intro x
    unfold seizinlaw02_CapIn.j1
    exact capIn_loop a0_1 a0_2 _ _ _ _ _ _ r1 r2 r3 r4 (by omega) (by omega) (by omega) (a2 % 64).toNat 68 0 x (by omega) (by omega) (by omega) (by omega)
  generalize ha : a0_1 - 20 + a1 % 64 = a at *
  have hn0 : 0 ≤ a2 % 64 := by omega
  generalize a2 % 64 = n at *
  have fin : ∀ (x y : Bool), x = y → (some (x == y) : Option Bool) = some true := by rintro x y rfl; simp
  split
  · split
    · rw [key]
      apply fin
      unfold inB
      rw [Bool.eq_iff_iff]
      simp only [Bool.and_eq_true, decide_eq_true_eq]
      omega
    · rw [key]
      apply fin
      unfold inB
      rw [Bool.eq_iff_iff]
      simp only [Bool.and_eq_true, decide_eq_true_eq, Bool.false_and, Bool.false_eq_true, iff_false]
      omega
  · rw [key]
    apply fin
    unfold inB
    rw [Bool.eq_iff_iff]
    simp only [Bool.and_eq_true, decide_eq_true_eq, Bool.false_and, Bool.false_eq_true, iff_false]
    omega

end Go.Proofs.Ytgilagbfgbgplaa.Pure
