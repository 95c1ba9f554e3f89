/- The plain law of AccessBytes: so many bytes may be used just if each of them may, one by one. -/
import Derived.Test.YthhiljgngedaaaaAccFacts
import Derived.Test.YthhiljgngedaaaaPAccx5
namespace Go.Proofs.Ythhiljgngedaaaa.Pure
open Go.RowKit Go.Proofs.Ythhiljgngedaaaa.PAcc Go.Proofs.YthhiljgngedaaaaW.PrintWords Go.Proofs.YthhiljgngedaaaaW.PrintLast Go.Proofs.YthhiljgngedaaaaW.PrintMore
set_option linter.unusedVariables false
set_option linter.unusedSimpArgs false

/-- All that does not hang on where. -/
def restB (a : Bool) (b c d e f need : Int) : Bool := rightB a b c d e f && (decide (0 ≤ need ∧ need ≤ 127) && (a && (decide (f = 0) && hasB e need)))
theorem chk_span (a : Bool) (b c d e f need off n : Int) (hn1 : 1 ≤ n) (hn : n ≤ 16) (ho : -65536 ≤ off) (ho1 : off ≤ 65536) : ((chk a b c d e f need off n).2 == 0) = (restB a b c d e f need && decide (0 ≤ d + off ∧ b ≤ d + off ∧ d + off + n ≤ c)) := by
  have hnear : nearB off = true := by unfold nearB; rw [decide_eq_true_eq]; omega
  have hdn : decide (1 ≤ n ∧ n ≤ 16) = true := by rw [decide_eq_true_eq]; omega
  unfold chk argB restB
  cases hR : rightB a b c d e f
  · simp
  have hP := right_at hR
  unfold RightP at hP
  have e1 : wrap64 (d + off) = d + off := by unfold wrap64; omega
  have hi : inB b c (d + off) n = decide (0 ≤ d + off ∧ b ≤ d + off ∧ d + off + n ≤ c) := by
    unfold inB; rw [Bool.eq_iff_iff, decide_eq_true_eq, decide_eq_true_eq]; omega
  rw [hdn]
  unfold chk2
  rw [e1, hi, hnear]
  generalize decide (0 ≤ d + off ∧ b ≤ d + off ∧ d + off + n ≤ c) = z
  generalize decide (0 ≤ need ∧ need ≤ 127) = y
  cases y
  · simp
  cases a
  · simp
  by_cases hf : f = 0 <;> cases hasB e need <;> cases z <;> simp [hf]

theorem bytes_loop (need off n : Int) (e0 : Int) (a : Bool) (b c d e f : Int) (he : I64 e) (hneed : I64 need) (hc : I64 c) (hd : I64 d) (ho : -32768 ≤ off) (ho1 : off ≤ 32767) (hn : n ≤ 16) (q : Nat) : ∀ (k : Nat) (i : Int) (x : Bool), 0 ≤ i → i ≤ n → n - i = q → q + 1 < k →
    seizinlaw05_AccessBytes.l0 k need off true n e0 x i a b c d e f = some ((e0 == 0) == (x && (decide (i < n → (restB a b c d e f need = true ∧ 0 ≤ d + off + i ∧ b ≤ d + off + i ∧ d + off + n ≤ c))))) := by
  induction q with
  | zero =>
    intro k i x h0 h1 hd hk
    obtain ⟨k, rfl⟩ : ∃ m, k = m + 1 := ⟨k - 1, by omega⟩
    simp only [seizinlaw05_AccessBytes.l0]; rw [if_neg (by omega)]
    have : decide (i < n → (restB a b c d e f need = true ∧ 0 ≤ d + off + i ∧ b ≤ d + off + i ∧ d + off + n ≤ c)) = true := by rw [decide_eq_true_eq]; intro h; omega
    rw [this]; simp
  | succ q ih =>
    intro k i x h0 h1 hd' hk
    obtain ⟨k, rfl⟩ : ∃ m, k = m + 1 := ⟨k - 1, by omega⟩
    have hw : wrap64 (i + 1) = i + 1 := by unfold wrap64; omega
    have hw3 : wrap64 off = off := by unfold wrap64; omega
    have hw2 : wrap64 (off + i) = off + i := by unfold wrap64; omega
    simp only [seizinlaw05_AccessBytes.l0]; rw [if_pos (by omega), hw, hw3, hw2, check_eq k (by omega) _ _ _ _ _ _ _ _ _ he hneed hc]
    simp only [Option.bind_some]
    rw [chk_span a b c d e f need (off + i) 1 (by omega) (by omega) (by omega) (by omega)]
    cases x
    · rw [if_neg (by simp), ih k (i + 1) false (by omega) (by omega) (by omega) (by omega)]
      simp
    · rw [if_pos rfl, ih k (i + 1) _ (by omega) (by omega) (by omega) (by omega)]
      congr 2
      cases restB a b c d e f need
      · simp only [Bool.false_and, Bool.true_and]
        symm
        rw [decide_eq_false_iff_not]
        intro h
        have := (h (by omega)).1
        cases this
      · rw [Bool.eq_iff_iff]
        simp only [Bool.and_eq_true, decide_eq_true_eq, Bool.true_and, true_and]
        omega

theorem AccessBytes (a0_0 : Bool) (a0_1 a0_2 a0_3 a0_4 a0_5 : Int) (a1 a2 a3 : Int) (w0_1 : I64 a0_1) (w0_2 : I64 a0_2) (w0_3 : I64 a0_3) (w0_4 : I64 a0_4) (w0_5 : I64 a0_5) (w1 : I64 a1) (w2 : -32768 ≤ a2 ∧ a2 ≤ 32767) (w3 : 0 ≤ a3 ∧ a3 ≤ 255) : ∃ k, seizinlaw05_AccessBytes.f k a0_0 a0_1 a0_2 a0_3 a0_4 a0_5 a1 a2 a3 = some true := by
  refine ⟨64, ?_⟩
  unfold seizinlaw05_AccessBytes.f
  have e0 : a3.tmod 16 = a3 % 16 := Int.tmod_eq_emod_of_nonneg w3.1
  have e1 : wrap64 (a3 % 16) = a3 % 16 := by unfold wrap64; omega
  have e2 : wrap64 (1 + a3 % 16) = 1 + a3 % 16 := by unfold wrap64; omega
  have e3 : wrap64 a2 = a2 := by unfold wrap64; omega
  simp only [head64, e0, e1, e2, e3, check_eq 64 (by decide) _ _ _ _ _ _ _ _ _ w0_4 w1 w0_2, Option.bind_some]
  rw [bytes_loop a1 a2 (1 + a3 % 16) _ a0_0 a0_1 a0_2 a0_3 a0_4 a0_5 w0_4 w1 w0_2 w0_3 w2.1 w2.2 (by omega) (1 + a3 % 16).toNat 64 0 true (by omega) (by omega) (by omega) (by omega)]
  rw [chk_span a0_0 a0_1 a0_2 a0_3 a0_4 a0_5 a1 a2 (1 + a3 % 16) (by omega) (by omega) (by omega) (by omega)]
  have fin : ∀ (x y : Bool), x = y → (some (x == y) : Option Bool) = some true := by rintro x y rfl; simp
  apply fin
  cases restB a0_0 a0_1 a0_2 a0_3 a0_4 a0_5 a1
  · simp only [Bool.false_and, Bool.true_and]
    symm
    rw [decide_eq_false_iff_not]
    intro h
    have := (h (by omega)).1
    cases this
  · rw [Bool.eq_iff_iff]
    simp only [Bool.true_and, decide_eq_true_eq, true_and]
    omega

end Go.Proofs.Ythhiljgngedaaaa.Pure
