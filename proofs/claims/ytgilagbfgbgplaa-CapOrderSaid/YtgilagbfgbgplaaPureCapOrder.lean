/- The plain law of CapOrder: of right tagged ones Under is an order. -/
import Derived.Test.YtgilagbfgbgplaaCapFacts
import Derived.Test.YtgilagbfgbgplaaCapOrdx
namespace Go.Proofs.Ytgilagbfgbgplaa.Pure
open Go.RowKit Go.Proofs.Ytgilagbfgbgplaa.PCap Go.Proofs.YtgilagbfgbgplaaW.PrintWords Go.Proofs.YtgilagbfgbgplaaW.PrintLast Go.Proofs.YtgilagbfgbgplaaW.PrintMore
set_option linter.unusedVariables false
set_option linter.unusedSimpArgs false

/-- Permissions as sets of bits: reckoned by the kernel. -/
theorem hasLand_fin : ∀ p q : Fin 128, hasB (p.val : Int) (q.val : Int) = (q.val &&& p.val == q.val) := by decide +kernel
theorem hasLand (p q : Int) (hp : 0 ≤ p ∧ p ≤ 127) (hq : 0 ≤ q ∧ q ≤ 127) : hasB p q = (q.toNat &&& p.toNat == q.toNat) := by
  have := hasLand_fin ⟨p.toNat, by omega⟩ ⟨q.toNat, by omega⟩
  simp only [] at this
  rw [show ((p.toNat : Nat) : Int) = p from by omega, show ((q.toNat : Nat) : Int) = q from by omega] at this
  exact this
theorem has_refl (p : Int) (hp : 0 ≤ p ∧ p ≤ 127) : hasB p p = true := by rw [hasLand p p hp hp]; simp
theorem has_trans (p q r : Int) (hp : 0 ≤ p ∧ p ≤ 127) (hq : 0 ≤ q ∧ q ≤ 127) (hr : 0 ≤ r ∧ r ≤ 127) (h1 : hasB p q = true) (h2 : hasB q r = true) : hasB p r = true := by
  rw [hasLand _ _ hp hq, beq_iff_eq] at h1
  rw [hasLand _ _ hq hr, beq_iff_eq] at h2
  rw [hasLand _ _ hp hr, beq_iff_eq]
  calc r.toNat &&& p.toNat = (r.toNat &&& q.toNat) &&& p.toNat := by rw [h2]
    _ = r.toNat &&& (q.toNat &&& p.toNat) := Nat.and_assoc _ _ _
    _ = r.toNat := by rw [h1, h2]
theorem has_anti (p q : Int) (hp : 0 ≤ p ∧ p ≤ 127) (hq : 0 ≤ q ∧ q ≤ 127) (h1 : hasB p q = true) (h2 : hasB q p = true) : p = q := by
  rw [hasLand _ _ hp hq, beq_iff_eq] at h1
  rw [hasLand _ _ hq hp, beq_iff_eq, Nat.and_comm] at h2
  omega
theorem has_all_fin : ∀ q : Fin 128, hasB 127 (q.val : Int) = true := by decide +kernel
theorem has_all (q : Int) (hq : 0 ≤ q ∧ q ≤ 127) : hasB 127 q = true := by
  have := has_all_fin ⟨q.toNat, by omega⟩
  simp only [] at this
  rw [show ((q.toNat : Nat) : Int) = q from by omega] at this
  exact this

theorem under_iff {b c e b' c' e' : Int} : underB b c e b' c' e' = true ↔ (b' ≤ b ∧ b ≤ c ∧ c ≤ c') ∧ hasB e' e = true := by
  unfold underB; simp

theorem CapOrder (a0_0 : Bool) (a0_1 a0_2 a0_3 a0_4 a0_5 : Int) (a1_0 : Bool) (a1_1 a1_2 a1_3 a1_4 a1_5 : Int) (a2_0 : Bool) (a2_1 a2_2 a2_3 a2_4 a2_5 : Int) (w0_1 : I64 a0_1) (w0_2 : I64 a0_2) (w0_3 : I64 a0_3) (w0_4 : I64 a0_4) (w0_5 : I64 a0_5) (w1_1 : I64 a1_1) (w1_2 : I64 a1_2) (w1_3 : I64 a1_3) (w1_4 : I64 a1_4) (w1_5 : I64 a1_5) (w2_1 : I64 a2_1) (w2_2 : I64 a2_2) (w2_3 : I64 a2_3) (w2_4 : I64 a2_4) (w2_5 : I64 a2_5) : ∃ k, seizinlaw02_CapOrder.f k a0_0 a0_1 a0_2 a0_3 a0_4 a0_5 a1_0 a1_1 a1_2 a1_3 a1_4 a1_5 a2_0 a2_1 a2_2 a2_3 a2_4 a2_5 = some true := by
  refine ⟨2, ?_⟩
  unfold seizinlaw02_CapOrder.f
  simp only [head_eq, capRight_eq _ _ _ _ _ _ w0_4, capRight_eq _ _ _ _ _ _ w1_4, capRight_eq _ _ _ _ _ _ w2_4, Option.bind_some]
  cases hR0 : rightB a0_0 a0_1 a0_2 a0_3 a0_4 a0_5
  · simp [seizinlaw02_CapOrder.j0]
  cases hR1 : rightB a1_0 a1_1 a1_2 a1_3 a1_4 a1_5
  · simp [seizinlaw02_CapOrder.j0]
  cases hR2 : rightB a2_0 a2_1 a2_2 a2_3 a2_4 a2_5
  · simp [seizinlaw02_CapOrder.j0]
  cases a0_0
  · simp [seizinlaw02_CapOrder.j0]
  cases a1_0
  · simp [seizinlaw02_CapOrder.j0]
  cases a2_0
  · simp [seizinlaw02_CapOrder.j0]
  unfold rightB at hR0 hR1 hR2
  rw [decide_eq_true_eq] at hR0 hR1 hR2
  unfold RightP at hR0 hR1 hR2
  obtain ⟨r01, r02, r03, r04, r05, r06, r07, r08, r09, r0a, r0b⟩ := hR0
  obtain ⟨r11, r12, r13, r14, r15, r16, r17, r18, r19, r1a, r1b⟩ := hR1
  obtain ⟨r21, r22, r23, r24, r25, r26, r27, r28, r29, r2a, r2b⟩ := hR2
  replace r0b := r0b rfl
  replace r1b := r1b rfl
  replace r2b := r2b rfl
  have p0 : 0 ≤ a0_4 ∧ a0_4 ≤ 127 := ⟨r07, r08⟩
  have p1 : 0 ≤ a1_4 ∧ a1_4 ≤ 127 := ⟨r17, r18⟩
  have p2 : 0 ≤ a2_4 ∧ a2_4 ≤ 127 := ⟨r27, r28⟩
  have w7 : I64 127 := by constructor <;> decide
  have hself : underB a0_1 a0_2 a0_4 a0_1 a0_2 a0_4 = true := under_iff.mpr ⟨by omega, has_refl _ p0⟩
  have hroot : underB a0_1 a0_2 a0_4 0 16777216 127 = true := under_iff.mpr ⟨by omega, has_all _ p0⟩
  have htr : underB a0_1 a0_2 a0_4 a1_1 a1_2 a1_4 = true → underB a1_1 a1_2 a1_4 a2_1 a2_2 a2_4 = true → underB a0_1 a0_2 a0_4 a2_1 a2_2 a2_4 = true := by
    intro h1 h2
    rw [under_iff] at h1 h2
    exact under_iff.mpr ⟨by omega, has_trans _ _ _ p2 p1 p0 h2.2 h1.2⟩
  have hRt : cap_Root.f 16777216 = some (true, 0, 16777216, 0, 127, 0) := by rw [capRoot_eq]; rfl
  have hj : seizinlaw02_CapOrder.j1 1 true (decide ((a0_1 = a1_1 ∧ a0_2 = a1_2) ∧ a0_4 = a1_4)) true a0_1 a0_2 a0_3 a0_4 a0_5 true a1_1 a1_2 a1_3 a1_4 a1_5 true a2_1 a2_2 a2_3 a2_4 a2_5 = some true := by
    have hsame : (underB a0_1 a0_2 a0_4 a1_1 a1_2 a1_4 && underB a1_1 a1_2 a1_4 a0_1 a0_2 a0_4) = decide ((a0_1 = a1_1 ∧ a0_2 = a1_2) ∧ a0_4 = a1_4) := by
      rw [Bool.eq_iff_iff, Bool.and_eq_true, under_iff, under_iff, decide_eq_true_eq]
      constructor
      · rintro ⟨⟨h1, h2⟩, h3, h4⟩
        exact ⟨⟨by omega, by omega⟩, has_anti _ _ p0 p1 h4 h2⟩
      · rintro ⟨⟨h1, h2⟩, h3⟩
        subst h1 h2 h3
        exact ⟨⟨by omega, has_refl _ p0⟩, by omega, has_refl _ p0⟩
    rw [← hsame]
    simp only [seizinlaw02_CapOrder.j1, if_true, capUnder_eq _ _ _ _ _ _ _ _ _ _ _ _ w0_4 w0_4, capUnder_eq _ _ _ _ _ _ _ _ _ _ _ _ w0_4 w1_4, capUnder_eq _ _ _ _ _ _ _ _ _ _ _ _ w1_4 w0_4, capUnder_eq _ _ _ _ _ _ _ _ _ _ _ _ w1_4 w2_4, capUnder_eq _ _ _ _ _ _ _ _ _ _ _ _ w0_4 w2_4, capUnder_eq _ _ _ _ _ _ _ _ _ _ _ _ w0_4 w7, hRt, hself, hroot, Option.bind_some]
    cases h1 : underB a0_1 a0_2 a0_4 a1_1 a1_2 a1_4
    · simp
    cases h2 : underB a1_1 a1_2 a1_4 a2_1 a2_2 a2_4
    · simp
    simp [htr h1 h2]
  simp only [if_true, Bool.not_true, seizinlaw02_CapOrder.j0, Bool.false_eq_true, if_false]
  by_cases e1 : a0_1 = a1_1
  · by_cases e2 : a0_2 = a1_2
    · rw [if_pos e1, if_pos e2]
      rw [show (a0_4 == a1_4) = decide ((a0_1 = a1_1 ∧ a0_2 = a1_2) ∧ a0_4 = a1_4) from by rw [Bool.eq_iff_iff]; simp [e1, e2]]
      exact hj
    · rw [if_pos e1, if_neg e2]
      rw [show false = decide ((a0_1 = a1_1 ∧ a0_2 = a1_2) ∧ a0_4 = a1_4) from by simp [e2]]
      exact hj
  · rw [if_neg e1]
    rw [show false = decide ((a0_1 = a1_1 ∧ a0_2 = a1_2) ∧ a0_4 = a1_4) from by simp [e1]]
    exact hj

end Go.Proofs.Ytgilagbfgbgplaa.Pure
