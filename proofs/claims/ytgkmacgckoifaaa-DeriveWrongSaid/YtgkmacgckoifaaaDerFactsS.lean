/- Plain facts: what the document's functions of layer 4 compute: seals. -/
import Derived.Test.YtgkmacgckoifaaaDerFactsT
import Derived.Test.YtgkmacgckoifaaaPDrx20
import Derived.Test.YtgkmacgckoifaaaPDrx21
import Derived.Test.YtgkmacgckoifaaaPDrx22
namespace Go.Proofs.Ytgkmacgckoifaaa.PDr
open Go.RowKit Go.Proofs.YtgkmacgckoifaaaW.PrintWords Go.Proofs.YtgkmacgckoifaaaW.PrintLast Go.Proofs.YtgkmacgckoifaaaW.PrintMore
set_option linter.unusedVariables false
set_option linter.unusedSimpArgs false

theorem bit_some (p i : Int) (hi : 0 ≤ i) : ∃ b, seizinref01_bit.f p i = some b := by
  unfold seizinref01_bit.f; rw [if_pos hi]; exact ⟨_, rfl⟩
theorem hasEnd (p q : Int) : ((seizinref01_Right.f p).bind fun t226 => (if t226 = true then ((seizinref01_Right.f q).bind fun t227 => (some t227)) else (some false))) = some (decide (0 ≤ p ∧ p ≤ 127) && decide (0 ≤ q ∧ q ≤ 127)) := by
  simp only [refPRight_eq, Option.bind_some]
  generalize decide (0 ≤ p ∧ p ≤ 127) = x
  generalize decide (0 ≤ q ∧ q ≤ 127) = y
  cases x <;> cases y <;> simp
/-- Where one of both is no set of permissions the document's answer is no. -/
theorem refHas_not (p q : Int) (hn : (decide (0 ≤ p ∧ p ≤ 127) && decide (0 ≤ q ∧ q ≤ 127)) = false) (d : Nat) : ∀ (k : Nat) (i : Int), 0 ≤ i → i ≤ 7 → 7 - i = d → d < k → seizinref01_Has.l0 k p q i = some false := by
  induction d with
  | zero =>
    intro k i h0 h1 hd hk
    obtain ⟨k, rfl⟩ : ∃ m, k = m + 1 := ⟨k - 1, by omega⟩
    simp only [seizinref01_Has.l0]; rw [if_neg (by omega), hasEnd, hn]
  | succ d ih =>
    intro k i h0 h1 hd hk
    obtain ⟨k, rfl⟩ : ∃ m, k = m + 1 := ⟨k - 1, by omega⟩
    obtain ⟨x, hx⟩ := bit_some q i h0
    obtain ⟨y, hy⟩ := bit_some p i h0
    have hw : wrap64 (i + 1) = i + 1 := by unfold wrap64; omega
    have r := ih k (i + 1) (by omega) (by omega) (by omega) (by omega)
    simp only [seizinref01_Has.l0]; rw [if_pos (by omega), hx, hy, hw, r]
    cases x <;> cases y <;> simp
/-- Where both are, all of both: reckoned by the kernel. -/
theorem refHas_fin : ∀ p q : Fin 128, seizinref01_Has.f 8 (p.val : Int) (q.val : Int) = some (hasB (p.val : Int) (q.val : Int)) := by decide +kernel
theorem refHas_eq (p q : Int) : seizinref01_Has.f 8 p q = some (hasB p q) := by
  by_cases h : (decide (0 ≤ p ∧ p ≤ 127) && decide (0 ≤ q ∧ q ≤ 127)) = true
  · simp only [Bool.and_eq_true, decide_eq_true_eq] at h
    have := refHas_fin ⟨p.toNat, by omega⟩ ⟨q.toNat, by omega⟩
    simp only [] at this
    rw [show ((p.toNat : Nat) : Int) = p from by omega, show ((q.toNat : Nat) : Int) = q from by omega] at this
    exact this
  · have hn : (decide (0 ≤ p ∧ p ≤ 127) && decide (0 ≤ q ∧ q ≤ 127)) = false := by simpa using h
    unfold seizinref01_Has.f
    rw [refHas_not p q hn 7 8 0 (by omega) (by omega) (by omega) (by omega)]
    unfold hasB
    rw [← Bool.and_assoc, hn, Bool.false_and]
theorem refHas_ge (p q : Int) (k : Nat) (hk : 8 ≤ k) : seizinref01_Has.f k p q = some (hasB p q) := at_rounds (seizinref01_Has.mono p q) hk (refHas_eq p q)
theorem refUnder_eq (k : Nat) (hk : 8 ≤ k) (a : Bool) (b c d e f : Int) (a' : Bool) (b' c' d' e' f' : Int) : seizinref02_Under.f k a b c d e f a' b' c' d' e' f' = some (underB b c e b' c' e') := by
  unfold seizinref02_Under.f underB
  rw [refHas_ge _ _ k hk]
  simp only [Option.bind_some]
  repeat' split
  all_goals (rw [Option.some.injEq, Bool.eq_iff_iff]; simp; try omega)
theorem refAuth_eq (k : Nat) (hk : 8 ≤ k) (a : Bool) (b c d e f p : Int) (hc : I64 c) : seizinref04_authority.f k a b c d e f p = some (authE a b c d e f p) := by
  unfold seizinref04_authority.f authE
  rw [refUsed_eq, refHas_ge _ _ k hk, refIn_eq _ _ _ _ _ _ _ _ hc]
  simp only [Option.bind_some]
  by_cases h : usedE a b c d e f = 0 <;> cases hasB e p <;> cases inB b c d 1 <;> by_cases h1 : d < 2 <;> by_cases h2 : d > 255 <;> simp [h, h1, h2] <;> omega
theorem refSeal_eq (k : Nat) (hk : 8 ≤ k) (a : Bool) (b c d e f : Int) (a' : Bool) (b' c' d' e' f' : Int) (hc' : I64 c') : seizinref04_Seal.f k a b c d e f a' b' c' d' e' f' = some (sealR a b c d e f a' b' c' d' e' f') := by
  unfold seizinref04_Seal.f sealR zz
  rw [refUsed_eq, refAuth_eq k hk _ _ _ _ _ _ _ hc']
  simp only [Option.bind_some]
  by_cases h : usedE a b c d e f = 0 <;> by_cases h2 : authE a' b' c' d' e' f' 32 = 0 <;> simp [h, h2]
theorem refUnseal_eq (k : Nat) (hk : 8 ≤ k) (a : Bool) (b c d e f : Int) (a' : Bool) (b' c' d' e' f' : Int) (hc' : I64 c') : seizinref04_Unseal.f k a b c d e f a' b' c' d' e' f' = some (unsealR a b c d e f a' b' c' d' e' f') := by
  unfold seizinref04_Unseal.f unsealR zz
  rw [refRight_eq, refAuth_eq k hk _ _ _ _ _ _ _ hc']
  simp only [Option.bind_some]
  generalize authE a' b' c' d' e' f' 64 = z
  cases rightB a b c d e f <;> cases a <;> by_cases hf : f = 0 <;> by_cases h2 : z = 0 <;> by_cases h3 : d' = f <;> simp [hf, h2, h3]
theorem refEnter_eq (k : Nat) (hk : 8 ≤ k) (a : Bool) (b c d e f : Int) : seizinref04_Enter.f k a b c d e f = some (enterR a b c d e f) := by
  unfold seizinref04_Enter.f enterR zz
  rw [refUsed_eq, refHas_ge _ _ k hk]
  simp only [Option.bind_some]
  by_cases h : usedE a b c d e f = 0 <;> cases hasB e 4 <;> simp [h]
theorem refBuild_eq (k : Nat) (hk : 8 ≤ k) (a : Bool) (b c d e f : Int) (a' : Bool) (b' c' d' e' f' : Int) : seizinref04_Build.f k a b c d e f a' b' c' d' e' f' = some (buildR a b c d e f a' b' c' d' e' f') := by
  unfold seizinref04_Build.f buildR zz
  rw [refRight_eq, refUsed_eq, refHas_ge _ _ k hk, refUnder_eq k hk]
  simp only [Option.bind_some]
  cases rightB a b c d e f <;> by_cases h : usedE a' b' c' d' e' f' = 0 <;> by_cases hf : f = 0 <;> cases hasB e' e <;> cases underB b c e b' c' e' <;> simp [h, hf]
end Go.Proofs.Ytgkmacgckoifaaa.PDr
