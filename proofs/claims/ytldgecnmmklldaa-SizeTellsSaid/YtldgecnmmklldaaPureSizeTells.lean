/- The plain law of SizeTells: what any request takes, its class, and all classes' sizes are the document's. -/
import Derived.Test.YtldgecnmmklldaaSizeFacts
import Derived.Test.YtldgecnmmklldaaPSzx
namespace Go.Proofs.Ytldgecnmmklldaa.Pure
open Go.RowKit Go.Proofs.Ytldgecnmmklldaa.PSz Go.Proofs.YtldgecnmmklldaaW.PrintWords Go.Proofs.YtldgecnmmklldaaW.PrintLast
set_option linter.unusedVariables false
theorem ref_loop (a : Int) (h : 1024 < a) : ∀ j k i : Nat, i + k = 14 → seizinref11_Round.l0 (j + k) a szL (i : Int) = seizinref11_Round.l0 j a szL 14
  | j, 0, i, e => by obtain rfl : i = 14 := by omega
                     rfl
  | j, k + 1, i, e => by
    have ih := ref_loop a h j k (i + 1) (by omega)
    have hr : rd szL (i : Int) ≤ 1024 := by
      have : i = 0 ∨ i = 1 ∨ i = 2 ∨ i = 3 ∨ i = 4 ∨ i = 5 ∨ i = 6 ∨ i = 7 ∨ i = 8 ∨ i = 9 ∨ i = 10 ∨ i = 11 ∨ i = 12 ∨ i = 13 := by omega
      rcases this with h | h | h | h | h | h | h | h | h | h | h | h | h | h <;> subst h <;> decide
    rw [show j + (k + 1) = (j + k) + 1 from rfl]
    conv => lhs; unfold seizinref11_Round.l0
    have hl : (szL.length : Int) = 14 := by decide
    rw [if_pos (by omega), if_pos (by omega), if_neg (by omega), wrapId (by omega) (by omega)]
    exact_mod_cast ih
theorem ref_rest (a : Int) (h : 1024 < a) (h1 : a ≤ 65536) : ∀ (k : Nat) (q : Int), 5 ≤ q → q ≤ (a + 255) / 256 → (a + 255) / 256 - q < k → seizinref11_Round.l1 k a (q * 256) = some (rnd a, true)
  | 0, q, _, _, e => by omega
  | k + 1, q, h5, hq, e => by
    have r0 := reg a
    unfold seizinref11_Round.l1
    by_cases hlt : q * 256 < a
    · rw [if_pos hlt, wrapId (by omega) (by omega)]
      have := ref_rest a h h1 k (q + 1) (by omega) (by omega) (by omega)
      rw [show q * 256 + 256 = (q + 1) * 256 by omega]
      exact this
    · rw [if_neg hlt]
      have : q * 256 = rnd a := by omega
      rw [this]
theorem ref_round (a : Int) (h : 1024 < a) (h1 : a ≤ 65536) : seizinref11_Round.f 300 a = some (rnd a, true) := by
  unfold seizinref11_Round.f
  rw [if_neg (by omega), decide_eq_false (by omega)]
  have ej : ∀ k : Nat, seizinref11_Round.j0 (k + 1) a false = seizinref11_Round.l0 k a szL 0 := fun k => rfl
  refine (ej 299).trans ?_
  have := ref_loop a h 285 14 0 rfl
  rw [show (285 + 14 : Nat) = 299 from rfl] at this
  rw [show ((0 : Nat) : Int) = 0 from rfl] at this
  rw [this]
  have el : ∀ k : Nat, seizinref11_Round.l0 (k + 1) a szL 14 = seizinref11_Round.l1 k a (5 * 256) := fun k => rfl
  refine (el 284).trans ?_
  exact ref_rest a h h1 284 5 (by omega) (by omega) (by omega)
theorem ref_class_loop (m : Int) (h : 1024 < m) : ∀ j k i : Nat, i + k = 14 → seizinref11_Class.l0 (j + k) m szL (i : Int) = seizinref11_Class.l0 j m szL 14
  | j, 0, i, e => by obtain rfl : i = 14 := by omega
                     rfl
  | j, k + 1, i, e => by
    have ih := ref_class_loop m h j k (i + 1) (by omega)
    have hr : rd szL (i : Int) ≤ 1024 := by
      have : i = 0 ∨ i = 1 ∨ i = 2 ∨ i = 3 ∨ i = 4 ∨ i = 5 ∨ i = 6 ∨ i = 7 ∨ i = 8 ∨ i = 9 ∨ i = 10 ∨ i = 11 ∨ i = 12 ∨ i = 13 := by omega
      rcases this with h | h | h | h | h | h | h | h | h | h | h | h | h | h <;> subst h <;> decide
    rw [show j + (k + 1) = (j + k) + 1 from rfl]
    conv => lhs; unfold seizinref11_Class.l0
    have hl : (szL.length : Int) = 14 := by decide
    rw [if_pos (by omega), if_pos (by omega), if_neg (by omega), wrapId (by omega) (by omega)]
    exact_mod_cast ih
theorem ref_class (a : Int) (h : 1024 < a) (h1 : a ≤ 65536) : seizinref11_Class.f 300 a = some 14 := by
  have r0 := reg a
  unfold seizinref11_Class.f
  rw [ref_round a h h1, Option.bind_some]
  simp only [if_true]
  rw [show seizinref11_Sizes.f = some szL from rfl, Option.bind_some]
  have := ref_class_loop (rnd a) (by omega) 286 14 0 rfl
  rw [show (286 + 14 : Nat) = 300 from rfl] at this
  rw [show ((0 : Nat) : Int) = 0 from rfl] at this
  rw [this]
  rfl
theorem ref_out (a : Int) (h : a < 0 ∨ 65536 < a) : seizinref11_Round.f 300 a = some (0, false) := by
  unfold seizinref11_Round.f
  by_cases h0 : a < 0
  · rw [if_pos h0]; rfl
  · rw [if_neg h0, decide_eq_true (by omega)]; rfl
theorem SizeTells : seizinlaw11_SizeTells.Pure := by
  intro a0 w0
  refine ⟨300, ?_⟩
  by_cases h0 : 0 ≤ a0 ∧ a0 ≤ 1024
  · exact small (p := fun a => seizinlaw11_SizeTells.f 300 a = some true) (by decide +kernel) a0 h0.1 h0.2
  have hs : seizinref07_SameInts.f 300 szL szL = some true := by decide +kernel
  unfold seizinlaw11_SizeTells.f
  rw [head_eq]
  by_cases h1 : a0 < 0 ∨ 65536 < a0
  · have hc : seizinref11_Class.f 300 a0 = some (-1) := by unfold seizinref11_Class.f; rw [ref_out a0 h1]; rfl
    rw [round_out a0 h1, ref_out a0 h1, class_out a0 h1, hc, show seizinref11_Sizes.f = some szL from rfl, show size_Sizes.f = some szL from rfl]
    simp only [Option.bind_some, if_true, hs, beq_self_eq_true]
  · rw [round_eq a0 (by omega) (by omega), ref_round a0 (by omega) (by omega), class_eq a0 (by omega) (by omega), ref_class a0 (by omega) (by omega), show seizinref11_Sizes.f = some szL from rfl, show size_Sizes.f = some szL from rfl]
    have r0 := reg a0
    have : cls a0 = 14 := by omega
    simp only [Option.bind_some, if_true, hs, beq_self_eq_true, this]
end Go.Proofs.Ytldgecnmmklldaa.Pure
