/- The plain law of SizeLeast: what a request takes is no less, a multiple of 16, and takes itself; no class's size between would do. -/
import Derived.Test.YtldgecnmmklldaaSizeFacts
import Derived.Test.YtldgecnmmklldaaPSzx
namespace Go.Proofs.Ytldgecnmmklldaa.Pure
open Go.RowKit Go.Proofs.Ytldgecnmmklldaa.PSz Go.Proofs.YtldgecnmmklldaaW.PrintWords Go.Proofs.YtldgecnmmklldaaW.PrintLast
set_option linter.unusedVariables false
theorem least_loop (n a : Int) (h : 1024 < n) : ∀ k i : Nat, i + k = 14 → seizinlaw11_SizeLeast.l0 (6 + k) true n a szL (i : Int) = seizinlaw11_SizeLeast.l0 6 true n a szL 14
  | 0, i, e => by obtain rfl : i = 14 := by omega
                  rfl
  | k + 1, i, e => by
    have ih := least_loop n a h k (i + 1) (by omega)
    have hr : rd szL (i : Int) ≤ 1024 := by
      have : i = 0 ∨ i = 1 ∨ i = 2 ∨ i = 3 ∨ i = 4 ∨ i = 5 ∨ i = 6 ∨ i = 7 ∨ i = 8 ∨ i = 9 ∨ i = 10 ∨ i = 11 ∨ i = 12 ∨ i = 13 := by omega
      rcases this with h | h | h | h | h | h | h | h | h | h | h | h | h | h <;> subst h <;> decide
    rw [show 6 + (k + 1) = (6 + k) + 1 from rfl]
    conv => lhs; unfold seizinlaw11_SizeLeast.l0
    have hl : (szL.length : Int) = 14 := by decide
    rw [if_pos (by omega), if_pos (by omega), if_neg (by omega), wrapId (by omega) (by omega)]
    exact_mod_cast ih
theorem SizeLeast : seizinlaw11_SizeLeast.Pure := by
  intro a0 w0
  have h0 := wf_u16 w0
  refine ⟨21, ?_⟩
  by_cases hs : a0 ≤ 1024
  · exact small (p := fun a => seizinlaw11_SizeLeast.f 21 a = some true) (by decide +kernel) a0 (by omega) hs
  have l0 := rnd_le a0 (by omega)
  have r0 := reg a0
  have e0 : rnd a0 = (a0 + 255) / 256 * 256 := by omega
  have r1 := reg (rnd a0)
  have e1 : rnd (rnd a0) = rnd a0 := by omega
  unfold seizinlaw11_SizeLeast.f
  rw [wrapId (n := a0) (by omega) (by omega), head_eq, round_eq a0 (by omega) (by omega)]
  simp only [Option.bind_some]
  rw [round_eq (rnd a0) (by omega) (by omega), e1]
  have ht : Int.tmod (rnd a0) 16 = 0 := by rw [Int.tmod_eq_emod_of_nonneg (by omega)]; omega
  have ht2 : Int.tmod (rnd a0) 256 = 0 := by rw [Int.tmod_eq_emod_of_nonneg (by omega)]; omega
  simp only [Option.bind_some, if_true, ht]
  rw [if_neg (by omega), if_neg (by omega)]
  have ej : ∀ k : Nat, seizinlaw11_SizeLeast.j0 (k + 1) true a0 (rnd a0) (0 != 0) = seizinlaw11_SizeLeast.l0 k true a0 (rnd a0) szL 0 := fun k => rfl
  refine (ej 20).trans ?_
  have := least_loop a0 (rnd a0) (by omega) 14 0 rfl
  rw [show (6 + 14 : Nat) = 20 from rfl] at this
  rw [show ((0 : Nat) : Int) = 0 from rfl] at this
  rw [this]
  have el : seizinlaw11_SizeLeast.l0 6 true a0 (rnd a0) szL 14 = seizinlaw11_SizeLeast.l0 (5 + 1) true a0 (rnd a0) szL 14 := rfl
  rw [el]
  unfold seizinlaw11_SizeLeast.l0
  have hl : (szL.length : Int) = 14 := by decide
  rw [if_neg (by omega), if_pos rfl, if_neg hs, wrapId (by omega) (by omega), if_pos (by omega), ht2]
  rfl
end Go.Proofs.Ytldgecnmmklldaa.Pure
