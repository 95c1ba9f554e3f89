/- Plain facts: what the document's functions of layer 4 compute: bounds, permissions, places. -/
import Derived.Test.YtgkmacgckoifaaaDerFacts
import Derived.Test.YtgkmacgckoifaaaPDrx17
namespace Go.Proofs.Ytgkmacgckoifaaa.PDr
open Go.RowKit Go.Proofs.YtgkmacgckoifaaaW.PrintWords Go.Proofs.YtgkmacgckoifaaaW.PrintLast Go.Proofs.YtgkmacgckoifaaaW.PrintMore
set_option linter.unusedVariables false
set_option linter.unusedSimpArgs false

theorem refUsed_eq (a : Bool) (b c d e f : Int) : seizinref04_used.f a b c d e f = some (usedE a b c d e f) := by
  unfold seizinref04_used.f usedE
  rw [refRight_eq]
  simp only [Option.bind_some]
  repeat' split
  all_goals rfl
theorem refBounds_eq (a : Bool) (b c d e f n : Int) (hc : I64 c) : seizinref04_Bounds.f a b c d e f n = some (boundsR a b c d e f n) := by
  unfold seizinref04_Bounds.f boundsR zz
  rw [refUsed_eq, refIn_eq _ _ _ _ _ _ _ _ hc]
  simp only [Option.bind_some]
  by_cases h : usedE a b c d e f = 0 <;> cases inB b c d n <;> simp [h]
theorem used0 {a : Bool} {b c d e f : Int} (h : usedE a b c d e f = 0) : rightB a b c d e f = true ∧ a = true ∧ f = 0 := by
  unfold usedE at h
  cases h1 : rightB a b c d e f <;> cases a <;> by_cases hf : f = 0 <;> simp_all
theorem refPerms_eq (a : Bool) (b c d e f n : Int) : seizinref04_Perms.f a b c d e f n = some (permsR a b c d e f n) := by
  unfold seizinref04_Perms.f permsR zz
  rw [refUsed_eq, refPRight_eq]
  simp only [Option.bind_some]
  generalize decide (0 ≤ n ∧ n ≤ 127) = y
  by_cases h : usedE a b c d e f = 0 <;> cases y <;> simp [h]
theorem refMod_eq (n : Int) (h : I64 n) : seizinref02_Mod.f n = some (n % 4294967296) := by
  obtain ⟨h0, h1⟩ := h
  unfold seizinref02_Mod.f wrap64
  have e : n.tmod 4294967296 = if 0 ≤ n then n % 4294967296 else -((-n) % 4294967296) := by
    split
    · rename_i h; exact Int.tmod_eq_emod_of_nonneg h
    · rename_i h
      have : n.tmod 4294967296 = -((-n).tmod 4294967296) := by rw [Int.neg_tmod]; omega
      rw [this, Int.tmod_eq_emod_of_nonneg (by omega)]
  rw [e]
  repeat' split
  all_goals first | rfl | (rw [Option.some.injEq]; omega) | (exfalso; omega)
theorem refMove_eq (a : Bool) (b c d e f n : Int) (hn : I64 n) : seizinref04_Move.f a b c d e f n = some (moveR a b c d e f n) := by
  unfold seizinref04_Move.f moveR zz
  rw [refRight_eq, refMod_eq n hn]
  simp only [Option.bind_some]
  cases rightB a b c d e f <;> cases a <;> by_cases hf : f = 0 <;> simp [hf]
end Go.Proofs.Ytgkmacgckoifaaa.PDr
