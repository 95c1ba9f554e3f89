/- The walk of EpochWhen. -/
import Derived.Test.YtgilagbfgbgplaaEpoch
import Derived.Test.YtgilagbfgbgplaaEpochHead
import Derived.Test.YtgilagbfgbgplaaWLast
import Derived.Test.YtgilagbfgbgplaaWMore
namespace Go.Proofs.Ytgilagbfgbgplaa.Ep
open Go.RowKit Go.Proofs.YtgilagbfgbgplaaW.PrintWords Go.Proofs.YtgilagbfgbgplaaW.PrintLast Go.Proofs.YtgilagbfgbgplaaW.PrintMore
set_option linter.unusedVariables false
set_option linter.unusedSimpArgs false
theorem epochWhen_calls (a b : Int) (w : World) (ha : 0 ≤ a ∧ a ≤ 4294967295) (hb : 0 ≤ b ∧ b ≤ 4294967295) : Calls Try.prog 6 #[.int .u32 a, .int .u32 b] w fun e w' => e = .returned (.bool true) ∧ Below w.heap.size w w' := by
  obtain ⟨ha0, ha1⟩ := ha
  obtain ⟨hb0, hb1⟩ := hb
  have ea : whenN a = a + 2 + a % 2 := by unfold whenN; rw [if_neg (by omega), if_neg (by omega)]
  have eb : whenN b = b + 2 + b % 2 := by unfold whenN; rw [if_neg (by omega), if_neg (by omega)]
  have cw := fun W => when_calls a W (by omega) (by omega)
  have cv := fun W => when_calls b W (by omega) (by omega)
  rw [ea] at cw
  rw [eb] at cv
  have H := Lib.hid cw
  have K := Lib.hid cv
  clear cw cv ea eb
  go_enter Try.func6, Try.ntmps6
  go_wp2_with (first | (go_at_call 15; with_reducible refine (head_calls _).mono ?_; rintro e h1 ⟨rfl, hh1⟩) | (go_at_call 28; with_reducible refine (H.out _).mono ?_; rintro e w1 ⟨rfl, rfl⟩) | (go_at_call 28; with_reducible refine (K.out _).mono ?_; rintro e w1 ⟨rfl, rfl⟩))
  all_goals try (exfalso; omega)
  all_goals go_ret
  all_goals exact ⟨by simp; try omega, hh1⟩
end Go.Proofs.Ytgilagbfgbgplaa.Ep
