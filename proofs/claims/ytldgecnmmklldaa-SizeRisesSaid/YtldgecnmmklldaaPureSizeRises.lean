/- The plain law of SizeRises: more takes no less, and is of no lower class. -/
import Derived.Test.YtldgecnmmklldaaSizeFacts
import Derived.Test.YtldgecnmmklldaaPSzx
namespace Go.Proofs.Ytldgecnmmklldaa.Pure
open Go.RowKit Go.Proofs.Ytldgecnmmklldaa.PSz Go.Proofs.YtldgecnmmklldaaW.PrintWords Go.Proofs.YtldgecnmmklldaaW.PrintLast
set_option linter.unusedVariables false
theorem SizeRises : seizinlaw11_SizeRises.Pure := by
  intro a0 a1 w0 w1
  have h0 := wf_u16 w0
  have h1 := wf_u16 w1
  unfold seizinlaw11_SizeRises.f
  rw [wrapId (n := a0) (by omega) (by omega), wrapId (n := a1) (by omega) (by omega), head_eq, round_eq a0 (by omega) (by omega), round_eq a1 (by omega) (by omega), class_eq a0 (by omega) (by omega), class_eq a1 (by omega) (by omega)]
  simp only [Option.bind_some]
  by_cases hgt : a0 > a1
  · rw [if_pos hgt]
  rw [if_neg hgt, if_pos trivial]
  have r0 := reg a0
  have r1 := reg a1
  have hr : rnd a0 ≤ rnd a1 := by
    rcases r0 with h | h | h | h | h | h | h | h | h | h | h | h | h | h | h <;> omega
  have hc : cls a0 ≤ cls a1 := by
    rcases r0 with h | h | h | h | h | h | h | h | h | h | h | h | h | h | h <;> omega
  rw [if_pos hr, if_pos hc]
  by_cases h2 : a0 > 1024
  · rw [if_pos h2]
  rw [if_neg h2]
  by_cases h3 : a0 = 0
  · rw [if_pos h3]
  rw [if_neg h3]
  have l0 := rnd_le a0 (by omega)
  rw [wrapId (n := rnd a0 - a0) (by omega) (by omega)]
  by_cases h4 : rnd a0 - a0 < 16
  · rw [if_pos h4]
  rw [if_neg h4, wrapId (n := 2 * (rnd a0 - a0)) (by omega) (by omega)]
  have : 2 * (rnd a0 - a0) < a0 := by
    rcases r0 with h | h | h | h | h | h | h | h | h | h | h | h | h | h | h <;> omega
  rw [decide_eq_true this]
end Go.Proofs.Ytldgecnmmklldaa.Pure
