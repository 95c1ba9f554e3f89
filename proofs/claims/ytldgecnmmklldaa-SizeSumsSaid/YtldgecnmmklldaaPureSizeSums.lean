/- The plain law of SizeSums: two requests together take no more than both do, and 256 more. -/
import Derived.Test.YtldgecnmmklldaaSizeFacts
import Derived.Test.YtldgecnmmklldaaPSzx
namespace Go.Proofs.Ytldgecnmmklldaa.Pure
open Go.RowKit Go.Proofs.Ytldgecnmmklldaa.PSz Go.Proofs.YtldgecnmmklldaaW.PrintWords Go.Proofs.YtldgecnmmklldaaW.PrintLast
set_option linter.unusedVariables false
theorem SizeSums : seizinlaw11_SizeSums.Pure := by
  intro a0 a1 w0 w1
  have h0 := wf_u16 w0
  have h1 := wf_u16 w1
  unfold seizinlaw11_SizeSums.f
  rw [wrapId (n := a0) (by omega) (by omega), wrapId (n := a1) (by omega) (by omega), wrapId (n := a0 + a1) (by omega) (by omega), head_eq, round_eq a0 (by omega) (by omega), round_eq a1 (by omega) (by omega)]
  have l0 := rnd_le a0 (by omega)
  have l1 := rnd_le a1 (by omega)
  simp only [Option.bind_some, if_true]
  by_cases hb : a0 + a1 ≤ 65536
  · rw [round_eq (a0 + a1) (by omega) hb]
    have l2 := rnd_le (a0 + a1) (by omega)
    simp only [Option.bind_some, if_true, decide_eq_true hb, bne_self_eq_false, Bool.false_eq_true, if_false]
    rw [wrapId (n := rnd a0 + rnd a1) (by omega) (by omega), wrapId (n := rnd a0 + rnd a1 + 256) (by omega) (by omega), wrapId (n := rnd a0 - 256) (by omega) (by omega), if_pos (by omega), if_pos (by omega), decide_eq_true (by omega)]
  · rw [round_out (a0 + a1) (by omega)]
    simp only [Option.bind_some, decide_eq_false hb, bne_self_eq_false, Bool.false_eq_true, if_false]
end Go.Proofs.Ytldgecnmmklldaa.Pure
