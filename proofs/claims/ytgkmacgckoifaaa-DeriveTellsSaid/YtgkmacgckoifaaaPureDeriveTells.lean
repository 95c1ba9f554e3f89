/- The plain law of DeriveTells: what is made of any two, by any numbers, or what is wrong, is the document's. -/
import Derived.Test.YtgkmacgckoifaaaDerFactsT
import Derived.Test.YtgkmacgckoifaaaPDrx18
import Derived.Test.YtgkmacgckoifaaaPDrx19
namespace Go.Proofs.Ytgkmacgckoifaaa.Pure
open Go.RowKit Go.Proofs.Ytgkmacgckoifaaa.PDr Go.Proofs.YtgkmacgckoifaaaW.PrintWords Go.Proofs.YtgkmacgckoifaaaW.PrintLast Go.Proofs.YtgkmacgckoifaaaW.PrintMore
set_option linter.unusedVariables false
set_option linter.unusedSimpArgs false

theorem DeriveTells (a0_0 : Bool) (a0_1 a0_2 a0_3 a0_4 a0_5 : Int) (a1_0 : Bool) (a1_1 a1_2 a1_3 a1_4 a1_5 : Int) (a2 : Int) (w0_1 : I64 a0_1) (w0_2 : I64 a0_2) (w0_3 : I64 a0_3) (w0_4 : I64 a0_4) (w0_5 : I64 a0_5) (w1_1 : I64 a1_1) (w1_2 : I64 a1_2) (w1_3 : I64 a1_3) (w1_4 : I64 a1_4) (w1_5 : I64 a1_5) (w2 : I64 a2) : ∃ k, seizinlaw04_DeriveTells.f k a0_0 a0_1 a0_2 a0_3 a0_4 a0_5 a1_0 a1_1 a1_2 a1_3 a1_4 a1_5 a2 = some true := by
  refine ⟨1, ?_⟩
  unfold seizinlaw04_DeriveTells.f
  rw [head_eq, Bounds_eq _ _ _ _ _ _ _ w0_2 w0_4, refBounds_eq _ _ _ _ _ _ _ w0_2]
  simp only [Option.bind_some]
  generalize boundsR a0_0 a0_1 a0_2 a0_3 a0_4 a0_5 a2 = z
  simp only [beq_self_eq_true, Bool.not_true, Bool.or_self, bne_self_eq_false, Bool.false_eq_true, if_false]
  have ej : ∀ (k : Nat), seizinlaw04_DeriveTells.j0 (k + 1) a2 true false a0_0 a0_1 a0_2 a0_3 a0_4 a0_5 a1_0 a1_1 a1_2 a1_3 a1_4 a1_5 = seizinlaw04_DeriveTells.j0 (k + 1) a2 true false a0_0 a0_1 a0_2 a0_3 a0_4 a0_5 a1_0 a1_1 a1_2 a1_3 a1_4 a1_5 := fun _ => rfl
  rw [show (1 : Nat) = 0 + 1 from rfl]
  simp only [seizinlaw04_DeriveTells.j0, Bool.false_eq_true, if_false]
  unfold derive_Clear.f seizinref04_Clear.f
  rw [Perms_eq _ _ _ _ _ _ _ w0_4 w2, refPerms_eq, Move_eq _ _ _ _ _ _ _ w0_4, refMove_eq _ _ _ _ _ _ _ w2]
  simp only [Option.bind_some, beq_self_eq_true, Bool.and_self, if_true, Bool.false_eq_true, if_false]

end Go.Proofs.Ytgkmacgckoifaaa.Pure
