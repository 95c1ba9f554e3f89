/- The plain law of DeriveSeals: what is sealed, unsealed, entered, and built, of any two, or what is wrong, is the document's. -/
import Derived.Test.YtgkmacgckoifaaaDerFactsS
import Derived.Test.YtgkmacgckoifaaaPDrx23
namespace Go.Proofs.Ytgkmacgckoifaaa.Pure
open Go.RowKit Go.Proofs.Ytgkmacgckoifaaa.PDr Go.Proofs.YtgkmacgckoifaaaW.PrintWords Go.Proofs.YtgkmacgckoifaaaW.PrintLast Go.Proofs.YtgkmacgckoifaaaW.PrintMore
set_option linter.unusedVariables false
set_option linter.unusedSimpArgs false

theorem DeriveSeals (a0_0 : Bool) (a0_1 a0_2 a0_3 a0_4 a0_5 : Int) (a1_0 : Bool) (a1_1 a1_2 a1_3 a1_4 a1_5 : Int) (w0_1 : I64 a0_1) (w0_2 : I64 a0_2) (w0_3 : I64 a0_3) (w0_4 : I64 a0_4) (w0_5 : I64 a0_5) (w1_1 : I64 a1_1) (w1_2 : I64 a1_2) (w1_3 : I64 a1_3) (w1_4 : I64 a1_4) (w1_5 : I64 a1_5) : ∃ k, seizinlaw04_DeriveSeals.f k a0_0 a0_1 a0_2 a0_3 a0_4 a0_5 a1_0 a1_1 a1_2 a1_3 a1_4 a1_5 = some true := by
  refine ⟨20, ?_⟩
  unfold seizinlaw04_DeriveSeals.f
  rw [head_eq, Seal_eq _ _ _ _ _ _ _ _ _ _ _ _ w0_4 w1_2 w1_4, refSeal_eq 20 (by omega) _ _ _ _ _ _ _ _ _ _ _ _ w1_2]
  simp only [Option.bind_some]
  generalize sealR a0_0 a0_1 a0_2 a0_3 a0_4 a0_5 a1_0 a1_1 a1_2 a1_3 a1_4 a1_5 = z
  simp only [beq_self_eq_true, Bool.not_true, Bool.or_self, bne_self_eq_false, Bool.false_eq_true, if_false]
  rw [show (20 : Nat) = 19 + 1 from rfl]
  simp only [seizinlaw04_DeriveSeals.j0, Bool.false_eq_true, if_false]
  rw [Unseal_eq _ _ _ _ _ _ _ _ _ _ _ _ w0_4 w1_2 w1_4, refUnseal_eq 19 (by omega) _ _ _ _ _ _ _ _ _ _ _ _ w1_2, Enter_eq _ _ _ _ _ _ w0_4, refEnter_eq 19 (by omega), Build_eq _ _ _ _ _ _ _ _ _ _ _ _ w0_4 w1_4, refBuild_eq 19 (by omega)]
  simp only [Option.bind_some, beq_self_eq_true, Bool.and_self, if_true, Bool.false_eq_true, if_false]

end Go.Proofs.Ytgkmacgckoifaaa.Pure
