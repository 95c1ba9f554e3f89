/- '==' and '!=' of a frame and itself. -/
import Derived.Test.YtijcniflghjoaaaFrC
namespace Go.Proofs.Ytijcniflghjoaaa.Fr
open Go.RowKit Go.Proofs.Ytijcniflghjoaaa.Rg
set_option linter.unusedVariables false
set_option linter.unusedSimpArgs false
def cv6 (x : CV) : Value := .agg #[.bool x.t, .int .i64 x.b, .int .i64 x.c, .int .i64 x.d, .int .i64 x.e, .int .i64 x.f]
theorem part0 (f : Nat → CV) (w : World) : (part 29 (fa f) 0).run Try.prog w = .ok (cv6 (f 0)) w := by kernel_rfl
theorem part6 (f : Nat → CV) (w : World) : (part 30 (fa f) 6).run Try.prog w = .ok (.agg (fb f)) w := by kernel_rfl
theorem partb0 (f : Nat → CV) (w : World) : (part 29 (fb f) 0).run Try.prog w = .ok (cv6 (f 1)) w := by kernel_rfl
theorem partb1 (f : Nat → CV) (w : World) : (part 29 (fb f) 6).run Try.prog w = .ok (cv6 (f 2)) w := by kernel_rfl
theorem partb2 (f : Nat → CV) (w : World) : (part 29 (fb f) 12).run Try.prog w = .ok (cv6 (f 3)) w := by kernel_rfl
theorem partb3 (f : Nat → CV) (w : World) : (part 29 (fb f) 18).run Try.prog w = .ok (cv6 (f 4)) w := by kernel_rfl
theorem eqs (d : Nat) (x : CV) (w : World) : (Op.equalIn (d + 1 + 1) 29 (cv6 x) (cv6 x)).run Try.prog w = .ok true w := by
  have h := eqc d x x w
  rw [decide_eq_true rfl] at h
  exact h
theorem size29 (w : World) : (sizeOf 29).run Try.prog w = .ok 6 w := by kernel_rfl
theorem eq30 (d : Nat) (f : Nat → CV) (w : World) : (Op.equalIn (d + 1 + 1 + 1) 30 (.agg (fb f)) (.agg (fb f))).run Try.prog w = .ok true w := by
  rw [Op.equalIn]
  simp only [Sem.run_bind, run_underlying Try.underlying30, Result.andThen_ok, size29]
  simp only [Std.Legacy.Range.forIn_eq_forIn_range', Std.Legacy.Range.size, Nat.sub_zero, Nat.add_sub_cancel, Nat.div_one, List.range'_succ, List.range'_zero, List.forIn_cons, List.forIn_nil]
  simp [partb0, partb1, partb2, partb3, eqs]
theorem eq32 (d : Nat) (f : Nat → CV) (w : World) : (Op.equalIn (d + 1 + 1 + 1 + 1) 32 (.agg (fa f)) (.agg (fa f))).run Try.prog w = .ok true w := by
  rw [run_equalIn_struct (P := Try.prog) w (d + 1 + 1 + 1) 32 _ _ (by kernel_rfl) (by kernel_rfl)]
  simp only [Program.fieldsOf, Try.underlying32, Op.eqFields]
  simp [part0, part6, eq30, eqs]
theorem eql32 (f : Nat → CV) (w : World) : (binOp .eql 32 (.agg (fa f)) (.agg (fa f))).run Try.prog w = .ok (.bool true) w := by
  have h := fun d => eq32 d f w
  simp only [binOp]
  simp [Op.equal, Op.maxDepth, h 9996, go_sem]
theorem neq32 (f : Nat → CV) (w : World) : (binOp .neq 32 (.agg (fa f)) (.agg (fa f))).run Try.prog w = .ok (.bool false) w := by
  have h := fun d => eq32 d f w
  simp only [binOp]
  simp [Op.equal, Op.maxDepth, h 9996, go_sem]
end Go.Proofs.Ytijcniflghjoaaa.Fr
