/- '==' and '!=' of capabilities. -/
import Derived.Test.YtijcniflghjoaaaRgKit
import Derived.Laws.StructEq
namespace Go.Proofs.Ytijcniflghjoaaa.Rg
open Go.RowKit
theorem eqi (d : Nat) (a b : Int) (w : World) : (Op.equalIn (d + 1) 3 (.int .i64 a) (.int .i64 b)).run Try.prog w = .ok (a == b) w := by
  simp [Op.equalIn, run_underlying Try.underlying3]
theorem eqb (d : Nat) (a b : Bool) (w : World) : (Op.equalIn (d + 1) 4 (.bool a) (.bool b)).run Try.prog w = .ok (a == b) w := by
  simp [Op.equalIn, run_underlying Try.underlying4]
theorem eqc (d : Nat) (x y : CV) (w : World) : (Op.equalIn (d + 1 + 1) 29 x.val y.val).run Try.prog w = .ok (decide (x = y)) w := by
  unfold CV.val
  rw [run_equalIn_struct (P := Try.prog) w (d + 1) 29 _ _ (by kernel_rfl) (by kernel_rfl)]
  have h : decide (x = y) = ((x.t == y.t) && ((x.b == y.b) && ((x.c == y.c) && ((x.d == y.d) && ((x.e == y.e) && (x.f == y.f)))))) := by
    obtain ⟨x0, x1, x2, x3, x4, x5⟩ := x
    obtain ⟨y0, y1, y2, y3, y4, y5⟩ := y
    rw [Bool.eq_iff_iff]; simp
  rw [h]
  simp only [Program.fieldsOf, Try.underlying29, Op.eqFields]
  simp [eqi, eqb, go_sem]
  clear h
  by_cases h0 : x.t = y.t <;> by_cases h1 : x.b = y.b <;> by_cases h2 : x.c = y.c <;> by_cases h3 : x.d = y.d <;> by_cases h4 : x.e = y.e <;> by_cases h5 : x.f = y.f <;> simp [h0, h1, h2, h3, h4, h5]
theorem eql29 (x y : CV) (w : World) : (binOp .eql 29 x.val y.val).run Try.prog w = .ok (.bool (decide (x = y))) w := by
  have h := fun d => eqc d x y w
  unfold CV.val at *
  simp only [binOp]
  simp [Op.equal, Op.maxDepth, h 9998, go_sem]
theorem neq29 (x y : CV) (w : World) : (binOp .neq 29 x.val y.val).run Try.prog w = .ok (.bool (!decide (x = y))) w := by
  have h := fun d => eqc d x y w
  unfold CV.val at *
  simp only [binOp]
  simp [Op.equal, Op.maxDepth, h 9998, go_sem]
end Go.Proofs.Ytijcniflghjoaaa.Rg
