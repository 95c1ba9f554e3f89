/- The arguments of layer 13's laws, laid open: what is held, by value. -/
import Derived.Test.YtldgecnmmklldaaQrKit
import Derived.Test.YtldgecnmmklldaaBits
import Derived.ChangeSlices
import Derived.ChangeArms
import Derived.Deep.Slices
import Derived.Deep.Fields
import Derived.Lib.SmallJoins
namespace Go.Proofs.Ytldgecnmmklldaa.Qr
open Go.Joins Go.ChangeShapes Go.WideShapes Go.RowKit Go.Deep
set_option linter.unusedVariables false
section
variable {H : Type} {enc : TypeId × Value → H} {w : World} {base : Nat} {spare : Nat → Bool} {held : Bool}
theorem heldV {r : Reach} {b0 : Nat} {v : Value} {d : DataW H} {p : List MemPlace} (hv : Value.okWide Try.prog w r b0 23 v) (h : DataW.Trod enc Try.prog w base spare held 23 v d p) :
    ∃ (a n t : Int), v = .agg #[.int .i64 a, .int .i64 n, .int .i64 t] ∧ I64 a ∧ I64 n ∧ I64 t := by
  obtain ⟨cs, rfl, hsz⟩ := okWide_struct Try.underlying23 hv
  rw [show Try.prog.cellsOf 23 = 3 from by kernel_rfl] at hsz
  obtain ⟨l⟩ := cs
  match l, hsz with
  | [c0, c1, c2], _ =>
    obtain ⟨fuel, hf⟩ := h
    obtain ⟨xs, n, _, hx, _, hlen, hg⟩ := DataW.trod_struct Try.underlying23 hf
    have e3 : Try.prog.cellsOf 3 = 1 := by kernel_rfl
    have e2 : Try.prog.cellsOf 2 = 1 := by kernel_rfl
    match xs, hlen with
    | [y0, y1, y2], _ =>
      have g0 : DataW.trod enc Try.prog w base spare held n 3 [c0] = some y0 := by simpa [Value.cells, e3, e2] using hg 0 _ rfl
      have g1 : DataW.trod enc Try.prog w base spare held n 3 [c1] = some y1 := by simpa [Value.cells, e3, e2] using hg 1 _ rfl
      have g2 : DataW.trod enc Try.prog w base spare held n 2 [c2] = some y2 := by simpa [Value.cells, e3, e2] using hg 2 _ rfl
      obtain ⟨a, q0, _, w0⟩ := DataW.trod_int Try.underlying3 g0
      obtain ⟨b, q1, _, w1⟩ := DataW.trod_int Try.underlying3 g1
      obtain ⟨c, q2, _, w2⟩ := DataW.trod_int Try.underlying2 g2
      simp only [List.cons.injEq, and_true] at q0 q1 q2
      subst q0 q1 q2
      exact ⟨a, b, c, rfl, Bt.i64 w0, Bt.i64 w1, Bt.i64 w2⟩
end
end Go.Proofs.Ytldgecnmmklldaa.Qr
