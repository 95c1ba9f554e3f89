/- A capability that came in by value, laid open: its six cells, each an int that is one. -/
import Derived.Lib.SmallJoins
import Derived.Deep.Slices
import Derived.Deep.Fields
namespace Go.Proofs.Ytldgecnmmklldaa.Open
open Go.Joins Go.ChangeShapes Go.WideShapes Go.RowKit Go.Deep
section
variable {H : Type} {enc : TypeId × Value → H} {P : Program} {w : World} {base : Nat} {spare : Nat → Bool} {held : Bool}
theorem cap {r : Reach} {b0 : Nat} {t : TypeId} {f0 f1 f2 f3 f4 f5 : Field} {v : Value} {d : DataW H} {p : List MemPlace} (hs : P.underlying t = some (.struct #[f0, f1, f2, f3, f4, f5])) (hone : oneCellFields P #[f0, f1, f2, f3, f4, f5] = true) (hC : P.cellsOf t = 6)
    (u0 : P.underlying f0.type = some .bool) (u1 : P.underlying f1.type = some (.int .i64)) (u2 : P.underlying f2.type = some (.int .i64)) (u3 : P.underlying f3.type = some (.int .i64)) (u4 : P.underlying f4.type = some (.int .i64)) (u5 : P.underlying f5.type = some (.int .i64))
    (hv : Value.okWide P w r b0 t v) (h : DataW.Trod enc P w base spare held t v d p) :
    ∃ (a : Bool) (b c e f g : Int), v = .agg #[.bool a, .int .i64 b, .int .i64 c, .int .i64 e, .int .i64 f, .int .i64 g] ∧
      (Lit.int .i64 b).wf = true ∧ (Lit.int .i64 c).wf = true ∧ (Lit.int .i64 e).wf = true ∧ (Lit.int .i64 f).wf = true ∧ (Lit.int .i64 g).wf = true := by
  obtain ⟨cs, rfl, hsz⟩ := okWide_struct hs hv
  obtain ⟨l⟩ := cs
  match l, hsz.trans hC with
  | [c0, c1, c2, c3, c4, c5], _ =>
    obtain ⟨fuel, hf⟩ := h
    obtain ⟨xs, n, _, hx, _, hlen, hg⟩ := DataW.trod_struct hs hf
    obtain ⟨o0, k0⟩ := hone_of hone 0 f0 rfl
    obtain ⟨o1, k1⟩ := hone_of hone 1 f1 rfl
    obtain ⟨o2, k2⟩ := hone_of hone 2 f2 rfl
    obtain ⟨o3, k3⟩ := hone_of hone 3 f3 rfl
    obtain ⟨o4, k4⟩ := hone_of hone 4 f4 rfl
    obtain ⟨o5, k5⟩ := hone_of hone 5 f5 rfl
    match xs, hlen with
    | [y0, y1, y2, y3, y4, y5], _ =>
      have g0 : DataW.trod enc P w base spare held n f0.type [c0] = some y0 := by simpa [Value.cells, o0, k0] using hg 0 f0 rfl
      have g1 : DataW.trod enc P w base spare held n f1.type [c1] = some y1 := by simpa [Value.cells, o1, k1] using hg 1 f1 rfl
      have g2 : DataW.trod enc P w base spare held n f2.type [c2] = some y2 := by simpa [Value.cells, o2, k2] using hg 2 f2 rfl
      have g3 : DataW.trod enc P w base spare held n f3.type [c3] = some y3 := by simpa [Value.cells, o3, k3] using hg 3 f3 rfl
      have g4 : DataW.trod enc P w base spare held n f4.type [c4] = some y4 := by simpa [Value.cells, o4, k4] using hg 4 f4 rfl
      have g5 : DataW.trod enc P w base spare held n f5.type [c5] = some y5 := by simpa [Value.cells, o5, k5] using hg 5 f5 rfl
      obtain ⟨a, e0, _⟩ := DataW.trod_bool u0 g0
      obtain ⟨b, e1, _, w1⟩ := DataW.trod_int u1 g1
      obtain ⟨c, e2, _, w2⟩ := DataW.trod_int u2 g2
      obtain ⟨e, e3, _, w3⟩ := DataW.trod_int u3 g3
      obtain ⟨f, e4, _, w4⟩ := DataW.trod_int u4 g4
      obtain ⟨g, e5, _, w5⟩ := DataW.trod_int u5 g5
      simp only [List.cons.injEq, and_true] at e0 e1 e2 e3 e4 e5
      subst e0 e1 e2 e3 e4 e5
      exact ⟨a, b, c, e, f, g, rfl, w1, w2, w3, w4, w5⟩
end
end Go.Proofs.Ytldgecnmmklldaa.Open
