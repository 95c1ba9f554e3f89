/- The arguments of layer 18's laws, laid open: a row of calls. -/
import Derived.Test.YtijcniflghjoaaaRgOps
import Derived.ChangeSlices
import Derived.ChangeArms
import Derived.Deep.Slices
import Derived.Deep.Fields
import Derived.Lib.SmallJoins
import Derived.RowKit
namespace Go.Proofs.Ytijcniflghjoaaa.Rg
open Go.Joins Go.ChangeShapes Go.WideShapes Go.RowKit Go.Deep
set_option linter.unusedVariables false
section
variable {H : Type} {enc : TypeId × Value → H} {w : World} {base : Nat} {spare : Nat → Bool} {held : Bool}
theorem add_add' (a : Addr) (i j : Nat) : (a.add i).add j = a.add (i + j) := by
  unfold Addr.add
  by_cases hi : i = 0 <;> by_cases hj : j = 0 <;> simp [hi, hj, Nat.add_assoc]
/-- A row's cells, its address taken apart. -/
theorem rowAt {a : Addr} {len S : Nat} {cs : Nat → List Value} (hS : 0 < S) (h : ∀ i, i < len → w.cells? base (a.add (i * S)) S = some (cs i)) (h0 : 0 < len) :
    ∃ B o, a = ⟨B, o, none⟩ ∧ B < w.heap.size ∧ ∀ i j, i < len → j < S → w.cell? ⟨B, o + i * S + j, none⟩ = (cs i)[j]? := by
  have hc : ∀ i j, i < len → j < S → w.cell? (a.add (i * S + j)) = (cs i)[j]? := fun i j hi hj => by
    obtain ⟨_, _, hat⟩ := World.cells?_some (h i hi)
    rw [← add_add']; exact hat j hj
  have hl : (cs 0).length = S := (World.cells?_some (h 0 h0)).2.1
  have hz := hc 0 0 h0 hS
  rw [Nat.zero_mul, Nat.add_zero, List.getElem?_eq_getElem (by omega)] at hz
  have ha0 : a.add 0 = a := by unfold Addr.add; rw [if_pos rfl]
  rw [ha0] at hz
  obtain ⟨B, o, s⟩ := a
  have hs : s = none := by
    cases s with
    | none => rfl
    | some x =>
      exfalso
      simp only [World.cell?] at hz
      split at hz
      · simp at hz
      · cases hz
  subst hs
  refine ⟨B, o, rfl, World.block_lt_of_cell? w _ hz, fun i j hi hj => ?_⟩
  rw [← hc i j hi hj]
  congr 1
  unfold Addr.add
  split
  · rename_i e; first | (simp; done) | (simp; omega)
  · first | (simp; done) | (simp; omega)
theorem capC {n : Nat} {cs : List Value} {y : DataW H × List MemPlace} (h : DataW.trod enc Try.prog w base spare held n 29 cs = some y) :
    ∃ x : CV, cs = [.bool x.t, .int .i64 x.b, .int .i64 x.c, .int .i64 x.d, .int .i64 x.e, .int .i64 x.f] ∧ x.ok := by
  obtain ⟨xs, n, _, _, hlen, hxs, hg⟩ := DataW.trod_struct Try.underlying29 h
  rw [show Try.prog.cellsOf 29 = 6 from by kernel_rfl] at hlen
  match cs, hlen with
  | [c0, c1, c2, c3, c4, c5], _ =>
    have e4 : Try.prog.cellsOf 4 = 1 := by kernel_rfl
    have e3 : Try.prog.cellsOf 3 = 1 := by kernel_rfl
    match xs, hxs with
    | [y0, y1, y2, y3, y4, y5], _ =>
      have g0 : DataW.trod enc Try.prog w base spare held n 4 [c0] = some y0 := by simpa [e4] using hg 0 _ rfl
      have g1 : DataW.trod enc Try.prog w base spare held n 3 [c1] = some y1 := by simpa [e3] using hg 1 _ rfl
      have g2 : DataW.trod enc Try.prog w base spare held n 3 [c2] = some y2 := by simpa [e3] using hg 2 _ rfl
      have g3 : DataW.trod enc Try.prog w base spare held n 3 [c3] = some y3 := by simpa [e3] using hg 3 _ rfl
      have g4 : DataW.trod enc Try.prog w base spare held n 3 [c4] = some y4 := by simpa [e3] using hg 4 _ rfl
      have g5 : DataW.trod enc Try.prog w base spare held n 3 [c5] = some y5 := by simpa [e3] using hg 5 _ rfl
      obtain ⟨a, q0, _⟩ := DataW.trod_bool Try.underlying4 g0
      obtain ⟨b, q1, _, w1⟩ := DataW.trod_int Try.underlying3 g1
      obtain ⟨c, q2, _, w2⟩ := DataW.trod_int Try.underlying3 g2
      obtain ⟨d, q3, _, w3⟩ := DataW.trod_int Try.underlying3 g3
      obtain ⟨e, q4, _, w4⟩ := DataW.trod_int Try.underlying3 g4
      obtain ⟨f, q5, _, w5⟩ := DataW.trod_int Try.underlying3 g5
      simp only [List.cons.injEq, and_true] at q0 q1 q2 q3 q4 q5
      subst q0 q1 q2 q3 q4 q5
      exact ⟨⟨a, b, c, d, e, f⟩, rfl, Bt.i64 w1, Bt.i64 w2, Bt.i64 w3, Bt.i64 w4, Bt.i64 w5⟩
theorem rowC {n : Nat} {v : Value} {y : DataW H × List MemPlace} (h : DataW.trod enc Try.prog w base spare held n 37 [v] = some y) :
    ∃ (A : Option Addr) (len cap : Nat) (l : Nat → CV), v = .slice A len cap ∧ Row w A len l ∧ (∀ i, i < len → (l i).ok) ∧ len ≤ cap ∧ cap ≤ maxLen := by
  rcases DataW.trod_slice Try.underlying37 h with ⟨h0, _⟩ | ⟨a, len, cap, elems, rest, n, _, hcs, _, hb, hl, hm, hlen, hel, _, _⟩
  · simp only [List.cons.injEq, and_true] at h0
    exact ⟨none, 0, 0, fun _ => CV.zero, h0, fun i hi => absurd hi (by omega), fun i hi => absurd hi (by omega), Nat.le_refl _, by decide⟩
  · simp only [List.cons.injEq, and_true] at hcs
    rw [show Try.prog.cellsOf 29 = 6 from by kernel_rfl] at hel
    have each : ∀ i, ∃ x : CV, i < len → w.cells? base (a.add (i * 6)) 6 = some [.bool x.t, .int .i64 x.b, .int .i64 x.c, .int .i64 x.d, .int .i64 x.e, .int .i64 x.f] ∧ x.ok := fun i => by
      by_cases hi : i < len
      · have hE := hel i hi
        rw [List.getElem?_eq_getElem (by omega), Option.bind_eq_some_iff] at hE
        obtain ⟨cs', hcs, hy⟩ := hE
        obtain ⟨x, rfl, ho⟩ := capC hy
        exact ⟨x, fun _ => ⟨hcs, ho⟩⟩
      · exact ⟨CV.zero, fun h => absurd h hi⟩
    refine ⟨some a, len, cap, fun i => Classical.choose (each i), hcs, fun i hi => ?_, fun i hi => (Classical.choose_spec (each i) hi).2, hl, hm⟩
    obtain ⟨B, o, rfl, hB, hc⟩ := rowAt (by omega) (fun i hi => (Classical.choose_spec (each i) hi).1) (by omega : 0 < len)
    exact ⟨B, o, rfl, hB, hc i 0 hi (by omega), hc i 1 hi (by omega), hc i 2 hi (by omega), hc i 3 hi (by omega), hc i 4 hi (by omega), hc i 5 hi (by omega)⟩
theorem opC {n : Nat} {cs : List Value} {y : DataW H × List MemPlace} (h : DataW.trod enc Try.prog w base spare held n 54 cs = some y) :
    ∃ x : OpV, cs = [.int .i64 x.q, .int .i64 x.a, .int .i64 x.b, .bool x.x.t, .int .i64 x.x.b, .int .i64 x.x.c, .int .i64 x.x.d, .int .i64 x.x.e, .int .i64 x.x.f, .slice x.A x.n x.c] ∧ OpOk w x := by
  obtain ⟨xs, n, _, _, hlen, hxs, hg⟩ := DataW.trod_struct Try.underlying54 h
  rw [show Try.prog.cellsOf 54 = 10 from by kernel_rfl] at hlen
  match cs, hlen with
  | [c0, c1, c2, c3, c4, c5, c6, c7, c8, c9], _ =>
    have e3 : Try.prog.cellsOf 3 = 1 := by kernel_rfl
    have e29 : Try.prog.cellsOf 29 = 6 := by kernel_rfl
    have e37 : Try.prog.cellsOf 37 = 1 := by kernel_rfl
    match xs, hxs with
    | [y0, y1, y2, y3, y4], _ =>
      have g0 : DataW.trod enc Try.prog w base spare held n 3 [c0] = some y0 := by simpa [e3] using hg 0 _ rfl
      have g1 : DataW.trod enc Try.prog w base spare held n 3 [c1] = some y1 := by simpa [e3] using hg 1 _ rfl
      have g2 : DataW.trod enc Try.prog w base spare held n 3 [c2] = some y2 := by simpa [e3] using hg 2 _ rfl
      have g3 : DataW.trod enc Try.prog w base spare held n 29 [c3, c4, c5, c6, c7, c8] = some y3 := by simpa [e29] using hg 3 _ rfl
      have g4 : DataW.trod enc Try.prog w base spare held n 37 [c9] = some y4 := by simpa [e37] using hg 4 _ rfl
      obtain ⟨q, q0, _, w0⟩ := DataW.trod_int Try.underlying3 g0
      obtain ⟨a, q1, _, w1⟩ := DataW.trod_int Try.underlying3 g1
      obtain ⟨b, q2, _, w2⟩ := DataW.trod_int Try.underlying3 g2
      obtain ⟨x, q3, ox⟩ := capC g3
      obtain ⟨A, len, cap, l, rfl, hr, ho, hl, hm⟩ := rowC g4
      simp only [List.cons.injEq, and_true] at q0 q1 q2 q3
      subst q0 q1 q2
      obtain ⟨rfl, rfl, rfl, rfl, rfl, rfl⟩ := q3
      exact ⟨⟨q, a, b, x, A, len, cap, l⟩, rfl, Bt.i64 w0, Bt.i64 w1, Bt.i64 w2, ox, hr, ho, hl, hm⟩
theorem ops {A : Option Addr} {len cap : Nat} {d : DataW H} {ps : List MemPlace} (h : DataW.Trod enc Try.prog w base spare held 48 (.slice A len cap) d ps) :
    ∃ z : Nat → OpV, Ops w A len z ∧ len ≤ cap ∧ cap ≤ maxLen := by
  obtain ⟨fuel, hf⟩ := h
  rcases DataW.trod_slice Try.underlying48 hf with ⟨h0, _⟩ | ⟨a, len', cap', elems, rest, n, _, hcs, _, hb, hl, hm, hlen, hel, hsp, hns⟩
  · simp [Value.cells] at h0
    obtain ⟨rfl, rfl, rfl⟩ := h0
    exact ⟨fun _ => ⟨0, 0, 0, CV.zero, none, 0, 0, fun _ => CV.zero⟩, fun i hi => absurd hi (by omega), Nat.le_refl _, by decide⟩
  · simp [Value.cells] at hcs
    obtain ⟨rfl, rfl, rfl⟩ := hcs
    rw [show Try.prog.cellsOf 54 = 10 from by kernel_rfl] at hel
    have each : ∀ i, ∃ x : OpV, i < len → w.cells? base (a.add (i * 10)) 10 = some [.int .i64 x.q, .int .i64 x.a, .int .i64 x.b, .bool x.x.t, .int .i64 x.x.b, .int .i64 x.x.c, .int .i64 x.x.d, .int .i64 x.x.e, .int .i64 x.x.f, .slice x.A x.n x.c] ∧ OpOk w x := fun i => by
      by_cases hi : i < len
      · have hE := hel i hi
        rw [List.getElem?_eq_getElem (by omega), Option.bind_eq_some_iff] at hE
        obtain ⟨cs', hcs, hy⟩ := hE
        obtain ⟨x, rfl, ho⟩ := opC hy
        exact ⟨x, fun _ => ⟨hcs, ho⟩⟩
      · exact ⟨⟨0, 0, 0, CV.zero, none, 0, 0, fun _ => CV.zero⟩, fun h => absurd h hi⟩
    refine ⟨fun i => Classical.choose (each i), fun i hi => ?_, hl, hm⟩
    obtain ⟨B, o, rfl, hB, hc⟩ := rowAt (by omega) (fun i hi => (Classical.choose_spec (each i) hi).1) (by omega : 0 < len)
    exact ⟨B, o, rfl, ⟨hB, hc i 0 hi (by omega), hc i 1 hi (by omega), hc i 2 hi (by omega), hc i 3 hi (by omega), hc i 4 hi (by omega), hc i 5 hi (by omega), hc i 6 hi (by omega), hc i 7 hi (by omega), hc i 8 hi (by omega), hc i 9 hi (by omega)⟩, (Classical.choose_spec (each i) hi).2⟩
end
end Go.Proofs.Ytijcniflghjoaaa.Rg
