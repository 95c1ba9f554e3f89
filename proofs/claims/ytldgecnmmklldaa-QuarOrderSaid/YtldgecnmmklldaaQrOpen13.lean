/- The arguments of layer 13's laws, laid open: a row of calls. -/
import Derived.Test.YtldgecnmmklldaaQrKit
import Derived.Test.YtldgecnmmklldaaBits
import Derived.ChangeSlices
import Derived.ChangeArms
import Derived.Deep.Slices
import Derived.Deep.Fields
import Derived.Lib.SmallJoins
namespace Go.Proofs.Ytldgecnmmklldaa.Qr
open Go.Joins Go.ChangeShapes Go.WideShapes Go.RowKit Go.Deep
set_option linter.unusedVariables false
/-- A call: what, what is held, a time. -/
structure OpV where
  q : Int
  h : HV
  now : Int
def OpV.ok (x : OpV) : Prop := I64 x.q ∧ x.h.ok ∧ I64 x.now
/-- A row of calls, as it lies. -/
def Ops (w : World) (A : Option Addr) (n : Nat) (z : Nat → OpV) : Prop := ∀ i, i < n → ∃ B o, A = some ⟨B, o, none⟩ ∧ B < w.heap.size ∧
  (w.cell? ⟨B, o + i * 5, none⟩ = some (.int .i64 (z i).q) ∧ w.cell? ⟨B, o + i * 5 + 1, none⟩ = some (.int .i64 (z i).h.a) ∧ w.cell? ⟨B, o + i * 5 + 2, none⟩ = some (.int .i64 (z i).h.n) ∧ w.cell? ⟨B, o + i * 5 + 3, none⟩ = some (.int .i64 (z i).h.t) ∧ w.cell? ⟨B, o + i * 5 + 4, none⟩ = some (.int .i64 (z i).now)) ∧ (z i).ok
theorem Ops.at_ {w W : World} {A : Option Addr} {n : Nat} {z : Nat → OpV} (h : Ops w A n z) (hb : Below w.heap.size w W) {i : Nat} (hi : i < n) : ∃ B o, A = some ⟨B, o, none⟩ ∧ B < w.heap.size ∧
    (W.cell? ⟨B, o + i * 5, none⟩ = some (.int .i64 (z i).q) ∧ W.cell? ⟨B, o + i * 5 + 1, none⟩ = some (.int .i64 (z i).h.a) ∧ W.cell? ⟨B, o + i * 5 + 2, none⟩ = some (.int .i64 (z i).h.n) ∧ W.cell? ⟨B, o + i * 5 + 3, none⟩ = some (.int .i64 (z i).h.t) ∧ W.cell? ⟨B, o + i * 5 + 4, none⟩ = some (.int .i64 (z i).now)) ∧ (z i).ok := by
  obtain ⟨B, o, e, hl, ⟨c0, c1, c2, c3, c4⟩, ho⟩ := h i hi
  exact ⟨B, o, e, hl, ⟨(hb.cell (p := ⟨B, _, none⟩) hl).trans c0, (hb.cell (p := ⟨B, _, none⟩) hl).trans c1, (hb.cell (p := ⟨B, _, none⟩) hl).trans c2, (hb.cell (p := ⟨B, _, none⟩) hl).trans c3, (hb.cell (p := ⟨B, _, none⟩) hl).trans c4⟩, ho⟩
section
variable {H : Type} {enc : TypeId × Value → H} {w : World} {base : Nat} {spare : Nat → Bool} {held : Bool}
theorem add_add' (a : Addr) (i j : Nat) : (a.add i).add j = a.add (i + j) := by
  unfold Addr.add
  by_cases hi : i = 0 <;> by_cases hj : j = 0 <;> simp [hi, hj, Nat.add_assoc]
/-- A row's cells, its address taken apart. -/
theorem rowAt {a : Addr} {len S : Nat} {cs : Nat → List Value} (hS : 0 < S) (h : ∀ i, i < len → w.cells? base (a.add (i * S)) S = some (cs i)) (h0 : 0 < len) :
    ∃ B o, a = ⟨B, o, none⟩ ∧ B < w.heap.size ∧ ∀ i j, i < len → j < S → w.cell? ⟨B, o + i * S + j, none⟩ = (cs i)[j]? := by
  have hc : ∀ i j, i < len → j < S → w.cell? (a.add (i * S + j)) = (cs i)[j]? := fun i j hi hj => by
    obtain ⟨_, _, hat⟩ := World.cells?_some (h i hi)
    rw [← add_add']; exact hat j hj
  have hl : (cs 0).length = S := (World.cells?_some (h 0 h0)).2.1
  have hz := hc 0 0 h0 hS
  rw [Nat.zero_mul, Nat.add_zero, List.getElem?_eq_getElem (by omega)] at hz
  have ha0 : a.add 0 = a := by unfold Addr.add; rw [if_pos rfl]
  rw [ha0] at hz
  obtain ⟨B, o, s⟩ := a
  have hs : s = none := by
    cases s with
    | none => rfl
    | some x =>
      exfalso
      simp only [World.cell?] at hz
      split at hz
      · simp at hz
      · cases hz
  subst hs
  refine ⟨B, o, rfl, World.block_lt_of_cell? w _ hz, fun i j hi hj => ?_⟩
  rw [← hc i j hi hj]
  congr 1
  unfold Addr.add
  split
  · rename_i e; first | (simp; done) | (simp; omega)
  · first | (simp; done) | (simp; omega)
theorem heldC {n : Nat} {cs : List Value} {y : DataW H × List MemPlace} (h : DataW.trod enc Try.prog w base spare held n 23 cs = some y) :
    ∃ x : HV, cs = [.int .i64 x.a, .int .i64 x.n, .int .i64 x.t] ∧ x.ok := by
  obtain ⟨xs, n, _, _, hlen, hxs, hg⟩ := DataW.trod_struct Try.underlying23 h
  rw [show Try.prog.cellsOf 23 = 3 from by kernel_rfl] at hlen
  match cs, hlen with
  | [c0, c1, c2], _ =>
    have e3 : Try.prog.cellsOf 3 = 1 := by kernel_rfl
    have e2 : Try.prog.cellsOf 2 = 1 := by kernel_rfl
    match xs, hxs with
    | [y0, y1, y2], _ =>
      have g0 : DataW.trod enc Try.prog w base spare held n 3 [c0] = some y0 := by simpa [e3, e2] using hg 0 _ rfl
      have g1 : DataW.trod enc Try.prog w base spare held n 3 [c1] = some y1 := by simpa [e3, e2] using hg 1 _ rfl
      have g2 : DataW.trod enc Try.prog w base spare held n 2 [c2] = some y2 := by simpa [e3, e2] using hg 2 _ rfl
      obtain ⟨a, q0, _, w0⟩ := DataW.trod_int Try.underlying3 g0
      obtain ⟨b, q1, _, w1⟩ := DataW.trod_int Try.underlying3 g1
      obtain ⟨c, q2, _, w2⟩ := DataW.trod_int Try.underlying2 g2
      simp only [List.cons.injEq, and_true] at q0 q1 q2
      subst q0 q1 q2
      exact ⟨⟨a, b, c⟩, rfl, Bt.i64 w0, Bt.i64 w1, Bt.i64 w2⟩
theorem opC {n : Nat} {cs : List Value} {y : DataW H × List MemPlace} (h : DataW.trod enc Try.prog w base spare held n 35 cs = some y) :
    ∃ x : OpV, cs = [.int .i64 x.q, .int .i64 x.h.a, .int .i64 x.h.n, .int .i64 x.h.t, .int .i64 x.now] ∧ x.ok := by
  obtain ⟨xs, n, _, _, hlen, hxs, hg⟩ := DataW.trod_struct Try.underlying35 h
  rw [show Try.prog.cellsOf 35 = 5 from by kernel_rfl] at hlen
  match cs, hlen with
  | [c0, c1, c2, c3, c4], _ =>
    have e3 : Try.prog.cellsOf 3 = 1 := by kernel_rfl
    have e2 : Try.prog.cellsOf 2 = 1 := by kernel_rfl
    have e23 : Try.prog.cellsOf 23 = 3 := by kernel_rfl
    match xs, hxs with
    | [y0, y1, y2], _ =>
      have g0 : DataW.trod enc Try.prog w base spare held n 3 [c0] = some y0 := by simpa [e3] using hg 0 _ rfl
      have g1 : DataW.trod enc Try.prog w base spare held n 23 [c1, c2, c3] = some y1 := by simpa [e23] using hg 1 _ rfl
      have g2 : DataW.trod enc Try.prog w base spare held n 2 [c4] = some y2 := by simpa [e2] using hg 2 _ rfl
      obtain ⟨q, q0, _, w0⟩ := DataW.trod_int Try.underlying3 g0
      obtain ⟨x, q1, ox⟩ := heldC g1
      obtain ⟨t, q2, _, w2⟩ := DataW.trod_int Try.underlying2 g2
      simp only [List.cons.injEq, and_true] at q0 q1 q2
      subst q0 q2
      obtain ⟨rfl, rfl, rfl⟩ := q1
      exact ⟨⟨q, x, t⟩, rfl, Bt.i64 w0, ox, Bt.i64 w2⟩
theorem ops {A : Option Addr} {len cap : Nat} {d : DataW H} {ps : List MemPlace} (h : DataW.Trod enc Try.prog w base spare held 31 (.slice A len cap) d ps) :
    ∃ z : Nat → OpV, Ops w A len z ∧ len ≤ cap ∧ cap ≤ maxLen := by
  obtain ⟨fuel, hf⟩ := h
  rcases DataW.trod_slice Try.underlying31 hf with ⟨h0, _⟩ | ⟨a, len', cap', elems, rest, n, _, hcs, _, hb, hl, hm, hlen, hel, hsp, hns⟩
  · simp [Value.cells] at h0
    obtain ⟨rfl, rfl, rfl⟩ := h0
    exact ⟨fun _ => ⟨0, HV.zero, 0⟩, fun i hi => absurd hi (by omega), Nat.le_refl _, by decide⟩
  · simp [Value.cells] at hcs
    obtain ⟨rfl, rfl, rfl⟩ := hcs
    rw [show Try.prog.cellsOf 35 = 5 from by kernel_rfl] at hel
    have each : ∀ i, ∃ x : OpV, i < len → w.cells? base (a.add (i * 5)) 5 = some [.int .i64 x.q, .int .i64 x.h.a, .int .i64 x.h.n, .int .i64 x.h.t, .int .i64 x.now] ∧ x.ok := fun i => by
      by_cases hi : i < len
      · have hE := hel i hi
        rw [List.getElem?_eq_getElem (by omega), Option.bind_eq_some_iff] at hE
        obtain ⟨cs', hcs, hy⟩ := hE
        obtain ⟨x, rfl, ho⟩ := opC hy
        exact ⟨x, fun _ => ⟨hcs, ho⟩⟩
      · exact ⟨⟨0, HV.zero, 0⟩, fun h => absurd h hi⟩
    refine ⟨fun i => Classical.choose (each i), fun i hi => ?_, hl, hm⟩
    obtain ⟨B, o, rfl, hB, hc⟩ := rowAt (by omega) (fun i hi => (Classical.choose_spec (each i) hi).1) (by omega : 0 < len)
    exact ⟨B, o, rfl, hB, ⟨hc i 0 hi (by omega), hc i 1 hi (by omega), hc i 2 hi (by omega), hc i 3 hi (by omega), hc i 4 hi (by omega)⟩, (Classical.choose_spec (each i) hi).2⟩
end
end Go.Proofs.Ytldgecnmmklldaa.Qr
