/- The arguments of layer 19's laws, laid open: a frame, a row of calls. -/
import Derived.Test.YtijcniflghjoaaaFrS
import Derived.Test.YtijcniflghjoaaaBits
import Derived.OpenShut
import Derived.ChangeSlices
import Derived.ChangeArms
import Derived.Deep.Slices
import Derived.Deep.Fields
import Derived.Lib.SmallJoins
import Derived.RowKit
namespace Go.Proofs.Ytijcniflghjoaaa.Fr
open Go.Joins Go.ChangeShapes Go.WideShapes Go.RowKit Go.Deep Go.Proofs.Ytijcniflghjoaaa.Rg
set_option linter.unusedVariables false
/-- A call: what, a frame, a capability, a place. -/
structure OpV where
  q : Int
  f : Nat → CV
  x : CV
  p : Int
def OpV.ok (v : OpV) : Prop := I64 v.q ∧ (∀ i, i < 5 → (v.f i).ok) ∧ v.x.ok ∧ I64 v.p
/-- Its 38 cells. -/
def OpV.cell (v : OpV) (j : Nat) : Value := if j = 0 then .int .i64 v.q else if j < 31 then Fl v.f (j - 1) else if j < 37 then v.x.cell (j - 31) else .int .i64 v.p
/-- A row of calls, as it lies. -/
def Ops (w : World) (A : Option Addr) (n : Nat) (z : Nat → OpV) : Prop := ∀ i, i < n → ∃ B o, A = some ⟨B, o, none⟩ ∧ B < w.heap.size ∧ (∀ j, j < 38 → w.cell? ⟨B, o + i * 38 + j, none⟩ = some ((z i).cell j)) ∧ (z i).ok
theorem Ops.at_ {w W : World} {A : Option Addr} {n : Nat} {z : Nat → OpV} (h : Ops w A n z) (hb : Below w.heap.size w W) {i : Nat} (hi : i < n) : ∃ B o, A = some ⟨B, o, none⟩ ∧ B < w.heap.size ∧ (∀ j, j < 38 → W.cell? ⟨B, o + i * 38 + j, none⟩ = some ((z i).cell j)) ∧ (z i).ok := by
  obtain ⟨B, o, e, hl, hc, ho⟩ := h i hi
  exact ⟨B, o, e, hl, fun j hj => (hb.cell (p := ⟨B, _, none⟩) hl).trans (hc j hj), ho⟩
section
variable {H : Type} {enc : TypeId × Value → H} {w : World} {base : Nat} {spare : Nat → Bool} {held : Bool}
theorem add_add' (a : Addr) (i j : Nat) : (a.add i).add j = a.add (i + j) := by
  unfold Addr.add
  by_cases hi : i = 0 <;> by_cases hj : j = 0 <;> simp [hi, hj, Nat.add_assoc]
/-- A row's cells, its address taken apart. -/
theorem rowAt {a : Addr} {len S : Nat} {cs : Nat → List Value} (hS : 0 < S) (h : ∀ i, i < len → w.cells? base (a.add (i * S)) S = some (cs i)) (h0 : 0 < len) :
    ∃ B o, a = ⟨B, o, none⟩ ∧ B < w.heap.size ∧ ∀ i j, i < len → j < S → w.cell? ⟨B, o + i * S + j, none⟩ = (cs i)[j]? := by
  have hc : ∀ i j, i < len → j < S → w.cell? (a.add (i * S + j)) = (cs i)[j]? := fun i j hi hj => by
    obtain ⟨_, _, hat⟩ := World.cells?_some (h i hi)
    rw [← add_add']; exact hat j hj
  have hl : (cs 0).length = S := (World.cells?_some (h 0 h0)).2.1
  have hz := hc 0 0 h0 hS
  rw [Nat.zero_mul, Nat.add_zero, List.getElem?_eq_getElem (by omega)] at hz
  have ha0 : a.add 0 = a := by unfold Addr.add; rw [if_pos rfl]
  rw [ha0] at hz
  obtain ⟨B, o, s⟩ := a
  have hs : s = none := by
    cases s with
    | none => rfl
    | some x =>
      exfalso
      simp only [World.cell?] at hz
      split at hz
      · simp at hz
      · cases hz
  subst hs
  refine ⟨B, o, rfl, World.block_lt_of_cell? w _ hz, fun i j hi hj => ?_⟩
  rw [← hc i j hi hj]
  congr 1
  unfold Addr.add
  split
  · rename_i e; first | (simp; done) | (simp; omega)
  · first | (simp; done) | (simp; omega)
theorem capC {n : Nat} {cs : List Value} {y : DataW H × List MemPlace} (h : DataW.trod enc Try.prog w base spare held n 29 cs = some y) :
    ∃ x : CV, cs = [.bool x.t, .int .i64 x.b, .int .i64 x.c, .int .i64 x.d, .int .i64 x.e, .int .i64 x.f] ∧ x.ok := by
  obtain ⟨xs, n, _, _, hlen, hxs, hg⟩ := DataW.trod_struct Try.underlying29 h
  rw [show Try.prog.cellsOf 29 = 6 from by kernel_rfl] at hlen
  match cs, hlen with
  | [c0, c1, c2, c3, c4, c5], _ =>
    have e4 : Try.prog.cellsOf 4 = 1 := by kernel_rfl
    have e3 : Try.prog.cellsOf 3 = 1 := by kernel_rfl
    match xs, hxs with
    | [y0, y1, y2, y3, y4, y5], _ =>
      have g0 : DataW.trod enc Try.prog w base spare held n 4 [c0] = some y0 := by simpa [e4] using hg 0 _ rfl
      have g1 : DataW.trod enc Try.prog w base spare held n 3 [c1] = some y1 := by simpa [e3] using hg 1 _ rfl
      have g2 : DataW.trod enc Try.prog w base spare held n 3 [c2] = some y2 := by simpa [e3] using hg 2 _ rfl
      have g3 : DataW.trod enc Try.prog w base spare held n 3 [c3] = some y3 := by simpa [e3] using hg 3 _ rfl
      have g4 : DataW.trod enc Try.prog w base spare held n 3 [c4] = some y4 := by simpa [e3] using hg 4 _ rfl
      have g5 : DataW.trod enc Try.prog w base spare held n 3 [c5] = some y5 := by simpa [e3] using hg 5 _ rfl
      obtain ⟨a, q0, _⟩ := DataW.trod_bool Try.underlying4 g0
      obtain ⟨b, q1, _, w1⟩ := DataW.trod_int Try.underlying3 g1
      obtain ⟨c, q2, _, w2⟩ := DataW.trod_int Try.underlying3 g2
      obtain ⟨d, q3, _, w3⟩ := DataW.trod_int Try.underlying3 g3
      obtain ⟨e, q4, _, w4⟩ := DataW.trod_int Try.underlying3 g4
      obtain ⟨f, q5, _, w5⟩ := DataW.trod_int Try.underlying3 g5
      simp only [List.cons.injEq, and_true] at q0 q1 q2 q3 q4 q5
      subst q0 q1 q2 q3 q4 q5
      exact ⟨⟨a, b, c, d, e, f⟩, rfl, Bt.i64 w1, Bt.i64 w2, Bt.i64 w3, Bt.i64 w4, Bt.i64 w5⟩
theorem cap_at {cs : List Value} {x : CV} (h : cs = [.bool x.t, .int .i64 x.b, .int .i64 x.c, .int .i64 x.d, .int .i64 x.e, .int .i64 x.f]) (j : Nat) (hj : j < 6) : cs[j]? = some (x.cell j) := by
  subst h
  obtain rfl | rfl | rfl | rfl | rfl | rfl : j = 0 ∨ j = 1 ∨ j = 2 ∨ j = 3 ∨ j = 4 ∨ j = 5 := by omega
  all_goals rfl
theorem frameC {n : Nat} {cs : List Value} {y : DataW H × List MemPlace} (h : DataW.trod enc Try.prog w base spare held n 32 cs = some y) :
    ∃ f : Nat → CV, cs = seg f 0 30 ∧ ∀ i, i < 5 → (f i).ok := by
  obtain ⟨xs, n, _, _, hlen, hxs, hg⟩ := DataW.trod_struct Try.underlying32 h
  rw [show Try.prog.cellsOf 32 = 30 from by kernel_rfl] at hlen
  have e29 : Try.prog.cellsOf 29 = 6 := by kernel_rfl
  have e30 : Try.prog.cellsOf 30 = 24 := by kernel_rfl
  match xs, hxs with
  | [y0, y1], _ =>
    have g0 : DataW.trod enc Try.prog w base spare held n 29 (cs.take 6) = some y0 := by simpa [e29] using hg 0 _ rfl
    have g1 : DataW.trod enc Try.prog w base spare held n 30 ((cs.drop 6).take 24) = some y1 := by simpa [e30] using hg 1 _ rfl
    obtain ⟨x0, q0, o0⟩ := capC g0
    obtain ⟨zs, m, _, _, hl2, hz, ha⟩ := DataW.trod_array Try.underlying30 g1
    rw [e29] at ha
    have each : ∀ i, ∃ x : CV, i < 4 → (((cs.drop 6).take 24).drop (i * 6)).take 6 = [.bool x.t, .int .i64 x.b, .int .i64 x.c, .int .i64 x.d, .int .i64 x.e, .int .i64 x.f] ∧ x.ok := fun i => by
      by_cases hi : i < 4
      · have hE := ha i hi
        rw [List.getElem?_eq_getElem (by omega)] at hE
        obtain ⟨x, e, ho⟩ := capC hE
        exact ⟨x, fun _ => ⟨e, ho⟩⟩
      · exact ⟨CV.zero, fun h => absurd h hi⟩
    let g : Nat → CV := fun i => Classical.choose (each i)
    have hgc : ∀ i, i < 4 → (((cs.drop 6).take 24).drop (i * 6)).take 6 = [.bool (g i).t, .int .i64 (g i).b, .int .i64 (g i).c, .int .i64 (g i).d, .int .i64 (g i).e, .int .i64 (g i).f] ∧ (g i).ok := fun i hi => Classical.choose_spec (each i) hi
    refine ⟨fun i => if i = 0 then x0 else g (i - 1), ?_, fun i hi => ?_⟩
    · refine List.ext_getElem? fun k => ?_
      rcases Nat.lt_or_ge k 30 with hk | hk
      · rw [seg_at _ _ _ _ hk, Nat.zero_add]
        unfold Fl
        show cs[k]? = some ((if k / 6 = 0 then x0 else g (k / 6 - 1)).cell (k % 6))
        by_cases h6 : k < 6
        · rw [if_pos (by omega), show k % 6 = k by omega, ← cap_at q0 k h6, List.getElem?_take_of_lt h6]
        · rw [if_neg (by omega)]
          have hh := cap_at (hgc (k / 6 - 1) (by omega)).1 (k % 6) (by omega)
          rw [List.getElem?_take_of_lt (by omega), List.getElem?_drop, List.getElem?_take_of_lt (by omega), List.getElem?_drop, show 6 + ((k / 6 - 1) * 6 + k % 6) = k by omega] at hh
          exact hh
      · rw [List.getElem?_eq_none (by omega), List.getElem?_eq_none (by rw [seg_len]; exact hk)]
    · show (if i = 0 then x0 else g (i - 1)).ok
      split
      · exact o0
      · exact (hgc (i - 1) (by omega)).2
theorem opC {n : Nat} {cs : List Value} {y : DataW H × List MemPlace} (h : DataW.trod enc Try.prog w base spare held n 34 cs = some y) :
    ∃ v : OpV, cs.length = 38 ∧ (∀ j, j < 38 → cs[j]? = some (v.cell j)) ∧ v.ok := by
  obtain ⟨xs, n, _, _, hlen, hxs, hg⟩ := DataW.trod_struct Try.underlying34 h
  rw [show Try.prog.cellsOf 34 = 38 from by kernel_rfl] at hlen
  have e29 : Try.prog.cellsOf 29 = 6 := by kernel_rfl
  have e32 : Try.prog.cellsOf 32 = 30 := by kernel_rfl
  have e3 : Try.prog.cellsOf 3 = 1 := by kernel_rfl
  match xs, hxs with
  | [y0, y1, y2, y3], _ =>
    have g0 : DataW.trod enc Try.prog w base spare held n 3 (cs.take 1) = some y0 := by simpa [e3] using hg 0 _ rfl
    have g1 : DataW.trod enc Try.prog w base spare held n 32 ((cs.drop 1).take 30) = some y1 := by simpa [e32] using hg 1 _ rfl
    have g2 : DataW.trod enc Try.prog w base spare held n 29 ((cs.drop 31).take 6) = some y2 := by simpa [e29] using hg 2 _ rfl
    have g3 : DataW.trod enc Try.prog w base spare held n 3 ((cs.drop 37).take 1) = some y3 := by simpa [e3] using hg 3 _ rfl
    obtain ⟨q, q0, _, w0⟩ := DataW.trod_int Try.underlying3 g0
    obtain ⟨f, q1, of⟩ := frameC g1
    obtain ⟨x, q2, ox⟩ := capC g2
    obtain ⟨p, q3, _, w3⟩ := DataW.trod_int Try.underlying3 g3
    refine ⟨⟨q, f, x, p⟩, hlen, fun j hj => ?_, Bt.i64 w0, of, ox, Bt.i64 w3⟩
    unfold OpV.cell
    by_cases h0 : j = 0
    · subst h0
      rw [if_pos rfl]
      have := congrArg (fun l : List Value => l[0]?) q0
      simpa [List.getElem?_take_of_lt] using this
    · rw [if_neg h0]
      by_cases h1 : j < 31
      · rw [if_pos h1]
        have := congrArg (fun l : List Value => l[j - 1]?) q1
        rw [List.getElem?_take_of_lt (by omega), List.getElem?_drop, show 1 + (j - 1) = j by omega, seg_at _ _ _ _ (by omega), Nat.zero_add] at this
        exact this
      · rw [if_neg h1]
        by_cases h2 : j < 37
        · rw [if_pos h2]
          have := cap_at q2 (j - 31) (by omega)
          rw [List.getElem?_take_of_lt (by omega), List.getElem?_drop, show 31 + (j - 31) = j by omega] at this
          exact this
        · rw [if_neg h2]
          obtain rfl : j = 37 := by omega
          have := congrArg (fun l : List Value => l[0]?) q3
          simpa [List.getElem?_take_of_lt, List.getElem?_drop] using this
theorem ops19 {A : Option Addr} {len cap : Nat} {d : DataW H} {ps : List MemPlace} (h : DataW.Trod enc Try.prog w base spare held 22 (.slice A len cap) d ps) :
    ∃ z : Nat → OpV, Ops w A len z ∧ len ≤ cap ∧ cap ≤ maxLen := by
  obtain ⟨fuel, hf⟩ := h
  rcases DataW.trod_slice Try.underlying22 hf with ⟨h0, _⟩ | ⟨a, len', cap', elems, rest, n, _, hcs, _, hb, hl, hm, hlen, hel, hsp, hns⟩
  · simp [Value.cells] at h0
    obtain ⟨rfl, rfl, rfl⟩ := h0
    exact ⟨fun _ => ⟨0, fun _ => CV.zero, CV.zero, 0⟩, fun i hi => absurd hi (by omega), Nat.le_refl _, by decide⟩
  · simp [Value.cells] at hcs
    obtain ⟨rfl, rfl, rfl⟩ := hcs
    rw [show Try.prog.cellsOf 34 = 38 from by kernel_rfl] at hel
    have each : ∀ i, ∃ c : List Value × OpV, i < len → w.cells? base (a.add (i * 38)) 38 = some c.1 ∧ (∀ j, j < 38 → c.1[j]? = some (c.2.cell j)) ∧ c.2.ok := fun i => by
      by_cases hi : i < len
      · have hE := hel i hi
        rw [List.getElem?_eq_getElem (by omega), Option.bind_eq_some_iff] at hE
        obtain ⟨cs', hcs, hy⟩ := hE
        obtain ⟨v, _, hv, ho⟩ := opC hy
        exact ⟨(cs', v), fun _ => ⟨hcs, hv, ho⟩⟩
      · exact ⟨([], ⟨0, fun _ => CV.zero, CV.zero, 0⟩), fun h => absurd h hi⟩
    refine ⟨fun i => (Classical.choose (each i)).2, fun i hi => ?_, hl, hm⟩
    obtain ⟨B, o, rfl, hB, hc⟩ := rowAt (by omega) (fun i hi => (Classical.choose_spec (each i) hi).1) (by omega : 0 < len)
    exact ⟨B, o, rfl, hB, fun j hj => (hc i j hi hj).trans ((Classical.choose_spec (each i) hi).2.1 j hj), (Classical.choose_spec (each i) hi).2.2⟩
/-- A frame by value. -/
theorem frameV {r : Reach} {b0 : Nat} {v : Value} {d : DataW H} {ps : List MemPlace} (hv : Value.okWide Try.prog w r b0 32 v) (h : DataW.Trod enc Try.prog w base spare held 32 v d ps) : ∃ f : Nat → CV, v = .agg (fa f) ∧ ∀ i, i < 5 → (f i).ok := by
  obtain ⟨cs, rfl, hsz⟩ := okWide_struct Try.underlying32 hv
  obtain ⟨fuel, hf⟩ := h
  obtain ⟨f, e, ho⟩ := frameC hf
  refine ⟨f, ?_, ho⟩
  unfold fa
  rw [← e]
  simp [Value.cells]
/-- A capability by value. -/
theorem capV {r : Reach} {b0 : Nat} {v : Value} {d : DataW H} {ps : List MemPlace} (hv : Value.okWide Try.prog w r b0 29 v) (h : DataW.Trod enc Try.prog w base spare held 29 v d ps) : ∃ x : CV, v = .agg #[.bool x.t, .int .i64 x.b, .int .i64 x.c, .int .i64 x.d, .int .i64 x.e, .int .i64 x.f] ∧ x.ok := by
  obtain ⟨cs, rfl, hsz⟩ := okWide_struct Try.underlying29 hv
  obtain ⟨fuel, hf⟩ := h
  obtain ⟨x, e, ho⟩ := capC hf
  refine ⟨x, ?_, ho⟩
  obtain ⟨l⟩ := cs
  simp [Value.cells] at e
  rw [e]
end
end Go.Proofs.Ytijcniflghjoaaa.Fr
