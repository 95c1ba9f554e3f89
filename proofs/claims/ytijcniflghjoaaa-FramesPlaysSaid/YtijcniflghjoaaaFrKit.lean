/- Words for layer 19: rows of cells told by one function (capabilities lie as 6 cells, frames as 30), and append to them. -/
import Derived.Test.YtijcniflghjoaaaRgAll
import Derived.Test.YtijcniflghjoaaaWLast
import Derived.ArgAppend
import Derived.Maps.AppendAt
import Derived.Deep.MidRow
namespace Go.Proofs.Ytijcniflghjoaaa.Fr
open Go.RowKit Go.Proofs.Ytijcniflghjoaaa.Rg
set_option linter.unusedVariables false
set_option linter.unusedSimpArgs false
/-- Of what lay in w only the blocks of S have turned. -/
structure Turn (S : Nat → Prop) (w w' : World) : Prop where
  os : w'.os = w.os
  tape : w'.tape = w.tape
  output : w'.output = w.output
  size : w.heap.size ≤ w'.heap.size
  block : ∀ i, i < w.heap.size → ¬ S i → w'.heap[i]? = w.heap[i]?
section
variable {S T : Nat → Prop} {w a b c : World}
theorem Turn.refl (S : Nat → Prop) (w : World) : Turn S w w := ⟨rfl, rfl, rfl, Nat.le_refl _, fun _ _ _ => rfl⟩
theorem Turn.trans (h : Turn S a b) (k : Turn S b c) : Turn S a c := ⟨k.os.trans h.os, k.tape.trans h.tape, k.output.trans h.output, Nat.le_trans h.size k.size, fun i hi hs => (k.block i (Nat.lt_of_lt_of_le hi h.size) hs).trans (h.block i hi hs)⟩
theorem Turn.mono (h : Turn S a b) (hs : ∀ i, i < a.heap.size → S i → T i) : Turn T a b := ⟨h.os, h.tape, h.output, h.size, fun i hi hn => h.block i hi (fun k => hn (hs i hi k))⟩
theorem Turn.drew (h : Turn S a b) : Turn S a b.drew := ⟨h.os, h.tape, h.output, h.size, h.block⟩
theorem Turn.drewN (h : Turn S a b) (n : Nat) : Turn S a (b.drewN n) := ⟨h.os, h.tape, h.output, h.size, h.block⟩
theorem Turn.alloc (h : Turn S a b) (o : Obj) : Turn S a (b.alloc o) := ⟨h.os, h.tape, h.output, Nat.le_trans h.size (by simp), fun i hi hn => (Below.heap_alloc b o i (Nat.lt_of_lt_of_le hi h.size)).trans (h.block i hi hn)⟩
theorem Turn.set_ (h : Turn S a b) {p : Addr} (hp : S p.block ∨ a.heap.size ≤ p.block) (u : Value) : Turn S a (b.setCell p u) :=
  ⟨h.os, h.tape, h.output, by simpa [World.setCell] using h.size, fun i hi hn => (Below.heap_setCell b p u i (by
    rintro rfl
    rcases hp with hp | hp
    · exact hn hp
    · omega)).trans (h.block i hi hn)⟩
theorem Turn.of_below (h : Below a.heap.size a b) (S : Nat → Prop) : Turn S a b := ⟨h.os, h.tape, h.output, h.size, fun i hi _ => h.block i hi⟩
theorem Turn.below (h : Turn S a b) (hw : Below w.heap.size w a) (hs : ∀ i, S i → w.heap.size ≤ i) : Below w.heap.size w b :=
  ⟨h.os.trans hw.os, h.tape.trans hw.tape, h.output.trans hw.output, Nat.le_trans hw.size h.size, fun i hi => (h.block i (Nat.lt_of_lt_of_le hi hw.size) (fun k => by have := hs i k; omega)).trans (hw.block i hi)⟩
theorem Turn.cell (hb : Turn S a b) {k o : Nat} (h : k < a.heap.size) (hn : ¬ S k) : b.cell? ⟨k, o, none⟩ = a.cell? ⟨k, o, none⟩ := World.cell?_of_block (hb.block k h hn)
theorem Turn.setCells {g : Nat} (hg : S g ∨ a.heap.size ≤ g) : ∀ (vs : List Value) {w : World} (o : Nat), Turn S a w → Turn S a (w.setCells g o vs)
  | [], _, _, h => h
  | v :: r, w, o, h => by
    rw [World.setCells]
    exact Turn.setCells hg r (o + 1) (h.set_ hg v)
end
/-- The cells of a row of capabilities, one after the other. -/
def Fl (z : Nat → CV) (k : Nat) : Value := (z (k / 6)).cell (k % 6)
theorem fl_one (z : Nat → CV) (k : Nat) : (Fl z k).oneCell' = true := cell_one _ _
/-- A slice whose elements are S cells of type T: nil, or in a block from base on; z: its capabilities, over all elements. -/
def Bag (w : World) (base T S : Nat) (A : Option Addr) (n cap : Nat) (z : Nat → CV) : Prop :=
  n ≤ cap ∧ cap ≤ maxLen ∧ ((A = none ∧ cap = 0) ∨ ∃ B o cur, A = some ⟨B, o, none⟩ ∧ base ≤ B ∧ w.heap[B]? = some (.cells cur T (0, 0)) ∧ o + cap * S ≤ cur.size ∧ ∀ i, i < n * S → cur[o + i]? = some (Fl z i))
/-- The block in which it lies. -/
def InBlock (A : Option Addr) (k : Nat) : Prop := ∃ o, A = some ⟨k, o, none⟩
theorem inBlock_none (k : Nat) : ¬ InBlock none k := fun ⟨_, h⟩ => by cases h
section
variable {w w' : World} {base T S : Nat} {A : Option Addr} {n cap : Nat} {z : Nat → CV}
theorem Bag.nil (w : World) (base T S : Nat) (z : Nat → CV) : Bag w base T S none 0 0 z := ⟨Nat.le_refl _, by decide, .inl ⟨rfl, rfl⟩⟩
theorem Bag.keep (h : Bag w base T S A n cap z) (hk : ∀ k, InBlock A k → k < w.heap.size → w'.heap[k]? = w.heap[k]?) : Bag w' base T S A n cap z := by
  obtain ⟨h1, h2, h3⟩ := h
  refine ⟨h1, h2, ?_⟩
  rcases h3 with h | ⟨B, o, cur, rfl, hb, hh, hs, hc⟩
  · exact .inl h
  · exact .inr ⟨B, o, cur, rfl, hb, (hk B ⟨o, rfl⟩ (Array.getElem?_eq_some_iff.1 hh).1).trans hh, hs, hc⟩
theorem Bag.below (h : Bag w base T S A n cap z) (hb : Below w.heap.size w w') : Bag w' base T S A n cap z := h.keep fun k _ hl => hb.block k hl
theorem Bag.turn {R : Nat → Prop} (h : Bag w base T S A n cap z) (ht : Turn R w w') (hR : ∀ k, InBlock A k → ¬ R k) : Bag w' base T S A n cap z := h.keep fun k hk hl => ht.block k hl (hR k hk)
theorem Bag.lt (h : Bag w base T S A n cap z) {k : Nat} (hk : InBlock A k) : k < w.heap.size ∧ base ≤ k := by
  obtain ⟨_, _, ⟨rfl, _⟩ | ⟨B, o, cur, rfl, hb, hh, _⟩⟩ := h
  · obtain ⟨o, h⟩ := hk; cases h
  · obtain ⟨o', h⟩ := hk
    simp only [Option.some.injEq, Addr.mk.injEq, and_true] at h
    obtain ⟨rfl, rfl⟩ := h
    exact ⟨(Array.getElem?_eq_some_iff.1 hh).1, hb⟩
theorem Bag.mono {m : Nat} {z' : Nat → CV} (h : Bag w base T S A n cap z) (hm : m ≤ n) (hz : ∀ i, i < m * S → Fl z' i = Fl z i) : Bag w base T S A m cap z' := by
  obtain ⟨h1, h2, h3⟩ := h
  refine ⟨by omega, h2, ?_⟩
  rcases h3 with h | ⟨B, o, cur, rfl, hb, hh, hs, hc⟩
  · exact .inl h
  · exact .inr ⟨B, o, cur, rfl, hb, hh, hs, fun i hi => by rw [hz i hi]; exact hc i (Nat.lt_of_lt_of_le hi (Nat.mul_le_mul_right _ hm))⟩
theorem Bag.less {m : Nat} (h : Bag w base T S A n cap z) (hm : m ≤ n) : Bag w base T S A m cap z := h.mono hm fun _ _ => rfl
theorem Bag.lower {base' : Nat} (h : Bag w base T S A n cap z) (hb : base' ≤ base) : Bag w base' T S A n cap z := by
  obtain ⟨h1, h2, h3⟩ := h
  refine ⟨h1, h2, ?_⟩
  rcases h3 with h | ⟨B, o, cur, rfl, hb', hh, hs, hc⟩
  · exact .inl h
  · exact .inr ⟨B, o, cur, rfl, by omega, hh, hs, hc⟩
theorem Bag.some_ (h : Bag w base T S A n cap z) (hn : 0 < n) : ∃ B o, A = some ⟨B, o, none⟩ ∧ base ≤ B ∧ B < w.heap.size ∧ (∀ i, i < n * S → w.cell? ⟨B, o + i, none⟩ = some (Fl z i)) ∧ ∀ i, w.frozen? ⟨B, i, none⟩ = false := by
  obtain ⟨h1, _, ⟨rfl, h3⟩ | ⟨B, o, cur, rfl, hb, hh, _, hc⟩⟩ := h
  · omega
  · exact ⟨B, o, rfl, hb, (Array.getElem?_eq_some_iff.1 hh).1, fun i hi => by rw [cell_of_row w B _ cur T (0, 0) hh]; exact hc i hi, fun i => by simp [World.frozen?, hh]⟩
end
/-- len of the function's values, from k on. -/
def seg (z : Nat → CV) (k len : Nat) : List Value := (List.range len).map fun j => Fl z (k + j)
theorem seg_len (z : Nat → CV) (k len : Nat) : (seg z k len).length = len := by simp [seg]
theorem seg_at (z : Nat → CV) (k len j : Nat) (h : j < len) : (seg z k len)[j]? = some (Fl z (k + j)) := by simp [seg, h]
theorem seg_idx {z : Nat → CV} {k len j : Nat} {u : Value} (h : (seg z k len)[j]? = some u) : j < len ∧ u = Fl z (k + j) := by
  have hj : j < len := by have := (List.getElem?_eq_some_iff.1 h).1; rwa [seg_len] at this
  rw [seg_at _ _ _ _ hj] at h
  exact ⟨hj, (Option.some.inj h).symm⟩
theorem seg_one (z : Nat → CV) (k len : Nat) : ∀ u ∈ seg z k len, u.oneCell' = true := by
  intro u hu
  obtain ⟨j, hj⟩ := List.getElem?_of_mem hu
  rw [(seg_idx hj).2]
  exact fl_one _ _
theorem seg_app (z : Nat → CV) (a b : Nat) : seg z 0 (a + b) = seg z 0 a ++ seg z a b := by
  refine List.ext_getElem? fun j => ?_
  rcases Nat.lt_or_ge j a with h | h
  · rw [List.getElem?_append_left (by rw [seg_len]; exact h), seg_at _ _ _ _ (by omega), seg_at _ _ _ _ h]
  · rw [List.getElem?_append_right (by rw [seg_len]; exact h), seg_len]
    rcases Nat.lt_or_ge j (a + b) with h2 | h2
    · rw [seg_at _ _ _ _ h2, seg_at _ _ _ _ (by omega)]; congr 2; omega
    · rw [List.getElem?_eq_none (by rw [seg_len]; exact h2), List.getElem?_eq_none (by rw [seg_len]; omega)]
theorem Bag.ofRow {w : World} {base T S n : Nat} {v : Value} {z : Nat → CV} (o : w.ownsRow base T S v n (seg z 0 (n * S))) : ∃ A cap, v = .slice A n cap ∧ Bag w base T S A n cap z := by
  obtain ⟨_, ⟨rfl, rfl⟩ | ⟨g, c, cur, rfl, hb, hh, hn, hm, hs, ht⟩⟩ := o
  · exact ⟨none, 0, rfl, Bag.nil _ _ _ _ _⟩
  · refine ⟨some ⟨g, 0, none⟩, c, rfl, hn, hm, .inr ⟨g, 0, cur, rfl, hb, hh, by omega, fun i hi => ?_⟩⟩
    have e := seg_at z 0 (n * S) i hi
    rw [Nat.zero_add] at e
    rw [Nat.zero_add, ← e, ← ht, List.getElem?_take_of_lt hi, Array.getElem?_toList]
/-- append of m elements that lie in a block of their own. -/
theorem append_bag {W : World} {base T S bytes ts : Nat} {A : Option Addr} {n cap m mc : Nat} {z z' : Nat → CV} (bag : Bag W base T S A n cap z) {zv : Value} (i0 : TypeInfo) (hts : Try.prog.underlying ts = some (.slice T)) (hi : Try.prog.info? T = some i0) (hz0 : i0.zero = some zv) (hz1 : i0.size = S) (hz2 : i0.bytes = bytes) (hz3 : zv.cells.size = S) (hS : 0 < S) (hbt : bytes ≤ 1000)
    (s so : Nat) (hs : ∀ j, j < m * S → W.cell? ⟨s, so + j, none⟩ = some (Fl z' (n * S + j))) (hz : ∀ i, i < n * S → Fl z' i = Fl z i) (hb : base ≤ W.heap.size) (hn : n + m ≤ 100000) (hm : 0 < m) (ty : TypeId) :
    ∃ A' cap' W', (Builtin.append_ #[ts, ts] ty #[.slice A n cap, .slice (some ⟨s, so, none⟩) m mc]).run Try.prog W = .ok (.slice A' (n + m) cap') W' ∧ Bag W' base T S A' (n + m) cap' z' ∧ Turn (InBlock A) W W' ∧ (∀ k, InBlock A' k → InBlock A k ∨ W.heap.size ≤ k) := by
  have hnews : ∀ j u, (seg z' (n * S) (m * S))[j]? = some u → W.cell? ((⟨s, so, none⟩ : Addr).add j) = some u := fun j u hu => by
    obtain ⟨hj, rfl⟩ := seg_idx hu
    rw [Addr.add_mid]
    exact hs j hj
  have hnb : (n + m) * bytes ≤ 140737488355328 := Nat.le_trans (Nat.mul_le_mul hn hbt) (by decide)
  obtain ⟨h1, h2, ⟨rfl, rfl⟩ | ⟨B, o, cur, rfl, hB, hh, hsz, hc⟩⟩ := bag
  · obtain rfl : n = 0 := by omega
    obtain ⟨v', w', hrun, hown, hg, _, hat⟩ := run_append_own_at (P := Try.prog) W base ts ty T i0 _ S bytes hts hi hz0 hz1 hz2 hz3 hS (.slice none 0 0) 0 [] ⟨by simp, .inl ⟨rfl, rfl⟩⟩ ⟨s, so, none⟩ m mc (seg z' (0 * S) (m * S)) (seg_len _ _ _) hnews (seg_one _ _ _) (by unfold maxLen; omega) hnb hb
    have e : ([] : List Value) ++ seg z' (0 * S) (m * S) = seg z' 0 ((0 + m) * S) := by rw [List.nil_append, Nat.zero_mul, Nat.zero_add]
    rw [e] at hown
    obtain ⟨A', cap', rfl, hbag⟩ := Bag.ofRow hown
    refine ⟨A', cap', w', hrun, hbag, ⟨hg.os, hg.tape, hg.output, hg.size, fun i hi _ => hg.block i hi (by simp [Value.ownBlock])⟩, fun k hk => .inr ?_⟩
    obtain ⟨o', rfl⟩ := hk
    rcases hat with h | h
    · simp [Value.ownBlock] at h
    · simp [Value.ownBlock] at h; omega
  · have hblk : Blk W B T cur := hh
    by_cases hr : n + m ≤ cap
    · have hroom : (n + m) * S ≤ cap * S := Nat.mul_le_mul_right _ hr
      rw [Nat.add_mul] at hroom
      have hrun := run_append_room_cells (P := Try.prog) W ts ty T i0 hts hi B o n cap ⟨s, so, none⟩ m mc (seg z' (n * S) (m * S)) (by rw [hz1]; exact seg_len _ _ _) hnews (seg_one _ _ _) hr
        (fun j hj => by rw [seg_len] at hj; rw [hz1, hblk.cell, Array.getElem?_eq_getElem (by omega)]; rfl) (fun j hj => hblk.frozen _)
      refine ⟨some ⟨B, o, none⟩, cap, _, hrun, ⟨hr, h2, .inr ⟨B, o, _, rfl, hB, Blk.setCells (seg z' (n * S) (m * S)) _ hblk, by rw [setAll_size]; exact hsz, fun i hi => ?_⟩⟩, Turn.setCells (.inl ⟨o, rfl⟩) _ _ (Turn.refl _ _), fun k hk => .inl hk⟩
      rw [hz1]
      rw [Nat.add_mul] at hi
      by_cases e : i < n * S
      · rw [setAll_out _ _ _ _ (by omega), hz i e]
        exact hc i e
      · obtain ⟨j, rfl⟩ : ∃ j, i = n * S + j := ⟨i - n * S, by omega⟩
        rw [← Nat.add_assoc, setAll_in _ _ _ _ (by rw [seg_len]; omega) (by omega)]
        exact seg_at _ _ _ _ (by omega)
    · obtain ⟨v', w', hrun, hown, hg⟩ := run_append_arg_grows (P := Try.prog) W ts ty T i0 _ S bytes hts hi hz0 hz1 hz2 hz3 hS ⟨B, o, none⟩ n cap (seg z' 0 (n * S)) (seg_len _ _ _) (fun j u hu => by
          obtain ⟨hj, rfl⟩ := seg_idx hu
          rw [Addr.add_mid, hblk.cell, hc j hj, Nat.zero_add, hz j hj]) ⟨s, so, none⟩ m mc (seg z' (n * S) (m * S)) (seg_len _ _ _) hnews (by omega) (by unfold maxLen; omega) hnb
      rw [← seg_app, ← Nat.add_mul] at hown
      obtain ⟨A', cap', rfl, hbag⟩ := Bag.ofRow hown
      refine ⟨A', cap', w', hrun, hbag.lower hb, ⟨hg.os, hg.tape, hg.output, hg.size, fun i hi _ => hg.block i hi (by simp)⟩, fun k hk => .inr (hbag.lt hk).2⟩
theorem info32z : (Try.prog.info? 32).map (fun i => (i.zero, i.size, i.bytes)) = some (some (.agg #[.bool false, .int .i64 0, .int .i64 0, .int .i64 0, .int .i64 0, .int .i64 0, .bool false, .int .i64 0, .int .i64 0, .int .i64 0, .int .i64 0, .int .i64 0, .bool false, .int .i64 0, .int .i64 0, .int .i64 0, .int .i64 0, .int .i64 0, .bool false, .int .i64 0, .int .i64 0, .int .i64 0, .int .i64 0, .int .i64 0, .bool false, .int .i64 0, .int .i64 0, .int .i64 0, .int .i64 0, .int .i64 0]), 30, 240) := by kernel_rfl
/-- append to a row of capabilities, to a row of frames. -/
theorem append29 {W : World} {base : Nat} {A : Option Addr} {n cap m mc : Nat} {z z' : Nat → CV} (bag : Bag W base 29 6 A n cap z) (s so : Nat) (hs : ∀ j, j < m * 6 → W.cell? ⟨s, so + j, none⟩ = some (Fl z' (n * 6 + j))) (hz : ∀ i, i < n * 6 → Fl z' i = Fl z i) (hb : base ≤ W.heap.size) (hn : n + m ≤ 100000) (hm : 0 < m) (ty : TypeId) :
    ∃ A' cap' W', (Builtin.append_ #[37, 37] ty #[.slice A n cap, .slice (some ⟨s, so, none⟩) m mc]).run Try.prog W = .ok (.slice A' (n + m) cap') W' ∧ Bag W' base 29 6 A' (n + m) cap' z' ∧ Turn (InBlock A) W W' ∧ (∀ k, InBlock A' k → InBlock A k ∨ W.heap.size ≤ k) := by
  obtain ⟨i0, hi, hz0, hz1, hz2⟩ := info_parts info29
  exact append_bag bag i0 Try.underlying37 hi hz0 hz1 hz2 rfl (by decide) (by decide) s so hs hz hb hn hm ty
theorem append32 {W : World} {base : Nat} {A : Option Addr} {n cap m mc : Nat} {z z' : Nat → CV} (bag : Bag W base 32 30 A n cap z) (s so : Nat) (hs : ∀ j, j < m * 30 → W.cell? ⟨s, so + j, none⟩ = some (Fl z' (n * 30 + j))) (hz : ∀ i, i < n * 30 → Fl z' i = Fl z i) (hb : base ≤ W.heap.size) (hn : n + m ≤ 100000) (hm : 0 < m) (ty : TypeId) :
    ∃ A' cap' W', (Builtin.append_ #[44, 44] ty #[.slice A n cap, .slice (some ⟨s, so, none⟩) m mc]).run Try.prog W = .ok (.slice A' (n + m) cap') W' ∧ Bag W' base 32 30 A' (n + m) cap' z' ∧ Turn (InBlock A) W W' ∧ (∀ k, InBlock A' k → InBlock A k ∨ W.heap.size ≤ k) := by
  have h32 : ∃ i0 zv, Try.prog.info? 32 = some i0 ∧ i0.zero = some zv ∧ i0.size = 30 ∧ i0.bytes = 240 ∧ zv.cells.size = 30 := by
    have h := info32z
    obtain ⟨i0, hi, hz0, hz1, hz2⟩ := info_parts h
    exact ⟨i0, _, hi, hz0, hz1, hz2, rfl⟩
  obtain ⟨i0, zv, hi, hz0, hz1, hz2, hz3⟩ := h32
  exact append_bag bag i0 Try.underlying44 hi hz0 hz1 hz2 hz3 (by decide) (by decide) s so hs hz hb hn hm ty
end Go.Proofs.Ytijcniflghjoaaa.Fr
