/- The calls of layer 18's laws, as data. -/
import Derived.Test.YtijcniflghjoaaaRgHead
namespace Go.Proofs.Ytijcniflghjoaaa.Rg
open Go.RowKit
set_option linter.unusedVariables false
/-- A call. -/
structure OpV where
  q : Int
  a : Int
  b : Int
  x : CV
  A : Option Addr
  n : Nat
  c : Nat
  l : Nat → CV
/-- The call x lies at place i of the row that begins at o of block B. -/
def OpAt (w : World) (B o i : Nat) (x : OpV) : Prop :=
  B < w.heap.size ∧ w.cell? ⟨B, o + i * 10, none⟩ = some (.int .i64 x.q) ∧ w.cell? ⟨B, o + i * 10 + 1, none⟩ = some (.int .i64 x.a) ∧ w.cell? ⟨B, o + i * 10 + 2, none⟩ = some (.int .i64 x.b) ∧
  w.cell? ⟨B, o + i * 10 + 3, none⟩ = some (.bool x.x.t) ∧ w.cell? ⟨B, o + i * 10 + 4, none⟩ = some (.int .i64 x.x.b) ∧ w.cell? ⟨B, o + i * 10 + 5, none⟩ = some (.int .i64 x.x.c) ∧ w.cell? ⟨B, o + i * 10 + 6, none⟩ = some (.int .i64 x.x.d) ∧ w.cell? ⟨B, o + i * 10 + 7, none⟩ = some (.int .i64 x.x.e) ∧ w.cell? ⟨B, o + i * 10 + 8, none⟩ = some (.int .i64 x.x.f) ∧
  w.cell? ⟨B, o + i * 10 + 9, none⟩ = some (.slice x.A x.n x.c)
theorem OpAt.keep {w w' : World} {B o i : Nat} {x : OpV} (h : OpAt w B o i x) (hs : w.heap.size ≤ w'.heap.size) (hk : w'.heap[B]? = w.heap[B]?) : OpAt w' B o i x := by
  obtain ⟨h0, h1, h2, h3, h4, h5, h6, h7, h8, h9, h10⟩ := h
  have hc : ∀ k, w'.cell? ⟨B, k, none⟩ = w.cell? ⟨B, k, none⟩ := fun k => World.cell?_of_block hk
  exact ⟨Nat.lt_of_lt_of_le h0 hs, (hc _).trans h1, (hc _).trans h2, (hc _).trans h3, (hc _).trans h4, (hc _).trans h5, (hc _).trans h6, (hc _).trans h7, (hc _).trans h8, (hc _).trans h9, (hc _).trans h10⟩
theorem OpAt.below {w w' : World} {B o i : Nat} {x : OpV} {N : Nat} (h : OpAt w B o i x) (hB : B < N) (hb : Below N w w') : OpAt w' B o i x := h.keep hb.size (hb.block _ hB)
/-- A call's own: its numbers are ints, its row is one. -/
def OpOk (w : World) (x : OpV) : Prop := I64 x.q ∧ I64 x.a ∧ I64 x.b ∧ x.x.ok ∧ Row w x.A x.n x.l ∧ (∀ i, i < x.n → (x.l i).ok) ∧ x.n ≤ x.c ∧ x.c ≤ maxLen
/-- The slice at A holds, at n places, the calls z. -/
def Ops (w : World) (A : Option Addr) (n : Nat) (z : Nat → OpV) : Prop := ∀ i, i < n → ∃ B o, A = some ⟨B, o, none⟩ ∧ OpAt w B o i (z i) ∧ OpOk w (z i)
/-- A block of one capability. -/
def c6 (x : CV) : Array Value := #[.bool x.t, .int .i64 x.b, .int .i64 x.c, .int .i64 x.d, .int .i64 x.e, .int .i64 x.f]
theorem c6_set {w : World} {g : Nat} {y : CV} (h : Blk w g 29 (c6 y)) (x : CV) : Blk ((((((w.setCell ⟨g, 0, none⟩ (.bool x.t)).setCell ⟨g, 1, none⟩ (.int .i64 x.b)).setCell ⟨g, 2, none⟩ (.int .i64 x.c)).setCell ⟨g, 3, none⟩ (.int .i64 x.d)).setCell ⟨g, 4, none⟩ (.int .i64 x.e)).setCell ⟨g, 5, none⟩ (.int .i64 x.f)) g 29 (c6 x) :=
  Blk.set_ (Blk.set_ (Blk.set_ (Blk.set_ (Blk.set_ (Blk.set_ h 0 _) 1 _) 2 _) 3 _) 4 _) 5 _
theorem c6_cells {w : World} {g : Nat} {x : CV} (h : Blk w g 29 (c6 x)) : w.cell? ⟨g, 0, none⟩ = some (.bool x.t) ∧ w.cell? ⟨g, 1, none⟩ = some (.int .i64 x.b) ∧ w.cell? ⟨g, 2, none⟩ = some (.int .i64 x.c) ∧ w.cell? ⟨g, 3, none⟩ = some (.int .i64 x.d) ∧ w.cell? ⟨g, 4, none⟩ = some (.int .i64 x.e) ∧ w.cell? ⟨g, 5, none⟩ = some (.int .i64 x.f) :=
  ⟨h.cell 0, h.cell 1, h.cell 2, h.cell 3, h.cell 4, h.cell 5⟩
theorem c6_free {w : World} {g : Nat} {x : CV} (h : Blk w g 29 (c6 x)) : w.frozen? ⟨g, 0, none⟩ = false ∧ w.frozen? ⟨g, 1, none⟩ = false ∧ w.frozen? ⟨g, 2, none⟩ = false ∧ w.frozen? ⟨g, 3, none⟩ = false ∧ w.frozen? ⟨g, 4, none⟩ = false ∧ w.frozen? ⟨g, 5, none⟩ = false :=
  ⟨h.frozen 0, h.frozen 1, h.frozen 2, h.frozen 3, h.frozen 4, h.frozen 5⟩
theorem bthru {w a b : World} {N : Nat} (h : Below w.heap.size w a) (k : Below N a b) (hN : w.heap.size ≤ N) : Below w.heap.size w b := h.trans (k.mono hN)
theorem getK (g kk : Nat) (l : Nat → CV) (w : World) (hk : kk < 8) (hb : Blk w g 71 (fc l)) : Calls Try.prog 38 #[.pointer (some ⟨g, 0, none⟩), .int .i64 (kk : Int)] w fun e w' => e = .returned (.agg #[.bool (l kk).t, .int .i64 (l kk).b, .int .i64 (l kk).c, .int .i64 (l kk).d, .int .i64 (l kk).e, .int .i64 (l kk).f]) ∧ Below w.heap.size w w' := getY_calls g l kk w hk hb
theorem valK (g kk : Nat) (l : Nat → CV) (w : World) (hk : kk < 8) (hb : Blk w g 71 (fc l)) : Calls Try.prog 40 #[.pointer (some ⟨g, 0, none⟩), .int .i64 (kk : Int)] w fun e w' => e = .returned (.int .i64 (l kk).d) ∧ Below w.heap.size w w' := by
  have h := regValue_calls g l kk w hb
  unfold at_ at h
  rw [if_pos (by omega), Int.toNat_natCast] at h
  exact h
theorem set_no (g : Nat) (l : Nat → CV) (r : Int) (x : CV) (w : World) (hf : fine r x = false) (hx : I64 x.e) (hb : Blk w g 71 (fc l)) : Calls Try.prog 34 #[.pointer (some ⟨g, 0, none⟩), .int .i64 r, .agg #[.bool (x).t, .int .i64 (x).b, .int .i64 (x).c, .int .i64 (x).d, .int .i64 (x).e, .int .i64 (x).f]] w fun e w' => e = .returned (.bool false) ∧ Blk w' g 71 (fc l) ∧ w.grownBy w' (some g) := by
  have h := set_calls g l r x w hx hb
  unfold put1 at h
  rw [hf] at h
  exact h
theorem set_yes (g : Nat) (l : Nat → CV) (r : Int) (x : CV) (w : World) (hf : fine r x = true) (hx : I64 x.e) (hb : Blk w g 71 (fc l)) : Calls Try.prog 34 #[.pointer (some ⟨g, 0, none⟩), .int .i64 r, .agg #[.bool (x).t, .int .i64 (x).b, .int .i64 (x).c, .int .i64 (x).d, .int .i64 (x).e, .int .i64 (x).f]] w fun e w' => e = .returned (.bool true) ∧ Blk w' g 71 (fc (upd l r.toNat x)) ∧ w.grownBy w' (some g) := by
  have h := set_calls g l r x w hx hb
  unfold put1 at h
  rw [hf] at h
  exact h
theorem right_is (x : CV) (b : Bool) (hb : x.right = b) (w : World) : Calls Try.prog 26 #[.agg #[.bool (x).t, .int .i64 (x).b, .int .i64 (x).c, .int .i64 (x).d, .int .i64 (x).e, .int .i64 (x).f]] w fun r w' => r = .returned (.bool b) ∧ Below w.heap.size w w' := hb ▸ refRight_calls x w
theorem neq_self (x : CV) (w : World) : (binOp .neq 29 (.agg #[.bool (x).t, .int .i64 (x).b, .int .i64 (x).c, .int .i64 (x).d, .int .i64 (x).e, .int .i64 (x).f]) (.agg #[.bool (x).t, .int .i64 (x).b, .int .i64 (x).c, .int .i64 (x).d, .int .i64 (x).e, .int .i64 (x).f])).run Try.prog w = .ok (.bool false) w := by
  have h := neq29 x x w
  rw [decide_eq_true rfl] at h
  exact h
theorem clr_at (l : Nat → CV) (a b : Int) (k : Nat) : clr l a b k = if a ≤ (k : Int) ∧ (k : Int) < b then CV.zero else l k := rfl
end Go.Proofs.Ytijcniflghjoaaa.Rg
