/- Words for the walks of layer 18's laws, second part. -/
import Derived.Test.YtijcniflghjoaaaRgRef
namespace Go.Proofs.Ytijcniflghjoaaa.Rg
open Go.RowKit
set_option linter.unusedVariables false
theorem blkAt (g : Nat) {w : World} {t : TypeId} {cs : Array Value} (h : Blk w g t cs) : Blk w g t cs := h
theorem ownAt (h : Nat) {w : World} {c n : Nat} {l : Nat → CV} (o : Own w h c n l) : Own w h c n l := o
/-- All eight are right. -/
def good (l : Nat → CV) : Prop := ∀ i, i < 8 → (l i).ok ∧ (l i).right = true
theorem zero_ok : CV.zero.ok := ⟨⟨by decide, by decide⟩, ⟨by decide, by decide⟩, ⟨by decide, by decide⟩, ⟨by decide, by decide⟩, ⟨by decide, by decide⟩⟩
theorem zero_right : CV.zero.right = true := by decide
theorem good0 : good (fun _ => CV.zero) := fun i _ => ⟨zero_ok, zero_right⟩
theorem good_put {l : Nat → CV} (h : good l) {r : Int} {x : CV} (hx : x.ok) : good (put1 l r x) := by
  unfold put1
  cases hf : fine r x
  · exact h
  · intro i hi
    unfold fine at hf
    simp only [Bool.and_eq_true] at hf
    show CV.ok (if i = r.toNat then x else l i) ∧ CV.right (if i = r.toNat then x else l i) = true
    by_cases hh : i = r.toNat
    · rw [if_pos hh]; exact ⟨hx, hf.2⟩
    · rw [if_neg hh]; exact h i hi
theorem good_upd {l : Nat → CV} (h : good l) {k : Nat} {x : CV} (hx : x.ok) (hr : x.right = true) : good (upd l k x) := fun i hi => by
  show CV.ok (if i = k then x else l i) ∧ CV.right (if i = k then x else l i) = true
  by_cases hh : i = k
  · rw [if_pos hh]; exact ⟨hx, hr⟩
  · rw [if_neg hh]; exact h i hi
theorem allR_of {l : Nat → CV} : ∀ {n : Nat}, (∀ i, i < n → (l i).right = true) → allR l n = true
  | 0, _ => rfl
  | n + 1, h => by show (allR l n && (l n).right) = true; rw [allR_of (fun i hi => h i (by omega)), h n (by omega)]; rfl
theorem sameL_of {l l' : Nat → CV} : ∀ {n : Nat}, (∀ i, i < n → l i = l' i) → sameL l l' n = true
  | 0, _ => rfl
  | n + 1, h => by show (sameL l l' n && decide (l n = l' n)) = true; rw [sameL_of (fun i hi => h i (by omega)), decide_eq_true (h n (by omega))]; rfl
theorem set_any (g : Nat) (l : Nat → CV) (r : Int) (x0 : Bool) (x1 x2 x3 x4 x5 : Int) (w : World) (hx : I64 x4) (hb : Blk w g 71 (fc l)) : Calls Try.prog 34 #[.pointer (some ⟨g, 0, none⟩), .int .i64 r, .agg #[.bool x0, .int .i64 x1, .int .i64 x2, .int .i64 x3, .int .i64 x4, .int .i64 x5]] w fun e w' => e = .returned (.bool (fine r ⟨x0, x1, x2, x3, x4, x5⟩)) ∧ Blk w' g 71 (fc (put1 l r ⟨x0, x1, x2, x3, x4, x5⟩)) ∧ w.grownBy w' (some g) := set_calls g l r ⟨x0, x1, x2, x3, x4, x5⟩ w hx hb
theorem neq6 (x0 : Bool) (x1 x2 x3 x4 x5 : Int) (w : World) : (binOp .neq 29 (.agg #[.bool x0, .int .i64 x1, .int .i64 x2, .int .i64 x3, .int .i64 x4, .int .i64 x5]) (.agg #[.bool x0, .int .i64 x1, .int .i64 x2, .int .i64 x3, .int .i64 x4, .int .i64 x5])).run Try.prog w = .ok (.bool false) w := neq_self ⟨x0, x1, x2, x3, x4, x5⟩ w
theorem eql6 (x0 : Bool) (x1 x2 x3 x4 x5 : Int) (w : World) : (binOp .eql 29 (.agg #[.bool x0, .int .i64 x1, .int .i64 x2, .int .i64 x3, .int .i64 x4, .int .i64 x5]) (.agg #[.bool x0, .int .i64 x1, .int .i64 x2, .int .i64 x3, .int .i64 x4, .int .i64 x5])).run Try.prog w = .ok (.bool true) w := by
  have h := eql29 ⟨x0, x1, x2, x3, x4, x5⟩ ⟨x0, x1, x2, x3, x4, x5⟩ w
  rw [decide_eq_true rfl] at h
  exact h
theorem own6 {w : World} {h cap n i : Nat} {l : Nat → CV} {x0 : Bool} {x1 x2 x3 x4 x5 : Int} (o : Own w h cap n l) (hi : i < n) (hx : l i = ⟨x0, x1, x2, x3, x4, x5⟩) : w.cell? ⟨h, i * 6, none⟩ = some (.bool x0) ∧ w.cell? ⟨h, i * 6 + 1, none⟩ = some (.int .i64 x1) ∧ w.cell? ⟨h, i * 6 + 2, none⟩ = some (.int .i64 x2) ∧ w.cell? ⟨h, i * 6 + 3, none⟩ = some (.int .i64 x3) ∧ w.cell? ⟨h, i * 6 + 4, none⟩ = some (.int .i64 x4) ∧ w.cell? ⟨h, i * 6 + 5, none⟩ = some (.int .i64 x5) := by
  have e0 := o.cell i 0 hi (by omega)
  have e1 := o.cell i 1 hi (by omega)
  have e2 := o.cell i 2 hi (by omega)
  have e3 := o.cell i 3 hi (by omega)
  have e4 := o.cell i 4 hi (by omega)
  have e5 := o.cell i 5 hi (by omega)
  rw [hx] at e0 e1 e2 e3 e4 e5
  exact ⟨e0, e1, e2, e3, e4, e5⟩
/-- The number and the capability of a call, where it lies. -/
def OpCells (w : World) (B o k : Nat) (pa : Int) (x0 : Bool) (x1 x2 x3 x4 x5 : Int) : Prop := w.cell? ⟨B, o + k * 10 + 1, none⟩ = some (.int .i64 pa) ∧ w.cell? ⟨B, o + k * 10 + 3, none⟩ = some (.bool x0) ∧ w.cell? ⟨B, o + k * 10 + 3 + 1, none⟩ = some (.int .i64 x1) ∧ w.cell? ⟨B, o + k * 10 + 3 + 2, none⟩ = some (.int .i64 x2) ∧ w.cell? ⟨B, o + k * 10 + 3 + 3, none⟩ = some (.int .i64 x3) ∧ w.cell? ⟨B, o + k * 10 + 3 + 4, none⟩ = some (.int .i64 x4) ∧ w.cell? ⟨B, o + k * 10 + 3 + 5, none⟩ = some (.int .i64 x5)
end Go.Proofs.Ytijcniflghjoaaa.Rg
