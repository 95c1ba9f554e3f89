/- Small lemmas on worlds for the walks of this seat: what a call that only makes memory leaves as it was. -/
import Derived.WalkKit
import Derived.Below
import Derived.Lib.Hide
import Derived.WalkSpells
import Derived.Deep.QuietTactic
import Derived.BigQuiet
import Derived.Deep.Draws
namespace Go.Proofs.Ytgilagbfgbgplaa
open Go.RowKit
set_option linter.unusedVariables false
/-- Behind a call that only makes memory: old cells, old marks, old block numbers. -/
theorem bcell {W w1 : World} (hb : Below W.heap.size W w1) :
    (∀ b o, b < W.heap.size → w1.cell? ⟨b, o, none⟩ = W.cell? ⟨b, o, none⟩) ∧ (∀ b o, b < W.heap.size → w1.frozen? ⟨b, o, none⟩ = W.frozen? ⟨b, o, none⟩) ∧
    (∀ b, b < W.heap.size → b < w1.heap.size) ∧ (∀ b, b < W.heap.size → b ≤ w1.heap.size) :=
  ⟨fun b o h => hb.cell (p := ⟨b, o, none⟩) h, fun b o h => hb.frozen (p := ⟨b, o, none⟩) h, fun b h => Nat.lt_of_lt_of_le h hb.size, fun b h => Nat.le_of_lt (Nat.lt_of_lt_of_le h hb.size)⟩
theorem kle {a b c : Nat} (h : a ≤ b) : a ≤ b + c := by omega
theorem klt {a b c : Nat} (h : a < b) : a < b + c := by omega
theorem bcall {w W w2 : World} (h : Below w.heap.size w W) (hb : Below W.heap.size W w2) : Below w.heap.size w w2 := h.trans (hb.mono h.size)
theorem balloc {w W : World} (h : Below w.heap.size w W) (o : Obj) : Below w.heap.size w (W.alloc o) := h.alloc h.size o
theorem bdrew {w W : World} (h : Below w.heap.size w W) : Below w.heap.size w W.drew := h.drew
theorem bdrewN {w W : World} (h : Below w.heap.size w W) (n : Nat) : Below w.heap.size w (W.drewN n) := ⟨h.os, h.tape, h.output, h.size, h.block⟩
theorem cellB {W w1 : World} {a : Addr} {v : Value} (h : Below W.heap.size W w1) (hc : W.cell? a = some v) : w1.cell? a = some v := (h.cell (World.block_lt_of_cell? W a hc)).trans hc
theorem ret_bool {a b : Bool} (h : a = b) : Ending.returned (.bool a) = Ending.returned (.bool b) := by rw [h]
theorem ret_int {k : IntKind} {a b : Int} (h : a = b) : Ending.returned (.int k a) = Ending.returned (.int k b) := by rw [h]
end Go.Proofs.Ytgilagbfgbgplaa
