/- A row's slice of bools, read cell by cell. -/
import Derived.ChangeSlices
import Derived.ChangeArms
import Derived.RowKit
namespace Go.Proofs.Ytldgecnmmklldaa.Open
open Go.ChangeShapes Go.WideShapes Go.RowKit
set_option linter.unusedVariables false
def boolOf {H : Type} (y : DataW H × List MemPlace) : Bool := match y.1 with | .lit (.bool b) => b | _ => false
theorem bools {H : Type} {enc : TypeId × Value → H} {P : Program} {w : World} {base : Nat} {spare : Nat → Bool} {held : Bool} {t e : TypeId} {A : Option Addr} {len cap : Nat} {d : DataW H} {ps : List MemPlace}
    (ht : P.underlying t = some (.slice e)) (he : P.underlying e = some .bool) (hc : P.cellsOf e = 1) (h : DataW.Trod enc P w base spare held t (.slice A len cap) d ps) :
    ∃ zs : List Bool, (∀ i, i < len → ∃ a, A = some a ∧ w.cell? (a.add i) = some (.bool (zs.getD i false))) ∧ len ≤ cap ∧ cap ≤ maxLen := by
  obtain ⟨fuel, hf⟩ := h
  rcases DataW.trod_slice ht hf with ⟨h0, _⟩ | ⟨a, len', cap', elems, rest, n, _, hcs, _, hb, hl, hm, hlen, hel, hsp, hns⟩
  · simp [Value.cells] at h0
    obtain ⟨rfl, rfl, rfl⟩ := h0
    exact ⟨[], fun i hi => absurd hi (by omega), Nat.le_refl _, by decide⟩
  · simp [Value.cells] at hcs
    obtain ⟨rfl, rfl, rfl⟩ := hcs
    refine ⟨elems.map boolOf, fun i hi => ⟨a, rfl, ?_⟩, hl, hm⟩
    have hE := hel i hi
    rw [hc, Nat.mul_one, List.getElem?_eq_getElem (by omega), Option.bind_eq_some_iff] at hE
    obtain ⟨cs', hcs, hy⟩ := hE
    obtain ⟨b, rfl, hx⟩ := DataW.trod_bool he hy
    rw [cell_of_cells?_one hcs, List.getD_eq_getElem?_getD, List.getElem?_map, List.getElem?_eq_getElem (by omega)]
    simp [boolOf, hx]
end Go.Proofs.Ytldgecnmmklldaa.Open
