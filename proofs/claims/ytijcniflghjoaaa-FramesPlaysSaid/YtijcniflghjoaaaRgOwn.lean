/- The registers of layer 18: rows of the call's own; Clone, All, Put. -/
import Derived.Test.YtijcniflghjoaaaRgClr
import Derived.Maps.AppendAt
import Derived.Deep.AppendLies
namespace Go.Proofs.Ytijcniflghjoaaa.Rg
open Go.RowKit
set_option linter.unusedVariables false
set_option linter.unusedSimpArgs false
/-- The first n of l as cells. -/
def rc (l : Nat → CV) : Nat → List Value
  | 0 => []
  | n + 1 => rc l n ++ [(l n).cell 0, (l n).cell 1, (l n).cell 2, (l n).cell 3, (l n).cell 4, (l n).cell 5]
theorem rc_len (l : Nat → CV) : ∀ n, (rc l n).length = n * 6
  | 0 => rfl
  | n + 1 => by rw [rc, List.length_append, rc_len l n]; simp; omega
theorem rc_at (l : Nat → CV) : ∀ (n i j : Nat), i < n → j < 6 → (rc l n)[i * 6 + j]? = some ((l i).cell j)
  | 0, _, _, h, _ => by omega
  | n + 1, i, j, hi, hj => by
    rw [rc]
    rcases Nat.lt_or_eq_of_le (Nat.le_of_lt_succ hi) with h | h
    · rw [List.getElem?_append_left (by rw [rc_len]; omega)]; exact rc_at l n i j h hj
    · subst h
      rw [List.getElem?_append_right (by rw [rc_len]; omega), rc_len, show i * 6 + j - i * 6 = j by omega]
      obtain rfl | rfl | rfl | rfl | rfl | rfl : j = 0 ∨ j = 1 ∨ j = 2 ∨ j = 3 ∨ j = 4 ∨ j = 5 := by omega
      all_goals rfl
theorem cell_one (x : CV) (j : Nat) : (x.cell j).oneCell' = true := by
  unfold CV.cell; split <;> rfl
theorem rc_one (l : Nat → CV) : ∀ (n : Nat), ∀ u ∈ rc l n, u.oneCell' = true
  | 0, _, h => by simp [rc] at h
  | n + 1, u, h => by
    rw [rc, List.mem_append] at h
    rcases h with h | h
    · exact rc_one l n u h
    · simp only [List.mem_cons, List.not_mem_nil, or_false] at h
      rcases h with h | h | h | h | h | h <;> (subst h; exact cell_one _ _)
theorem rc_idx {l : Nat → CV} {n k : Nat} {u : Value} (h : (rc l n)[k]? = some u) : k / 6 < n ∧ u = (l (k / 6)).cell (k % 6) := by
  have hk : k < n * 6 := by
    have := (List.getElem?_eq_some_iff.1 h).1
    rwa [rc_len] at this
  refine ⟨by omega, ?_⟩
  have e := rc_at l n (k / 6) (k % 6) (by omega) (by omega)
  rw [show k / 6 * 6 + k % 6 = k by omega, h] at e
  exact Option.some.inj e
theorem fc_list (l : Nat → CV) : (fc l).toList = rc l 8 := rfl
/-- The row at block h is the call's own: n capabilities, l, and room for cap. -/
def Own (w : World) (h cap n : Nat) (l : Nat → CV) : Prop := ∃ cur : Array Value, w.heap[h]? = some (.cells cur 29 (0, 0)) ∧ n ≤ cap ∧ cap ≤ maxLen ∧ cur.size = cap * 6 ∧ ∀ i j, i < n → j < 6 → cur[i * 6 + j]? = some ((l i).cell j)
section
variable {w w' : World} {h cap n : Nat} {l : Nat → CV}
theorem Own.lt (o : Own w h cap n l) : h < w.heap.size := by
  obtain ⟨cur, hh, _⟩ := o
  exact (Array.getElem?_eq_some_iff.1 hh).1
theorem Own.keep (o : Own w h cap n l) (hk : w'.heap[h]? = w.heap[h]?) : Own w' h cap n l := by
  obtain ⟨cur, hh, r⟩ := o
  exact ⟨cur, hk.trans hh, r⟩
theorem Own.below {B : Nat} (o : Own w h cap n l) (hb : Below B w w') (hB : h < B) : Own w' h cap n l := o.keep (hb.block _ hB)
theorem Own.grown {row : Option Nat} (o : Own w h cap n l) (hb : w.grownBy w' row) (hr : some h ≠ row) : Own w' h cap n l := o.keep (hb.block _ o.lt hr)
theorem Own.alloc (o : Own w h cap n l) (ob : Obj) : Own (w.alloc ob) h cap n l := o.keep (Below.heap_alloc w ob h o.lt)
theorem Own.far (o : Own w h cap n l) {p : Addr} (hp : h ≠ p.block) (u : Value) : Own (w.setCell p u) h cap n l := o.keep (Below.heap_setCell w p u h hp)
theorem Own.ne {g : Nat} {t : TypeId} {cs : Array Value} (o : Own w h cap n l) (b : Blk w g t cs) (ht : 29 ≠ t) : h ≠ g := by
  obtain ⟨cur, hh, _⟩ := o
  exact Blk.ne_ hh b ht
theorem Own.cell (o : Own w h cap n l) (i j : Nat) (hi : i < n) (hj : j < 6) : w.cell? ⟨h, i * 6 + j, none⟩ = some ((l i).cell j) := by
  obtain ⟨cur, hh, _, _, _, hc⟩ := o
  rw [cell_of_row w h _ cur 29 (0, 0) hh]
  exact hc i j hi hj
theorem Own.frozen (o : Own w h cap n l) (k : Nat) : w.frozen? ⟨h, k, none⟩ = false := by
  obtain ⟨cur, hh, _⟩ := o
  simp [World.frozen?, hh]
theorem Own.row (o : Own w h cap n l) : Row w (some ⟨h, 0, none⟩) n l := fun i hi =>
  ⟨h, 0, rfl, o.lt, by rw [Nat.zero_add]; exact o.cell i 0 hi (by omega), by rw [Nat.zero_add]; exact o.cell i 1 hi (by omega), by rw [Nat.zero_add]; exact o.cell i 2 hi (by omega), by rw [Nat.zero_add]; exact o.cell i 3 hi (by omega), by rw [Nat.zero_add]; exact o.cell i 4 hi (by omega), by rw [Nat.zero_add]; exact o.cell i 5 hi (by omega)⟩
theorem Own.set_ (o : Own w h cap n l) (k : Nat) (hk : k < n) (x : CV) : Own ((((((w.setCell ⟨h, k * 6, none⟩ (.bool x.t)).setCell ⟨h, k * 6 + 1, none⟩ (.int .i64 x.b)).setCell ⟨h, k * 6 + 2, none⟩ (.int .i64 x.c)).setCell ⟨h, k * 6 + 3, none⟩ (.int .i64 x.d)).setCell ⟨h, k * 6 + 4, none⟩ (.int .i64 x.e)).setCell ⟨h, k * 6 + 5, none⟩ (.int .i64 x.f)) h cap n (upd l k x) := by
  obtain ⟨cur, hh, hn, hm, hs, hc⟩ := o
  have b : Blk w h 29 cur := hh
  have b2 := Blk.setCells [.bool x.t, .int .i64 x.b, .int .i64 x.c, .int .i64 x.d, .int .i64 x.e, .int .i64 x.f] (k * 6) b
  refine ⟨_, b2, hn, hm, by rw [setAll_size]; exact hs, fun i j hi hj => ?_⟩
  unfold upd
  by_cases hik : i = k
  · subst hik
    rw [if_pos rfl, setAll_in _ _ _ _ (by simpa using hj) (by omega)]
    obtain rfl | rfl | rfl | rfl | rfl | rfl : j = 0 ∨ j = 1 ∨ j = 2 ∨ j = 3 ∨ j = 4 ∨ j = 5 := by omega
    all_goals rfl
  · rw [if_neg hik, setAll_out _ _ _ _ (by simp; omega)]
    exact hc i j hi hj
theorem Own.ofRow {base : Nat} (o : w.ownsRow base 29 6 (.slice (some ⟨h, 0, none⟩) n cap) n (rc l n)) : Own w h cap n l := by
  obtain ⟨_, ⟨hv, _⟩ | ⟨g, c, cur, hv, _, hh, hn, hm, hs, ht⟩⟩ := o
  · cases hv
  · simp only [Value.slice.injEq, Option.some.injEq, Addr.mk.injEq, and_true, true_and] at hv
    obtain ⟨rfl, rfl⟩ := hv
    refine ⟨cur, hh, hn, hm, hs, fun i j hi hj => ?_⟩
    rw [← rc_at l n i j hi hj, ← ht, List.getElem?_take_of_lt (by omega), Array.getElem?_toList]
theorem Own.toRow {base : Nat} (o : Own w h cap n l) (hb : base ≤ h) : w.ownsRow base 29 6 (.slice (some ⟨h, 0, none⟩) n cap) n (rc l n) := by
  obtain ⟨cur, hh, hn, hm, hs, hc⟩ := o
  refine ⟨rc_len l n, .inr ⟨h, cap, cur, rfl, hb, hh, hn, hm, hs, ?_⟩⟩
  refine List.ext_getElem? fun k => ?_
  by_cases hk : k < n * 6
  · rw [List.getElem?_take_of_lt hk, Array.getElem?_toList]
    have e : k = k / 6 * 6 + k % 6 := by omega
    rw [e, hc _ _ (by omega) (by omega), rc_at l n _ _ (by omega) (by omega)]
  · rw [List.getElem?_eq_none (by rw [List.length_take, Array.length_toList]; omega), List.getElem?_eq_none (by rw [rc_len]; omega)]
end
theorem info29 : (Try.prog.info? 29).map (fun i => (i.zero, i.size, i.bytes)) = some (some (.agg #[.bool false, .int .i64 0, .int .i64 0, .int .i64 0, .int .i64 0, .int .i64 0]), 6, 48) := by kernel_rfl
end Go.Proofs.Ytijcniflghjoaaa.Rg
