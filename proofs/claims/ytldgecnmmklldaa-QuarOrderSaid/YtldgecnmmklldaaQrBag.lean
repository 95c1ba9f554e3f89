/- Slices of what is held, in blocks of the calls' own; append to them; the document's and the program's When. -/
import Derived.Test.YtldgecnmmklldaaQrKit
import Derived.ArgAppend
import Derived.Maps.AppendAt
namespace Go.Proofs.Ytldgecnmmklldaa.Qr
open Go.RowKit
set_option linter.unusedVariables false
def HV.cell (x : HV) : Nat → Value
  | 0 => .int .i64 x.a
  | 1 => .int .i64 x.n
  | _ => .int .i64 x.t
theorem cell_one (x : HV) (j : Nat) : (x.cell j).oneCell' = true := by unfold HV.cell; split <;> rfl
/-- cs with vs from place o on. -/
def setAll (cs : Array Value) : Nat → List Value → Array Value
  | _, [] => cs
  | o, v :: r => setAll (cs.setIfInBounds o v) (o + 1) r
theorem setAll_size : ∀ (vs : List Value) (cs : Array Value) (o : Nat), (setAll cs o vs).size = cs.size
  | [], _, _ => rfl
  | v :: r, cs, o => by rw [setAll, setAll_size r]; simp
theorem setAll_out : ∀ (vs : List Value) (cs : Array Value) (o i : Nat), (i < o ∨ o + vs.length ≤ i) → (setAll cs o vs)[i]? = cs[i]?
  | [], _, _, _, _ => rfl
  | v :: r, cs, o, i, h => by
    rw [setAll, setAll_out r _ _ _ (by simp at h; omega), Array.getElem?_setIfInBounds_ne (by simp at h; omega)]
theorem setAll_in : ∀ (vs : List Value) (cs : Array Value) (o j : Nat), j < vs.length → o + j < cs.size → (setAll cs o vs)[o + j]? = vs[j]?
  | [], _, _, _, h, _ => by simp at h
  | v :: r, cs, o, 0, h, hs => by
    rw [setAll, setAll_out r _ _ _ (by omega), Nat.add_zero, Array.getElem?_setIfInBounds_self_of_lt (by omega)]; rfl
  | v :: r, cs, o, j + 1, h, hs => by
    rw [setAll, show o + (j + 1) = (o + 1) + j by omega, setAll_in r _ _ _ (by simpa using h) (by simp; omega)]; rfl
theorem Blk.setCells {g : Nat} {t : TypeId} : ∀ (vs : List Value) {w : World} {cs : Array Value} (o : Nat), Blk w g t cs → Blk (w.setCells g o vs) g t (setAll cs o vs)
  | [], _, _, _, h => h
  | v :: r, w, cs, o, h => by
    rw [World.setCells, setAll]
    exact Blk.setCells r (o + 1) (h.set_ o v)
theorem turn_setCells {S : Nat → Prop} {a : World} {g : Nat} (hg : S g) : ∀ (vs : List Value) {w : World} (o : Nat), Turn S a w → Turn S a (w.setCells g o vs)
  | [], _, _, h => h
  | v :: r, w, o, h => by
    rw [World.setCells]
    exact turn_setCells hg r (o + 1) (h.set_ (.inl hg) v)
def upd (l : Nat → HV) (r : Nat) (x : HV) : Nat → HV := fun i => if i = r then x else l i
/-- A slice of what is held: nil, or in a block from base on. -/
def Bag (w : World) (base : Nat) (A : Option Addr) (n cap : Nat) (z : Nat → HV) : Prop :=
  n ≤ cap ∧ cap ≤ maxLen ∧ ((A = none ∧ cap = 0) ∨ ∃ B o cur, A = some ⟨B, o, none⟩ ∧ base ≤ B ∧ w.heap[B]? = some (.cells cur 23 (0, 0)) ∧ o + cap * 3 ≤ cur.size ∧ ∀ i j, i < n → j < 3 → cur[o + (i * 3 + j)]? = some ((z i).cell j))
/-- The block in which it lies. -/
def InBlock (A : Option Addr) (k : Nat) : Prop := ∃ o, A = some ⟨k, o, none⟩
theorem Bag.nil (w : World) (base : Nat) (z : Nat → HV) : Bag w base none 0 0 z := ⟨Nat.le_refl _, by decide, .inl ⟨rfl, rfl⟩⟩
theorem Bag.keep {w w' : World} {base : Nat} {A : Option Addr} {n cap : Nat} {z : Nat → HV} (h : Bag w base A n cap z) (hk : ∀ k, InBlock A k → k < w.heap.size → w'.heap[k]? = w.heap[k]?) : Bag w' base A n cap z := by
  obtain ⟨h1, h2, h3⟩ := h
  refine ⟨h1, h2, ?_⟩
  rcases h3 with h | ⟨B, o, cur, rfl, hb, hh, hs, hc⟩
  · exact .inl h
  · exact .inr ⟨B, o, cur, rfl, hb, (hk B ⟨o, rfl⟩ (Array.getElem?_eq_some_iff.1 hh).1).trans hh, hs, hc⟩
theorem Bag.lt {w : World} {base : Nat} {A : Option Addr} {n cap : Nat} {z : Nat → HV} (h : Bag w base A n cap z) {k : Nat} (hk : InBlock A k) : k < w.heap.size ∧ base ≤ k := by
  obtain ⟨_, _, ⟨rfl, _⟩ | ⟨B, o, cur, rfl, hb, hh, _⟩⟩ := h
  · obtain ⟨o, h⟩ := hk; cases h
  · obtain ⟨o', h⟩ := hk
    simp only [Option.some.injEq, Addr.mk.injEq, and_true] at h
    obtain ⟨rfl, rfl⟩ := h
    exact ⟨(Array.getElem?_eq_some_iff.1 hh).1, hb⟩
theorem Bag.ne {w : World} {base : Nat} {A : Option Addr} {n cap : Nat} {z : Nat → HV} (h : Bag w base A n cap z) {g : Nat} {t : TypeId} {cs : Array Value} (b : Blk w g t cs) (ht : 23 ≠ t) {k : Nat} (hk : InBlock A k) : k ≠ g := by
  obtain ⟨_, _, ⟨rfl, _⟩ | ⟨B, o, cur, rfl, hb, hh, _⟩⟩ := h
  · obtain ⟨o, h⟩ := hk; cases h
  · obtain ⟨o', h⟩ := hk
    simp only [Option.some.injEq, Addr.mk.injEq, and_true] at h
    obtain ⟨rfl, rfl⟩ := h
    exact Blk.ne_ (show Blk w B 23 cur from hh) b ht
theorem Bag.at_ {w : World} {base : Nat} {A : Option Addr} {n cap : Nat} {z : Nat → HV} (h : Bag w base A n cap z) {i : Nat} (hi : i < n) :
    ∃ B o, A = some ⟨B, o, none⟩ ∧ base ≤ B ∧ B < w.heap.size ∧ w.cell? ⟨B, o + i * 3, none⟩ = some (.int .i64 (z i).a) ∧ w.cell? ⟨B, o + i * 3 + 1, none⟩ = some (.int .i64 (z i).n) ∧ w.cell? ⟨B, o + i * 3 + 2, none⟩ = some (.int .i64 (z i).t) := by
  obtain ⟨h1, _, ⟨rfl, h3⟩ | ⟨B, o, cur, rfl, hb, hh, _, hc⟩⟩ := h
  · omega
  · have e : ∀ j, j < 3 → w.cell? ⟨B, o + i * 3 + j, none⟩ = some ((z i).cell j) := fun j hj => by
      rw [cell_of_row w B _ cur 23 (0, 0) hh, show o + i * 3 + j = o + (i * 3 + j) by omega]; exact hc i j hi hj
    exact ⟨B, o, rfl, hb, (Array.getElem?_eq_some_iff.1 hh).1, e 0 (by omega), e 1 (by omega), e 2 (by omega)⟩
theorem Bag.mono {w : World} {base : Nat} {A : Option Addr} {n m cap : Nat} {z z' : Nat → HV} (h : Bag w base A n cap z) (hm : m ≤ n) (hz : ∀ i, i < m → z' i = z i) : Bag w base A m cap z' := by
  obtain ⟨h1, h2, h3⟩ := h
  refine ⟨by omega, h2, ?_⟩
  rcases h3 with h | ⟨B, o, cur, rfl, hb, hh, hs, hc⟩
  · exact .inl h
  · exact .inr ⟨B, o, cur, rfl, hb, hh, hs, fun i j hi hj => by rw [hz i hi]; exact hc i j (by omega) hj⟩
theorem Bag.lower {w : World} {base base' : Nat} {A : Option Addr} {n cap : Nat} {z : Nat → HV} (h : Bag w base A n cap z) (hb : base' ≤ base) : Bag w base' A n cap z := by
  obtain ⟨h1, h2, h3⟩ := h
  refine ⟨h1, h2, ?_⟩
  rcases h3 with h | ⟨B, o, cur, rfl, hb', hh, hs, hc⟩
  · exact .inl h
  · exact .inr ⟨B, o, cur, rfl, by omega, hh, hs, hc⟩
/-- What is left behind the first k. -/
theorem Bag.cut {w : World} {base : Nat} {A : Option Addr} {n cap k : Nat} {z : Nat → HV} (h : Bag w base A n cap z) (hk : k ≤ n) :
    Bag w base (if cap = k then A else A.map (·.add (k * 3))) (n - k) (cap - k) (fun i => z (k + i)) := by
  obtain ⟨h1, h2, h3⟩ := h
  refine ⟨by omega, by omega, ?_⟩
  rcases h3 with ⟨rfl, h0⟩ | ⟨B, o, cur, rfl, hb, hh, hs, hc⟩
  · refine .inl ⟨?_, by omega⟩
    split <;> rfl
  · right
    by_cases e : cap = k
    · rw [if_pos e]
      exact ⟨B, o, cur, rfl, hb, hh, by omega, fun i j hi hj => by omega⟩
    · rw [if_neg e]
      refine ⟨B, o + k * 3, cur, ?_, hb, hh, by omega, fun i j hi hj => ?_⟩
      · show some (Addr.add ⟨B, o, none⟩ (k * 3)) = _
        unfold Addr.add
        split
        · rename_i e0; rw [e0, Nat.add_zero]
        · rfl
      · rw [show o + k * 3 + (i * 3 + j) = o + ((k + i) * 3 + j) by omega]; exact hc (k + i) j (by omega) hj
theorem info23 : (Try.prog.info? 23).map (fun i => (i.zero, i.size, i.bytes)) = some (some (.agg #[.int .i64 0, .int .i64 0, .int .i64 0]), 3, 24) := by kernel_rfl
def c3 (x : HV) : List Value := [.int .i64 x.a, .int .i64 x.n, .int .i64 x.t]
theorem c3_at (x : HV) (j : Nat) (hj : j < 3) : (c3 x)[j]? = some (x.cell j) := by
  obtain rfl | rfl | rfl : j = 0 ∨ j = 1 ∨ j = 2 := by omega
  all_goals rfl
theorem c3_one (x : HV) : ∀ u ∈ c3 x, u.oneCell' = true := by
  intro u hu
  simp only [c3, List.mem_cons, List.not_mem_nil, or_false] at hu
  rcases hu with rfl | rfl | rfl <;> rfl
/-- The first n as cells. -/
def rc (z : Nat → HV) : Nat → List Value
  | 0 => []
  | n + 1 => rc z n ++ c3 (z n)
theorem rc_len (z : Nat → HV) : ∀ n, (rc z n).length = n * 3
  | 0 => rfl
  | n + 1 => by rw [rc, List.length_append, rc_len z n]; simp [c3]; omega
theorem rc_at (z : Nat → HV) : ∀ (n i j : Nat), i < n → j < 3 → (rc z n)[i * 3 + j]? = some ((z i).cell j)
  | 0, _, _, h, _ => by omega
  | n + 1, i, j, hi, hj => by
    rw [rc]
    rcases Nat.lt_or_eq_of_le (Nat.le_of_lt_succ hi) with h | h
    · rw [List.getElem?_append_left (by rw [rc_len]; omega)]; exact rc_at z n i j h hj
    · subst h
      rw [List.getElem?_append_right (by rw [rc_len]; omega), rc_len, show i * 3 + j - i * 3 = j by omega]
      exact c3_at _ _ hj
theorem rc_idx {z : Nat → HV} {n k : Nat} {u : Value} (h : (rc z n)[k]? = some u) : k / 3 < n ∧ u = (z (k / 3)).cell (k % 3) := by
  have hk : k < n * 3 := by
    have := (List.getElem?_eq_some_iff.1 h).1
    rwa [rc_len] at this
  refine ⟨by omega, ?_⟩
  have e := rc_at z n (k / 3) (k % 3) (by omega) (by omega)
  rw [show k / 3 * 3 + k % 3 = k by omega, h] at e
  exact Option.some.inj e
theorem rc_one (z : Nat → HV) (n : Nat) : ∀ u ∈ rc z n, u.oneCell' = true := by
  intro u hu
  obtain ⟨k, hk⟩ := List.getElem?_of_mem hu
  rw [(rc_idx hk).2]
  exact cell_one _ _
theorem rc_upd (z : Nat → HV) (n : Nat) (x : HV) : rc (upd z n x) (n + 1) = rc z n ++ c3 x := by
  have h : ∀ m, m ≤ n → rc (upd z n x) m = rc z m := by
    intro m
    induction m with
    | zero => intro _; rfl
    | succ m ih => intro hm; rw [rc, rc, ih (by omega)]; unfold upd; rw [if_neg (by omega)]
  rw [rc, h n (Nat.le_refl _)]
  unfold upd
  rw [if_pos rfl]
theorem Bag.ofRow {w : World} {base n : Nat} {v : Value} {z : Nat → HV} (o : w.ownsRow base 23 3 v n (rc z n)) : ∃ A cap, v = .slice A n cap ∧ Bag w base A n cap z := by
  obtain ⟨_, ⟨rfl, rfl⟩ | ⟨g, c, cur, rfl, hb, hh, hn, hm, hs, ht⟩⟩ := o
  · exact ⟨none, 0, rfl, Bag.nil _ _ _⟩
  · refine ⟨some ⟨g, 0, none⟩, c, rfl, hn, hm, .inr ⟨g, 0, cur, rfl, hb, hh, by omega, fun i j hi hj => ?_⟩⟩
    rw [Nat.zero_add, ← rc_at z n i j hi hj, ← ht, List.getElem?_take_of_lt (by omega), Array.getElem?_toList]
theorem append_bag {W : World} {base : Nat} {A : Option Addr} {n cap : Nat} {z : Nat → HV} (bag : Bag W base A n cap z) (x : HV) (s : Nat) (hs : Blk W s 23 #[.int .i64 x.a, .int .i64 x.n, .int .i64 x.t]) (hb : base ≤ W.heap.size) (hn : n ≤ 100000) (ty : TypeId) :
    ∃ A' cap' W', (Builtin.append_ #[37, 37] ty #[.slice A n cap, .slice (some ⟨s, 0, none⟩) 1 1]).run Try.prog W = .ok (.slice A' (n + 1) cap') W' ∧ Bag W' base A' (n + 1) cap' (upd z n x) ∧ Turn (InBlock A) W W' ∧ (∀ k, InBlock A' k → InBlock A k ∨ W.heap.size ≤ k) := by
  obtain ⟨i0, hi, hz0, hz1, hz2⟩ := info_parts info23
  have hnews : ∀ j u, (c3 x)[j]? = some u → W.cell? ((⟨s, 0, none⟩ : Addr).add j) = some u := fun j u hu => by
    rw [show (⟨s, 0, none⟩ : Addr).add j = ⟨s, j, none⟩ from by unfold Addr.add; split <;> simp_all]
    rw [hs.cell]
    simpa [c3] using hu
  obtain ⟨h1, h2, ⟨rfl, rfl⟩ | ⟨B, o, cur, rfl, hB, hh, hsz, hc⟩⟩ := bag
  · obtain rfl : n = 0 := by omega
    obtain ⟨v', w', hrun, hown, hg, _, hat⟩ := run_append_own_at (P := Try.prog) W base 37 ty 23 i0 _ 3 24 Try.underlying37 hi hz0 hz1 hz2 rfl (by omega) (.slice none 0 0) 0 [] ⟨by simp, .inl ⟨rfl, rfl⟩⟩ ⟨s, 0, none⟩ 1 1 (c3 x) rfl hnews (c3_one x) (by unfold maxLen; omega) (by omega) hb
    have e : ([] : List Value) ++ c3 x = rc (upd z 0 x) 1 := (rc_upd z 0 x).symm
    rw [e, Nat.zero_add] at hown
    obtain ⟨A', cap', rfl, hbag⟩ := Bag.ofRow hown
    refine ⟨A', cap', w', hrun, hbag, ⟨hg.os, hg.tape, hg.output, hg.size, fun i hi _ => hg.block i hi (by simp [Value.ownBlock])⟩, fun k hk => .inr ?_⟩
    obtain ⟨o', rfl⟩ := hk
    rcases hat with h | h
    · simp [Value.ownBlock] at h
    · simp [Value.ownBlock] at h; omega
  · by_cases hr : n + 1 ≤ cap
    · have hblk : Blk W B 23 cur := hh
      have hrun := run_append_room_cells (P := Try.prog) W 37 ty 23 i0 Try.underlying37 hi B o n cap ⟨s, 0, none⟩ 1 1 (c3 x) (by rw [hz1]; rfl) hnews (c3_one x) hr
        (fun j hj => by rw [hz1, hblk.cell, Array.getElem?_eq_getElem (by simp [c3] at hj; omega)]; rfl) (fun j hj => hblk.frozen _)
      refine ⟨some ⟨B, o, none⟩, cap, _, hrun, ⟨hr, h2, .inr ⟨B, o, _, rfl, hB, Blk.setCells (c3 x) _ hblk, by rw [setAll_size]; exact hsz, fun i j hi hj => ?_⟩⟩, turn_setCells ⟨o, rfl⟩ _ _ (Turn.refl _ _), fun k hk => .inl hk⟩
      rw [hz1]
      unfold upd
      by_cases e : i = n
      · subst e
        rw [if_pos rfl, show o + (i * 3 + j) = (o + i * 3) + j by omega, setAll_in _ _ _ _ (by simp [c3]; omega) (by omega)]
        exact c3_at _ _ hj
      · rw [if_neg e, setAll_out _ _ _ _ (by simp [c3]; omega)]
        exact hc i j (by omega) hj
    · have hblk : Blk W B 23 cur := hh
      obtain ⟨v', w', hrun, hown, hg⟩ := run_append_arg_grows (P := Try.prog) W 37 ty 23 i0 _ 3 24 Try.underlying37 hi hz0 hz1 hz2 rfl (by omega) ⟨B, o, none⟩ n cap (rc z n) (rc_len z n) (fun j u hu => by
          obtain ⟨h1', rfl⟩ := rc_idx hu
          rw [show (⟨B, o, none⟩ : Addr).add j = ⟨B, o + j, none⟩ from by unfold Addr.add; split <;> simp_all, hblk.cell]
          have := hc (j / 3) (j % 3) h1' (by omega)
          rwa [show j / 3 * 3 + j % 3 = j by omega] at this) ⟨s, 0, none⟩ 1 1 (c3 x) rfl hnews (by omega) (by unfold maxLen; omega) (by omega)
      rw [← rc_upd] at hown
      obtain ⟨A', cap', rfl, hbag⟩ := Bag.ofRow hown
      refine ⟨A', cap', w', hrun, hbag.lower hb, ⟨hg.os, hg.tape, hg.output, hg.size, fun i hi _ => hg.block i hi (by simp)⟩, fun k hk => .inr (hbag.lt hk).2⟩
end Go.Proofs.Ytldgecnmmklldaa.Qr
