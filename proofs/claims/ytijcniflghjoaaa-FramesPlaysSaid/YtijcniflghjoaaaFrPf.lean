/- The program's stack and the document's, side by side. -/
import Derived.Test.YtijcniflghjoaaaFrStackW
namespace Go.Proofs.Ytijcniflghjoaaa.Fr
open Go.RowKit Go.Proofs.Ytijcniflghjoaaa.Rg Go.Proofs.YtijcniflghjoaaaW.PrintLast
set_option linter.unusedVariables false
set_option linter.unusedSimpArgs false
/-- Both stacks: g and r are their blocks; the rows lie apart, ahead of top. -/
def PF (w W : World) (g r top n1 : Nat) (z1 : Nat → CV) (n2 : Nat) (z2 : Nat → CV) : Prop := w.heap.size ≤ g ∧ g < r ∧
  (∃ A cap A' cap', Blk W g 64 #[.slice A n1 cap] ∧ Bag W (r + 1) 32 30 A n1 cap z1 ∧ Blk W r 66 #[.slice A' n2 cap'] ∧ Bag W (r + 1) 32 30 A' n2 cap' z2 ∧ (∀ j, InBlock A j → ¬ InBlock A' j) ∧ (∀ j, InBlock A j → j < top) ∧ (∀ j, InBlock A' j → j < top)) ∧ Below w.heap.size w W
/-- Blocks of other types are as they were. -/
def Oth (g r : Nat) (W W' : World) : Prop := ∀ k t cs, t ≠ 32 → k ≠ g → k ≠ r → Blk W k t cs → Blk W' k t cs
theorem Oth.of_below {g r : Nat} {W W' : World} (h : Below W.heap.size W W') : Oth g r W W' := fun k t cs _ _ _ hb => hb.below h hb.lt
section
variable {w W W' : World} {g r top n1 n2 : Nat} {z1 z2 : Nat → CV}
theorem PF.below (h : PF w W g r top n1 z1 n2 z2) (hb : Below W.heap.size W W') : PF w W' g r top n1 z1 n2 z2 := by
  obtain ⟨h1, h2, ⟨A, cap, A', cap', k1, k2, k3, k4, k5, k6, k7⟩, h5⟩ := h
  exact ⟨h1, h2, ⟨A, cap, A', cap', k1.below hb k1.lt, k2.below hb, k3.below hb k3.lt, k4.below hb, k5, k6, k7⟩, bcall h5 hb⟩
theorem PF.box {o : Obj} (h : PF w W g r top n1 z1 n2 z2) (ht : Turn (fun i => i = W.heap.size) (W.alloc o) W') : PF w W' g r top n1 z1 n2 z2 := h.below (turn_fresh ht)
theorem PF.raise {top' : Nat} (h : PF w W g r top n1 z1 n2 z2) (ht : top ≤ top') : PF w W g r top' n1 z1 n2 z2 := by
  obtain ⟨h1, h2, ⟨A, cap, A', cap', k1, k2, k3, k4, k5, k6, k7⟩, h5⟩ := h
  exact ⟨h1, h2, ⟨A, cap, A', cap', k1, k2, k3, k4, k5, fun j hj => Nat.lt_of_lt_of_le (k6 j hj) ht, fun j hj => Nat.lt_of_lt_of_le (k7 j hj) ht⟩, h5⟩
theorem PF.top_ (h : PF w W g r top n1 z1 n2 z2) : PF w W g r W.heap.size n1 z1 n2 z2 := by
  obtain ⟨h1, h2, ⟨A, cap, A', cap', k1, k2, k3, k4, k5, k6, k7⟩, h5⟩ := h
  exact ⟨h1, h2, ⟨A, cap, A', cap', k1, k2, k3, k4, k5, fun j hj => (k2.lt hj).1, fun j hj => (k4.lt hj).1⟩, h5⟩
theorem PF.lt (h : PF w W g r top n1 z1 n2 z2) : r < W.heap.size := by
  obtain ⟨h1, h2, ⟨A, cap, A', cap', k1, k2, k3, k4, k5, k6, k7⟩, h5⟩ := h
  exact k3.lt
theorem PF.fs (h : PF w W g r top n1 z1 n2 z2) : FS W g (r + 1) top n1 z1 := by
  obtain ⟨h1, h2, ⟨A, cap, A', cap', k1, k2, k3, k4, k5, k6, k7⟩, h5⟩ := h
  exact ⟨by omega, k3.lt, A, cap, k1, k2, k6⟩
/-- A box of another block is written. -/
theorem PF.turnT {T : Nat → Prop} (h : PF w W g r top n1 z1 n2 z2) (ht : Turn T W W') (hT : ∀ i, T i → r < i ∧ top ≤ i) : PF w W' g r top n1 z1 n2 z2 := by
  obtain ⟨h1, h2, ⟨A, cap, A', cap', k1, k2, k3, k4, k5, k6, k7⟩, h5⟩ := h
  exact ⟨h1, h2, ⟨A, cap, A', cap', blk_keep k1 (ht.block g k1.lt (fun e => by have := hT g e; omega)), k2.turn ht (fun k hk e => by have := k6 k hk; have := hT k e; omega), blk_keep k3 (ht.block r k3.lt (fun e => by have := hT r e; omega)), k4.turn ht (fun k hk e => by have := k7 k hk; have := hT k e; omega), k5, k6, k7⟩, ht.below h5 (fun i hi => by have := hT i hi; omega)⟩
theorem pf_push (h : PF w W g r top n1 z1 n2 z2) (f : Nat → CV) (hok : ∀ i, i < 5 → (f i).ok) (p : Bool) (hp : pushB n1 f = p) : Calls Try.prog 19 #[.pointer (some ⟨g, 0, none⟩), .agg (fa f)] W fun e w' => e = .returned (.bool p) ∧ PF w w' g r w'.heap.size (if p = true then n1 + 1 else n1) (if p = true then updf z1 n1 f else z1) n2 z2 ∧ Oth g r W w' := by
  subst hp
  cases hp : pushB n1 f with
  | false => exact (fs_pushN h.fs f hok hp).mono fun e w' ⟨he, hf, hb⟩ => ⟨he, (h.below hb).top_, Oth.of_below hb⟩
  | true =>
    obtain ⟨h1, h2, ⟨A, cap, A', cap', k1, k2, k3, k4, k5, k6, k7⟩, h5⟩ := h
    have hp' : n1 < 16 ∧ (f 0).right = true ∧ allR (fun i => f (i + 1)) 4 = true := by
      unfold pushB fright at hp
      simp only [Bool.and_eq_true, decide_eq_true_eq] at hp
      exact ⟨hp.1, hp.2.1, hp.2.2⟩
    refine (push_yes g (r + 1) A n1 cap z1 f W k1 k2 k3.lt hp'.1 hok hp'.2.1 hp'.2.2).mono ?_
    rintro e w' ⟨he, A3, c3, m1, m2, m3, m4⟩
    have hr : ¬ (r = g ∨ InBlock A r) := fun e => e.elim (fun e => by omega) (fun e => by have := (k2.lt e).2; omega)
    exact ⟨he, ⟨h1, h2, ⟨A3, c3, A', cap', m1, m2, blk_keep k3 (m3.block r k3.lt hr), k4.turn m3 (fun k hk e => e.elim (fun e => by have := (k4.lt hk).2; omega) (fun e => k5 k e hk)), fun j hj hk => (m4 j hj).elim (fun e => k5 j e hk) (fun e => by have := (k4.lt hk).1; omega), fun j hj => (m2.lt hj).1, fun j hj => Nat.lt_of_lt_of_le (k4.lt hj).1 m3.size⟩, m3.below h5 (fun i hi => hi.elim (fun e => by omega) (fun e => by have := (k2.lt e).2; omega))⟩, fun k t cs ht hkg hkr hb => blk_keep hb (m3.block k hb.lt (fun hs => hs.elim hkg (fun hh => absurd rfl (k2.ne hb (fun e => ht e.symm) hh))))⟩
theorem pf_rpush (h : PF w W g r top n1 z1 n2 z2) (f : Nat → CV) (p : Bool) (hn : n2 ≤ 1000) (hp : pushB n2 f = p) : Calls Try.prog 20 #[.pointer (some ⟨r, 0, none⟩), .agg (fa f)] W fun e w' => e = .returned (.bool p) ∧ PF w w' g r w'.heap.size n1 z1 (if p = true then n2 + 1 else n2) (if p = true then updf z2 n2 f else z2) := by
  subst hp
  obtain ⟨h1, h2, ⟨A, cap, A', cap', k1, k2, k3, k4, k5, k6, k7⟩, h5⟩ := id h
  have hg : ∀ {A3 : Option Addr}, ¬ (g = r ∨ InBlock A' g) := fun e => e.elim (fun e => by omega) (fun e => by have := (k4.lt e).2; omega)
  have no : ∀ {e : Ending} {w' : World}, (e = .returned (.bool false) ∧ Turn (fun i => i = r ∨ InBlock A' i) W w' ∧ Blk w' r 66 #[.slice A' n2 cap'] ∧ Bag w' (r + 1) 32 30 A' n2 cap' z2) → e = .returned (.bool false) ∧ PF w w' g r w'.heap.size n1 z1 n2 z2 := fun ⟨he, m3, m1, m2⟩ =>
    ⟨he, h1, h2, ⟨A, cap, A', cap', blk_keep k1 (m3.block g k1.lt (hg (A3 := none))), k2.turn m3 (fun k hk e => e.elim (fun e => by have := (k2.lt hk).2; omega) (fun e => k5 k hk e)), m1, m2, k5, fun j hj => Nat.lt_of_lt_of_le (k2.lt hj).1 m3.size, fun j hj => (m2.lt hj).1⟩, m3.below h5 (fun i hi => hi.elim (fun e => by omega) (fun e => by have := (k4.lt e).2; omega))⟩
  cases h0 : (f 0).right with
  | false =>
    have hp : pushB n2 f = false := by unfold pushB fright; rw [h0]; simp
    rw [hp]
    exact (rpush0 r (r + 1) A' n2 cap' z2 f W k3 k4 k3.lt hn h0).mono fun e w' h => no h
  | true =>
    by_cases h2' : n2 < 16
    · cases h1' : allR (fun i => f (i + 1)) 4 with
      | false =>
        have hp : pushB n2 f = false := by unfold pushB fright; rw [h0, h1']; simp
        rw [hp]
        exact (rpush2 r (r + 1) A' n2 cap' z2 f W k3 k4 k3.lt hn h0 h2' h1').mono fun e w' h => no h
      | true =>
        have hp : pushB n2 f = true := by unfold pushB fright; rw [h0, h1', decide_eq_true h2']; rfl
        rw [hp]
        refine (rpush3 r (r + 1) A' n2 cap' z2 f W k3 k4 k3.lt hn h0 h2' h1').mono ?_
        rintro e w' ⟨he, A3, c3, m1, m2, m3, m4⟩
        exact ⟨he, h1, h2, ⟨A, cap, A3, c3, blk_keep k1 (m3.block g k1.lt (hg (A3 := none))), k2.turn m3 (fun k hk e => e.elim (fun e => by have := (k2.lt hk).2; omega) (fun e => k5 k hk e)), m1, m2, fun j hj hk => (m4 j hk).elim (fun e => k5 j hj e) (fun e => by have := (k2.lt hj).1; omega), fun j hj => Nat.lt_of_lt_of_le (k2.lt hj).1 m3.size, fun j hj => (m2.lt hj).1⟩, m3.below h5 (fun i hi => hi.elim (fun e => by omega) (fun e => by have := (k4.lt e).2; omega))⟩
    · have hp : pushB n2 f = false := by unfold pushB; rw [decide_eq_false h2']; rfl
      rw [hp]
      exact (rpush1 r (r + 1) A' n2 cap' z2 f W k3 k4 k3.lt hn h0 (by omega)).mono fun e w' h => no h
theorem pf_pop0 (h : PF w W g r top 0 z1 n2 z2) : Calls Try.prog 14 #[.pointer (some ⟨g, 0, none⟩)] W fun e w' => e = .returned (.tuple #[.agg (fa fz), .bool false]) ∧ PF w w' g r top 0 z1 n2 z2 :=
  (fs_pop0 h.fs).mono fun e w' ⟨he, hf, hb⟩ => ⟨he, h.below hb⟩
theorem pf_pop1 (h : PF w W g r top (n1 + 1) z1 n2 z2) (hn : n1 ≤ 1000) : Calls Try.prog 14 #[.pointer (some ⟨g, 0, none⟩)] W fun e w' => e = .returned (.tuple #[.agg (fa (fun i => z1 (n1 * 5 + i))), .bool true]) ∧ PF w w' g r top n1 z1 n2 z2 := by
  obtain ⟨h1, h2, ⟨A, cap, A', cap', k1, k2, k3, k4, k5, k6, k7⟩, h5⟩ := h
  refine (pop1_calls g A n1 cap z1 (r + 1) W k1 k2 (by omega)).mono ?_
  rintro e w' ⟨he, hb, ht⟩
  exact ⟨he, h1, h2, ⟨A, cap, A', cap', hb, (k2.turn ht (fun k hk e => by have := (k2.lt hk).2; omega)).less (by omega), blk_keep k3 (ht.block r k3.lt (by omega)), k4.turn ht (fun k hk e => by have := (k4.lt hk).2; omega), k5, k6, k7⟩, ht.below h5 (fun i hi => by omega)⟩
theorem pf_rpop0 (h : PF w W g r top n1 z1 0 z2) : Calls Try.prog 15 #[.pointer (some ⟨r, 0, none⟩)] W fun e w' => e = .returned (.tuple #[.agg (fa fz), .bool false]) ∧ PF w w' g r top n1 z1 0 z2 ∧ Below W.heap.size W w' := by
  obtain ⟨h1, h2, ⟨A, cap, A', cap', k1, k2, k3, k4, k5, k6, k7⟩, h5⟩ := id h
  exact (rpop0_calls r A' cap' W k3).mono fun e w' ⟨he, hb⟩ => ⟨he, h.below hb, hb⟩
theorem pf_rpop1 (h : PF w W g r top n1 z1 (n2 + 1) z2) (hn : n2 ≤ 1000) : Calls Try.prog 15 #[.pointer (some ⟨r, 0, none⟩)] W fun e w' => e = .returned (.tuple #[.agg (fa (fun i => z2 (n2 * 5 + i))), .bool true]) ∧ PF w w' g r top n1 z1 n2 z2 ∧ Turn (fun i => i = r) W w' := by
  obtain ⟨h1, h2, ⟨A, cap, A', cap', k1, k2, k3, k4, k5, k6, k7⟩, h5⟩ := h
  refine (rpop1_calls r A' n2 cap' z2 (r + 1) W k3 k4 (by omega)).mono ?_
  rintro e w' ⟨he, hb, ht⟩
  exact ⟨he, ⟨h1, h2, ⟨A, cap, A', cap', blk_keep k1 (ht.block g k1.lt (by omega)), k2.turn ht (fun k hk e => by have := (k2.lt hk).2; omega), hb, (k4.turn ht (fun k hk e => by have := (k4.lt hk).2; omega)).less (by omega), k5, k6, k7⟩, ht.below h5 (fun i hi => by omega)⟩, ht⟩
theorem pf_many (h : PF w W g r top n1 z1 n2 z2) : Calls Try.prog 21 #[.pointer (some ⟨g, 0, none⟩)] W fun e w' => e = .returned (.int .i64 (n1 : Int)) ∧ w' = W := fs_many h.fs
theorem pf_rmany (h : PF w W g r top n1 z1 n2 z2) : Calls Try.prog 22 #[.pointer (some ⟨r, 0, none⟩)] W fun e w' => e = .returned (.int .i64 (n2 : Int)) ∧ w' = W := by
  obtain ⟨h1, h2, ⟨A, cap, A', cap', k1, k2, k3, k4, k5, k6, k7⟩, h5⟩ := id h
  exact rmany_calls r A' n2 cap' W k3
theorem pf_caps (h : PF w W g r top n1 z1 n2 z2) (hn : n1 ≤ 1000) : Calls Try.prog 16 #[.pointer (some ⟨g, 0, none⟩)] W fun e w' => ∃ A c, e = .returned (.slice A (n1 * 5) c) ∧ Bag w' W.heap.size 29 6 A (n1 * 5) c z1 ∧ PF w w' g r W.heap.size n1 z1 n2 z2 ∧ Below W.heap.size W w' :=
  (fs_caps h.fs hn).mono fun e w' ⟨A, c, he, hb, hf, hbl⟩ => ⟨A, c, he, hb, h.top_.below hbl, hbl⟩
theorem pf_rcaps (h : PF w W g r top n1 z1 n2 z2) (hn : n2 ≤ 1000) : Calls Try.prog 24 #[.pointer (some ⟨r, 0, none⟩)] W fun e w' => ∃ A c, e = .returned (.slice A (n2 * 5) c) ∧ Row w' A (n2 * 5) z2 ∧ PF w w' g r top n1 z1 n2 z2 ∧ Below W.heap.size W w' := by
  obtain ⟨h1, h2, ⟨A, cap, A', cap', k1, k2, k3, k4, k5, k6, k7⟩, h5⟩ := id h
  exact (rcaps_calls r (r + 1) A' n2 cap' z2 W k3 k4 hn).mono fun e w' ⟨A3, c3, he, hb⟩ => ⟨A3, c3, he, hb.1.row, h.below hb.2, hb.2⟩
theorem pf_same (h : PF w W g r top n1 z1 n2 z2) {A A' : Option Addr} {n c c' : Nat} {l l' : Nat → CV} (hR : Row W A n l) (hR' : Row W A' n l') (hn : n ≤ 5000) (he : ∀ i, i < n → l i = l' i) : Calls Try.prog 23 #[.slice A n c, .slice A' n c'] W fun e w' => e = .returned (.bool true) ∧ PF w w' g r top n1 z1 n2 z2 :=
  (same_yes hR hR' hn he).mono fun e w' ⟨he, hb⟩ => ⟨he, h.below hb⟩
/-- Put, at the program's stack; the row that is put lies behind top. -/
theorem pf_put (h : PF w W g r top n1 z1 n2 z2) (hn : n1 ≤ 1000) {B : Option Addr} {m c : Nat} {l : Nat → CV} (hR : Bag W top 29 6 B m c l) (hok : ∀ i, i < m → (l i).ok) (p : Bool) (hp : putB n1 m l = p) : Calls Try.prog 17 #[.pointer (some ⟨g, 0, none⟩), .slice B m c] W fun e w' => e = .returned (.bool p) ∧ PF w w' g r top n1 (if p = true then l else z1) n2 z2 ∧ Bag w' top 29 6 B m c l := by
  subst hp
  cases hp : putB n1 m l with
  | false => exact (fs_putN h.fs hn hR.row hok hp).mono fun e w' ⟨he, hf, hb⟩ => ⟨he, h.below hb, hR.below hb⟩
  | true =>
    unfold putB at hp
    simp only [Bool.and_eq_true, decide_eq_true_eq] at hp
    obtain ⟨rfl, ha⟩ := hp
    obtain ⟨h1, h2, ⟨A, cap, A', cap', k1, k2, k3, k4, k5, k6, k7⟩, h5⟩ := h
    refine (put_yes g (r + 1) A B n1 cap c z1 l W k1 k2 hn hR.row hok ha hR.1 (fun j hj hk => by have := k6 j hj; have := (hR.lt hk).2; omega)).mono ?_
    rintro e w' ⟨he, m1, m2, m3⟩
    exact ⟨he, ⟨h1, h2, ⟨A, cap, A', cap', m1, m2, blk_keep k3 (m3.block r k3.lt (fun e => by have := (k2.lt e).2; omega)), k4.turn m3 (fun k hk e => k5 k e hk), k5, k6, k7⟩, m3.below h5 (fun i hi => by have := (k2.lt hi).2; omega)⟩, hR.turn m3 (fun k hk e => by have := k6 k e; have := (hR.lt hk).2; omega)⟩
theorem pf_rput (h : PF w W g r top n1 z1 n2 z2) (hn : n2 ≤ 1000) {B : Option Addr} {m c : Nat} {l : Nat → CV} (hR : Bag W top 29 6 B m c l) (hok : ∀ i, i < m → (l i).ok) (p : Bool) (hp : putB n2 m l = p) : Calls Try.prog 18 #[.pointer (some ⟨r, 0, none⟩), .slice B m c] W fun e w' => e = .returned (.bool p) ∧ PF w w' g r w'.heap.size n1 z1 n2 (if p = true then l else z2) := by
  subst hp
  obtain ⟨h1, h2, ⟨A, cap, A', cap', k1, k2, k3, k4, k5, k6, k7⟩, h5⟩ := id h
  by_cases hm : m = n2 * 5
  · subst hm
    cases ha : allR l (n2 * 5) with
    | false =>
      have hp : putB n2 (n2 * 5) l = false := by unfold putB; rw [ha]; simp
      rw [hp]
      exact (rput_wrong r A' B n2 cap' c l W k3 hn hR.row hok ha).mono fun e w' ⟨he, hb⟩ => ⟨he, (h.below hb).top_⟩
    | true =>
      have hp : putB n2 (n2 * 5) l = true := by unfold putB; rw [ha]; simp
      rw [hp]
      refine (rput_yes r A' B n2 cap' c l W k3 hn hR.row hok ha).mono ?_
      rintro e w' ⟨he, A6, c6, m1, m2, m3⟩
      exact ⟨he, h1, h2, ⟨A, cap, A6, c6, blk_keep k1 (m3.block g k1.lt (by omega)), k2.turn m3 (fun k hk e => by have := (k2.lt hk).2; omega), m1, m2.lower k3.lt, fun j hj hk => by have := (k2.lt hj).1; have := (m2.lt hk).2; omega, fun j hj => Nat.lt_of_lt_of_le (k2.lt hj).1 m3.size, fun j hj => (m2.lt hj).1⟩, m3.below h5 (fun i hi => by omega)⟩
  · have hp : putB n2 m l = false := by unfold putB; rw [decide_eq_false hm]; rfl
    rw [hp]
    exact (rput_len r A' B n2 cap' m c W k3 hm hn).mono fun e w' ⟨he, hb⟩ => ⟨he, (h.below hb).top_⟩
end
/-- All of n frames' numbers are ints. -/
def Oks (z : Nat → CV) (n : Nat) : Prop := ∀ i, i < n * 5 → (z i).ok
theorem Oks.push {z f : Nat → CV} {n : Nat} (h : Oks z n) (hok : ∀ i, i < 5 → (f i).ok) : Oks (updf z n f) (n + 1) := fun i hi => by
  unfold updf
  split
  · exact hok _ (by omega)
  · exact h i (by omega)
end Go.Proofs.Ytijcniflghjoaaa.Fr
