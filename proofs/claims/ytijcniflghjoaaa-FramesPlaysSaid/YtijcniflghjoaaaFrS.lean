/- The program's stack of frames as one state. -/
import Derived.Test.YtijcniflghjoaaaFrR
namespace Go.Proofs.Ytijcniflghjoaaa.Fr
open Go.RowKit Go.Proofs.Ytijcniflghjoaaa.Rg
set_option linter.unusedVariables false
set_option linter.unusedSimpArgs false
/-- g is the stack's block; its row lies from base on, and ahead of top. -/
def FS (W : World) (g base top n : Nat) (z : Nat → CV) : Prop := g < base ∧ base ≤ W.heap.size ∧ ∃ A cap, Blk W g 64 #[.slice A n cap] ∧ Bag W base 32 30 A n cap z ∧ ∀ j, InBlock A j → j < top
/-- What a call on it leaves: blocks below base but g; blocks of other types. -/
structure Kept (g base : Nat) (W W' : World) : Prop where
  turn : Turn (fun i => i = g ∨ base ≤ i) W W'
  blk : ∀ k t cs, t ≠ 32 → k ≠ g → Blk W k t cs → Blk W' k t cs
theorem Kept.of_below {g base : Nat} {W W' : World} (h : Below W.heap.size W W') : Kept g base W W' := ⟨Turn.of_below h _, fun k t cs _ _ hb => hb.below h hb.lt⟩
section
variable {w w' W W' : World} {g base top n : Nat} {z : Nat → CV}
theorem FS.lt (h : FS W g base top n z) : g < W.heap.size := Nat.lt_of_lt_of_le h.1 h.2.1
theorem FS.below (h : FS W g base top n z) (hb : Below W.heap.size W W') : FS W' g base top n z := by
  obtain ⟨h1, h2, A, cap, h3, h4, h5⟩ := h
  exact ⟨h1, Nat.le_trans h2 hb.size, A, cap, h3.below hb h3.lt, h4.below hb, h5⟩
theorem FS.alloc (h : FS W g base top n z) (o : Obj) : FS (W.alloc o) g base top n z := h.below (balloc (Below.refl _ _) o)
theorem FS.drew (h : FS W g base top n z) : FS W.drew g base top n z := h.below (bdrew (Below.refl _ _))
/-- A box of another block is written. -/
theorem FS.turn1 {b : Nat} (h : FS W g base top n z) (ht : Turn (fun i => i = b) W W') (hg : b ≠ g) (hb : b < base ∨ top ≤ b) : FS W' g base top n z := by
  obtain ⟨h1, h2, A, cap, h3, h4, h5⟩ := h
  refine ⟨h1, Nat.le_trans h2 ht.size, A, cap, blk_keep h3 (ht.block g h3.lt (fun e => hg e.symm)), h4.turn ht (fun k hk e => ?_), h5⟩
  have a := (h4.lt hk).2
  have b := h5 k hk
  omega
theorem FS.same {z' : Nat → CV} (h : FS W g base top n z) (hz : ∀ i, i < n * 30 → Fl z' i = Fl z i) : FS W g base top n z' := by
  obtain ⟨h1, h2, A, cap, h3, h4, h5⟩ := h
  exact ⟨h1, h2, A, cap, h3, h4.mono (Nat.le_refl _) hz, h5⟩
theorem FS.raise {top' : Nat} (h : FS W g base top n z) (ht : top ≤ top') : FS W g base top' n z := by
  obtain ⟨h1, h2, A, cap, h3, h4, h5⟩ := h
  exact ⟨h1, h2, A, cap, h3, h4, fun j hj => Nat.lt_of_lt_of_le (h5 j hj) ht⟩
theorem FS.start (hB : Blk W g 64 #[.slice none 0 0]) (hg : g < base) (hb : base ≤ W.heap.size) (top : Nat) (z : Nat → CV) : FS W g base top 0 z :=
  ⟨hg, hb, none, 0, hB, Bag.nil _ _ _ _ _, fun j hj => absurd hj (inBlock_none j)⟩
theorem fs_many (h : FS W g base top n z) : Calls Try.prog 21 #[.pointer (some ⟨g, 0, none⟩)] W fun e w' => e = .returned (.int .i64 (n : Int)) ∧ w' = W := by
  obtain ⟨h1, h2, A, cap, h3, h4, h5⟩ := h
  exact many_calls g A n cap W h3
theorem fs_caps (h : FS W g base top n z) (hn : n ≤ 1000) : Calls Try.prog 16 #[.pointer (some ⟨g, 0, none⟩)] W fun e w' => ∃ A' cap', e = .returned (.slice A' (n * 5) cap') ∧ Bag w' W.heap.size 29 6 A' (n * 5) cap' z ∧ FS w' g base top n z ∧ Below W.heap.size W w' := by
  have h0 := h
  obtain ⟨h1, h2, A, cap, h3, h4, h5⟩ := h
  exact (caps_calls g base A n cap z W h3 h4 hn).mono fun e w' ⟨A', cap', he, hb⟩ => ⟨A', cap', he, hb.1, h0.below hb.2, hb.2⟩
theorem fs_pop0 (h : FS W g base top 0 z) : Calls Try.prog 14 #[.pointer (some ⟨g, 0, none⟩)] W fun e w' => e = .returned (.tuple #[.agg (fa fz), .bool false]) ∧ FS w' g base top 0 z ∧ Below W.heap.size W w' := by
  have h0 := h
  obtain ⟨h1, h2, A, cap, h3, h4, h5⟩ := h
  exact (pop0_calls g A cap W h3).mono fun e w' ⟨he, hb⟩ => ⟨he, h0.below hb, hb⟩
theorem fs_pop1 (h : FS W g base top (n + 1) z) (hn : n ≤ 1000) : Calls Try.prog 14 #[.pointer (some ⟨g, 0, none⟩)] W fun e w' => e = .returned (.tuple #[.agg (fa (fun i => z (n * 5 + i))), .bool true]) ∧ FS w' g base top n z ∧ Turn (fun i => i = g) W w' := by
  obtain ⟨h1, h2, A, cap, h3, h4, h5⟩ := h
  exact (pop1_calls g A n cap z base W h3 h4 (by omega)).mono fun e w' ⟨he, hb, ht⟩ => ⟨he, ⟨h1, Nat.le_trans h2 ht.size, A, cap, hb, (h4.turn ht (fun k hk e => by have := (h4.lt hk).2; omega)).less (by omega), h5⟩, ht⟩
theorem fs_pushN (h : FS W g base top n z) (f : Nat → CV) (hok : ∀ i, i < 5 → (f i).ok) (hp : pushB n f = false) : Calls Try.prog 19 #[.pointer (some ⟨g, 0, none⟩), .agg (fa f)] W fun e w' => e = .returned (.bool false) ∧ FS w' g base top n z ∧ Below W.heap.size W w' := by
  have h0 := h
  obtain ⟨h1, h2, A, cap, h3, h4, h5⟩ := h
  have go : ∀ {e : Ending} {w' : World}, (e = .returned (.bool false) ∧ Below W.heap.size W w') → (e = .returned (.bool false) ∧ FS w' g base top n z ∧ Below W.heap.size W w') := fun ⟨a, b⟩ => ⟨a, h0.below b, b⟩
  unfold pushB fright at hp
  by_cases hn : n < 16
  · cases hr : (f 0).right with
    | false => exact (push_wrong0 g A n cap f W h3 hn (hok 0 (by omega)) hr).mono fun e w' h => go h
    | true => exact (push_wrong1 g A n cap f W h3 hn hok hr (by simpa [hn, hr] using hp)).mono fun e w' h => go h
  · exact (push16_calls g A n cap f W h3 (by omega)).mono fun e w' h => go h
theorem fs_pushY (h : FS W g base top n z) (f : Nat → CV) (hok : ∀ i, i < 5 → (f i).ok) (hp : pushB n f = true) : Calls Try.prog 19 #[.pointer (some ⟨g, 0, none⟩), .agg (fa f)] W fun e w' => e = .returned (.bool true) ∧ FS w' g base w'.heap.size (n + 1) (updf z n f) ∧ Kept g base W w' := by
  obtain ⟨h1, h2, A, cap, h3, h4, h5⟩ := h
  have hp' : n < 16 ∧ (f 0).right = true ∧ allR (fun i => f (i + 1)) 4 = true := by
    unfold pushB fright at hp
    simp only [Bool.and_eq_true, decide_eq_true_eq] at hp
    exact ⟨hp.1, hp.2.1, hp.2.2⟩
  refine (push_yes g base A n cap z f W h3 h4 h2 hp'.1 hok hp'.2.1 hp'.2.2).mono ?_
  rintro e w' ⟨he, A', cap', k1, k2, k3, k4⟩
  exact ⟨he, ⟨h1, Nat.le_trans h2 k3.size, A', cap', k1, k2, fun j hj => (k2.lt hj).1⟩, k3.mono (fun i hi hs => hs.elim .inl (fun hh => .inr (h4.lt hh).2)), fun k t cs ht hk hb => blk_keep hb (k3.block k hb.lt (fun hs => hs.elim hk (fun hh => absurd rfl (h4.ne hb (fun e => ht e.symm) hh))))⟩
/-- What is put, and how it answers. -/
def putB (n m : Nat) (l : Nat → CV) : Bool := decide (m = n * 5) && allR l m
theorem fs_putN (h : FS W g base top n z) (hn : n ≤ 1000) {A' : Option Addr} {m c : Nat} {l : Nat → CV} (hR : Row W A' m l) (hok : ∀ i, i < m → (l i).ok) (hp : putB n m l = false) : Calls Try.prog 17 #[.pointer (some ⟨g, 0, none⟩), .slice A' m c] W fun e w' => e = .returned (.bool false) ∧ FS w' g base top n z ∧ Below W.heap.size W w' := by
  have h0 := h
  obtain ⟨h1, h2, A, cap, h3, h4, h5⟩ := h
  by_cases hm : m = n * 5
  · subst hm
    unfold putB at hp
    simp at hp
    exact (put_wrong g A A' n cap c l W h3 hn hR hok hp).mono fun e w' ⟨a, b⟩ => ⟨a, h0.below b, b⟩
  · exact (put_len g A A' n cap m c W h3 hm hn).mono fun e w' ⟨a, b⟩ => ⟨a, h0.below b, b⟩
theorem fs_putY (h : FS W g base top n z) (hn : n ≤ 1000) {A' : Option Addr} {c : Nat} {l : Nat → CV} (hR : Row W A' (n * 5) l) (hok : ∀ i, i < n * 5 → (l i).ok) (hc : n * 5 ≤ c) (hp : allR l (n * 5) = true) (hdis : ∀ j, InBlock A' j → top ≤ j) : Calls Try.prog 17 #[.pointer (some ⟨g, 0, none⟩), .slice A' (n * 5) c] W fun e w' => e = .returned (.bool true) ∧ FS w' g base top n l ∧ Turn (fun i => base ≤ i ∧ i < top) W w' := by
  obtain ⟨h1, h2, A, cap, h3, h4, h5⟩ := h
  exact (put_yes g base A A' n cap c z l W h3 h4 hn hR hok hp hc (fun j hj hk => by have := h5 j hj; have := hdis j hk; omega)).mono fun e w' ⟨he, k1, k2, k3⟩ => ⟨he, ⟨h1, Nat.le_trans h2 k3.size, A, cap, k1, k2, h5⟩, k3.mono fun i hi hh => ⟨(h4.lt hh).2, h5 i hh⟩⟩
end
theorem Bag.row {w : World} {base : Nat} {A : Option Addr} {n cap : Nat} {z : Nat → CV} (h : Bag w base 29 6 A n cap z) : Row w A n z := fun i hi => by
  obtain ⟨B, o, rfl, hb, hl, hc, _⟩ := h.some_ (by omega)
  have e : ∀ j, j < 6 → w.cell? ⟨B, o + i * 6 + j, none⟩ = some ((z i).cell j) := fun j hj => by
    rw [Nat.add_assoc, hc _ (by omega)]
    unfold Fl
    rw [show (i * 6 + j) / 6 = i by omega, show (i * 6 + j) % 6 = j by omega]
  exact ⟨B, o, rfl, hl, e 0 (by omega), e 1 (by omega), e 2 (by omega), e 3 (by omega), e 4 (by omega), e 5 (by omega)⟩
theorem same_yes {A A' : Option Addr} {n c c' : Nat} {l l' : Nat → CV} {w : World} (hR : Row w A n l) (hR' : Row w A' n l') (hn : n ≤ 5000) (he : ∀ i, i < n → l i = l' i) : Calls Try.prog 23 #[.slice A n c, .slice A' n c'] w fun e w' => e = .returned (.bool true) ∧ Below w.heap.size w w' := by
  have h := same_calls A A' n c c' l l' w hR hR' (by unfold maxLen; omega)
  have hs : sameL l l' n = true := by
    have : ∀ m, m ≤ n → sameL l l' m = true := fun m => by
      induction m with
      | zero => intro _; rfl
      | succ m ih => intro hm; show (sameL l l' m && decide (l m = l' m)) = true; rw [ih (by omega), decide_eq_true (he m (by omega))]; rfl
    exact this n (Nat.le_refl _)
  rw [hs] at h
  exact h
end Go.Proofs.Ytijcniflghjoaaa.Fr
