/- The registers of layer 18: Clear and Put. -/
import Derived.Test.YtijcniflghjoaaaRgIdx
import Derived.Deep.MidRow
namespace Go.Proofs.Ytijcniflghjoaaa.Rg
open Go.RowKit
set_option linter.unusedVariables false
set_option linter.unusedSimpArgs false
/-- cs with vs from place o on. -/
def setAll (cs : Array Value) : Nat → List Value → Array Value
  | _, [] => cs
  | o, v :: r => setAll (cs.setIfInBounds o v) (o + 1) r
theorem setAll_size : ∀ (vs : List Value) (cs : Array Value) (o : Nat), (setAll cs o vs).size = cs.size
  | [], _, _ => rfl
  | v :: r, cs, o => by rw [setAll, setAll_size r]; simp
theorem setAll_out : ∀ (vs : List Value) (cs : Array Value) (o i : Nat), (i < o ∨ o + vs.length ≤ i) → (setAll cs o vs)[i]? = cs[i]?
  | [], _, _, _, _ => rfl
  | v :: r, cs, o, i, h => by
    rw [setAll, setAll_out r _ _ _ (by simp at h; omega), Array.getElem?_setIfInBounds_ne (by simp at h; omega)]
theorem setAll_in : ∀ (vs : List Value) (cs : Array Value) (o j : Nat), j < vs.length → o + j < cs.size → (setAll cs o vs)[o + j]? = vs[j]?
  | [], _, _, _, h, _ => by simp at h
  | v :: r, cs, o, 0, h, hs => by
    rw [setAll, setAll_out r _ _ _ (by omega), Nat.add_zero, Array.getElem?_setIfInBounds_self_of_lt (by omega)]; rfl
  | v :: r, cs, o, j + 1, h, hs => by
    rw [setAll, show o + (j + 1) = (o + 1) + j by omega, setAll_in r _ _ _ (by simpa using h) (by simp; omega)]; rfl
theorem Blk.setCells {g : Nat} {t : TypeId} : ∀ (vs : List Value) {w : World} {cs : Array Value} (o : Nat), Blk w g t cs → Blk (w.setCells g o vs) g t (setAll cs o vs)
  | [], _, _, _, h => h
  | v :: r, w, cs, o, h => by
    rw [World.setCells, setAll]
    exact Blk.setCells r (o + 1) (h.set_ o v)
theorem only_setCells {a : World} {g : Nat} : ∀ (vs : List Value) {w : World} (o : Nat), a.grownBy w (some g) → a.grownBy (w.setCells g o vs) (some g)
  | [], _, _, h => h
  | v :: r, w, o, h => by
    rw [World.setCells]
    exact only_setCells r (o + 1) (only_set h)
theorem Blk.there {w : World} {g : Nat} {t : TypeId} {cs : Array Value} (h : Blk w g t cs) (o n : Nat) (hn : o + n ≤ cs.size) : w.there g o n := fun j hj => by
  refine ⟨?_, h.frozen _⟩
  rw [h.cell, Array.getElem?_eq_getElem (by omega)]; rfl
/-- What a register's cell holds. -/
def CV.cell (x : CV) : Nat → Value
  | 0 => .bool x.t
  | 1 => .int .i64 x.b
  | 2 => .int .i64 x.c
  | 3 => .int .i64 x.d
  | 4 => .int .i64 x.e
  | _ => .int .i64 x.f
theorem fc_cell (l : Nat → CV) (r j : Nat) (hr : r < 8) (hj : j < 6) : (fc l)[r * 6 + j]? = some ((l r).cell j) := by
  obtain ⟨h0, h1, h2, h3, h4, h5⟩ := fc_at l r hr
  obtain rfl | rfl | rfl | rfl | rfl | rfl : j = 0 ∨ j = 1 ∨ j = 2 ∨ j = 3 ∨ j = 4 ∨ j = 5 := by omega
  · exact h0
  · exact h1
  · exact h2
  · exact h3
  · exact h4
  · exact h5
theorem fc_size (l : Nat → CV) : (fc l).size = 48 := rfl
theorem fc_ext {cs : Array Value} {l : Nat → CV} (hs : cs.size = 48) (h : ∀ r j, r < 8 → j < 6 → cs[r * 6 + j]? = some ((l r).cell j)) : cs = fc l := by
  refine Array.ext_getElem? fun i => ?_
  rcases Nat.lt_or_ge i 48 with hi | hi
  · have e : i = i / 6 * 6 + i % 6 := by omega
    rw [e, h _ _ (by omega) (by omega), fc_cell _ _ _ (by omega) (by omega)]
  · rw [Array.getElem?_eq_none (by omega), Array.getElem?_eq_none (by rw [fc_size]; omega)]
/-- What all have behind Clear. -/
def clr (l : Nat → CV) (a b : Int) : Nat → CV := fun i => if a ≤ (i : Int) ∧ (i : Int) < b then CV.zero else l i
def zs (n : Nat) : List Value := (Builtin.zeroCells #[.bool false, .int .i64 0, .int .i64 0, .int .i64 0, .int .i64 0, .int .i64 0] n).toList
theorem zs_len (n : Nat) : (zs n).length = n * 6 := by simp [zs, Builtin.zeroCells]
theorem zs_at (n j i : Nat) (hj : j < n) (hi : i < 6) : (zs n)[j * 6 + i]? = some (CV.zero.cell i) := by
  unfold zs Builtin.zeroCells
  rw [Array.getElem?_toList, Array.getElem?_map, Array.getElem?_range]
  simp only [List.size_toArray, List.length_cons, List.length_nil]
  rw [if_pos (by omega)]
  simp only [Option.map_some]
  rw [show (j * 6 + i) % (0 + 1 + 1 + 1 + 1 + 1 + 1) = i by omega]
  obtain rfl | rfl | rfl | rfl | rfl | rfl : i = 0 ∨ i = 1 ∨ i = 2 ∨ i = 3 ∨ i = 4 ∨ i = 5 := by omega
  all_goals rfl
theorem fc_clr (l : Nat → CV) (f n : Nat) (h : f + n ≤ 8) : setAll (fc l) (f * 6) (zs n) = fc (fun i => if f ≤ i ∧ i < f + n then CV.zero else l i) := by
  refine fc_ext (by rw [setAll_size]; rfl) fun r j hr hj => ?_
  by_cases hc : f ≤ r ∧ r < f + n
  · rw [if_pos hc, show r * 6 + j = f * 6 + ((r - f) * 6 + j) by omega, setAll_in _ _ _ _ (by rw [zs_len]; omega) (by rw [fc_size]; omega), zs_at _ _ _ (by omega) hj]
  · rw [if_neg hc, setAll_out _ _ _ _ (by rw [zs_len]; omega), fc_cell _ _ _ hr hj]
theorem run_clear (w : World) (b o n c : Nat) (hn : 0 < n) (ht : w.there b o (n * 6)) (ty : TypeId) : (Builtin.clear_ #[37] ty #[.slice (some ⟨b, o, none⟩) n c]).run Try.prog w = .ok (.tuple #[]) (w.setCells b o (zs n)) := by
  have hz : ∀ w, (zeroValue 29).run Try.prog w = .ok (.agg #[.bool false, .int .i64 0, .int .i64 0, .int .i64 0, .int .i64 0, .int .i64 0]) w := fun w => by kernel_rfl
  have hl := zs_len n
  have hs := run_storeCells_cells (P := Try.prog) b o (zs n) 0 w (fun j hj => by simpa using (ht j (by omega)).1) (fun j hj => by simpa using (ht j (by omega)).2)
    (fun v hv => by
      unfold zs Builtin.zeroCells at hv
      simp at hv
      obtain ⟨i, hi, rfl⟩ := hv
      obtain h | h | h | h | h | h : i % 6 = 0 ∨ i % 6 = 1 ∨ i % 6 = 2 ∨ i % 6 = 3 ∨ i % 6 = 4 ∨ i % 6 = 5 := by omega
      all_goals (rw [h]; rfl))
  simp only [Nat.add_zero] at hs
  obtain ⟨m, rfl⟩ : ∃ m, n = m + 1 := ⟨n - 1, by omega⟩
  unfold Builtin.clear_
  simp only [List.getElem?_toArray, List.getElem?_cons_zero, Sem.run_bind, Sem.run_pure, Result.andThen_ok, run_underlying Try.underlying37, hz, Value.cells]
  unfold zs at hs
  rw [hs]
  rfl
theorem clrN (g : Nat) (a b : Int) (w : World) (h : ¬ (max a 0 < min b 8)) : Calls Try.prog 32 #[.pointer (some ⟨g, 0, none⟩), .int .i64 a, .int .i64 b] w fun e w' => e = .returned (.tuple #[]) ∧ w' = w := by
  by_cases h0 : a < 0
  · by_cases h1 : 8 < b
    · exfalso; omega
    · have h2 : b ≤ 0 := by omega
      clear h
      go_enter Try.func32, Try.ntmps32
      go_wp2
      all_goals try (exfalso; omega)
      all_goals go_end0
      all_goals exact ⟨rfl, rfl⟩
  · by_cases h1 : 8 < b
    · have h2 : 8 ≤ a := by omega
      clear h
      go_enter Try.func32, Try.ntmps32
      go_wp2
      all_goals try (exfalso; omega)
      all_goals go_end0
      all_goals exact ⟨rfl, rfl⟩
    · have h2 : b ≤ a := by omega
      clear h
      go_enter Try.func32, Try.ntmps32
      go_wp2
      all_goals try (exfalso; omega)
      all_goals go_end0
      all_goals exact ⟨rfl, rfl⟩
theorem clr00 (g f t : Nat) (l : Nat → CV) (w : World) (h : f < t) (h8 : t ≤ 8) (hb : Blk w g 71 (fc l)) : Calls Try.prog 32 #[.pointer (some ⟨g, 0, none⟩), .int .i64 (f : Int), .int .i64 (t : Int)] w fun e w' => e = .returned (.tuple #[]) ∧ w' = w.setCells g (f * 6) (zs (t - f)) := by
  have hcl := fun ty c => run_clear w g (f * 6) (t - f) c (by omega) (hb.there _ _ (by rw [fc_size]; omega)) ty
  have hne : ¬ 8 = f := by omega
  have i1 : (f : Int) < t := by omega
  have i2 : (t : Int) ≤ 8 := by omega
  have i3 : (f : Int) ≤ t := by omega
  have i4 : (0 : Int) ≤ f := by omega
  have i5 : (0 : Int) ≤ t := by omega
  try simp only [Nat.zero_mul, Nat.sub_zero, Nat.reduceMul, Nat.reduceSub] at hcl
  clear hb
  go_enter Try.func32, Try.ntmps32
  go_wp2
  all_goals try (exfalso; omega)
  go_end0
  exact ⟨rfl, by first | rfl | simp⟩
theorem clr10 (g t : Nat) (l : Nat → CV) (w : World) (a : Int) (ha : a < 0) (h : 0 < t) (h8 : t ≤ 8) (hb : Blk w g 71 (fc l)) : Calls Try.prog 32 #[.pointer (some ⟨g, 0, none⟩), .int .i64 a, .int .i64 (t : Int)] w fun e w' => e = .returned (.tuple #[]) ∧ w' = w.setCells g (0 * 6) (zs (t - 0)) := by
  have hcl := fun ty c => run_clear w g (0 * 6) (t - 0) c (by omega) (hb.there _ _ (by rw [fc_size]; omega)) ty
  have i1 : (0 : Int) < t := by omega
  have i2 : (t : Int) ≤ 8 := by omega
  have i3 : (0 : Int) ≤ t := by omega
  have i5 : (0 : Int) ≤ t := by omega
  try simp only [Nat.zero_mul, Nat.sub_zero, Nat.reduceMul, Nat.reduceSub] at hcl
  clear hb
  go_enter Try.func32, Try.ntmps32
  go_wp2
  all_goals try (exfalso; omega)
  go_end0
  exact ⟨rfl, by first | rfl | simp⟩
theorem clr01 (g f : Nat) (l : Nat → CV) (w : World) (b : Int) (hb8 : 8 < b) (h : f < 8) (hb : Blk w g 71 (fc l)) : Calls Try.prog 32 #[.pointer (some ⟨g, 0, none⟩), .int .i64 (f : Int), .int .i64 b] w fun e w' => e = .returned (.tuple #[]) ∧ w' = w.setCells g (f * 6) (zs (8 - f)) := by
  have hcl := fun ty c => run_clear w g (f * 6) (8 - f) c (by omega) (hb.there _ _ (by rw [fc_size]; omega)) ty
  have hne : ¬ 8 = f := by omega
  have i1 : (f : Int) < 8 := by omega
  have i3 : (f : Int) ≤ 8 := by omega
  have i4 : (0 : Int) ≤ f := by omega
  try simp only [Nat.zero_mul, Nat.sub_zero, Nat.reduceMul, Nat.reduceSub] at hcl
  clear hb
  go_enter Try.func32, Try.ntmps32
  go_wp2
  all_goals try (exfalso; omega)
  go_end0
  exact ⟨rfl, by first | rfl | simp⟩
theorem clr11 (g : Nat) (l : Nat → CV) (w : World) (a : Int) (ha : a < 0) (b : Int) (hb8 : 8 < b)  (hb : Blk w g 71 (fc l)) : Calls Try.prog 32 #[.pointer (some ⟨g, 0, none⟩), .int .i64 a, .int .i64 b] w fun e w' => e = .returned (.tuple #[]) ∧ w' = w.setCells g (0 * 6) (zs (8 - 0)) := by
  have hcl := fun ty c => run_clear w g (0 * 6) (8 - 0) c (by omega) (hb.there _ _ (by rw [fc_size]; omega)) ty
  try simp only [Nat.zero_mul, Nat.sub_zero, Nat.reduceMul, Nat.reduceSub] at hcl
  clear hb
  go_enter Try.func32, Try.ntmps32
  go_wp2
  all_goals try (exfalso; omega)
  go_end0
  exact ⟨rfl, by first | rfl | simp⟩
theorem clear_calls (g : Nat) (l : Nat → CV) (a b : Int) (w : World) (hb : Blk w g 71 (fc l)) : Calls Try.prog 32 #[.pointer (some ⟨g, 0, none⟩), .int .i64 a, .int .i64 b] w fun e w' => e = .returned (.tuple #[]) ∧ Blk w' g 71 (fc (clr l a b)) ∧ w.grownBy w' (some g) := by
  have same : ∀ l' : Nat → CV, (∀ i, i < 8 → l' i = l i) → fc l' = fc l := fun l' h => by
    unfold fc; rw [h 0 (by omega), h 1 (by omega), h 2 (by omega), h 3 (by omega), h 4 (by omega), h 5 (by omega), h 6 (by omega), h 7 (by omega)]
  have same2 : ∀ l' l'' : Nat → CV, (∀ i, i < 8 → l' i = l'' i) → fc l' = fc l'' := fun l' l'' h => by
    unfold fc; rw [h 0 (by omega), h 1 (by omega), h 2 (by omega), h 3 (by omega), h 4 (by omega), h 5 (by omega), h 6 (by omega), h 7 (by omega)]
  have fin : ∀ (f t : Nat), f < t → t ≤ 8 → (∀ i : Nat, i < 8 → ((f ≤ i ∧ i < f + (t - f)) ↔ (a ≤ (i : Int) ∧ (i : Int) < b))) → ∀ (e : Ending) w', e = .returned (.tuple #[]) ∧ w' = w.setCells g (f * 6) (zs (t - f)) → e = .returned (.tuple #[]) ∧ Blk w' g 71 (fc (clr l a b)) ∧ w.grownBy w' (some g) := by
    rintro f t hft h8 hi e w' ⟨rfl, rfl⟩
    refine ⟨rfl, ?_, only_setCells _ _ (only_of_below (Below.refl _ _) _)⟩
    have hh := Blk.setCells (zs (t - f)) (f * 6) hb
    rw [fc_clr l f (t - f) (by omega)] at hh
    rw [same2 (clr l a b) _ (fun i hi8 => by
      show (if a ≤ (i : Int) ∧ (i : Int) < b then CV.zero else l i) = if f ≤ i ∧ i < f + (t - f) then CV.zero else l i
      by_cases hc : a ≤ (i : Int) ∧ (i : Int) < b
      · rw [if_pos hc, if_pos ((hi i hi8).2 hc)]
      · rw [if_neg hc, if_neg (fun k => hc ((hi i hi8).1 k))])]
    exact hh
  by_cases h : max a 0 < min b 8
  · by_cases ha : a < 0
    · by_cases hb8 : 8 < b
      · exact (clr11 g l w a ha b hb8 hb).mono (fin 0 8 (by omega) (by omega) (fun i hi => by omega))
      · obtain ⟨t, rfl⟩ : ∃ t : Nat, b = t := ⟨b.toNat, by omega⟩
        exact (clr10 g t l w a ha (by omega) (by omega) hb).mono (fin 0 t (by omega) (by omega) (fun i hi => by omega))
    · obtain ⟨f, rfl⟩ : ∃ f : Nat, a = f := ⟨a.toNat, by omega⟩
      by_cases hb8 : 8 < b
      · exact (clr01 g f l w b hb8 (by omega) hb).mono (fin f 8 (by omega) (by omega) (fun i hi => by omega))
      · obtain ⟨t, rfl⟩ : ∃ t : Nat, b = t := ⟨b.toNat, by omega⟩
        exact (clr00 g f t l w (by omega) (by omega) hb).mono (fin f t (by omega) (by omega) (fun i hi => by omega))
  · refine (clrN g a b w h).mono fun e w' ⟨h1, h2⟩ => ⟨h1, ?_, ?_⟩
    · subst h2
      rw [same (clr l a b) (fun i hi => by unfold clr; rw [if_neg (by omega)])]
      exact hb
    · subst h2; exact only_of_below (Below.refl _ _) _
end Go.Proofs.Ytijcniflghjoaaa.Rg
