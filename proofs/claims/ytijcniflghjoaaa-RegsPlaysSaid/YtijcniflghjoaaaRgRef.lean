/- The registers of layer 18: the document's file. -/
import Derived.Test.YtijcniflghjoaaaRgOps
namespace Go.Proofs.Ytijcniflghjoaaa.Rg
open Go.RowKit Go.Lib
set_option linter.unusedVariables false
set_option linter.unusedSimpArgs false
theorem rnew_calls (w : World) : Calls Try.prog 29 #[] w fun e w' => e = .returned (.pointer (some ⟨w.heap.size, 0, none⟩)) ∧ Blk w' w.heap.size 73 (fc fun _ => CV.zero) ∧ Below w.heap.size w w' := by
  go_enter Try.func29, Try.ntmps29
  go_wp2
  go_ret
  exact ⟨rfl, Blk.new _ _ _, balloc (Below.refl _ _) _⟩
theorem ris_calls (r : Int) (w : World) : Calls Try.prog 49 #[.int .i64 r] w fun e w' => e = .returned (.bool (decide (0 ≤ r ∧ r < 8))) ∧ w' = w := by
  go_enter Try.func49, Try.ntmps49
  go_wp2
  all_goals go_ret
  all_goals exact ⟨ret_bool (by rw [Bool.eq_iff_iff]; simp; try omega), rfl⟩
theorem ris_yes (r : Int) (w : World) (h : 0 ≤ r ∧ r < 8) : Calls Try.prog 49 #[.int .i64 r] w fun e w' => e = .returned (.bool true) ∧ w' = w := by
  have := ris_calls r w; rwa [decide_eq_true h] at this
theorem ris_no (r : Int) (w : World) (h : ¬ (0 ≤ r ∧ r < 8)) : Calls Try.prog 49 #[.int .i64 r] w fun e w' => e = .returned (.bool false) ∧ w' = w := by
  have := ris_calls r w; rwa [decide_eq_false h] at this
theorem rgetY (g : Nat) (l : Nat → CV) (r : Nat) (w : World) (hr : r < 8) (hb : Blk w g 73 (fc l)) : Calls Try.prog 39 #[.pointer (some ⟨g, 0, none⟩), .int .i64 (r : Int)] w fun e w' => e = .returned (l r).val ∧ Below w.heap.size w w' := by
  obtain ⟨h0, h1, h2, h3, h4, h5⟩ := fc_at l r hr
  have c0 := (hb.cell _).trans h0
  have c1 := (hb.cell _).trans h1
  have c2 := (hb.cell _).trans h2
  have c3 := (hb.cell _).trans h3
  have c4 := (hb.cell _).trans h4
  have c5 := (hb.cell _).trans h5
  have hlt := hb.lt
  clear h0 h1 h2 h3 h4 h5 hb
  unfold CV.val
  generalize l r = x at *
  obtain ⟨x0, x1, x2, x3, x4, x5⟩ := x
  dsimp only at c0 c1 c2 c3 c4 c5 ⊢
  have hI : 0 ≤ (r : Int) ∧ (r : Int) < 8 := by omega
  have hI0 := hI.1
  have hI1 := hI.2
  go_enter Try.func39, Try.ntmps39
  go_wp2_with (go_at_call 49; with_reducible refine (ris_yes _ _ hI).mono ?_; rintro e w1 ⟨rfl, rfl⟩)
  exact bodyPost_ret (v := .agg #[.bool x0, .int .i64 x1, .int .i64 x2, .int .i64 x3, .int .i64 x4, .int .i64 x5]) (by simp [results, Try.results39, go_sem]) rfl ⟨rfl, by repeat (first | with_reducible exact Below.refl _ _ | with_reducible refine bset ?_ (Nat.le_refl _) | with_reducible apply balloc)⟩
theorem rgetN (g : Nat) (r : Int) (w : World) (hr : ¬ (0 ≤ r ∧ r < 8)) : Calls Try.prog 39 #[.pointer (some ⟨g, 0, none⟩), .int .i64 r] w fun e w' => e = .returned CV.zero.val ∧ Below w.heap.size w w' := by
  go_enter Try.func39, Try.ntmps39
  go_wp2_with (first | (go_at_call 49; with_reducible refine (ris_no _ _ hr).mono ?_; rintro e w1 ⟨rfl, rfl⟩))
  exact bodyPost_ret (v := .agg #[.bool false, .int .i64 0, .int .i64 0, .int .i64 0, .int .i64 0, .int .i64 0]) (by simp [results, Try.results39, go_sem]) rfl ⟨rfl, by repeat (first | with_reducible exact Below.refl _ _ | with_reducible refine bset ?_ (Nat.le_refl _) | with_reducible apply balloc)⟩
theorem rget_calls (g : Nat) (l : Nat → CV) (r : Int) (w : World) (hb : Blk w g 73 (fc l)) : Calls Try.prog 39 #[.pointer (some ⟨g, 0, none⟩), .int .i64 r] w fun e w' => e = .returned (at_ l r).val ∧ Below w.heap.size w w' := by
  unfold at_
  by_cases h : 0 ≤ r ∧ r < 8
  · rw [if_pos h]
    have := rgetY g l r.toNat w (by omega) hb
    rwa [show ((r.toNat : Nat) : Int) = r from by omega] at this
  · rw [if_neg h]
    exact rgetN g r w h
theorem rget6 (g : Nat) (l : Nat → CV) (r : Int) (w : World) (hb : Blk w g 73 (fc l)) : Calls Try.prog 39 #[.pointer (some ⟨g, 0, none⟩), .int .i64 r] w fun e w' => e = .returned (.agg #[.bool (at_ l r).t, .int .i64 (at_ l r).b, .int .i64 (at_ l r).c, .int .i64 (at_ l r).d, .int .i64 (at_ l r).e, .int .i64 (at_ l r).f]) ∧ Below w.heap.size w w' := rget_calls g l r w hb
theorem rvalue_calls (g : Nat) (l : Nat → CV) (r : Int) (w : World) (hb : Blk w g 73 (fc l)) : Calls Try.prog 41 #[.pointer (some ⟨g, 0, none⟩), .int .i64 r] w fun e w' => e = .returned (.int .i64 (at_ l r).d) ∧ Below w.heap.size w w' := by
  have HC := Asd.mk (fun W hW => rget6 g l r W hW)
  have HB := Asd.mk hb
  clear hb
  generalize at_ l r = x at *
  obtain ⟨x0, x1, x2, x3, x4, x5⟩ := x
  dsimp only at HC ⊢
  have hfd : ∀ w, (Instr.field 29 (.agg #[.bool x0, .int .i64 x1, .int .i64 x2, .int .i64 x3, .int .i64 x4, .int .i64 x5]) 3).run Try.prog w = .ok (.int .i64 x3) w := fun w => by kernel_rfl
  go_enter Try.func41, Try.ntmps41
  go_wp2_with (first | (go_at_call 39; with_reducible refine (HC.out _ HB.out).mono ?_; rintro e w1 ⟨rfl, hb1⟩))
  go_ret
  exact ⟨by simp, hb1⟩
set_option maxRecDepth 100000 in
theorem rsetY (g : Nat) (l : Nat → CV) (r : Nat) (x : CV) (w : World) (hr : r < 8) (hy : x.right = true) (hb : Blk w g 73 (fc l)) : Calls Try.prog 35 #[.pointer (some ⟨g, 0, none⟩), .int .i64 (r : Int), x.val] w fun e w' => e = .returned (.bool true) ∧ Blk w' g 73 (fc (upd l r x)) ∧ w.grownBy w' (some g) := by
  have HU := Asd.mk (fc_upd l r x hr)
  obtain ⟨h0, h1, h2, h3, h4, h5⟩ := fc_at l r hr
  have c0 := (hb.cell _).trans h0
  have c1 := (hb.cell _).trans h1
  have c2 := (hb.cell _).trans h2
  have c3 := (hb.cell _).trans h3
  have c4 := (hb.cell _).trans h4
  have c5 := (hb.cell _).trans h5
  have f0 := hb.frozen (r * 6)
  have f1 := hb.frozen (r * 6 + 1)
  have f2 := hb.frozen (r * 6 + 2)
  have f3 := hb.frozen (r * 6 + 3)
  have f4 := hb.frozen (r * 6 + 4)
  have f5 := hb.frozen (r * 6 + 5)
  have hlt := hb.lt
  have HB := Asd.mk hb
  clear h0 h1 h2 h3 h4 h5 hb
  have HC := Asd.mk (fun W => refRight_calls x W)
  rw [hy] at HC
  clear hy
  unfold CV.val at *
  generalize l r = y at *
  obtain ⟨y0, y1, y2, y3, y4, y5⟩ := y
  obtain ⟨x0, x1, x2, x3, x4, x5⟩ := x
  dsimp only at c0 c1 c2 c3 c4 c5 HU HC ⊢
  have hI : 0 ≤ (r : Int) ∧ (r : Int) < 8 := by omega
  have hI0 := hI.1
  have hI1 := hI.2
  go_enter Try.func35, Try.ntmps35
  go_wp2_with (first | (go_at_call 49; with_reducible refine (ris_yes _ _ hI).mono ?_; rintro e w1 ⟨rfl, rfl⟩) | (go_at_call 26; with_reducible refine (HC.out _).mono ?_; rintro e w1 ⟨rfl, hb1⟩; obtain ⟨hc, hf, _, _⟩ := bcell hb1; have hz := hb1.size; simp at hz; have l1 : w.heap.size < w1.heap.size := by omega))
  have l2 : g < w.heap.size + 1 := by omega
  have l3 : g ≠ w.heap.size := by omega
  have l4 : w.heap.size ≠ g := by omega
  go_region_held3 (fun w' => w'.cell? ⟨w.heap.size, 0, none⟩ = some (.bool x0) ∧ w'.cell? ⟨w.heap.size, 1, none⟩ = some (.int .i64 x1) ∧ w'.cell? ⟨w.heap.size, 2, none⟩ = some (.int .i64 x2) ∧ w'.cell? ⟨w.heap.size, 3, none⟩ = some (.int .i64 x3) ∧ w'.cell? ⟨w.heap.size, 4, none⟩ = some (.int .i64 x4) ∧ w'.cell? ⟨w.heap.size, 5, none⟩ = some (.int .i64 x5)) (go_keep) (fail)
  go_wp2
  go_ret
  refine ⟨by simp, ?_, ?_⟩
  · rw [← HU.out]
    exact Blk.drew (Blk.set_ (Blk.set_ (Blk.set_ (Blk.set_ (Blk.set_ (Blk.set_ ((HB.out.alloc _).below hb1 (by simp; omega)) _ _) _ _) _ _) _ _) _ _) _ _)
  · refine only_drew (only_set (only_set (only_set (only_set (only_set (only_set (only_of_below (bcall (balloc (Below.refl _ _) _) hb1) _)))))))
theorem rsetN (g : Nat) (r : Int) (x : CV) (w : World) (hr : ¬ (0 ≤ r ∧ r < 8)) : Calls Try.prog 35 #[.pointer (some ⟨g, 0, none⟩), .int .i64 r, x.val] w fun e w' => e = .returned (.bool false) ∧ Below w.heap.size w w' := by
  unfold CV.val at *
  obtain ⟨x0, x1, x2, x3, x4, x5⟩ := x
  dsimp only
  go_enter Try.func35, Try.ntmps35
  go_wp2_with (first | (go_at_call 49; with_reducible refine (ris_no _ _ hr).mono ?_; rintro e w1 ⟨rfl, rfl⟩))
  go_ret
  exact ⟨by simp, by repeat (first | with_reducible exact Below.refl _ _ | with_reducible apply balloc)⟩
theorem rsetW (g : Nat) (r : Int) (x : CV) (w : World) (hr : 0 ≤ r ∧ r < 8) (hy : x.right = false) : Calls Try.prog 35 #[.pointer (some ⟨g, 0, none⟩), .int .i64 r, x.val] w fun e w' => e = .returned (.bool false) ∧ Below w.heap.size w w' := by
  have HC := Asd.mk (fun W => refRight_calls x W)
  rw [hy] at HC
  clear hy
  unfold CV.val at *
  obtain ⟨x0, x1, x2, x3, x4, x5⟩ := x
  dsimp only at HC ⊢
  go_enter Try.func35, Try.ntmps35
  go_wp2_with (first | (go_at_call 49; with_reducible refine (ris_yes _ _ hr).mono ?_; rintro e w1 ⟨rfl, rfl⟩) | (go_at_call 26; with_reducible refine (HC.out _).mono ?_; rintro e w1 ⟨rfl, hb1⟩))
  go_ret
  exact ⟨by simp, bcall (balloc (Below.refl _ _) _) hb1⟩

theorem rset_calls (g : Nat) (l : Nat → CV) (r : Int) (x : CV) (w : World) (hb : Blk w g 73 (fc l)) : Calls Try.prog 35 #[.pointer (some ⟨g, 0, none⟩), .int .i64 r, x.val] w fun e w' => e = .returned (.bool (fine r x)) ∧ Blk w' g 73 (fc (put1 l r x)) ∧ w.grownBy w' (some g) := by
  unfold put1 fine
  by_cases hr : 0 ≤ r ∧ r < 8
  · cases hy : x.right
    · simp only [hr, decide_true, Bool.and_false, Bool.false_eq_true, if_false]
      exact (rsetW g r x w hr hy).mono fun e w' ⟨h1, h2⟩ => ⟨h1, hb.below h2 hb.lt, only_of_below h2 _⟩
    · simp only [hr, and_self, decide_true, Bool.and_self, if_true]
      have := rsetY g l r.toNat x w (by omega) hy hb
      rwa [show ((r.toNat : Nat) : Int) = r from by omega] at this
  · simp only [hr, decide_false, Bool.false_and, Bool.false_eq_true, if_false]
    exact (rsetN g r x w hr).mono fun e w' ⟨h1, h2⟩ => ⟨h1, hb.below h2 hb.lt, only_of_below h2 _⟩
theorem fc_same {l l' : Nat → CV} (h : ∀ i, i < 8 → l i = l' i) : fc l = fc l' := by
  unfold fc; rw [h 0 (by omega), h 1 (by omega), h 2 (by omega), h 3 (by omega), h 4 (by omega), h 5 (by omega), h 6 (by omega), h 7 (by omega)]
/-- Six stores into one register. -/
theorem Blk.six {w : World} {g : Nat} {t : TypeId} {l : Nat → CV} (h : Blk w g t (fc l)) (k : Nat) (hk : k < 8) (x : CV) : Blk ((((((w.setCell ⟨g, k * 6, none⟩ (.bool x.t)).setCell ⟨g, k * 6 + 1, none⟩ (.int .i64 x.b)).setCell ⟨g, k * 6 + 2, none⟩ (.int .i64 x.c)).setCell ⟨g, k * 6 + 3, none⟩ (.int .i64 x.d)).setCell ⟨g, k * 6 + 4, none⟩ (.int .i64 x.e)).setCell ⟨g, k * 6 + 5, none⟩ (.int .i64 x.f)) g t (fc (upd l k x)) := by
  rw [← fc_upd l k x hk]
  exact Blk.set_ (Blk.set_ (Blk.set_ (Blk.set_ (Blk.set_ (Blk.set_ h _ _) _ _) _ _) _ _) _ _) _ _
theorem Blk.reg {w : World} {g : Nat} {t : TypeId} {l : Nat → CV} (h : Blk w g t (fc l)) (k : Nat) (hk : k < 8) : (w.cell? ⟨g, k * 6, none⟩ = some (.bool (l k).t) ∧ w.cell? ⟨g, k * 6 + 1, none⟩ = some (.int .i64 (l k).b) ∧ w.cell? ⟨g, k * 6 + 2, none⟩ = some (.int .i64 (l k).c) ∧ w.cell? ⟨g, k * 6 + 3, none⟩ = some (.int .i64 (l k).d) ∧ w.cell? ⟨g, k * 6 + 4, none⟩ = some (.int .i64 (l k).e) ∧ w.cell? ⟨g, k * 6 + 5, none⟩ = some (.int .i64 (l k).f)) ∧
    w.frozen? ⟨g, k * 6, none⟩ = false ∧ w.frozen? ⟨g, k * 6 + 1, none⟩ = false ∧ w.frozen? ⟨g, k * 6 + 2, none⟩ = false ∧ w.frozen? ⟨g, k * 6 + 3, none⟩ = false ∧ w.frozen? ⟨g, k * 6 + 4, none⟩ = false ∧ w.frozen? ⟨g, k * 6 + 5, none⟩ = false := by
  obtain ⟨h0, h1, h2, h3, h4, h5⟩ := fc_at l k hk
  exact ⟨⟨(h.cell _).trans h0, (h.cell _).trans h1, (h.cell _).trans h2, (h.cell _).trans h3, (h.cell _).trans h4, (h.cell _).trans h5⟩, h.frozen _, h.frozen _, h.frozen _, h.frozen _, h.frozen _, h.frozen _⟩
theorem only_six {a w : World} {g k : Nat} {x : CV} (h : a.grownBy w (some g)) : a.grownBy ((((((w.setCell ⟨g, k * 6, none⟩ (.bool x.t)).setCell ⟨g, k * 6 + 1, none⟩ (.int .i64 x.b)).setCell ⟨g, k * 6 + 2, none⟩ (.int .i64 x.c)).setCell ⟨g, k * 6 + 3, none⟩ (.int .i64 x.d)).setCell ⟨g, k * 6 + 4, none⟩ (.int .i64 x.e)).setCell ⟨g, k * 6 + 5, none⟩ (.int .i64 x.f)) (some g) :=
  only_set (only_set (only_set (only_set (only_set (only_set h)))))
/-- l, its first k registers cleared where they lie from a up to b. -/
def clrK (l : Nat → CV) (a b : Int) (k : Nat) : Nat → CV := fun i => if i < k ∧ (a ≤ (i : Int) ∧ (i : Int) < b) then CV.zero else l i
theorem clrK_no (l : Nat → CV) (a b : Int) (k : Nat) (h : ¬ (a ≤ (k : Int) ∧ (k : Int) < b)) : fc (clrK l a b (k + 1)) = fc (clrK l a b k) := fc_same fun i _ => by
  show (if i < k + 1 ∧ (a ≤ (i : Int) ∧ (i : Int) < b) then CV.zero else l i) = if i < k ∧ (a ≤ (i : Int) ∧ (i : Int) < b) then CV.zero else l i
  by_cases hc : i < k ∧ (a ≤ (i : Int) ∧ (i : Int) < b)
  · rw [if_pos hc, if_pos ⟨by omega, hc.2⟩]
  · rw [if_neg hc, if_neg (fun hh => hc ⟨by rcases Nat.lt_or_eq_of_le (Nat.le_of_lt_succ hh.1) with h1 | h1; exact h1; subst h1; exact absurd hh.2 h, hh.2⟩)]
theorem clrK_yes (l : Nat → CV) (a b : Int) (k : Nat) (h : a ≤ (k : Int) ∧ (k : Int) < b) : fc (upd (clrK l a b k) k CV.zero) = fc (clrK l a b (k + 1)) := fc_same fun i _ => by
  show (if i = k then CV.zero else if i < k ∧ (a ≤ (i : Int) ∧ (i : Int) < b) then CV.zero else l i) = if i < k + 1 ∧ (a ≤ (i : Int) ∧ (i : Int) < b) then CV.zero else l i
  by_cases hi : i = k
  · subst hi; rw [if_pos rfl, if_pos ⟨by omega, h⟩]
  · rw [if_neg hi]
    by_cases hc : i < k ∧ (a ≤ (i : Int) ∧ (i : Int) < b)
    · rw [if_pos hc, if_pos ⟨by omega, hc.2⟩]
    · rw [if_neg hc, if_neg (fun hh => hc ⟨by omega, hh.2⟩)]
theorem clrK_8 (l : Nat → CV) (a b : Int) : fc (clrK l a b 8) = fc (clr l a b) := fc_same fun i hi => by
  show (if i < 8 ∧ (a ≤ (i : Int) ∧ (i : Int) < b) then CV.zero else l i) = if a ≤ (i : Int) ∧ (i : Int) < b then CV.zero else l i
  by_cases hc : a ≤ (i : Int) ∧ (i : Int) < b
  · rw [if_pos ⟨hi, hc⟩, if_pos hc]
  · rw [if_neg (fun h => hc h.2), if_neg hc]
theorem rclear_calls (g : Nat) (l : Nat → CV) (a b : Int) (w : World) (hb : Blk w g 73 (fc l)) : Calls Try.prog 33 #[.pointer (some ⟨g, 0, none⟩), .int .i64 a, .int .i64 b] w fun e w' => e = .returned (.tuple #[]) ∧ Blk w' g 73 (fc (clr l a b)) ∧ w.grownBy w' (some g) := by
  have h0 : fc (clrK l a b 0) = fc l := fc_same fun i _ => by show (if i < 0 ∧ _ then _ else _) = _; rw [if_neg (by omega)]
  have HB := Asd.mk (h0.symm ▸ hb)
  have HG := Asd.mk (only_of_below (Below.refl w.heap.size w) (some g))
  clear hb h0
  go_enter Try.func33, Try.ntmps33
  go_wp2
  go_loopg [6] 9 (fun kq v6 w' => ∃ k : Nat, v6 = .int .i64 (k : Int) ∧ Asd (k ≤ 8 ∧ kq + k = 9) ∧ Asd (Blk w' g 73 (fc (clrK l a b k))) ∧ Asd (w.grownBy w' (some g)))
  case atStart => exact ⟨0, rfl, ⟨by omega, by omega⟩, HB, HG⟩
  case round =>
    obtain ⟨k, rfl, HI, HB2, HG2⟩ := hrel
    clear HB HG
    obtain ⟨i0, i1⟩ := HI.out
    by_cases hk : k < 8
    · have hI0 : (0 : Int) ≤ (k : Int) := by omega
      have hI1 : (k : Int) < 8 := by omega
      by_cases hA : a ≤ (k : Int)
      · by_cases hB : (k : Int) < b
        · obtain ⟨⟨c0, c1, c2, c3, c4, c5⟩, f0, f1, f2, f3, f4, f5⟩ := HB2.out.reg k hk
          have HE := Asd.mk (clrK_yes l a b k ⟨hA, hB⟩)
          go_wp2
          go_roundg (gk - 1)
          case measure => omega
          case rel => exact ⟨k + 1, by simp, ⟨by omega, by omega⟩, ⟨HE.out ▸ HB2.out.six k hk CV.zero⟩, ⟨only_six (x := CV.zero) HG2.out⟩⟩
        · have HE := Asd.mk (clrK_no l a b k (fun h => hB h.2))
          go_wp2
          go_roundg (gk - 1)
          case measure => omega
          case rel => exact ⟨k + 1, by simp, ⟨by omega, by omega⟩, ⟨HE.out.symm ▸ HB2.out⟩, HG2⟩
      · have HE := Asd.mk (clrK_no l a b k (fun h => hA h.1))
        go_wp2
        go_roundg (gk - 1)
        case measure => omega
        case rel => exact ⟨k + 1, by simp, ⟨by omega, by omega⟩, ⟨HE.out.symm ▸ HB2.out⟩, HG2⟩
    · obtain rfl : k = 8 := by omega
      go_wp2
      go_end0
      exact ⟨rfl, clrK_8 l a b ▸ HB2.out, HG2.out⟩
end Go.Proofs.Ytijcniflghjoaaa.Rg
