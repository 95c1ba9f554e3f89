/- The registers of layer 18: the program's file. -/
import Derived.Test.YtijcniflghjoaaaRgCap
import Derived.Deep.RegionHeld3
namespace Go.Proofs.Ytijcniflghjoaaa.Rg
open Go.RowKit
set_option linter.unusedVariables false
set_option linter.unusedSimpArgs false
/-- Eight registers' cells. -/
def fc (l : Nat → CV) : Array Value := #[.bool (l 0).t, .int .i64 (l 0).b, .int .i64 (l 0).c, .int .i64 (l 0).d, .int .i64 (l 0).e, .int .i64 (l 0).f, .bool (l 1).t, .int .i64 (l 1).b, .int .i64 (l 1).c, .int .i64 (l 1).d, .int .i64 (l 1).e, .int .i64 (l 1).f, .bool (l 2).t, .int .i64 (l 2).b, .int .i64 (l 2).c, .int .i64 (l 2).d, .int .i64 (l 2).e, .int .i64 (l 2).f, .bool (l 3).t, .int .i64 (l 3).b, .int .i64 (l 3).c, .int .i64 (l 3).d, .int .i64 (l 3).e, .int .i64 (l 3).f, .bool (l 4).t, .int .i64 (l 4).b, .int .i64 (l 4).c, .int .i64 (l 4).d, .int .i64 (l 4).e, .int .i64 (l 4).f, .bool (l 5).t, .int .i64 (l 5).b, .int .i64 (l 5).c, .int .i64 (l 5).d, .int .i64 (l 5).e, .int .i64 (l 5).f, .bool (l 6).t, .int .i64 (l 6).b, .int .i64 (l 6).c, .int .i64 (l 6).d, .int .i64 (l 6).e, .int .i64 (l 6).f, .bool (l 7).t, .int .i64 (l 7).b, .int .i64 (l 7).c, .int .i64 (l 7).d, .int .i64 (l 7).e, .int .i64 (l 7).f]
theorem fc_at (l : Nat → CV) (r : Nat) (h : r < 8) : (fc l)[r * 6]? = some (.bool (l r).t) ∧ (fc l)[r * 6 + 1]? = some (.int .i64 (l r).b) ∧ (fc l)[r * 6 + 2]? = some (.int .i64 (l r).c) ∧ (fc l)[r * 6 + 3]? = some (.int .i64 (l r).d) ∧ (fc l)[r * 6 + 4]? = some (.int .i64 (l r).e) ∧ (fc l)[r * 6 + 5]? = some (.int .i64 (l r).f) := by
  obtain rfl | rfl | rfl | rfl | rfl | rfl | rfl | rfl : r = 0 ∨ r = 1 ∨ r = 2 ∨ r = 3 ∨ r = 4 ∨ r = 5 ∨ r = 6 ∨ r = 7 := by omega
  all_goals exact ⟨rfl, rfl, rfl, rfl, rfl, rfl⟩
def upd (l : Nat → CV) (r : Nat) (x : CV) : Nat → CV := fun i => if i = r then x else l i
theorem fc_upd (l : Nat → CV) (r : Nat) (x : CV) (h : r < 8) : ((((((fc l).setIfInBounds (r * 6) (.bool x.t)).setIfInBounds (r * 6 + 1) (.int .i64 x.b)).setIfInBounds (r * 6 + 2) (.int .i64 x.c)).setIfInBounds (r * 6 + 3) (.int .i64 x.d)).setIfInBounds (r * 6 + 4) (.int .i64 x.e)).setIfInBounds (r * 6 + 5) (.int .i64 x.f) = fc (upd l r x) := by
  obtain rfl | rfl | rfl | rfl | rfl | rfl | rfl | rfl : r = 0 ∨ r = 1 ∨ r = 2 ∨ r = 3 ∨ r = 4 ∨ r = 5 ∨ r = 6 ∨ r = 7 := by omega
  all_goals simp [fc, upd]
theorem new_calls (w : World) : Calls Try.prog 28 #[] w fun e w' => e = .returned (.pointer (some ⟨w.heap.size, 0, none⟩)) ∧ Blk w' w.heap.size 71 (fc fun _ => CV.zero) ∧ Below w.heap.size w w' := by
  go_enter Try.func28, Try.ntmps28
  go_wp2
  go_ret
  exact ⟨rfl, Blk.new _ _ _, balloc (Below.refl _ _) _⟩
theorem is_calls (r : Int) (w : World) : Calls Try.prog 48 #[.int .i64 r] w fun e w' => e = .returned (.bool (decide (0 ≤ r ∧ r < 8))) ∧ w' = w := by
  go_enter Try.func48, Try.ntmps48
  go_wp2
  all_goals go_ret
  all_goals exact ⟨ret_bool (by rw [Bool.eq_iff_iff]; simp; try omega), rfl⟩
theorem is_yes (r : Int) (w : World) (h : 0 ≤ r ∧ r < 8) : Calls Try.prog 48 #[.int .i64 r] w fun e w' => e = .returned (.bool true) ∧ w' = w := by
  have := is_calls r w; rwa [decide_eq_true h] at this
theorem is_no (r : Int) (w : World) (h : ¬ (0 ≤ r ∧ r < 8)) : Calls Try.prog 48 #[.int .i64 r] w fun e w' => e = .returned (.bool false) ∧ w' = w := by
  have := is_calls r w; rwa [decide_eq_false h] at this
theorem int_calls (n : Int) (w : World) : Calls Try.prog 59 #[.int .i64 n] w fun e w' => e = .returned (.agg #[.bool false, .int .i64 0, .int .i64 0, .int .i64 (Go.bits .and .i64 n 4294967295), .int .i64 0, .int .i64 0]) ∧ Below w.heap.size w w' := by
  go_enter Try.func59, Try.ntmps59
  go_wp2
  exact bodyPost_ret (v := .agg #[.bool false, .int .i64 0, .int .i64 0, .int .i64 (Go.bits .and .i64 n 4294967295), .int .i64 0, .int .i64 0]) (by simp [results, Try.results59, go_sem]) rfl ⟨rfl, by repeat (first | exact Below.refl _ _ | refine bset ?_ (Nat.le_refl _) | apply balloc)⟩
theorem int0_calls (w : World) : Calls Try.prog 59 #[.int .i64 0] w fun e w' => e = .returned (.agg #[.bool false, .int .i64 0, .int .i64 0, .int .i64 0, .int .i64 0, .int .i64 0]) ∧ Below w.heap.size w w' := int_calls 0 w
theorem null_calls (w : World) : Calls Try.prog 51 #[] w fun e w' => e = .returned CV.zero.val ∧ Below w.heap.size w w' := by
  go_enter Try.func51, Try.ntmps51
  go_wp2_with (go_at_call 59; with_reducible refine (int0_calls _).mono ?_; rintro e w1 ⟨rfl, hb1⟩; obtain ⟨hc, hf, _, _⟩ := bcell hb1; have hz := hb1.size; simp at hz; have l1 : w.heap.size < w1.heap.size := by omega)
  exact bodyPost_ret (v := .agg #[.bool false, .int .i64 0, .int .i64 0, .int .i64 0, .int .i64 0, .int .i64 0]) (by simp [results, Try.results51, go_sem, hc]) rfl ⟨rfl, by repeat (first | with_reducible exact Below.refl _ _ | with_reducible refine bset ?_ (Nat.le_refl _) | with_reducible apply balloc | with_reducible refine bcall ?_ hb1)⟩
theorem null0_calls (w : World) : Calls Try.prog 51 #[] w fun e w' => e = .returned (.agg #[.bool false, .int .i64 0, .int .i64 0, .int .i64 0, .int .i64 0, .int .i64 0]) ∧ Below w.heap.size w w' := null_calls w
theorem value_calls (x : CV) (w : World) : Calls Try.prog 52 #[x.val] w fun e w' => e = .returned (.int .i64 x.d) ∧ Below w.heap.size w w' := by
  obtain ⟨a, b, c, d, e, f⟩ := x
  show Calls Try.prog 52 #[.agg #[.bool a, .int .i64 b, .int .i64 c, .int .i64 d, .int .i64 e, .int .i64 f]] w _
  go_enter Try.func52, Try.ntmps52
  go_wp2
  go_ret
  exact ⟨by simp, balloc (Below.refl _ _) _⟩
theorem getY_calls (g : Nat) (l : Nat → CV) (r : Nat) (w : World) (hr : r < 8) (hb : Blk w g 71 (fc l)) : Calls Try.prog 38 #[.pointer (some ⟨g, 0, none⟩), .int .i64 (r : Int)] w fun e w' => e = .returned (l r).val ∧ Below w.heap.size w w' := by
  obtain ⟨h0, h1, h2, h3, h4, h5⟩ := fc_at l r hr
  have c0 := (hb.cell _).trans h0
  have c1 := (hb.cell _).trans h1
  have c2 := (hb.cell _).trans h2
  have c3 := (hb.cell _).trans h3
  have c4 := (hb.cell _).trans h4
  have c5 := (hb.cell _).trans h5
  have hlt := hb.lt
  clear h0 h1 h2 h3 h4 h5 hb
  unfold CV.val
  generalize l r = x at *
  obtain ⟨x0, x1, x2, x3, x4, x5⟩ := x
  dsimp only at c0 c1 c2 c3 c4 c5 ⊢
  have hI : 0 ≤ (r : Int) ∧ (r : Int) < 8 := by omega
  have hI0 := hI.1
  have hI1 := hI.2
  go_enter Try.func38, Try.ntmps38
  go_wp2_with (go_at_call 48; with_reducible refine (is_yes _ _ hI).mono ?_; rintro e w1 ⟨rfl, rfl⟩)
  exact bodyPost_ret (v := .agg #[.bool x0, .int .i64 x1, .int .i64 x2, .int .i64 x3, .int .i64 x4, .int .i64 x5]) (by simp [results, Try.results38, go_sem]) rfl ⟨rfl, by repeat (first | exact Below.refl _ _ | refine bset ?_ (Nat.le_refl _) | apply balloc)⟩
theorem getN_calls (g : Nat) (r : Int) (w : World) (hr : ¬ (0 ≤ r ∧ r < 8)) : Calls Try.prog 38 #[.pointer (some ⟨g, 0, none⟩), .int .i64 r] w fun e w' => e = .returned CV.zero.val ∧ Below w.heap.size w w' := by
  go_enter Try.func38, Try.ntmps38
  go_wp2_with (first | (go_at_call 48; with_reducible refine (is_no _ _ hr).mono ?_; rintro e w1 ⟨rfl, rfl⟩) | (go_at_call 51; with_reducible refine (null0_calls _).mono ?_; rintro e w1 ⟨rfl, hb1⟩; obtain ⟨hc, hf, _, _⟩ := bcell hb1; have hz := hb1.size; simp at hz; have l1 : w.heap.size < w1.heap.size := by omega))
  exact bodyPost_ret (v := .agg #[.bool false, .int .i64 0, .int .i64 0, .int .i64 0, .int .i64 0, .int .i64 0]) (by simp [results, Try.results38, go_sem, hc]) rfl ⟨rfl, by repeat (first | with_reducible exact Below.refl _ _ | with_reducible refine bset ?_ (Nat.le_refl _) | with_reducible apply balloc | with_reducible refine bcall ?_ hb1)⟩
/-- What a register has. -/
def at_ (l : Nat → CV) (r : Int) : CV := if 0 ≤ r ∧ r < 8 then l r.toNat else CV.zero
theorem get_calls (g : Nat) (l : Nat → CV) (r : Int) (w : World) (hb : Blk w g 71 (fc l)) : Calls Try.prog 38 #[.pointer (some ⟨g, 0, none⟩), .int .i64 r] w fun e w' => e = .returned (at_ l r).val ∧ Below w.heap.size w w' := by
  unfold at_
  by_cases h : 0 ≤ r ∧ r < 8
  · rw [if_pos h]
    have := getY_calls g l r.toNat w (by omega) hb
    rwa [show ((r.toNat : Nat) : Int) = r from by omega] at this
  · rw [if_neg h]
    exact getN_calls g r w h
theorem regValue_calls (g : Nat) (l : Nat → CV) (r : Int) (w : World) (hb : Blk w g 71 (fc l)) : Calls Try.prog 40 #[.pointer (some ⟨g, 0, none⟩), .int .i64 r] w fun e w' => e = .returned (.int .i64 (at_ l r).d) ∧ Below w.heap.size w w' := by
  have HB := Asd.mk hb
  clear hb
  go_enter Try.func40, Try.ntmps40
  go_wp2_with (first | (go_at_call 38; with_reducible refine (get_calls _ l _ _ HB.out).mono ?_; rintro e w1 ⟨rfl, hb1⟩) | (go_at_call 52; with_reducible refine (value_calls _ _).mono ?_; rintro e w2 ⟨rfl, hb2⟩))
  go_ret
  exact ⟨by simp, bcall hb1 hb2⟩
set_option maxRecDepth 100000 in
theorem setY_calls (g : Nat) (l : Nat → CV) (r : Nat) (x : CV) (w : World) (hr : r < 8) (hx : I64 x.e) (hy : x.right = true) (hb : Blk w g 71 (fc l)) : Calls Try.prog 34 #[.pointer (some ⟨g, 0, none⟩), .int .i64 (r : Int), x.val] w fun e w' => e = .returned (.bool true) ∧ Blk w' g 71 (fc (upd l r x)) ∧ w.grownBy w' (some g) := by
  have HU := Asd.mk (fc_upd l r x hr)
  obtain ⟨h0, h1, h2, h3, h4, h5⟩ := fc_at l r hr
  have c0 := (hb.cell _).trans h0
  have c1 := (hb.cell _).trans h1
  have c2 := (hb.cell _).trans h2
  have c3 := (hb.cell _).trans h3
  have c4 := (hb.cell _).trans h4
  have c5 := (hb.cell _).trans h5
  have f0 := hb.frozen (r * 6)
  have f1 := hb.frozen (r * 6 + 1)
  have f2 := hb.frozen (r * 6 + 2)
  have f3 := hb.frozen (r * 6 + 3)
  have f4 := hb.frozen (r * 6 + 4)
  have f5 := hb.frozen (r * 6 + 5)
  have hlt := hb.lt
  have HB := Asd.mk hb
  clear h0 h1 h2 h3 h4 h5 hb
  have HC := Asd.mk (fun W => capRight_calls x hx W)
  rw [hy] at HC
  clear hx hy
  unfold CV.val at *
  generalize l r = y at *
  obtain ⟨y0, y1, y2, y3, y4, y5⟩ := y
  obtain ⟨x0, x1, x2, x3, x4, x5⟩ := x
  dsimp only at c0 c1 c2 c3 c4 c5 HU HC ⊢
  have hI : 0 ≤ (r : Int) ∧ (r : Int) < 8 := by omega
  have hI0 := hI.1
  have hI1 := hI.2
  go_enter Try.func34, Try.ntmps34
  go_wp2_with (first | (go_at_call 48; with_reducible refine (is_yes _ _ hI).mono ?_; rintro e w1 ⟨rfl, rfl⟩) | (go_at_call 46; with_reducible refine (HC.out _).mono ?_; rintro e w1 ⟨rfl, hb1⟩; obtain ⟨hc, hf, _, _⟩ := bcell hb1; have hz := hb1.size; simp at hz; have l1 : w.heap.size < w1.heap.size := by omega))
  have l2 : g < w.heap.size + 1 := by omega
  have l3 : g ≠ w.heap.size := by omega
  have l4 : w.heap.size ≠ g := by omega
  go_region_held3 (fun w' => w'.cell? ⟨w.heap.size, 0, none⟩ = some (.bool x0) ∧ w'.cell? ⟨w.heap.size, 1, none⟩ = some (.int .i64 x1) ∧ w'.cell? ⟨w.heap.size, 2, none⟩ = some (.int .i64 x2) ∧ w'.cell? ⟨w.heap.size, 3, none⟩ = some (.int .i64 x3) ∧ w'.cell? ⟨w.heap.size, 4, none⟩ = some (.int .i64 x4) ∧ w'.cell? ⟨w.heap.size, 5, none⟩ = some (.int .i64 x5)) (go_keep) (fail)
  go_wp2
  go_ret
  refine ⟨by simp, ?_, ?_⟩
  · rw [← HU.out]
    exact Blk.drew (Blk.set_ (Blk.set_ (Blk.set_ (Blk.set_ (Blk.set_ (Blk.set_ ((HB.out.alloc _).below hb1 (by simp; omega)) _ _) _ _) _ _) _ _) _ _) _ _)
  · refine only_drew (only_set (only_set (only_set (only_set (only_set (only_set (only_of_below (bcall (balloc (Below.refl _ _) _) hb1) _)))))))
theorem setN_calls (g : Nat) (r : Int) (x : CV) (w : World) (hr : ¬ (0 ≤ r ∧ r < 8)) : Calls Try.prog 34 #[.pointer (some ⟨g, 0, none⟩), .int .i64 r, x.val] w fun e w' => e = .returned (.bool false) ∧ Below w.heap.size w w' := by
  unfold CV.val at *
  obtain ⟨x0, x1, x2, x3, x4, x5⟩ := x
  dsimp only
  go_enter Try.func34, Try.ntmps34
  go_wp2_with (first | (go_at_call 48; with_reducible refine (is_no _ _ hr).mono ?_; rintro e w1 ⟨rfl, rfl⟩))
  go_ret
  exact ⟨by simp, by repeat (first | with_reducible exact Below.refl _ _ | with_reducible apply balloc)⟩
theorem setW_calls (g : Nat) (r : Int) (x : CV) (w : World) (hr : 0 ≤ r ∧ r < 8) (hx : I64 x.e) (hy : x.right = false) : Calls Try.prog 34 #[.pointer (some ⟨g, 0, none⟩), .int .i64 r, x.val] w fun e w' => e = .returned (.bool false) ∧ Below w.heap.size w w' := by
  have HC := Asd.mk (fun W => capRight_calls x hx W)
  rw [hy] at HC
  clear hx hy
  unfold CV.val at *
  obtain ⟨x0, x1, x2, x3, x4, x5⟩ := x
  dsimp only at HC ⊢
  go_enter Try.func34, Try.ntmps34
  go_wp2_with (first | (go_at_call 48; with_reducible refine (is_yes _ _ hr).mono ?_; rintro e w1 ⟨rfl, rfl⟩) | (go_at_call 46; with_reducible refine (HC.out _).mono ?_; rintro e w1 ⟨rfl, hb1⟩))
  go_ret
  exact ⟨by simp, bcall (balloc (Below.refl _ _) _) hb1⟩
/-- May that be given to that register? -/
def fine (r : Int) (x : CV) : Bool := decide (0 ≤ r ∧ r < 8) && x.right
/-- What all have behind Set. -/
def put1 (l : Nat → CV) (r : Int) (x : CV) : Nat → CV := if fine r x = true then upd l r.toNat x else l
theorem set_calls (g : Nat) (l : Nat → CV) (r : Int) (x : CV) (w : World) (hx : I64 x.e) (hb : Blk w g 71 (fc l)) : Calls Try.prog 34 #[.pointer (some ⟨g, 0, none⟩), .int .i64 r, x.val] w fun e w' => e = .returned (.bool (fine r x)) ∧ Blk w' g 71 (fc (put1 l r x)) ∧ w.grownBy w' (some g) := by
  unfold put1 fine
  by_cases hr : 0 ≤ r ∧ r < 8
  · cases hy : x.right
    · simp only [hr, decide_true, Bool.and_false, Bool.false_eq_true, if_false]
      exact (setW_calls g r x w hr hx hy).mono fun e w' ⟨h1, h2⟩ => ⟨h1, hb.below h2 hb.lt, only_of_below h2 _⟩
    · simp only [hr, and_self, decide_true, Bool.and_self, if_true]
      have := setY_calls g l r.toNat x w (by omega) hx hy hb
      rwa [show ((r.toNat : Nat) : Int) = r from by omega] at this
  · simp only [hr, decide_false, Bool.false_and, Bool.false_eq_true, if_false]
    exact (setN_calls g r x w hr).mono fun e w' ⟨h1, h2⟩ => ⟨h1, hb.below h2 hb.lt, only_of_below h2 _⟩
end Go.Proofs.Ytijcniflghjoaaa.Rg
