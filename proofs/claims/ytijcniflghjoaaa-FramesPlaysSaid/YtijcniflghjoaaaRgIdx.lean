/- A row of capabilities is asked: slices.IndexFunc, ContainsFunc, the document's Same. -/
import Derived.Test.YtijcniflghjoaaaRgFile
namespace Go.Proofs.Ytijcniflghjoaaa.Rg
open Go.RowKit
set_option linter.unusedVariables false
set_option linter.unusedSimpArgs false
/-- The capability x lies at place i of the row that begins at o of block B. -/
def At (w : World) (B o i : Nat) (x : CV) : Prop := B < w.heap.size ∧ w.cell? ⟨B, o + i * 6, none⟩ = some (.bool x.t) ∧ w.cell? ⟨B, o + i * 6 + 1, none⟩ = some (.int .i64 x.b) ∧ w.cell? ⟨B, o + i * 6 + 2, none⟩ = some (.int .i64 x.c) ∧ w.cell? ⟨B, o + i * 6 + 3, none⟩ = some (.int .i64 x.d) ∧ w.cell? ⟨B, o + i * 6 + 4, none⟩ = some (.int .i64 x.e) ∧ w.cell? ⟨B, o + i * 6 + 5, none⟩ = some (.int .i64 x.f)
/-- The slice at A has, at n places, the capabilities l. -/
def Row (w : World) (A : Option Addr) (n : Nat) (l : Nat → CV) : Prop := ∀ i, i < n → ∃ B o, A = some ⟨B, o, none⟩ ∧ At w B o i (l i)
theorem At.keep {w w' : World} {B o i : Nat} {x : CV} (h : At w B o i x) (hs : w.heap.size ≤ w'.heap.size) (hk : w'.heap[B]? = w.heap[B]?) : At w' B o i x := by
  obtain ⟨h0, h1, h2, h3, h4, h5, h6⟩ := h
  have hc : ∀ k, w'.cell? ⟨B, k, none⟩ = w.cell? ⟨B, k, none⟩ := fun k => World.cell?_of_block hk
  exact ⟨Nat.lt_of_lt_of_le h0 hs, (hc _).trans h1, (hc _).trans h2, (hc _).trans h3, (hc _).trans h4, (hc _).trans h5, (hc _).trans h6⟩
theorem At.below {w w' : World} {B o i : Nat} {x : CV} {N : Nat} (h : At w B o i x) (hB : B < N) (hb : Below N w w') : At w' B o i x := h.keep hb.size (hb.block _ hB)
theorem Row.below {w w' : World} {A : Option Addr} {n : Nat} {l : Nat → CV} (h : Row w A n l) (hb : Below w.heap.size w w') : Row w' A n l := fun i hi => let ⟨B, o, e, k⟩ := h i hi; ⟨B, o, e, k.below k.1 hb⟩
theorem Row.grown {w w' : World} {A : Option Addr} {n g : Nat} {l : Nat → CV} (h : Row w A n l) (hb : w.grownBy w' (some g)) (hg : ∀ B o, A = some ⟨B, o, none⟩ → B ≠ g) : Row w' A n l := fun i hi => let ⟨B, o, e, k⟩ := h i hi; ⟨B, o, e, k.keep hb.size (hb.block B k.1 (fun he => hg B o e (by injection he)))⟩
theorem clo_calls (x : CV) (h : I64 x.e) (w : World) : Calls Try.prog 45 #[x.val] w fun e w' => e = .returned (.bool (!x.right)) ∧ Below w.heap.size w w' := by
  have HC := Asd.mk (fun W => capRight_calls x h W)
  generalize x.right = b at *
  unfold CV.val at *
  obtain ⟨x0, x1, x2, x3, x4, x5⟩ := x
  dsimp only at HC ⊢
  go_enter Try.func45, Try.ntmps45
  go_wp2_with (first | (go_at_call 46; with_reducible refine (HC.out _).mono ?_; rintro e w1 ⟨rfl, hb1⟩))
  go_ret
  exact ⟨by simp, bcall (balloc (Below.refl _ _) _) hb1⟩
/-- Are the first n right? -/
def allR (l : Nat → CV) : Nat → Bool
  | 0 => true
  | n + 1 => allR l n && (l n).right
def IdxPost (p : Bool) (w : World) (e : Ending) (w' : World) : Prop := (∃ r : Int, e = .returned (.int .i64 r) ∧ decide (0 ≤ r) = p) ∧ Below w.heap.size w w'
theorem allR_lt {l : Nat → CV} {n k : Nat} (hk : k < n) (h : (l k).right = false) : allR l n = false := by
  induction n with
  | zero => omega
  | succ m ih =>
    rcases Nat.lt_or_eq_of_le (Nat.le_of_lt_succ hk) with h1 | h1
    · simp [allR, ih h1]
    · subst h1; simp [allR, h]
theorem idx_calls (A : Option Addr) (n cap : Nat) (l : Nat → CV) (w : World) (hR : Row w A n l) (hok : ∀ i, i < n → (l i).ok) (hn : n ≤ maxLen) : Calls Try.prog 58 #[.slice A n cap, .func (.func 45) #[] #[]] w (IdxPost (!allR l n) w) := by
  unfold maxLen at hn
  have HR := Asd.mk hR
  have HO := Asd.mk hok
  clear hR hok
  have BL := Asd.mk (Below.refl w.heap.size w)
  go_enter Try.func58, Try.ntmps58
  go_wp2
  go_loopg [5, 8] (n + 1) (fun kq v5 v8 w' => ∃ k : Nat, v8 = .int .i64 (k : Int) ∧ Asd (k ≤ n ∧ kq + k = n + 1 ∧ allR l k = true) ∧ Asd (Below w.heap.size w w'))
  case atStart => exact ⟨0, rfl, ⟨by omega, by omega, rfl⟩, BL⟩
  case round =>
    obtain ⟨k, rfl, HI, HB⟩ := hrel
    obtain ⟨i0, i1, i2⟩ := HI.out
    by_cases hk : k < n
    · obtain ⟨B, o, rfl, ha⟩ := HR.out k hk
      have hx := (HO.out k hk).2.2.2.1
      obtain ⟨hlt, c0, c1, c2, c3, c4, c5⟩ := ha.below ha.1 HB.out
      have HC := Asd.mk (fun W => clo_calls (l k) hx W)
      have HA := Asd.mk (show (l k).right = false → allR l n = false from allR_lt hk)
      have HS := Asd.mk (show allR l (k + 1) = (l k).right by show (allR l k && (l k).right) = _; rw [i2, Bool.true_and])
      clear hx ha i2
      generalize hr : (l k).right = b at *
      clear hr
      unfold CV.val at HC
      generalize l k = x at *
      obtain ⟨x0, x1, x2, x3, x4, x5⟩ := x
      dsimp only at HC c0 c1 c2 c3 c4 c5
      cases b
      · have HC' := Asd.mk (fun W => HC.out W)
        go_wp2_with (first | (go_at_call 45; with_reducible refine (HC.out _).mono ?_; rintro e w1 ⟨rfl, hb1⟩))
        go_ret
        exact ⟨⟨k, by simp, by rw [HA.out (by first | rfl | trivial)]; simp⟩, bcall HB.out hb1⟩
      · go_wp2_with (first | (go_at_call 45; with_reducible refine (HC.out _).mono ?_; rintro e w1 ⟨rfl, hb1⟩))
        go_roundg (gk - 1)
        case measure => omega
        case rel => exact ⟨k + 1, by simp, ⟨by omega, by omega, HS.out⟩, ⟨bcall HB.out hb1⟩⟩
    · obtain rfl : k = n := by omega
      have HA := Asd.mk i2
      clear i2
      go_wp2
      go_ret
      exact ⟨⟨-1, by simp, by rw [HA.out]; rfl⟩, HB.out⟩
def BoolPost (p : Bool) (w : World) (e : Ending) (w' : World) : Prop := e = .returned (.bool p) ∧ Below w.heap.size w w'
theorem cont_calls (A : Option Addr) (n cap : Nat) (l : Nat → CV) (w : World) (hR : Row w A n l) (hok : ∀ i, i < n → (l i).ok) (hn : n ≤ maxLen) : Calls Try.prog 47 #[.slice A n cap, .func (.func 45) #[] #[]] w fun e w' => e = .returned (.bool (!allR l n)) ∧ Below w.heap.size w w' := by
  have HC := Asd.mk (idx_calls A n cap l w hR hok hn)
  generalize (!allR l n) = p at *
  clear hR hok hn
  go_enter Try.func47, Try.ntmps47
  go_wp2_with (go_at_call 58; (with_reducible refine (HC.out).mono ?_); rintro e w1 ⟨⟨r, rfl, hr⟩, hb1⟩)
  go_ret
  exact ⟨rfl, hb1⟩
end Go.Proofs.Ytijcniflghjoaaa.Rg
