/- The program's stack of frames: right, Push. -/
import Derived.Test.YtijcniflghjoaaaFrA
import Derived.Test.YtijcniflghjoaaaRgIdx
namespace Go.Proofs.Ytijcniflghjoaaa.Fr
open Go.RowKit Go.Proofs.Ytijcniflghjoaaa.Rg Go.Proofs.YtijcniflghjoaaaW.PrintLast
set_option linter.unusedVariables false
set_option linter.unusedSimpArgs false
theorem clo53 (x : CV) (h : I64 x.e) (w : World) : Calls Try.prog 53 #[x.val] w fun e w' => e = .returned (.bool (!x.right)) ∧ Below w.heap.size w w' := by
  have HC := Asd.mk (fun W => capRight_calls x h W)
  generalize x.right = b at *
  unfold CV.val at *
  obtain ⟨x0, x1, x2, x3, x4, x5⟩ := x
  dsimp only at HC ⊢
  go_enter Try.func53, Try.ntmps53
  go_wp2_with (first | (go_at_call 46; with_reducible refine (HC.out _).mono ?_; rintro e w1 ⟨rfl, hb1⟩))
  go_ret
  exact ⟨by simp, bcall (balloc (Below.refl _ _) _) hb1⟩
theorem idx53 (A : Option Addr) (n cap : Nat) (l : Nat → CV) (w : World) (hR : Row w A n l) (hok : ∀ i, i < n → (l i).ok) (hn : n ≤ maxLen) : Calls Try.prog 58 #[.slice A n cap, .func (.func 53) #[] #[]] w (IdxPost (!allR l n) w) := by
  unfold maxLen at hn
  have HR := Asd.mk hR
  have HO := Asd.mk hok
  clear hR hok
  have BL := Asd.mk (Below.refl w.heap.size w)
  go_enter Try.func58, Try.ntmps58
  go_wp2
  go_loopg [5, 8] (n + 1) (fun kq v5 v8 w' => ∃ k : Nat, v8 = .int .i64 (k : Int) ∧ Asd (k ≤ n ∧ kq + k = n + 1 ∧ allR l k = true) ∧ Asd (Below w.heap.size w w'))
  case atStart => exact ⟨0, rfl, ⟨by omega, by omega, rfl⟩, BL⟩
  case round =>
    obtain ⟨k, rfl, HI, HB⟩ := hrel
    obtain ⟨i0, i1, i2⟩ := HI.out
    by_cases hk : k < n
    · obtain ⟨B, o, rfl, ha⟩ := HR.out k hk
      have hx := (HO.out k hk).2.2.2.1
      obtain ⟨hlt, c0, c1, c2, c3, c4, c5⟩ := ha.below ha.1 HB.out
      have HC := Asd.mk (fun W => clo53 (l k) hx W)
      have HA := Asd.mk (show (l k).right = false → allR l n = false from allR_lt hk)
      have HS := Asd.mk (show allR l (k + 1) = (l k).right by show (allR l k && (l k).right) = _; rw [i2, Bool.true_and])
      clear hx ha i2
      generalize hr : (l k).right = b at *
      clear hr
      unfold CV.val at HC
      generalize l k = x at *
      obtain ⟨x0, x1, x2, x3, x4, x5⟩ := x
      dsimp only at HC c0 c1 c2 c3 c4 c5
      cases b
      · have HC' := Asd.mk (fun W => HC.out W)
        go_wp2_with (first | (go_at_call 53; with_reducible refine (HC.out _).mono ?_; rintro e w1 ⟨rfl, hb1⟩))
        go_ret
        exact ⟨⟨k, by simp, by rw [HA.out (by first | rfl | trivial)]; simp⟩, bcall HB.out hb1⟩
      · go_wp2_with (first | (go_at_call 53; with_reducible refine (HC.out _).mono ?_; rintro e w1 ⟨rfl, hb1⟩))
        go_roundg (gk - 1)
        case measure => omega
        case rel => exact ⟨k + 1, by simp, ⟨by omega, by omega, HS.out⟩, ⟨bcall HB.out hb1⟩⟩
    · obtain rfl : k = n := by omega
      have HA := Asd.mk i2
      clear i2
      go_wp2
      go_ret
      exact ⟨⟨-1, by simp, by rw [HA.out]; rfl⟩, HB.out⟩
theorem cont53 (A : Option Addr) (n cap : Nat) (l : Nat → CV) (w : World) (hR : Row w A n l) (hok : ∀ i, i < n → (l i).ok) (hn : n ≤ maxLen) : Calls Try.prog 47 #[.slice A n cap, .func (.func 53) #[] #[]] w fun e w' => e = .returned (.bool (!allR l n)) ∧ Below w.heap.size w w' := by
  have HC := Asd.mk (idx53 A n cap l w hR hok hn)
  generalize (!allR l n) = p at *
  clear hR hok hn
  go_enter Try.func47, Try.ntmps47
  go_wp2_with (go_at_call 58; (with_reducible refine (HC.out).mono ?_); rintro e w1 ⟨⟨r, rfl, hr⟩, hb1⟩)
  go_ret
  exact ⟨rfl, hb1⟩
theorem right_calls (A : Option Addr) (n cap : Nat) (l : Nat → CV) (w : World) (hR : Row w A n l) (hok : ∀ i, i < n → (l i).ok) (hn : n ≤ maxLen) : Calls Try.prog 42 #[.slice A n cap] w fun e w' => e = .returned (.bool (allR l n)) ∧ Below w.heap.size w w' := by
  have HC := Asd.mk (fun W (h : Row W A n l) => cont53 A n cap l W h hok hn)
  have HR := Asd.mk hR
  clear hok hn hR
  go_enter Try.func42, Try.ntmps42
  go_wp2_with (go_at_call 47; (with_reducible refine (HC.out _ HR.out).mono ?_); rintro e w1 ⟨rfl, hb1⟩)
  go_ret
  exact ⟨by simp, hb1⟩
/-- A capability of a frame, as cells. -/
theorem fa_cap (f : Nat → CV) (j : Nat) (hj : j < 5) : (fa f)[j * 6]? = some (.bool (f j).t) ∧ (fa f)[j * 6 + 1]? = some (.int .i64 (f j).b) ∧ (fa f)[j * 6 + 2]? = some (.int .i64 (f j).c) ∧ (fa f)[j * 6 + 3]? = some (.int .i64 (f j).d) ∧ (fa f)[j * 6 + 4]? = some (.int .i64 (f j).e) ∧ (fa f)[j * 6 + 5]? = some (.int .i64 (f j).f) := by
  have h : ∀ k, k < 6 → (fa f)[j * 6 + k]? = some ((f j).cell k) := fun k hk => by
    rw [fa_at _ _ (by omega)]
    unfold Fl
    rw [show (j * 6 + k) / 6 = j by omega, show (j * 6 + k) % 6 = k by omega]
  exact ⟨h 0 (by omega), h 1 (by omega), h 2 (by omega), h 3 (by omega), h 4 (by omega), h 5 (by omega)⟩
theorem blk_at {w : World} {b : Nat} {T : TypeId} {f : Nat → CV} (h : Blk w b T (fa f)) (j : Nat) (hj : j < 5) : At w b 0 j (f j) := by
  obtain ⟨a0, a1, a2, a3, a4, a5⟩ := fa_cap f j hj
  refine ⟨h.lt, ?_, ?_, ?_, ?_, ?_, ?_⟩ <;> (rw [Nat.zero_add, h.cell]; assumption)
theorem blk_regs {w : World} {b : Nat} {T : TypeId} {f : Nat → CV} (h : Blk w b T (fa f)) : Row w (some ⟨b, 6, none⟩) 4 (fun i => f (i + 1)) := fun i hi => by
  obtain ⟨h0, h1, h2, h3, h4, h5, h6⟩ := blk_at h (i + 1) (by omega)
  refine ⟨b, 6, rfl, h0, ?_⟩
  rw [show 6 + i * 6 = 0 + (i + 1) * 6 by omega]
  exact ⟨h1, h2, h3, h4, h5, h6⟩
def c6v (x : CV) : Array Value := #[.bool x.t, .int .i64 x.b, .int .i64 x.c, .int .i64 x.d, .int .i64 x.e, .int .i64 x.f]
theorem one_row {w : World} {b : Nat} {x : CV} (h : Blk w b 29 (c6v x)) : Row w (some ⟨b, 0, none⟩) 1 (fun _ => x) := fun i hi => by
  obtain rfl : i = 0 := by omega
  exact ⟨b, 0, rfl, h.lt, h.cell 0, h.cell 1, h.cell 2, h.cell 3, h.cell 4, h.cell 5⟩
/-- Is it a frame? -/
def fright (f : Nat → CV) : Bool := (f 0).right && allR (fun i => f (i + 1)) 4
theorem push16_calls (g : Nat) (A : Option Addr) (n cap : Nat) (f : Nat → CV) (w : World) (hB : Blk w g 64 #[.slice A n cap]) (hn : 16 ≤ n) : Calls Try.prog 19 #[.pointer (some ⟨g, 0, none⟩), .agg (fa f)] w fun e w' => e = .returned (.bool false) ∧ Below w.heap.size w w' := by
  have c0 := hB.cell 0
  simp at c0
  have hlt := hB.lt
  have e1 : decide (16 ≤ (n : Int)) = true := by simp; omega
  clear hB
  go_enter Try.func19, Try.ntmps19
  go_wp2
  go_ret
  exact ⟨by simp, balloc (Below.refl _ _) _⟩
theorem one_calls (x : CV) (hok : x.ok) (b : Nat) (W : World) (h : Blk W b 29 #[.bool x.t, .int .i64 x.b, .int .i64 x.c, .int .i64 x.d, .int .i64 x.e, .int .i64 x.f]) : Calls Try.prog 42 #[.slice (some ⟨b, 0, none⟩) 1 1] W fun e w' => e = .returned (.bool x.right) ∧ Below W.heap.size W w' := by
  have := right_calls (some ⟨b, 0, none⟩) 1 1 (fun _ => x) W (one_row h) (fun _ _ => hok) (by decide)
  simpa only [allR, Bool.true_and] using this
theorem push_wrong0 (g : Nat) (A : Option Addr) (n cap : Nat) (f : Nat → CV) (w : World) (hB : Blk w g 64 #[.slice A n cap]) (hn : n < 16) (hok : (f 0).ok) (h0 : (f 0).right = false) : Calls Try.prog 19 #[.pointer (some ⟨g, 0, none⟩), .agg (fa f)] w fun e w' => e = .returned (.bool false) ∧ Below w.heap.size w w' := by
  have c0 := hB.cell 0
  simp at c0
  have hlt := hB.lt
  have e1 : decide (16 ≤ (n : Int)) = false := by simp; omega
  have HC := Asd.mk (one_calls (f 0) hok)
  simp only [h0] at HC
  obtain ⟨a0, a1, a2, a3, a4, a5⟩ := fa_cap f 0 (by omega)
  simp at a0 a1 a2 a3 a4 a5
  clear hB hok h0
  generalize f 0 = x at *
  obtain ⟨x0, x1, x2, x3, x4, x5⟩ := x
  dsimp only at a0 a1 a2 a3 a4 a5 HC
  go_enter Try.func19, Try.ntmps19
  go_wp2_with fail
  (go_at_call 42; ((with_reducible refine (HC.out _ _ (Blk.new' (by simp))).mono ?_); rintro e w1 ⟨rfl, hb1⟩))
  go_wp2_with fail
  go_ret
  exact ⟨by simp, bcall (balloc (balloc (Below.refl _ _) _) _) hb1⟩
theorem push_wrong1 (g : Nat) (A : Option Addr) (n cap : Nat) (f : Nat → CV) (w : World) (hB : Blk w g 64 #[.slice A n cap]) (hn : n < 16) (hok : ∀ i, i < 5 → (f i).ok) (h0 : (f 0).right = true) (h1 : allR (fun i => f (i + 1)) 4 = false) : Calls Try.prog 19 #[.pointer (some ⟨g, 0, none⟩), .agg (fa f)] w fun e w' => e = .returned (.bool false) ∧ Below w.heap.size w w' := by
  have c0 := hB.cell 0
  simp at c0
  have hlt := hB.lt
  have e1 : decide (16 ≤ (n : Int)) = false := by simp; omega
  have HC := Asd.mk (one_calls (f 0) (hok 0 (by omega)))
  simp only [h0] at HC
  have HD := Asd.mk (fun W (b : Nat) (h : Blk W b 32 (fa f)) => right_calls (some ⟨b, 6, none⟩) 4 4 _ W (blk_regs h) (fun i hi => hok (i + 1) (by omega)) (by decide))
  simp only [h1] at HD
  obtain ⟨a0, a1, a2, a3, a4, a5⟩ := fa_cap f 0 (by omega)
  simp at a0 a1 a2 a3 a4 a5
  clear hB hok h0 h1
  generalize f 0 = x at *
  obtain ⟨x0, x1, x2, x3, x4, x5⟩ := x
  dsimp only at a0 a1 a2 a3 a4 a5 HC
  go_enter Try.func19, Try.ntmps19
  go_wp2_with fail
  (go_at_call 42; ((with_reducible refine (HC.out _ _ (Blk.new' (by simp))).mono ?_); rintro e w1 ⟨rfl, hb1⟩; have HX := Asd.mk (((Blk.new w 32 (fa f)).alloc _).below hb1 (by simp; omega))))
  go_wp2_with fail
  (go_at_call 42; ((with_reducible refine (HD.out _ _ HX.out).mono ?_); rintro e w2 ⟨rfl, hb2⟩))
  go_wp2_with fail
  go_ret
  exact ⟨by simp, bcall (bcall (balloc (balloc (Below.refl _ _) _) _) hb1) hb2⟩
end Go.Proofs.Ytijcniflghjoaaa.Fr
