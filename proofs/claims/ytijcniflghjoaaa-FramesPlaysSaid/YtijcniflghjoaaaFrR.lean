/- The law's right. -/
import Derived.Test.YtijcniflghjoaaaFrEq
import Derived.Test.YtijcniflghjoaaaFrI
namespace Go.Proofs.Ytijcniflghjoaaa.Fr
open Go.RowKit Go.Proofs.Ytijcniflghjoaaa.Rg Go.Proofs.YtijcniflghjoaaaW.PrintLast
set_option linter.unusedVariables false
set_option linter.unusedSimpArgs false
theorem fright_eq (f : Nat → CV) : fright f = ((f 0).right && ((f 1).right && ((f 2).right && ((f 3).right && (f 4).right)))) := by
  unfold fright
  show ((f 0).right && ((((true && (f 1).right) && (f 2).right) && (f 3).right) && (f 4).right)) = _
  cases (f 0).right <;> cases (f 1).right <;> cases (f 2).right <;> cases (f 3).right <;> cases (f 4).right <;> rfl
theorem regs_at {W : World} {b : Nat} {f : Nat → CV} (h : Blk W b 32 (fa f)) (j : Nat) (hj : j < 5) : W.cell? ⟨b, j * 6, none⟩ = some (.bool (f j).t) ∧ W.cell? ⟨b, j * 6 + 1, none⟩ = some (.int .i64 (f j).b) ∧ W.cell? ⟨b, j * 6 + 2, none⟩ = some (.int .i64 (f j).c) ∧ W.cell? ⟨b, j * 6 + 3, none⟩ = some (.int .i64 (f j).d) ∧ W.cell? ⟨b, j * 6 + 4, none⟩ = some (.int .i64 (f j).e) ∧ W.cell? ⟨b, j * 6 + 5, none⟩ = some (.int .i64 (f j).f) := by
  obtain ⟨a0, a1, a2, a3, a4, a5⟩ := fa_cap f j hj
  exact ⟨(h.cell _).trans a0, (h.cell _).trans a1, (h.cell _).trans a2, (h.cell _).trans a3, (h.cell _).trans a4, (h.cell _).trans a5⟩
set_option maxRecDepth 100000 in
theorem right_0 (f : Nat → CV) (w : World) (h0 : (f 0).right = false) : Calls Try.prog 25 #[.agg (fa f)] w fun e w' => e = .returned (.bool false) ∧ Below w.heap.size w w' := by
  have HC0 := Asd.mk (rr (f 0) _ h0)
  clear h0
  have HX := Asd.mk (Blk.new w 32 (fa f))
  have HB := Asd.mk (balloc (Below.refl w.heap.size w) (.cells (fa f) 32))
  obtain ⟨a0, a1, a2, a3, a4, a5⟩ := fa_cap f 0 (by omega)
  simp at a0 a1 a2 a3 a4 a5
  go_enter Try.func25, Try.ntmps25
  go_wp2_with fail
  (go_at_call 26; ((with_reducible refine (HC0.out _).mono ?_); rintro e w1 ⟨rfl, hb⟩; have HY := Asd.mk (HX.out.below hb HX.out.lt); have HB2 := Asd.mk (bcall HB.out hb); clear hb HX HB a0 a1 a2 a3 a4 a5; have HX := HY; have HB := HB2; clear HY HB2))
  have a0 := trivial
  clear a0
  go_wp2_with fail
  go_ret
  exact ⟨by simp, HB.out⟩
set_option maxRecDepth 100000 in
theorem right_1 (f : Nat → CV) (w : World) (h0 : (f 0).right = true) (h1 : (f 1).right = false) : Calls Try.prog 25 #[.agg (fa f)] w fun e w' => e = .returned (.bool false) ∧ Below w.heap.size w w' := by
  have HC0 := Asd.mk (rr (f 0) _ h0)
  clear h0
  have HC1 := Asd.mk (rr (f 1) _ h1)
  clear h1
  have HX := Asd.mk (Blk.new w 32 (fa f))
  have HB := Asd.mk (balloc (Below.refl w.heap.size w) (.cells (fa f) 32))
  obtain ⟨a0, a1, a2, a3, a4, a5⟩ := fa_cap f 0 (by omega)
  simp at a0 a1 a2 a3 a4 a5
  go_enter Try.func25, Try.ntmps25
  go_wp2_with fail
  (go_at_call 26; ((with_reducible refine (HC0.out _).mono ?_); rintro e w1 ⟨rfl, hb⟩; have HY := Asd.mk (HX.out.below hb HX.out.lt); have HB2 := Asd.mk (bcall HB.out hb); clear hb HX HB a0 a1 a2 a3 a4 a5; have HX := HY; have HB := HB2; clear HY HB2))
  obtain ⟨a0, a1, a2, a3, a4, a5⟩ := regs_at HX.out 1 (by omega)
  simp at a0 a1 a2 a3 a4 a5
  go_wp2_with fail
  (go_at_call 26; ((with_reducible refine (HC1.out _).mono ?_); rintro e w2 ⟨rfl, hb⟩; have HY := Asd.mk (HX.out.below hb HX.out.lt); have HB2 := Asd.mk (bcall HB.out hb); clear hb HX HB a0 a1 a2 a3 a4 a5; have HX := HY; have HB := HB2; clear HY HB2))
  have a0 := trivial
  clear a0
  go_wp2_with fail
  go_ret
  exact ⟨by simp, HB.out⟩
set_option maxRecDepth 100000 in
theorem right_2 (f : Nat → CV) (w : World) (h0 : (f 0).right = true) (h1 : (f 1).right = true) (h2 : (f 2).right = false) : Calls Try.prog 25 #[.agg (fa f)] w fun e w' => e = .returned (.bool false) ∧ Below w.heap.size w w' := by
  have HC0 := Asd.mk (rr (f 0) _ h0)
  clear h0
  have HC1 := Asd.mk (rr (f 1) _ h1)
  clear h1
  have HC2 := Asd.mk (rr (f 2) _ h2)
  clear h2
  have HX := Asd.mk (Blk.new w 32 (fa f))
  have HB := Asd.mk (balloc (Below.refl w.heap.size w) (.cells (fa f) 32))
  obtain ⟨a0, a1, a2, a3, a4, a5⟩ := fa_cap f 0 (by omega)
  simp at a0 a1 a2 a3 a4 a5
  go_enter Try.func25, Try.ntmps25
  go_wp2_with fail
  (go_at_call 26; ((with_reducible refine (HC0.out _).mono ?_); rintro e w1 ⟨rfl, hb⟩; have HY := Asd.mk (HX.out.below hb HX.out.lt); have HB2 := Asd.mk (bcall HB.out hb); clear hb HX HB a0 a1 a2 a3 a4 a5; have HX := HY; have HB := HB2; clear HY HB2))
  obtain ⟨a0, a1, a2, a3, a4, a5⟩ := regs_at HX.out 1 (by omega)
  simp at a0 a1 a2 a3 a4 a5
  go_wp2_with fail
  (go_at_call 26; ((with_reducible refine (HC1.out _).mono ?_); rintro e w2 ⟨rfl, hb⟩; have HY := Asd.mk (HX.out.below hb HX.out.lt); have HB2 := Asd.mk (bcall HB.out hb); clear hb HX HB a0 a1 a2 a3 a4 a5; have HX := HY; have HB := HB2; clear HY HB2))
  obtain ⟨a0, a1, a2, a3, a4, a5⟩ := regs_at HX.out 2 (by omega)
  simp at a0 a1 a2 a3 a4 a5
  go_wp2_with fail
  (go_at_call 26; ((with_reducible refine (HC2.out _).mono ?_); rintro e w3 ⟨rfl, hb⟩; have HY := Asd.mk (HX.out.below hb HX.out.lt); have HB2 := Asd.mk (bcall HB.out hb); clear hb HX HB a0 a1 a2 a3 a4 a5; have HX := HY; have HB := HB2; clear HY HB2))
  have a0 := trivial
  clear a0
  go_wp2_with fail
  go_ret
  exact ⟨by simp, HB.out⟩
set_option maxRecDepth 100000 in
theorem right_3 (f : Nat → CV) (w : World) (h0 : (f 0).right = true) (h1 : (f 1).right = true) (h2 : (f 2).right = true) (h3 : (f 3).right = false) : Calls Try.prog 25 #[.agg (fa f)] w fun e w' => e = .returned (.bool false) ∧ Below w.heap.size w w' := by
  have HC0 := Asd.mk (rr (f 0) _ h0)
  clear h0
  have HC1 := Asd.mk (rr (f 1) _ h1)
  clear h1
  have HC2 := Asd.mk (rr (f 2) _ h2)
  clear h2
  have HC3 := Asd.mk (rr (f 3) _ h3)
  clear h3
  have HX := Asd.mk (Blk.new w 32 (fa f))
  have HB := Asd.mk (balloc (Below.refl w.heap.size w) (.cells (fa f) 32))
  obtain ⟨a0, a1, a2, a3, a4, a5⟩ := fa_cap f 0 (by omega)
  simp at a0 a1 a2 a3 a4 a5
  go_enter Try.func25, Try.ntmps25
  go_wp2_with fail
  (go_at_call 26; ((with_reducible refine (HC0.out _).mono ?_); rintro e w1 ⟨rfl, hb⟩; have HY := Asd.mk (HX.out.below hb HX.out.lt); have HB2 := Asd.mk (bcall HB.out hb); clear hb HX HB a0 a1 a2 a3 a4 a5; have HX := HY; have HB := HB2; clear HY HB2))
  obtain ⟨a0, a1, a2, a3, a4, a5⟩ := regs_at HX.out 1 (by omega)
  simp at a0 a1 a2 a3 a4 a5
  go_wp2_with fail
  (go_at_call 26; ((with_reducible refine (HC1.out _).mono ?_); rintro e w2 ⟨rfl, hb⟩; have HY := Asd.mk (HX.out.below hb HX.out.lt); have HB2 := Asd.mk (bcall HB.out hb); clear hb HX HB a0 a1 a2 a3 a4 a5; have HX := HY; have HB := HB2; clear HY HB2))
  obtain ⟨a0, a1, a2, a3, a4, a5⟩ := regs_at HX.out 2 (by omega)
  simp at a0 a1 a2 a3 a4 a5
  go_wp2_with fail
  (go_at_call 26; ((with_reducible refine (HC2.out _).mono ?_); rintro e w3 ⟨rfl, hb⟩; have HY := Asd.mk (HX.out.below hb HX.out.lt); have HB2 := Asd.mk (bcall HB.out hb); clear hb HX HB a0 a1 a2 a3 a4 a5; have HX := HY; have HB := HB2; clear HY HB2))
  obtain ⟨a0, a1, a2, a3, a4, a5⟩ := regs_at HX.out 3 (by omega)
  simp at a0 a1 a2 a3 a4 a5
  go_wp2_with fail
  (go_at_call 26; ((with_reducible refine (HC3.out _).mono ?_); rintro e w4 ⟨rfl, hb⟩; have HY := Asd.mk (HX.out.below hb HX.out.lt); have HB2 := Asd.mk (bcall HB.out hb); clear hb HX HB a0 a1 a2 a3 a4 a5; have HX := HY; have HB := HB2; clear HY HB2))
  have a0 := trivial
  clear a0
  go_wp2_with fail
  go_ret
  exact ⟨by simp, HB.out⟩
set_option maxRecDepth 100000 in
theorem right_4 (f : Nat → CV) (w : World) (h0 : (f 0).right = true) (h1 : (f 1).right = true) (h2 : (f 2).right = true) (h3 : (f 3).right = true) (h4 : (f 4).right = false) : Calls Try.prog 25 #[.agg (fa f)] w fun e w' => e = .returned (.bool false) ∧ Below w.heap.size w w' := by
  have HC0 := Asd.mk (rr (f 0) _ h0)
  clear h0
  have HC1 := Asd.mk (rr (f 1) _ h1)
  clear h1
  have HC2 := Asd.mk (rr (f 2) _ h2)
  clear h2
  have HC3 := Asd.mk (rr (f 3) _ h3)
  clear h3
  have HC4 := Asd.mk (rr (f 4) _ h4)
  clear h4
  have HX := Asd.mk (Blk.new w 32 (fa f))
  have HB := Asd.mk (balloc (Below.refl w.heap.size w) (.cells (fa f) 32))
  obtain ⟨a0, a1, a2, a3, a4, a5⟩ := fa_cap f 0 (by omega)
  simp at a0 a1 a2 a3 a4 a5
  go_enter Try.func25, Try.ntmps25
  go_wp2_with fail
  (go_at_call 26; ((with_reducible refine (HC0.out _).mono ?_); rintro e w1 ⟨rfl, hb⟩; have HY := Asd.mk (HX.out.below hb HX.out.lt); have HB2 := Asd.mk (bcall HB.out hb); clear hb HX HB a0 a1 a2 a3 a4 a5; have HX := HY; have HB := HB2; clear HY HB2))
  obtain ⟨a0, a1, a2, a3, a4, a5⟩ := regs_at HX.out 1 (by omega)
  simp at a0 a1 a2 a3 a4 a5
  go_wp2_with fail
  (go_at_call 26; ((with_reducible refine (HC1.out _).mono ?_); rintro e w2 ⟨rfl, hb⟩; have HY := Asd.mk (HX.out.below hb HX.out.lt); have HB2 := Asd.mk (bcall HB.out hb); clear hb HX HB a0 a1 a2 a3 a4 a5; have HX := HY; have HB := HB2; clear HY HB2))
  obtain ⟨a0, a1, a2, a3, a4, a5⟩ := regs_at HX.out 2 (by omega)
  simp at a0 a1 a2 a3 a4 a5
  go_wp2_with fail
  (go_at_call 26; ((with_reducible refine (HC2.out _).mono ?_); rintro e w3 ⟨rfl, hb⟩; have HY := Asd.mk (HX.out.below hb HX.out.lt); have HB2 := Asd.mk (bcall HB.out hb); clear hb HX HB a0 a1 a2 a3 a4 a5; have HX := HY; have HB := HB2; clear HY HB2))
  obtain ⟨a0, a1, a2, a3, a4, a5⟩ := regs_at HX.out 3 (by omega)
  simp at a0 a1 a2 a3 a4 a5
  go_wp2_with fail
  (go_at_call 26; ((with_reducible refine (HC3.out _).mono ?_); rintro e w4 ⟨rfl, hb⟩; have HY := Asd.mk (HX.out.below hb HX.out.lt); have HB2 := Asd.mk (bcall HB.out hb); clear hb HX HB a0 a1 a2 a3 a4 a5; have HX := HY; have HB := HB2; clear HY HB2))
  obtain ⟨a0, a1, a2, a3, a4, a5⟩ := regs_at HX.out 4 (by omega)
  simp at a0 a1 a2 a3 a4 a5
  go_wp2_with fail
  (go_at_call 26; ((with_reducible refine (HC4.out _).mono ?_); rintro e w5 ⟨rfl, hb⟩; have HY := Asd.mk (HX.out.below hb HX.out.lt); have HB2 := Asd.mk (bcall HB.out hb); clear hb HX HB a0 a1 a2 a3 a4 a5; have HX := HY; have HB := HB2; clear HY HB2))
  have a0 := trivial
  clear a0
  go_wp2_with fail
  go_ret
  exact ⟨by simp, HB.out⟩
set_option maxRecDepth 100000 in
theorem right_5 (f : Nat → CV) (w : World) (h0 : (f 0).right = true) (h1 : (f 1).right = true) (h2 : (f 2).right = true) (h3 : (f 3).right = true) (h4 : (f 4).right = true) : Calls Try.prog 25 #[.agg (fa f)] w fun e w' => e = .returned (.bool true) ∧ Below w.heap.size w w' := by
  have HC0 := Asd.mk (rr (f 0) _ h0)
  clear h0
  have HC1 := Asd.mk (rr (f 1) _ h1)
  clear h1
  have HC2 := Asd.mk (rr (f 2) _ h2)
  clear h2
  have HC3 := Asd.mk (rr (f 3) _ h3)
  clear h3
  have HC4 := Asd.mk (rr (f 4) _ h4)
  clear h4
  have HX := Asd.mk (Blk.new w 32 (fa f))
  have HB := Asd.mk (balloc (Below.refl w.heap.size w) (.cells (fa f) 32))
  obtain ⟨a0, a1, a2, a3, a4, a5⟩ := fa_cap f 0 (by omega)
  simp at a0 a1 a2 a3 a4 a5
  go_enter Try.func25, Try.ntmps25
  go_wp2_with fail
  (go_at_call 26; ((with_reducible refine (HC0.out _).mono ?_); rintro e w1 ⟨rfl, hb⟩; have HY := Asd.mk (HX.out.below hb HX.out.lt); have HB2 := Asd.mk (bcall HB.out hb); clear hb HX HB a0 a1 a2 a3 a4 a5; have HX := HY; have HB := HB2; clear HY HB2))
  obtain ⟨a0, a1, a2, a3, a4, a5⟩ := regs_at HX.out 1 (by omega)
  simp at a0 a1 a2 a3 a4 a5
  go_wp2_with fail
  (go_at_call 26; ((with_reducible refine (HC1.out _).mono ?_); rintro e w2 ⟨rfl, hb⟩; have HY := Asd.mk (HX.out.below hb HX.out.lt); have HB2 := Asd.mk (bcall HB.out hb); clear hb HX HB a0 a1 a2 a3 a4 a5; have HX := HY; have HB := HB2; clear HY HB2))
  obtain ⟨a0, a1, a2, a3, a4, a5⟩ := regs_at HX.out 2 (by omega)
  simp at a0 a1 a2 a3 a4 a5
  go_wp2_with fail
  (go_at_call 26; ((with_reducible refine (HC2.out _).mono ?_); rintro e w3 ⟨rfl, hb⟩; have HY := Asd.mk (HX.out.below hb HX.out.lt); have HB2 := Asd.mk (bcall HB.out hb); clear hb HX HB a0 a1 a2 a3 a4 a5; have HX := HY; have HB := HB2; clear HY HB2))
  obtain ⟨a0, a1, a2, a3, a4, a5⟩ := regs_at HX.out 3 (by omega)
  simp at a0 a1 a2 a3 a4 a5
  go_wp2_with fail
  (go_at_call 26; ((with_reducible refine (HC3.out _).mono ?_); rintro e w4 ⟨rfl, hb⟩; have HY := Asd.mk (HX.out.below hb HX.out.lt); have HB2 := Asd.mk (bcall HB.out hb); clear hb HX HB a0 a1 a2 a3 a4 a5; have HX := HY; have HB := HB2; clear HY HB2))
  obtain ⟨a0, a1, a2, a3, a4, a5⟩ := regs_at HX.out 4 (by omega)
  simp at a0 a1 a2 a3 a4 a5
  go_wp2_with fail
  (go_at_call 26; ((with_reducible refine (HC4.out _).mono ?_); rintro e w5 ⟨rfl, hb⟩; have HY := Asd.mk (HX.out.below hb HX.out.lt); have HB2 := Asd.mk (bcall HB.out hb); clear hb HX HB a0 a1 a2 a3 a4 a5; have HX := HY; have HB := HB2; clear HY HB2))
  have a0 := trivial
  clear a0
  go_wp2_with fail
  go_ret
  exact ⟨by simp, HB.out⟩
theorem lright_calls (f : Nat → CV) (w : World) : Calls Try.prog 25 #[.agg (fa f)] w fun e w' => e = .returned (.bool (fright f)) ∧ Below w.heap.size w w' := by
  rw [fright_eq]
  cases h0 : (f 0).right with
  | false => simpa only [h0, Bool.false_and, Bool.and_false, Bool.true_and] using right_0 f w h0
  | true =>
    cases h1 : (f 1).right with
    | false => simpa only [h0, h1, Bool.false_and, Bool.and_false, Bool.true_and] using right_1 f w h0 h1
    | true =>
      cases h2 : (f 2).right with
      | false => simpa only [h0, h1, h2, Bool.false_and, Bool.and_false, Bool.true_and] using right_2 f w h0 h1 h2
      | true =>
        cases h3 : (f 3).right with
        | false => simpa only [h0, h1, h2, h3, Bool.false_and, Bool.and_false, Bool.true_and] using right_3 f w h0 h1 h2 h3
        | true =>
          cases h4 : (f 4).right with
          | false => simpa only [h0, h1, h2, h3, h4, Bool.false_and, Bool.and_false, Bool.true_and] using right_4 f w h0 h1 h2 h3 h4
          | true =>
            simpa only [h0, h1, h2, h3, h4, Bool.and_self, Bool.and_true, Bool.true_and] using right_5 f w h0 h1 h2 h3 h4
end Go.Proofs.Ytijcniflghjoaaa.Fr
