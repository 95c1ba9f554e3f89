/- All capabilities of the document's stack. -/
import Derived.Test.YtijcniflghjoaaaFrF
namespace Go.Proofs.Ytijcniflghjoaaa.Fr
open Go.RowKit Go.Proofs.Ytijcniflghjoaaa.Rg Go.Proofs.YtijcniflghjoaaaW.PrintLast
set_option linter.unusedVariables false
set_option linter.unusedSimpArgs false
theorem Bag.cap0 {w : World} {base : Nat} {A : Option Addr} {n cap : Nat} {z : Nat → CV} (h : Bag w base 32 30 A n cap z) {k : Nat} (hk : k < n) : ∃ B o, A = some ⟨B, o, none⟩ ∧ base ≤ B ∧ B < w.heap.size ∧ (w.cell? ⟨B, o + k * 30, none⟩ = some (.bool (z (k * 5)).t) ∧ w.cell? ⟨B, o + k * 30 + 1, none⟩ = some (.int .i64 (z (k * 5)).b) ∧ w.cell? ⟨B, o + k * 30 + 2, none⟩ = some (.int .i64 (z (k * 5)).c) ∧ w.cell? ⟨B, o + k * 30 + 3, none⟩ = some (.int .i64 (z (k * 5)).d) ∧ w.cell? ⟨B, o + k * 30 + 4, none⟩ = some (.int .i64 (z (k * 5)).e) ∧ w.cell? ⟨B, o + k * 30 + 5, none⟩ = some (.int .i64 (z (k * 5)).f)) ∧ ∀ j, j < 4 → (w.cell? ⟨B, o + k * 30 + 6 + j * 6, none⟩ = some (.bool (z (k * 5 + 1 + j)).t) ∧ w.cell? ⟨B, o + k * 30 + 6 + j * 6 + 1, none⟩ = some (.int .i64 (z (k * 5 + 1 + j)).b) ∧ w.cell? ⟨B, o + k * 30 + 6 + j * 6 + 2, none⟩ = some (.int .i64 (z (k * 5 + 1 + j)).c) ∧ w.cell? ⟨B, o + k * 30 + 6 + j * 6 + 3, none⟩ = some (.int .i64 (z (k * 5 + 1 + j)).d) ∧ w.cell? ⟨B, o + k * 30 + 6 + j * 6 + 4, none⟩ = some (.int .i64 (z (k * 5 + 1 + j)).e) ∧ w.cell? ⟨B, o + k * 30 + 6 + j * 6 + 5, none⟩ = some (.int .i64 (z (k * 5 + 1 + j)).f)) := by
  obtain ⟨B, o, rfl, hb, hl, hc, _⟩ := h.some_ (by omega)
  have e : ∀ j i, j < 5 → i < 6 → w.cell? ⟨B, o + k * 30 + (j * 6 + i), none⟩ = some ((z (k * 5 + j)).cell i) := fun j i hj hi => by
    rw [Nat.add_assoc, hc _ (by omega)]
    unfold Fl
    rw [show (k * 30 + (j * 6 + i)) / 6 = k * 5 + j by omega, show (k * 30 + (j * 6 + i)) % 6 = i by omega]
  refine ⟨B, o, rfl, hb, hl, ⟨e 0 0 (by omega) (by omega), e 0 1 (by omega) (by omega), e 0 2 (by omega) (by omega), e 0 3 (by omega) (by omega), e 0 4 (by omega) (by omega), e 0 5 (by omega) (by omega)⟩, fun j hj => ?_⟩
  have e' : ∀ i, i < 6 → w.cell? ⟨B, o + k * 30 + 6 + j * 6 + i, none⟩ = some ((z (k * 5 + 1 + j)).cell i) := fun i hi => by
    have := e (j + 1) i (by omega) hi
    rw [show o + k * 30 + ((j + 1) * 6 + i) = o + k * 30 + 6 + j * 6 + i by omega, show k * 5 + (j + 1) = k * 5 + 1 + j by omega] at this
    exact this
  exact ⟨e' 0 (by omega), e' 1 (by omega), e' 2 (by omega), e' 3 (by omega), e' 4 (by omega), e' 5 (by omega)⟩
theorem wpList_bag29 {w : World} {ops : Array Oper} {rest : List Oper} {o : Oper} {a : Act} {Q : Exit → Act → World → Prop}
    (hg : o.guard = none) (s x : Operand) (hop : o.op = Op.call { callee := Callee.builtin Builtin.append, args := #[s, x], argTypes := #[37, 37] })
    {base : Nat} {A : Option Addr} {n cap m mc sb so : Nat} {z z' : Nat → CV} (hs : a.eval s = .slice A n cap) (hx : a.eval x = .slice (some ⟨sb, so, none⟩) m mc)
    (bag : Bag w base 29 6 A n cap z) (hsrc : ∀ j, j < m * 6 → w.cell? ⟨sb, so + j, none⟩ = some (Fl z' (n * 6 + j))) (hz : ∀ i, i < n * 6 → Fl z' i = Fl z i) (hb : base ≤ w.heap.size) (hn : n + m ≤ 100000) (hm : 0 < m)
    (h : ∀ A' cap' w', Bag w' base 29 6 A' (n + m) cap' z' → Turn (InBlock A) w w' → (∀ k, InBlock A' k → InBlock A k ∨ w.heap.size ≤ k) → wpList Try.prog ops Q rest (a.put o.dst (.slice A' (n + m) cap')) w') :
    wpList Try.prog ops Q (o :: rest) a w := by
  refine wpList_plain hg fun K hK => ?_
  obtain ⟨A', cap', W', hrun, h1, h2, h3⟩ := append29 (mc := mc) bag sb so hsrc hz hb hn hm o.type
  unfold Oper.wp execOp
  simp only [hop, resolve, invoke, builtin, Sem.run_bind, Sem.run_pure, Result.andThen_ok, List.map_toArray, List.map_cons, List.map_nil, hs, hx, hrun]
  exact hK _ _ (h A' cap' W' h1 h2 h3)
/-- append of the one that lies in the last block. -/
theorem CB.app {w W W2 : World} {A A' : Option Addr} {n cap cap' : Nat} {z : Nat → CV} {o : Obj} (h : CB w W A n cap z) (hb : Bag W2 w.heap.size 29 6 A' (n + 1) cap' z) (ht : Turn (InBlock A) (W.alloc o) W2) : CB w W2 A' (n + 1) cap' z :=
  ⟨hb, ht.below (balloc h.2 o) (fun i hi => (h.1.lt hi).2)⟩
theorem one_src {W : World} {z : Nat → CV} {m : Nat} {y : CV} (hy : z m = y) : ∀ j, j < 1 * 6 → (W.alloc (.cells #[.bool y.t, .int .i64 y.b, .int .i64 y.c, .int .i64 y.d, .int .i64 y.e, .int .i64 y.f] 29)).cell? ⟨W.heap.size, 0 + j, none⟩ = some (Fl z (m * 6 + j)) := fun j hj => by
  rw [Nat.zero_add, (Blk.new _ _ _).cell]
  exact fl6 z m y hy j (by omega)
set_option maxRecDepth 100000 in
set_option maxHeartbeats 2000000 in
theorem rcaps_calls (g base : Nat) (A : Option Addr) (n cap : Nat) (z : Nat → CV) (w : World) (hB : Blk w g 66 #[.slice A n cap]) (bag : Bag w base 32 30 A n cap z) (hn : n ≤ 1000) : Calls Try.prog 24 #[.pointer (some ⟨g, 0, none⟩)] w fun e w' => ∃ A' cap', e = .returned (.slice A' (n * 5) cap') ∧ CB w w' A' (n * 5) cap' z := by
  have c0 := hB.cell 0
  simp at c0
  have hlt := hB.lt
  have HB := Asd.mk hB
  have HG := Asd.mk bag
  clear hB bag
  go_enter Try.func24, Try.ntmps24
  go_wp2_with fail
  go_loopg [3, 4] (n + 1) (fun kq v3 v4 w' => ∃ (k cap3 : Nat) (A3 : Option Addr), v3 = .slice A3 (k * 5) cap3 ∧ v4 = .int .i64 (k : Int) ∧ Asd (k ≤ n ∧ kq + k = n + 1) ∧ Asd (CB w w' A3 (k * 5) cap3 z))
  case atStart => exact ⟨0, 0, none, by simp, rfl, ⟨by omega, by omega⟩, ⟨Bag.nil _ _ _ _ _, Below.refl _ _⟩⟩
  case round =>
    obtain ⟨k, cap3, A3, rfl, rfl, HI, hC⟩ := hrel
    have i0 := HI.out.1
    have gm : gk - 1 < gk := by have := HI.out.2; omega
    have HM := Asd.mk (show gk - 1 + (k + 1) = n + 1 by have := HI.out.2; omega)
    obtain ⟨g1, rfl⟩ : ∃ g1 : Nat, g1 = gk := ⟨_, rfl⟩
    have d0 := (hC.out.2.cell (p := ⟨g, 0, none⟩) hlt).trans c0
    by_cases hk : k < n
    · have k0 : (0 : Int) ≤ (k : Int) := by omega
      have k1 : (k : Int) < (n : Int) := by omega
      obtain ⟨B, o, rfl, hbB, hBlt, ⟨a0, a1, a2, a3, a4, a5⟩, hR⟩ := HG.out.cap0 hk
      have HR := Asd.mk hR
      clear hR
      have b0 := (hC.out.2.cell (p := ⟨B, _, none⟩) hBlt).trans a0
      have b1 := (hC.out.2.cell (p := ⟨B, _, none⟩) hBlt).trans a1
      have b2 := (hC.out.2.cell (p := ⟨B, _, none⟩) hBlt).trans a2
      have b3 := (hC.out.2.cell (p := ⟨B, _, none⟩) hBlt).trans a3
      have b4 := (hC.out.2.cell (p := ⟨B, _, none⟩) hBlt).trans a4
      have b5 := (hC.out.2.cell (p := ⟨B, _, none⟩) hBlt).trans a5
      clear a0 a1 a2 a3 a4 a5
      obtain ⟨y, hy⟩ : ∃ y, Asd (z (k * 5) = y) := ⟨_, ⟨rfl⟩⟩
      rw [hy.out] at b0 b1 b2 b3 b4 b5
      go_wp2_with (at_builtin; refine wpList_bag29 (m := 1) (z' := z) rfl (.tmp 15) (.tmp 24) rfl rfl rfl (hC.out.1.below (balloc (Below.refl _ _) _)) (one_src hy.out) (fun _ _ => rfl) (Nat.le_trans hC.out.2.size (by simp)) (by omega) (by omega) ?_; intro A4 cap4 w4 hb4 ht4 hin4; have hC4 := Asd.mk (hC.out.app hb4 ht4); clear hb4 ht4 hin4 hC b0 b1 b2 b3 b4 b5 d0)
      go_loopg [3, 5] 5 (fun kq v3 v5 w' => ∃ (j cap5 : Nat) (A5 : Option Addr), v3 = .slice A5 (k * 5 + 1 + j) cap5 ∧ v5 = .int .i64 (j : Int) ∧ Asd (j ≤ 4 ∧ kq + j = 5) ∧ Asd (CB w w' A5 (k * 5 + 1 + j) cap5 z))
      case atStart => exact ⟨0, cap4, A4, rfl, rfl, ⟨by omega, by omega⟩, hC4⟩
      case round =>
        obtain ⟨j, cap5, A5, rfl, rfl, HJ, hC⟩ := hrel
        clear hC4
        have j0 := HJ.out.1
        have gm2 : gk - 1 < gk := by have := HJ.out.2; omega
        have d0 := (hC.out.2.cell (p := ⟨g, 0, none⟩) hlt).trans c0
        by_cases hj : j < 4
        · have q0 : (0 : Int) ≤ (j : Int) := by omega
          have q1 : (j : Int) < 4 := by omega
          obtain ⟨a0, a1, a2, a3, a4, a5⟩ := HR.out j hj
          have b0 := (hC.out.2.cell (p := ⟨B, _, none⟩) hBlt).trans a0
          have b1 := (hC.out.2.cell (p := ⟨B, _, none⟩) hBlt).trans a1
          have b2 := (hC.out.2.cell (p := ⟨B, _, none⟩) hBlt).trans a2
          have b3 := (hC.out.2.cell (p := ⟨B, _, none⟩) hBlt).trans a3
          have b4 := (hC.out.2.cell (p := ⟨B, _, none⟩) hBlt).trans a4
          have b5 := (hC.out.2.cell (p := ⟨B, _, none⟩) hBlt).trans a5
          clear a0 a1 a2 a3 a4 a5
          obtain ⟨x, hx⟩ : ∃ x, Asd (z (k * 5 + 1 + j) = x) := ⟨_, ⟨rfl⟩⟩
          rw [hx.out] at b0 b1 b2 b3 b4 b5
          go_wp2_with (at_builtin; refine wpList_bag29 (m := 1) (z' := z) rfl (.tmp 30) (.tmp 41) rfl rfl rfl (hC.out.1.below (balloc (Below.refl _ _) _)) (one_src hx.out) (fun _ _ => rfl) (Nat.le_trans hC.out.2.size (by simp)) (by omega) (by omega) ?_; intro A6 cap6 w6 hb6 ht6 hin6; have hC6 := Asd.mk (hC.out.app hb6 ht6); clear hb6 ht6 hin6 hC b0 b1 b2 b3 b4 b5 d0)
          go_roundg (gk - 1)
          case measure => exact gm2
          case rel => exact ⟨j + 1, cap6, A6, rfl, by simp, ⟨by omega, by have := HJ.out.2; omega⟩, hC6⟩
        · obtain rfl : j = 4 := by omega
          go_wp2_with fail
          go_roundg (g1 - 1)
          case measure => exact gm
          case rel => exact ⟨k + 1, cap5, A5, by rw [show k * 5 + 1 + 4 = (k + 1) * 5 by omega], by simp, ⟨by omega, HM.out⟩, by rw [show (k + 1) * 5 = k * 5 + 1 + 4 by omega]; exact hC⟩
    · obtain rfl : k = n := by omega
      go_wp2_with fail
      go_ret
      exact ⟨A3, cap3, by simp, hC.out⟩
end Go.Proofs.Ytijcniflghjoaaa.Fr
