/- All capabilities of the program's stack. -/
import Derived.Test.YtijcniflghjoaaaFrD
import Derived.Deep.LoopGhost
namespace Go.Proofs.Ytijcniflghjoaaa.Fr
open Go.RowKit Go.Proofs.Ytijcniflghjoaaa.Rg Go.Proofs.YtijcniflghjoaaaW.PrintLast
set_option linter.unusedVariables false
set_option linter.unusedSimpArgs false
theorem fl_frame (z : Nat → CV) (k i : Nat) (hi : i < 30) : Fl (fun j => z (k * 5 + j)) i = Fl z (k * 30 + i) := by
  unfold Fl
  rw [show (k * 30 + i) / 6 = k * 5 + i / 6 by omega, show (k * 30 + i) % 6 = i % 6 by omega]
theorem Bag.frame {w : World} {base : Nat} {A : Option Addr} {n cap : Nat} {z : Nat → CV} (h : Bag w base 32 30 A n cap z) {k : Nat} (hk : k < n) : ∃ B o, A = some ⟨B, o, none⟩ ∧ base ≤ B ∧ B < w.heap.size ∧ ∀ i, i < 30 → w.cell? ⟨B, o + k * 30 + i, none⟩ = some (Fl (fun j => z (k * 5 + j)) i) := by
  obtain ⟨B, o, rfl, hb, hl, hc, _⟩ := h.some_ (by omega)
  exact ⟨B, o, rfl, hb, hl, fun i hi => by rw [fl_frame _ _ _ hi, Nat.add_assoc]; exact hc _ (by omega)⟩
/-- The six cells of one. -/
theorem fl6 (z : Nat → CV) (k : Nat) (x : CV) (hx : z k = x) : ∀ j, j < 6 → (#[.bool x.t, .int .i64 x.b, .int .i64 x.c, .int .i64 x.d, .int .i64 x.e, .int .i64 x.f] : Array Value)[j]? = some (Fl z (k * 6 + j)) := fun j hj => by
  unfold Fl
  rw [show (k * 6 + j) / 6 = k by omega, show (k * 6 + j) % 6 = j by omega, hx]
  obtain rfl | rfl | rfl | rfl | rfl | rfl : j = 0 ∨ j = 1 ∨ j = 2 ∨ j = 3 ∨ j = 4 ∨ j = 5 := by omega
  all_goals rfl
theorem bs29_run {a : Act} {oi : Oper} {w : World} (x : Operand) (ho : oi.op = .buildSlice 37 1 #[(0, x)]) (v : CV) (hx : a.eval x = .agg #[.bool v.t, .int .i64 v.b, .int .i64 v.c, .int .i64 v.d, .int .i64 v.e, .int .i64 v.f]) : (execOp a.eval oi).run Try.prog w = .ok (.value (.slice (some ⟨w.heap.size, 0, none⟩) 1 1)) (w.alloc (.cells #[.bool v.t, .int .i64 v.b, .int .i64 v.c, .int .i64 v.d, .int .i64 v.e, .int .i64 v.f] 29)) := by
  unfold execOp
  simp [ho, hx, bs29 v w]
/-- What stands in a round: the row that is made, the box; nothing old has turned. -/
def CB (w W : World) (A : Option Addr) (n cap : Nat) (z : Nat → CV) : Prop := Bag W w.heap.size 29 6 A n cap z ∧ Below w.heap.size w W
theorem CB.below {w W W' : World} {A : Option Addr} {n cap : Nat} {z : Nat → CV} (h : CB w W A n cap z) (hb : Below W.heap.size W W') : CB w W' A n cap z := ⟨h.1.below hb, bcall h.2 hb⟩
theorem turn_fresh {W W1 : World} {o : Obj} (h : Turn (fun i => i = W.heap.size) (W.alloc o) W1) : Below W.heap.size W W1 := h.below (balloc (Below.refl _ _) _) (fun i hi => by omega)
theorem cb_fresh {w W W1 : World} {A : Option Addr} {n cap : Nat} {z : Nat → CV} {o : Obj} (h : CB w W A n cap z) (ht : Turn (fun i => i = W.heap.size) (W.alloc o) W1) : CB w W1 A n cap z := h.below (turn_fresh ht)
set_option maxRecDepth 100000 in
set_option maxHeartbeats 2000000 in
theorem caps_calls (g base : Nat) (A : Option Addr) (n cap : Nat) (z : Nat → CV) (w : World) (hB : Blk w g 64 #[.slice A n cap]) (bag : Bag w base 32 30 A n cap z) (hn : n ≤ 1000) : Calls Try.prog 16 #[.pointer (some ⟨g, 0, none⟩)] w fun e w' => ∃ A' cap', e = .returned (.slice A' (n * 5) cap') ∧ CB w w' A' (n * 5) cap' z := by
  have c0 := hB.cell 0
  simp at c0
  have hlt := hB.lt
  have HB := Asd.mk hB
  have HG := Asd.mk bag
  clear hB bag
  go_enter Try.func16, Try.ntmps16
  go_wp2_with fail
  go_loopg [3, 11] (n + 1) (fun kq v3 v11 w' => ∃ (k cap3 : Nat) (A3 : Option Addr), v3 = .slice A3 (k * 5) cap3 ∧ v11 = .int .i64 (k : Int) ∧ Asd (k ≤ n ∧ kq + k = n + 1) ∧ Asd (CB w w' A3 (k * 5) cap3 z))
  case atStart => exact ⟨0, 0, none, by simp, rfl, ⟨by omega, by omega⟩, ⟨Bag.nil _ _ _ _ _, Below.refl _ _⟩⟩
  case round =>
    obtain ⟨k, cap3, A3, rfl, rfl, HI, hC⟩ := hrel
    have i0 := HI.out.1
    have gm : gk - 1 < gk := by have := HI.out.2; omega
    by_cases hk : k < n
    · have k0 : (0 : Int) ≤ (k : Int) := by omega
      have k1 : (k : Int) < (n : Int) := by omega
      obtain ⟨B, o, rfl, hbB, hBlt, hcf⟩ := HG.out.frame hk
      have HF := Asd.mk (fun i hi => (hC.out.2.cell (p := ⟨B, _, none⟩) hBlt).trans (hcf i hi))
      clear hcf
      have hBw : B < wr.heap.size := Nat.lt_of_lt_of_le hBlt hC.out.2.size
      have hnb : ¬ InBlock A3 wr.heap.size := fun h => absurd (hC.out.1.lt h).1 (Nat.lt_irrefl _)
      have hsz := hC.out.2.size
      go_wp2_with (first | (refine ld32 rfl (.tmp 13) rfl B (o + k * 30) rfl (fun j => z (k * 5 + j)) (fun i hi => HF.out i hi) ?_) | (refine st32 rfl (.tmp 5) (.tmp 14) rfl wr.heap.size rfl (fun j => z (k * 5 + j)) rfl (Blk.new wr 32 _) rfl ?_; go_loud (intro W1 hb1 ht1; have hC1 := Asd.mk (cb_fresh hC.out ht1); have hX := Asd.mk hb1; clear ht1 hb1 hC)))
      generalize wr.heap.size = bx at *
      obtain ⟨a0, a1, a2, a3, a4, a5⟩ := fa_cap (fun j => z (k * 5 + j)) 0 (by omega)
      have b0 := (hX.out.cell 0).trans a0
      have b1 := (hX.out.cell 1).trans a1
      have b2 := (hX.out.cell 2).trans a2
      have b3 := (hX.out.cell 3).trans a3
      have b4 := (hX.out.cell 4).trans a4
      have b5 := (hX.out.cell 5).trans a5
      clear a0 a1 a2 a3 a4 a5
      have hx6 := Asd.mk (fl6 z (k * 5) _ rfl)
      simp only [Nat.add_zero] at b0 b1 b2 b3 b4 b5 hx6
      have hsrc2 := Asd.mk (show ∀ j, j < 24 → (fa (fun j => z (k * 5 + j)))[6 + j]? = some (Fl z ((k * 5 + 1) * 6 + j)) from fun j hj => by rw [fa_at _ _ (by omega), fl_frame _ _ _ (by omega)]; exact congrArg (fun t => some (Fl z t)) (by omega))
      generalize fa (fun j => z (k * 5 + j)) = F at *
      generalize hy : z (k * 5) = y at *
      clear hy
      go_wp2_with fail
      refine start_ (n := 9) (S := fun w' => (Blk w' bx 32 F ∧ CB w w' A3 (k * 5) cap3 z) ∧ (w'.cell? ⟨bx, 0, none⟩ = some (.bool y.t) ∧ w'.cell? ⟨bx, 1, none⟩ = some (.int .i64 y.b) ∧ w'.cell? ⟨bx, 2, none⟩ = some (.int .i64 y.c) ∧ w'.cell? ⟨bx, 3, none⟩ = some (.int .i64 y.d) ∧ w'.cell? ⟨bx, 4, none⟩ = some (.int .i64 y.e) ∧ w'.cell? ⟨bx, 5, none⟩ = some (.int .i64 y.f))) (ds := [4, 7]) #[false, false, false, false, false, false, false, false, false] (by kernel_rfl) rfl rfl ⟨⟨hX.out, ⟨hC1.out.1, hC1.out.2.drew⟩⟩, ⟨b0, b1, b2, b3, b4, b5⟩⟩ (fun hHeld => ?_)
      refine pure_ (i := 0) (N := some 15) (v := ?_) (a' := ?_) #[true, false, false, false, false, false, false, false, false] rfl rfl (by kernel_rfl) (fun _ _ _ h => h) (Or.inl ⟨by rfl, ?_⟩) ?_ ?_
      rotate_left
      · intro w'
        go_simp
        with_reducible rfl
      rotate_left
      · simp only [Act.put, List.setIfInBounds_toArray, List.set_cons_zero, List.set_cons_succ, i64_w, i32_w]
        rfl
      refine pure_ (i := 1) (N := some 16) (v := ?_) (a' := ?_) #[true, true, false, false, false, false, false, false, false] rfl rfl (by kernel_rfl) (fun _ _ _ h => h) (Or.inl ⟨by rfl, ?_⟩) ?_ ?_
      rotate_left
      · intro w'
        go_simp
        with_reducible rfl
      rotate_left
      · simp only [Act.put, List.setIfInBounds_toArray, List.set_cons_zero, List.set_cons_succ, i64_w, i32_w]
        rfl
      refine pure_ (i := 5) (N := some 20) (v := ?_) (a' := ?_) #[true, true, false, false, false, true, false, false, false] rfl rfl (by kernel_rfl) (fun _ _ _ h => h) (Or.inl ⟨by rfl, ?_⟩) ?_ ?_
      rotate_left
      · intro w'
        go_simp
        with_reducible rfl
      rotate_left
      · simp only [Act.put, List.setIfInBounds_toArray, List.set_cons_zero, List.set_cons_succ, i64_w, i32_w]
        rfl
      refine pure_ (i := 6) (N := some 21) (v := ?_) (a' := ?_) #[true, true, false, false, false, true, true, false, false] rfl rfl (by kernel_rfl) (fun _ _ _ h => h) (Or.inl ⟨by rfl, ?_⟩) ?_ ?_
      rotate_left
      · intro w'
        go_simp
        with_reducible rfl
      rotate_left
      · simp only [Act.put, List.setIfInBounds_toArray, List.set_cons_zero, List.set_cons_succ, i64_w, i32_w]
        rfl
      refine take_ (i := 2) (N := some 17) (v := ?_) (a' := ?_) #[true, true, true, false, false, true, true, false, false] rfl rfl (by kernel_rfl) (fun _ _ _ h => h) (Or.inl ⟨by rfl, ?_⟩) hHeld ?_ ?_
      rotate_left
      · rintro w' ⟨s0, s1⟩
        go_simp
        with_reducible rfl
      rotate_left
      · simp only [Act.put, List.setIfInBounds_toArray, List.set_cons_zero, List.set_cons_succ, i64_w, i32_w]
        rfl
      refine one_ (i := 3) (N := some 18) #[true, true, true, true, false, true, true, false, false] rfl rfl (by kernel_rfl) (by decide) (fun K hK => ?_)
      refine value_ (by rfl) rfl (bs29_run (.tmp 17) (by rfl) y (by rfl)) ?_
      have hX3 := hHeld.1.1.alloc (.cells #[.bool y.t, .int .i64 y.b, .int .i64 y.c, .int .i64 y.d, .int .i64 y.e, .int .i64 y.f] 29)
      have hC3 := hHeld.1.2.below (balloc (Below.refl _ _) (.cells #[.bool y.t, .int .i64 y.b, .int .i64 y.c, .int .i64 y.d, .int .i64 y.e, .int .i64 y.f] 29))
      refine hK.out _ _ ⟨⟨hX3, hC3⟩, ⟨(hX3.cell 0).trans ((hX.out.cell 0).symm.trans b0), (hX3.cell 1).trans ((hX.out.cell 1).symm.trans b1), (hX3.cell 2).trans ((hX.out.cell 2).symm.trans b2), (hX3.cell 3).trans ((hX.out.cell 3).symm.trans b3), (hX3.cell 4).trans ((hX.out.cell 4).symm.trans b4), (hX3.cell 5).trans ((hX.out.cell 5).symm.trans b5)⟩⟩ (fun hHeld => ?_)
      clear hK K
      refine norm_ (a' := ?_) ?_ ?_
      rotate_left
      · show Act.put _ (some 18) _ = _
        simp only [Act.put, List.setIfInBounds_toArray, List.set_cons_zero, List.set_cons_succ, i64_w, i32_w]
        rfl
      refine last_ (i := 4) (N := some 19) #[true, true, true, true, true, true, true, false, false] rfl rfl (by kernel_rfl) (by decide) (fun K hK => ?_)
      refine bag_step29 (m := 1) (z' := z) (by rfl) rfl rfl (by rfl) (by rfl) hHeld.1.2.1 (fun j hj => by rw [Nat.zero_add, (Blk.new _ _ _).cell]; exact hx6.out j (by omega)) (fun _ _ => rfl) hHeld.1.2.2.size (by omega) (by omega) ?_
      intro A4 cap4 w8 hbag4 hturn4 hin4
      have hX8 : Blk w8 bx 32 F := blk_keep hHeld.1.1 (hturn4.block bx hHeld.1.1.lt hnb)
      have hnb4 : ¬ InBlock A4 bx := fun h => (hin4 bx h).elim hnb (fun h => by have := hHeld.1.1.lt; omega)
      have hB8 := hturn4.below hHeld.1.2.2 (fun i hi => (hHeld.1.2.1.lt hi).2)
      refine hK.out _ _ ?_
      clear hK K
      refine norm_ (a' := ?_) ?_ ?_
      rotate_left
      · show Act.put _ (some 19) _ = _
        simp only [Act.put, List.setIfInBounds_toArray, List.set_cons_zero, List.set_cons_succ, i64_w, i32_w]
        rfl
      refine last_ (i := 7) (N := some 22) #[true, true, true, true, true, true, true, true, false] rfl rfl (by kernel_rfl) (by decide) (fun K hK => ?_)
      refine bag_step29 (m := 4) (z' := z) (by rfl) rfl rfl (by rfl) (by rfl) hbag4 (fun j hj => by rw [hX8.cell]; exact hsrc2.out j (by omega)) (fun _ _ => rfl) hB8.size (by omega) (by omega) ?_
      intro A5 cap5 w9 hbag5 hturn5 hin5
      have hB9 := hturn5.below hB8 (fun i hi => (hbag4.lt hi).2)
      refine hK.out _ _ ?_
      clear hK K
      refine norm_ (a' := ?_) ?_ ?_
      rotate_left
      · show Act.put _ (some 22) _ = _
        simp only [Act.put, List.setIfInBounds_toArray, List.set_cons_zero, List.set_cons_succ, i64_w, i32_w]
        rfl
      refine pure_ (i := 8) (N := some 3) (v := ?_) (a' := ?_) #[true, true, true, true, true, true, true, true, true] rfl rfl (by kernel_rfl) (fun _ _ _ h => h) (Or.inl ⟨by rfl, ?_⟩) ?_ ?_
      rotate_left
      · intro w'
        go_simp
        with_reducible rfl
      rotate_left
      · simp only [Act.put, List.setIfInBounds_toArray, List.set_cons_zero, List.set_cons_succ, i64_w, i32_w]
        rfl
      refine done_ (by kernel_rfl) ?_
      rw [show k * 5 + 1 + 4 = (k + 1) * 5 by omega] at hbag5
      go_wp2_with fail
      go_roundg (gk - 1)
      case measure => exact gm
      case rel => exact ⟨k + 1, cap5, A5, by rw [show k * 5 + 1 + 4 = (k + 1) * 5 by omega], by simp, ⟨by omega, by have := HI.out.2; omega⟩, ⟨hbag5, hB9⟩⟩
    · obtain rfl : k = n := by omega
      go_wp2_with fail
      go_ret
      exact ⟨A3, cap3, by simp, hC.out⟩
end Go.Proofs.Ytijcniflghjoaaa.Fr
