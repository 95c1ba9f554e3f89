/- Push, where all is right. -/
import Derived.Test.YtijcniflghjoaaaFrC
namespace Go.Proofs.Ytijcniflghjoaaa.Fr
open Go.RowKit Go.Proofs.Ytijcniflghjoaaa.Rg Go.Proofs.YtijcniflghjoaaaW.PrintLast
set_option linter.unusedVariables false
set_option linter.unusedSimpArgs false
theorem blk_keep {w w' : World} {g : Nat} {t : TypeId} {cs : Array Value} (h : Blk w g t cs) (hk : w'.heap[g]? = w.heap[g]?) : Blk w' g t cs := hk.trans h
theorem Bag.alloc {w : World} {base T S : Nat} {A : Option Addr} {n cap : Nat} {z : Nat → CV} (h : Bag w base T S A n cap z) (o : Obj) : Bag (w.alloc o) base T S A n cap z := h.keep fun k _ hl => Below.heap_alloc w o k hl
theorem Bag.far {w : World} {base T S : Nat} {A : Option Addr} {n cap : Nat} {z : Nat → CV} (h : Bag w base T S A n cap z) {p : Addr} (hp : ¬ InBlock A p.block) (u : Value) : Bag (w.setCell p u) base T S A n cap z := h.keep fun k hk _ => Below.heap_setCell w p u k (fun e => hp (e ▸ hk))
def PushPost (g ty base : Nat) (A : Option Addr) (n : Nat) (z f : Nat → CV) (w : World) (e : Ending) (w' : World) : Prop := e = .returned (.bool true) ∧ ∃ A' cap', Blk w' g ty #[.slice A' (n + 1) cap'] ∧ Bag w' base 32 30 A' (n + 1) cap' (updf z n f) ∧ Turn (fun i => i = g ∨ InBlock A i) w w' ∧ ∀ k, InBlock A' k → InBlock A k ∨ w.heap.size ≤ k
/-- The box, the stack, its row. -/
def PB (w W : World) (g ty base : Nat) (A : Option Addr) (n cap : Nat) (z f : Nat → CV) : Prop := Blk W w.heap.size 32 (fa f) ∧ Blk W g ty #[.slice A n cap] ∧ Bag W base 32 30 A n cap z ∧ Turn (fun i => i = g ∨ InBlock A i) w W
theorem PB.below {w W W' : World} {g ty base : Nat} {A : Option Addr} {n cap : Nat} {z f : Nat → CV} (h : PB w W g ty base A n cap z f) (hb : Below W.heap.size W W') : PB w W' g ty base A n cap z f :=
  ⟨h.1.below hb h.1.lt, h.2.1.below hb h.2.1.lt, h.2.2.1.below hb, h.2.2.2.trans (Turn.of_below hb _)⟩
theorem PB.alloc {w W : World} {g ty base : Nat} {A : Option Addr} {n cap : Nat} {z f : Nat → CV} (h : PB w W g ty base A n cap z f) (o : Obj) : PB w (W.alloc o) g ty base A n cap z f := h.below (balloc (Below.refl _ _) o)
theorem PB.first {w : World} {g ty base : Nat} {A : Option Addr} {n cap : Nat} {z : Nat → CV} (f : Nat → CV) (hB : Blk w g ty #[.slice A n cap]) (bag : Bag w base 32 30 A n cap z) : PB w (w.alloc (.cells (fa f) 32)) g ty base A n cap z f :=
  ⟨Blk.new _ _ _, hB.alloc _, bag.alloc _, (Turn.refl _ _).alloc _⟩
set_option maxRecDepth 100000 in
set_option maxHeartbeats 1000000 in
theorem push_yes (g base : Nat) (A : Option Addr) (n cap : Nat) (z f : Nat → CV) (w : World) (hB : Blk w g 64 #[.slice A n cap]) (bag : Bag w base 32 30 A n cap z) (hbase : base ≤ w.heap.size) (hn : n < 16) (hok : ∀ i, i < 5 → (f i).ok) (h0 : (f 0).right = true) (h1 : allR (fun i => f (i + 1)) 4 = true) : Calls Try.prog 19 #[.pointer (some ⟨g, 0, none⟩), .agg (fa f)] w (PushPost g 64 base A n z f w) := by
  have c0 := hB.cell 0
  simp at c0
  have hlt := hB.lt
  have e1 : decide (16 ≤ (n : Int)) = false := by simp; omega
  have HC := Asd.mk (one_calls (f 0) (hok 0 (by omega)))
  simp only [h0] at HC
  have HD := Asd.mk (fun W (b : Nat) (h : Blk W b 32 (fa f)) => right_calls (some ⟨b, 6, none⟩) 4 4 _ W (blk_regs h) (fun i hi => hok (i + 1) (by omega)) (by decide))
  simp only [h1] at HD
  obtain ⟨a0, a1, a2, a3, a4, a5⟩ := fa_cap f 0 (by omega)
  simp at a0 a1 a2 a3 a4 a5
  have HP0 := Asd.mk (PB.first f hB bag)
  clear hB bag hok h0 h1
  generalize f 0 = x at *
  obtain ⟨x0, x1, x2, x3, x4, x5⟩ := x
  dsimp only at a0 a1 a2 a3 a4 a5 HC
  go_enter Try.func19, Try.ntmps19
  go_wp2_with fail
  (go_at_call 42; ((with_reducible refine (HC.out _ _ (Blk.new' (by simp))).mono ?_); rintro e w1 ⟨rfl, hb1⟩; have HP1 := Asd.mk ((HP0.out.alloc _).below hb1); have HX1 := Asd.mk HP1.out.1; clear hb1 HP0 HC))
  go_wp2_with fail
  (go_at_call 42; ((with_reducible refine (HD.out _ _ HX1.out).mono ?_); rintro e w2 ⟨rfl, hb2⟩; have hP := Asd.mk (HP1.out.below hb2); clear hb2 HP1 HD))
  have hcg : w2.cell? ⟨g, 0, none⟩ = some (.slice A n cap) := hP.out.2.1.cell 0
  clear a0 a1 a2 a3 a4 a5 c0
  unfold PushPost
  go_wp2_with fail
  refine start_ (n := 11) (S := fun w' => (Blk w' w.heap.size 32 (fa f) ∧ Blk w' g 64 #[.slice A n cap] ∧ Bag w' base 32 30 A n cap z ∧ Turn (fun i => i = g ∨ InBlock A i) w w') ∧ w'.cell? ⟨g, 0, none⟩ = some (.slice A n cap)) (ds := [7, 10]) #[false, false, false, false, false, false, false, false, false, false, false] (by kernel_rfl) rfl rfl ⟨⟨hP.out.1, hP.out.2.1, hP.out.2.2.1, hP.out.2.2.2.drew⟩, hP.out.2.1.cell 0⟩ (fun hHeld => ?_)
  refine pure_ (i := 0) (N := some 24) (v := ?_) (a' := ?_) #[true, false, false, false, false, false, false, false, false, false, false] rfl rfl (by kernel_rfl) (fun _ _ _ h => h) (Or.inl ⟨by rfl, ?_⟩) ?_ ?_
  rotate_left
  · intro w'
    go_simp
    with_reducible rfl
  rotate_left
  · simp only [Act.put, List.setIfInBounds_toArray, List.set_cons_zero, List.set_cons_succ, i64_w, i32_w]
    rfl
  refine pure_ (i := 1) (N := some 25) (v := ?_) (a' := ?_) #[true, true, false, false, false, false, false, false, false, false, false] rfl rfl (by kernel_rfl) (fun _ _ _ h => h) (Or.inl ⟨by rfl, ?_⟩) ?_ ?_
  rotate_left
  · intro w'
    go_simp
    with_reducible rfl
  rotate_left
  · simp only [Act.put, List.setIfInBounds_toArray, List.set_cons_zero, List.set_cons_succ, i64_w, i32_w]
    rfl
  refine pure_ (i := 2) (N := some 26) (v := ?_) (a' := ?_) #[true, true, true, false, false, false, false, false, false, false, false] rfl rfl (by kernel_rfl) (fun _ _ _ h => h) (Or.inl ⟨by rfl, ?_⟩) ?_ ?_
  rotate_left
  · intro w'
    go_simp
    with_reducible rfl
  rotate_left
  · simp only [Act.put, List.setIfInBounds_toArray, List.set_cons_zero, List.set_cons_succ, i64_w, i32_w]
    rfl
  refine pure_ (i := 3) (N := some 27) (v := ?_) (a' := ?_) #[true, true, true, true, false, false, false, false, false, false, false] rfl rfl (by kernel_rfl) (fun _ _ _ h => h) (Or.inl ⟨by rfl, ?_⟩) ?_ ?_
  rotate_left
  · intro w'
    go_simp
    with_reducible rfl
  rotate_left
  · simp only [Act.put, List.setIfInBounds_toArray, List.set_cons_zero, List.set_cons_succ, i64_w, i32_w]
    rfl
  refine take_ (i := 4) (N := some 28) (v := ?_) (a' := ?_) #[true, true, true, true, true, false, false, false, false, false, false] rfl rfl (by kernel_rfl) (fun _ _ _ h => h) (Or.inl ⟨by rfl, ?_⟩) hHeld ?_ ?_
  rotate_left
  · rintro w' ⟨s0, s1⟩
    go_simp
    with_reducible rfl
  rotate_left
  · simp only [Act.put, List.setIfInBounds_toArray, List.set_cons_zero, List.set_cons_succ, i64_w, i32_w]
    rfl
  refine take_ (i := 5) (N := some 29) (v := ?_) (a' := ?_) #[true, true, true, true, true, true, false, false, false, false, false] rfl rfl (by kernel_rfl) (fun _ _ _ h => h) (Or.inl ⟨by rfl, ?_⟩) hHeld ?_ ?_
  rotate_left
  · rintro w' ⟨s0, s1⟩
    refine ld32b_run (.tmp 3) ?_ w.heap.size ?_ f s0.1 <;> rfl
  rotate_left
  · simp only [Act.put, List.setIfInBounds_toArray, List.set_cons_zero, List.set_cons_succ, i64_w, i32_w]
    rfl
  refine one_ (i := 6) (N := some 30) #[true, true, true, true, true, true, true, false, false, false, false] rfl rfl (by kernel_rfl) (by decide) (fun K hK => ?_)
  refine value_ (by rfl) rfl (bs32_run (.tmp 29) (by rfl) f (by rfl)) ?_
  have hX := hHeld.1.1.alloc (.cells (fa f) 32)
  have hG := hHeld.1.2.1.alloc (.cells (fa f) 32)
  have hBG := hHeld.1.2.2.1.alloc (.cells (fa f) 32)
  have hTT := hHeld.1.2.2.2.alloc (.cells (fa f) 32)
  refine hK.out _ _ ⟨⟨hX, hG, hBG, hTT⟩, hG.cell 0⟩ (fun hHeld => ?_)
  clear hK K
  refine norm_ (a' := ?_) ?_ ?_
  rotate_left
  · show Act.put _ (some 30) _ = _
    simp only [Act.put, List.setIfInBounds_toArray, List.set_cons_zero, List.set_cons_succ, i64_w, i32_w]
    rfl
  refine last_ (i := 7) (N := some 31) #[true, true, true, true, true, true, true, true, false, false, false] rfl rfl (by kernel_rfl) (by decide) (fun K hK => ?_)
  refine bag_step32 (z' := updf z n f) (by rfl) rfl rfl (by rfl) (by rfl) hHeld.1.2.2.1 (fun j hj => by rw [Nat.zero_add, updf_new _ _ _ _ (by omega)]; exact fa_cell (Blk.new _ _ _) j (by omega)) (fun i hi => updf_old _ _ _ _ hi) (Nat.le_trans hbase hHeld.1.2.2.2.size) (by omega) (by omega) ?_
  intro A2 cap2 w8 hbag2 hturn hin
  have hng : ¬ InBlock A g := fun h => absurd rfl (hHeld.1.2.2.1.ne hHeld.1.2.1 (by decide) h)
  have hG8 : Blk w8 g 64 #[.slice A n cap] := blk_keep hHeld.1.2.1 (hturn.block g hHeld.1.2.1.lt hng)
  have q2 : w8.cell? ⟨g, 0, none⟩ = some (.slice A n cap) := hG8.cell 0
  have q3 := hG8.frozen 0
  have hT8 := hHeld.1.2.2.2.trans (hturn.mono (fun i _ h => Or.inr h))
  have hin8 : ∀ k, InBlock A2 k → InBlock A k ∨ w.heap.size ≤ k := fun k h => (hin k h).imp id (fun h => Nat.le_trans hHeld.1.2.2.2.size h)
  refine hK.out _ _ ?_
  clear hK K
  refine norm_ (a' := ?_) ?_ ?_
  rotate_left
  · show Act.put _ (some 31) _ = _
    simp only [Act.put, List.setIfInBounds_toArray, List.set_cons_zero, List.set_cons_succ, i64_w, i32_w]
    rfl
  refine pure_ (i := 8) (N := some 32) (v := ?_) (a' := ?_) #[true, true, true, true, true, true, true, true, true, false, false] rfl rfl (by kernel_rfl) (fun _ _ _ h => h) (Or.inl ⟨by rfl, ?_⟩) ?_ ?_
  rotate_left
  · intro w'
    go_simp
    with_reducible rfl
  rotate_left
  · simp only [Act.put, List.setIfInBounds_toArray, List.set_cons_zero, List.set_cons_succ, i64_w, i32_w]
    rfl
  refine pure_ (i := 9) (N := some 33) (v := ?_) (a' := ?_) #[true, true, true, true, true, true, true, true, true, true, false] rfl rfl (by kernel_rfl) (fun _ _ _ h => h) (Or.inl ⟨by rfl, ?_⟩) ?_ ?_
  rotate_left
  · intro w'
    go_simp
    with_reducible rfl
  rotate_left
  · simp only [Act.put, List.setIfInBounds_toArray, List.set_cons_zero, List.set_cons_succ, i64_w, i32_w]
    rfl
  refine last_ (i := 10) (N := none) #[true, true, true, true, true, true, true, true, true, true, true] rfl rfl (by kernel_rfl) (by decide) (fun K hK => ?_)
  refine skip_ (w1 := ?_) (by rfl) rfl ?_ ?_
  rotate_left
  · go_simp
    rfl
  refine hK.out _ _ ?_
  clear hK K
  refine done_ (by kernel_rfl) ?_
  go_wp2_with fail
  go_ret
  exact ⟨by simp, A2, cap2, hG8.set_ 0 _, hbag2.far (fun h => (hin8 g h).elim hng (fun h => by omega)) _, hT8.set_ (.inl (.inl rfl)) _, hin8⟩
/-- Push: what it answers, what is there behind it. -/
def pushB (n : Nat) (f : Nat → CV) : Bool := decide (n < 16) && fright f
end Go.Proofs.Ytijcniflghjoaaa.Fr
