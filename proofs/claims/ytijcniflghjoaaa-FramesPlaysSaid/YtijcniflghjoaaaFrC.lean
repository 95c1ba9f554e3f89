/- Values of frames: built, appended, loaded. -/
import Derived.Test.YtijcniflghjoaaaFrB
namespace Go.Proofs.Ytijcniflghjoaaa.Fr
open Go.RowKit Go.Proofs.Ytijcniflghjoaaa.Rg Go.Proofs.YtijcniflghjoaaaW.PrintLast
set_option linter.unusedVariables false
set_option linter.unusedSimpArgs false
theorem bs32 (f : Nat → CV) (w : World) : (Instr.buildSlice 44 1 #[(0, .agg (fa f))]).run Try.prog w = .ok (.slice (some ⟨w.heap.size, 0, none⟩) 1 1) (w.alloc (.cells (fa f) 32)) := by kernel_rfl
theorem bs29 (x : CV) (w : World) : (Instr.buildSlice 37 1 #[(0, .agg #[.bool x.t, .int .i64 x.b, .int .i64 x.c, .int .i64 x.d, .int .i64 x.e, .int .i64 x.f])]).run Try.prog w = .ok (.slice (some ⟨w.heap.size, 0, none⟩) 1 1) (w.alloc (.cells #[.bool x.t, .int .i64 x.b, .int .i64 x.c, .int .i64 x.d, .int .i64 x.e, .int .i64 x.f] 29)) := by kernel_rfl
/-- The last four of five, as an array's value. -/
def fb (f : Nat → CV) : Array Value := (seg f 6 24).toArray
theorem b32 (f : Nat → CV) (w : World) : (Instr.build 32 #[(0, .agg #[.bool (f 0).t, .int .i64 (f 0).b, .int .i64 (f 0).c, .int .i64 (f 0).d, .int .i64 (f 0).e, .int .i64 (f 0).f]), (1, .agg (fb f))]).run Try.prog w = .ok (.agg (fa f)) w := by kernel_rfl
section
variable {a : Act} {oi : Oper} {w : World}
theorem bs32_run (x : Operand) (ho : oi.op = .buildSlice 44 1 #[(0, x)]) (f : Nat → CV) (hx : a.eval x = .agg (fa f)) : (execOp a.eval oi).run Try.prog w = .ok (.value (.slice (some ⟨w.heap.size, 0, none⟩) 1 1)) (w.alloc (.cells (fa f) 32)) := by
  unfold execOp
  simp [ho, hx, bs32 f w]
theorem ld32_run (x : Operand) (ho : oi.op = .load 32 x) (b k : Nat) (hx : a.eval x = .pointer (some ⟨b, k, none⟩)) (f : Nat → CV) (hc : ∀ i, i < 30 → w.cell? ⟨b, k + i, none⟩ = some (Fl f i)) : (execOp a.eval oi).run Try.prog w = .ok (.value (.agg (fa f))) w := by
  have h := run_loadAt_mid (P := Try.prog) w b k 32 (seg f 0 30) _ (fun j v hj => by obtain ⟨h1, rfl⟩ := seg_idx hj; rw [Nat.zero_add]; exact hc j h1) Try.underlying32 rfl (by rw [seg_len]; exact i32)
  unfold execOp
  simp only [ho, hx, Sem.run_bind, Sem.run_pure, h, Result.andThen_ok]
  rfl
theorem ld32b_run (x : Operand) (ho : oi.op = .load 32 x) (b : Nat) (hx : a.eval x = .pointer (some ⟨b, 0, none⟩)) (f : Nat → CV) (hB : Blk w b 32 (fa f)) : (execOp a.eval oi).run Try.prog w = .ok (.value (.agg (fa f))) w :=
  ld32_run x ho b 0 hx f (fun i hi => by rw [Nat.zero_add]; exact fa_cell hB i hi)
end
section
variable {ops : Array Oper} {Q : Exit → Act → World → Prop} {oi : Oper} {N : Tmp} {a : Act} {w : World} {K : Act → World → Prop} {s x : Operand} {base : Nat} {A : Option Addr} {n cap m mc sb so : Nat} {z z' : Nat → CV}
theorem bag_step32 (hw : Region.wanted oi (yielded ops a.tmps) = true) (hN : oi.dst = some N) (hop : oi.op = .call { callee := .builtin .append, args := #[s, x], argTypes := #[44, 44] }) (hs : a.eval s = .slice A n cap) (hx : a.eval x = .slice (some ⟨sb, so, none⟩) m mc)
    (bag : Bag w base 32 30 A n cap z) (hsrc : ∀ j, j < m * 30 → w.cell? ⟨sb, so + j, none⟩ = some (Fl z' (n * 30 + j))) (hz : ∀ i, i < n * 30 → Fl z' i = Fl z i) (hb : base ≤ w.heap.size) (hn : n + m ≤ 100000) (hm : 0 < m)
    (h : ∀ A' cap' w', Bag w' base 32 30 A' (n + m) cap' z' → Turn (InBlock A) w w' → (∀ k, InBlock A' k → InBlock A k ∨ w.heap.size ≤ k) → K (a.put (some N) (.slice A' (n + m) cap')) w') :
    if Region.wanted oi (yielded ops a.tmps) = true then Oper.wp Try.prog oi a w K Q else K (a.put (some N) undef) w := by
  obtain ⟨A', cap', W', hrun, h1, h2, h3⟩ := append32 (mc := mc) bag sb so hsrc hz hb hn hm oi.type
  rw [if_pos hw]
  unfold Oper.wp execOp
  simp only [hop, resolve, invoke, builtin, Sem.run_bind, Sem.run_pure, Result.andThen_ok, List.map_toArray, List.map_cons, List.map_nil, hs, hx, hrun]
  show K (a.put oi.dst _) W'
  rw [hN]
  exact h A' cap' W' h1 h2 h3
theorem bag_step29 (hw : Region.wanted oi (yielded ops a.tmps) = true) (hN : oi.dst = some N) (hop : oi.op = .call { callee := .builtin .append, args := #[s, x], argTypes := #[37, 37] }) (hs : a.eval s = .slice A n cap) (hx : a.eval x = .slice (some ⟨sb, so, none⟩) m mc)
    (bag : Bag w base 29 6 A n cap z) (hsrc : ∀ j, j < m * 6 → w.cell? ⟨sb, so + j, none⟩ = some (Fl z' (n * 6 + j))) (hz : ∀ i, i < n * 6 → Fl z' i = Fl z i) (hb : base ≤ w.heap.size) (hn : n + m ≤ 100000) (hm : 0 < m)
    (h : ∀ A' cap' w', Bag w' base 29 6 A' (n + m) cap' z' → Turn (InBlock A) w w' → (∀ k, InBlock A' k → InBlock A k ∨ w.heap.size ≤ k) → K (a.put (some N) (.slice A' (n + m) cap')) w') :
    if Region.wanted oi (yielded ops a.tmps) = true then Oper.wp Try.prog oi a w K Q else K (a.put (some N) undef) w := by
  obtain ⟨A', cap', W', hrun, h1, h2, h3⟩ := append29 (mc := mc) bag sb so hsrc hz hb hn hm oi.type
  rw [if_pos hw]
  unfold Oper.wp execOp
  simp only [hop, resolve, invoke, builtin, Sem.run_bind, Sem.run_pure, Result.andThen_ok, List.map_toArray, List.map_cons, List.map_nil, hs, hx, hrun]
  show K (a.put oi.dst _) W'
  rw [hN]
  exact h A' cap' W' h1 h2 h3
end
/-- z with f as its frame n. -/
def updf (z : Nat → CV) (n : Nat) (f : Nat → CV) : Nat → CV := fun i => if i / 5 = n then f (i % 5) else z i
theorem updf_new (z : Nat → CV) (n : Nat) (f : Nat → CV) (j : Nat) (hj : j < 30) : Fl (updf z n f) (n * 30 + j) = Fl f j := by
  unfold Fl updf
  rw [show (n * 30 + j) / 6 / 5 = n by omega, if_pos rfl, show (n * 30 + j) / 6 % 5 = j / 6 by omega, show (n * 30 + j) % 6 = j % 6 by omega]
theorem updf_old (z : Nat → CV) (n : Nat) (f : Nat → CV) (i : Nat) (hi : i < n * 30) : Fl (updf z n f) i = Fl z i := by
  unfold Fl updf
  rw [if_neg (by omega)]
theorem Bag.ne {w : World} {base T S : Nat} {A : Option Addr} {n cap : Nat} {z : Nat → CV} (h : Bag w base T S A n cap z) {g : Nat} {t : TypeId} {cs : Array Value} (b : Blk w g t cs) (ht : T ≠ t) {k : Nat} (hk : InBlock A k) : k ≠ g := by
  obtain ⟨_, _, ⟨rfl, _⟩ | ⟨B, o, cur, rfl, hb, hh, _⟩⟩ := h
  · obtain ⟨o, h⟩ := hk; cases h
  · obtain ⟨o', h⟩ := hk
    simp only [Option.some.injEq, Addr.mk.injEq, and_true] at h
    obtain ⟨rfl, rfl⟩ := h
    exact Blk.ne_ (show Blk w B T cur from hh) b ht
end Go.Proofs.Ytijcniflghjoaaa.Fr
