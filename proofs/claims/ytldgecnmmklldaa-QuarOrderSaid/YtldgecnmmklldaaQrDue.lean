/- Due: what need be kept apart no more. -/
import Derived.Test.YtldgecnmmklldaaQrIter
import Derived.Test.YtldgecnmmklldaaQrStep
namespace Go.Proofs.Ytldgecnmmklldaa.Qr
open Go.RowKit Go.Shelf Go.Proofs.YtldgecnmmklldaaW.PrintLast
set_option linter.unusedVariables false
set_option linter.unusedSimpArgs false
attribute [local go_sem] Oper.semAt_some
theorem iter_nil (n l Bq Bn : Nat) (g : Nat) (cap : Nat) (J : List HV → World → Prop) (W : World)
    (hq : W.cell? ⟨Bq, 0, none⟩ = some (.pointer (some ⟨g, 0, none⟩))) (hg : W.cell? ⟨g, 2, none⟩ = some (.slice none 0 cap)) (h0 : J [] W) :
    CallsIn Fence.wide n Try.prog 52 #[.func (.yield l) #[] #[], .pointer (some ⟨Bq, 0, none⟩), .pointer (some ⟨Bn, 0, none⟩)] W fun e W' => (∃ v, e = .returned v) ∧ J [] W' := by
  refine callsIn_of_wp Try.func52 rfl trivial ?_ rfl
  simp only [Try.ntmps52, List.size_toArray, List.length_cons, List.length_nil, Nat.reduceAdd, Nat.reduceSub, Array.replicate_succ, Array.replicate_zero, List.push_toArray, List.append_toArray, List.nil_append, List.cons_append]
  gi_wp2
  gi_loopw [11] (fun i wr => i = .int .i64 0 ∧ Asd (J [] wr)) (fun _ _ => 0)
  case atStart => exact ⟨rfl, ⟨h0⟩⟩
  case round =>
    obtain ⟨rfl, hJs⟩ := hrel
    gi_wp2
    go_end0
    exact ⟨⟨_, rfl⟩, hJs.out⟩
theorem upto_zero (z : Nat → HV) : upto z 0 = [] := rfl
/-- **The iterator's contract.** -/
theorem due_stops (n₀ Bq Bn g : Nat) (A : Option Addr) (n cap base : Nat) (z : Nat → HV) (now : Int) (X : Nat → Prop) (W : World) (m : Nat) (hm : 1 ≤ m) (hn : n ≤ 100000) (hz : ∀ i, i < n → (z i).ok) (bag : Bag W base A n cap z) (hn₀ : n₀ = W.heap.size)
    (hX : ∀ k, InBlock A k → ¬ X k) (hXn : ¬ X Bn) (hq : W.cell? ⟨Bq, 0, none⟩ = some (.pointer (some ⟨g, 0, none⟩))) (hg : W.cell? ⟨g, 2, none⟩ = some (.slice A n cap)) (hc : W.cell? ⟨Bn, 0, none⟩ = some (.int .i64 now)) :
    SeqStopsK Fence.wide m Try.prog 52 #[.pointer (some ⟨Bq, 0, none⟩), .pointer (some ⟨Bn, 0, none⟩)] (fun x : HV => #[Value.agg #[.int .i64 x.a, .int .i64 x.n, .int .i64 x.t]]) (Kept n₀ X) (fun ys => ∃ k, DueAt z n now k ∧ ys = upto z k) (fun pre => ∃ k, k ≤ n ∧ pre = upto z k) n W := by
  intro l J Jx W1 hW hJ hJx hY h0
  have lq := World.block_lt_of_cell? W _ hq
  have lg := World.block_lt_of_cell? W _ hg
  have ln := World.block_lt_of_cell? W _ hc
  have hq1 := (hW.cell (p := ⟨Bq, 0, none⟩) lq).trans hq
  have hg1 := (hW.cell (p := ⟨g, 2, none⟩) lg).trans hg
  have hc1 := (hW.cell (p := ⟨Bn, 0, none⟩) ln).trans hc
  rcases Nat.eq_zero_or_pos n with h | h
  · subst h
    cases A with
    | none =>
      refine (iter_nil m l Bq Bn g cap J W1 hq1 hg1 h0).mono fun e W' ⟨he, hj⟩ => ⟨he, .inl ⟨[], ⟨0, ⟨Nat.le_refl _, fun i hi => by omega, fun hi => by omega⟩, rfl⟩, hj⟩⟩
    | some a =>
      obtain ⟨_, _, ⟨hh, _⟩ | ⟨B, o, cur, hh, hb, hcell, _⟩⟩ := bag
      · cases hh
      · cases hh
        have lB := (Array.getElem?_eq_some_iff.1 hcell).1
        exact iter_in m hm l Bq Bn n₀ B o 0 cap g now z X hn hz (by omega) (by rw [hn₀]; exact ln) (hX B ⟨o, rfl⟩) hXn J Jx W1 hJ hY hq1 hg1 hc1 (fun i hi => by omega) (by rw [hn₀]; exact hW.size) h0
  · obtain ⟨B, o, rfl, hb, lB, _⟩ := bag.at_ h
    refine iter_in m hm l Bq Bn n₀ B o n cap g now z X hn hz (by omega) (by rw [hn₀]; exact ln) (hX B ⟨o, rfl⟩) hXn J Jx W1 hJ hY hq1 hg1 hc1 (fun i hi => ?_) (by rw [hn₀]; exact hW.size) h0
    obtain ⟨B', o', e, _, _, c0, c1, c2⟩ := bag.at_ hi
    simp only [Option.some.injEq, Addr.mk.injEq, and_true] at e
    obtain ⟨rfl, rfl⟩ := e
    exact ⟨(hW.cell (p := ⟨B, _, none⟩) lB).trans c0, (hW.cell (p := ⟨B, _, none⟩) lB).trans c1, (hW.cell (p := ⟨B, _, none⟩) lB).trans c2⟩
def sumL : List HV → Int
  | [] => 0
  | x :: l => x.n + sumL l
theorem sumL_snoc (l : List HV) (x : HV) : sumL (l ++ [x]) = sumL l + x.n := by
  induction l with
  | nil => simp [sumL]
  | cons y l ih => simp [sumL, ih]; omega
theorem wrap_sub (b s n : Int) : wrap64 (wrap64 (b - s) - n) = wrap64 (b - (s + n)) := by unfold wrap64; omega
/-- What the loop's own cells hold when pre has come. -/
def Inv (w : World) (g : Nat) (f b : Int) (A : Option Addr) (n cap : Nat) (pre : List HV) (W : World) : Prop :=
  (∃ A2 cap2, Blk W (w.heap.size + 1) 37 #[.slice A2 pre.length cap2] ∧ Bag W (w.heap.size + 4) A2 pre.length cap2 (fun i => pre.getD i HV.zero)) ∧ Blk W g 59 #[.int .i64 f, .int .i64 (wrap64 (b - sumL pre)), .slice A n cap] ∧ Blk W w.heap.size 26 #[.pointer (some ⟨g, 0, none⟩)] ∧ Turn (fun i => i = g) w W ∧ w.heap.size + 4 ≤ W.heap.size
theorem blk_row {W W' : World} {k : Nat} {t : TypeId} {cs : Array Value} {row : Option Nat} (h : Blk W k t cs) (hg : W.grownBy W' row) (hr : ∀ r, row = some r → ∃ o : Obj, W.heap[r]? = some o ∧ o.isCells = false) : Blk W' k t cs :=
  h.keep (hg.block k h.lt (fun e => by obtain ⟨o, ho, hc⟩ := hr k e.symm; rw [show W.heap[k]? = _ from h] at ho; cases ho; cases hc))
theorem bag_row {W W' : World} {base : Nat} {A : Option Addr} {n cap : Nat} {z : Nat → HV} {row : Option Nat} (h : Bag W base A n cap z) (hg : W.grownBy W' row) (hr : ∀ r, row = some r → ∃ o : Obj, W.heap[r]? = some o ∧ o.isCells = false) : Bag W' base A n cap z := by
  obtain ⟨h1, h2, h3⟩ := h
  refine ⟨h1, h2, ?_⟩
  rcases h3 with h | ⟨B, o, cur, rfl, hb, hh, hs, hc⟩
  · exact .inl h
  · exact .inr ⟨B, o, cur, rfl, hb, blk_row (k := B) hh hg hr, hs, hc⟩
theorem inv_row (w : World) (g : Nat) (f b : Int) (A : Option Addr) (n cap : Nat) : OwnFrom (w.heap.size + 4) (Inv w g f b A n cap) := by
  rintro pre W W' row ⟨⟨A2, cap2, h1, h2⟩, h3, h4, h5, h6⟩ hg hr
  have hr' := fun r e => (hr r e).2
  exact ⟨⟨A2, cap2, blk_row h1 hg hr', bag_row h2 hg hr'⟩, blk_row h3 hg hr', blk_row h4 hg hr', ⟨hg.os.trans h5.os, hg.tape.trans h5.tape, hg.output.trans h5.output, Nat.le_trans h5.size hg.size, fun i hi hn => (hg.block i (by omega) (fun e => by have := (hr i e.symm).1; omega)).trans (h5.block i hi hn)⟩, Nat.le_trans h6 hg.size⟩
theorem inv_alloc {w : World} {g : Nat} {f b : Int} {A : Option Addr} {n cap : Nat} {pre : List HV} {W : World} (h : Inv w g f b A n cap pre W) (o : Obj) : Inv w g f b A n cap pre (W.alloc o) :=
  (inv_row w g f b A n cap).alloc o h
def Ax (w : World) (g : Nat) (now : Int) (x : HV) (a' : Act) (W : World) : Prop := ∃ h, w.heap.size + 4 ≤ h ∧ Blk W h 23 #[.int .i64 x.a, .int .i64 x.n, .int .i64 x.t] ∧ (∀ A2 m c2, Blk W (w.heap.size + 1) 37 #[.slice A2 m c2] → ¬ InBlock A2 h) ∧ a' = { tmps := #[.pointer (some ⟨g, 0, none⟩), .int .i64 now, .pointer (some ⟨w.heap.size, 0, none⟩), undef, .slice none 0 0, .pointer (some ⟨w.heap.size + 1, 0, none⟩), .pointer (some ⟨h, 0, none⟩), .pointer (some ⟨g, 0, none⟩), .int .i64 now, .func (.func 52) #[] #[.pointer (some ⟨w.heap.size + 2, 0, none⟩), .pointer (some ⟨w.heap.size + 3, 0, none⟩)], .agg #[.int .i64 x.a, .int .i64 x.n, .int .i64 x.t], undef, undef, undef, undef, undef, undef, undef, undef, undef, undef, undef, undef, undef, undef, undef, undef, undef, undef, undef, undef, undef, undef, undef, undef], defers := [] }
theorem ax_row (w : World) (g : Nat) (now : Int) (x : HV) (a' : Act) : OwnFrom (w.heap.size + 4) (fun (_ : Unit) W => Ax w g now x a' W) := by
  rintro _ W W' row ⟨h, h1, h2, h4, h3⟩ hg hr
  refine ⟨h, h1, blk_row h2 hg (fun r e => (hr r e).2), fun A2 m c2 hb => h4 A2 m c2 ?_, h3⟩
  have hl := h2.lt
  exact hb.keep (hg.block _ (by omega) (fun e => by have := (hr _ e.symm).1; omega)).symm
def DuePost (g : Nat) (f b : Int) (A : Option Addr) (n cap : Nat) (z : Nat → HV) (now : Int) (w : World) (e : Ending) (w' : World) : Prop :=
  ∃ k, DueAt z n now k ∧ ∃ A2 cap2, e = .returned (.slice A2 k cap2) ∧ Bag w' w.heap.size A2 k cap2 z ∧ Blk w' g 59 #[.int .i64 f, .int .i64 (wrap64 (b - sumL (upto z k))), .slice (if cap = k then A else A.map (·.add (k * 3))) (n - k) (cap - k)] ∧ Turn (fun i => i = g) w w'
theorem Blk.set' {w : World} {g : Nat} {t : TypeId} {cs cs' : Array Value} {i : Nat} {u : Value} (h : Blk w g t cs) (e : cs' = cs.setIfInBounds i u) : Blk (w.setCell ⟨g, i, none⟩ u) g t cs' := e ▸ h.set_ i u
theorem due_close {B g : Nat} {f b : Int} {A : Option Addr} {n cap : Nat} {w W Wa W3 W4 : World} {pre : List HV} {x : HV} {A2 A3 : Option Addr} {cap2 cap3 : Nat} {a : Act} {Ix : Code → List HV → World → Prop}
    (hBe : B = w.heap.size + 4) (hgw : g < w.heap.size) (hT : Turn (fun i => i = g) w W) (hS : w.heap.size + 4 ≤ W.heap.size) (hBg : Bag W (w.heap.size + 4) A2 pre.length cap2 (fun i => pre.getD i HV.zero)) (hWa : Below W.heap.size W Wa)
    (hT3 : Turn (InBlock A2) Wa W3) (hBg3 : Bag W3 (w.heap.size + 4) A3 (pre.length + 1) cap3 (upd (fun i => pre.getD i HV.zero) pre.length x))
    (hO4 : Blk W4 (w.heap.size + 1) 37 #[.slice A3 (pre.length + 1) cap3]) (hG4 : Blk W4 g 59 #[.int .i64 f, .int .i64 (wrap64 (wrap64 (b - sumL pre) - x.n)), .slice A n cap]) (hP4 : Blk W4 w.heap.size 26 #[.pointer (some ⟨g, 0, none⟩)]) (hT4 : Turn (fun k => k = g ∨ k = w.heap.size + 1) W3 W4) :
    ownPostG B (Kept (w.heap.size + 4) fun k => k = g ∨ k = w.heap.size + 1) (Inv w g f b A n cap) Ix (pre ++ [x]) W .normal a W4 := by
  subst hBe
  have keep : ∀ i, i < W.heap.size → ¬ InBlock A2 i → i ≠ g → i ≠ w.heap.size + 1 → W4.heap[i]? = W.heap[i]? := fun i hi h1 h2 h3 =>
    ((hT4.block i (Nat.lt_of_lt_of_le hi (Nat.le_trans hWa.size hT3.size)) (fun h => h.elim h2 h3)).trans (hT3.block i (Nat.lt_of_lt_of_le hi hWa.size) h1)).trans (hWa.block i hi)
  have hsz : W.heap.size ≤ W4.heap.size := Nat.le_trans hWa.size (Nat.le_trans hT3.size hT4.size)
  have low : ∀ i, i < w.heap.size + 4 → ¬ InBlock A2 i := fun i hi h => by have := (hBg.lt h).2; omega
  refine ⟨⟨hsz, fun k o hB hk ho => ?_⟩, ⟨hsz, fun i hi hn => keep i (by omega) (low i hi) (fun h => hn (.inl h)) (fun h => hn (.inr h))⟩, ⟨A3, cap3, ?_, ?_⟩, ?_, hP4, ⟨?_, ?_, ?_, ?_, ?_⟩, by omega⟩
  · refine (keep k (Array.getElem?_eq_some_iff.1 hk).1 (fun h => ?_) (by omega) (by omega)).trans hk
    obtain ⟨_, _, ⟨rfl, _⟩ | ⟨B', o', cur, rfl, hb, hh, _⟩⟩ := hBg
    · obtain ⟨o', h⟩ := h; cases h
    · obtain ⟨o'', h⟩ := h
      simp only [Option.some.injEq, Addr.mk.injEq, and_true] at h
      obtain ⟨rfl, rfl⟩ := h
      rw [hk] at hh; cases hh; cases ho
  · simpa using hO4
  · have h := hBg3.keep (fun k hk hl => hT4.block k hl (fun h => by have := (hBg3.lt hk).2; rcases h with h | h <;> omega))
    rw [show (pre ++ [x]).length = pre.length + 1 by simp]
    refine h.mono (Nat.le_refl _) (fun i hi => ?_)
    unfold upd
    by_cases e : i = pre.length
    · rw [if_pos e, e]; simp [List.getD]
    · rw [if_neg e]; simp only [List.getD]; rw [List.getElem?_append_left (by omega)]
  · rw [sumL_snoc, ← wrap_sub]; exact hG4
  · exact hT4.os.trans (hT3.os.trans (hWa.os.trans hT.os))
  · exact hT4.tape.trans (hT3.tape.trans (hWa.tape.trans hT.tape))
  · exact hT4.output.trans (hT3.output.trans (hWa.output.trans hT.output))
  · exact Nat.le_trans hT.size hsz
  · exact fun i hi hn => (keep i (by omega) (low i (by omega)) hn (by omega)).trans (hT.block i hi hn)
theorem turn_set1 {a b : World} {g j : Nat} {u : Value} (h : Turn (fun i => i = g) a b) : Turn (fun i => i = g) a (b.setCell ⟨g, j, none⟩ u) := h.set_ (.inl rfl) u
theorem due_done {g D : Nat} {f b now : Int} {A : Option Addr} {n cap k : Nat} {z : Nat → HV} {w W W4 : World} {A2 : Option Addr} {cap2 : Nat} {a : Act} (hgw : g < w.heap.size) (hD : w.heap.size + 4 ≤ D) (hK : W.heap[D]? = some (.deferred (some [])))
    (ha : a.defers = [{ target := .collected D, args := #[] }]) (hr : a.tmps.getD 4 undef = .slice A2 k cap2) (hk : DueAt z n now k) (hT : Turn (fun i => i = g) w W) (hT4 : Turn (fun i => i = g) W W4)
    (hG4 : Blk W4 g 59 #[.int .i64 f, .int .i64 (wrap64 (b - sumL (upto z k))), .slice (if cap = k then A else A.map (·.add (k * 3))) (n - k) (cap - k)]) (hBg : Bag W (w.heap.size + 4) A2 k cap2 (fun i => (upto z k).getD i HV.zero)) :
    bodyPostM Fence.wide 3 Try.prog Try.f20 (DuePost g f b A n cap z now w) Exit.ret a W4 := by
  show LeavesInM _ _ _ _ a.tmps _ a.defers .returning W4
  rw [ha]
  have hgD : g ≠ D := by omega
  have hK4 : W4.heap[D]? = some (.deferred (some [])) := (hT4.block D (Array.getElem?_eq_some_iff.1 hK).1 (fun h => hgD h.symm)).trans hK
  have hb : ∀ j, InBlock A2 j → j ≠ D ∧ j ≠ g := fun j hj => by
    have h1 := (hBg.lt hj).2
    refine ⟨?_, by omega⟩
    obtain ⟨_, _, ⟨rfl, _⟩ | ⟨B', o', cur, rfl, hb, hh, _⟩⟩ := hBg
    · obtain ⟨o', h⟩ := hj; cases h
    · obtain ⟨o'', h⟩ := hj
      simp only [Option.some.injEq, Addr.mk.injEq, and_true] at h
      obtain ⟨rfl, rfl⟩ := h
      rintro rfl
      rw [hK] at hh; cases hh
  refine ⟨by simp, .inl ⟨D, _, rfl, run_takeDeferred hK4, ?_⟩⟩
  refine ⟨_, results_tmp rfl _ _ _, k, hk, A2, cap2, congrArg _ hr, ?_, hG4.keep (World.putObj_heap_other hgD), ⟨?_, ?_, ?_, ?_, ?_⟩⟩
  · refine ((hBg.keep (w' := W4.putObj D (.deferred none)) (fun j hj hl => (World.putObj_heap_other (hb j hj).1).trans (hT4.block j hl (hb j hj).2))).lower (by omega)).mono (Nat.le_refl _) (fun i hi => ?_)
    simp [upto, List.getD, hi]
  · exact hT4.os.trans hT.os
  · exact hT4.tape.trans hT.tape
  · exact hT4.output.trans hT.output
  · rw [World.putObj_size]; exact Nat.le_trans hT.size hT4.size
  · exact fun i hi hn => ((World.putObj_heap_other (by omega)).trans (hT4.block i (Nat.lt_of_lt_of_le hi hT.size) hn)).trans (hT.block i hi hn)
theorem wpListIn_bag {F : Fence} {m : Nat} {w : World} {ops : Array Oper} {rest : List Oper} {o : Oper} {a : Act} {Q : Exit → Act → World → Prop}
    (hg : o.guard = none) (s x : Operand) (hop : o.op = Op.call { callee := Callee.builtin Builtin.append, args := #[s, x], argTypes := #[37, 37] })
    {base : Nat} {A : Option Addr} {n cap sb : Nat} {z : Nat → HV} {y0 y1 y2 : Int} (hs : a.eval s = .slice A n cap) (hx : a.eval x = .slice (some ⟨sb, 0, none⟩) 1 1)
    (bag : Bag w base A n cap z) (hblk : Blk w sb 23 #[.int .i64 y0, .int .i64 y1, .int .i64 y2]) (hb : base ≤ w.heap.size) (hn : n ≤ 100000)
    (h : ∀ A' cap' w', Bag w' base A' (n + 1) cap' (upd z n ⟨y0, y1, y2⟩) → Turn (InBlock A) w w' → (∀ k, InBlock A' k → InBlock A k ∨ w.heap.size ≤ k) → wpListIn F m Try.prog ops Q rest (a.put o.dst (.slice A' (n + 1) cap')) w') :
    wpListIn F m Try.prog ops Q (o :: rest) a w := by
  refine wpListIn_plain hg fun K hK' => ?_
  obtain ⟨A', cap', W', hrun, h1, h2, h3⟩ := append_bag bag ⟨y0, y1, y2⟩ sb hblk hb hn o.type
  unfold Oper.wpIn
  refine ⟨?_, ?_⟩
  · simp [Oper.about, hop, resolve, Target.leads, Sem.run_pure]
  · rw [Oper.semAt_plain F _ _ (by rw [hop]; intro c hc'; cases hc')]
    simp [execOp, hop, resolve, invoke, builtin, hs, hx, hrun, Result.andThen]
    exact hK' _ _ (h A' cap' W' h1 h2 h3)
set_option maxRecDepth 100000 in
set_option maxHeartbeats 4000000 in
theorem due20 (g base : Nat) (f b : Int) (A : Option Addr) (n cap : Nat) (z : Nat → HV) (now : Int) (w : World) (hB : Blk w g 59 #[.int .i64 f, .int .i64 b, .slice A n cap]) (hbag : Bag w base A n cap z) (hn : n ≤ 100000) (hz : ∀ i, i < n → (z i).ok) (hb64 : I64 b) : Calls Try.prog 20 #[.pointer (some ⟨g, 0, none⟩), .int .i64 now] w (DuePost g f b A n cap z now w) := by
  refine (callsIn_wide (n := 3)).1 ?_
  refine callsIn_of_wp_marks Try.func20 rfl trivial ?_ rfl
  simp only [Try.ntmps20, List.size_toArray, List.length_cons, List.length_nil, Nat.reduceAdd, Nat.reduceSub, Array.replicate_succ, Array.replicate_zero, List.push_toArray, List.append_toArray, List.nil_append, List.cons_append]
  gi_wp2_with (refine ⟨trivial, ?_⟩; gi_at_call 43; refine (callsIn_wide.2 (due_calls _ _ _)).mono ?_; rintro e w' ⟨rfl, rfl⟩)
  have hlt := hB.lt
  have hXA : ∀ k, InBlock A k → ¬ (k = g ∨ k = w.heap.size + 1) := fun k hk h => by
    rcases h with rfl | rfl
    · exact hbag.ne hB (by decide) hk rfl
    · have := (hbag.lt hk).1; omega
  have hWb : Below w.heap.size w ((((w.alloc (.cells #[.pointer (some ⟨g, 0, none⟩)] 26)).alloc (.cells #[.slice none 0 0] 37)).alloc (.cells #[.pointer (some ⟨g, 0, none⟩)] 26)).alloc (.cells #[.int .i64 now] 2)) := ((((Below.refl _ w).alloc (Nat.le_refl _) _).alloc (by simp) _).alloc (by simp; omega) _).alloc (by simp; omega) _
  have hb0 : Bag ((((w.alloc (.cells #[.pointer (some ⟨g, 0, none⟩)] 26)).alloc (.cells #[.slice none 0 0] 37)).alloc (.cells #[.pointer (some ⟨g, 0, none⟩)] 26)).alloc (.cells #[.int .i64 now] 2)) base A n cap z := hbag.keep (fun k hk hl => hWb.block k hl)
  have b0 : Blk ((((w.alloc (.cells #[.pointer (some ⟨g, 0, none⟩)] 26)).alloc (.cells #[.slice none 0 0] 37)).alloc (.cells #[.pointer (some ⟨g, 0, none⟩)] 26)).alloc (.cells #[.int .i64 now] 2)) w.heap.size 26 #[.pointer (some ⟨g, 0, none⟩)] := (((Blk.new w _ _).alloc _).alloc _).alloc _
  have b1 : Blk ((((w.alloc (.cells #[.pointer (some ⟨g, 0, none⟩)] 26)).alloc (.cells #[.slice none 0 0] 37)).alloc (.cells #[.pointer (some ⟨g, 0, none⟩)] 26)).alloc (.cells #[.int .i64 now] 2)) (w.heap.size + 1) 37 #[.slice none 0 0] := ((Blk.new' (by simp)).alloc _).alloc _
  have b2 : Blk ((((w.alloc (.cells #[.pointer (some ⟨g, 0, none⟩)] 26)).alloc (.cells #[.slice none 0 0] 37)).alloc (.cells #[.pointer (some ⟨g, 0, none⟩)] 26)).alloc (.cells #[.int .i64 now] 2)) (w.heap.size + 2) 26 #[.pointer (some ⟨g, 0, none⟩)] := (Blk.new' (by simp)).alloc _
  have b3 : Blk ((((w.alloc (.cells #[.pointer (some ⟨g, 0, none⟩)] 26)).alloc (.cells #[.slice none 0 0] 37)).alloc (.cells #[.pointer (some ⟨g, 0, none⟩)] 26)).alloc (.cells #[.int .i64 now] 2)) (w.heap.size + 3) 2 #[.int .i64 now] := Blk.new' (by simp)
  have bg : Blk ((((w.alloc (.cells #[.pointer (some ⟨g, 0, none⟩)] 26)).alloc (.cells #[.slice none 0 0] 37)).alloc (.cells #[.pointer (some ⟨g, 0, none⟩)] 26)).alloc (.cells #[.int .i64 now] 2)) g 59 #[.int .i64 f, .int .i64 b, .slice A n cap] := hB.below hWb hlt
  have hsW : ((((w.alloc (.cells #[.pointer (some ⟨g, 0, none⟩)] 26)).alloc (.cells #[.slice none 0 0] 37)).alloc (.cells #[.pointer (some ⟨g, 0, none⟩)] 26)).alloc (.cells #[.int .i64 now] 2)).heap.size = w.heap.size + 4 := by simp
  refine wpIn_rangeFunc_ownH rfl (by omega) (gf := 52) (lb := #[.pointer (some ⟨w.heap.size + 2, 0, none⟩), .pointer (some ⟨w.heap.size + 3, 0, none⟩)]) rfl trivial (enters_of Try.func52 (by kernel_rfl) rfl)
    (due_stops (w.heap.size + 4) (w.heap.size + 2) (w.heap.size + 3) g A n cap base z now (fun k => k = g ∨ k = w.heap.size + 1) _ _ (by omega) hn hz hb0 hsW.symm hXA (by omega) (b2.cell 0) (bg.cell 2) (b3.cell 0))
    (fun h k => h.trans k) (fun W l o o' hl ho hc hw => ⟨by simp, fun i hi _ => World.putObj_heap_other (by rw [hsW] at hl; omega)⟩) (Below.refl _ _) (fun _ => rfl)
    (Inv w g f b A n cap) (fun _ _ _ => False) (by rw [hsW]; exact inv_row w g f b A n cap) (fun _ _ _ _ _ hs _ _ => hs) ?h0 (Ax w g now) (fun x a' => by rw [hsW]; exact ax_row w g now x a') ?assign ?body ?done ?stop
  case h0 =>
    refine ⟨⟨none, 0, b1, Bag.nil _ _ _⟩, ?_, b0, Turn.of_below hWb _, by rw [hsW]; exact Nat.le_refl _⟩
    have e : wrap64 (b - sumL []) = b := by unfold wrap64 sumL; have := hb64.1; have := hb64.2; omega
    rw [e]
    exact bg
  case assign =>
    intro l pre x W K hi hK
    have hs := hi.2.2.2.2
    gi_wp2
    exact hK _ _ ((KeepsOthers.alloc _ _).from _) ⟨by simp, fun i hi _ => Below.heap_alloc W _ i (by omega)⟩ (inv_alloc hi _) ⟨W.heap.size, hs, Blk.new W 23 _, fun A2 m c2 hb => by
      obtain ⟨⟨A2', c2', hO, hBg⟩, _⟩ := hi
      have h1 := hO.alloc (.cells #[.int .i64 x.a, .int .i64 x.n, .int .i64 x.t] 23)
      unfold Blk at h1 hb
      rw [h1] at hb
      simp only [Option.some.injEq, Obj.cells.injEq, Array.mk.injEq, List.cons.injEq, Value.slice.injEq, and_true] at hb
      obtain ⟨rfl, _, _⟩ := hb
      intro k
      have := (hBg.lt k).1
      omega, rfl⟩
  case body =>
    rintro l pre x a' W hl - hi ⟨h, hh, hX, hne, rfl⟩ hpn
    have HI := Asd.mk hi
    obtain ⟨⟨A2, cap2, hO, hBg⟩, hG, hP, hT, hS⟩ := hi
    obtain ⟨x0, x1, x2⟩ := x
    dsimp only at hX ⊢
    have nO : ¬ InBlock A2 (w.heap.size + 1) := fun k => by have := (hBg.lt k).2; omega
    have nG : ¬ InBlock A2 g := fun k => by have := (hBg.lt k).2; omega
    have nP : ¬ InBlock A2 w.heap.size := fun k => by have := (hBg.lt k).2; omega
    have nX : ¬ InBlock A2 h := hne _ _ _ hO
    have c0 : W.cell? ⟨w.heap.size + 1, 0, none⟩ = some (.slice A2 pre.length cap2) := hO.cell 0
    have c1 : W.cell? ⟨h, 0, none⟩ = some (.int .i64 x0) := hX.cell 0
    have c2 : W.cell? ⟨h, 1, none⟩ = some (.int .i64 x1) := hX.cell 1
    have c3 : W.cell? ⟨h, 2, none⟩ = some (.int .i64 x2) := hX.cell 2
    have lG := hG.lt
    have n1 : g ≠ w.heap.size + 1 := by omega
    have n2 : h ≠ w.heap.size + 1 := by omega
    have n3 : w.heap.size ≠ w.heap.size + 1 := by omega
    have n4 : w.heap.size ≠ g := by omega
    have hmx : Try.prog.follows .mixedOrders = true := by kernel_rfl
    have HS := Asd.mk (And.intro hBg (And.intro hO (And.intro hG (And.intro hP (And.intro hX hT)))))
    clear hBg hO hG hP hX hT hne
    gi_wp2_with (gi_at_builtin; refine wpListIn_bag (sb := W.heap.size) rfl (.tmp 11) (.tmp 13) rfl rfl rfl (HS.out.1.alloc _) (Blk.new _ _ _) (by simp; omega) (by omega) ?_; intro A3 cap3 W3 hBg3 hT3 hin3; obtain ⟨hBg, hO, hG, hP, hX, hT⟩ := HS.out; have hO3 : Blk W3 (w.heap.size + 1) 37 #[.slice A2 pre.length cap2] := (hO.alloc _).keep (hT3.block _ (hO.alloc _).lt nO); have hG3 : Blk W3 g 59 #[.int .i64 f, .int .i64 (wrap64 (b - sumL pre)), .slice A n cap] := (hG.alloc _).keep (hT3.block _ (hG.alloc _).lt nG); have hP3 : Blk W3 w.heap.size 26 #[.pointer (some ⟨g, 0, none⟩)] := (hP.alloc _).keep (hT3.block _ (hP.alloc _).lt nP); have hX3 : Blk W3 h 23 #[.int .i64 x0, .int .i64 x1, .int .i64 x2] := (hX.alloc _).keep (hT3.block _ (hX.alloc _).lt nX); have d0 : W3.cell? ⟨w.heap.size + 1, 0, none⟩ = some (.slice A2 pre.length cap2) := hO3.cell 0; have d1 := hO3.frozen 0; have d2 : W3.cell? ⟨h, 1, none⟩ = some (.int .i64 x1) := hX3.cell 1; have d3 : W3.cell? ⟨g, 1, none⟩ = some (.int .i64 (wrap64 (b - sumL pre))) := hG3.cell 1; have d4 := hG3.frozen 1; have d5 : W3.cell? ⟨w.heap.size, 0, none⟩ = some (.pointer (some ⟨g, 0, none⟩)) := hP3.cell 0; have K3 := Asd.mk (And.intro hBg3 (And.intro hT3 (And.intro hin3 (And.intro hO3 (And.intro hG3 (And.intro hP3 hX3)))))); clear hBg3 hT3 hin3 hO3 hG3 hP3 hX3 hBg hO hG hP hX hT)
    first | (gi_region_with_o (fail)) | fail
    all_goals gi_wp2
    all_goals obtain ⟨hBg, hO, hG, hP, hX, hT⟩ := HS.out
    all_goals obtain ⟨hBg3, hT3, hin3, hO3, hG3, hP3, hX3⟩ := K3.out
    all_goals (
      refine due_close (by simp) hlt hT hS hBg ((Below.refl _ W).alloc (Nat.le_refl _) _) hT3 hBg3 (show Blk _ _ 37 #[.slice A3 (pre.length + 1) cap3] from ?_) (show Blk _ _ 59 #[.int .i64 f, .int .i64 (wrap64 (wrap64 (b - sumL pre) - x1)), .slice A n cap] from ?_) (show Blk _ _ 26 _ from ?_) ?_
      · repeat (first | with_reducible exact hO3 | with_reducible refine Blk.drew ?_ | with_reducible refine Blk.drewN ?_ _ | with_reducible refine Blk.far ?_ (Ne.symm n1) _ | with_reducible refine Blk.set' (cs := #[.slice A2 pre.length cap2]) ?_ ?_ | (show (_ : Array Value) = _; rfl))
      · repeat (first | with_reducible exact hG3 | with_reducible refine Blk.drew ?_ | with_reducible refine Blk.drewN ?_ _ | with_reducible refine Blk.far ?_ n1 _ | with_reducible refine Blk.set' (cs := #[.int .i64 f, .int .i64 (wrap64 (b - sumL pre)), .slice A n cap]) ?_ ?_ | (show (_ : Array Value) = _; rw [show IntKind.i64.wrap (wrap64 (b - sumL pre) - x1) = wrap64 (wrap64 (b - sumL pre) - x1) from by unfold wrap64; exact IntKind.wrap_i64 _]; rfl))
      · repeat (first | with_reducible exact hP3 | with_reducible refine Blk.drew ?_ | with_reducible refine Blk.drewN ?_ _ | with_reducible refine Blk.far ?_ n3 _ | with_reducible refine Blk.far ?_ n4 _)
      · repeat (first | with_reducible exact Turn.refl _ _ | with_reducible refine Turn.drew ?_ | with_reducible refine Turn.drewN ?_ _ | with_reducible refine Turn.set_ ?_ (.inl (.inl rfl)) _ | with_reducible refine Turn.set_ ?_ (.inl (.inr rfl)) _))
  case done =>
    rintro D ys W hD ⟨k, hk, rfl⟩ hI hK0'
    have HI := Asd.mk hI
    have HD := Asd.mk hk
    obtain ⟨⟨A2, cap2, hO, hBg⟩, hG, hP, hT, hS⟩ := hI
    have hlen : (upto z k).length = k := upto_length z k
    rw [hlen] at hO hBg
    rename_i K0 hK0
    obtain ⟨hkn, hk1, hk2⟩ := HD.out
    have hnc : n ≤ cap := hbag.1
    have f0 : W.frozen? ⟨g, 2, none⟩ = false := hG.frozen 2
    have f1 : (0 : Int) ≤ (k : Int) := by omega
    have f2 : (k : Int) ≤ (n : Int) := by omega
    have f3 : (k : Int) ≤ (cap : Int) := by omega
    have f4 : (n : Int) ≤ (cap : Int) := by omega
    refine hK0 _ _ ?_
    refine wpIn_seq_k (fun K1 hK1 => ?_)
    refine wpIn_wide.2 ?_
    refine Code.wp_mono (Q := Exit.then K1 (fun _ _ _ => False)) (fun e a w1 h => by cases e <;> first | exact h | exact h.elim) ?_
    refine start_ (n := 11) (S := fun w' => w'.cell? ⟨w.heap.size, 0, none⟩ = some (.pointer (some ⟨g, 0, none⟩)) ∧ w'.cell? ⟨g, 2, none⟩ = some (.slice A n cap) ∧ w'.cell? ⟨w.heap.size + 1, 0, none⟩ = some (.slice A2 k cap2)) (ds := [10]) #[false, false, false, false, false, false, false, false, false, false, false] (by kernel_rfl) rfl rfl ⟨hP.cell 0, hG.cell 2, hO.cell 0⟩ (fun hHeld => ?_)
    refine take_ (i := 0) (N := some 24) (v := ?_) (a' := ?_) #[true, false, false, false, false, false, false, false, false, false, false] rfl rfl (by kernel_rfl) (fun _ _ _ h => h) (Or.inl ⟨by rfl, ?_⟩) hHeld ?_ ?_
    rotate_left
    · rintro w' ⟨s0, s1, s2⟩
      go_simp
      with_reducible rfl
    rotate_left
    · simp only [Act.put, List.setIfInBounds_toArray, List.set_cons_zero, List.set_cons_succ, i64_w, i32_w]
      rfl
    refine take_ (i := 1) (N := some 25) (v := ?_) (a' := ?_) #[true, true, false, false, false, false, false, false, false, false, false] rfl rfl (by kernel_rfl) (fun _ _ _ h => h) (Or.inl ⟨by rfl, ?_⟩) hHeld ?_ ?_
    rotate_left
    · rintro w' ⟨s0, s1, s2⟩
      go_simp
      with_reducible rfl
    rotate_left
    · simp only [Act.put, List.setIfInBounds_toArray, List.set_cons_zero, List.set_cons_succ, i64_w, i32_w]
      rfl
    refine pure_ (i := 2) (N := some 26) (v := ?_) (a' := ?_) #[true, true, true, false, false, false, false, false, false, false, false] rfl rfl (by kernel_rfl) (fun _ _ _ h => h) (Or.inl ⟨by rfl, ?_⟩) ?_ ?_
    rotate_left
    · intro w'
      go_simp
      with_reducible rfl
    rotate_left
    · simp only [Act.put, List.setIfInBounds_toArray, List.set_cons_zero, List.set_cons_succ, i64_w, i32_w]
      rfl
    refine pure_ (i := 3) (N := some 27) (v := ?_) (a' := ?_) #[true, true, true, true, false, false, false, false, false, false, false] rfl rfl (by kernel_rfl) (fun _ _ _ h => h) (Or.inl ⟨by rfl, ?_⟩) ?_ ?_
    rotate_left
    · intro w'
      go_simp
      with_reducible rfl
    rotate_left
    · simp only [Act.put, List.setIfInBounds_toArray, List.set_cons_zero, List.set_cons_succ, i64_w, i32_w]
      rfl
    refine take_ (i := 4) (N := some 28) (v := ?_) (a' := ?_) #[true, true, true, true, true, false, false, false, false, false, false] rfl rfl (by kernel_rfl) (fun _ _ _ h => h) (Or.inl ⟨by rfl, ?_⟩) hHeld ?_ ?_
    rotate_left
    · rintro w' ⟨s0, s1, s2⟩
      go_simp
      with_reducible rfl
    rotate_left
    · simp only [Act.put, List.setIfInBounds_toArray, List.set_cons_zero, List.set_cons_succ, i64_w, i32_w]
      rfl
    refine take_ (i := 5) (N := some 29) (v := ?_) (a' := ?_) #[true, true, true, true, true, true, false, false, false, false, false] rfl rfl (by kernel_rfl) (fun _ _ _ h => h) (Or.inl ⟨by rfl, ?_⟩) hHeld ?_ ?_
    rotate_left
    · rintro w' ⟨s0, s1, s2⟩
      go_simp
      with_reducible rfl
    rotate_left
    · simp only [Act.put, List.setIfInBounds_toArray, List.set_cons_zero, List.set_cons_succ, i64_w, i32_w]
      rfl
    refine pure_ (i := 6) (N := some 30) (v := ?_) (a' := ?_) #[true, true, true, true, true, true, true, false, false, false, false] rfl rfl (by kernel_rfl) (fun _ _ _ h => h) (Or.inl ⟨by rfl, ?_⟩) ?_ ?_
    rotate_left
    · intro w'
      go_simp
      with_reducible rfl
    rotate_left
    · simp only [Act.put, List.setIfInBounds_toArray, List.set_cons_zero, List.set_cons_succ, i64_w, i32_w]
      rfl
    refine pure_ (i := 7) (N := some 31) (v := ?_) (a' := ?_) #[true, true, true, true, true, true, true, true, false, false, false] rfl rfl (by kernel_rfl) (fun _ _ _ h => h) (Or.inl ⟨by rfl, ?_⟩) ?_ ?_
    rotate_left
    · intro w'
      go_simp
      with_reducible rfl
    rotate_left
    · simp only [Act.put, List.setIfInBounds_toArray, List.set_cons_zero, List.set_cons_succ, i64_w, i32_w]
      rfl
    refine pure_ (i := 8) (N := some 32) (v := ?_) (a' := ?_) #[true, true, true, true, true, true, true, true, true, false, false] rfl rfl (by kernel_rfl) (fun _ _ _ h => h) (Or.inl ⟨by rfl, ?_⟩) ?_ ?_
    rotate_left
    · intro w'
      go_simp
      with_reducible rfl
    rotate_left
    · simp only [Act.put, List.setIfInBounds_toArray, List.set_cons_zero, List.set_cons_succ, i64_w, i32_w]
      rfl
    refine pure_ (i := 9) (N := some 33) (v := ?_) (a' := ?_) #[true, true, true, true, true, true, true, true, true, true, false] rfl rfl (by kernel_rfl) (fun _ _ _ h => h) (Or.inl ⟨by rfl, ?_⟩) ?_ ?_
    rotate_left
    · intro w'
      go_simp
      with_reducible rfl
    rotate_left
    · simp only [Act.put, List.setIfInBounds_toArray, List.set_cons_zero, List.set_cons_succ, i64_w, i32_w]
      rfl
    refine last_ (i := 10) (N := none) #[true, true, true, true, true, true, true, true, true, true, true] rfl rfl (by kernel_rfl) (by decide) (fun K hK => ?_)
    refine skip_ (w1 := ?_) (by rfl) rfl ?_ ?_
    rotate_left
    · go_simp
      rfl
    refine hK.out _ _ ?_
    clear hK K
    refine done_ (by kernel_rfl) ?_
    generalize hA' : (if cap = k then A else A.map (·.add (k * 3))) = A'
    have c1 : W.cell? ⟨w.heap.size + 1, 0, none⟩ = some (.slice A2 k cap2) := hO.cell 0
    have n1 : w.heap.size + 1 ≠ g := by omega
    refine hK1 _ _ ?_
    gi_wp2
    refine due_done hlt (by rw [hsW] at hD; exact hD) hK0' ?_ ?_ HD.out hT ?_ (show Blk _ _ 59 _ from ?_) hBg
    · rfl
    · rfl
    · repeat (first | with_reducible exact Turn.refl _ _ | with_reducible refine Turn.drew ?_ | with_reducible refine Turn.drewN ?_ _ | with_reducible refine turn_set1 ?_)
    · rw [hA']
      repeat (first | with_reducible exact hG | with_reducible refine Blk.drew ?_ | with_reducible refine Blk.drewN ?_ _ | with_reducible refine Blk.set' (cs := #[.int .i64 f, .int .i64 (wrap64 (b - sumL (upto z k))), .slice A n cap]) ?_ ?_ | (show (_ : Array Value) = _; rfl))
  case stop =>
    rintro D c pre W _ _ h _
    exact h.elim
end Go.Proofs.Ytldgecnmmklldaa.Qr
