/- The program's stack of frames (layer 19): New, Many, Pop. -/
import Derived.Test.YtijcniflghjoaaaFrKit
import Derived.Deep.LoopGhost
import Derived.Outline
namespace Go.Proofs.Ytijcniflghjoaaa.Fr
open Go.RowKit Go.Proofs.Ytijcniflghjoaaa.Rg Go.Proofs.YtijcniflghjoaaaW.PrintLast
set_option linter.unusedVariables false
set_option linter.unusedSimpArgs false
/-- A frame's value: five capabilities. -/
def fa (f : Nat → CV) : Array Value := (seg f 0 30).toArray
def fz : Nat → CV := fun _ => CV.zero
theorem new_calls (w : World) : Calls Try.prog 12 #[] w fun e w' => e = .returned (.pointer (some ⟨w.heap.size, 0, none⟩)) ∧ Blk w' w.heap.size 64 #[.slice none 0 0] ∧ Below w.heap.size w w' := by
  go_enter Try.func12, Try.ntmps12
  go_wp2
  go_ret
  exact ⟨rfl, Blk.new _ _ _, balloc (Below.refl _ _) _⟩
theorem rnew_calls (w : World) : Calls Try.prog 13 #[] w fun e w' => e = .returned (.pointer (some ⟨w.heap.size, 0, none⟩)) ∧ Blk w' w.heap.size 66 #[.slice none 0 0] ∧ Below w.heap.size w w' := by
  go_enter Try.func13, Try.ntmps13
  go_wp2
  go_ret
  exact ⟨rfl, Blk.new _ _ _, balloc (Below.refl _ _) _⟩
theorem many_calls (g : Nat) (A : Option Addr) (n cap : Nat) (w : World) (hB : Blk w g 64 #[.slice A n cap]) : Calls Try.prog 21 #[.pointer (some ⟨g, 0, none⟩)] w fun e w' => e = .returned (.int .i64 (n : Int)) ∧ w' = w := by
  have c0 := hB.cell 0
  simp at c0
  clear hB
  go_enter Try.func21, Try.ntmps21
  go_wp2
  go_ret
  exact ⟨by simp, rfl⟩
theorem rmany_calls (g : Nat) (A : Option Addr) (n cap : Nat) (w : World) (hB : Blk w g 66 #[.slice A n cap]) : Calls Try.prog 22 #[.pointer (some ⟨g, 0, none⟩)] w fun e w' => e = .returned (.int .i64 (n : Int)) ∧ w' = w := by
  have c0 := hB.cell 0
  simp at c0
  clear hB
  go_enter Try.func22, Try.ntmps22
  go_wp2
  go_ret
  exact ⟨by simp, rfl⟩
theorem zrow : (#[.bool false, .int .i64 0, .int .i64 0, .int .i64 0, .int .i64 0, .int .i64 0, .bool false, .int .i64 0, .int .i64 0, .int .i64 0, .int .i64 0, .int .i64 0, .bool false, .int .i64 0, .int .i64 0, .int .i64 0, .int .i64 0, .int .i64 0, .bool false, .int .i64 0, .int .i64 0, .int .i64 0, .int .i64 0, .int .i64 0, .bool false, .int .i64 0, .int .i64 0, .int .i64 0, .int .i64 0, .int .i64 0] : Array Value) = fa fz := rfl
theorem fa_size (f : Nat → CV) : (fa f).size = 30 := by unfold fa; rw [List.size_toArray, seg_len]
theorem i32 : (Try.prog.info? 32).map (·.size) = some 30 := by kernel_rfl
theorem fa_at (f : Nat → CV) (i : Nat) (h : i < 30) : (fa f)[i]? = some (Fl f i) := by
  have := seg_at f 0 30 i h
  rw [Nat.zero_add] at this
  unfold fa
  simpa using this
theorem fa_one (f : Nat → CV) : (fa f).all (·.oneCell') = true := all_oneCell_toArray (seg_one _ _ _)
theorem fa_cell {w : World} {b : Nat} {f : Nat → CV} (h : Blk w b 32 (fa f)) (i : Nat) (hi : i < 30) : w.cell? ⟨b, i, none⟩ = some (Fl f i) := (h.cell i).trans (fa_at f i hi)
section
variable {w : World} {ops : Array Oper} {rest : List Oper} {o : Oper} {a : Act} {Q : Exit → Act → World → Prop}
theorem ld32 (hg : o.guard = none) (x : Operand) (ho : o.op = .load 32 x) (b k : Nat) (hx : a.eval x = .pointer (some ⟨b, k, none⟩)) (f : Nat → CV) (hc : ∀ i, i < 30 → w.cell? ⟨b, k + i, none⟩ = some (Fl f i))
    (h : wpList Try.prog ops Q rest (a.put o.dst (.agg (fa f))) w) : wpList Try.prog ops Q (o :: rest) a w :=
  wpList_load_mid hg 32 x ho b k hx (seg f 0 30) _ (fun j v hj => by obtain ⟨h1, rfl⟩ := seg_idx hj; rw [Nat.zero_add]; exact hc j h1) Try.underlying32 rfl (by rw [seg_len]; exact i32) h
theorem ld32b (hg : o.guard = none) (x : Operand) (ho : o.op = .load 32 x) (b : Nat) (hx : a.eval x = .pointer (some ⟨b, 0, none⟩)) (f : Nat → CV) (hB : Blk w b 32 (fa f))
    (h : wpList Try.prog ops Q rest (a.put o.dst (.agg (fa f))) w) : wpList Try.prog ops Q (o :: rest) a w :=
  ld32 hg x ho b 0 hx f (fun i hi => by rw [Nat.zero_add]; exact fa_cell hB i hi) h
theorem st32 (hg : o.guard = none) (x y : Operand) (ho : o.op = .store 32 x y) (b : Nat) (hx : a.eval x = .pointer (some ⟨b, 0, none⟩)) (f : Nat → CV) (hy : a.eval y = .agg (fa f)) {cs : Array Value} (hB : Blk w b 32 cs) (hs : cs.size = 30)
    (h : ∀ W', Blk W' b 32 (fa f) → Turn (fun i => i = b) w W' → wpList Try.prog ops Q rest (a.put o.dst undef) W') : wpList Try.prog ops Q (o :: rest) a w := by
  refine wpList_store_mid hg 32 x y ho b 0 (fa f) hx hy (hB.there 0 _ (by rw [fa_size, hs]; omega)) (by rw [fa_size]; exact i32) (fa_one f) (h _ ?_ (Turn.setCells (S := fun i => i = b) (.inl rfl) _ _ (Turn.refl _ _)))
  have e : setAll cs 0 (fa f).toList = fa f := by
    refine Array.ext_getElem? fun i => ?_
    rcases Nat.lt_or_ge i 30 with hi | hi
    · have := setAll_in (fa f).toList cs 0 i (by rw [Array.length_toList, fa_size]; exact hi) (by omega)
      rw [Nat.zero_add] at this
      rw [this, Array.getElem?_toList]
    · rw [Array.getElem?_eq_none (by rw [setAll_size]; omega), Array.getElem?_eq_none (by rw [fa_size]; omega)]
  have := Blk.setCells (fa f).toList 0 hB
  rw [e] at this
  exact this
end
theorem run_ld32 {w : World} {b : Nat} {f : Nat → CV} (hB : Blk w b 32 (fa f)) : (loadVar 32 ⟨b, 0, none⟩).run Try.prog w = .ok (.agg (fa f)) w :=
  run_loadVar_mid w b 0 32 (seg f 0 30) _ (fun j v hj => by obtain ⟨h1, rfl⟩ := seg_idx hj; rw [Nat.zero_add, fa_cell hB j h1]) Try.underlying32 rfl (by rw [seg_len]; exact i32)
theorem res32 {fn : Func} {w : World} {tmps : Array Value} {b : Nat} {f : Nat → CV} {v : Value} (h : fn.results = #[.cell 2 32, .tmp 3]) (h2 : tmps[2]?.getD undef = .pointer (some ⟨b, 0, none⟩)) (h3 : tmps[3]?.getD undef = v) (hB : Blk w b 32 (fa f)) : (results fn tmps).run Try.prog w = .ok (.tuple #[.agg (fa f), v]) w := by
  have HL := run_ld32 hB
  generalize hx : (loadVar 32 ⟨b, 0, none⟩) = L at *
  unfold results
  rw [h]
  simp [h2, h3, asAddr, hx, HL]
theorem pop0_calls (g : Nat) (A : Option Addr) (cap : Nat) (w : World) (hB : Blk w g 64 #[.slice A 0 cap]) : Calls Try.prog 14 #[.pointer (some ⟨g, 0, none⟩)] w fun e w' => e = .returned (.tuple #[.agg (fa fz), .bool false]) ∧ Below w.heap.size w w' := by
  have c0 := hB.cell 0
  simp at c0
  have hlt := hB.lt
  clear hB
  go_enter Try.func14, Try.ntmps14
  go_wp2_with (refine st32 rfl (.tmp 2) (.tmp 14) rfl w.heap.size rfl fz rfl (Blk.new w 32 _) rfl ?_; intro W1 hb1 ht1; have HB := Asd.mk hb1; have HT := Asd.mk ht1; clear hb1 ht1)
  exact bodyPost_ret (res32 Try.results14 rfl rfl HB.out) rfl ⟨rfl, HT.out.below (balloc (Below.refl _ _) _) (fun i hi => by omega)⟩
theorem cell_alloc {w : World} {B k : Nat} {o : Obj} (h : B < w.heap.size) : (w.alloc o).cell? ⟨B, k, none⟩ = w.cell? ⟨B, k, none⟩ := World.cell?_of_block (Below.heap_alloc w o B h)
theorem Blk.new' {w : World} {t : TypeId} {cs : Array Value} {b : Nat} (h : w.heap.size = b) : Blk (w.alloc (.cells cs t)) b t cs := h ▸ Blk.new w t cs
theorem pop_step {w W1 : World} {g : Nat} {t : TypeId} {cs : Array Value} {o1 o2 : Obj} (h : Blk w g t cs) (ht : Turn (fun i => i = w.heap.size + 1) ((w.alloc o1).alloc o2) W1) : Blk W1 g t cs := by
  have h2 := (h.alloc o1).alloc o2
  exact (ht.block g h2.lt (by have := h.lt; omega)).trans h2
theorem pop_step0 {w W1 : World} {t : TypeId} {cs : Array Value} {o2 : Obj} (ht : Turn (fun i => i = w.heap.size + 1) ((w.alloc (.cells cs t)).alloc o2) W1) : Blk W1 w.heap.size t cs := by
  have h2 := (Blk.new w t cs).alloc o2
  exact (ht.block _ h2.lt (by omega)).trans h2
theorem pop_end {w W1 W2 : World} {g : Nat} {o1 o2 : Obj} {v v' : Value} (h1 : Turn (fun i => i = w.heap.size + 1) ((w.alloc o1).alloc o2) W1) (h2 : Turn (fun i => i = w.heap.size) (W1.setCell ⟨g, 0, none⟩ v') W2) (hg : g < w.heap.size) (hB : Blk W1 g 64 #[v]) : Blk W2 g 64 #[v'] ∧ Turn (fun i => i = g) w W2 := by
  have hB2 : Blk (W1.setCell ⟨g, 0, none⟩ v') g 64 #[v'] := hB.set_ 0 v'
  refine ⟨(h2.block g hB2.lt (by omega)).trans hB2, ?_⟩
  have a0 : Turn (fun i => i = g) w ((w.alloc o1).alloc o2) := ((Turn.refl _ w).alloc o1).alloc o2
  have a1 : Turn (fun i => i = g ∨ w.heap.size ≤ i) w (W1.setCell ⟨g, 0, none⟩ v') := (Turn.trans (a0.mono fun i _ h => .inl h) (h1.mono fun i _ h => .inr (by omega))).set_ (.inl (.inl rfl)) _
  have a2 : Turn (fun i => i = g ∨ w.heap.size ≤ i) w W2 := a1.trans (h2.mono fun i _ h => .inr (by omega))
  exact a2.mono fun i hi h => h.elim id (fun h => by omega)
theorem pop1_calls (g : Nat) (A : Option Addr) (k cap : Nat) (z : Nat → CV) (base : Nat) (w : World) (hB : Blk w g 64 #[.slice A (k + 1) cap]) (bag : Bag w base 32 30 A (k + 1) cap z) (hk : k ≤ 100000) : Calls Try.prog 14 #[.pointer (some ⟨g, 0, none⟩)] w fun e w' => e = .returned (.tuple #[.agg (fa (fun i => z (k * 5 + i))), .bool true]) ∧ Blk w' g 64 #[.slice A k cap] ∧ Turn (fun i => i = g) w w' := by
  have c0 := hB.cell 0
  simp at c0
  have hlt := hB.lt
  have hcap : k ≤ cap := by have := bag.1; omega
  obtain ⟨B, o, rfl, hb, hBlt, hc, -⟩ := bag.some_ (by omega)
  have hcf : ∀ i, i < 30 → w.cell? ⟨B, o + k * 30 + i, none⟩ = some (Fl (fun i => z (k * 5 + i)) i) := fun i hi => by
    rw [Nat.add_assoc, hc (k * 30 + i) (by omega)]
    unfold Fl
    rw [show (k * 30 + i) / 6 = k * 5 + i / 6 by omega, show (k * 30 + i) % 6 = i % 6 by omega]
  have e1 : wrap64 ((k : Int) + 1 - 1) = (k : Int) := by unfold wrap64; omega
  have HB := Asd.mk hB
  have HF := Asd.mk hcf
  have f0 := hB.frozen 0
  clear hB hc hcf bag
  generalize (fun i => z (k * 5 + i)) = f at *
  go_enter Try.func14, Try.ntmps14
  go_wp2_with (first | (refine ld32 rfl (.tmp 20) rfl B (o + k * 30) rfl f (fun i hi => (cell_alloc hBlt).trans (HF.out i hi)) ?_) | (refine st32 rfl (.tmp 5) (.tmp 21) rfl (w.heap.size + 1) rfl f rfl (Blk.new' (by simp)) rfl ?_; intro W1 hb1 ht1; have HT := Asd.mk ht1; clear ht1; have HB1 := Asd.mk hb1; clear hb1; have HG := Asd.mk (pop_step HB.out HT.out); have HZ := Asd.mk (pop_step0 HT.out); have c1 : W1.cell? ⟨g, 0, none⟩ = some (.slice (some ⟨B, o, none⟩) (k + 1) cap) := HG.out.cell 0; have f1 : W1.frozen? ⟨g, 0, none⟩ = false := HG.out.frozen 0) | (refine ld32b rfl (.tmp 5) rfl (w.heap.size + 1) rfl f (HB1.out.far (by show w.heap.size + 1 ≠ g; omega) _) ?_) | (refine st32 rfl (.tmp 2) (.tmp 31) rfl w.heap.size rfl f rfl (HZ.out.far (by show w.heap.size ≠ g; omega) _) rfl ?_; intro W2 hb2 ht2; have HB2 := Asd.mk hb2; have HT2 := Asd.mk ht2; clear hb2 ht2))
  obtain ⟨h1, h2⟩ := pop_end HT.out HT2.out hlt HG.out
  exact bodyPost_ret (res32 Try.results14 rfl rfl HB2.out) rfl ⟨rfl, h1, h2⟩
end Go.Proofs.Ytijcniflghjoaaa.Fr
