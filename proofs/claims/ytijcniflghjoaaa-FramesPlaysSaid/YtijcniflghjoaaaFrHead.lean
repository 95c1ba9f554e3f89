/- The head of layer 19's laws: a live question. -/
import Derived.Test.YtijcniflghjoaaaFrOps
namespace Go.Proofs.Ytijcniflghjoaaa.Fr
open Go.RowKit Go.Proofs.Ytijcniflghjoaaa.Rg Go.Proofs.YtijcniflghjoaaaW.PrintLast
set_option linter.unusedVariables false
set_option linter.unusedSimpArgs false
def hF : Nat → CV
  | 0 => ⟨true, 0, 8, 0, 4, 0⟩
  | 1 => ⟨false, 0, 0, 1, 0, 0⟩
  | 2 => ⟨false, 0, 0, 2, 0, 0⟩
  | 3 => ⟨false, 0, 0, 3, 0, 0⟩
  | _ => ⟨false, 0, 0, 4, 0, 0⟩
def hG : Nat → CV
  | 3 => ⟨false, 0, 0, -1, 0, 0⟩
  | i => hF i
def c9 : CV := ⟨false, 0, 0, 9, 0, 0⟩
def hX : Nat → CV
  | 4 => c9
  | i => hF i
theorem hF_ok : ∀ i, i < 5 → (hF i).ok := fun i hi => by
  obtain rfl | rfl | rfl | rfl | rfl : i = 0 ∨ i = 1 ∨ i = 2 ∨ i = 3 ∨ i = 4 := by omega
  all_goals exact ⟨⟨by decide, by decide⟩, ⟨by decide, by decide⟩, ⟨by decide, by decide⟩, ⟨by decide, by decide⟩, ⟨by decide, by decide⟩⟩
theorem hG_ok : ∀ i, i < 5 → (hG i).ok := fun i hi => by
  obtain rfl | rfl | rfl | rfl | rfl : i = 0 ∨ i = 1 ∨ i = 2 ∨ i = 3 ∨ i = 4 := by omega
  all_goals exact ⟨⟨by decide, by decide⟩, ⟨by decide, by decide⟩, ⟨by decide, by decide⟩, ⟨by decide, by decide⟩, ⟨by decide, by decide⟩⟩
theorem hX_ok : ∀ i, i < 5 → (hX i).ok := fun i hi => by
  obtain rfl | rfl | rfl | rfl | rfl : i = 0 ∨ i = 1 ∨ i = 2 ∨ i = 3 ∨ i = 4 := by omega
  all_goals exact ⟨⟨by decide, by decide⟩, ⟨by decide, by decide⟩, ⟨by decide, by decide⟩, ⟨by decide, by decide⟩, ⟨by decide, by decide⟩⟩
theorem hF_push : pushB 0 hF = true := by decide
theorem hG_push : pushB 1 hG = false := by decide
theorem hX_put : allR hX 5 = true := by decide
theorem hG_set : (fa hF).setIfInBounds 21 (.int .i64 (-1)) = fa hG := by rfl
theorem z1_F (z : Nat → CV) : ∀ i, i < 5 → updf z 0 hF i = hF i := fun i hi => by
  unfold updf
  rw [if_pos (by omega), show i % 5 = i by omega]
/-- The place k of a row of capabilities is written. -/
theorem Bag.set6 {w : World} {base : Nat} {B o n cap : Nat} {z : Nat → CV} (h : Bag w base 29 6 (some ⟨B, o, none⟩) n cap z) (k : Nat) (hk : k < n) (x : CV) : Bag ((((((w.setCell ⟨B, o + k * 6, none⟩ (.bool x.t)).setCell ⟨B, o + k * 6 + 1, none⟩ (.int .i64 x.b)).setCell ⟨B, o + k * 6 + 2, none⟩ (.int .i64 x.c)).setCell ⟨B, o + k * 6 + 3, none⟩ (.int .i64 x.d)).setCell ⟨B, o + k * 6 + 4, none⟩ (.int .i64 x.e)).setCell ⟨B, o + k * 6 + 5, none⟩ (.int .i64 x.f)) base 29 6 (some ⟨B, o, none⟩) n cap (Rg.upd z k x) := by
  obtain ⟨h1, h2, ⟨e, _⟩ | ⟨B', o', cur, e, hb, hh, hs, hc⟩⟩ := h
  · cases e
  · simp only [Option.some.injEq, Addr.mk.injEq, and_true] at e
    obtain ⟨rfl, rfl⟩ := e
    have b2 := Blk.setCells [.bool x.t, .int .i64 x.b, .int .i64 x.c, .int .i64 x.d, .int .i64 x.e, .int .i64 x.f] (o + k * 6) (show Blk w B 29 cur from hh)
    refine ⟨h1, h2, .inr ⟨B, o, _, rfl, hb, b2, by rw [setAll_size]; exact hs, fun i hi => ?_⟩⟩
    by_cases hin : k * 6 ≤ i ∧ i < k * 6 + 6
    · obtain ⟨j, rfl⟩ : ∃ j, i = k * 6 + j := ⟨i - k * 6, by omega⟩
      rw [← Nat.add_assoc, setAll_in _ _ _ _ (by simp; omega) (by omega)]
      unfold Fl Rg.upd
      rw [if_pos (by omega), show (k * 6 + j) % 6 = j by omega]
      obtain rfl | rfl | rfl | rfl | rfl | rfl : j = 0 ∨ j = 1 ∨ j = 2 ∨ j = 3 ∨ j = 4 ∨ j = 5 := by omega
      all_goals rfl
    · rw [setAll_out _ _ _ _ (by simp; omega), hc i hi]
      unfold Fl Rg.upd
      rw [if_neg (by omega)]
theorem turn6 {S : Nat → Prop} {w : World} {B k : Nat} {v0 v1 v2 v3 v4 v5 : Value} (hB : S B) : Turn S w ((((((w.setCell ⟨B, k, none⟩ v0).setCell ⟨B, k + 1, none⟩ v1).setCell ⟨B, k + 2, none⟩ v2).setCell ⟨B, k + 3, none⟩ v3).setCell ⟨B, k + 4, none⟩ v4).setCell ⟨B, k + 5, none⟩ v5) :=
  ((((((Turn.refl S w).set_ (.inl hB) _).set_ (.inl hB) _).set_ (.inl hB) _).set_ (.inl hB) _).set_ (.inl hB) _).set_ (.inl hB) _
/-- What stands: the stack, the two boxes. -/
def HS (w W : World) (g b2 b3 n : Nat) (z : Nat → CV) : Prop := w.heap.size ≤ g ∧ g < b2 ∧ b2 < b3 ∧ b3 < W.heap.size ∧ FS W g (b3 + 1) W.heap.size n z ∧ Blk W b2 32 (fa hF) ∧ Blk W b3 32 (fa hG) ∧ Below w.heap.size w W
section
variable {w W W' : World} {g b2 b3 n : Nat} {z : Nat → CV}
theorem HS.below (h : HS w W g b2 b3 n z) (hb : Below W.heap.size W W') : HS w W' g b2 b3 n z := by
  obtain ⟨h1, h2, h3, h4, h5, h6, h7, h8⟩ := h
  exact ⟨h1, h2, h3, Nat.lt_of_lt_of_le h4 hb.size, (h5.below hb).raise hb.size, h6.below hb h6.lt, h7.below hb h7.lt, bcall h8 hb⟩
theorem hs_turn {n' : Nat} {z' : Nat → CV} (h : HS w W g b2 b3 n z) (hF' : FS W' g (b3 + 1) W'.heap.size n' z') (ht : Turn (fun i => i = g ∨ b3 + 1 ≤ i) W W') : HS w W' g b2 b3 n' z' := by
  obtain ⟨h1, h2, h3, h4, h5, h6, h7, h8⟩ := h
  exact ⟨h1, h2, h3, Nat.lt_of_lt_of_le h4 ht.size, hF', blk_keep h6 (ht.block _ h6.lt (by omega)), blk_keep h7 (ht.block _ h7.lt (by omega)), ht.below h8 (fun i hi => by omega)⟩
theorem hs_push (h : HS w W g b2 b3 0 z) : Calls Try.prog 19 #[.pointer (some ⟨g, 0, none⟩), .agg (fa hF)] W fun e w' => e = .returned (.bool true) ∧ HS w w' g b2 b3 1 hF :=
  (fs_pushY h.2.2.2.2.1 hF hF_ok hF_push).mono fun e w' ⟨he, hf, hk⟩ => ⟨he, hs_turn h (hf.same fun i hi => by unfold Fl; rw [z1_F z _ (by omega)]) hk.turn⟩
theorem hs_pushN (h : HS w W g b2 b3 1 hF) : Calls Try.prog 19 #[.pointer (some ⟨g, 0, none⟩), .agg (fa hG)] W fun e w' => e = .returned (.bool false) ∧ HS w w' g b2 b3 1 hF :=
  (fs_pushN h.2.2.2.2.1 hG hG_ok hG_push).mono fun e w' ⟨he, hf, hb⟩ => ⟨he, h.below hb⟩
/-- A row of five of the law's own. -/
def HR (w W : World) (g b2 b3 : Nat) (z : Nat → CV) (B o cap m : Nat) (l : Nat → CV) : Prop := HS w W g b2 b3 1 z ∧ Bag W m 29 6 (some ⟨B, o, none⟩) 5 cap l ∧ FS W g (b3 + 1) m 1 z ∧ w.heap.size ≤ m ∧ b3 < m
theorem hs_caps (h : HS w W g b2 b3 1 hF) : Calls Try.prog 16 #[.pointer (some ⟨g, 0, none⟩)] W fun e w' => ∃ B o cap, e = .returned (.slice (some ⟨B, o, none⟩) 5 cap) ∧ HR w w' g b2 b3 hF B o cap W.heap.size hF := by
  refine (fs_caps h.2.2.2.2.1 (by omega)).mono ?_
  rintro e w' ⟨A', cap', he, hb, hf, hbl⟩
  obtain ⟨B, o, rfl, _⟩ := hb.some_ (by omega)
  exact ⟨B, o, cap', he, h.below hbl, hb, hf, h.2.2.2.2.2.2.2.size, h.2.2.2.1⟩
theorem HR.set {B o cap m : Nat} (h : HR w W g b2 b3 hF B o cap m hF) : HR w ((((((W.setCell ⟨B, o + 4 * 6, none⟩ (.bool c9.t)).setCell ⟨B, o + 4 * 6 + 1, none⟩ (.int .i64 c9.b)).setCell ⟨B, o + 4 * 6 + 2, none⟩ (.int .i64 c9.c)).setCell ⟨B, o + 4 * 6 + 3, none⟩ (.int .i64 c9.d)).setCell ⟨B, o + 4 * 6 + 4, none⟩ (.int .i64 c9.e)).setCell ⟨B, o + 4 * 6 + 5, none⟩ (.int .i64 c9.f)) g b2 b3 hF B o cap m hX := by
  obtain ⟨h1, h2, h3, h4, h5⟩ := h
  have hm : m ≤ B := (h2.lt ⟨o, rfl⟩).2
  have ht := turn6 (S := fun i => i = B) (w := W) (B := B) (k := o + 4 * 6) (v0 := .bool c9.t) (v1 := .int .i64 c9.b) (v2 := .int .i64 c9.c) (v3 := .int .i64 c9.d) (v4 := .int .i64 c9.e) (v5 := .int .i64 c9.f) rfl
  have hb := h2.set6 4 (by omega) c9
  have hg : B ≠ g := by have := h1.2.1; have := h1.2.2.1; omega
  refine ⟨hs_turn h1 ((h3.turn1 ht hg (.inr hm)).raise (Nat.le_trans (Nat.le_of_lt (Nat.lt_of_le_of_lt hm (h2.lt ⟨o, rfl⟩).1)) ht.size)) (ht.mono fun i _ hi => by omega), hb.mono (Nat.le_refl _) (fun i hi => ?_), h3.turn1 ht hg (.inr hm), h4, h5⟩
  unfold Fl
  have h5 : i / 6 < 5 := by omega
  generalize i / 6 = j at h5 ⊢
  obtain rfl | rfl | rfl | rfl | rfl : j = 0 ∨ j = 1 ∨ j = 2 ∨ j = 3 ∨ j = 4 := by omega
  all_goals rfl
theorem HR.setL {B o cap m : Nat} (h : HR w W g b2 b3 hF B o cap m hF) : HR w ((((((W.setCell ⟨B, o + 24, none⟩ (.bool false)).setCell ⟨B, o + 24 + 1, none⟩ (.int .i64 0)).setCell ⟨B, o + 24 + 2, none⟩ (.int .i64 0)).setCell ⟨B, o + 24 + 3, none⟩ (.int .i64 9)).setCell ⟨B, o + 24 + 4, none⟩ (.int .i64 0)).setCell ⟨B, o + 24 + 5, none⟩ (.int .i64 0)) g b2 b3 hF B o cap m hX := h.set
theorem hr_put {B o cap m : Nat} (h : HR w W g b2 b3 hF B o cap m hX) : Calls Try.prog 17 #[.pointer (some ⟨g, 0, none⟩), .slice (some ⟨B, o, none⟩) 5 cap] W fun e w' => e = .returned (.bool true) ∧ HR w w' g b2 b3 hX B o cap m hX := by
  obtain ⟨h1, h2, h3, h4, h5⟩ := h
  have hm : m ≤ B := (h2.lt ⟨o, rfl⟩).2
  refine (fs_putY h3 (by omega) h2.row hX_ok h2.1 hX_put (fun j hj => (h2.lt hj).2)).mono ?_
  rintro e w' ⟨he, hf, ht⟩
  exact ⟨he, hs_turn h1 (hf.raise (Nat.le_trans (Nat.le_of_lt (Nat.lt_of_le_of_lt hm (h2.lt ⟨o, rfl⟩).1)) ht.size)) (ht.mono fun i _ hi => by omega), h2.turn ht (fun k hk hh => by have := (h2.lt hk).2; omega), hf, h4, h5⟩
theorem hr_putN {B o cap m : Nat} (h : HR w W g b2 b3 hX B o cap m hX) : Calls Try.prog 17 #[.pointer (some ⟨g, 0, none⟩), .slice (some ⟨B, o, none⟩) 4 cap] W fun e w' => e = .returned (.bool false) ∧ HS w w' g b2 b3 1 hX :=
  (fs_putN h.1.2.2.2.2.1 (by omega) (h.2.1.less (by omega)).row (fun i hi => hX_ok i (by omega)) (by decide)).mono fun e w' ⟨he, hf, hb⟩ => ⟨he, h.1.below hb⟩
theorem hs_pop (h : HS w W g b2 b3 1 hX) : Calls Try.prog 14 #[.pointer (some ⟨g, 0, none⟩)] W fun e w' => e = .returned (.tuple #[.agg (fa hX), .bool true]) ∧ HS w w' g b2 b3 0 hX := by
  refine (fs_pop1 h.2.2.2.2.1 (by omega)).mono ?_
  rintro e w' ⟨he, hf, ht⟩
  have e0 : (fun i => hX (0 * 5 + i)) = hX := funext fun i => by rw [Nat.zero_mul, Nat.zero_add]
  rw [e0] at he
  exact ⟨he, hs_turn h (hf.raise ht.size) (ht.mono fun i _ hi => .inl hi)⟩
theorem hs_pop0 (h : HS w W g b2 b3 0 hX) : Calls Try.prog 14 #[.pointer (some ⟨g, 0, none⟩)] W fun e w' => e = .returned (.tuple #[.agg (fa fz), .bool false]) ∧ HS w w' g b2 b3 0 hX ∧ Below W.heap.size W w' :=
  (fs_pop0 h.2.2.2.2.1).mono fun e w' ⟨he, hf, hb⟩ => ⟨he, h.below hb, hb⟩
theorem hs_many (h : HS w W g b2 b3 0 hX) : Calls Try.prog 21 #[.pointer (some ⟨g, 0, none⟩)] W fun e w' => e = .returned (.int .i64 0) ∧ w' = W := fs_many h.2.2.2.2.1
theorem hs_box {o : Obj} (h : HS w W g b2 b3 n z) (ht : Turn (fun i => i = W.heap.size) (W.alloc o) W') : HS w W' g b2 b3 n z := h.below (turn_fresh ht)
/-- The start: the stack is new, two boxes are made. -/
theorem hs_start {w W1 W2 W3 : World} {o2 o3 : Obj} {g : Nat} (hg : w.heap.size ≤ g) (hB : Blk W1 g 64 #[.slice none 0 0]) (hb : Below w.heap.size w W1) (hb2 : Blk W2 W1.heap.size 32 (fa hF)) (ht2 : Turn (fun i => i = W1.heap.size) (W1.alloc o2) W2) (hb3 : Blk W3 W2.heap.size 32 (fa hF)) (ht3 : Turn (fun i => i = W2.heap.size) (W2.alloc o3) W3) : HS w (W3.setCell ⟨W2.heap.size, 21, none⟩ (.int .i64 (-1))) g W1.heap.size W2.heap.size 0 hF := by
  have f2 := turn_fresh ht2
  have f3 := turn_fresh ht3
  have l1 := hB.lt
  have l2 := hb2.lt
  have l3 := hb3.lt
  have k3 : Blk (W3.setCell ⟨W2.heap.size, 21, none⟩ (.int .i64 (-1))) W2.heap.size 32 (fa hG) := hG_set ▸ hb3.set_ 21 _
  have kg : Blk (W3.setCell ⟨W2.heap.size, 21, none⟩ (.int .i64 (-1))) g 64 #[.slice none 0 0] := (((hB.below f2 l1).below f3 (by omega)).far (by show g ≠ W2.heap.size; omega) _)
  have k2 : Blk (W3.setCell ⟨W2.heap.size, 21, none⟩ (.int .i64 (-1))) W1.heap.size 32 (fa hF) := ((hb2.below f3 l2).far (by show W1.heap.size ≠ W2.heap.size; omega) _)
  exact ⟨hg, l1, l2, k3.lt, FS.start kg (by omega) k3.lt _ _, k2, k3, bset (bcall (bcall hb f2) f3) (by have := hb.size; omega)⟩
end
set_option maxRecDepth 100000 in
set_option maxHeartbeats 2000000 in
theorem head_calls (w : World) : Calls Try.prog 11 #[] w fun e w' => e = .returned (.bool true) ∧ Below w.heap.size w w' := by
  have hu24 := Try.underlying24
  have q16 : ∀ w, (Instr.build 29 #[(0, .bool true), (2, .int .i64 8), (4, .int .i64 4)]).run Try.prog w = .ok (.agg #[.bool true, .int .i64 0, .int .i64 8, .int .i64 0, .int .i64 4, .int .i64 0]) w := fun w => by kernel_rfl
  have q17 : ∀ w, (Instr.build 29 #[(3, .int .i64 1)]).run Try.prog w = .ok (.agg #[.bool false, .int .i64 0, .int .i64 0, .int .i64 1, .int .i64 0, .int .i64 0]) w := fun w => by kernel_rfl
  have q18 : ∀ w, (Instr.build 29 #[(3, .int .i64 2)]).run Try.prog w = .ok (.agg #[.bool false, .int .i64 0, .int .i64 0, .int .i64 2, .int .i64 0, .int .i64 0]) w := fun w => by kernel_rfl
  have q19 : ∀ w, (Instr.build 29 #[(3, .int .i64 3)]).run Try.prog w = .ok (.agg #[.bool false, .int .i64 0, .int .i64 0, .int .i64 3, .int .i64 0, .int .i64 0]) w := fun w => by kernel_rfl
  have q20 : ∀ w, (Instr.build 29 #[(3, .int .i64 4)]).run Try.prog w = .ok (.agg #[.bool false, .int .i64 0, .int .i64 0, .int .i64 4, .int .i64 0, .int .i64 0]) w := fun w => by kernel_rfl
  have q21 : ∀ w, (Instr.build 30 #[(0, .agg #[.bool false, .int .i64 0, .int .i64 0, .int .i64 1, .int .i64 0, .int .i64 0]), (1, .agg #[.bool false, .int .i64 0, .int .i64 0, .int .i64 2, .int .i64 0, .int .i64 0]), (2, .agg #[.bool false, .int .i64 0, .int .i64 0, .int .i64 3, .int .i64 0, .int .i64 0]), (3, .agg #[.bool false, .int .i64 0, .int .i64 0, .int .i64 4, .int .i64 0, .int .i64 0])]).run Try.prog w = .ok (.agg (fb hF)) w := fun w => by kernel_rfl
  have q22 : ∀ w, (Instr.build 32 #[(0, .agg #[.bool true, .int .i64 0, .int .i64 8, .int .i64 0, .int .i64 4, .int .i64 0]), (1, .agg (fb hF))]).run Try.prog w = .ok (.agg (fa hF)) w := fun w => by kernel_rfl
  have q39 : ∀ w, (Instr.build 29 #[(3, .int .i64 9)]).run Try.prog w = .ok (.agg #[.bool false, .int .i64 0, .int .i64 0, .int .i64 9, .int .i64 0, .int .i64 0]) w := fun w => by kernel_rfl
  have ea : ∀ w, (binOp .eql 29 (.agg #[.bool true, .int .i64 0, .int .i64 8, .int .i64 0, .int .i64 4, .int .i64 0]) (.agg #[.bool true, .int .i64 0, .int .i64 8, .int .i64 0, .int .i64 4, .int .i64 0])).run Try.prog w = .ok (.bool true) w := fun w => eql29 ⟨true, 0, 8, 0, 4, 0⟩ ⟨true, 0, 8, 0, 4, 0⟩ w
  have eb : ∀ w, (binOp .eql 29 (.agg #[.bool false, .int .i64 0, .int .i64 0, .int .i64 3, .int .i64 0, .int .i64 0]) (.agg #[.bool false, .int .i64 0, .int .i64 0, .int .i64 3, .int .i64 0, .int .i64 0])).run Try.prog w = .ok (.bool true) w := fun w => eql29 ⟨false, 0, 0, 3, 0, 0⟩ ⟨false, 0, 0, 3, 0, 0⟩ w
  have BL := Asd.mk (Below.refl w.heap.size w)
  go_enter Try.func11, Try.ntmps11
  go_wp2_with fail
  (go_at_call 12; ((with_reducible refine (new_calls _).mono ?_); rintro e W1 ⟨rfl, hg, hb⟩; have HG := Asd.mk hg; have HB := Asd.mk hb; clear hg hb BL))
  have hg0 := HG.out.lt
  go_wp2_with (first | (refine st32 rfl (.tmp 2) (.tmp 22) rfl W1.heap.size rfl hF rfl (Blk.new W1 32 _) rfl ?_; intro W2 hb2 ht2; have H2 := Asd.mk hb2; have T2 := Asd.mk ht2; clear hb2 ht2) | (refine ld32b rfl (.tmp 2) rfl W1.heap.size rfl hF H2.out ?_) | (refine st32 rfl (.tmp 3) (.tmp 23) rfl W2.heap.size rfl hF rfl (Blk.new W2 32 _) rfl ?_; intro W3 hb3 ht3; have H3 := Asd.mk hb3; have T3 := Asd.mk ht3; clear hb3 ht3; have c21 : W3.cell? ⟨W2.heap.size, 21, none⟩ = some (.int .i64 3) := fa_cell H3.out 21 (by omega); have f21 := H3.out.frozen 21) | (refine ld32b rfl (.tmp 2) rfl W1.heap.size rfl hF (hs_start (Nat.le_refl _) HG.out HB.out H2.out T2.out H3.out T3.out).2.2.2.2.2.1 ?_))
  have hS := Asd.mk (hs_start (Nat.le_refl _) HG.out HB.out H2.out T2.out H3.out T3.out)
  clear c21 f21 H2 T2 H3 T3 HG HB hg0 q16 q17 q18 q19 q20 q21 q22
  (go_at_call 19; ((with_reducible refine (hs_push hS.out).mono ?_); rintro e W5 ⟨rfl, h⟩; clear hS; have hS := Asd.mk h; clear h))
  generalize W1.heap.size = b2 at *
  generalize W2.heap.size = b3 at *
  go_wp2_with (refine ld32b rfl (.tmp 3) rfl b3 rfl hG hS.out.2.2.2.2.2.2.1 ?_)
  (go_at_call 19; ((with_reducible refine (hs_pushN hS.out).mono ?_); rintro e W6 ⟨rfl, h⟩; clear hS; have hS := Asd.mk h; clear h))
  go_wp2_with fail
  (go_at_call 16; ((with_reducible refine (hs_caps hS.out).mono ?_); rintro e W7 ⟨B, o, cap, rfl, h⟩; clear hS; have hS := Asd.mk h; clear h))
  obtain ⟨B', o', e', -, hBl, hBc, hBf⟩ := hS.out.2.1.some_ (by omega)
  simp only [Option.some.injEq, Addr.mk.injEq, and_true] at e'
  obtain ⟨rfl, rfl⟩ := e'
  have c0 := hBc 24 (by omega)
  have f0 := hBf (o + 24)
  have c1 := hBc 25 (by omega)
  have f1 := hBf (o + 24 + 1)
  have c2 := hBc 26 (by omega)
  have f2 := hBf (o + 24 + 2)
  have c3 := hBc 27 (by omega)
  have f3 := hBf (o + 24 + 3)
  have c4 := hBc 28 (by omega)
  have f4 := hBf (o + 24 + 4)
  have c5 := hBc 29 (by omega)
  have f5 := hBf (o + 24 + 5)
  have hcp : 5 ≤ cap := hS.out.2.1.1
  rw [show o + 25 = o + 24 + 1 by omega] at c1
  rw [show o + 26 = o + 24 + 2 by omega] at c2
  rw [show o + 27 = o + 24 + 3 by omega] at c3
  rw [show o + 28 = o + 24 + 4 by omega] at c4
  rw [show o + 29 = o + 24 + 5 by omega] at c5
  clear hBc hBf
  go_wp2_with fail
  have hS2 := Asd.mk hS.out.setL
  clear hS
  have hS := hS2
  clear hS2 c0 c1 c2 c3 c4 c5 f0 f1 f2 f3 f4 f5
  (go_at_call 17; ((with_reducible refine (hr_put hS.out).mono ?_); rintro e W8 ⟨rfl, h⟩; clear hS; have hS := Asd.mk h; clear h))
  go_wp2_with fail
  (go_at_call 17; ((with_reducible refine (hr_putN hS.out).mono ?_); rintro e W9 ⟨rfl, h⟩; clear hS; have hS := Asd.mk h; clear h))
  go_wp2_with fail
  (go_at_call 14; ((with_reducible refine (hs_pop hS.out).mono ?_); rintro e W10 ⟨rfl, h⟩; clear hS; have hS := Asd.mk h; clear h))
  go_wp2_with (refine st32 rfl (.tmp 9) (.tmp 51) rfl W10.heap.size rfl hX rfl (Blk.new W10 32 _) rfl ?_; intro W11 hb ht; have HX := Asd.mk hb; have hS2 := Asd.mk (hs_box hS.out ht); clear hb ht hS; have hS := hS2; clear hS2)
  generalize W10.heap.size = b9 at *
  (go_at_call 14; ((with_reducible refine (hs_pop0 hS.out).mono ?_); rintro e W12 ⟨rfl, h, hb⟩; have HX2 := Asd.mk (HX.out.below hb HX.out.lt); clear hS HX; have hS := Asd.mk h; have HX := HX2; clear h hb HX2))
  go_wp2_with (refine st32 rfl (.tmp 11) (.tmp 56) rfl W12.heap.size rfl fz rfl (Blk.new W12 32 _) rfl ?_; intro W13 hb ht; have HX2 := Asd.mk (HX.out.below (turn_fresh ht) HX.out.lt); have hS2 := Asd.mk (hs_box hS.out ht); clear hb ht hS HX; have hS := hS2; have HX := HX2; clear hS2 HX2; have hF2 := hS.out.2.2.2.2.2.1; have x0 : W13.cell? ⟨b9, 0, none⟩ = some (.bool true) := fa_cell HX.out 0 (by omega); have x1 : W13.cell? ⟨b9, 1, none⟩ = some (.int .i64 0) := fa_cell HX.out 1 (by omega); have x2 : W13.cell? ⟨b9, 2, none⟩ = some (.int .i64 8) := fa_cell HX.out 2 (by omega); have x3 : W13.cell? ⟨b9, 3, none⟩ = some (.int .i64 0) := fa_cell HX.out 3 (by omega); have x4 : W13.cell? ⟨b9, 4, none⟩ = some (.int .i64 4) := fa_cell HX.out 4 (by omega); have x5 : W13.cell? ⟨b9, 5, none⟩ = some (.int .i64 0) := fa_cell HX.out 5 (by omega); have x18 : W13.cell? ⟨b9, 18, none⟩ = some (.bool false) := fa_cell HX.out 18 (by omega); have x19 : W13.cell? ⟨b9, 19, none⟩ = some (.int .i64 0) := fa_cell HX.out 19 (by omega); have x20 : W13.cell? ⟨b9, 20, none⟩ = some (.int .i64 0) := fa_cell HX.out 20 (by omega); have x21 : W13.cell? ⟨b9, 21, none⟩ = some (.int .i64 3) := fa_cell HX.out 21 (by omega); have x22 : W13.cell? ⟨b9, 22, none⟩ = some (.int .i64 0) := fa_cell HX.out 22 (by omega); have x23 : W13.cell? ⟨b9, 23, none⟩ = some (.int .i64 0) := fa_cell HX.out 23 (by omega); have x27 : W13.cell? ⟨b9, 27, none⟩ = some (.int .i64 9) := fa_cell HX.out 27 (by omega); have y0 : W13.cell? ⟨b2, 0, none⟩ = some (.bool true) := fa_cell hF2 0 (by omega); have y1 : W13.cell? ⟨b2, 1, none⟩ = some (.int .i64 0) := fa_cell hF2 1 (by omega); have y2 : W13.cell? ⟨b2, 2, none⟩ = some (.int .i64 8) := fa_cell hF2 2 (by omega); have y3 : W13.cell? ⟨b2, 3, none⟩ = some (.int .i64 0) := fa_cell hF2 3 (by omega); have y4 : W13.cell? ⟨b2, 4, none⟩ = some (.int .i64 4) := fa_cell hF2 4 (by omega); have y5 : W13.cell? ⟨b2, 5, none⟩ = some (.int .i64 0) := fa_cell hF2 5 (by omega); have y18 : W13.cell? ⟨b2, 18, none⟩ = some (.bool false) := fa_cell hF2 18 (by omega); have y19 : W13.cell? ⟨b2, 19, none⟩ = some (.int .i64 0) := fa_cell hF2 19 (by omega); have y20 : W13.cell? ⟨b2, 20, none⟩ = some (.int .i64 0) := fa_cell hF2 20 (by omega); have y21 : W13.cell? ⟨b2, 21, none⟩ = some (.int .i64 3) := fa_cell hF2 21 (by omega); have y22 : W13.cell? ⟨b2, 22, none⟩ = some (.int .i64 0) := fa_cell hF2 22 (by omega); have y23 : W13.cell? ⟨b2, 23, none⟩ = some (.int .i64 0) := fa_cell hF2 23 (by omega); clear hF2)
  go_at_call 21
  with_reducible refine (hs_many hS.out).mono ?_
  rintro e w_ ⟨rfl, rfl⟩
  go_wp2_with fail
  go_ret
  exact ⟨by simp, hS.out.2.2.2.2.2.2.2⟩
end Go.Proofs.Ytijcniflghjoaaa.Fr
