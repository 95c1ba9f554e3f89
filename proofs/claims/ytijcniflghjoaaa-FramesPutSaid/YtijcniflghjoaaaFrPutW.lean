/- The walk of FramesPut. -/
import Derived.Test.YtijcniflghjoaaaFrHead
namespace Go.Proofs.Ytijcniflghjoaaa.Fr
open Go.RowKit Go.Proofs.Ytijcniflghjoaaa.Rg Go.Proofs.YtijcniflghjoaaaW.PrintLast
set_option linter.unusedVariables false
set_option linter.unusedSimpArgs false
/-- All of m frames are right. -/
def Good (z : Nat → CV) (m : Nat) : Prop := ∀ i, i < m * 5 → (z i).ok ∧ (z i).right = true
theorem Good.push {z f : Nat → CV} {m : Nat} (h : Good z m) (hok : ∀ i, i < 5 → (f i).ok) (hp : pushB m f = true) : Good (updf z m f) (m + 1) := fun i hi => by
  have hr : ∀ j, j < 5 → (f j).right = true := fun j hj => by
    unfold pushB at hp
    rw [fright_eq] at hp
    simp only [Bool.and_eq_true] at hp
    obtain ⟨-, h0, h1, h2, h3, h4⟩ := hp
    obtain rfl | rfl | rfl | rfl | rfl : j = 0 ∨ j = 1 ∨ j = 2 ∨ j = 3 ∨ j = 4 := by omega
    all_goals assumption
  unfold updf
  split
  · exact ⟨hok _ (by omega), hr _ (by omega)⟩
  · exact h i (by omega)
theorem Good.set {z : Nat → CV} {m k : Nat} {x : CV} (h : Good z m) (hx : x.ok) (hr : x.right = true) : Good (Rg.upd z k x) m := fun i hi => by
  unfold Rg.upd
  split
  · exact ⟨hx, hr⟩
  · exact h i hi
theorem Good.all {z : Nat → CV} {m : Nat} (h : Good z m) : allR z (m * 5) = true := by
  have : ∀ n, n ≤ m * 5 → allR z n = true := fun n => by
    induction n with
    | zero => intro _; rfl
    | succ n ih => intro hn; show (allR z n && (z n).right) = true; rw [ih (by omega), (h n (by omega)).2]; rfl
  exact this _ (Nat.le_refl _)
/-- What stands: the stack, the box of the law's own. -/
def GF (w W : World) (g : Nat) (x : CV) (m : Nat) (z : Nat → CV) : Prop := w.heap.size < g ∧ FS W g (g + 1) W.heap.size m z ∧ Blk W w.heap.size 29 #[.bool x.t, .int .i64 x.b, .int .i64 x.c, .int .i64 x.d, .int .i64 x.e, .int .i64 x.f] ∧ Below w.heap.size w W
section
variable {w W W' : World} {g m : Nat} {x : CV} {z : Nat → CV}
theorem GF.below (h : GF w W g x m z) (hb : Below W.heap.size W W') : GF w W' g x m z := ⟨h.1, (h.2.1.below hb).raise hb.size, h.2.2.1.below hb h.2.2.1.lt, bcall h.2.2.2 hb⟩
theorem gf_turn {m' : Nat} {z' : Nat → CV} (h : GF w W g x m z) (hF : FS W' g (g + 1) W'.heap.size m' z') (ht : Turn (fun i => i = g ∨ g + 1 ≤ i) W W') : GF w W' g x m' z' :=
  ⟨h.1, hF, blk_keep h.2.2.1 (ht.block _ h.2.2.1.lt (by have := h.1; omega)), ht.below h.2.2.2 (fun i hi => by have := h.1; omega)⟩
theorem gf_pushY (h : GF w W g x m z) (f : Nat → CV) (hok : ∀ i, i < 5 → (f i).ok) (hp : pushB m f = true) : Calls Try.prog 19 #[.pointer (some ⟨g, 0, none⟩), .agg (fa f)] W fun e w' => e = .returned (.bool true) ∧ GF w w' g x (m + 1) (updf z m f) :=
  (fs_pushY h.2.1 f hok hp).mono fun e w' ⟨he, hf, hk⟩ => ⟨he, gf_turn h hf hk.turn⟩
theorem gf_pushN (h : GF w W g x m z) (f : Nat → CV) (hok : ∀ i, i < 5 → (f i).ok) (hp : pushB m f = false) : Calls Try.prog 19 #[.pointer (some ⟨g, 0, none⟩), .agg (fa f)] W fun e w' => e = .returned (.bool false) ∧ GF w w' g x m z :=
  (fs_pushN h.2.1 f hok hp).mono fun e w' ⟨he, hf, hb⟩ => ⟨he, h.below hb⟩
theorem gf_start {W1 W2 : World} (hX : Blk W1 w.heap.size 29 #[.bool x.t, .int .i64 x.b, .int .i64 x.c, .int .i64 x.d, .int .i64 x.e, .int .i64 x.f]) (hb : Below w.heap.size w W1) (hB : Blk W2 W1.heap.size 64 #[.slice none 0 0]) (hb2 : Below W1.heap.size W1 W2) : GF w W2 W1.heap.size x 0 z :=
  ⟨hX.lt, FS.start hB (by omega) hB.lt _ _, hX.below hb2 hX.lt, bcall hb hb2⟩
/-- With a row of the law's own, in blocks from t on. -/
def GR (w W : World) (g : Nat) (x : CV) (p : Nat) (z : Nat → CV) (t : Nat) (A : Option Addr) (m cap : Nat) (l : Nat → CV) : Prop := GF w W g x p z ∧ FS W g (g + 1) t p z ∧ Bag W t 29 6 A (m * 5) cap l ∧ g < t
theorem GR.below {t m cap p : Nat} {A : Option Addr} {l : Nat → CV} (h : GR w W g x p z t A m cap l) (hb : Below W.heap.size W W') : GR w W' g x p z t A m cap l := ⟨h.1.below hb, h.2.1.below hb, h.2.2.1.below hb, h.2.2.2⟩
theorem gf_caps (h : GF w W g x m z) (hm : m ≤ 1000) : Calls Try.prog 16 #[.pointer (some ⟨g, 0, none⟩)] W fun e w' => ∃ A cap, e = .returned (.slice A (m * 5) cap) ∧ GR w w' g x m z W.heap.size A m cap z :=
  (fs_caps h.2.1 hm).mono fun e w' ⟨A, cap, he, hb, hf, hbl⟩ => ⟨A, cap, he, h.below hbl, hf, hb, h.2.1.lt⟩
theorem gr_caps {t m cap p : Nat} {A : Option Addr} {l : Nat → CV} (h : GR w W g x p z t A m cap l) (hm : p ≤ 1000) : Calls Try.prog 16 #[.pointer (some ⟨g, 0, none⟩)] W fun e w' => ∃ A' cap', e = .returned (.slice A' (p * 5) cap') ∧ Row w' A' (p * 5) z ∧ GR w w' g x p z t A m cap l :=
  (fs_caps h.1.2.1 hm).mono fun e w' ⟨A', cap', he, hb, hf, hbl⟩ => ⟨A', cap', he, hb.row, h.below hbl⟩
theorem gr_same {t cap m p : Nat} {A A' : Option Addr} {c' : Nat} (h : GR w W g x p z t A m cap z) (hR : Row W A' (m * 5) z) (hm : m ≤ 1000) : Calls Try.prog 23 #[.slice A' (m * 5) c', .slice A (m * 5) cap] W fun e w' => e = .returned (.bool true) ∧ GR w w' g x p z t A m cap z :=
  (same_yes hR h.2.2.1.row (by omega) (fun _ _ => rfl)).mono fun e w' ⟨he, hb⟩ => ⟨he, h.below hb⟩
theorem gr_put {t cap : Nat} {A : Option Addr} {l : Nat → CV} (h : GR w W g x m z t A m cap l) (hm : m ≤ 1000) (hg : Good l m) : Calls Try.prog 17 #[.pointer (some ⟨g, 0, none⟩), .slice A (m * 5) cap] W fun e w' => e = .returned (.bool true) ∧ GR w w' g x m l t A m cap l := by
  obtain ⟨h1, h2, h3, h4⟩ := h
  refine (fs_putY h2 hm h3.row (fun i hi => (hg i hi).1) h3.1 hg.all (fun j hj => (h3.lt hj).2)).mono ?_
  rintro e w' ⟨he, hf, ht⟩
  refine ⟨he, gf_turn h1 ?_ (ht.mono fun i _ hi => by omega), hf, h3.turn ht (fun k hk hh => by have := (h3.lt hk).2; omega), h4⟩
  obtain ⟨a1, a2, A1, c1, a3, a4, a5⟩ := hf
  exact ⟨a1, a2, A1, c1, a3, a4, fun j hj => (a4.lt hj).1⟩
theorem GR.set {t cap k B o : Nat} (h : GR w W g x m z t (some ⟨B, o, none⟩) m cap z) (hk : k < m * 5) (y : CV) : GR w ((((((W.setCell ⟨B, o + k * 6, none⟩ (.bool y.t)).setCell ⟨B, o + k * 6 + 1, none⟩ (.int .i64 y.b)).setCell ⟨B, o + k * 6 + 2, none⟩ (.int .i64 y.c)).setCell ⟨B, o + k * 6 + 3, none⟩ (.int .i64 y.d)).setCell ⟨B, o + k * 6 + 4, none⟩ (.int .i64 y.e)).setCell ⟨B, o + k * 6 + 5, none⟩ (.int .i64 y.f)) g x m z t (some ⟨B, o, none⟩) m cap (Rg.upd z k y) := by
  obtain ⟨h1, h2, h3, h4⟩ := h
  have hm : t ≤ B := (h3.lt ⟨o, rfl⟩).2
  have ht := turn6 (S := fun i => i = B) (w := W) (B := B) (k := o + k * 6) (v0 := .bool y.t) (v1 := .int .i64 y.b) (v2 := .int .i64 y.c) (v3 := .int .i64 y.d) (v4 := .int .i64 y.e) (v5 := .int .i64 y.f) rfl
  have hf := h2.turn1 ht (by omega) (.inr hm)
  refine ⟨gf_turn h1 ?_ (ht.mono fun i _ hi => by omega), hf, h3.set6 k hk y, h4⟩
  obtain ⟨a1, a2, A1, c1, a3, a4, a5⟩ := hf
  exact ⟨a1, a2, A1, c1, a3, a4, fun j hj => (a4.lt hj).1⟩
theorem gr_pop {t cap p : Nat} {A : Option Addr} {l : Nat → CV} (h : GR w W g x (p + 1) l t A m cap l) (hp : p ≤ 1000) : Calls Try.prog 14 #[.pointer (some ⟨g, 0, none⟩)] W fun e w' => e = .returned (.tuple #[.agg (fa (fun i => l (p * 5 + i))), .bool true]) ∧ GR w w' g x p l t A m cap l := by
  obtain ⟨h1, h2, h3, h4⟩ := h
  refine (fs_pop1 h2 hp).mono ?_
  rintro e w' ⟨he, hf, ht⟩
  refine ⟨he, gf_turn h1 ?_ (ht.mono fun i _ hi => .inl hi), hf, h3.turn ht (fun k hk hh => by have := (h3.lt hk).2; omega), h4⟩
  obtain ⟨a1, a2, A1, c1, a3, a4, a5⟩ := hf
  exact ⟨a1, a2, A1, c1, a3, a4, fun j hj => (a4.lt hj).1⟩
theorem gr_many {t cap p : Nat} {A : Option Addr} {l : Nat → CV} (h : GR w W g x p z t A m cap l) : Calls Try.prog 21 #[.pointer (some ⟨g, 0, none⟩)] W fun e w' => e = .returned (.int .i64 (p : Int)) ∧ w' = W := fs_many h.1.2.1
end
theorem neq6s (v : CV) (w : World) : (binOp .neq 29 (.agg #[.bool v.t, .int .i64 v.b, .int .i64 v.c, .int .i64 v.d, .int .i64 v.e, .int .i64 v.f]) (.agg #[.bool v.t, .int .i64 v.b, .int .i64 v.c, .int .i64 v.d, .int .i64 v.e, .int .i64 v.f])).run Try.prog w = .ok (.bool false) w := by
  have h := neq29 v v w
  rw [decide_eq_true rfl] at h
  exact h
theorem box_six {W : World} {b : Nat} {f : Nat → CV} (h : Blk W b 32 (fa f)) (j : Nat) (hj : j < 5) : ∀ i, i < 6 → W.cell? ⟨b, j * 6 + i, none⟩ = some ((f j).cell i) := fun i hi => by
  rw [fa_cell h _ (by omega)]
  unfold Fl
  rw [show (j * 6 + i) / 6 = j by omega, show (j * 6 + i) % 6 = i by omega]
set_option maxRecDepth 100000 in
set_option maxHeartbeats 2000000 in
theorem put_long (A : Option Addr) (len cap : Nat) (zo : Nat → OpV) (x : CV) (at_ : Int) (w : World) (ho : Ops w A len zo) (hcap : len ≤ cap) (hmax : cap ≤ maxLen) (hx : x.ok) (hat : 0 ≤ at_ ∧ at_ ≤ 255) (hl : 300 < (len : Int)) : Calls Try.prog 5 #[.slice A len cap, .agg #[.bool x.t, .int .i64 x.b, .int .i64 x.c, .int .i64 x.d, .int .i64 x.e, .int .i64 x.f], .int .u8 at_] w fun e w' => e = .returned (.bool true) ∧ Below w.heap.size w w' := by
  clear ho
  have hu24 := Try.underlying24
  have HX := Asd.mk (Blk.new w 29 #[.bool x.t, .int .i64 x.b, .int .i64 x.c, .int .i64 x.d, .int .i64 x.e, .int .i64 x.f])
  have HB := Asd.mk (balloc (Below.refl w.heap.size w) (.cells #[.bool x.t, .int .i64 x.b, .int .i64 x.c, .int .i64 x.d, .int .i64 x.e, .int .i64 x.f] 29))
  go_enter Try.func5, Try.ntmps5
  go_wp2_with fail
  (go_at_call 11; ((with_reducible refine (head_calls _).mono ?_); rintro e W1 ⟨rfl, hb⟩; have HX1 := Asd.mk (HX.out.below hb HX.out.lt); have HB1 := Asd.mk (bcall HB.out hb); clear hb HX HB))
  go_wp2_with fail
  (go_at_call 12; ((with_reducible refine (new_calls _).mono ?_); rintro e W2 ⟨rfl, hB, hb⟩; have hF := Asd.mk (gf_start (z := fz) HX1.out HB1.out hB hb); clear hB hb HX1 HB1))
  generalize W1.heap.size = g at *
  have c0 : W2.cell? ⟨w.heap.size, 0, none⟩ = some (.bool x.t) := hF.out.2.2.1.cell 0
  have c1 : W2.cell? ⟨w.heap.size, 1, none⟩ = some (.int .i64 x.b) := hF.out.2.2.1.cell 1
  have c2 : W2.cell? ⟨w.heap.size, 2, none⟩ = some (.int .i64 x.c) := hF.out.2.2.1.cell 2
  have c3 : W2.cell? ⟨w.heap.size, 3, none⟩ = some (.int .i64 x.d) := hF.out.2.2.1.cell 3
  have c4 : W2.cell? ⟨w.heap.size, 4, none⟩ = some (.int .i64 x.e) := hF.out.2.2.1.cell 4
  have c5 : W2.cell? ⟨w.heap.size, 5, none⟩ = some (.int .i64 x.f) := hF.out.2.2.1.cell 5
  go_wp2_with fail
  go_ret
  exact ⟨by simp, hF.out.2.2.2⟩
set_option maxRecDepth 100000 in
set_option maxHeartbeats 2000000 in
theorem put_bad (A : Option Addr) (len cap : Nat) (zo : Nat → OpV) (x : CV) (at_ : Int) (w : World) (ho : Ops w A len zo) (hcap : len ≤ cap) (hmax : cap ≤ maxLen) (hx : x.ok) (hat : 0 ≤ at_ ∧ at_ ≤ 255) (hl : ¬ 300 < (len : Int)) (hr : x.right = false) : Calls Try.prog 5 #[.slice A len cap, .agg #[.bool x.t, .int .i64 x.b, .int .i64 x.c, .int .i64 x.d, .int .i64 x.e, .int .i64 x.f], .int .u8 at_] w fun e w' => e = .returned (.bool true) ∧ Below w.heap.size w w' := by
  clear ho
  have hu24 := Try.underlying24
  have HX := Asd.mk (Blk.new w 29 #[.bool x.t, .int .i64 x.b, .int .i64 x.c, .int .i64 x.d, .int .i64 x.e, .int .i64 x.f])
  have HB := Asd.mk (balloc (Below.refl w.heap.size w) (.cells #[.bool x.t, .int .i64 x.b, .int .i64 x.c, .int .i64 x.d, .int .i64 x.e, .int .i64 x.f] 29))
  go_enter Try.func5, Try.ntmps5
  go_wp2_with fail
  (go_at_call 11; ((with_reducible refine (head_calls _).mono ?_); rintro e W1 ⟨rfl, hb⟩; have HX1 := Asd.mk (HX.out.below hb HX.out.lt); have HB1 := Asd.mk (bcall HB.out hb); clear hb HX HB))
  go_wp2_with fail
  (go_at_call 12; ((with_reducible refine (new_calls _).mono ?_); rintro e W2 ⟨rfl, hB, hb⟩; have hF := Asd.mk (gf_start (z := fz) HX1.out HB1.out hB hb); clear hB hb HX1 HB1))
  generalize W1.heap.size = g at *
  have c0 : W2.cell? ⟨w.heap.size, 0, none⟩ = some (.bool x.t) := hF.out.2.2.1.cell 0
  have c1 : W2.cell? ⟨w.heap.size, 1, none⟩ = some (.int .i64 x.b) := hF.out.2.2.1.cell 1
  have c2 : W2.cell? ⟨w.heap.size, 2, none⟩ = some (.int .i64 x.c) := hF.out.2.2.1.cell 2
  have c3 : W2.cell? ⟨w.heap.size, 3, none⟩ = some (.int .i64 x.d) := hF.out.2.2.1.cell 3
  have c4 : W2.cell? ⟨w.heap.size, 4, none⟩ = some (.int .i64 x.e) := hF.out.2.2.1.cell 4
  have c5 : W2.cell? ⟨w.heap.size, 5, none⟩ = some (.int .i64 x.f) := hF.out.2.2.1.cell 5
  go_wp2_with fail
  (go_at_call 26; ((with_reducible refine (rr x _ hr _).mono ?_); rintro e W3 ⟨rfl, hb⟩; have hF2 := Asd.mk (hF.out.below hb); clear hb hF c0 c1 c2 c3 c4 c5; have hF := hF2; clear hF2))
  go_wp2_with fail
  go_ret
  exact ⟨by simp, hF.out.2.2.2⟩
set_option maxRecDepth 100000 in
set_option maxHeartbeats 4000000 in
theorem put_good (A : Option Addr) (len cap : Nat) (zo : Nat → OpV) (x : CV) (at_ : Int) (w : World) (ho : Ops w A len zo) (hcap : len ≤ cap) (hmax : cap ≤ maxLen) (hx : x.ok) (hat : 0 ≤ at_ ∧ at_ ≤ 255) (hl : ¬ 300 < (len : Int)) (hr : x.right = true) : Calls Try.prog 5 #[.slice A len cap, .agg #[.bool x.t, .int .i64 x.b, .int .i64 x.c, .int .i64 x.d, .int .i64 x.e, .int .i64 x.f], .int .u8 at_] w fun e w' => e = .returned (.bool true) ∧ Below w.heap.size w w' := by
  have HO := Asd.mk ho
  clear ho
  have hu24 := Try.underlying24
  have HX := Asd.mk (Blk.new w 29 #[.bool x.t, .int .i64 x.b, .int .i64 x.c, .int .i64 x.d, .int .i64 x.e, .int .i64 x.f])
  have HB := Asd.mk (balloc (Below.refl w.heap.size w) (.cells #[.bool x.t, .int .i64 x.b, .int .i64 x.c, .int .i64 x.d, .int .i64 x.e, .int .i64 x.f] 29))
  go_enter Try.func5, Try.ntmps5
  go_wp2_with fail
  (go_at_call 11; ((with_reducible refine (head_calls _).mono ?_); rintro e W1 ⟨rfl, hb⟩; have HX1 := Asd.mk (HX.out.below hb HX.out.lt); have HB1 := Asd.mk (bcall HB.out hb); clear hb HX HB))
  go_wp2_with fail
  (go_at_call 12; ((with_reducible refine (new_calls _).mono ?_); rintro e W2 ⟨rfl, hB, hb⟩; have hF := Asd.mk (gf_start (z := fz) HX1.out HB1.out hB hb); clear hB hb HX1 HB1))
  generalize W1.heap.size = g at *
  have c0 : W2.cell? ⟨w.heap.size, 0, none⟩ = some (.bool x.t) := hF.out.2.2.1.cell 0
  have c1 : W2.cell? ⟨w.heap.size, 1, none⟩ = some (.int .i64 x.b) := hF.out.2.2.1.cell 1
  have c2 : W2.cell? ⟨w.heap.size, 2, none⟩ = some (.int .i64 x.c) := hF.out.2.2.1.cell 2
  have c3 : W2.cell? ⟨w.heap.size, 3, none⟩ = some (.int .i64 x.d) := hF.out.2.2.1.cell 3
  have c4 : W2.cell? ⟨w.heap.size, 4, none⟩ = some (.int .i64 x.e) := hF.out.2.2.1.cell 4
  have c5 : W2.cell? ⟨w.heap.size, 5, none⟩ = some (.int .i64 x.f) := hF.out.2.2.1.cell 5
  go_wp2_with fail
  (go_at_call 26; ((with_reducible refine (rr x _ hr _).mono ?_); rintro e W3 ⟨rfl, hb⟩; have hF2 := Asd.mk (hF.out.below hb); clear hb hF c0 c1 c2 c3 c4 c5; have hF := hF2; clear hF2))
  go_wp2_with fail
  have HRt := Asd.mk hr
  clear hr
  go_loopg [9] (len + 1) (fun kq v9 w' => ∃ (k m : Nat) (z : Nat → CV), v9 = .int .i64 (k : Int) ∧ Asd (k ≤ len ∧ kq + k = len + 1 ∧ m ≤ 16 ∧ Good z m) ∧ Asd (GF w w' g x m z))
  case atStart => exact ⟨0, 0, fz, rfl, ⟨by omega, by omega, by omega, fun i hi => absurd hi (by omega)⟩, hF⟩
  case round =>
    obtain ⟨k, m, z, rfl, HI, hF1⟩ := hrel
    clear hF
    have hF := hF1
    clear hF1
    have i0 := HI.out.1
    have m0 := HI.out.2.2.1
    have gm : gk - 1 < gk := by have := HI.out.2.1; omega
    by_cases hk : k < len
    · have k0 : (0 : Int) ≤ (k : Int) := by omega
      have k1 : (k : Int) < (len : Int) := by omega
      obtain ⟨B, o, rfl, hlB, hc, hok⟩ := HO.out.at_ hF.out.2.2.2 hk
      have HC := Asd.mk (show ∀ i, i < 30 → wr.cell? ⟨B, o + k * 38 + 1 + i, none⟩ = some (Fl (zo k).f i) from fun i hi => by rw [Nat.add_assoc, hc (1 + i) (by omega)]; unfold OpV.cell; rw [if_neg (by omega), if_pos (by omega), show 1 + i - 1 = i by omega])
      have hof := hok.2.1
      clear hc hok
      generalize (zo k).f = f at *
      cases hp : pushB m f with
      | true =>
        have hm16 : m < 16 := by unfold pushB at hp; simp at hp; exact hp.1
        have HG := Asd.mk (HI.out.2.2.2.push hof hp)
        go_wp2_with (refine ld32 rfl (.tmp 44) rfl B (o + k * 38 + 1) rfl f HC.out ?_)
        (go_at_call 19; ((with_reducible refine (gf_pushY hF.out f hof hp).mono ?_); rintro e W4 ⟨rfl, h⟩; clear hF hp; have hF := Asd.mk h; clear h))
        go_wp2_with fail
        go_roundg (gk - 1)
        case measure => exact gm
        case rel => exact ⟨k + 1, m + 1, updf z m f, by simp, ⟨by omega, by have := HI.out.2.1; omega, by omega, HG.out⟩, hF⟩
      | false =>
        have HG := Asd.mk (HI.out.2.2.2)
        go_wp2_with (refine ld32 rfl (.tmp 44) rfl B (o + k * 38 + 1) rfl f HC.out ?_)
        (go_at_call 19; ((with_reducible refine (gf_pushN hF.out f hof hp).mono ?_); rintro e W4 ⟨rfl, h⟩; clear hF hp; have hF := Asd.mk h; clear h))
        go_wp2_with fail
        go_roundg (gk - 1)
        case measure => exact gm
        case rel => exact ⟨k + 1, m, z, by simp, ⟨by omega, by have := HI.out.2.1; omega, by omega, HG.out⟩, hF⟩
    · obtain rfl : k = len := by omega
      have k1 : ¬ (k : Int) < (k : Int) := by omega
      clear gm
      have HG := Asd.mk HI.out.2.2.2
      go_wp2_with fail
      (go_at_call 16; ((with_reducible refine (gf_caps hF.out (by omega)).mono ?_); rintro e W5 ⟨A5, c5, rfl, h⟩; have hS := Asd.mk h; clear h))
      generalize wr.heap.size = t at *
      clear hF
      rcases Nat.eq_zero_or_pos m with hm | hm
      · subst hm
        go_wp2_with fail
        go_ret
        exact ⟨by simp, hS.out.1.2.2.2⟩
      obtain ⟨n5, hn5⟩ : ∃ n, Asd (m * 5 = n) := ⟨_, ⟨rfl⟩⟩
      have n0 : n5 ≤ m * 5 := by have := hn5.out; omega
      have n1 : m * 5 ≤ n5 := by have := hn5.out; omega
      have n2 : ((n5 : Int) == 0) = false := by simp; omega
      obtain ⟨kk, hkk⟩ : ∃ kk : Nat, Asd (at_.tmod (n5 : Int) = (kk : Int) ∧ kk < n5) := ⟨(at_.tmod (n5 : Int)).toNat, ⟨by have := Int.tmod_eq_emod_of_nonneg hat.1 (b := (n5 : Int)); have := Int.emod_nonneg at_ (b := (n5 : Int)) (by omega); omega, by have := Int.tmod_eq_emod_of_nonneg hat.1 (b := (n5 : Int)); have := Int.emod_lt_of_pos at_ (b := (n5 : Int)) (by omega); have := Int.emod_nonneg at_ (b := (n5 : Int)) (by omega); omega⟩⟩
      have ek := hkk.out.1
      have kk0 := hkk.out.2
      have kk1 : (kk : Int) < (n5 : Int) := by omega
      have kk2 : (0 : Int) ≤ (kk : Int) := by omega
      have n3 : (n5 : Int) ≠ 0 := by omega
      have n4 : ¬ n5 = 0 := by omega
      rw [hn5.out]
      obtain ⟨B5, o5, rfl, -, hBl, hBc, hBf⟩ := hS.out.2.2.1.some_ (by omega)
      have d0 : W5.cell? ⟨B5, o5 + kk * 6, none⟩ = some (Fl z (kk * 6 + 0)) := by rw [show o5 + kk * 6 = o5 + (kk * 6 + 0) by omega]; exact hBc _ (by omega)
      have f0 := hBf (o5 + kk * 6)
      have d1 : W5.cell? ⟨B5, o5 + kk * 6 + 1, none⟩ = some (Fl z (kk * 6 + 1)) := by rw [show o5 + kk * 6 + 1 = o5 + (kk * 6 + 1) by omega]; exact hBc _ (by omega)
      have f1 := hBf (o5 + kk * 6 + 1)
      have d2 : W5.cell? ⟨B5, o5 + kk * 6 + 2, none⟩ = some (Fl z (kk * 6 + 2)) := by rw [show o5 + kk * 6 + 2 = o5 + (kk * 6 + 2) by omega]; exact hBc _ (by omega)
      have f2 := hBf (o5 + kk * 6 + 2)
      have d3 : W5.cell? ⟨B5, o5 + kk * 6 + 3, none⟩ = some (Fl z (kk * 6 + 3)) := by rw [show o5 + kk * 6 + 3 = o5 + (kk * 6 + 3) by omega]; exact hBc _ (by omega)
      have f3 := hBf (o5 + kk * 6 + 3)
      have d4 : W5.cell? ⟨B5, o5 + kk * 6 + 4, none⟩ = some (Fl z (kk * 6 + 4)) := by rw [show o5 + kk * 6 + 4 = o5 + (kk * 6 + 4) by omega]; exact hBc _ (by omega)
      have f4 := hBf (o5 + kk * 6 + 4)
      have d5 : W5.cell? ⟨B5, o5 + kk * 6 + 5, none⟩ = some (Fl z (kk * 6 + 5)) := by rw [show o5 + kk * 6 + 5 = o5 + (kk * 6 + 5) by omega]; exact hBc _ (by omega)
      have f5 := hBf (o5 + kk * 6 + 5)
      clear hBc hBf
      have c0 : W5.cell? ⟨w.heap.size, 0, none⟩ = some (.bool x.t) := hS.out.1.2.2.1.cell 0
      have c1 : W5.cell? ⟨w.heap.size, 1, none⟩ = some (.int .i64 x.b) := hS.out.1.2.2.1.cell 1
      have c2 : W5.cell? ⟨w.heap.size, 2, none⟩ = some (.int .i64 x.c) := hS.out.1.2.2.1.cell 2
      have c3 : W5.cell? ⟨w.heap.size, 3, none⟩ = some (.int .i64 x.d) := hS.out.1.2.2.1.cell 3
      have c4 : W5.cell? ⟨w.heap.size, 4, none⟩ = some (.int .i64 x.e) := hS.out.1.2.2.1.cell 4
      have c5 : W5.cell? ⟨w.heap.size, 5, none⟩ = some (.int .i64 x.f) := hS.out.1.2.2.1.cell 5
      go_wp2_with fail
      have hS2 := Asd.mk (hS.out.set (show kk < m * 5 by omega) x)
      have HG2 := Asd.mk (HG.out.set (k := kk) hx HRt.out)
      clear hS HG c0 c1 c2 c3 c4 c5 d0 d1 d2 d3 d4 d5 f0 f1 f2 f3 f4 f5
      have hS := hS2
      have HG := HG2
      clear hS2 HG2
      generalize Rg.upd z kk x = l at *
      rw [← hn5.out]
      (go_at_call 17; ((with_reducible refine (gr_put hS.out (by omega) HG.out).mono ?_); rintro e W6 ⟨rfl, h⟩; clear hS; have hS := Asd.mk h; clear h))
      go_wp2_with fail
      (go_at_call 16; ((with_reducible refine (gr_caps hS.out (by omega)).mono ?_); rintro e W7 ⟨A7, c7, rfl, hR, h⟩; clear hS; have hS := Asd.mk h; have HR := Asd.mk hR; clear h hR))
      go_wp2_with fail
      (go_at_call 23; ((with_reducible refine (gr_same hS.out HR.out (by omega)).mono ?_); rintro e W8 ⟨rfl, h⟩; clear hS HR; have hS := Asd.mk h; clear h))
      rw [hn5.out]
      go_wp2_with fail
      have HSn : Asd (m ≤ 16) := ⟨by omega⟩
      go_loopg [12] (m + 1) (fun kq v12 w' => ∃ p : Nat, v12 = .int .i64 (5 * (p : Int) - 5) ∧ Asd (p ≤ m ∧ kq = p + 1) ∧ Asd (GR w w' g x p l t (some ⟨B5, o5, none⟩) m c5 l))
      case atStart => exact ⟨m, by first | (congr 1; omega) | (congr 2; omega) | (simp; omega), ⟨by omega, by omega⟩, hS⟩
      case round =>
        obtain ⟨p, rfl, HJ, hS1⟩ := hrel
        clear hS ek kk1 kk2
        have hS := hS1
        clear hS1
        have p0 := HJ.out.1
        have gm : gk - 1 < gk := by have := HJ.out.2; omega
        rcases Nat.eq_zero_or_pos p with hp | hp
        · subst hp
          have z0 : (5 * ((0 : Nat) : Int) - 5) = -5 := by omega
          rw [z0]
          go_wp2_with fail
          (go_at_call 21; ((with_reducible refine (gr_many hS.out).mono ?_); rintro e w_ ⟨rfl, rfl⟩))
          go_wp2_with fail
          go_ret
          exact ⟨by simp, hS.out.1.2.2.2⟩
        obtain ⟨p, rfl⟩ : ∃ q, p = q + 1 := ⟨p - 1, by omega⟩
        obtain ⟨q, hq⟩ : ∃ q : Nat, Asd (q = p * 5) := ⟨_, ⟨rfl⟩⟩
        have q0 : q ≤ p * 5 := by have := hq.out; omega
        have q1 : p * 5 ≤ q := by have := hq.out; omega
        rw [show 5 * ((p + 1 : Nat) : Int) - 5 = (q : Int) by omega]
        have q2 : (0 : Int) ≤ (q : Int) := by omega
        have ew1 : wrap64 ((q : Int) + 1) = (q : Int) + 1 := by unfold wrap64; omega
        have en1 : ((q : Int) + 1).toNat = q + 1 := by omega
        have eb1 : (0 : Int) ≤ (q : Int) + 1 := by omega
        have ew2 : wrap64 ((q : Int) + 2) = (q : Int) + 2 := by unfold wrap64; omega
        have en2 : ((q : Int) + 2).toNat = q + 2 := by omega
        have eb2 : (0 : Int) ≤ (q : Int) + 2 := by omega
        have ew3 : wrap64 ((q : Int) + 3) = (q : Int) + 3 := by unfold wrap64; omega
        have en3 : ((q : Int) + 3).toNat = q + 3 := by omega
        have eb3 : (0 : Int) ≤ (q : Int) + 3 := by omega
        have ew4 : wrap64 ((q : Int) + 4) = (q : Int) + 4 := by unfold wrap64; omega
        have en4 : ((q : Int) + 4).toNat = q + 4 := by omega
        have eb4 : (0 : Int) ≤ (q : Int) + 4 := by omega
        have r0 : (q : Int) < (n5 : Int) := by omega
        have r1 : (q : Int) + 1 < (n5 : Int) := by omega
        have r2 : (q : Int) + 2 < (n5 : Int) := by omega
        have r3 : (q : Int) + 3 < (n5 : Int) := by omega
        have r4 : (q : Int) + 4 < (n5 : Int) := by omega
        go_wp2_with fail
        (go_at_call 14; ((with_reducible refine (gr_pop hS.out (by omega)).mono ?_); rintro e W9 ⟨rfl, h⟩; clear hS; have hS := Asd.mk h; clear h))
        obtain ⟨f, hf⟩ : ∃ f : Nat → CV, Asd (∀ t, l (q + t) = f t) := ⟨fun t => l (q + t), ⟨fun _ => rfl⟩⟩
        rw [show fa (fun i => l (p * 5 + i)) = fa f from fa_congr fun i _ => by rw [← hf.out, hq.out]]
        go_wp2_with (refine st32 rfl (.tmp 13) (.tmp 83) rfl W9.heap.size rfl f rfl (Blk.new W9 32 _) rfl ?_; intro W10 hb ht; have hG := Asd.mk hb; have hS2 := Asd.mk (hS.out.below (turn_fresh ht)); clear hb ht hS; have hS := hS2; clear hS2)
        generalize W9.heap.size = b13 at *
        have hr : ∀ t, t < 5 → ∀ i, i < 6 → W10.cell? ⟨B5, o5 + (q + t) * 6 + i, none⟩ = some ((f t).cell i) := fun t ht i hi => by rw [← hf.out]; exact row_six hS.out.2.2.1.row (by have := hn5.out; omega) i hi
        have HGr := Asd.mk hr
        clear hr
        have hn_0 := neq6s (f 0)
        have hn_1 := neq6s (f 1)
        have hn_2 := neq6s (f 2)
        have hn_3 := neq6s (f 3)
        have hn_4 := neq6s (f 4)
        refine start_ (n := 55) (S := fun w' => Blk w' b13 32 (fa f) ∧ (∀ t, t < 5 → ∀ i, i < 6 → w'.cell? ⟨B5, o5 + (q + t) * 6 + i, none⟩ = some ((f t).cell i))) (ds := []) #[false, false, false, false, false, false, false, false, false, false, false, false, false, false, false, false, false, false, false, false, false, false, false, false, false, false, false, false, false, false, false, false, false, false, false, false, false, false, false, false, false, false, false, false, false, false, false, false, false, false, false, false, false, false, false] (by kernel_rfl) rfl rfl ⟨hG.out, HGr.out⟩ (fun hHeld => ?_)
        refine pure_ (i := 0) (N := some 85) (v := ?_) (a' := ?_) #[true, false, false, false, false, false, false, false, false, false, false, false, false, false, false, false, false, false, false, false, false, false, false, false, false, false, false, false, false, false, false, false, false, false, false, false, false, false, false, false, false, false, false, false, false, false, false, false, false, false, false, false, false, false, false] rfl rfl (by kernel_rfl) (fun _ _ _ h => h) (Or.inl ⟨by rfl, ?_⟩) ?_ ?_
        rotate_left
        · intro w'
          go_simp
          with_reducible rfl
        rotate_left
        · simp only [Act.put, List.setIfInBounds_toArray, List.set_cons_zero, List.set_cons_succ, i64_w, i32_w]
          rfl
        refine pure_ (i := 1) (N := some 86) (v := ?_) (a' := ?_) #[true, true, false, false, false, false, false, false, false, false, false, false, false, false, false, false, false, false, false, false, false, false, false, false, false, false, false, false, false, false, false, false, false, false, false, false, false, false, false, false, false, false, false, false, false, false, false, false, false, false, false, false, false, false, false] rfl rfl (by kernel_rfl) (fun _ _ _ h => h) (Or.inl ⟨by rfl, ?_⟩) ?_ ?_
        rotate_left
        · intro w'
          go_simp
          with_reducible rfl
        rotate_left
        · simp only [Act.put, List.setIfInBounds_toArray, List.set_cons_zero, List.set_cons_succ, i64_w, i32_w]
          rfl
        refine pure_ (i := 2) (N := some 87) (v := ?_) (a' := ?_) #[true, true, true, false, false, false, false, false, false, false, false, false, false, false, false, false, false, false, false, false, false, false, false, false, false, false, false, false, false, false, false, false, false, false, false, false, false, false, false, false, false, false, false, false, false, false, false, false, false, false, false, false, false, false, false] rfl rfl (by kernel_rfl) (fun _ _ _ h => h) (Or.inl ⟨by rfl, ?_⟩) ?_ ?_
        rotate_left
        · intro w'
          go_simp
          with_reducible rfl
        rotate_left
        · simp only [Act.put, List.setIfInBounds_toArray, List.set_cons_zero, List.set_cons_succ, i64_w, i32_w]
          rfl
        refine pure_ (i := 3) (N := some 88) (v := ?_) (a' := ?_) #[true, true, true, true, false, false, false, false, false, false, false, false, false, false, false, false, false, false, false, false, false, false, false, false, false, false, false, false, false, false, false, false, false, false, false, false, false, false, false, false, false, false, false, false, false, false, false, false, false, false, false, false, false, false, false] rfl rfl (by kernel_rfl) (fun _ _ _ h => h) (Or.inl ⟨by rfl, ?_⟩) ?_ ?_
        rotate_left
        · intro w'
          go_simp
          with_reducible rfl
        rotate_left
        · simp only [Act.put, List.setIfInBounds_toArray, List.set_cons_zero, List.set_cons_succ, i64_w, i32_w]
          rfl
        refine pure_ (i := 5) (N := some 90) (v := ?_) (a' := ?_) #[true, true, true, true, false, true, false, false, false, false, false, false, false, false, false, false, false, false, false, false, false, false, false, false, false, false, false, false, false, false, false, false, false, false, false, false, false, false, false, false, false, false, false, false, false, false, false, false, false, false, false, false, false, false, false] rfl rfl (by kernel_rfl) (fun _ _ _ h => h) (Or.inl ⟨by rfl, ?_⟩) ?_ ?_
        rotate_left
        · intro w'
          go_simp
          with_reducible rfl
        rotate_left
        · simp only [Act.put, List.setIfInBounds_toArray, List.set_cons_zero, List.set_cons_succ, i64_w, i32_w]
          rfl
        refine pure_ (i := 6) (N := some 91) (v := ?_) (a' := ?_) #[true, true, true, true, false, true, true, false, false, false, false, false, false, false, false, false, false, false, false, false, false, false, false, false, false, false, false, false, false, false, false, false, false, false, false, false, false, false, false, false, false, false, false, false, false, false, false, false, false, false, false, false, false, false, false] rfl rfl (by kernel_rfl) (fun _ _ _ h => h) (Or.inl ⟨by rfl, ?_⟩) ?_ ?_
        rotate_left
        · intro w'
          go_simp
          with_reducible rfl
        rotate_left
        · simp only [Act.put, List.setIfInBounds_toArray, List.set_cons_zero, List.set_cons_succ, i64_w, i32_w]
          rfl
        refine pure_ (i := 7) (N := some 92) (v := ?_) (a' := ?_) #[true, true, true, true, false, true, true, true, false, false, false, false, false, false, false, false, false, false, false, false, false, false, false, false, false, false, false, false, false, false, false, false, false, false, false, false, false, false, false, false, false, false, false, false, false, false, false, false, false, false, false, false, false, false, false] rfl rfl (by kernel_rfl) (fun _ _ _ h => h) (Or.inl ⟨by rfl, ?_⟩) ?_ ?_
        rotate_left
        · intro w'
          go_simp
          with_reducible rfl
        rotate_left
        · simp only [Act.put, List.setIfInBounds_toArray, List.set_cons_zero, List.set_cons_succ, i64_w, i32_w]
          rfl
        refine take_ (i := 4) (N := some 89) (v := ?_) (a' := ?_) #[true, true, true, true, true, true, true, true, false, false, false, false, false, false, false, false, false, false, false, false, false, false, false, false, false, false, false, false, false, false, false, false, false, false, false, false, false, false, false, false, false, false, false, false, false, false, false, false, false, false, false, false, false, false, false] rfl rfl (by kernel_rfl) (fun _ _ _ h => h) (Or.inl ⟨by rfl, ?_⟩) hHeld ?_ ?_
        rotate_left
        · rintro w' ⟨s0, s1⟩
          refine ld29x_run (.tmp 88) ?_ b13 (0 * 6) ?_ (f 0) (fun i hi => box_six s0 0 (by omega) i hi) <;> rfl
        rotate_left
        · simp only [Act.put, List.setIfInBounds_toArray, List.set_cons_zero, List.set_cons_succ, i64_w, i32_w]
          rfl
        refine take_ (i := 8) (N := some 93) (v := ?_) (a' := ?_) #[true, true, true, true, true, true, true, true, true, false, false, false, false, false, false, false, false, false, false, false, false, false, false, false, false, false, false, false, false, false, false, false, false, false, false, false, false, false, false, false, false, false, false, false, false, false, false, false, false, false, false, false, false, false, false] rfl rfl (by kernel_rfl) (fun _ _ _ h => h) (Or.inl ⟨by rfl, ?_⟩) hHeld ?_ ?_
        rotate_left
        · rintro w' ⟨s0, s1⟩
          refine ld29x_run (.tmp 92) ?_ B5 (o5 + q * 6) ?_ (f 0) (fun i hi => s1 0 (by omega) i hi) <;> rfl
        rotate_left
        · simp only [Act.put, List.setIfInBounds_toArray, List.set_cons_zero, List.set_cons_succ, i64_w, i32_w]
          rfl
        refine pure_ (i := 9) (N := some 94) (v := ?_) (a' := ?_) #[true, true, true, true, true, true, true, true, true, true, false, false, false, false, false, false, false, false, false, false, false, false, false, false, false, false, false, false, false, false, false, false, false, false, false, false, false, false, false, false, false, false, false, false, false, false, false, false, false, false, false, false, false, false, false] rfl rfl (by kernel_rfl) (fun _ _ _ h => h) (Or.inl ⟨by rfl, ?_⟩) ?_ ?_
        rotate_left
        · intro w'
          go_simp
          with_reducible rfl
        rotate_left
        · simp only [Act.put, List.setIfInBounds_toArray, List.set_cons_zero, List.set_cons_succ, i64_w, i32_w]
          rfl
        refine pure_ (i := 10) (N := some 95) (v := ?_) (a' := ?_) #[true, true, true, true, true, true, true, true, true, true, true, false, false, false, false, false, false, false, false, false, false, false, false, false, false, false, false, false, false, false, false, false, false, false, false, false, false, false, false, false, false, false, false, false, false, false, false, false, false, false, false, false, false, false, false] rfl rfl (by kernel_rfl) (fun _ _ _ h => h) (Or.inl ⟨by rfl, ?_⟩) ?_ ?_
        rotate_left
        · intro w'
          go_simp
          with_reducible rfl
        rotate_left
        · simp only [Act.put, List.setIfInBounds_toArray, List.set_cons_zero, List.set_cons_succ, i64_w, i32_w]
          rfl
        refine pure_ (i := 11) (N := some 96) (v := ?_) (a' := ?_) #[true, true, true, true, true, true, true, true, true, true, true, true, false, false, false, false, false, false, false, false, false, false, false, false, false, false, false, false, false, false, false, false, false, false, false, false, false, false, false, false, false, false, false, false, false, false, false, false, false, false, false, false, false, false, false] rfl rfl (by kernel_rfl) (fun _ _ _ h => h) (Or.inl ⟨by rfl, ?_⟩) ?_ ?_
        rotate_left
        · intro w'
          go_simp
          with_reducible rfl
        rotate_left
        · simp only [Act.put, List.setIfInBounds_toArray, List.set_cons_zero, List.set_cons_succ, i64_w, i32_w]
          rfl
        refine pure_ (i := 12) (N := some 97) (v := ?_) (a' := ?_) #[true, true, true, true, true, true, true, true, true, true, true, true, true, false, false, false, false, false, false, false, false, false, false, false, false, false, false, false, false, false, false, false, false, false, false, false, false, false, false, false, false, false, false, false, false, false, false, false, false, false, false, false, false, false, false] rfl rfl (by kernel_rfl) (fun _ _ _ h => h) (Or.inl ⟨by rfl, ?_⟩) ?_ ?_
        rotate_left
        · intro w'
          go_simp
          with_reducible rfl
        rotate_left
        · simp only [Act.put, List.setIfInBounds_toArray, List.set_cons_zero, List.set_cons_succ, i64_w, i32_w]
          rfl
        refine pure_ (i := 13) (N := some 98) (v := ?_) (a' := ?_) #[true, true, true, true, true, true, true, true, true, true, true, true, true, true, false, false, false, false, false, false, false, false, false, false, false, false, false, false, false, false, false, false, false, false, false, false, false, false, false, false, false, false, false, false, false, false, false, false, false, false, false, false, false, false, false] rfl rfl (by kernel_rfl) (fun _ _ _ h => h) (Or.inl ⟨by rfl, ?_⟩) ?_ ?_
        rotate_left
        · intro w'
          go_simp
          with_reducible rfl
        rotate_left
        · simp only [Act.put, List.setIfInBounds_toArray, List.set_cons_zero, List.set_cons_succ, i64_w, i32_w]
          rfl
        refine pure_ (i := 15) (N := some 100) (v := ?_) (a' := ?_) #[true, true, true, true, true, true, true, true, true, true, true, true, true, true, false, true, false, false, false, false, false, false, false, false, false, false, false, false, false, false, false, false, false, false, false, false, false, false, false, false, false, false, false, false, false, false, false, false, false, false, false, false, false, false, false] rfl rfl (by kernel_rfl) (fun _ _ _ h => h) (Or.inl ⟨by rfl, ?_⟩) ?_ ?_
        rotate_left
        · intro w'
          go_simp
          with_reducible rfl
        rotate_left
        · simp only [Act.put, List.setIfInBounds_toArray, List.set_cons_zero, List.set_cons_succ, i64_w, i32_w]
          rfl
        refine pure_ (i := 16) (N := some 101) (v := ?_) (a' := ?_) #[true, true, true, true, true, true, true, true, true, true, true, true, true, true, false, true, true, false, false, false, false, false, false, false, false, false, false, false, false, false, false, false, false, false, false, false, false, false, false, false, false, false, false, false, false, false, false, false, false, false, false, false, false, false, false] rfl rfl (by kernel_rfl) (fun _ _ _ h => h) (Or.inl ⟨by rfl, ?_⟩) ?_ ?_
        rotate_left
        · intro w'
          go_simp
          with_reducible rfl
        rotate_left
        · simp only [Act.put, List.setIfInBounds_toArray, List.set_cons_zero, List.set_cons_succ, i64_w, i32_w]
          rfl
        refine pure_ (i := 17) (N := some 102) (v := ?_) (a' := ?_) #[true, true, true, true, true, true, true, true, true, true, true, true, true, true, false, true, true, true, false, false, false, false, false, false, false, false, false, false, false, false, false, false, false, false, false, false, false, false, false, false, false, false, false, false, false, false, false, false, false, false, false, false, false, false, false] rfl rfl (by kernel_rfl) (fun _ _ _ h => h) (Or.inl ⟨by rfl, ?_⟩) ?_ ?_
        rotate_left
        · intro w'
          go_simp
          with_reducible rfl
        rotate_left
        · simp only [Act.put, List.setIfInBounds_toArray, List.set_cons_zero, List.set_cons_succ, i64_w, i32_w]
          rfl
        refine pure_ (i := 18) (N := some 103) (v := ?_) (a' := ?_) #[true, true, true, true, true, true, true, true, true, true, true, true, true, true, false, true, true, true, true, false, false, false, false, false, false, false, false, false, false, false, false, false, false, false, false, false, false, false, false, false, false, false, false, false, false, false, false, false, false, false, false, false, false, false, false] rfl rfl (by kernel_rfl) (fun _ _ _ h => h) (Or.inl ⟨by rfl, ?_⟩) ?_ ?_
        rotate_left
        · intro w'
          go_simp
          with_reducible rfl
        rotate_left
        · simp only [Act.put, List.setIfInBounds_toArray, List.set_cons_zero, List.set_cons_succ, i64_w, i32_w]
          rfl
        refine take_ (i := 14) (N := some 99) (v := ?_) (a' := ?_) #[true, true, true, true, true, true, true, true, true, true, true, true, true, true, true, true, true, true, true, false, false, false, false, false, false, false, false, false, false, false, false, false, false, false, false, false, false, false, false, false, false, false, false, false, false, false, false, false, false, false, false, false, false, false, false] rfl rfl (by kernel_rfl) (fun _ _ _ h => h) (Or.inl ⟨by rfl, ?_⟩) hHeld ?_ ?_
        rotate_left
        · rintro w' ⟨s0, s1⟩
          refine ld29x_run (.tmp 98) ?_ b13 (1 * 6) ?_ (f 1) (fun i hi => box_six s0 1 (by omega) i hi) <;> rfl
        rotate_left
        · simp only [Act.put, List.setIfInBounds_toArray, List.set_cons_zero, List.set_cons_succ, i64_w, i32_w]
          rfl
        refine take_ (i := 19) (N := some 104) (v := ?_) (a' := ?_) #[true, true, true, true, true, true, true, true, true, true, true, true, true, true, true, true, true, true, true, true, false, false, false, false, false, false, false, false, false, false, false, false, false, false, false, false, false, false, false, false, false, false, false, false, false, false, false, false, false, false, false, false, false, false, false] rfl rfl (by kernel_rfl) (fun _ _ _ h => h) (Or.inl ⟨by rfl, ?_⟩) hHeld ?_ ?_
        rotate_left
        · rintro w' ⟨s0, s1⟩
          refine ld29x_run (.tmp 103) ?_ B5 (o5 + (q + 1) * 6) ?_ (f 1) (fun i hi => s1 1 (by omega) i hi) <;> rfl
        rotate_left
        · simp only [Act.put, List.setIfInBounds_toArray, List.set_cons_zero, List.set_cons_succ, i64_w, i32_w]
          rfl
        refine pure_ (i := 20) (N := some 105) (v := ?_) (a' := ?_) #[true, true, true, true, true, true, true, true, true, true, true, true, true, true, true, true, true, true, true, true, true, false, false, false, false, false, false, false, false, false, false, false, false, false, false, false, false, false, false, false, false, false, false, false, false, false, false, false, false, false, false, false, false, false, false] rfl rfl (by kernel_rfl) (fun _ _ _ h => h) (Or.inl ⟨by rfl, ?_⟩) ?_ ?_
        rotate_left
        · intro w'
          go_simp
          with_reducible rfl
        rotate_left
        · simp only [Act.put, List.setIfInBounds_toArray, List.set_cons_zero, List.set_cons_succ, i64_w, i32_w]
          rfl
        refine pure_ (i := 21) (N := some 106) (v := ?_) (a' := ?_) #[true, true, true, true, true, true, true, true, true, true, true, true, true, true, true, true, true, true, true, true, true, true, false, false, false, false, false, false, false, false, false, false, false, false, false, false, false, false, false, false, false, false, false, false, false, false, false, false, false, false, false, false, false, false, false] rfl rfl (by kernel_rfl) (fun _ _ _ h => h) (Or.inl ⟨by rfl, ?_⟩) ?_ ?_
        rotate_left
        · intro w'
          go_simp
          with_reducible rfl
        rotate_left
        · simp only [Act.put, List.setIfInBounds_toArray, List.set_cons_zero, List.set_cons_succ, i64_w, i32_w]
          rfl
        refine pure_ (i := 22) (N := some 107) (v := ?_) (a' := ?_) #[true, true, true, true, true, true, true, true, true, true, true, true, true, true, true, true, true, true, true, true, true, true, true, false, false, false, false, false, false, false, false, false, false, false, false, false, false, false, false, false, false, false, false, false, false, false, false, false, false, false, false, false, false, false, false] rfl rfl (by kernel_rfl) (fun _ _ _ h => h) (Or.inl ⟨by rfl, ?_⟩) ?_ ?_
        rotate_left
        · intro w'
          go_simp
          with_reducible rfl
        rotate_left
        · simp only [Act.put, List.setIfInBounds_toArray, List.set_cons_zero, List.set_cons_succ, i64_w, i32_w]
          rfl
        refine pure_ (i := 23) (N := some 108) (v := ?_) (a' := ?_) #[true, true, true, true, true, true, true, true, true, true, true, true, true, true, true, true, true, true, true, true, true, true, true, true, false, false, false, false, false, false, false, false, false, false, false, false, false, false, false, false, false, false, false, false, false, false, false, false, false, false, false, false, false, false, false] rfl rfl (by kernel_rfl) (fun _ _ _ h => h) (Or.inl ⟨by rfl, ?_⟩) ?_ ?_
        rotate_left
        · intro w'
          go_simp
          with_reducible rfl
        rotate_left
        · simp only [Act.put, List.setIfInBounds_toArray, List.set_cons_zero, List.set_cons_succ, i64_w, i32_w]
          rfl
        refine pure_ (i := 24) (N := some 109) (v := ?_) (a' := ?_) #[true, true, true, true, true, true, true, true, true, true, true, true, true, true, true, true, true, true, true, true, true, true, true, true, true, false, false, false, false, false, false, false, false, false, false, false, false, false, false, false, false, false, false, false, false, false, false, false, false, false, false, false, false, false, false] rfl rfl (by kernel_rfl) (fun _ _ _ h => h) (Or.inl ⟨by rfl, ?_⟩) ?_ ?_
        rotate_left
        · intro w'
          go_simp
          with_reducible rfl
        rotate_left
        · simp only [Act.put, List.setIfInBounds_toArray, List.set_cons_zero, List.set_cons_succ, i64_w, i32_w]
          rfl
        refine pure_ (i := 26) (N := some 111) (v := ?_) (a' := ?_) #[true, true, true, true, true, true, true, true, true, true, true, true, true, true, true, true, true, true, true, true, true, true, true, true, true, false, true, false, false, false, false, false, false, false, false, false, false, false, false, false, false, false, false, false, false, false, false, false, false, false, false, false, false, false, false] rfl rfl (by kernel_rfl) (fun _ _ _ h => h) (Or.inl ⟨by rfl, ?_⟩) ?_ ?_
        rotate_left
        · intro w'
          go_simp
          with_reducible rfl
        rotate_left
        · simp only [Act.put, List.setIfInBounds_toArray, List.set_cons_zero, List.set_cons_succ, i64_w, i32_w]
          rfl
        refine pure_ (i := 27) (N := some 112) (v := ?_) (a' := ?_) #[true, true, true, true, true, true, true, true, true, true, true, true, true, true, true, true, true, true, true, true, true, true, true, true, true, false, true, true, false, false, false, false, false, false, false, false, false, false, false, false, false, false, false, false, false, false, false, false, false, false, false, false, false, false, false] rfl rfl (by kernel_rfl) (fun _ _ _ h => h) (Or.inl ⟨by rfl, ?_⟩) ?_ ?_
        rotate_left
        · intro w'
          go_simp
          with_reducible rfl
        rotate_left
        · simp only [Act.put, List.setIfInBounds_toArray, List.set_cons_zero, List.set_cons_succ, i64_w, i32_w]
          rfl
        refine pure_ (i := 28) (N := some 113) (v := ?_) (a' := ?_) #[true, true, true, true, true, true, true, true, true, true, true, true, true, true, true, true, true, true, true, true, true, true, true, true, true, false, true, true, true, false, false, false, false, false, false, false, false, false, false, false, false, false, false, false, false, false, false, false, false, false, false, false, false, false, false] rfl rfl (by kernel_rfl) (fun _ _ _ h => h) (Or.inl ⟨by rfl, ?_⟩) ?_ ?_
        rotate_left
        · intro w'
          go_simp
          with_reducible rfl
        rotate_left
        · simp only [Act.put, List.setIfInBounds_toArray, List.set_cons_zero, List.set_cons_succ, i64_w, i32_w]
          rfl
        refine pure_ (i := 29) (N := some 114) (v := ?_) (a' := ?_) #[true, true, true, true, true, true, true, true, true, true, true, true, true, true, true, true, true, true, true, true, true, true, true, true, true, false, true, true, true, true, false, false, false, false, false, false, false, false, false, false, false, false, false, false, false, false, false, false, false, false, false, false, false, false, false] rfl rfl (by kernel_rfl) (fun _ _ _ h => h) (Or.inl ⟨by rfl, ?_⟩) ?_ ?_
        rotate_left
        · intro w'
          go_simp
          with_reducible rfl
        rotate_left
        · simp only [Act.put, List.setIfInBounds_toArray, List.set_cons_zero, List.set_cons_succ, i64_w, i32_w]
          rfl
        refine take_ (i := 25) (N := some 110) (v := ?_) (a' := ?_) #[true, true, true, true, true, true, true, true, true, true, true, true, true, true, true, true, true, true, true, true, true, true, true, true, true, true, true, true, true, true, false, false, false, false, false, false, false, false, false, false, false, false, false, false, false, false, false, false, false, false, false, false, false, false, false] rfl rfl (by kernel_rfl) (fun _ _ _ h => h) (Or.inl ⟨by rfl, ?_⟩) hHeld ?_ ?_
        rotate_left
        · rintro w' ⟨s0, s1⟩
          refine ld29x_run (.tmp 109) ?_ b13 (2 * 6) ?_ (f 2) (fun i hi => box_six s0 2 (by omega) i hi) <;> rfl
        rotate_left
        · simp only [Act.put, List.setIfInBounds_toArray, List.set_cons_zero, List.set_cons_succ, i64_w, i32_w]
          rfl
        refine take_ (i := 30) (N := some 115) (v := ?_) (a' := ?_) #[true, true, true, true, true, true, true, true, true, true, true, true, true, true, true, true, true, true, true, true, true, true, true, true, true, true, true, true, true, true, true, false, false, false, false, false, false, false, false, false, false, false, false, false, false, false, false, false, false, false, false, false, false, false, false] rfl rfl (by kernel_rfl) (fun _ _ _ h => h) (Or.inl ⟨by rfl, ?_⟩) hHeld ?_ ?_
        rotate_left
        · rintro w' ⟨s0, s1⟩
          refine ld29x_run (.tmp 114) ?_ B5 (o5 + (q + 2) * 6) ?_ (f 2) (fun i hi => s1 2 (by omega) i hi) <;> rfl
        rotate_left
        · simp only [Act.put, List.setIfInBounds_toArray, List.set_cons_zero, List.set_cons_succ, i64_w, i32_w]
          rfl
        refine pure_ (i := 31) (N := some 116) (v := ?_) (a' := ?_) #[true, true, true, true, true, true, true, true, true, true, true, true, true, true, true, true, true, true, true, true, true, true, true, true, true, true, true, true, true, true, true, true, false, false, false, false, false, false, false, false, false, false, false, false, false, false, false, false, false, false, false, false, false, false, false] rfl rfl (by kernel_rfl) (fun _ _ _ h => h) (Or.inl ⟨by rfl, ?_⟩) ?_ ?_
        rotate_left
        · intro w'
          go_simp
          with_reducible rfl
        rotate_left
        · simp only [Act.put, List.setIfInBounds_toArray, List.set_cons_zero, List.set_cons_succ, i64_w, i32_w]
          rfl
        refine pure_ (i := 32) (N := some 117) (v := ?_) (a' := ?_) #[true, true, true, true, true, true, true, true, true, true, true, true, true, true, true, true, true, true, true, true, true, true, true, true, true, true, true, true, true, true, true, true, true, false, false, false, false, false, false, false, false, false, false, false, false, false, false, false, false, false, false, false, false, false, false] rfl rfl (by kernel_rfl) (fun _ _ _ h => h) (Or.inl ⟨by rfl, ?_⟩) ?_ ?_
        rotate_left
        · intro w'
          go_simp
          with_reducible rfl
        rotate_left
        · simp only [Act.put, List.setIfInBounds_toArray, List.set_cons_zero, List.set_cons_succ, i64_w, i32_w]
          rfl
        refine pure_ (i := 33) (N := some 118) (v := ?_) (a' := ?_) #[true, true, true, true, true, true, true, true, true, true, true, true, true, true, true, true, true, true, true, true, true, true, true, true, true, true, true, true, true, true, true, true, true, true, false, false, false, false, false, false, false, false, false, false, false, false, false, false, false, false, false, false, false, false, false] rfl rfl (by kernel_rfl) (fun _ _ _ h => h) (Or.inl ⟨by rfl, ?_⟩) ?_ ?_
        rotate_left
        · intro w'
          go_simp
          with_reducible rfl
        rotate_left
        · simp only [Act.put, List.setIfInBounds_toArray, List.set_cons_zero, List.set_cons_succ, i64_w, i32_w]
          rfl
        refine pure_ (i := 34) (N := some 119) (v := ?_) (a' := ?_) #[true, true, true, true, true, true, true, true, true, true, true, true, true, true, true, true, true, true, true, true, true, true, true, true, true, true, true, true, true, true, true, true, true, true, true, false, false, false, false, false, false, false, false, false, false, false, false, false, false, false, false, false, false, false, false] rfl rfl (by kernel_rfl) (fun _ _ _ h => h) (Or.inl ⟨by rfl, ?_⟩) ?_ ?_
        rotate_left
        · intro w'
          go_simp
          with_reducible rfl
        rotate_left
        · simp only [Act.put, List.setIfInBounds_toArray, List.set_cons_zero, List.set_cons_succ, i64_w, i32_w]
          rfl
        refine pure_ (i := 35) (N := some 120) (v := ?_) (a' := ?_) #[true, true, true, true, true, true, true, true, true, true, true, true, true, true, true, true, true, true, true, true, true, true, true, true, true, true, true, true, true, true, true, true, true, true, true, true, false, false, false, false, false, false, false, false, false, false, false, false, false, false, false, false, false, false, false] rfl rfl (by kernel_rfl) (fun _ _ _ h => h) (Or.inl ⟨by rfl, ?_⟩) ?_ ?_
        rotate_left
        · intro w'
          go_simp
          with_reducible rfl
        rotate_left
        · simp only [Act.put, List.setIfInBounds_toArray, List.set_cons_zero, List.set_cons_succ, i64_w, i32_w]
          rfl
        refine pure_ (i := 37) (N := some 122) (v := ?_) (a' := ?_) #[true, true, true, true, true, true, true, true, true, true, true, true, true, true, true, true, true, true, true, true, true, true, true, true, true, true, true, true, true, true, true, true, true, true, true, true, false, true, false, false, false, false, false, false, false, false, false, false, false, false, false, false, false, false, false] rfl rfl (by kernel_rfl) (fun _ _ _ h => h) (Or.inl ⟨by rfl, ?_⟩) ?_ ?_
        rotate_left
        · intro w'
          go_simp
          with_reducible rfl
        rotate_left
        · simp only [Act.put, List.setIfInBounds_toArray, List.set_cons_zero, List.set_cons_succ, i64_w, i32_w]
          rfl
        refine pure_ (i := 38) (N := some 123) (v := ?_) (a' := ?_) #[true, true, true, true, true, true, true, true, true, true, true, true, true, true, true, true, true, true, true, true, true, true, true, true, true, true, true, true, true, true, true, true, true, true, true, true, false, true, true, false, false, false, false, false, false, false, false, false, false, false, false, false, false, false, false] rfl rfl (by kernel_rfl) (fun _ _ _ h => h) (Or.inl ⟨by rfl, ?_⟩) ?_ ?_
        rotate_left
        · intro w'
          go_simp
          with_reducible rfl
        rotate_left
        · simp only [Act.put, List.setIfInBounds_toArray, List.set_cons_zero, List.set_cons_succ, i64_w, i32_w]
          rfl
        refine pure_ (i := 39) (N := some 124) (v := ?_) (a' := ?_) #[true, true, true, true, true, true, true, true, true, true, true, true, true, true, true, true, true, true, true, true, true, true, true, true, true, true, true, true, true, true, true, true, true, true, true, true, false, true, true, true, false, false, false, false, false, false, false, false, false, false, false, false, false, false, false] rfl rfl (by kernel_rfl) (fun _ _ _ h => h) (Or.inl ⟨by rfl, ?_⟩) ?_ ?_
        rotate_left
        · intro w'
          go_simp
          with_reducible rfl
        rotate_left
        · simp only [Act.put, List.setIfInBounds_toArray, List.set_cons_zero, List.set_cons_succ, i64_w, i32_w]
          rfl
        refine pure_ (i := 40) (N := some 125) (v := ?_) (a' := ?_) #[true, true, true, true, true, true, true, true, true, true, true, true, true, true, true, true, true, true, true, true, true, true, true, true, true, true, true, true, true, true, true, true, true, true, true, true, false, true, true, true, true, false, false, false, false, false, false, false, false, false, false, false, false, false, false] rfl rfl (by kernel_rfl) (fun _ _ _ h => h) (Or.inl ⟨by rfl, ?_⟩) ?_ ?_
        rotate_left
        · intro w'
          go_simp
          with_reducible rfl
        rotate_left
        · simp only [Act.put, List.setIfInBounds_toArray, List.set_cons_zero, List.set_cons_succ, i64_w, i32_w]
          rfl
        refine take_ (i := 36) (N := some 121) (v := ?_) (a' := ?_) #[true, true, true, true, true, true, true, true, true, true, true, true, true, true, true, true, true, true, true, true, true, true, true, true, true, true, true, true, true, true, true, true, true, true, true, true, true, true, true, true, true, false, false, false, false, false, false, false, false, false, false, false, false, false, false] rfl rfl (by kernel_rfl) (fun _ _ _ h => h) (Or.inl ⟨by rfl, ?_⟩) hHeld ?_ ?_
        rotate_left
        · rintro w' ⟨s0, s1⟩
          refine ld29x_run (.tmp 120) ?_ b13 (3 * 6) ?_ (f 3) (fun i hi => box_six s0 3 (by omega) i hi) <;> rfl
        rotate_left
        · simp only [Act.put, List.setIfInBounds_toArray, List.set_cons_zero, List.set_cons_succ, i64_w, i32_w]
          rfl
        refine take_ (i := 41) (N := some 126) (v := ?_) (a' := ?_) #[true, true, true, true, true, true, true, true, true, true, true, true, true, true, true, true, true, true, true, true, true, true, true, true, true, true, true, true, true, true, true, true, true, true, true, true, true, true, true, true, true, true, false, false, false, false, false, false, false, false, false, false, false, false, false] rfl rfl (by kernel_rfl) (fun _ _ _ h => h) (Or.inl ⟨by rfl, ?_⟩) hHeld ?_ ?_
        rotate_left
        · rintro w' ⟨s0, s1⟩
          refine ld29x_run (.tmp 125) ?_ B5 (o5 + (q + 3) * 6) ?_ (f 3) (fun i hi => s1 3 (by omega) i hi) <;> rfl
        rotate_left
        · simp only [Act.put, List.setIfInBounds_toArray, List.set_cons_zero, List.set_cons_succ, i64_w, i32_w]
          rfl
        refine pure_ (i := 42) (N := some 127) (v := ?_) (a' := ?_) #[true, true, true, true, true, true, true, true, true, true, true, true, true, true, true, true, true, true, true, true, true, true, true, true, true, true, true, true, true, true, true, true, true, true, true, true, true, true, true, true, true, true, true, false, false, false, false, false, false, false, false, false, false, false, false] rfl rfl (by kernel_rfl) (fun _ _ _ h => h) (Or.inl ⟨by rfl, ?_⟩) ?_ ?_
        rotate_left
        · intro w'
          go_simp
          with_reducible rfl
        rotate_left
        · simp only [Act.put, List.setIfInBounds_toArray, List.set_cons_zero, List.set_cons_succ, i64_w, i32_w]
          rfl
        refine pure_ (i := 43) (N := some 128) (v := ?_) (a' := ?_) #[true, true, true, true, true, true, true, true, true, true, true, true, true, true, true, true, true, true, true, true, true, true, true, true, true, true, true, true, true, true, true, true, true, true, true, true, true, true, true, true, true, true, true, true, false, false, false, false, false, false, false, false, false, false, false] rfl rfl (by kernel_rfl) (fun _ _ _ h => h) (Or.inl ⟨by rfl, ?_⟩) ?_ ?_
        rotate_left
        · intro w'
          go_simp
          with_reducible rfl
        rotate_left
        · simp only [Act.put, List.setIfInBounds_toArray, List.set_cons_zero, List.set_cons_succ, i64_w, i32_w]
          rfl
        refine pure_ (i := 44) (N := some 129) (v := ?_) (a' := ?_) #[true, true, true, true, true, true, true, true, true, true, true, true, true, true, true, true, true, true, true, true, true, true, true, true, true, true, true, true, true, true, true, true, true, true, true, true, true, true, true, true, true, true, true, true, true, false, false, false, false, false, false, false, false, false, false] rfl rfl (by kernel_rfl) (fun _ _ _ h => h) (Or.inl ⟨by rfl, ?_⟩) ?_ ?_
        rotate_left
        · intro w'
          go_simp
          with_reducible rfl
        rotate_left
        · simp only [Act.put, List.setIfInBounds_toArray, List.set_cons_zero, List.set_cons_succ, i64_w, i32_w]
          rfl
        refine pure_ (i := 45) (N := some 130) (v := ?_) (a' := ?_) #[true, true, true, true, true, true, true, true, true, true, true, true, true, true, true, true, true, true, true, true, true, true, true, true, true, true, true, true, true, true, true, true, true, true, true, true, true, true, true, true, true, true, true, true, true, true, false, false, false, false, false, false, false, false, false] rfl rfl (by kernel_rfl) (fun _ _ _ h => h) (Or.inl ⟨by rfl, ?_⟩) ?_ ?_
        rotate_left
        · intro w'
          go_simp
          with_reducible rfl
        rotate_left
        · simp only [Act.put, List.setIfInBounds_toArray, List.set_cons_zero, List.set_cons_succ, i64_w, i32_w]
          rfl
        refine pure_ (i := 46) (N := some 131) (v := ?_) (a' := ?_) #[true, true, true, true, true, true, true, true, true, true, true, true, true, true, true, true, true, true, true, true, true, true, true, true, true, true, true, true, true, true, true, true, true, true, true, true, true, true, true, true, true, true, true, true, true, true, true, false, false, false, false, false, false, false, false] rfl rfl (by kernel_rfl) (fun _ _ _ h => h) (Or.inl ⟨by rfl, ?_⟩) ?_ ?_
        rotate_left
        · intro w'
          go_simp
          with_reducible rfl
        rotate_left
        · simp only [Act.put, List.setIfInBounds_toArray, List.set_cons_zero, List.set_cons_succ, i64_w, i32_w]
          rfl
        refine pure_ (i := 48) (N := some 133) (v := ?_) (a' := ?_) #[true, true, true, true, true, true, true, true, true, true, true, true, true, true, true, true, true, true, true, true, true, true, true, true, true, true, true, true, true, true, true, true, true, true, true, true, true, true, true, true, true, true, true, true, true, true, true, false, true, false, false, false, false, false, false] rfl rfl (by kernel_rfl) (fun _ _ _ h => h) (Or.inl ⟨by rfl, ?_⟩) ?_ ?_
        rotate_left
        · intro w'
          go_simp
          with_reducible rfl
        rotate_left
        · simp only [Act.put, List.setIfInBounds_toArray, List.set_cons_zero, List.set_cons_succ, i64_w, i32_w]
          rfl
        refine pure_ (i := 49) (N := some 134) (v := ?_) (a' := ?_) #[true, true, true, true, true, true, true, true, true, true, true, true, true, true, true, true, true, true, true, true, true, true, true, true, true, true, true, true, true, true, true, true, true, true, true, true, true, true, true, true, true, true, true, true, true, true, true, false, true, true, false, false, false, false, false] rfl rfl (by kernel_rfl) (fun _ _ _ h => h) (Or.inl ⟨by rfl, ?_⟩) ?_ ?_
        rotate_left
        · intro w'
          go_simp
          with_reducible rfl
        rotate_left
        · simp only [Act.put, List.setIfInBounds_toArray, List.set_cons_zero, List.set_cons_succ, i64_w, i32_w]
          rfl
        refine pure_ (i := 50) (N := some 135) (v := ?_) (a' := ?_) #[true, true, true, true, true, true, true, true, true, true, true, true, true, true, true, true, true, true, true, true, true, true, true, true, true, true, true, true, true, true, true, true, true, true, true, true, true, true, true, true, true, true, true, true, true, true, true, false, true, true, true, false, false, false, false] rfl rfl (by kernel_rfl) (fun _ _ _ h => h) (Or.inl ⟨by rfl, ?_⟩) ?_ ?_
        rotate_left
        · intro w'
          go_simp
          with_reducible rfl
        rotate_left
        · simp only [Act.put, List.setIfInBounds_toArray, List.set_cons_zero, List.set_cons_succ, i64_w, i32_w]
          rfl
        refine pure_ (i := 51) (N := some 136) (v := ?_) (a' := ?_) #[true, true, true, true, true, true, true, true, true, true, true, true, true, true, true, true, true, true, true, true, true, true, true, true, true, true, true, true, true, true, true, true, true, true, true, true, true, true, true, true, true, true, true, true, true, true, true, false, true, true, true, true, false, false, false] rfl rfl (by kernel_rfl) (fun _ _ _ h => h) (Or.inl ⟨by rfl, ?_⟩) ?_ ?_
        rotate_left
        · intro w'
          go_simp
          with_reducible rfl
        rotate_left
        · simp only [Act.put, List.setIfInBounds_toArray, List.set_cons_zero, List.set_cons_succ, i64_w, i32_w]
          rfl
        refine take_ (i := 47) (N := some 132) (v := ?_) (a' := ?_) #[true, true, true, true, true, true, true, true, true, true, true, true, true, true, true, true, true, true, true, true, true, true, true, true, true, true, true, true, true, true, true, true, true, true, true, true, true, true, true, true, true, true, true, true, true, true, true, true, true, true, true, true, false, false, false] rfl rfl (by kernel_rfl) (fun _ _ _ h => h) (Or.inl ⟨by rfl, ?_⟩) hHeld ?_ ?_
        rotate_left
        · rintro w' ⟨s0, s1⟩
          refine ld29x_run (.tmp 131) ?_ b13 (4 * 6) ?_ (f 4) (fun i hi => box_six s0 4 (by omega) i hi) <;> rfl
        rotate_left
        · simp only [Act.put, List.setIfInBounds_toArray, List.set_cons_zero, List.set_cons_succ, i64_w, i32_w]
          rfl
        refine take_ (i := 52) (N := some 137) (v := ?_) (a' := ?_) #[true, true, true, true, true, true, true, true, true, true, true, true, true, true, true, true, true, true, true, true, true, true, true, true, true, true, true, true, true, true, true, true, true, true, true, true, true, true, true, true, true, true, true, true, true, true, true, true, true, true, true, true, true, false, false] rfl rfl (by kernel_rfl) (fun _ _ _ h => h) (Or.inl ⟨by rfl, ?_⟩) hHeld ?_ ?_
        rotate_left
        · rintro w' ⟨s0, s1⟩
          refine ld29x_run (.tmp 136) ?_ B5 (o5 + (q + 4) * 6) ?_ (f 4) (fun i hi => s1 4 (by omega) i hi) <;> rfl
        rotate_left
        · simp only [Act.put, List.setIfInBounds_toArray, List.set_cons_zero, List.set_cons_succ, i64_w, i32_w]
          rfl
        refine pure_ (i := 53) (N := some 138) (v := ?_) (a' := ?_) #[true, true, true, true, true, true, true, true, true, true, true, true, true, true, true, true, true, true, true, true, true, true, true, true, true, true, true, true, true, true, true, true, true, true, true, true, true, true, true, true, true, true, true, true, true, true, true, true, true, true, true, true, true, true, false] rfl rfl (by kernel_rfl) (fun _ _ _ h => h) (Or.inl ⟨by rfl, ?_⟩) ?_ ?_
        rotate_left
        · intro w'
          go_simp
          with_reducible rfl
        rotate_left
        · simp only [Act.put, List.setIfInBounds_toArray, List.set_cons_zero, List.set_cons_succ, i64_w, i32_w]
          rfl
        refine pure_ (i := 54) (N := some 139) (v := ?_) (a' := ?_) #[true, true, true, true, true, true, true, true, true, true, true, true, true, true, true, true, true, true, true, true, true, true, true, true, true, true, true, true, true, true, true, true, true, true, true, true, true, true, true, true, true, true, true, true, true, true, true, true, true, true, true, true, true, true, true] rfl rfl (by kernel_rfl) (fun _ _ _ h => h) (Or.inl ⟨by rfl, ?_⟩) ?_ ?_
        rotate_left
        · intro w'
          go_simp
          with_reducible rfl
        rotate_left
        · simp only [Act.put, List.setIfInBounds_toArray, List.set_cons_zero, List.set_cons_succ, i64_w, i32_w]
          rfl
        refine done_ (by kernel_rfl) ?_
        go_wp2_with fail
        go_roundg (gk - 1)
        case measure => exact gm
        case rel => exact ⟨p, by first | (congr 1; omega) | (congr 2; omega) | (simp; omega), ⟨by omega, by have := HJ.out.2; omega⟩, ⟨hS.out.below (bdrew (Below.refl _ _))⟩⟩
theorem framesPut_calls (A : Option Addr) (len cap : Nat) (zo : Nat → OpV) (x : CV) (at_ : Int) (w : World) (ho : Ops w A len zo) (hcap : len ≤ cap) (hmax : cap ≤ maxLen) (hx : x.ok) (hat : 0 ≤ at_ ∧ at_ ≤ 255) : Calls Try.prog 5 #[.slice A len cap, .agg #[.bool x.t, .int .i64 x.b, .int .i64 x.c, .int .i64 x.d, .int .i64 x.e, .int .i64 x.f], .int .u8 at_] w fun e w' => e = .returned (.bool true) ∧ Below w.heap.size w w' := by
  by_cases hl : 300 < (len : Int)
  · exact put_long A len cap zo x at_ w ho hcap hmax hx hat hl
  cases hr : x.right with
  | false => exact put_bad A len cap zo x at_ w ho hcap hmax hx hat hl hr
  | true => exact put_good A len cap zo x at_ w ho hcap hmax hx hat hl hr
end Go.Proofs.Ytijcniflghjoaaa.Fr
