/- The walk of FramesPlays. -/
import Derived.Test.YtijcniflghjoaaaFrPf
namespace Go.Proofs.Ytijcniflghjoaaa.Fr
open Go.RowKit Go.Proofs.Ytijcniflghjoaaa.Rg Go.Proofs.YtijcniflghjoaaaW.PrintLast
set_option linter.unusedVariables false
set_option linter.unusedSimpArgs false
theorem PF.gone {w W W' : World} {g r top n1 n2 : Nat} {z1 z2 : Nat → CV} {A : Option Addr} {m c t : Nat} {l : Nat → CV} (h : PF w W g r top n1 z1 n2 z2) (hb : Bag W t 29 6 A m c l) (ht : Turn (InBlock A) W W') (h1 : r < t) (h2 : top ≤ t) : PF w W' g r top n1 z1 n2 z2 :=
  h.turnT ht (fun i hi => by have := (hb.lt hi).2; omega)
theorem PF.gone2 {w W W' : World} {g r top n1 n2 : Nat} {z1 z2 : Nat → CV} {A : Option Addr} {m c t : Nat} {l : Nat → CV} {o : Obj} (h : PF w W g r top n1 z1 n2 z2) (hb : Bag W t 29 6 A m c l) (ht : Turn (InBlock A) (W.alloc o) W') (h1 : r < t) (h2 : top ≤ t) : PF w W' g r top n1 z1 n2 z2 :=
  (h.below (balloc (Below.refl _ _) o)).turnT ht (fun i hi => by have := (hb.lt hi).2; omega)
/-- The row that is put, and all else. -/
def PR (w W : World) (g r n : Nat) (z : Nat → CV) (t : Nat) (A : Option Addr) (m c : Nat) (l : Nat → CV) : Prop := PF w W g r t n z n z ∧ Bag W t 29 6 A m c l ∧ (∀ i, i < m → (l i).ok) ∧ r < t
theorem PR.set6 {w W : World} {g r n : Nat} {z : Nat → CV} {t B o m c : Nat} {l : Nat → CV} (h : PR w W g r n z t (some ⟨B, o, none⟩) m c l) {k : Nat} (hk : k < m) {y : CV} (hy : y.ok) : PR w ((((((W.setCell ⟨B, o + k * 6, none⟩ (.bool y.t)).setCell ⟨B, o + k * 6 + 1, none⟩ (.int .i64 y.b)).setCell ⟨B, o + k * 6 + 2, none⟩ (.int .i64 y.c)).setCell ⟨B, o + k * 6 + 3, none⟩ (.int .i64 y.d)).setCell ⟨B, o + k * 6 + 4, none⟩ (.int .i64 y.e)).setCell ⟨B, o + k * 6 + 5, none⟩ (.int .i64 y.f)) g r n z t (some ⟨B, o, none⟩) m c (Rg.upd l k y) := by
  obtain ⟨h1, h2, h3, h4⟩ := h
  have ht := turn6 (S := fun i => i = B) (w := W) (B := B) (k := o + k * 6) (v0 := .bool y.t) (v1 := .int .i64 y.b) (v2 := .int .i64 y.c) (v3 := .int .i64 y.d) (v4 := .int .i64 y.e) (v5 := .int .i64 y.f) rfl
  have hB := (h2.lt ⟨o, rfl⟩).2
  refine ⟨h1.turnT ht (fun i hi => by omega), h2.set6 k hk y, fun i hi => ?_, h4⟩
  unfold Rg.upd
  split
  · exact hy
  · exact h3 i hi
theorem PR.app {w W W' : World} {g r n : Nat} {z : Nat → CV} {t m c : Nat} {A A' : Option Addr} {c' : Nat} {l : Nat → CV} {o : Obj} {y : CV} (h : PR w W g r n z t A m c l) (hb : Bag W' t 29 6 A' (m + 1) c' (Rg.upd l m y)) (ht : Turn (InBlock A) (W.alloc o) W') (hy : y.ok) : PR w W' g r n z t A' (m + 1) c' (Rg.upd l m y) := by
  obtain ⟨h1, h2, h3, h4⟩ := h
  refine ⟨h1.gone2 h2 ht h4 (Nat.le_refl _), hb, fun i hi => ?_, h4⟩
  unfold Rg.upd
  split
  · exact hy
  · exact h3 i (by omega)
theorem upd_at (l : Nat → CV) (m : Nat) (y : CV) : Rg.upd l m y m = y := by unfold Rg.upd; rw [if_pos rfl]
theorem upd_old (l : Nat → CV) (m : Nat) (y : CV) : ∀ i, i < m * 6 → Fl (Rg.upd l m y) i = Fl l i := fun i hi => by
  unfold Fl Rg.upd
  rw [if_neg (by omega)]
theorem pr_put {w W : World} {g r n : Nat} {z : Nat → CV} {t m c : Nat} {A : Option Addr} {l : Nat → CV} (h : PR w W g r n z t A m c l) (hn : n ≤ 1000) (p : Bool) (hp : putB n m l = p) : Calls Try.prog 17 #[.pointer (some ⟨g, 0, none⟩), .slice A m c] W fun e w' => e = .returned (.bool p) ∧ PF w w' g r t n (if p = true then l else z) n z ∧ Bag w' t 29 6 A m c l := pf_put h.1 hn h.2.1 h.2.2.1 p hp
theorem put_oks {n m : Nat} {z l : Nat → CV} {p : Bool} (hp : putB n m l = p) (hz : Oks z n) (hl : ∀ i, i < m → (l i).ok) : Oks (if p = true then l else z) n := by
  subst hp
  cases hp : putB n m l with
  | false => exact hz
  | true =>
    unfold putB at hp
    simp only [Bool.and_eq_true, decide_eq_true_eq] at hp
    exact fun i hi => hl i (by omega)
set_option maxRecDepth 100000 in
set_option maxHeartbeats 8000000 in
theorem framesPlays_calls (A : Option Addr) (len cap : Nat) (zo : Nat → OpV) (w : World) (ho : Ops w A len zo) (hcap : len ≤ cap) (hmax : cap ≤ maxLen) : Calls Try.prog 3 #[.slice A len cap] w fun e w' => e = .returned (.bool true) ∧ Below w.heap.size w w' := by
  have hu24 := Try.underlying24
  have HO := Asd.mk ho
  clear ho
  have BL := Asd.mk (Below.refl w.heap.size w)
  by_cases hl : 300 < (len : Int)
  · clear HO
    go_enter Try.func3, Try.ntmps3
    go_wp2_with fail
    (go_at_call 11; ((with_reducible refine (head_calls _).mono ?_); rintro e W1 ⟨rfl, hb⟩; have HB := Asd.mk hb; clear hb BL))
    go_wp2_with fail
    (go_at_call 12; ((with_reducible refine (new_calls _).mono ?_); rintro e W2 ⟨rfl, hB, hb⟩; have hN := Asd.mk (And.intro hB (bcall HB.out hb)); have hG := Asd.mk HB.out.size; clear hB hb HB))
    go_wp2_with fail
    (go_at_call 13; ((with_reducible refine (rnew_calls _).mono ?_); rintro e W3 ⟨rfl, hB, hb⟩; have hN2 := Asd.mk (And.intro (hN.out.1.below hb hN.out.1.lt) (And.intro hB (bcall hN.out.2 hb))); have hGl := Asd.mk hN.out.1.lt; clear hB hb hN))
    go_wp2_with fail
    go_ret
    exact ⟨by simp, hN2.out.2.2⟩
  go_enter Try.func3, Try.ntmps3
  go_wp2_with fail
  (go_at_call 11; ((with_reducible refine (head_calls _).mono ?_); rintro e W1 ⟨rfl, hb⟩; have HB := Asd.mk hb; clear hb BL))
  go_wp2_with fail
  (go_at_call 12; ((with_reducible refine (new_calls _).mono ?_); rintro e W2 ⟨rfl, hB, hb⟩; have hN := Asd.mk (And.intro hB (bcall HB.out hb)); have hG := Asd.mk HB.out.size; clear hB hb HB))
  go_wp2_with fail
  (go_at_call 13; ((with_reducible refine (rnew_calls _).mono ?_); rintro e W3 ⟨rfl, hB, hb⟩; have hN2 := Asd.mk (And.intro (hN.out.1.below hb hN.out.1.lt) (And.intro hB (bcall hN.out.2 hb))); have hGl := Asd.mk hN.out.1.lt; clear hB hb hN))
  go_wp2_with fail
  have hP0 : Asd (PF w W3 W1.heap.size W2.heap.size W3.heap.size 0 fz 0 fz) := ⟨hG.out, hGl.out, ⟨none, 0, none, 0, hN2.out.1, Bag.nil _ _ _ _ _, hN2.out.2.1, Bag.nil _ _ _ _ _, fun k hk => absurd hk (inBlock_none k), fun k hk => absurd hk (inBlock_none k), fun k hk => absurd hk (inBlock_none k)⟩, hN2.out.2.2⟩
  clear hN2 hG hGl
  generalize W1.heap.size = g at *
  generalize W2.heap.size = r at *
  go_loopg [6] (len + 1) (fun kq v6 w' => ∃ (k n : Nat) (z : Nat → CV), v6 = .int .i64 (k : Int) ∧ Asd (k ≤ len ∧ kq + k = len + 1 ∧ n ≤ 16 ∧ Oks z n) ∧ Asd (PF w w' g r w'.heap.size n z n z))
  case atStart => exact ⟨0, 0, fz, rfl, ⟨by omega, by omega, by omega, fun i hi => absurd hi (by omega)⟩, hP0⟩
  case round =>
    obtain ⟨k, n, z, rfl, HI, hP⟩ := hrel
    clear hP0
    have i0 := HI.out.1
    have n0 := HI.out.2.2.1
    have HZ := Asd.mk HI.out.2.2.2
    have gm : gk - 1 < gk := by have := HI.out.2.1; omega
    have HM := Asd.mk (show k < len → gk - 1 + (k + 1) = len + 1 from fun _ => by have := HI.out.2.1; omega)
    have hrb : r < wr.heap.size := hP.out.lt
    have hgb : g < wr.heap.size := Nat.lt_trans hP.out.2.1 hrb
    by_cases hk : k < len
    · have k0 : (0 : Int) ≤ (k : Int) := by omega
      have k1 : (k : Int) < (len : Int) := by omega
      obtain ⟨B, o, rfl, hlB, hc, hok⟩ := HO.out.at_ hP.out.2.2.2 hk
      have HC := Asd.mk hc
      have hof := hok.2.1
      have hox := Asd.mk hok.2.2.1
      clear hc hok
      generalize zo k = v at *
      by_cases hq : v.q = 3
      · have e3 : (v.q == 3) = true := by simp [hq]
        clear hq
        rcases Nat.eq_zero_or_pos n with hn | hn
        · subst hn
          have hel := eql32 fz
          go_wp2_with (first | (refine ld34 rfl (.tmp 38) rfl B (o + k * 38) rfl v HC.out ?_) | (refine st34 rfl (.tmp 7) (.tmp 39) rfl wr.heap.size rfl v rfl (Blk.new wr 34 _) rfl ?_; intro W4 hb ht; have hV := Asd.mk hb; have q0 := ob_q hb; have hP2 := Asd.mk (hP.out.box ht); clear hb ht hP; have hP := hP2; clear hP2))
          (go_at_call 14; ((with_reducible refine (pf_pop0 hP.out).mono ?_); rintro e W5 ⟨rfl, h⟩; clear hP; have hP := Asd.mk h; clear h; clear q0))
          go_wp2_with (refine st32 rfl (.tmp 10) (.tmp 55) rfl W5.heap.size rfl fz rfl (Blk.new W5 32 _) rfl ?_; intro W6 hb ht; have hG10 := Asd.mk hb; have hP2 := Asd.mk (hP.out.box ht); clear hb ht hP; have hP := hP2; clear hP2)
          (go_at_call 15; ((with_reducible refine (pf_rpop0 hP.out).mono ?_); rintro e W7 ⟨rfl, h, hb⟩; clear hP; have hP := Asd.mk h; clear h; have hH := Asd.mk (hG10.out.below hb hG10.out.lt); clear hb hG10; have hG10 := hH; clear hH))
          generalize W5.heap.size = b10 at *
          go_wp2_with (first | (refine st32 rfl (.tmp 12) (.tmp 60) rfl W7.heap.size rfl fz rfl (Blk.new W7 32 _) rfl ?_; intro W8 hb ht; have hG12 := Asd.mk hb; have hH := Asd.mk (hG10.out.below (turn_fresh ht) hG10.out.lt); have hP2 := Asd.mk (hP.out.box ht); clear hb ht hP hG10; have hP := hP2; have hG10 := hH; clear hP2 hH) | (refine ldg32b (by rfl) (.tmp 10) rfl b10 rfl fz hG10.out ?_) | (refine ldg32b (by rfl) (.tmp 12) rfl W7.heap.size rfl fz hG12.out ?_))
          (go_at_call 21; ((with_reducible refine (pf_many hP.out).mono ?_); rintro e w_ ⟨rfl, rfl⟩; skip))
          go_wp2_with fail
          (go_at_call 22; ((with_reducible refine (pf_rmany hP.out).mono ?_); rintro e w_ ⟨rfl, rfl⟩; skip))
          go_wp2_with fail
          (go_at_call 16; ((with_reducible refine (pf_caps hP.out (by omega)).mono ?_); rintro e Y1 ⟨A8, c8, rfl, hb, h, _⟩; clear hP; have hP := Asd.mk h; have hR1 := Asd.mk hb.row; clear h hb))
          go_wp2_with fail
          (go_at_call 24; ((with_reducible refine (pf_rcaps hP.out (by omega)).mono ?_); rintro e Y2 ⟨A9, c9, rfl, hr, h, hbl⟩; clear hP; have hP := Asd.mk h; have hR2 := Asd.mk hr; have hR3 := Asd.mk (hR1.out.below hbl); clear h hr hbl hR1))
          go_wp2_with fail
          (go_at_call 23; ((with_reducible refine (pf_same hP.out hR3.out hR2.out (by omega) (fun _ _ => rfl)).mono ?_); rintro e Y3 ⟨rfl, h⟩; clear hP; have hP := Asd.mk h; clear h; clear hR2 hR3))
          go_wp2_with fail
          go_roundg (gk - 1)
          case measure => exact gm
          case rel => exact ⟨k + 1, 0, z, by simp, ⟨by omega, HM.out hk, by omega, HZ.out⟩, ⟨hP.out.top_⟩⟩
        · obtain ⟨p, rfl⟩ : ∃ p, n = p + 1 := ⟨n - 1, by omega⟩
          obtain ⟨f, hf⟩ : ∃ f : Nat → CV, Asd ((fun i => z (p * 5 + i)) = f) := ⟨_, ⟨rfl⟩⟩
          have hel := eql32 f
          go_wp2_with (first | (refine ld34 rfl (.tmp 38) rfl B (o + k * 38) rfl v HC.out ?_) | (refine st34 rfl (.tmp 7) (.tmp 39) rfl wr.heap.size rfl v rfl (Blk.new wr 34 _) rfl ?_; intro W4 hb ht; have hV := Asd.mk hb; have q0 := ob_q hb; have hP2 := Asd.mk (hP.out.box ht); clear hb ht hP; have hP := hP2; clear hP2))
          (go_at_call 14; ((with_reducible refine (pf_pop1 hP.out (by omega)).mono ?_); rintro e W5 ⟨rfl, h⟩; clear hP; have hP := Asd.mk h; clear h; clear q0))
          rw [hf.out]
          have hrl := hP.out.lt
          go_wp2_with (refine st32 rfl (.tmp 10) (.tmp 55) rfl W5.heap.size rfl f rfl (Blk.new W5 32 _) rfl ?_; intro W6 hb ht; have hG10 := Asd.mk hb; have hP2 := Asd.mk (hP.out.box ht); clear hb ht hP; have hP := hP2; clear hP2)
          have hbr : W5.heap.size ≠ r := by omega
          (go_at_call 15; ((with_reducible refine (pf_rpop1 hP.out (by omega)).mono ?_); rintro e W7 ⟨rfl, h, ht⟩; clear hP; have hP := Asd.mk h; clear h; have hH := Asd.mk (blk_keep hG10.out (ht.block _ hG10.out.lt hbr)); clear ht hG10; have hG10 := hH; clear hH))
          rw [hf.out]
          generalize W5.heap.size = b10 at *
          go_wp2_with (first | (refine st32 rfl (.tmp 12) (.tmp 60) rfl W7.heap.size rfl f rfl (Blk.new W7 32 _) rfl ?_; intro W8 hb ht; have hG12 := Asd.mk hb; have hH := Asd.mk (hG10.out.below (turn_fresh ht) hG10.out.lt); have hP2 := Asd.mk (hP.out.box ht); clear hb ht hP hG10; have hP := hP2; have hG10 := hH; clear hP2 hH) | (refine ldg32b (by rfl) (.tmp 10) rfl b10 rfl f hG10.out ?_) | (refine ldg32b (by rfl) (.tmp 12) rfl W7.heap.size rfl f hG12.out ?_))
          (go_at_call 21; ((with_reducible refine (pf_many hP.out).mono ?_); rintro e w_ ⟨rfl, rfl⟩; skip))
          go_wp2_with fail
          (go_at_call 22; ((with_reducible refine (pf_rmany hP.out).mono ?_); rintro e w_ ⟨rfl, rfl⟩; skip))
          go_wp2_with fail
          (go_at_call 16; ((with_reducible refine (pf_caps hP.out (by omega)).mono ?_); rintro e Y1 ⟨A8, c8, rfl, hb, h, _⟩; clear hP; have hP := Asd.mk h; have hR1 := Asd.mk hb.row; clear h hb))
          go_wp2_with fail
          (go_at_call 24; ((with_reducible refine (pf_rcaps hP.out (by omega)).mono ?_); rintro e Y2 ⟨A9, c9, rfl, hr, h, hbl⟩; clear hP; have hP := Asd.mk h; have hR2 := Asd.mk hr; have hR3 := Asd.mk (hR1.out.below hbl); clear h hr hbl hR1))
          go_wp2_with fail
          (go_at_call 23; ((with_reducible refine (pf_same hP.out hR3.out hR2.out (by omega) (fun _ _ => rfl)).mono ?_); rintro e Y3 ⟨rfl, h⟩; clear hP; have hP := Asd.mk h; clear h; clear hR2 hR3))
          go_wp2_with fail
          go_roundg (gk - 1)
          case measure => exact gm
          case rel => exact ⟨k + 1, p, z, by simp, ⟨by omega, HM.out hk, by omega, fun i hi => HZ.out i (by omega)⟩, ⟨hP.out.top_⟩⟩
      have e3 : (v.q == 3) = false := by simp [hq]
      by_cases hq4 : v.q = 4
      · have e4 : (v.q == 4) = true := by simp [hq4]
        clear hq4 hq
        go_wp2_with (first | (refine ld34 rfl (.tmp 38) rfl B (o + k * 38) rfl v HC.out ?_) | (refine st34 rfl (.tmp 7) (.tmp 39) rfl wr.heap.size rfl v rfl (Blk.new wr 34 _) rfl ?_; intro W4 hb ht; have hV := Asd.mk hb; have q0 := ob_q hb; have hP2 := Asd.mk (hP.out.box ht); clear hb ht hP; have hP := hP2; clear hP2))
        obtain ⟨x0, x1, x2, x3, x4, x5⟩ := ob_x hV.out
        (go_at_call 16; ((with_reducible refine (pf_caps hP.out (by omega)).mono ?_); rintro e W5 ⟨A5, c5, rfl, hb, h, hbl⟩; have hR := Asd.mk (show PR w W5 g r n z W4.heap.size A5 (n * 5) c5 z from ⟨h, hb, HZ.out, by have := hP.out.lt; exact this⟩); have hH := Asd.mk (hV.out.below hbl hV.out.lt); have ht5 := hbl.size; clear hP h hb hbl hV q0 x0 x1 x2 x3 x4 x5; have hV := hH; clear hH))
        obtain ⟨m, hm⟩ : ∃ m, Asd (n * 5 = m) := ⟨_, ⟨rfl⟩⟩
        rw [hm.out] at hR ⊢
        have mb : m ≤ 80 := by have := hm.out; omega
        generalize W4.heap.size = t at *
        generalize wr.heap.size = ob at *
        have q37 := ob_p hV.out
        have x0 : W5.cell? ⟨ob, 31, none⟩ = some (.bool v.x.t) := (ob_x hV.out).1
        have x1 : W5.cell? ⟨ob, 32, none⟩ = some (.int .i64 v.x.b) := (ob_x hV.out).2.1
        have x2 : W5.cell? ⟨ob, 33, none⟩ = some (.int .i64 v.x.c) := (ob_x hV.out).2.2.1
        have x3 : W5.cell? ⟨ob, 34, none⟩ = some (.int .i64 v.x.d) := (ob_x hV.out).2.2.2.1
        have x4 : W5.cell? ⟨ob, 35, none⟩ = some (.int .i64 v.x.e) := (ob_x hV.out).2.2.2.2.1
        have x5 : W5.cell? ⟨ob, 36, none⟩ = some (.int .i64 v.x.f) := (ob_x hV.out).2.2.2.2.2
        by_cases hp0 : v.p < 0
        · have p1 : decide (0 ≤ v.p) = false := by simp; omega
          have p2 : decide (v.p < 0) = true := by simp; omega
          go_wp2_with (at_builtin; refine wpList_bag29 (m := 1) (z' := Rg.upd z m v.x) rfl (.tmp 93) (.tmp 96) rfl rfl rfl (hR.out.2.1.below (balloc (Below.refl _ _) _)) (one_src (upd_at z m v.x)) (upd_old z m v.x) (by simp; omega) (by omega) (by omega) ?_; intro A6 c6 W6 hb6 ht6 hin6; have hR2 := Asd.mk (hR.out.app hb6 ht6 hox.out); clear hb6 ht6 hin6 hR q37 x0 x1 x2 x3 x4 x5; have hR := hR2; clear hR2)
          generalize Rg.upd z m v.x = l at *
          generalize hmm : m + 1 = mm at *
          clear hmm
          cases hp : putB n mm l with
          | true =>
            have HQ := Asd.mk hp
            clear hp
            have HLk := Asd.mk hR.out.2.2.1
            (go_at_call 17; ((with_reducible refine (pr_put hR.out (by omega) _ HQ.out).mono ?_); rintro e W7 ⟨rfl, h, hb⟩; have hP := Asd.mk h; have hBg := Asd.mk hb; clear h hb))
            go_wp2_with fail
            (go_at_call 18; ((with_reducible refine (pf_rput hP.out (by omega) hBg.out HLk.out _ HQ.out).mono ?_); rintro e W8 ⟨rfl, h⟩; clear hP; have hP := Asd.mk h; clear h))
            have HZ2 := Asd.mk (put_oks HQ.out HZ.out hR.out.2.2.1)
            simp only [if_true] at hP HZ2
            clear hR hBg
            go_wp2_with fail
            (go_at_call 21; ((with_reducible refine (pf_many hP.out).mono ?_); rintro e w_ ⟨rfl, rfl⟩; skip))
            go_wp2_with fail
            (go_at_call 22; ((with_reducible refine (pf_rmany hP.out).mono ?_); rintro e w_ ⟨rfl, rfl⟩; skip))
            go_wp2_with fail
            (go_at_call 16; ((with_reducible refine (pf_caps hP.out (by omega)).mono ?_); rintro e Y1 ⟨A8, c8, rfl, hb, h, _⟩; clear hP; have hP := Asd.mk h; have hR1 := Asd.mk hb.row; clear h hb))
            go_wp2_with fail
            (go_at_call 24; ((with_reducible refine (pf_rcaps hP.out (by omega)).mono ?_); rintro e Y2 ⟨A9, c9, rfl, hr, h, hbl⟩; clear hP; have hP := Asd.mk h; have hR2 := Asd.mk hr; have hR3 := Asd.mk (hR1.out.below hbl); clear h hr hbl hR1))
            go_wp2_with fail
            (go_at_call 23; ((with_reducible refine (pf_same hP.out hR3.out hR2.out (by omega) (fun _ _ => rfl)).mono ?_); rintro e Y3 ⟨rfl, h⟩; clear hP; have hP := Asd.mk h; clear h; clear hR2 hR3))
            go_wp2_with fail
            go_roundg (gk - 1)
            case measure => exact gm
            case rel => exact ⟨k + 1, n, l, by simp, ⟨by omega, HM.out hk, by omega, HZ2.out⟩, ⟨hP.out.top_⟩⟩
          | false =>
            have HQ := Asd.mk hp
            clear hp
            have HLk := Asd.mk hR.out.2.2.1
            (go_at_call 17; ((with_reducible refine (pr_put hR.out (by omega) _ HQ.out).mono ?_); rintro e W7 ⟨rfl, h, hb⟩; have hP := Asd.mk h; have hBg := Asd.mk hb; clear h hb))
            go_wp2_with fail
            (go_at_call 18; ((with_reducible refine (pf_rput hP.out (by omega) hBg.out HLk.out _ HQ.out).mono ?_); rintro e W8 ⟨rfl, h⟩; clear hP; have hP := Asd.mk h; clear h))
            have HZ2 := Asd.mk (put_oks HQ.out HZ.out hR.out.2.2.1)
            simp only [Bool.false_eq_true, if_false] at hP HZ2
            clear hR hBg
            go_wp2_with fail
            (go_at_call 21; ((with_reducible refine (pf_many hP.out).mono ?_); rintro e w_ ⟨rfl, rfl⟩; skip))
            go_wp2_with fail
            (go_at_call 22; ((with_reducible refine (pf_rmany hP.out).mono ?_); rintro e w_ ⟨rfl, rfl⟩; skip))
            go_wp2_with fail
            (go_at_call 16; ((with_reducible refine (pf_caps hP.out (by omega)).mono ?_); rintro e Y1 ⟨A8, c8, rfl, hb, h, _⟩; clear hP; have hP := Asd.mk h; have hR1 := Asd.mk hb.row; clear h hb))
            go_wp2_with fail
            (go_at_call 24; ((with_reducible refine (pf_rcaps hP.out (by omega)).mono ?_); rintro e Y2 ⟨A9, c9, rfl, hr, h, hbl⟩; clear hP; have hP := Asd.mk h; have hR2 := Asd.mk hr; have hR3 := Asd.mk (hR1.out.below hbl); clear h hr hbl hR1))
            go_wp2_with fail
            (go_at_call 23; ((with_reducible refine (pf_same hP.out hR3.out hR2.out (by omega) (fun _ _ => rfl)).mono ?_); rintro e Y3 ⟨rfl, h⟩; clear hP; have hP := Asd.mk h; clear h; clear hR2 hR3))
            go_wp2_with fail
            go_roundg (gk - 1)
            case measure => exact gm
            case rel => exact ⟨k + 1, n, z, by simp, ⟨by omega, HM.out hk, by omega, HZ2.out⟩, ⟨hP.out.top_⟩⟩
        obtain ⟨pp, hpp⟩ : ∃ pp : Nat, Asd (v.p = (pp : Int)) := ⟨v.p.toNat, ⟨by omega⟩⟩
        rw [hpp.out] at q37
        clear hp0
        have p0 : (0 : Int) ≤ (pp : Int) := by omega
        have p1 : decide ((pp : Int) < 0) = false := decide_eq_false (by omega)
        by_cases hpm : pp < m
        · have p2 : (pp : Int) < (m : Int) := by omega
          obtain ⟨B5, o5, rfl, -, hBl, hBc, hBf⟩ := hR.out.2.1.some_ (by omega)
          have d0 : W5.cell? ⟨B5, o5 + pp * 6, none⟩ = some (Fl z (pp * 6 + 0)) := by rw [show o5 + pp * 6 = o5 + (pp * 6 + 0) by omega]; exact hBc _ (by omega)
          have f0 := hBf (o5 + pp * 6)
          have d1 : W5.cell? ⟨B5, o5 + pp * 6 + 1, none⟩ = some (Fl z (pp * 6 + 1)) := by rw [show o5 + pp * 6 + 1 = o5 + (pp * 6 + 1) by omega]; exact hBc _ (by omega)
          have f1 := hBf (o5 + pp * 6 + 1)
          have d2 : W5.cell? ⟨B5, o5 + pp * 6 + 2, none⟩ = some (Fl z (pp * 6 + 2)) := by rw [show o5 + pp * 6 + 2 = o5 + (pp * 6 + 2) by omega]; exact hBc _ (by omega)
          have f2 := hBf (o5 + pp * 6 + 2)
          have d3 : W5.cell? ⟨B5, o5 + pp * 6 + 3, none⟩ = some (Fl z (pp * 6 + 3)) := by rw [show o5 + pp * 6 + 3 = o5 + (pp * 6 + 3) by omega]; exact hBc _ (by omega)
          have f3 := hBf (o5 + pp * 6 + 3)
          have d4 : W5.cell? ⟨B5, o5 + pp * 6 + 4, none⟩ = some (Fl z (pp * 6 + 4)) := by rw [show o5 + pp * 6 + 4 = o5 + (pp * 6 + 4) by omega]; exact hBc _ (by omega)
          have f4 := hBf (o5 + pp * 6 + 4)
          have d5 : W5.cell? ⟨B5, o5 + pp * 6 + 5, none⟩ = some (Fl z (pp * 6 + 5)) := by rw [show o5 + pp * 6 + 5 = o5 + (pp * 6 + 5) by omega]; exact hBc _ (by omega)
          have f5 := hBf (o5 + pp * 6 + 5)
          clear hBc hBf
          go_wp2_with fail
          have hR2 := Asd.mk (hR.out.set6 hpm hox.out)
          clear hR q37 x0 x1 x2 x3 x4 x5 d0 d1 d2 d3 d4 d5 f0 f1 f2 f3 f4 f5
          have hR := hR2
          clear hR2
          generalize Rg.upd z pp v.x = l at *
          generalize m = mm at *
          cases hp : putB n mm l with
          | true =>
            have HQ := Asd.mk hp
            clear hp
            have HLk := Asd.mk hR.out.2.2.1
            (go_at_call 17; ((with_reducible refine (pr_put hR.out (by omega) _ HQ.out).mono ?_); rintro e W7 ⟨rfl, h, hb⟩; have hP := Asd.mk h; have hBg := Asd.mk hb; clear h hb))
            go_wp2_with fail
            (go_at_call 18; ((with_reducible refine (pf_rput hP.out (by omega) hBg.out HLk.out _ HQ.out).mono ?_); rintro e W8 ⟨rfl, h⟩; clear hP; have hP := Asd.mk h; clear h))
            have HZ2 := Asd.mk (put_oks HQ.out HZ.out hR.out.2.2.1)
            simp only [if_true] at hP HZ2
            clear hR hBg
            go_wp2_with fail
            (go_at_call 21; ((with_reducible refine (pf_many hP.out).mono ?_); rintro e w_ ⟨rfl, rfl⟩; skip))
            go_wp2_with fail
            (go_at_call 22; ((with_reducible refine (pf_rmany hP.out).mono ?_); rintro e w_ ⟨rfl, rfl⟩; skip))
            go_wp2_with fail
            (go_at_call 16; ((with_reducible refine (pf_caps hP.out (by omega)).mono ?_); rintro e Y1 ⟨A8, c8, rfl, hb, h, _⟩; clear hP; have hP := Asd.mk h; have hR1 := Asd.mk hb.row; clear h hb))
            go_wp2_with fail
            (go_at_call 24; ((with_reducible refine (pf_rcaps hP.out (by omega)).mono ?_); rintro e Y2 ⟨A9, c9, rfl, hr, h, hbl⟩; clear hP; have hP := Asd.mk h; have hR2 := Asd.mk hr; have hR3 := Asd.mk (hR1.out.below hbl); clear h hr hbl hR1))
            go_wp2_with fail
            (go_at_call 23; ((with_reducible refine (pf_same hP.out hR3.out hR2.out (by omega) (fun _ _ => rfl)).mono ?_); rintro e Y3 ⟨rfl, h⟩; clear hP; have hP := Asd.mk h; clear h; clear hR2 hR3))
            go_wp2_with fail
            go_roundg (gk - 1)
            case measure => exact gm
            case rel => exact ⟨k + 1, n, l, by simp, ⟨by omega, HM.out hk, by omega, HZ2.out⟩, ⟨hP.out.top_⟩⟩
          | false =>
            have HQ := Asd.mk hp
            clear hp
            have HLk := Asd.mk hR.out.2.2.1
            (go_at_call 17; ((with_reducible refine (pr_put hR.out (by omega) _ HQ.out).mono ?_); rintro e W7 ⟨rfl, h, hb⟩; have hP := Asd.mk h; have hBg := Asd.mk hb; clear h hb))
            go_wp2_with fail
            (go_at_call 18; ((with_reducible refine (pf_rput hP.out (by omega) hBg.out HLk.out _ HQ.out).mono ?_); rintro e W8 ⟨rfl, h⟩; clear hP; have hP := Asd.mk h; clear h))
            have HZ2 := Asd.mk (put_oks HQ.out HZ.out hR.out.2.2.1)
            simp only [Bool.false_eq_true, if_false] at hP HZ2
            clear hR hBg
            go_wp2_with fail
            (go_at_call 21; ((with_reducible refine (pf_many hP.out).mono ?_); rintro e w_ ⟨rfl, rfl⟩; skip))
            go_wp2_with fail
            (go_at_call 22; ((with_reducible refine (pf_rmany hP.out).mono ?_); rintro e w_ ⟨rfl, rfl⟩; skip))
            go_wp2_with fail
            (go_at_call 16; ((with_reducible refine (pf_caps hP.out (by omega)).mono ?_); rintro e Y1 ⟨A8, c8, rfl, hb, h, _⟩; clear hP; have hP := Asd.mk h; have hR1 := Asd.mk hb.row; clear h hb))
            go_wp2_with fail
            (go_at_call 24; ((with_reducible refine (pf_rcaps hP.out (by omega)).mono ?_); rintro e Y2 ⟨A9, c9, rfl, hr, h, hbl⟩; clear hP; have hP := Asd.mk h; have hR2 := Asd.mk hr; have hR3 := Asd.mk (hR1.out.below hbl); clear h hr hbl hR1))
            go_wp2_with fail
            (go_at_call 23; ((with_reducible refine (pf_same hP.out hR3.out hR2.out (by omega) (fun _ _ => rfl)).mono ?_); rintro e Y3 ⟨rfl, h⟩; clear hP; have hP := Asd.mk h; clear h; clear hR2 hR3))
            go_wp2_with fail
            go_roundg (gk - 1)
            case measure => exact gm
            case rel => exact ⟨k + 1, n, z, by simp, ⟨by omega, HM.out hk, by omega, HZ2.out⟩, ⟨hP.out.top_⟩⟩
        have p2 : decide ((pp : Int) < (m : Int)) = false := by simp; omega
        have p2n : decide (pp < m) = false := by simp; omega
        go_wp2_with fail
        clear q37 x0 x1 x2 x3 x4 x5
        generalize m = mm at *
        obtain ⟨l, hl'⟩ : ∃ l, Asd (z = l) := ⟨_, ⟨rfl⟩⟩
        have hR2 : Asd (PR w W5 g r n z t A5 mm c5 l) := hl'.out ▸ hR
        clear hR
        have hR := hR2
        clear hR2 hl'
        cases hp : putB n mm l with
        | true =>
          have HQ := Asd.mk hp
          clear hp
          have HLk := Asd.mk hR.out.2.2.1
          (go_at_call 17; ((with_reducible refine (pr_put hR.out (by omega) _ HQ.out).mono ?_); rintro e W7 ⟨rfl, h, hb⟩; have hP := Asd.mk h; have hBg := Asd.mk hb; clear h hb))
          go_wp2_with fail
          (go_at_call 18; ((with_reducible refine (pf_rput hP.out (by omega) hBg.out HLk.out _ HQ.out).mono ?_); rintro e W8 ⟨rfl, h⟩; clear hP; have hP := Asd.mk h; clear h))
          have HZ2 := Asd.mk (put_oks HQ.out HZ.out hR.out.2.2.1)
          simp only [if_true] at hP HZ2
          clear hR hBg
          go_wp2_with fail
          (go_at_call 21; ((with_reducible refine (pf_many hP.out).mono ?_); rintro e w_ ⟨rfl, rfl⟩; skip))
          go_wp2_with fail
          (go_at_call 22; ((with_reducible refine (pf_rmany hP.out).mono ?_); rintro e w_ ⟨rfl, rfl⟩; skip))
          go_wp2_with fail
          (go_at_call 16; ((with_reducible refine (pf_caps hP.out (by omega)).mono ?_); rintro e Y1 ⟨A8, c8, rfl, hb, h, _⟩; clear hP; have hP := Asd.mk h; have hR1 := Asd.mk hb.row; clear h hb))
          go_wp2_with fail
          (go_at_call 24; ((with_reducible refine (pf_rcaps hP.out (by omega)).mono ?_); rintro e Y2 ⟨A9, c9, rfl, hr, h, hbl⟩; clear hP; have hP := Asd.mk h; have hR2 := Asd.mk hr; have hR3 := Asd.mk (hR1.out.below hbl); clear h hr hbl hR1))
          go_wp2_with fail
          (go_at_call 23; ((with_reducible refine (pf_same hP.out hR3.out hR2.out (by omega) (fun _ _ => rfl)).mono ?_); rintro e Y3 ⟨rfl, h⟩; clear hP; have hP := Asd.mk h; clear h; clear hR2 hR3))
          go_wp2_with fail
          go_roundg (gk - 1)
          case measure => exact gm
          case rel => exact ⟨k + 1, n, l, by simp, ⟨by omega, HM.out hk, by omega, HZ2.out⟩, ⟨hP.out.top_⟩⟩
        | false =>
          have HQ := Asd.mk hp
          clear hp
          have HLk := Asd.mk hR.out.2.2.1
          (go_at_call 17; ((with_reducible refine (pr_put hR.out (by omega) _ HQ.out).mono ?_); rintro e W7 ⟨rfl, h, hb⟩; have hP := Asd.mk h; have hBg := Asd.mk hb; clear h hb))
          go_wp2_with fail
          (go_at_call 18; ((with_reducible refine (pf_rput hP.out (by omega) hBg.out HLk.out _ HQ.out).mono ?_); rintro e W8 ⟨rfl, h⟩; clear hP; have hP := Asd.mk h; clear h))
          have HZ2 := Asd.mk (put_oks HQ.out HZ.out hR.out.2.2.1)
          simp only [Bool.false_eq_true, if_false] at hP HZ2
          clear hR hBg
          go_wp2_with fail
          (go_at_call 21; ((with_reducible refine (pf_many hP.out).mono ?_); rintro e w_ ⟨rfl, rfl⟩; skip))
          go_wp2_with fail
          (go_at_call 22; ((with_reducible refine (pf_rmany hP.out).mono ?_); rintro e w_ ⟨rfl, rfl⟩; skip))
          go_wp2_with fail
          (go_at_call 16; ((with_reducible refine (pf_caps hP.out (by omega)).mono ?_); rintro e Y1 ⟨A8, c8, rfl, hb, h, _⟩; clear hP; have hP := Asd.mk h; have hR1 := Asd.mk hb.row; clear h hb))
          go_wp2_with fail
          (go_at_call 24; ((with_reducible refine (pf_rcaps hP.out (by omega)).mono ?_); rintro e Y2 ⟨A9, c9, rfl, hr, h, hbl⟩; clear hP; have hP := Asd.mk h; have hR2 := Asd.mk hr; have hR3 := Asd.mk (hR1.out.below hbl); clear h hr hbl hR1))
          go_wp2_with fail
          (go_at_call 23; ((with_reducible refine (pf_same hP.out hR3.out hR2.out (by omega) (fun _ _ => rfl)).mono ?_); rintro e Y3 ⟨rfl, h⟩; clear hP; have hP := Asd.mk h; clear h; clear hR2 hR3))
          go_wp2_with fail
          go_roundg (gk - 1)
          case measure => exact gm
          case rel => exact ⟨k + 1, n, z, by simp, ⟨by omega, HM.out hk, by omega, HZ2.out⟩, ⟨hP.out.top_⟩⟩
      have e4 : (v.q == 4) = false := by simp [hq4]
      clear hq4 hq
      cases hp : pushB n v.f with
      | true =>
        have hn16 : n < 16 := by unfold pushB at hp; simp at hp; exact hp.1
        have HQ := Asd.mk hp
        clear hp
        go_wp2_with (first | (refine ld34 rfl (.tmp 38) rfl B (o + k * 38) rfl v HC.out ?_) | (refine st34 rfl (.tmp 7) (.tmp 39) rfl wr.heap.size rfl v rfl (Blk.new wr 34 _) rfl ?_; intro W4 hb ht; have hV := Asd.mk hb; have q0 := ob_q hb; have hP2 := Asd.mk (hP.out.box ht); clear hb ht hP; have hP := hP2; clear hP2) | (refine ld32 rfl (.tmp 43) rfl wr.heap.size 1 rfl v.f (ob_f hV.out) ?_) | (refine ld32 rfl (.tmp 47) rfl wr.heap.size 1 rfl v.f (ob_f hV.out) ?_))
        (go_at_call 19; ((with_reducible refine (pf_push hP.out v.f hof _ HQ.out).mono ?_); rintro e W5 ⟨rfl, h, hk⟩; clear hP; have hP := Asd.mk h; clear h; have hH := Asd.mk (hk _ _ _ (by decide) (by omega) (by omega) hV.out); clear hk hV q0; have hV := hH; clear hH))
        go_wp2_with (first | (refine ld32 rfl (.tmp 43) rfl wr.heap.size 1 rfl v.f (ob_f hV.out) ?_) | (refine ld32 rfl (.tmp 47) rfl wr.heap.size 1 rfl v.f (ob_f hV.out) ?_))
        (go_at_call 20; ((with_reducible refine (pf_rpush hP.out v.f _ (by omega) HQ.out).mono ?_); rintro e W6 ⟨rfl, h⟩; clear hP; have hP := Asd.mk h; clear h))
        simp only [if_true] at hP
        go_wp2_with fail
        (go_at_call 21; ((with_reducible refine (pf_many hP.out).mono ?_); rintro e w_ ⟨rfl, rfl⟩; skip))
        go_wp2_with fail
        (go_at_call 22; ((with_reducible refine (pf_rmany hP.out).mono ?_); rintro e w_ ⟨rfl, rfl⟩; skip))
        go_wp2_with fail
        (go_at_call 16; ((with_reducible refine (pf_caps hP.out (by omega)).mono ?_); rintro e Y1 ⟨A8, c8, rfl, hb, h, _⟩; clear hP; have hP := Asd.mk h; have hR1 := Asd.mk hb.row; clear h hb))
        go_wp2_with fail
        (go_at_call 24; ((with_reducible refine (pf_rcaps hP.out (by omega)).mono ?_); rintro e Y2 ⟨A9, c9, rfl, hr, h, hbl⟩; clear hP; have hP := Asd.mk h; have hR2 := Asd.mk hr; have hR3 := Asd.mk (hR1.out.below hbl); clear h hr hbl hR1))
        go_wp2_with fail
        (go_at_call 23; ((with_reducible refine (pf_same hP.out hR3.out hR2.out (by omega) (fun _ _ => rfl)).mono ?_); rintro e Y3 ⟨rfl, h⟩; clear hP; have hP := Asd.mk h; clear h; clear hR2 hR3))
        go_wp2_with fail
        go_roundg (gk - 1)
        case measure => exact gm
        case rel => exact ⟨k + 1, n + 1, updf z n v.f, by simp, ⟨by omega, HM.out hk, by omega, HZ.out.push hof⟩, ⟨hP.out.top_⟩⟩
      | false =>
        have HQ := Asd.mk hp
        clear hp
        go_wp2_with (first | (refine ld34 rfl (.tmp 38) rfl B (o + k * 38) rfl v HC.out ?_) | (refine st34 rfl (.tmp 7) (.tmp 39) rfl wr.heap.size rfl v rfl (Blk.new wr 34 _) rfl ?_; intro W4 hb ht; have hV := Asd.mk hb; have q0 := ob_q hb; have hP2 := Asd.mk (hP.out.box ht); clear hb ht hP; have hP := hP2; clear hP2) | (refine ld32 rfl (.tmp 43) rfl wr.heap.size 1 rfl v.f (ob_f hV.out) ?_) | (refine ld32 rfl (.tmp 47) rfl wr.heap.size 1 rfl v.f (ob_f hV.out) ?_))
        (go_at_call 19; ((with_reducible refine (pf_push hP.out v.f hof _ HQ.out).mono ?_); rintro e W5 ⟨rfl, h, hk⟩; clear hP; have hP := Asd.mk h; clear h; have hH := Asd.mk (hk _ _ _ (by decide) (by omega) (by omega) hV.out); clear hk hV q0; have hV := hH; clear hH))
        go_wp2_with (first | (refine ld32 rfl (.tmp 43) rfl wr.heap.size 1 rfl v.f (ob_f hV.out) ?_) | (refine ld32 rfl (.tmp 47) rfl wr.heap.size 1 rfl v.f (ob_f hV.out) ?_))
        (go_at_call 20; ((with_reducible refine (pf_rpush hP.out v.f _ (by omega) HQ.out).mono ?_); rintro e W6 ⟨rfl, h⟩; clear hP; have hP := Asd.mk h; clear h))
        simp only [Bool.false_eq_true, if_false] at hP
        go_wp2_with fail
        (go_at_call 21; ((with_reducible refine (pf_many hP.out).mono ?_); rintro e w_ ⟨rfl, rfl⟩; skip))
        go_wp2_with fail
        (go_at_call 22; ((with_reducible refine (pf_rmany hP.out).mono ?_); rintro e w_ ⟨rfl, rfl⟩; skip))
        go_wp2_with fail
        (go_at_call 16; ((with_reducible refine (pf_caps hP.out (by omega)).mono ?_); rintro e Y1 ⟨A8, c8, rfl, hb, h, _⟩; clear hP; have hP := Asd.mk h; have hR1 := Asd.mk hb.row; clear h hb))
        go_wp2_with fail
        (go_at_call 24; ((with_reducible refine (pf_rcaps hP.out (by omega)).mono ?_); rintro e Y2 ⟨A9, c9, rfl, hr, h, hbl⟩; clear hP; have hP := Asd.mk h; have hR2 := Asd.mk hr; have hR3 := Asd.mk (hR1.out.below hbl); clear h hr hbl hR1))
        go_wp2_with fail
        (go_at_call 23; ((with_reducible refine (pf_same hP.out hR3.out hR2.out (by omega) (fun _ _ => rfl)).mono ?_); rintro e Y3 ⟨rfl, h⟩; clear hP; have hP := Asd.mk h; clear h; clear hR2 hR3))
        go_wp2_with fail
        go_roundg (gk - 1)
        case measure => exact gm
        case rel => exact ⟨k + 1, n, z, by simp, ⟨by omega, HM.out hk, by omega, HZ.out⟩, ⟨hP.out.top_⟩⟩
    · have k1 : ¬ (k : Int) < (len : Int) := by omega
      go_wp2_with fail
      go_ret
      exact ⟨by simp, hP.out.2.2.2⟩
end Go.Proofs.Ytijcniflghjoaaa.Fr
