/- The walk of FramesFull. -/
import Derived.Test.YtijcniflghjoaaaFrHead
namespace Go.Proofs.Ytijcniflghjoaaa.Fr
open Go.RowKit Go.Proofs.Ytijcniflghjoaaa.Rg Go.Proofs.YtijcniflghjoaaaW.PrintLast
set_option linter.unusedVariables false
set_option linter.unusedSimpArgs false
/-- All frames are f. -/
def zf (f : Nat → CV) : Nat → CV := fun i => f (i % 5)
theorem zf_upd (f : Nat → CV) (m : Nat) : ∀ i, i < (m + 1) * 30 → Fl (zf f) i = Fl (updf (zf f) m f) i := fun i hi => by
  unfold Fl updf zf
  split <;> rfl
/-- What stands: the stack of m frames, the box of the law's own. -/
def FF (w W : World) (g : Nat) (f : Nat → CV) (m : Nat) : Prop := w.heap.size < g ∧ FS W g (g + 1) W.heap.size m (zf f) ∧ Blk W w.heap.size 32 (fa f) ∧ Below w.heap.size w W
section
variable {w W W' : World} {g m : Nat} {f : Nat → CV}
theorem FF.below (h : FF w W g f m) (hb : Below W.heap.size W W') : FF w W' g f m := ⟨h.1, (h.2.1.below hb).raise hb.size, h.2.2.1.below hb h.2.2.1.lt, bcall h.2.2.2 hb⟩
theorem ff_box {o : Obj} (h : FF w W g f m) (ht : Turn (fun i => i = W.heap.size) (W.alloc o) W') : FF w W' g f m := h.below (turn_fresh ht)
theorem ff_turn {m' : Nat} (h : FF w W g f m) (hF : FS W' g (g + 1) W'.heap.size m' (zf f)) (ht : Turn (fun i => i = g ∨ g + 1 ≤ i) W W') : FF w W' g f m' :=
  ⟨h.1, hF, blk_keep h.2.2.1 (ht.block _ h.2.2.1.lt (by have := h.1; omega)), ht.below h.2.2.2 (fun i hi => by have := h.1; omega)⟩
theorem ff_pushY (h : FF w W g f m) (hok : ∀ i, i < 5 → (f i).ok) (hr : fright f = true) (hm : m < 16) : Calls Try.prog 19 #[.pointer (some ⟨g, 0, none⟩), .agg (fa f)] W fun e w' => e = .returned (.bool true) ∧ FF w w' g f (m + 1) :=
  (fs_pushY h.2.1 f hok (by unfold pushB; rw [hr, decide_eq_true hm]; rfl)).mono fun e w' ⟨he, hf, hk⟩ => ⟨he, ff_turn h (hf.same (zf_upd f m)) hk.turn⟩
theorem ff_pushN (h : FF w W g f m) (hok : ∀ i, i < 5 → (f i).ok) (hm : ¬ m < 16) : Calls Try.prog 19 #[.pointer (some ⟨g, 0, none⟩), .agg (fa f)] W fun e w' => e = .returned (.bool false) ∧ FF w w' g f m :=
  (fs_pushN h.2.1 f hok (by unfold pushB; rw [decide_eq_false hm]; rfl)).mono fun e w' ⟨he, hf, hb⟩ => ⟨he, h.below hb⟩
theorem ff_pop1 (h : FF w W g f (m + 1)) (hm : m ≤ 100) : Calls Try.prog 14 #[.pointer (some ⟨g, 0, none⟩)] W fun e w' => e = .returned (.tuple #[.agg (fa f), .bool true]) ∧ FF w w' g f m := by
  refine (fs_pop1 h.2.1 (by omega)).mono ?_
  rintro e w' ⟨he, hf, ht⟩
  have e0 : fa (fun i => zf f (m * 5 + i)) = fa f := fa_congr fun i hi => by unfold zf; rw [show (m * 5 + i) % 5 = i by omega]
  rw [e0] at he
  exact ⟨he, ff_turn h (hf.raise ht.size) (ht.mono fun i _ hi => .inl hi)⟩
theorem ff_pop0 (h : FF w W g f 0) : Calls Try.prog 14 #[.pointer (some ⟨g, 0, none⟩)] W fun e w' => e = .returned (.tuple #[.agg (fa fz), .bool false]) ∧ FF w w' g f 0 :=
  (fs_pop0 h.2.1).mono fun e w' ⟨he, hf, hb⟩ => ⟨he, h.below hb⟩
theorem ff_many (h : FF w W g f m) : Calls Try.prog 21 #[.pointer (some ⟨g, 0, none⟩)] W fun e w' => e = .returned (.int .i64 (m : Int)) ∧ w' = W := fs_many h.2.1
theorem ff_start {W1 W2 : World} (hX : Blk W1 w.heap.size 32 (fa f)) (hb : Below w.heap.size w W1) (hB : Blk W2 W1.heap.size 64 #[.slice none 0 0]) (hb2 : Below W1.heap.size W1 W2) : FF w W2 W1.heap.size f 0 :=
  ⟨hX.lt, FS.start hB (by omega) hB.lt _ _, hX.below hb2 hX.lt, bcall hb hb2⟩
end
theorem lright_is (f : Nat → CV) (b : Bool) (hb : fright f = b) (w : World) : Calls Try.prog 25 #[.agg (fa f)] w fun e w' => e = .returned (.bool b) ∧ Below w.heap.size w w' := hb ▸ lright_calls f w
set_option maxRecDepth 100000 in
set_option maxHeartbeats 2000000 in
theorem full_no (f : Nat → CV) (n k : Int) (w : World) (hok : ∀ i, i < 5 → (f i).ok) (hn : 0 ≤ n ∧ n ≤ 255) (hk : 0 ≤ k ∧ k ≤ 255) (hr : fright f = false) : Calls Try.prog 6 #[.agg (fa f), .int .u8 n, .int .u8 k] w fun e w' => e = .returned (.bool true) ∧ Below w.heap.size w w' := by
  have hu24 := Try.underlying24
  have HX := Asd.mk (Blk.new w 32 (fa f))
  have HB := Asd.mk (balloc (Below.refl w.heap.size w) (.cells (fa f) 32))
  go_enter Try.func6, Try.ntmps6
  go_wp2_with fail
  (go_at_call 11; ((with_reducible refine (head_calls _).mono ?_); rintro e W1 ⟨rfl, hb⟩; have HX1 := Asd.mk (HX.out.below hb HX.out.lt); have HB1 := Asd.mk (bcall HB.out hb); clear hb HX HB))
  go_wp2_with fail
  (go_at_call 12; ((with_reducible refine (new_calls _).mono ?_); rintro e W2 ⟨rfl, hB, hb⟩; have hF := Asd.mk (ff_start HX1.out HB1.out hB hb); clear hB hb HX1 HB1))
  generalize W1.heap.size = g at *
  go_wp2_with (first | (refine ldg32b (by rfl) (.tmp 3) rfl w.heap.size rfl f hF.out.2.2.1 ?_))
  (go_at_call 25; ((with_reducible refine (lright_is f _ hr _).mono ?_); rintro e W3 ⟨rfl, hb⟩; have hF2 := Asd.mk (hF.out.below hb); clear hb hF; have hF := hF2; clear hF2))
  go_wp2_with fail
  go_ret
  exact ⟨by simp, hF.out.2.2.2⟩
set_option maxRecDepth 100000 in
set_option maxHeartbeats 2000000 in
theorem full_yes (f : Nat → CV) (n k : Int) (w : World) (hok : ∀ i, i < 5 → (f i).ok) (hn : 0 ≤ n ∧ n ≤ 255) (hk : 0 ≤ k ∧ k ≤ 255) (hr : fright f = true) : Calls Try.prog 6 #[.agg (fa f), .int .u8 n, .int .u8 k] w fun e w' => e = .returned (.bool true) ∧ Below w.heap.size w w' := by
  obtain ⟨R, hR⟩ : ∃ R : Nat, Asd (n.tmod 40 = (R : Int) ∧ R < 40) := ⟨(n.tmod 40).toNat, ⟨by have := Int.tmod_eq_emod_of_nonneg hn.1 (b := 40); omega, by have := Int.tmod_eq_emod_of_nonneg hn.1 (b := 40); omega⟩⟩
  obtain ⟨R2, hR2⟩ : ∃ R : Nat, Asd (k.tmod 40 = (R : Int) ∧ R < 40) := ⟨(k.tmod 40).toNat, ⟨by have := Int.tmod_eq_emod_of_nonneg hk.1 (b := 40); omega, by have := Int.tmod_eq_emod_of_nonneg hk.1 (b := 40); omega⟩⟩
  have en := hR.out.1
  have ek := hR2.out.1
  have r0 := hR.out.2
  have r1 := hR2.out.2
  have rb0 : (R : Int) < 40 := by omega
  have rb1 : (R2 : Int) < 40 := by omega
  have hne := neq32 f
  have hu24 := Try.underlying24
  have HX := Asd.mk (Blk.new w 32 (fa f))
  have HB := Asd.mk (balloc (Below.refl w.heap.size w) (.cells (fa f) 32))
  go_enter Try.func6, Try.ntmps6
  go_wp2_with fail
  (go_at_call 11; ((with_reducible refine (head_calls _).mono ?_); rintro e W1 ⟨rfl, hb⟩; have HX1 := Asd.mk (HX.out.below hb HX.out.lt); have HB1 := Asd.mk (bcall HB.out hb); clear hb HX HB))
  go_wp2_with fail
  (go_at_call 12; ((with_reducible refine (new_calls _).mono ?_); rintro e W2 ⟨rfl, hB, hb⟩; have hF := Asd.mk (ff_start HX1.out HB1.out hB hb); clear hB hb HX1 HB1))
  generalize W1.heap.size = g at *
  go_wp2_with (first | (refine ldg32b (by rfl) (.tmp 3) rfl w.heap.size rfl f hF.out.2.2.1 ?_))
  (go_at_call 25; ((with_reducible refine (lright_is f _ hr _).mono ?_); rintro e W3 ⟨rfl, hb⟩; have hF2 := Asd.mk (hF.out.below hb); clear hb hF; have hF := hF2; clear hF2))
  go_wp2_with fail
  go_loopg [9, 10] (R + 1) (fun kq v9 v10 w' => ∃ (i m : Nat), v9 = .int .i64 (m : Int) ∧ v10 = .int .i64 (i : Int) ∧ Asd (i ≤ R ∧ kq + i = R + 1 ∧ m ≤ 16) ∧ Asd (FF w w' g f m))
  case atStart => exact ⟨0, 0, rfl, rfl, ⟨by omega, by omega, by omega⟩, hF⟩
  case round =>
    obtain ⟨i, m, rfl, rfl, HI, hF1⟩ := hrel
    clear hF
    have hF := hF1
    clear hF1
    have i0 := HI.out.1
    have m0 := HI.out.2.2
    have gm : gk - 1 < gk := by have := HI.out.2.1; omega
    by_cases hi : i < R
    · have i1 : (i : Int) < (R : Int) := by omega
      by_cases hm : m < 16
      · have m1 : decide ((m : Int) < 16) = true := by simp; omega
        have m1n : decide (m < 16) = true := by simp; omega
        have m2 : min ((m : Int) + 1) 16 = (m : Int) + 1 := by omega
        go_wp2_with (first | (refine ld32b rfl (.tmp 3) rfl w.heap.size rfl f hF.out.2.2.1 ?_))
        (go_at_call 19; ((with_reducible refine (ff_pushY hF.out hok hr hm).mono ?_); rintro e W4 ⟨rfl, h⟩; clear hF; have hF := Asd.mk h; clear h))
        go_wp2_with fail
        go_roundg (gk - 1)
        case measure => exact gm
        case rel => exact ⟨i + 1, m + 1, by simp, by simp, ⟨by omega, by have := HI.out.2.1; omega, by omega⟩, hF⟩
      · have m1 : decide ((m : Int) < 16) = false := by simp; omega
        have m1n : decide (m < 16) = false := by simp; omega
        have m2 : min ((m : Int) + 1) 16 = (m : Int) := by omega
        go_wp2_with (first | (refine ld32b rfl (.tmp 3) rfl w.heap.size rfl f hF.out.2.2.1 ?_))
        (go_at_call 19; ((with_reducible refine (ff_pushN hF.out hok hm).mono ?_); rintro e W4 ⟨rfl, h⟩; clear hF; have hF := Asd.mk h; clear h))
        go_wp2_with fail
        go_roundg (gk - 1)
        case measure => exact gm
        case rel => exact ⟨i + 1, m, by simp, by simp, ⟨by omega, by have := HI.out.2.1; omega, by omega⟩, hF⟩
    · obtain rfl : i = R := by omega
      have i1 : ¬ (i : Int) < (i : Int) := by omega
      clear gm
      go_wp2_with fail
      go_loopg [9, 11] (R2 + 1) (fun kq v9 v11 w' => ∃ (j m : Nat), v9 = .int .i64 (m : Int) ∧ v11 = .int .i64 (j : Int) ∧ Asd (j ≤ R2 ∧ kq + j = R2 + 1 ∧ m ≤ 16) ∧ Asd (FF w w' g f m))
      case atStart => exact ⟨0, m, rfl, rfl, ⟨by omega, by omega, by omega⟩, hF⟩
      case round =>
        obtain ⟨j, m, rfl, rfl, HJ, hF1⟩ := hrel
        clear hF i1
        have hF := hF1
        clear hF1
        have j0 := HJ.out.1
        have mm := HJ.out.2.2
        have gm : gk - 1 < gk := by have := HJ.out.2.1; omega
        by_cases hj : j < R2
        · have j1 : (j : Int) < (R2 : Int) := by omega
          rcases Nat.eq_zero_or_pos m with hm | hm
          · subst hm
            go_wp2_with fail
            (go_at_call 14; ((with_reducible refine (ff_pop0 hF.out).mono ?_); rintro e W5 ⟨rfl, h⟩; clear hF; have hF := Asd.mk h; clear h))
            go_wp2_with (refine st32 rfl (.tmp 12) (.tmp 54) rfl W5.heap.size rfl fz rfl (Blk.new W5 32 _) rfl ?_; intro W6 hb ht; have hF2 := Asd.mk (ff_box hF.out ht); clear hb ht hF; have hF := hF2; clear hF2)
            go_roundg (gk - 1)
            case measure => exact gm
            case rel => exact ⟨j + 1, 0, by first | (simp; done) | (simp; decide), by simp, ⟨by omega, by have := HJ.out.2.1; omega, by omega⟩, hF⟩
          · obtain ⟨p, rfl⟩ : ∃ p, m = p + 1 := ⟨m - 1, by omega⟩
            have m1 : decide (0 < (p : Int) + 1) = true := decide_eq_true (by omega)
            have m2 : max (p : Int) 0 = (p : Int) := by omega
            have m3 : (p : Int) + 1 - 1 = (p : Int) := by omega
            have m4 : (0 : Int) < (p : Int) + 1 := by omega
            go_wp2_with fail
            (go_at_call 14; ((with_reducible refine (ff_pop1 hF.out (by omega)).mono ?_); rintro e W5 ⟨rfl, h⟩; clear hF; have hF := Asd.mk h; clear h))
            go_wp2_with (first | (refine st32 rfl (.tmp 12) (.tmp 54) rfl W5.heap.size rfl f rfl (Blk.new W5 32 _) rfl ?_; intro W6 hb ht; have hG := Asd.mk hb; have hF2 := Asd.mk (ff_box hF.out ht); clear hb ht hF; have hF := hF2; clear hF2) | (refine ldg32b (by rfl) (.tmp 12) rfl W5.heap.size rfl f hG.out ?_) | (refine ldg32b (by rfl) (.tmp 3) rfl w.heap.size rfl f hF.out.2.2.1 ?_))
            go_roundg (gk - 1)
            case measure => exact gm
            case rel => exact ⟨j + 1, p, by simp, by simp, ⟨by omega, by have := HJ.out.2.1; omega, by omega⟩, hF⟩
        · obtain rfl : j = R2 := by omega
          have j1 : ¬ (j : Int) < (j : Int) := by omega
          by_cases hm : m < 16
          · have m1 : decide ((m : Int) < 16) = true := by simp; omega
            have m1n : decide (m < 16) = true := by simp; omega
            go_wp2_with fail
            (go_at_call 21; ((with_reducible refine (ff_many hF.out).mono ?_); rintro e w_ ⟨rfl, rfl⟩))
            go_wp2_with (refine ldg32b (by rfl) (.tmp 3) rfl w.heap.size rfl f hF.out.2.2.1 ?_)
            (go_at_call 19; ((with_reducible refine (ff_pushY hF.out hok hr hm).mono ?_); rintro e W4 ⟨rfl, h⟩; clear hF; have hF := Asd.mk h; clear h))
            go_wp2_with fail
            go_ret
            exact ⟨by simp, hF.out.2.2.2⟩
          · have m1 : decide ((m : Int) < 16) = false := by simp; omega
            have m1n : decide (m < 16) = false := by simp; omega
            go_wp2_with fail
            (go_at_call 21; ((with_reducible refine (ff_many hF.out).mono ?_); rintro e w_ ⟨rfl, rfl⟩))
            go_wp2_with (refine ldg32b (by rfl) (.tmp 3) rfl w.heap.size rfl f hF.out.2.2.1 ?_)
            (go_at_call 19; ((with_reducible refine (ff_pushN hF.out hok hm).mono ?_); rintro e W4 ⟨rfl, h⟩; clear hF; have hF := Asd.mk h; clear h))
            go_wp2_with fail
            go_ret
            exact ⟨by simp, hF.out.2.2.2⟩
theorem framesFull_calls (f : Nat → CV) (n k : Int) (w : World) (hok : ∀ i, i < 5 → (f i).ok) (hn : 0 ≤ n ∧ n ≤ 255) (hk : 0 ≤ k ∧ k ≤ 255) : Calls Try.prog 6 #[.agg (fa f), .int .u8 n, .int .u8 k] w fun e w' => e = .returned (.bool true) ∧ Below w.heap.size w w' := by
  cases hr : fright f with
  | false => exact full_no f n k w hok hn hk hr
  | true => exact full_yes f n k w hok hn hk hr
end Go.Proofs.Ytijcniflghjoaaa.Fr
