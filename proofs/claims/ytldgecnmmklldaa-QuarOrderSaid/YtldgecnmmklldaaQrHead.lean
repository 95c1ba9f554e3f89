/- The head of layer 13's laws. -/
import Derived.Test.YtldgecnmmklldaaQrOps
namespace Go.Proofs.Ytldgecnmmklldaa.Qr
open Go.RowKit
set_option linter.unusedVariables false
set_option linter.unusedSimpArgs false
def x1 : HV := ⟨16, 32, 2⟩
def x2 : HV := ⟨64, 16, 3⟩
def x3 : HV := ⟨96, 16, 2⟩
def z0 : Nat → HV := fun _ => HV.zero
def z1 : Nat → HV := upd z0 0 x1
def z2 : Nat → HV := upd z1 1 x2
def y1 : Nat → HV := fun _ => x2
theorem hput1 (g base : Nat) (w : World) (h : QS w g base 48 0 0 z0) : Calls Try.prog 15 #[.pointer (some ⟨g, 0, none⟩), .agg #[.int .i64 16, .int .i64 32, .int .i64 2]] w fun e w' => e = .returned (.bool true) ∧ QS w' g base 48 32 1 z1 ∧ Turn (fun i => i = g ∨ base ≤ i) w w' := put_qsY g base 48 0 32 0 z0 x1 w h (by omega) (by decide) (by simp [wrap64, sumL, upto, y1, z2, z1, upd, x1, x2, List.range_succ])
theorem hput2 (g base : Nat) (w : World) (h : QS w g base 48 32 1 z1) : Calls Try.prog 15 #[.pointer (some ⟨g, 0, none⟩), .agg #[.int .i64 64, .int .i64 16, .int .i64 3]] w fun e w' => e = .returned (.bool true) ∧ QS w' g base 48 48 2 z2 ∧ Turn (fun i => i = g ∨ base ≤ i) w w' := put_qsY g base 48 32 48 1 z1 x2 w h (by omega) (by decide) (by simp [wrap64, sumL, upto, y1, z2, z1, upd, x1, x2, List.range_succ])
theorem hput3 (g base : Nat) (w : World) (h : QS w g base 48 48 2 z2) : Calls Try.prog 15 #[.pointer (some ⟨g, 0, none⟩), .agg #[.int .i64 96, .int .i64 16, .int .i64 2]] w fun e w' => e = .returned (.bool false) ∧ QS w' g base 48 48 2 z2 ∧ Turn (fun i => i = g ∨ base ≤ i) w w' :=
  put_qsN g base 48 48 2 z2 x3 w h (by omega) (by decide)
theorem hfull1 (g base : Nat) (w : World) (h : QS w g base 48 48 2 z2) : Calls Try.prog 25 #[.pointer (some ⟨g, 0, none⟩)] w fun e w' => e = .returned (.bool true) ∧ Below w.heap.size w w' := full_qs g base 48 48 2 z2 w h
theorem hfull2 (g base : Nat) (w : World) (h : QS w g base 48 16 1 y1) : Calls Try.prog 25 #[.pointer (some ⟨g, 0, none⟩)] w fun e w' => e = .returned (.bool false) ∧ Below w.heap.size w w' := full_qs g base 48 16 1 y1 w h
theorem z2_ok : ∀ i, i < 2 → (z2 i).ok := fun i hi => by obtain rfl | rfl : i = 0 ∨ i = 1 := by omega
                                                         all_goals exact ⟨⟨by decide, by decide⟩, ⟨by decide, by decide⟩, ⟨by decide, by decide⟩⟩
theorem y1_ok : ∀ i, i < 1 → (y1 i).ok := fun i hi => show x2.ok from ⟨⟨by decide, by decide⟩, ⟨by decide, by decide⟩, ⟨by decide, by decide⟩⟩
theorem hdue4 (g base : Nat) (w : World) (h : QS w g base 48 48 2 z2) : Calls Try.prog 20 #[.pointer (some ⟨g, 0, none⟩), .int .i64 4] w fun e w' => ∃ A cap, e = .returned (.slice A 1 cap) ∧ Bag w' base A 1 cap z1 ∧ QS w' g base 48 16 1 y1 ∧ Turn (fun i => i = g) w w' := by
  refine (due_qs g base 48 48 2 z2 4 w h (by omega) z2_ok ⟨by decide, by decide⟩).mono ?_
  rintro e w' ⟨k, ⟨k0, k1, k2⟩, ⟨A, cap, he, hb⟩, hq, ht⟩
  have e0 : whenN (z2 0).t = 4 := by decide
  have e1 : whenN (z2 1).t = 6 := by decide
  obtain rfl : k = 1 := by
    rcases Nat.lt_or_ge 1 k with h | h
    · have := k1 1 h; omega
    · rcases Nat.eq_zero_or_pos k with h | h
      · subst h; have := k2 (by omega); omega
      · omega
  exact ⟨A, cap, he, (hb.lower h.2.1).mono (Nat.le_refl _) (fun i hi => by obtain rfl : i = 0 := by omega
                                                                           rfl), hq.cast (by simp [wrap64, sumL, upto, y1, z2, z1, upd, x1, x2, List.range_succ]) rfl (fun i hi => by
    obtain rfl : i = 0 := (by omega : i = 0)
    rfl), ht⟩
theorem hdue5 (g base : Nat) (w : World) (h : QS w g base 48 16 1 y1) : Calls Try.prog 20 #[.pointer (some ⟨g, 0, none⟩), .int .i64 5] w fun e w' => ∃ A cap, e = .returned (.slice A 0 cap) ∧ QS w' g base 48 16 1 y1 ∧ Turn (fun i => i = g) w w' := by
  refine (due_qs g base 48 16 1 y1 5 w h (by omega) y1_ok ⟨by decide, by decide⟩).mono ?_
  rintro e w' ⟨k, ⟨k0, k1, k2⟩, ⟨A, cap, he, hb⟩, hq, ht⟩
  have e1 : whenN (y1 0).t = 6 := by decide
  obtain rfl : k = 0 := by
    rcases Nat.eq_zero_or_pos k with h | h
    · exact h
    · have := k1 0 h; omega
  exact ⟨A, cap, he, hq.cast (by simp [wrap64, sumL, upto, y1, z2, z1, upd, x1, x2, List.range_succ]) rfl (fun i hi => rfl), ht⟩
theorem hdue6 (g base : Nat) (w : World) (h : QS w g base 48 16 1 y1) : Calls Try.prog 20 #[.pointer (some ⟨g, 0, none⟩), .int .i64 6] w fun e w' => ∃ A cap, e = .returned (.slice A 1 cap) ∧ QS w' g base 48 0 0 y1 ∧ Turn (fun i => i = g) w w' := by
  refine (due_qs g base 48 16 1 y1 6 w h (by omega) y1_ok ⟨by decide, by decide⟩).mono ?_
  rintro e w' ⟨k, ⟨k0, k1, k2⟩, ⟨A, cap, he, hb⟩, hq, ht⟩
  have e1 : whenN (y1 0).t = 6 := by decide
  obtain rfl : k = 1 := by
    rcases Nat.eq_zero_or_pos k with h | h
    · subst h; have := k2 (by omega); omega
    · omega
  exact ⟨A, cap, he, hq.cast (by simp [wrap64, sumL, upto, y1, z2, z1, upd, x1, x2, List.range_succ]) rfl (fun i hi => rfl), ht⟩
theorem blk_row1 {w : World} {s : Nat} {x : HV} {z : Nat → HV} (h : Blk w s 23 #[.int .i64 x.a, .int .i64 x.n, .int .i64 x.t]) (hz : z 0 = x) : Row w (some ⟨s, 0, none⟩) 1 z := fun i hi => by
  obtain rfl : i = 0 := by omega
  rw [hz]
  exact ⟨s, 0, rfl, h.lt, h.cell 0, h.cell 1, h.cell 2⟩
theorem hsame (A : Option Addr) (cap base s : Nat) (w : World) (h : Bag w base A 1 cap z1) (hs : Blk w s 23 #[.int .i64 16, .int .i64 32, .int .i64 2]) : Calls Try.prog 19 #[.slice A 1 cap, .slice (some ⟨s, 0, none⟩) 1 1] w fun e w' => e = .returned (.bool true) ∧ Below w.heap.size w w' :=
  same_yes A _ 1 cap 1 z1 z1 w h.row (blk_row1 (x := x1) hs rfl) (by omega) (fun _ _ => rfl)
theorem tq (m : Nat) : ∀ i, (i = m ∨ m + 1 ≤ i) → m ≤ i := fun i hi => by omega
set_option maxRecDepth 100000 in
set_option maxHeartbeats 1000000 in
theorem head_calls (w : World) : Calls Try.prog 13 #[] w fun e w' => e = .returned (.bool true) ∧ Below w.heap.size w w' := by
  have hu26 := Try.underlying26
  go_enter Try.func13, Try.ntmps13
  go_wp2_with fail
  (go_at_call 14; ((with_reducible refine (new_qs 48 w (by omega) (by omega) z0).mono ?_); rintro e_ w1 ⟨rfl, q_, b_⟩; have HQ := Asd.mk q_; have HB := Asd.mk b_; clear q_ b_))
  go_wp2_with fail
  (go_at_call 14; ((with_reducible refine (newN 0 _ (by omega)).mono ?_); rintro e_ w_ ⟨rfl, rfl⟩))
  go_wp2_with fail
  (go_at_call 15; ((with_reducible refine (hput1 _ _ _ HQ.out).mono ?_); rintro e_ w2 ⟨rfl, q_, t_⟩; have b_ := t_.below HB.out (tq _); clear HQ HB; have HQ := Asd.mk q_; have HB := Asd.mk b_; clear q_ t_ b_))
  go_wp2_with fail
  (go_at_call 15; ((with_reducible refine (hput2 _ _ _ HQ.out).mono ?_); rintro e_ w3 ⟨rfl, q_, t_⟩; have b_ := t_.below HB.out (tq _); clear HQ HB; have HQ := Asd.mk q_; have HB := Asd.mk b_; clear q_ t_ b_))
  go_wp2_with fail
  (go_at_call 15; ((with_reducible refine (hput3 _ _ _ HQ.out).mono ?_); rintro e_ w4 ⟨rfl, q_, t_⟩; have b_ := t_.below HB.out (tq _); clear HQ HB; have HQ := Asd.mk q_; have HB := Asd.mk b_; clear q_ t_ b_))
  go_wp2_with fail
  (go_at_call 25; ((with_reducible refine (hfull1 _ _ _ HQ.out).mono ?_); rintro e_ w5 ⟨rfl, b_⟩; have q_ := HQ.out.below b_; have b2_ := HB.out.trans (b_.mono HB.out.size); clear HQ HB; have HQ := Asd.mk q_; have HB := Asd.mk b2_; clear q_ b_ b2_))
  go_wp2_with fail
  (go_at_call 20; ((with_reducible refine (hdue4 _ _ _ HQ.out).mono ?_); rintro e_ w6 ⟨A, cap, rfl, l_, q_, t_⟩; have b_ := t_.below HB.out (fun i hi => by subst hi; exact Nat.le_refl _); clear HQ HB; have HQ := Asd.mk q_; have HB := Asd.mk b_; have HL := Asd.mk l_; clear q_ t_ b_ l_))
  go_wp2_with fail
  (go_at_call 20; ((with_reducible refine (hdue5 _ _ _ HQ.out).mono ?_); rintro e_ w7 ⟨A2, cap2, rfl, q_, t_⟩; have b_ := t_.below HB.out (fun i hi => by subst hi; exact Nat.le_refl _); have l_ := HL.out.keep (fun k hk hl => t_.block k hl (fun e => by have := (HL.out.lt hk).2; omega)); clear HQ HB HL; have HQ := Asd.mk q_; have HB := Asd.mk b_; have HL := Asd.mk l_; clear q_ t_ b_ l_))
  go_wp2_with fail
  (go_at_call 19; ((with_reducible refine (hsame _ _ _ _ _ (HL.out.alloc _) (Blk.new _ _ _)).mono ?_); rintro e_ w8 ⟨rfl, b_⟩; have q_ := (HQ.out.alloc _).below b_; have b2_ := (balloc HB.out _).trans (b_.mono (balloc HB.out _).size); clear HQ HB HL; have HQ := Asd.mk q_; have HB := Asd.mk b2_; clear q_ b_ b2_))
  go_wp2_with fail
  (go_at_call 17; ((with_reducible refine (bytes_qs _ _ _ _ _ _ _ HQ.out).mono ?_); rintro e_ w_ ⟨rfl, rfl⟩))
  go_wp2_with fail
  (go_at_call 16; ((with_reducible refine (many_qs _ _ _ _ _ _ _ HQ.out).mono ?_); rintro e_ w_ ⟨rfl, rfl⟩))
  go_wp2_with fail
  (go_at_call 25; ((with_reducible refine (hfull2 _ _ _ HQ.out).mono ?_); rintro e_ w9 ⟨rfl, b_⟩; have q_ := HQ.out.below b_; have b2_ := HB.out.trans (b_.mono HB.out.size); clear HQ HB; have HQ := Asd.mk q_; have HB := Asd.mk b2_; clear q_ b_ b2_))
  go_wp2_with fail
  (go_at_call 20; ((with_reducible refine (hdue6 _ _ _ HQ.out).mono ?_); rintro e_ w10 ⟨A3, cap3, rfl, q_, t_⟩; have b_ := t_.below HB.out (fun i hi => by subst hi; exact Nat.le_refl _); clear HQ HB; have HQ := Asd.mk q_; have HB := Asd.mk b_; clear q_ t_ b_))
  go_wp2_with fail
  (go_at_call 17; ((with_reducible refine (bytes_qs _ _ _ _ _ _ _ HQ.out).mono ?_); rintro e_ w_ ⟨rfl, rfl⟩))
  go_wp2_with fail
  go_ret
  exact ⟨by simp, HB.out⟩
end Go.Proofs.Ytldgecnmmklldaa.Qr
