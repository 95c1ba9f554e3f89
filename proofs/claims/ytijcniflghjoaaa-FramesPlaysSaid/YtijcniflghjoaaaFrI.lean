/- The document's Put and Pop. -/
import Derived.Test.YtijcniflghjoaaaFrH
import Derived.Test.YtijcniflghjoaaaFrE
namespace Go.Proofs.Ytijcniflghjoaaa.Fr
open Go.RowKit Go.Proofs.Ytijcniflghjoaaa.Rg Go.Proofs.YtijcniflghjoaaaW.PrintLast
set_option linter.unusedVariables false
set_option linter.unusedSimpArgs false
theorem rput_len (g : Nat) (A A' : Option Addr) (n cap m c : Nat) (w : World) (hB : Blk w g 66 #[.slice A n cap]) (hm : m ≠ n * 5) (hn : n ≤ 1000) : Calls Try.prog 18 #[.pointer (some ⟨g, 0, none⟩), .slice A' m c] w fun e w' => e = .returned (.bool false) ∧ Below w.heap.size w w' := by
  have c0 := hB.cell 0
  simp at c0
  have e1 : ((m : Int) != 5 * (n : Int)) = true := by simp; omega
  clear hB
  go_enter Try.func18, Try.ntmps18
  go_wp2
  all_goals try (exfalso; omega)
  go_ret
  exact ⟨by simp, Below.refl _ _⟩
theorem allR_all {l : Nat → CV} : ∀ {n : Nat}, allR l n = true → ∀ i, i < n → (l i).right = true
  | 0, _, i, hi => by omega
  | n + 1, h, i, hi => by
    have h2 : (allR l n && (l n).right) = true := h
    rw [Bool.and_eq_true] at h2
    rcases Nat.lt_or_ge i n with h3 | h3
    · exact allR_all h2.1 i h3
    · obtain rfl : i = n := by omega
      exact h2.2
theorem row_six {w : World} {B o m : Nat} {l : Nat → CV} (h : Row w (some ⟨B, o, none⟩) m l) {q j : Nat} (hq : q + j < m) : ∀ i, i < 6 → w.cell? ⟨B, o + (q + j) * 6 + i, none⟩ = some ((l (q + j)).cell i) := fun i hi => by
  obtain ⟨B', o', e, _, c0, c1, c2, c3, c4, c5⟩ := h (q + j) hq
  simp only [Option.some.injEq, Addr.mk.injEq, and_true] at e
  obtain ⟨rfl, rfl⟩ := e
  obtain rfl | rfl | rfl | rfl | rfl | rfl : i = 0 ∨ i = 1 ∨ i = 2 ∨ i = 3 ∨ i = 4 ∨ i = 5 := by omega
  · exact c0
  · exact c1
  · exact c2
  · exact c3
  · exact c4
  · exact c5
section
variable {a : Act} {oi : Oper} {w : World}
theorem ld29x_run (x : Operand) (ho : oi.op = .load 29 x) (b k : Nat) (hx : a.eval x = .pointer (some ⟨b, k, none⟩)) (v : CV) (hc : ∀ i, i < 6 → w.cell? ⟨b, k + i, none⟩ = some (v.cell i)) : (execOp a.eval oi).run Try.prog w = .ok (.value (.agg #[.bool v.t, .int .i64 v.b, .int .i64 v.c, .int .i64 v.d, .int .i64 v.e, .int .i64 v.f])) w :=
  ld29_run x ho b k hx (fun _ => v) (fun i hi => by rw [hc i hi]; unfold Fl; rw [show i % 6 = i by omega])
theorem b30 (f : Nat → CV) (w : World) : (Instr.build 30 #[(0, .agg #[.bool (f 1).t, .int .i64 (f 1).b, .int .i64 (f 1).c, .int .i64 (f 1).d, .int .i64 (f 1).e, .int .i64 (f 1).f]), (1, .agg #[.bool (f 2).t, .int .i64 (f 2).b, .int .i64 (f 2).c, .int .i64 (f 2).d, .int .i64 (f 2).e, .int .i64 (f 2).f]), (2, .agg #[.bool (f 3).t, .int .i64 (f 3).b, .int .i64 (f 3).c, .int .i64 (f 3).d, .int .i64 (f 3).e, .int .i64 (f 3).f]), (3, .agg #[.bool (f 4).t, .int .i64 (f 4).b, .int .i64 (f 4).c, .int .i64 (f 4).d, .int .i64 (f 4).e, .int .i64 (f 4).f])]).run Try.prog w = .ok (.agg (fb f)) w := by kernel_rfl
theorem b30_run (x y u v : Operand) (ho : oi.op = .build 30 #[(0, x), (1, y), (2, u), (3, v)]) (f : Nat → CV) (hx : a.eval x = .agg #[.bool (f 1).t, .int .i64 (f 1).b, .int .i64 (f 1).c, .int .i64 (f 1).d, .int .i64 (f 1).e, .int .i64 (f 1).f]) (hy : a.eval y = .agg #[.bool (f 2).t, .int .i64 (f 2).b, .int .i64 (f 2).c, .int .i64 (f 2).d, .int .i64 (f 2).e, .int .i64 (f 2).f]) (hu : a.eval u = .agg #[.bool (f 3).t, .int .i64 (f 3).b, .int .i64 (f 3).c, .int .i64 (f 3).d, .int .i64 (f 3).e, .int .i64 (f 3).f]) (hv : a.eval v = .agg #[.bool (f 4).t, .int .i64 (f 4).b, .int .i64 (f 4).c, .int .i64 (f 4).d, .int .i64 (f 4).e, .int .i64 (f 4).f]) : (execOp a.eval oi).run Try.prog w = .ok (.value (.agg (fb f))) w := by
  unfold execOp
  simp [ho, hx, hy, hu, hv, b30 f w]
end
set_option maxRecDepth 100000 in
set_option maxHeartbeats 2000000 in
theorem rput_wrong (g : Nat) (A A' : Option Addr) (n cap c : Nat) (l : Nat → CV) (w : World) (hB : Blk w g 66 #[.slice A n cap]) (hn : n ≤ 1000) (hR : Row w A' (n * 5) l) (hok : ∀ i, i < n * 5 → (l i).ok) (ha : allR l (n * 5) = false) : Calls Try.prog 18 #[.pointer (some ⟨g, 0, none⟩), .slice A' (n * 5) c] w fun e w' => e = .returned (.bool false) ∧ Below w.heap.size w w' := by
  have c0 := hB.cell 0
  simp at c0
  have hlt := hB.lt
  have HB := Asd.mk hB
  have HR := Asd.mk hR
  have HK := Asd.mk hok
  have HA := Asd.mk ha
  clear hB hR hok ha
  obtain ⟨m, hm⟩ : ∃ m, Asd (n * 5 = m) := ⟨_, ⟨rfl⟩⟩
  rw [hm.out] at HR HK HA ⊢
  have e1 : ((m : Int) != 5 * (n : Int)) = false := by have := hm.out; simp; omega
  have m0 : m ≤ n * 5 := by have := hm.out; omega
  have m1 : n * 5 ≤ m := by have := hm.out; omega
  have BL := Asd.mk (Below.refl w.heap.size w)
  go_enter Try.func18, Try.ntmps18
  go_wp2
  all_goals try (exfalso; omega)
  go_loopg [5] (m + 1) (fun kq v5 w' => ∃ k : Nat, v5 = .int .i64 (k : Int) ∧ Asd (k ≤ m ∧ kq + k = m + 1 ∧ allR l k = true) ∧ Asd (Below w.heap.size w w'))
  case atStart => exact ⟨0, rfl, ⟨by omega, by omega, rfl⟩, BL⟩
  case round =>
    obtain ⟨k, rfl, HI, hb⟩ := hrel
    have i0 := HI.out.1
    have gm : gk - 1 < gk := by have := HI.out.2.1; omega
    by_cases hk : k < m
    · have k0 : (0 : Int) ≤ (k : Int) := by omega
      have k1 : (k : Int) < (m : Int) := by omega
      obtain ⟨B, o, rfl, ha⟩ := HR.out k hk
      obtain ⟨hl, b0, b1, b2, b3, b4, b5⟩ := ha.below ha.1 hb.out
      clear ha
      cases hx : (l k).right with
      | true =>
        have HS := Asd.mk ((allR_step HI.out.2.2).trans hx)
        have HC := Asd.mk (rr (l k) _ hx)
        clear hx
        generalize hlk : l k = x at *
        clear hlk
        obtain ⟨x0, x1, x2, x3, x4, x5⟩ := x
        dsimp only at b0 b1 b2 b3 b4 b5 HC
        go_wp2_with fail
        (go_at_call 26; ((with_reducible refine (HC.out _).mono ?_); rintro e w1 ⟨rfl, hb1⟩; have hb2 := Asd.mk (bcall hb.out hb1); clear hb1 hb))
        go_wp2_with fail
        go_roundg (gk - 1)
        case measure => exact gm
        case rel => exact ⟨k + 1, by simp, ⟨by omega, by have := HI.out.2.1; omega, HS.out⟩, hb2⟩
      | false =>
        have HC := Asd.mk (rr (l k) _ hx)
        clear hx
        generalize hlk : l k = x at *
        clear hlk
        obtain ⟨x0, x1, x2, x3, x4, x5⟩ := x
        dsimp only at b0 b1 b2 b3 b4 b5 HC
        go_wp2_with fail
        (go_at_call 26; ((with_reducible refine (HC.out _).mono ?_); rintro e w1 ⟨rfl, hb1⟩; have hb2 := Asd.mk (bcall hb.out hb1); clear hb1 hb))
        go_wp2_with fail
        go_ret
        exact ⟨by simp, hb2.out⟩
    · obtain rfl : k = m := by omega
      exact absurd (HA.out.symm.trans HI.out.2.2) (by decide)
set_option maxRecDepth 100000 in
set_option maxHeartbeats 2000000 in
theorem rput_yes (g : Nat) (A A' : Option Addr) (n cap c : Nat) (l : Nat → CV) (w : World) (hB : Blk w g 66 #[.slice A n cap]) (hn : n ≤ 1000) (hR : Row w A' (n * 5) l) (hok : ∀ i, i < n * 5 → (l i).ok) (ha : allR l (n * 5) = true) : Calls Try.prog 18 #[.pointer (some ⟨g, 0, none⟩), .slice A' (n * 5) c] w fun e w' => e = .returned (.bool true) ∧ ∃ A6 cap6, Blk w' g 66 #[.slice A6 n cap6] ∧ Bag w' w.heap.size 32 30 A6 n cap6 l ∧ Turn (fun i => i = g) w w' := by
  have c0 := hB.cell 0
  simp at c0
  have hlt := hB.lt
  have HB := Asd.mk hB
  have HR := Asd.mk hR
  have HK := Asd.mk hok
  have HA := Asd.mk ha
  clear hB hR hok ha
  obtain ⟨m, hm⟩ : ∃ m, Asd (n * 5 = m) := ⟨_, ⟨rfl⟩⟩
  rw [hm.out] at HR HK HA ⊢
  have e1 : ((m : Int) != 5 * (n : Int)) = false := by have := hm.out; simp; omega
  have m0 : m ≤ n * 5 := by have := hm.out; omega
  have m1 : n * 5 ≤ m := by have := hm.out; omega
  have BL := Asd.mk (Below.refl w.heap.size w)
  go_enter Try.func18, Try.ntmps18
  go_wp2
  all_goals try (exfalso; omega)
  go_loopg [5] (m + 1) (fun kq v5 w' => ∃ k : Nat, v5 = .int .i64 (k : Int) ∧ Asd (k ≤ m ∧ kq + k = m + 1 ∧ allR l k = true) ∧ Asd (Below w.heap.size w w'))
  case atStart => exact ⟨0, rfl, ⟨by omega, by omega, rfl⟩, BL⟩
  case round =>
    obtain ⟨k, rfl, HI, hb⟩ := hrel
    have i0 := HI.out.1
    have gm : gk - 1 < gk := by have := HI.out.2.1; omega
    by_cases hk : k < m
    · have k0 : (0 : Int) ≤ (k : Int) := by omega
      have k1 : (k : Int) < (m : Int) := by omega
      obtain ⟨B, o, rfl, ha⟩ := HR.out k hk
      obtain ⟨hl, b0, b1, b2, b3, b4, b5⟩ := ha.below ha.1 hb.out
      clear ha
      have HC := Asd.mk (rr (l k) _ (allR_all HA.out k hk))
      have HS := Asd.mk ((allR_step HI.out.2.2).trans (allR_all HA.out k hk))
      generalize hlk : l k = x at *
      clear hlk
      obtain ⟨x0, x1, x2, x3, x4, x5⟩ := x
      dsimp only at b0 b1 b2 b3 b4 b5 HC
      go_wp2_with fail
      (go_at_call 26; ((with_reducible refine (HC.out _).mono ?_); rintro e w1 ⟨rfl, hb1⟩; have hb2 := Asd.mk (bcall hb.out hb1); clear hb1 hb))
      go_wp2_with fail
      go_roundg (gk - 1)
      case measure => exact gm
      case rel => exact ⟨k + 1, by simp, ⟨by omega, by have := HI.out.2.1; omega, HS.out⟩, hb2⟩
    · obtain rfl : k = m := by omega
      have k1 : ¬ (k : Int) < (k : Int) := by omega
      have hD : Asd (Bag wr w.heap.size 32 30 none 0 0 l ∧ Below w.heap.size w wr) := ⟨Bag.nil _ _ _ _ _, hb.out⟩
      clear hb gm
      go_wp2_with fail
      go_loopg [6, 7] (n + 1) (fun kq v6 v7 w' => ∃ (i q cap6 : Nat) (A6 : Option Addr), v6 = .slice A6 i cap6 ∧ v7 = .int .i64 (q : Int) ∧ Asd (i ≤ n ∧ kq + i = n + 1 ∧ q = i * 5) ∧ Asd (Bag w' w.heap.size 32 30 A6 i cap6 l ∧ Below w.heap.size w w'))
      case atStart => exact ⟨0, 0, 0, none, rfl, rfl, ⟨by omega, by omega, rfl⟩, hD⟩
      case round =>
        obtain ⟨i, q, cap6, A6, rfl, rfl, HJ, hE⟩ := hrel
        clear hD k1
        have j0 := HJ.out.1
        have gm2 : gk - 1 < gk := by have := HJ.out.2.1; omega
        have q0 : q ≤ i * 5 := by have := HJ.out.2.2; omega
        have q0' : i * 5 ≤ q := by have := HJ.out.2.2; omega
        by_cases hi : i < n
        · have q1 : (0 : Int) ≤ (q : Int) := by omega
          have ew1 : wrap64 ((q : Int) + 1) = (q : Int) + 1 := by unfold wrap64; omega
          have en1 : ((q : Int) + 1).toNat = q + 1 := by omega
          have eb1 : (0 : Int) ≤ (q : Int) + 1 := by omega
          have ew2 : wrap64 ((q : Int) + 2) = (q : Int) + 2 := by unfold wrap64; omega
          have en2 : ((q : Int) + 2).toNat = q + 2 := by omega
          have eb2 : (0 : Int) ≤ (q : Int) + 2 := by omega
          have ew3 : wrap64 ((q : Int) + 3) = (q : Int) + 3 := by unfold wrap64; omega
          have en3 : ((q : Int) + 3).toNat = q + 3 := by omega
          have eb3 : (0 : Int) ≤ (q : Int) + 3 := by omega
          have ew4 : wrap64 ((q : Int) + 4) = (q : Int) + 4 := by unfold wrap64; omega
          have en4 : ((q : Int) + 4).toNat = q + 4 := by omega
          have eb4 : (0 : Int) ≤ (q : Int) + 4 := by omega
          have r0 : (q : Int) < (k : Int) := by omega
          have r1 : (q : Int) + 1 < (k : Int) := by omega
          have r2 : (q : Int) + 2 < (k : Int) := by omega
          have r3 : (q : Int) + 3 < (k : Int) := by omega
          have r4 : (q : Int) + 4 < (k : Int) := by omega
          obtain ⟨B, o, rfl, hBl, -⟩ := HR.out q (by omega)
          have HRw := Asd.mk (HR.out.below hE.out.2)
          obtain ⟨f, hf⟩ : ∃ f : Nat → CV, Asd (∀ t, l (q + t) = f t) := ⟨fun t => l (q + t), ⟨fun _ => rfl⟩⟩
          have hr : ∀ t, t < 5 → ∀ i, i < 6 → wr.cell? ⟨B, o + (q + t) * 6 + i, none⟩ = some ((f t).cell i) := fun t ht i hi => by rw [← hf.out]; exact row_six HRw.out (by omega) i hi
          have HG := Asd.mk hr
          clear hr
          have hsrc := Asd.mk (show ∀ j, j < 30 → (fa f)[j]? = some (Fl l (i * 30 + j)) from fun j hj => by rw [fa_at _ _ hj, ← fl_frame l i j hj]; unfold Fl; rw [← hf.out, show q + j / 6 = i * 5 + j / 6 by omega])
          go_wp2_with fail
          refine start_ (n := 30) (S := fun w' => (∀ t, t < 5 → ∀ i, i < 6 → w'.cell? ⟨B, o + (q + t) * 6 + i, none⟩ = some ((f t).cell i)) ∧ (Bag w' w.heap.size 32 30 A6 i cap6 l ∧ Below w.heap.size w w')) (ds := [28]) #[false, false, false, false, false, false, false, false, false, false, false, false, false, false, false, false, false, false, false, false, false, false, false, false, false, false, false, false, false, false] (by kernel_rfl) rfl rfl ⟨HG.out, ⟨hE.out.1, hE.out.2.drew⟩⟩ (fun hHeld => ?_)
          refine pure_ (i := 0) (N := some 35) (v := ?_) (a' := ?_) #[true, false, false, false, false, false, false, false, false, false, false, false, false, false, false, false, false, false, false, false, false, false, false, false, false, false, false, false, false, false] rfl rfl (by kernel_rfl) (fun _ _ _ h => h) (Or.inl ⟨by rfl, ?_⟩) ?_ ?_
          rotate_left
          · intro w'
            go_simp
            with_reducible rfl
          rotate_left
          · simp only [Act.put, List.setIfInBounds_toArray, List.set_cons_zero, List.set_cons_succ, i64_w, i32_w]
            rfl
          refine pure_ (i := 1) (N := some 36) (v := ?_) (a' := ?_) #[true, true, false, false, false, false, false, false, false, false, false, false, false, false, false, false, false, false, false, false, false, false, false, false, false, false, false, false, false, false] rfl rfl (by kernel_rfl) (fun _ _ _ h => h) (Or.inl ⟨by rfl, ?_⟩) ?_ ?_
          rotate_left
          · intro w'
            go_simp
            with_reducible rfl
          rotate_left
          · simp only [Act.put, List.setIfInBounds_toArray, List.set_cons_zero, List.set_cons_succ, i64_w, i32_w]
            rfl
          refine pure_ (i := 2) (N := some 37) (v := ?_) (a' := ?_) #[true, true, true, false, false, false, false, false, false, false, false, false, false, false, false, false, false, false, false, false, false, false, false, false, false, false, false, false, false, false] rfl rfl (by kernel_rfl) (fun _ _ _ h => h) (Or.inl ⟨by rfl, ?_⟩) ?_ ?_
          rotate_left
          · intro w'
            go_simp
            with_reducible rfl
          rotate_left
          · simp only [Act.put, List.setIfInBounds_toArray, List.set_cons_zero, List.set_cons_succ, i64_w, i32_w]
            rfl
          refine pure_ (i := 3) (N := some 38) (v := ?_) (a' := ?_) #[true, true, true, true, false, false, false, false, false, false, false, false, false, false, false, false, false, false, false, false, false, false, false, false, false, false, false, false, false, false] rfl rfl (by kernel_rfl) (fun _ _ _ h => h) (Or.inl ⟨by rfl, ?_⟩) ?_ ?_
          rotate_left
          · intro w'
            go_simp
            with_reducible rfl
          rotate_left
          · simp only [Act.put, List.setIfInBounds_toArray, List.set_cons_zero, List.set_cons_succ, i64_w, i32_w]
            rfl
          refine pure_ (i := 5) (N := some 40) (v := ?_) (a' := ?_) #[true, true, true, true, false, true, false, false, false, false, false, false, false, false, false, false, false, false, false, false, false, false, false, false, false, false, false, false, false, false] rfl rfl (by kernel_rfl) (fun _ _ _ h => h) (Or.inl ⟨by rfl, ?_⟩) ?_ ?_
          rotate_left
          · intro w'
            go_simp
            with_reducible rfl
          rotate_left
          · simp only [Act.put, List.setIfInBounds_toArray, List.set_cons_zero, List.set_cons_succ, i64_w, i32_w]
            rfl
          refine pure_ (i := 6) (N := some 41) (v := ?_) (a' := ?_) #[true, true, true, true, false, true, true, false, false, false, false, false, false, false, false, false, false, false, false, false, false, false, false, false, false, false, false, false, false, false] rfl rfl (by kernel_rfl) (fun _ _ _ h => h) (Or.inl ⟨by rfl, ?_⟩) ?_ ?_
          rotate_left
          · intro w'
            go_simp
            with_reducible rfl
          rotate_left
          · simp only [Act.put, List.setIfInBounds_toArray, List.set_cons_zero, List.set_cons_succ, i64_w, i32_w]
            rfl
          refine pure_ (i := 7) (N := some 42) (v := ?_) (a' := ?_) #[true, true, true, true, false, true, true, true, false, false, false, false, false, false, false, false, false, false, false, false, false, false, false, false, false, false, false, false, false, false] rfl rfl (by kernel_rfl) (fun _ _ _ h => h) (Or.inl ⟨by rfl, ?_⟩) ?_ ?_
          rotate_left
          · intro w'
            go_simp
            with_reducible rfl
          rotate_left
          · simp only [Act.put, List.setIfInBounds_toArray, List.set_cons_zero, List.set_cons_succ, i64_w, i32_w]
            rfl
          refine pure_ (i := 8) (N := some 43) (v := ?_) (a' := ?_) #[true, true, true, true, false, true, true, true, true, false, false, false, false, false, false, false, false, false, false, false, false, false, false, false, false, false, false, false, false, false] rfl rfl (by kernel_rfl) (fun _ _ _ h => h) (Or.inl ⟨by rfl, ?_⟩) ?_ ?_
          rotate_left
          · intro w'
            go_simp
            with_reducible rfl
          rotate_left
          · simp only [Act.put, List.setIfInBounds_toArray, List.set_cons_zero, List.set_cons_succ, i64_w, i32_w]
            rfl
          refine pure_ (i := 10) (N := some 45) (v := ?_) (a' := ?_) #[true, true, true, true, false, true, true, true, true, false, true, false, false, false, false, false, false, false, false, false, false, false, false, false, false, false, false, false, false, false] rfl rfl (by kernel_rfl) (fun _ _ _ h => h) (Or.inl ⟨by rfl, ?_⟩) ?_ ?_
          rotate_left
          · intro w'
            go_simp
            with_reducible rfl
          rotate_left
          · simp only [Act.put, List.setIfInBounds_toArray, List.set_cons_zero, List.set_cons_succ, i64_w, i32_w]
            rfl
          refine pure_ (i := 11) (N := some 46) (v := ?_) (a' := ?_) #[true, true, true, true, false, true, true, true, true, false, true, true, false, false, false, false, false, false, false, false, false, false, false, false, false, false, false, false, false, false] rfl rfl (by kernel_rfl) (fun _ _ _ h => h) (Or.inl ⟨by rfl, ?_⟩) ?_ ?_
          rotate_left
          · intro w'
            go_simp
            with_reducible rfl
          rotate_left
          · simp only [Act.put, List.setIfInBounds_toArray, List.set_cons_zero, List.set_cons_succ, i64_w, i32_w]
            rfl
          refine pure_ (i := 12) (N := some 47) (v := ?_) (a' := ?_) #[true, true, true, true, false, true, true, true, true, false, true, true, true, false, false, false, false, false, false, false, false, false, false, false, false, false, false, false, false, false] rfl rfl (by kernel_rfl) (fun _ _ _ h => h) (Or.inl ⟨by rfl, ?_⟩) ?_ ?_
          rotate_left
          · intro w'
            go_simp
            with_reducible rfl
          rotate_left
          · simp only [Act.put, List.setIfInBounds_toArray, List.set_cons_zero, List.set_cons_succ, i64_w, i32_w]
            rfl
          refine pure_ (i := 13) (N := some 48) (v := ?_) (a' := ?_) #[true, true, true, true, false, true, true, true, true, false, true, true, true, true, false, false, false, false, false, false, false, false, false, false, false, false, false, false, false, false] rfl rfl (by kernel_rfl) (fun _ _ _ h => h) (Or.inl ⟨by rfl, ?_⟩) ?_ ?_
          rotate_left
          · intro w'
            go_simp
            with_reducible rfl
          rotate_left
          · simp only [Act.put, List.setIfInBounds_toArray, List.set_cons_zero, List.set_cons_succ, i64_w, i32_w]
            rfl
          refine pure_ (i := 15) (N := some 50) (v := ?_) (a' := ?_) #[true, true, true, true, false, true, true, true, true, false, true, true, true, true, false, true, false, false, false, false, false, false, false, false, false, false, false, false, false, false] rfl rfl (by kernel_rfl) (fun _ _ _ h => h) (Or.inl ⟨by rfl, ?_⟩) ?_ ?_
          rotate_left
          · intro w'
            go_simp
            with_reducible rfl
          rotate_left
          · simp only [Act.put, List.setIfInBounds_toArray, List.set_cons_zero, List.set_cons_succ, i64_w, i32_w]
            rfl
          refine pure_ (i := 16) (N := some 51) (v := ?_) (a' := ?_) #[true, true, true, true, false, true, true, true, true, false, true, true, true, true, false, true, true, false, false, false, false, false, false, false, false, false, false, false, false, false] rfl rfl (by kernel_rfl) (fun _ _ _ h => h) (Or.inl ⟨by rfl, ?_⟩) ?_ ?_
          rotate_left
          · intro w'
            go_simp
            with_reducible rfl
          rotate_left
          · simp only [Act.put, List.setIfInBounds_toArray, List.set_cons_zero, List.set_cons_succ, i64_w, i32_w]
            rfl
          refine pure_ (i := 17) (N := some 52) (v := ?_) (a' := ?_) #[true, true, true, true, false, true, true, true, true, false, true, true, true, true, false, true, true, true, false, false, false, false, false, false, false, false, false, false, false, false] rfl rfl (by kernel_rfl) (fun _ _ _ h => h) (Or.inl ⟨by rfl, ?_⟩) ?_ ?_
          rotate_left
          · intro w'
            go_simp
            with_reducible rfl
          rotate_left
          · simp only [Act.put, List.setIfInBounds_toArray, List.set_cons_zero, List.set_cons_succ, i64_w, i32_w]
            rfl
          refine pure_ (i := 18) (N := some 53) (v := ?_) (a' := ?_) #[true, true, true, true, false, true, true, true, true, false, true, true, true, true, false, true, true, true, true, false, false, false, false, false, false, false, false, false, false, false] rfl rfl (by kernel_rfl) (fun _ _ _ h => h) (Or.inl ⟨by rfl, ?_⟩) ?_ ?_
          rotate_left
          · intro w'
            go_simp
            with_reducible rfl
          rotate_left
          · simp only [Act.put, List.setIfInBounds_toArray, List.set_cons_zero, List.set_cons_succ, i64_w, i32_w]
            rfl
          refine pure_ (i := 20) (N := some 55) (v := ?_) (a' := ?_) #[true, true, true, true, false, true, true, true, true, false, true, true, true, true, false, true, true, true, true, false, true, false, false, false, false, false, false, false, false, false] rfl rfl (by kernel_rfl) (fun _ _ _ h => h) (Or.inl ⟨by rfl, ?_⟩) ?_ ?_
          rotate_left
          · intro w'
            go_simp
            with_reducible rfl
          rotate_left
          · simp only [Act.put, List.setIfInBounds_toArray, List.set_cons_zero, List.set_cons_succ, i64_w, i32_w]
            rfl
          refine pure_ (i := 21) (N := some 56) (v := ?_) (a' := ?_) #[true, true, true, true, false, true, true, true, true, false, true, true, true, true, false, true, true, true, true, false, true, true, false, false, false, false, false, false, false, false] rfl rfl (by kernel_rfl) (fun _ _ _ h => h) (Or.inl ⟨by rfl, ?_⟩) ?_ ?_
          rotate_left
          · intro w'
            go_simp
            with_reducible rfl
          rotate_left
          · simp only [Act.put, List.setIfInBounds_toArray, List.set_cons_zero, List.set_cons_succ, i64_w, i32_w]
            rfl
          refine pure_ (i := 22) (N := some 57) (v := ?_) (a' := ?_) #[true, true, true, true, false, true, true, true, true, false, true, true, true, true, false, true, true, true, true, false, true, true, true, false, false, false, false, false, false, false] rfl rfl (by kernel_rfl) (fun _ _ _ h => h) (Or.inl ⟨by rfl, ?_⟩) ?_ ?_
          rotate_left
          · intro w'
            go_simp
            with_reducible rfl
          rotate_left
          · simp only [Act.put, List.setIfInBounds_toArray, List.set_cons_zero, List.set_cons_succ, i64_w, i32_w]
            rfl
          refine pure_ (i := 23) (N := some 58) (v := ?_) (a' := ?_) #[true, true, true, true, false, true, true, true, true, false, true, true, true, true, false, true, true, true, true, false, true, true, true, true, false, false, false, false, false, false] rfl rfl (by kernel_rfl) (fun _ _ _ h => h) (Or.inl ⟨by rfl, ?_⟩) ?_ ?_
          rotate_left
          · intro w'
            go_simp
            with_reducible rfl
          rotate_left
          · simp only [Act.put, List.setIfInBounds_toArray, List.set_cons_zero, List.set_cons_succ, i64_w, i32_w]
            rfl
          refine take_ (i := 4) (N := some 39) (v := ?_) (a' := ?_) #[true, true, true, true, true, true, true, true, true, false, true, true, true, true, false, true, true, true, true, false, true, true, true, true, false, false, false, false, false, false] rfl rfl (by kernel_rfl) (fun _ _ _ h => h) (Or.inl ⟨by rfl, ?_⟩) hHeld ?_ ?_
          rotate_left
          · rintro w' ⟨s0, s1⟩
            refine ld29x_run (.tmp 38) ?_ B (o + q * 6) ?_ (f 0) (fun i hi => s0 0 (by omega) i hi) <;> rfl
          rotate_left
          · simp only [Act.put, List.setIfInBounds_toArray, List.set_cons_zero, List.set_cons_succ, i64_w, i32_w]
            rfl
          refine take_ (i := 9) (N := some 44) (v := ?_) (a' := ?_) #[true, true, true, true, true, true, true, true, true, true, true, true, true, true, false, true, true, true, true, false, true, true, true, true, false, false, false, false, false, false] rfl rfl (by kernel_rfl) (fun _ _ _ h => h) (Or.inl ⟨by rfl, ?_⟩) hHeld ?_ ?_
          rotate_left
          · rintro w' ⟨s0, s1⟩
            refine ld29x_run (.tmp 43) ?_ B (o + (q + 1) * 6) ?_ (f 1) (fun i hi => s0 1 (by omega) i hi) <;> rfl
          rotate_left
          · simp only [Act.put, List.setIfInBounds_toArray, List.set_cons_zero, List.set_cons_succ, i64_w, i32_w]
            rfl
          refine take_ (i := 14) (N := some 49) (v := ?_) (a' := ?_) #[true, true, true, true, true, true, true, true, true, true, true, true, true, true, true, true, true, true, true, false, true, true, true, true, false, false, false, false, false, false] rfl rfl (by kernel_rfl) (fun _ _ _ h => h) (Or.inl ⟨by rfl, ?_⟩) hHeld ?_ ?_
          rotate_left
          · rintro w' ⟨s0, s1⟩
            refine ld29x_run (.tmp 48) ?_ B (o + (q + 2) * 6) ?_ (f 2) (fun i hi => s0 2 (by omega) i hi) <;> rfl
          rotate_left
          · simp only [Act.put, List.setIfInBounds_toArray, List.set_cons_zero, List.set_cons_succ, i64_w, i32_w]
            rfl
          refine take_ (i := 19) (N := some 54) (v := ?_) (a' := ?_) #[true, true, true, true, true, true, true, true, true, true, true, true, true, true, true, true, true, true, true, true, true, true, true, true, false, false, false, false, false, false] rfl rfl (by kernel_rfl) (fun _ _ _ h => h) (Or.inl ⟨by rfl, ?_⟩) hHeld ?_ ?_
          rotate_left
          · rintro w' ⟨s0, s1⟩
            refine ld29x_run (.tmp 53) ?_ B (o + (q + 3) * 6) ?_ (f 3) (fun i hi => s0 3 (by omega) i hi) <;> rfl
          rotate_left
          · simp only [Act.put, List.setIfInBounds_toArray, List.set_cons_zero, List.set_cons_succ, i64_w, i32_w]
            rfl
          refine take_ (i := 24) (N := some 59) (v := ?_) (a' := ?_) #[true, true, true, true, true, true, true, true, true, true, true, true, true, true, true, true, true, true, true, true, true, true, true, true, true, false, false, false, false, false] rfl rfl (by kernel_rfl) (fun _ _ _ h => h) (Or.inl ⟨by rfl, ?_⟩) hHeld ?_ ?_
          rotate_left
          · rintro w' ⟨s0, s1⟩
            refine ld29x_run (.tmp 58) ?_ B (o + (q + 4) * 6) ?_ (f 4) (fun i hi => s0 4 (by omega) i hi) <;> rfl
          rotate_left
          · simp only [Act.put, List.setIfInBounds_toArray, List.set_cons_zero, List.set_cons_succ, i64_w, i32_w]
            rfl
          refine pure_ (i := 25) (N := some 60) (v := ?_) (a' := ?_) #[true, true, true, true, true, true, true, true, true, true, true, true, true, true, true, true, true, true, true, true, true, true, true, true, true, true, false, false, false, false] rfl rfl (by kernel_rfl) (fun _ _ _ h => h) (Or.inl ⟨by rfl, ?_⟩) ?_ ?_
          rotate_left
          · intro w'
            refine b30_run (.tmp 44) (.tmp 49) (.tmp 54) (.tmp 59) ?_ f ?_ ?_ ?_ ?_ <;> rfl
          rotate_left
          · simp only [Act.put, List.setIfInBounds_toArray, List.set_cons_zero, List.set_cons_succ, i64_w, i32_w]
            rfl
          refine pure_ (i := 26) (N := some 61) (v := ?_) (a' := ?_) #[true, true, true, true, true, true, true, true, true, true, true, true, true, true, true, true, true, true, true, true, true, true, true, true, true, true, true, false, false, false] rfl rfl (by kernel_rfl) (fun _ _ _ h => h) (Or.inl ⟨by rfl, ?_⟩) ?_ ?_
          rotate_left
          · intro w'
            refine b32_run (.tmp 39) (.tmp 60) ?_ f ?_ ?_ <;> rfl
          rotate_left
          · simp only [Act.put, List.setIfInBounds_toArray, List.set_cons_zero, List.set_cons_succ, i64_w, i32_w]
            rfl
          refine one_ (i := 27) (N := some 62) #[true, true, true, true, true, true, true, true, true, true, true, true, true, true, true, true, true, true, true, true, true, true, true, true, true, true, true, true, false, false] rfl rfl (by kernel_rfl) (by decide) (fun K hK => ?_)
          refine value_ (by rfl) rfl (bs32_run (.tmp 61) (by rfl) f (by rfl)) ?_
          have hE3 := And.intro (hHeld.2.1.alloc (.cells (fa f) 32)) (balloc hHeld.2.2 (.cells (fa f) 32))
          refine hK.out _ _ ⟨(fun t ht i hi => (row_six ((HRw.out.below (bdrew (Below.refl _ _))).below (balloc (Below.refl _ _) _)) (by omega) i hi).trans (by rw [hf.out])), hE3⟩ (fun hHeld => ?_)
          clear hK K
          refine norm_ (a' := ?_) ?_ ?_
          rotate_left
          · show Act.put _ (some 62) _ = _
            simp only [Act.put, List.setIfInBounds_toArray, List.set_cons_zero, List.set_cons_succ, i64_w, i32_w]
            rfl
          refine last_ (i := 28) (N := some 63) #[true, true, true, true, true, true, true, true, true, true, true, true, true, true, true, true, true, true, true, true, true, true, true, true, true, true, true, true, true, false] rfl rfl (by kernel_rfl) (by decide) (fun K hK => ?_)
          refine bag_step32 (m := 1) (z' := l) (by rfl) rfl rfl (by rfl) (by rfl) hHeld.2.1 (fun j hj => by rw [Nat.zero_add, (Blk.new _ _ _).cell]; exact hsrc.out j (by omega)) (fun _ _ => rfl) hHeld.2.2.size (by omega) (by omega) ?_
          intro A7 cap7 w8 hb8 ht8 hin8
          have hE8 := ht8.below hHeld.2.2 (fun i hi => (hHeld.2.1.lt hi).2)
          refine hK.out _ _ ?_
          clear hK K
          refine norm_ (a' := ?_) ?_ ?_
          rotate_left
          · show Act.put _ (some 63) _ = _
            simp only [Act.put, List.setIfInBounds_toArray, List.set_cons_zero, List.set_cons_succ, i64_w, i32_w]
            rfl
          refine pure_ (i := 29) (N := some 6) (v := ?_) (a' := ?_) #[true, true, true, true, true, true, true, true, true, true, true, true, true, true, true, true, true, true, true, true, true, true, true, true, true, true, true, true, true, true] rfl rfl (by kernel_rfl) (fun _ _ _ h => h) (Or.inl ⟨by rfl, ?_⟩) ?_ ?_
          rotate_left
          · intro w'
            go_simp
            with_reducible rfl
          rotate_left
          · simp only [Act.put, List.setIfInBounds_toArray, List.set_cons_zero, List.set_cons_succ, i64_w, i32_w]
            rfl
          refine done_ (by kernel_rfl) ?_
          go_wp2_with fail
          go_roundg (gk - 1)
          case measure => exact gm2
          case rel => exact ⟨i + 1, q + 5, cap7, A7, rfl, by simp, ⟨by omega, by have := HJ.out.2.1; omega, by omega⟩, ⟨hb8, hE8⟩⟩
        · obtain rfl : i = n := by omega
          have r0 : ¬ (q : Int) < (k : Int) := by omega
          have hBr := HB.out.below hE.out.2 HB.out.lt
          have cg : wr.cell? ⟨g, 0, none⟩ = some (.slice A i cap) := hBr.cell 0
          have fg := hBr.frozen 0
          have HBr := Asd.mk hBr
          clear hBr
          go_wp2_with fail
          go_ret
          exact ⟨by simp, A6, cap6, HBr.out.set_ 0 _, hE.out.1.far (fun h => by have h := (hE.out.1.lt h).2; dsimp only at h; omega) _, (Turn.of_below hE.out.2 (fun i => i = g)).set_ (p := ⟨g, 0, none⟩) (.inl rfl) _⟩
theorem rpop0_calls (g : Nat) (A : Option Addr) (cap : Nat) (w : World) (hB : Blk w g 66 #[.slice A 0 cap]) : Calls Try.prog 15 #[.pointer (some ⟨g, 0, none⟩)] w fun e w' => e = .returned (.tuple #[.agg (fa fz), .bool false]) ∧ Below w.heap.size w w' := by
  have c0 := hB.cell 0
  simp at c0
  have hlt := hB.lt
  clear hB
  go_enter Try.func15, Try.ntmps15
  go_wp2_with (refine st32 rfl (.tmp 2) (.tmp 13) rfl w.heap.size rfl fz rfl (Blk.new w 32 _) rfl ?_; intro W1 hb1 ht1; have HB := Asd.mk hb1; have HT := Asd.mk ht1; clear hb1 ht1)
  exact bodyPost_ret (res32 Try.results15 rfl rfl HB.out) rfl ⟨rfl, HT.out.below (balloc (Below.refl _ _) _) (fun i hi => by omega)⟩
theorem rpop_end {w W1 W2 : World} {g : Nat} {o1 o2 : Obj} {v v' : Value} (h1 : Turn (fun i => i = w.heap.size + 1) ((w.alloc o1).alloc o2) W1) (h2 : Turn (fun i => i = w.heap.size) (W1.setCell ⟨g, 0, none⟩ v') W2) (hg : g < w.heap.size) (hB : Blk W1 g 66 #[v]) : Blk W2 g 66 #[v'] ∧ Turn (fun i => i = g) w W2 := by
  have hB2 : Blk (W1.setCell ⟨g, 0, none⟩ v') g 66 #[v'] := hB.set_ 0 v'
  refine ⟨(h2.block g hB2.lt (by omega)).trans hB2, ?_⟩
  have a0 : Turn (fun i => i = g) w ((w.alloc o1).alloc o2) := ((Turn.refl _ w).alloc o1).alloc o2
  have a1 : Turn (fun i => i = g ∨ w.heap.size ≤ i) w (W1.setCell ⟨g, 0, none⟩ v') := (Turn.trans (a0.mono fun i _ h => .inl h) (h1.mono fun i _ h => .inr (by omega))).set_ (.inl (.inl rfl)) _
  have a2 : Turn (fun i => i = g ∨ w.heap.size ≤ i) w W2 := a1.trans (h2.mono fun i _ h => .inr (by omega))
  exact a2.mono fun i hi h => h.elim id (fun h => by omega)
theorem rpop1_calls (g : Nat) (A : Option Addr) (k cap : Nat) (z : Nat → CV) (base : Nat) (w : World) (hB : Blk w g 66 #[.slice A (k + 1) cap]) (bag : Bag w base 32 30 A (k + 1) cap z) (hk : k ≤ 100000) : Calls Try.prog 15 #[.pointer (some ⟨g, 0, none⟩)] w fun e w' => e = .returned (.tuple #[.agg (fa (fun i => z (k * 5 + i))), .bool true]) ∧ Blk w' g 66 #[.slice A k cap] ∧ Turn (fun i => i = g) w w' := by
  have c0 := hB.cell 0
  simp at c0
  have hlt := hB.lt
  have hcap : k ≤ cap := by have := bag.1; omega
  obtain ⟨B, o, rfl, hb, hBlt, hc, -⟩ := bag.some_ (by omega)
  have hcf : ∀ i, i < 30 → w.cell? ⟨B, o + k * 30 + i, none⟩ = some (Fl (fun i => z (k * 5 + i)) i) := fun i hi => by
    rw [Nat.add_assoc, hc (k * 30 + i) (by omega)]
    unfold Fl
    rw [show (k * 30 + i) / 6 = k * 5 + i / 6 by omega, show (k * 30 + i) % 6 = i % 6 by omega]
  have e1 : wrap64 ((k : Int) + 1 - 1) = (k : Int) := by unfold wrap64; omega
  have e2 : ((k : Int) + 1 == 0) = false := by simp; omega
  have HB := Asd.mk hB
  have HF := Asd.mk hcf
  have f0 := hB.frozen 0
  clear hB hc hcf bag
  generalize (fun i => z (k * 5 + i)) = f at *
  go_enter Try.func15, Try.ntmps15
  go_wp2_with (first | (refine ld32 rfl (.tmp 20) rfl B (o + k * 30) rfl f (fun i hi => (cell_alloc hBlt).trans (HF.out i hi)) ?_) | (refine st32 rfl (.tmp 5) (.tmp 21) rfl (w.heap.size + 1) rfl f rfl (Blk.new' (by simp)) rfl ?_; intro W1 hb1 ht1; have HT := Asd.mk ht1; clear ht1; have HB1 := Asd.mk hb1; clear hb1; have HG := Asd.mk (pop_step HB.out HT.out); have HZ := Asd.mk (pop_step0 HT.out); have c1 : W1.cell? ⟨g, 0, none⟩ = some (.slice (some ⟨B, o, none⟩) (k + 1) cap) := HG.out.cell 0; have f1 : W1.frozen? ⟨g, 0, none⟩ = false := HG.out.frozen 0) | (refine ld32b rfl (.tmp 5) rfl (w.heap.size + 1) rfl f (HB1.out.far (by show w.heap.size + 1 ≠ g; omega) _) ?_) | (refine st32 rfl (.tmp 2) (.tmp 32) rfl w.heap.size rfl f rfl (HZ.out.far (by show w.heap.size ≠ g; omega) _) rfl ?_; intro W2 hb2 ht2; have HB2 := Asd.mk hb2; have HT2 := Asd.mk ht2; clear hb2 ht2))
  obtain ⟨h1, h2⟩ := rpop_end HT.out HT2.out hlt HG.out
  exact bodyPost_ret (res32 Try.results15 rfl rfl HB2.out) rfl ⟨rfl, h1, h2⟩
end Go.Proofs.Ytijcniflghjoaaa.Fr
