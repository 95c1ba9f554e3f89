/- The document's stack of frames: Push, Pop. -/
import Derived.Test.YtijcniflghjoaaaFrD
import Derived.Deep.LoopGhost
namespace Go.Proofs.Ytijcniflghjoaaa.Fr
open Go.RowKit Go.Proofs.Ytijcniflghjoaaa.Rg Go.Proofs.YtijcniflghjoaaaW.PrintLast
set_option linter.unusedVariables false
set_option linter.unusedSimpArgs false
theorem rr (x : CV) (b : Bool) (hb : x.right = b) (w : World) : Calls Try.prog 26 #[.agg #[.bool x.t, .int .i64 x.b, .int .i64 x.c, .int .i64 x.d, .int .i64 x.e, .int .i64 x.f]] w fun r w' => r = .returned (.bool b) ∧ Below w.heap.size w w' := hb ▸ refRight_calls x w
theorem PB.reg {w W : World} {g ty base : Nat} {A : Option Addr} {n cap : Nat} {z f : Nat → CV} (h : PB w W g ty base A n cap z f) {k : Nat} (hk : k < 4) : W.cell? ⟨w.heap.size, 6 + k * 6, none⟩ = some (.bool (f (k + 1)).t) ∧ W.cell? ⟨w.heap.size, 6 + k * 6 + 1, none⟩ = some (.int .i64 (f (k + 1)).b) ∧ W.cell? ⟨w.heap.size, 6 + k * 6 + 2, none⟩ = some (.int .i64 (f (k + 1)).c) ∧ W.cell? ⟨w.heap.size, 6 + k * 6 + 3, none⟩ = some (.int .i64 (f (k + 1)).d) ∧ W.cell? ⟨w.heap.size, 6 + k * 6 + 4, none⟩ = some (.int .i64 (f (k + 1)).e) ∧ W.cell? ⟨w.heap.size, 6 + k * 6 + 5, none⟩ = some (.int .i64 (f (k + 1)).f) := by
  obtain ⟨B, o, e, _, h1, h2, h3, h4, h5, h6⟩ := blk_regs h.1 k hk
  simp only [Option.some.injEq, Addr.mk.injEq, and_true] at e
  obtain ⟨rfl, rfl⟩ := e
  exact ⟨h1, h2, h3, h4, h5, h6⟩
theorem allR_step {l : Nat → CV} {k : Nat} (h : allR l k = true) : allR l (k + 1) = (l k).right := by show (allR l k && (l k).right) = _; rw [h, Bool.true_and]
theorem allR_off {l : Nat → CV} {k : Nat} (h : allR l k = false) : allR l (k + 1) = false := by show (allR l k && (l k).right) = _; rw [h, Bool.false_and]
set_option maxRecDepth 100000 in
set_option maxHeartbeats 1000000 in
theorem rpush0 (g base : Nat) (A : Option Addr) (n cap : Nat) (z f : Nat → CV) (w : World) (hB : Blk w g 66 #[.slice A n cap]) (bag : Bag w base 32 30 A n cap z) (hbase : base ≤ w.heap.size) (hn : n ≤ 1000) (h0 : (f 0).right = false) : Calls Try.prog 20 #[.pointer (some ⟨g, 0, none⟩), .agg (fa f)] w fun e w' => e = .returned (.bool false) ∧ Turn (fun i => i = g ∨ InBlock A i) w w' ∧ Blk w' g 66 #[.slice A n cap] ∧ Bag w' base 32 30 A n cap z := by
  have c0 := hB.cell 0
  simp at c0
  have hlt := hB.lt
  have HC := Asd.mk (rr (f 0) _ h0)
  obtain ⟨a0, a1, a2, a3, a4, a5⟩ := fa_cap f 0 (by omega)
  simp at a0 a1 a2 a3 a4 a5
  have HP0 := Asd.mk (PB.first f hB bag)
  clear hB bag h0
  have HX0 := HP0.out.1.lt
  generalize hf0 : f 0 = x at *
  clear hf0
  obtain ⟨x0, x1, x2, x3, x4, x5⟩ := x
  dsimp only at a0 a1 a2 a3 a4 a5 HC
  go_enter Try.func20, Try.ntmps20
  go_wp2_with fail
  (go_at_call 26; ((with_reducible refine (HC.out _).mono ?_); rintro e w1 ⟨rfl, hb1⟩; have HP1 := Asd.mk (HP0.out.below hb1); have hcg : w1.cell? ⟨g, 0, none⟩ = some (.slice A n cap) := HP1.out.2.1.cell 0; clear hb1 HP0 HC))
  clear a0 a1 a2 a3 a4 a5 c0
  go_wp2_with fail
  go_loopg [5, 6] 5 (fun kq v5 v6 w' => ∃ k : Nat, v5 = .bool (false) ∧ v6 = .int .i64 (k : Int) ∧ Asd (k ≤ 4 ∧ kq + k = 5) ∧ Asd (PB w w' g 66 base A n cap z f))
  case atStart => exact ⟨0, rfl, rfl, ⟨by omega, by omega⟩, HP1⟩
  case round =>
    obtain ⟨k, rfl, rfl, HI, hP⟩ := hrel
    have i0 := HI.out.1
    clear HP1 hcg
    have gm : gk - 1 < gk := by have := HI.out.2; omega
    by_cases hk : k < 4
    · have k0 : (0 : Int) ≤ (k : Int) := by omega
      have k1 : (k : Int) < 4 := by omega
      go_wp2_with fail
      go_roundg (gk - 1)
      case measure => exact gm
      case rel => exact ⟨k + 1, by simp, by simp, ⟨by omega, by have := HI.out.2; omega⟩, hP⟩
    · obtain rfl : k = 4 := by omega
      have hcg : wr.cell? ⟨g, 0, none⟩ = some (.slice A n cap) := hP.out.2.1.cell 0
      go_wp2_with fail
      go_ret
      exact ⟨by simp, hP.out.2.2.2, hP.out.2.1, hP.out.2.2.1⟩
set_option maxRecDepth 100000 in
set_option maxHeartbeats 1000000 in
theorem rpush1 (g base : Nat) (A : Option Addr) (n cap : Nat) (z f : Nat → CV) (w : World) (hB : Blk w g 66 #[.slice A n cap]) (bag : Bag w base 32 30 A n cap z) (hbase : base ≤ w.heap.size) (hn : n ≤ 1000) (h0 : (f 0).right = true) (h1 : 16 ≤ n) : Calls Try.prog 20 #[.pointer (some ⟨g, 0, none⟩), .agg (fa f)] w fun e w' => e = .returned (.bool false) ∧ Turn (fun i => i = g ∨ InBlock A i) w w' ∧ Blk w' g 66 #[.slice A n cap] ∧ Bag w' base 32 30 A n cap z := by
  have c0 := hB.cell 0
  simp at c0
  have hlt := hB.lt
  have HC := Asd.mk (rr (f 0) _ h0)
  obtain ⟨a0, a1, a2, a3, a4, a5⟩ := fa_cap f 0 (by omega)
  simp at a0 a1 a2 a3 a4 a5
  have HP0 := Asd.mk (PB.first f hB bag)
  have e1 : decide ((n : Int) < 16) = false := by simp; omega
  clear hB bag h0
  have HX0 := HP0.out.1.lt
  generalize hf0 : f 0 = x at *
  clear hf0
  obtain ⟨x0, x1, x2, x3, x4, x5⟩ := x
  dsimp only at a0 a1 a2 a3 a4 a5 HC
  go_enter Try.func20, Try.ntmps20
  go_wp2_with fail
  (go_at_call 26; ((with_reducible refine (HC.out _).mono ?_); rintro e w1 ⟨rfl, hb1⟩; have HP1 := Asd.mk (HP0.out.below hb1); have hcg : w1.cell? ⟨g, 0, none⟩ = some (.slice A n cap) := HP1.out.2.1.cell 0; clear hb1 HP0 HC))
  clear a0 a1 a2 a3 a4 a5 c0
  go_wp2_with fail
  go_loopg [5, 6] 5 (fun kq v5 v6 w' => ∃ k : Nat, v5 = .bool (false) ∧ v6 = .int .i64 (k : Int) ∧ Asd (k ≤ 4 ∧ kq + k = 5) ∧ Asd (PB w w' g 66 base A n cap z f))
  case atStart => exact ⟨0, rfl, rfl, ⟨by omega, by omega⟩, HP1⟩
  case round =>
    obtain ⟨k, rfl, rfl, HI, hP⟩ := hrel
    have i0 := HI.out.1
    clear HP1 hcg
    have gm : gk - 1 < gk := by have := HI.out.2; omega
    by_cases hk : k < 4
    · have k0 : (0 : Int) ≤ (k : Int) := by omega
      have k1 : (k : Int) < 4 := by omega
      go_wp2_with fail
      go_roundg (gk - 1)
      case measure => exact gm
      case rel => exact ⟨k + 1, by simp, by simp, ⟨by omega, by have := HI.out.2; omega⟩, hP⟩
    · obtain rfl : k = 4 := by omega
      have hcg : wr.cell? ⟨g, 0, none⟩ = some (.slice A n cap) := hP.out.2.1.cell 0
      go_wp2_with fail
      go_ret
      exact ⟨by simp, hP.out.2.2.2, hP.out.2.1, hP.out.2.2.1⟩
set_option maxRecDepth 100000 in
set_option maxHeartbeats 1000000 in
theorem rpush2 (g base : Nat) (A : Option Addr) (n cap : Nat) (z f : Nat → CV) (w : World) (hB : Blk w g 66 #[.slice A n cap]) (bag : Bag w base 32 30 A n cap z) (hbase : base ≤ w.heap.size) (hn : n ≤ 1000) (h0 : (f 0).right = true) (h2 : n < 16) (h1 : allR (fun i => f (i + 1)) 4 = false) : Calls Try.prog 20 #[.pointer (some ⟨g, 0, none⟩), .agg (fa f)] w fun e w' => e = .returned (.bool false) ∧ Turn (fun i => i = g ∨ InBlock A i) w w' ∧ Blk w' g 66 #[.slice A n cap] ∧ Bag w' base 32 30 A n cap z := by
  have c0 := hB.cell 0
  simp at c0
  have hlt := hB.lt
  have HC := Asd.mk (rr (f 0) _ h0)
  obtain ⟨a0, a1, a2, a3, a4, a5⟩ := fa_cap f 0 (by omega)
  simp at a0 a1 a2 a3 a4 a5
  have HP0 := Asd.mk (PB.first f hB bag)
  have e1 : decide ((n : Int) < 16) = true := by simp; omega
  have HL := Asd.mk h1
  clear h1
  clear hB bag h0
  have HX0 := HP0.out.1.lt
  generalize hf0 : f 0 = x at *
  clear hf0
  obtain ⟨x0, x1, x2, x3, x4, x5⟩ := x
  dsimp only at a0 a1 a2 a3 a4 a5 HC
  go_enter Try.func20, Try.ntmps20
  go_wp2_with fail
  (go_at_call 26; ((with_reducible refine (HC.out _).mono ?_); rintro e w1 ⟨rfl, hb1⟩; have HP1 := Asd.mk (HP0.out.below hb1); have hcg : w1.cell? ⟨g, 0, none⟩ = some (.slice A n cap) := HP1.out.2.1.cell 0; clear hb1 HP0 HC))
  clear a0 a1 a2 a3 a4 a5 c0
  go_wp2_with fail
  go_loopg [5, 6] 5 (fun kq v5 v6 w' => ∃ k : Nat, v5 = .bool (allR (fun i => f (i + 1)) k) ∧ v6 = .int .i64 (k : Int) ∧ Asd (k ≤ 4 ∧ kq + k = 5) ∧ Asd (PB w w' g 66 base A n cap z f))
  case atStart => exact ⟨0, rfl, rfl, ⟨by omega, by omega⟩, HP1⟩
  case round =>
    obtain ⟨k, rfl, rfl, HI, hP⟩ := hrel
    have i0 := HI.out.1
    clear HP1 hcg
    have gm : gk - 1 < gk := by have := HI.out.2; omega
    by_cases hk : k < 4
    · have k0 : (0 : Int) ≤ (k : Int) := by omega
      have k1 : (k : Int) < 4 := by omega
      cases hq : allR (fun i => f (i + 1)) k with
      | false =>
        have hq' := Asd.mk (allR_off hq)
        clear hq
        go_wp2_with fail
        go_roundg (gk - 1)
        case measure => exact gm
        case rel => exact ⟨k + 1, by rw [hq'.out], by simp, ⟨by omega, by have := HI.out.2; omega⟩, hP⟩
      | true =>
        have hq' := Asd.mk (allR_step hq)
        clear hq
        obtain ⟨b0, b1, b2, b3, b4, b5⟩ := hP.out.reg hk
        have HC := Asd.mk (rr (f (k + 1)) _ rfl)
        have hq2 : Asd (allR (fun i => f (i + 1)) (k + 1) = (f (k + 1)).right) := ⟨hq'.out⟩
        clear hq'
        generalize hfk : f (k + 1) = y at *
        clear hfk
        generalize y.right = br at *
        obtain ⟨y0, y1, y2, y3, y4, y5⟩ := y
        dsimp only at b0 b1 b2 b3 b4 b5 HC
        have hbx := hP.out.1.lt
        go_wp2_with fail
        (go_at_call 26; ((with_reducible refine (HC.out _).mono ?_); rintro e w2 ⟨rfl, hb2⟩; have hP2 := Asd.mk (hP.out.below hb2); clear hb2 hP HC b0 b1 b2 b3 b4 b5))
        go_wp2_with fail
        go_roundg (gk - 1)
        case measure => exact gm
        case rel => exact ⟨k + 1, by rw [hq2.out], by simp, ⟨by omega, by have := HI.out.2; omega⟩, hP2⟩
    · obtain rfl : k = 4 := by omega
      rw [HL.out]
      have hcg : wr.cell? ⟨g, 0, none⟩ = some (.slice A n cap) := hP.out.2.1.cell 0
      go_wp2_with fail
      go_ret
      exact ⟨by simp, hP.out.2.2.2, hP.out.2.1, hP.out.2.2.1⟩
set_option maxRecDepth 100000 in
set_option maxHeartbeats 1000000 in
theorem rpush3 (g base : Nat) (A : Option Addr) (n cap : Nat) (z f : Nat → CV) (w : World) (hB : Blk w g 66 #[.slice A n cap]) (bag : Bag w base 32 30 A n cap z) (hbase : base ≤ w.heap.size) (hn : n ≤ 1000) (h0 : (f 0).right = true) (h2 : n < 16) (h1 : allR (fun i => f (i + 1)) 4 = true) : Calls Try.prog 20 #[.pointer (some ⟨g, 0, none⟩), .agg (fa f)] w (PushPost g 66 base A n z f w) := by
  have c0 := hB.cell 0
  simp at c0
  have hlt := hB.lt
  have HC := Asd.mk (rr (f 0) _ h0)
  obtain ⟨a0, a1, a2, a3, a4, a5⟩ := fa_cap f 0 (by omega)
  simp at a0 a1 a2 a3 a4 a5
  have HP0 := Asd.mk (PB.first f hB bag)
  have e1 : decide ((n : Int) < 16) = true := by simp; omega
  have HL := Asd.mk h1
  clear h1
  clear hB bag h0
  have HX0 := HP0.out.1.lt
  generalize hf0 : f 0 = x at *
  clear hf0
  obtain ⟨x0, x1, x2, x3, x4, x5⟩ := x
  dsimp only at a0 a1 a2 a3 a4 a5 HC
  unfold PushPost
  go_enter Try.func20, Try.ntmps20
  go_wp2_with fail
  (go_at_call 26; ((with_reducible refine (HC.out _).mono ?_); rintro e w1 ⟨rfl, hb1⟩; have HP1 := Asd.mk (HP0.out.below hb1); have hcg : w1.cell? ⟨g, 0, none⟩ = some (.slice A n cap) := HP1.out.2.1.cell 0; clear hb1 HP0 HC))
  clear a0 a1 a2 a3 a4 a5 c0
  go_wp2_with fail
  go_loopg [5, 6] 5 (fun kq v5 v6 w' => ∃ k : Nat, v5 = .bool (allR (fun i => f (i + 1)) k) ∧ v6 = .int .i64 (k : Int) ∧ Asd (k ≤ 4 ∧ kq + k = 5) ∧ Asd (PB w w' g 66 base A n cap z f))
  case atStart => exact ⟨0, rfl, rfl, ⟨by omega, by omega⟩, HP1⟩
  case round =>
    obtain ⟨k, rfl, rfl, HI, hP⟩ := hrel
    have i0 := HI.out.1
    clear HP1 hcg
    have gm : gk - 1 < gk := by have := HI.out.2; omega
    by_cases hk : k < 4
    · have k0 : (0 : Int) ≤ (k : Int) := by omega
      have k1 : (k : Int) < 4 := by omega
      cases hq : allR (fun i => f (i + 1)) k with
      | false =>
        have hq' := Asd.mk (allR_off hq)
        clear hq
        go_wp2_with fail
        go_roundg (gk - 1)
        case measure => exact gm
        case rel => exact ⟨k + 1, by rw [hq'.out], by simp, ⟨by omega, by have := HI.out.2; omega⟩, hP⟩
      | true =>
        have hq' := Asd.mk (allR_step hq)
        clear hq
        obtain ⟨b0, b1, b2, b3, b4, b5⟩ := hP.out.reg hk
        have HC := Asd.mk (rr (f (k + 1)) _ rfl)
        have hq2 : Asd (allR (fun i => f (i + 1)) (k + 1) = (f (k + 1)).right) := ⟨hq'.out⟩
        clear hq'
        generalize hfk : f (k + 1) = y at *
        clear hfk
        generalize y.right = br at *
        obtain ⟨y0, y1, y2, y3, y4, y5⟩ := y
        dsimp only at b0 b1 b2 b3 b4 b5 HC
        have hbx := hP.out.1.lt
        go_wp2_with fail
        (go_at_call 26; ((with_reducible refine (HC.out _).mono ?_); rintro e w2 ⟨rfl, hb2⟩; have hP2 := Asd.mk (hP.out.below hb2); clear hb2 hP HC b0 b1 b2 b3 b4 b5))
        go_wp2_with fail
        go_roundg (gk - 1)
        case measure => exact gm
        case rel => exact ⟨k + 1, by rw [hq2.out], by simp, ⟨by omega, by have := HI.out.2; omega⟩, hP2⟩
    · obtain rfl : k = 4 := by omega
      rw [HL.out]
      have hcg : wr.cell? ⟨g, 0, none⟩ = some (.slice A n cap) := hP.out.2.1.cell 0
      go_wp2_with fail
      refine start_ (n := 11) (S := fun w' => (Blk w' w.heap.size 32 (fa f) ∧ Blk w' g 66 #[.slice A n cap] ∧ Bag w' base 32 30 A n cap z ∧ Turn (fun i => i = g ∨ InBlock A i) w w') ∧ w'.cell? ⟨g, 0, none⟩ = some (.slice A n cap)) (ds := [7, 10]) #[false, false, false, false, false, false, false, false, false, false, false] (by kernel_rfl) rfl rfl ⟨⟨hP.out.1, hP.out.2.1, hP.out.2.2.1, hP.out.2.2.2.drew⟩, hP.out.2.1.cell 0⟩ (fun hHeld => ?_)
      refine pure_ (i := 0) (N := some 31) (v := ?_) (a' := ?_) #[true, false, false, false, false, false, false, false, false, false, false] rfl rfl (by kernel_rfl) (fun _ _ _ h => h) (Or.inl ⟨by rfl, ?_⟩) ?_ ?_
      rotate_left
      · intro w'
        go_simp
        with_reducible rfl
      rotate_left
      · simp only [Act.put, List.setIfInBounds_toArray, List.set_cons_zero, List.set_cons_succ, i64_w, i32_w]
        rfl
      refine pure_ (i := 1) (N := some 32) (v := ?_) (a' := ?_) #[true, true, false, false, false, false, false, false, false, false, false] rfl rfl (by kernel_rfl) (fun _ _ _ h => h) (Or.inl ⟨by rfl, ?_⟩) ?_ ?_
      rotate_left
      · intro w'
        go_simp
        with_reducible rfl
      rotate_left
      · simp only [Act.put, List.setIfInBounds_toArray, List.set_cons_zero, List.set_cons_succ, i64_w, i32_w]
        rfl
      refine pure_ (i := 2) (N := some 33) (v := ?_) (a' := ?_) #[true, true, true, false, false, false, false, false, false, false, false] rfl rfl (by kernel_rfl) (fun _ _ _ h => h) (Or.inl ⟨by rfl, ?_⟩) ?_ ?_
      rotate_left
      · intro w'
        go_simp
        with_reducible rfl
      rotate_left
      · simp only [Act.put, List.setIfInBounds_toArray, List.set_cons_zero, List.set_cons_succ, i64_w, i32_w]
        rfl
      refine pure_ (i := 3) (N := some 34) (v := ?_) (a' := ?_) #[true, true, true, true, false, false, false, false, false, false, false] rfl rfl (by kernel_rfl) (fun _ _ _ h => h) (Or.inl ⟨by rfl, ?_⟩) ?_ ?_
      rotate_left
      · intro w'
        go_simp
        with_reducible rfl
      rotate_left
      · simp only [Act.put, List.setIfInBounds_toArray, List.set_cons_zero, List.set_cons_succ, i64_w, i32_w]
        rfl
      refine take_ (i := 4) (N := some 35) (v := ?_) (a' := ?_) #[true, true, true, true, true, false, false, false, false, false, false] rfl rfl (by kernel_rfl) (fun _ _ _ h => h) (Or.inl ⟨by rfl, ?_⟩) hHeld ?_ ?_
      rotate_left
      · rintro w' ⟨s0, s1⟩
        go_simp
        with_reducible rfl
      rotate_left
      · simp only [Act.put, List.setIfInBounds_toArray, List.set_cons_zero, List.set_cons_succ, i64_w, i32_w]
        rfl
      refine take_ (i := 5) (N := some 36) (v := ?_) (a' := ?_) #[true, true, true, true, true, true, false, false, false, false, false] rfl rfl (by kernel_rfl) (fun _ _ _ h => h) (Or.inl ⟨by rfl, ?_⟩) hHeld ?_ ?_
      rotate_left
      · rintro w' ⟨s0, s1⟩
        refine ld32b_run (.tmp 3) ?_ w.heap.size ?_ f s0.1 <;> rfl
      rotate_left
      · simp only [Act.put, List.setIfInBounds_toArray, List.set_cons_zero, List.set_cons_succ, i64_w, i32_w]
        rfl
      refine one_ (i := 6) (N := some 37) #[true, true, true, true, true, true, true, false, false, false, false] rfl rfl (by kernel_rfl) (by decide) (fun K hK => ?_)
      refine value_ (by rfl) rfl (bs32_run (.tmp 36) (by rfl) f (by rfl)) ?_
      have hX := hHeld.1.1.alloc (.cells (fa f) 32)
      have hG := hHeld.1.2.1.alloc (.cells (fa f) 32)
      have hBG := hHeld.1.2.2.1.alloc (.cells (fa f) 32)
      have hTT := hHeld.1.2.2.2.alloc (.cells (fa f) 32)
      refine hK.out _ _ ⟨⟨hX, hG, hBG, hTT⟩, hG.cell 0⟩ (fun hHeld => ?_)
      clear hK K
      refine norm_ (a' := ?_) ?_ ?_
      rotate_left
      · show Act.put _ (some 37) _ = _
        simp only [Act.put, List.setIfInBounds_toArray, List.set_cons_zero, List.set_cons_succ, i64_w, i32_w]
        rfl
      refine last_ (i := 7) (N := some 38) #[true, true, true, true, true, true, true, true, false, false, false] rfl rfl (by kernel_rfl) (by decide) (fun K hK => ?_)
      refine bag_step32 (z' := updf z n f) (by rfl) rfl rfl (by rfl) (by rfl) hHeld.1.2.2.1 (fun j hj => by rw [Nat.zero_add, updf_new _ _ _ _ (by omega)]; exact fa_cell (Blk.new _ _ _) j (by omega)) (fun i hi => updf_old _ _ _ _ hi) (Nat.le_trans hbase hHeld.1.2.2.2.size) (by omega) (by omega) ?_
      intro A2 cap2 w8 hbag2 hturn hin
      have hng : ¬ InBlock A g := fun h => absurd rfl (hHeld.1.2.2.1.ne hHeld.1.2.1 (by decide) h)
      have hG8 : Blk w8 g 66 #[.slice A n cap] := blk_keep hHeld.1.2.1 (hturn.block g hHeld.1.2.1.lt hng)
      have q2 : w8.cell? ⟨g, 0, none⟩ = some (.slice A n cap) := hG8.cell 0
      have q3 := hG8.frozen 0
      have hT8 := hHeld.1.2.2.2.trans (hturn.mono (fun i _ h => Or.inr h))
      have hin8 : ∀ k, InBlock A2 k → InBlock A k ∨ w.heap.size ≤ k := fun k h => (hin k h).imp id (fun h => Nat.le_trans hHeld.1.2.2.2.size h)
      refine hK.out _ _ ?_
      clear hK K
      refine norm_ (a' := ?_) ?_ ?_
      rotate_left
      · show Act.put _ (some 38) _ = _
        simp only [Act.put, List.setIfInBounds_toArray, List.set_cons_zero, List.set_cons_succ, i64_w, i32_w]
        rfl
      refine pure_ (i := 8) (N := some 39) (v := ?_) (a' := ?_) #[true, true, true, true, true, true, true, true, true, false, false] rfl rfl (by kernel_rfl) (fun _ _ _ h => h) (Or.inl ⟨by rfl, ?_⟩) ?_ ?_
      rotate_left
      · intro w'
        go_simp
        with_reducible rfl
      rotate_left
      · simp only [Act.put, List.setIfInBounds_toArray, List.set_cons_zero, List.set_cons_succ, i64_w, i32_w]
        rfl
      refine pure_ (i := 9) (N := some 40) (v := ?_) (a' := ?_) #[true, true, true, true, true, true, true, true, true, true, false] rfl rfl (by kernel_rfl) (fun _ _ _ h => h) (Or.inl ⟨by rfl, ?_⟩) ?_ ?_
      rotate_left
      · intro w'
        go_simp
        with_reducible rfl
      rotate_left
      · simp only [Act.put, List.setIfInBounds_toArray, List.set_cons_zero, List.set_cons_succ, i64_w, i32_w]
        rfl
      refine last_ (i := 10) (N := none) #[true, true, true, true, true, true, true, true, true, true, true] rfl rfl (by kernel_rfl) (by decide) (fun K hK => ?_)
      refine skip_ (w1 := ?_) (by rfl) rfl ?_ ?_
      rotate_left
      · go_simp
        rfl
      refine hK.out _ _ ?_
      clear hK K
      refine done_ (by kernel_rfl) ?_
      go_wp2_with fail
      go_ret
      exact ⟨by simp, A2, cap2, hG8.set_ 0 _, hbag2.far (fun h => (hin8 g h).elim hng (fun h => by omega)) _, hT8.set_ (.inl (.inl rfl)) _, hin8⟩
end Go.Proofs.Ytijcniflghjoaaa.Fr
