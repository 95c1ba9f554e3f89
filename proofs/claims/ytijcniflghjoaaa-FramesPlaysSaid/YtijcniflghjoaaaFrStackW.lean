/- The walk of FramesStack. -/
import Derived.Test.YtijcniflghjoaaaFrFullW
namespace Go.Proofs.Ytijcniflghjoaaa.Fr
open Go.RowKit Go.Proofs.Ytijcniflghjoaaa.Rg Go.Proofs.YtijcniflghjoaaaW.PrintLast
set_option linter.unusedVariables false
set_option linter.unusedSimpArgs false
/-- The stack has n frames, z1; the law's own slice m, z2; they lie apart. -/
def LF (w W : World) (g n : Nat) (z1 : Nat → CV) (m : Nat) (z2 : Nat → CV) (A2 : Option Addr) (cap2 : Nat) : Prop := w.heap.size ≤ g ∧
  (∃ A cap, Blk W g 64 #[.slice A n cap] ∧ Bag W (g + 1) 32 30 A n cap z1 ∧ ∀ k, InBlock A k → ¬ InBlock A2 k) ∧ Bag W (g + 1) 32 30 A2 m cap2 z2 ∧ Below w.heap.size w W
section
variable {w W W' : World} {g n m : Nat} {z1 z2 : Nat → CV} {A2 : Option Addr} {cap2 : Nat}
theorem LF.below (h : LF w W g n z1 m z2 A2 cap2) (hb : Below W.heap.size W W') : LF w W' g n z1 m z2 A2 cap2 := by
  obtain ⟨h1, ⟨A, cap, h2, h3, h4⟩, h5, h6⟩ := h
  exact ⟨h1, ⟨A, cap, h2.below hb h2.lt, h3.below hb, h4⟩, h5.below hb, bcall h6 hb⟩
theorem LF.box {o : Obj} (h : LF w W g n z1 m z2 A2 cap2) (ht : Turn (fun i => i = W.heap.size) (W.alloc o) W') : LF w W' g n z1 m z2 A2 cap2 := h.below (turn_fresh ht)
theorem LF.glt (h : LF w W g n z1 m z2 A2 cap2) : g < W.heap.size := by
  obtain ⟨h1, ⟨A, cap, h2, h3, h4⟩, h5, h6⟩ := h
  exact h2.lt
theorem LF.fs (h : LF w W g n z1 m z2 A2 cap2) : FS W g (g + 1) W.heap.size n z1 := by
  obtain ⟨h1, ⟨A, cap, h2, h3, h4⟩, h5, h6⟩ := h
  exact ⟨by omega, h2.lt, A, cap, h2, h3, fun j hj => (h3.lt hj).1⟩
theorem lf_pushY (h : LF w W g n z1 m z2 A2 cap2) (f : Nat → CV) (hok : ∀ i, i < 5 → (f i).ok) (hp : pushB n f = true) : Calls Try.prog 19 #[.pointer (some ⟨g, 0, none⟩), .agg (fa f)] W fun e w' => e = .returned (.bool true) ∧ LF w w' g (n + 1) (updf z1 n f) m z2 A2 cap2 ∧ ∀ k t cs, t ≠ 32 → k ≠ g → Blk W k t cs → Blk w' k t cs := by
  obtain ⟨h1, ⟨A, cap, h2, h3, h4⟩, h5, h6⟩ := h
  have hp' : n < 16 ∧ (f 0).right = true ∧ allR (fun i => f (i + 1)) 4 = true := by
    unfold pushB fright at hp
    simp only [Bool.and_eq_true, decide_eq_true_eq] at hp
    exact ⟨hp.1, hp.2.1, hp.2.2⟩
  refine (push_yes g (g + 1) A n cap z1 f W h2 h3 h2.lt hp'.1 hok hp'.2.1 hp'.2.2).mono ?_
  rintro e w' ⟨he, A', cap', k1, k2, k3, k4⟩
  refine ⟨he, ⟨h1, ⟨A', cap', k1, k2, fun k hk h2' => (k4 k hk).elim (fun h => h4 k h h2') (fun h => by have := (h5.lt h2').1; omega)⟩, h5.turn k3 (fun k hk hh => hh.elim (fun e => by have := (h5.lt hk).2; omega) (fun e => h4 k e hk)), k3.below h6 (fun i hi => hi.elim (fun e => by omega) (fun e => by have := (h3.lt e).2; omega))⟩, fun k t cs ht hk hb => blk_keep hb (k3.block k hb.lt (fun hs => hs.elim hk (fun hh => absurd rfl (h3.ne hb (fun e => ht e.symm) hh))))⟩
theorem lf_pushN (h : LF w W g n z1 m z2 A2 cap2) (f : Nat → CV) (hok : ∀ i, i < 5 → (f i).ok) (hp : pushB n f = false) : Calls Try.prog 19 #[.pointer (some ⟨g, 0, none⟩), .agg (fa f)] W fun e w' => e = .returned (.bool false) ∧ LF w w' g n z1 m z2 A2 cap2 :=
  (fs_pushN h.fs f hok hp).mono fun e w' ⟨he, hf, hb⟩ => ⟨he, h.below hb⟩
theorem lf_pop0 (h : LF w W g 0 z1 m z2 A2 cap2) : Calls Try.prog 14 #[.pointer (some ⟨g, 0, none⟩)] W fun e w' => e = .returned (.tuple #[.agg (fa fz), .bool false]) ∧ LF w w' g 0 z1 m z2 A2 cap2 :=
  (fs_pop0 h.fs).mono fun e w' ⟨he, hf, hb⟩ => ⟨he, h.below hb⟩
theorem lf_pop1 (h : LF w W g (n + 1) z1 m z2 A2 cap2) (hn : n ≤ 1000) : Calls Try.prog 14 #[.pointer (some ⟨g, 0, none⟩)] W fun e w' => e = .returned (.tuple #[.agg (fa (fun i => z1 (n * 5 + i))), .bool true]) ∧ LF w w' g n z1 m z2 A2 cap2 := by
  obtain ⟨h1, ⟨A, cap, h2, h3, h4⟩, h5, h6⟩ := h
  refine (pop1_calls g A n cap z1 (g + 1) W h2 h3 (by omega)).mono ?_
  rintro e w' ⟨he, hb, ht⟩
  exact ⟨he, h1, ⟨A, cap, hb, (h3.turn ht (fun k hk e => by have := (h3.lt hk).2; omega)).less (by omega), h4⟩, h5.turn ht (fun k hk e => by have := (h5.lt hk).2; omega), ht.below h6 (fun i hi => by omega)⟩
theorem lf_many (h : LF w W g n z1 m z2 A2 cap2) : Calls Try.prog 21 #[.pointer (some ⟨g, 0, none⟩)] W fun e w' => e = .returned (.int .i64 (n : Int)) ∧ w' = W := fs_many h.fs
theorem lf_caps (h : LF w W g n z1 m z2 A2 cap2) (hn : n ≤ 1000) : Calls Try.prog 16 #[.pointer (some ⟨g, 0, none⟩)] W fun e w' => ∃ A' cap', e = .returned (.slice A' (n * 5) cap') ∧ LF w w' g n z1 m z2 A2 cap2 :=
  (fs_caps h.fs hn).mono fun e w' ⟨A', cap', he, hb, hf, hbl⟩ => ⟨A', cap', he, h.below hbl⟩
theorem LF.app {A3 : Option Addr} {cap3 : Nat} {z3 : Nat → CV} {o : Obj} (h : LF w W g n z1 m z2 A2 cap2) (hb : Bag W' (g + 1) 32 30 A3 (m + 1) cap3 z3) (ht : Turn (InBlock A2) (W.alloc o) W') (hin : ∀ k, InBlock A3 k → InBlock A2 k ∨ (W.alloc o).heap.size ≤ k) : LF w W' g n z1 (m + 1) z3 A3 cap3 := by
  obtain ⟨h1, ⟨A, cap, h2, h3, h4⟩, h5, h6⟩ := h
  refine ⟨h1, ⟨A, cap, blk_keep (h2.alloc o) (ht.block _ (h2.alloc o).lt (fun hk => by have := (h5.lt hk).2; omega)), (h3.alloc o).turn ht h4, fun k hk h3' => ?_⟩, hb, ht.below (balloc h6 o) (fun i hi => by have := (h5.lt hi).2; omega)⟩
  rcases hin k h3' with h | h
  · exact h4 k hk h
  · have := (h3.lt hk).1; simp at h; omega
theorem LF.less {m' : Nat} (h : LF w W g n z1 m z2 A2 cap2) (hm : m' ≤ m) : LF w W g n z1 m' z2 A2 cap2 := ⟨h.1, h.2.1, h.2.2.1.less hm, h.2.2.2⟩
end
theorem wpList_bag32 {w : World} {ops : Array Oper} {rest : List Oper} {o : Oper} {a : Act} {Q : Exit → Act → World → Prop}
    (hg : o.guard = none) (s x : Operand) (hop : o.op = Op.call { callee := Callee.builtin Builtin.append, args := #[s, x], argTypes := #[44, 44] })
    {base : Nat} {A : Option Addr} {n cap m mc sb so : Nat} {z z' : Nat → CV} (hs : a.eval s = .slice A n cap) (hx : a.eval x = .slice (some ⟨sb, so, none⟩) m mc)
    (bag : Bag w base 32 30 A n cap z) (hsrc : ∀ j, j < m * 30 → w.cell? ⟨sb, so + j, none⟩ = some (Fl z' (n * 30 + j))) (hz : ∀ i, i < n * 30 → Fl z' i = Fl z i) (hb : base ≤ w.heap.size) (hn : n + m ≤ 100000) (hm : 0 < m)
    (h : ∀ A' cap' w', Bag w' base 32 30 A' (n + m) cap' z' → Turn (InBlock A) w w' → (∀ k, InBlock A' k → InBlock A k ∨ w.heap.size ≤ k) → wpList Try.prog ops Q rest (a.put o.dst (.slice A' (n + m) cap')) w') :
    wpList Try.prog ops Q (o :: rest) a w := by
  refine wpList_plain hg fun K hK => ?_
  obtain ⟨A', cap', W', hrun, h1, h2, h3⟩ := append32 (mc := mc) bag sb so hsrc hz hb hn hm o.type
  unfold Oper.wp execOp
  simp only [hop, resolve, invoke, builtin, Sem.run_bind, Sem.run_pure, Result.andThen_ok, List.map_toArray, List.map_cons, List.map_nil, hs, hx, hrun]
  exact hK _ _ (h A' cap' W' h1 h2 h3)
theorem frame_src {W : World} {z : Nat → CV} {m : Nat} {f : Nat → CV} : ∀ j, j < 1 * 30 → (W.alloc (.cells (fa f) 32)).cell? ⟨W.heap.size, 0 + j, none⟩ = some (Fl (updf z m f) (m * 30 + j)) := fun j hj => by
  rw [Nat.zero_add, updf_new _ _ _ _ (by omega)]
  exact fa_cell (Blk.new _ _ _) j (by omega)
theorem w64 {p : Nat} (h : p ≤ 1000) : wrap64 (p : Int) = (p : Int) := by unfold wrap64; omega
theorem w64' {p : Nat} (h : p ≤ 1000) : wrap64 ((p : Int) + 1 - 1) = (p : Int) := by unfold wrap64; omega
theorem wpList_bs32 {w : World} {ops : Array Oper} {rest : List Oper} {o : Oper} {a : Act} {Q : Exit → Act → World → Prop} (hg : o.guard = none) (x : Operand) (ho : o.op = .buildSlice 44 1 #[(0, x)]) (f : Nat → CV) (hx : a.eval x = .agg (fa f))
    (h : wpList Try.prog ops Q rest (a.put o.dst (.slice (some ⟨w.heap.size, 0, none⟩) 1 1)) (w.alloc (.cells (fa f) 32))) : wpList Try.prog ops Q (o :: rest) a w := by
  refine wpList_plain hg fun K hK => ?_
  have h1 := bs32_run (a := a) (oi := o) (w := w) x ho f hx
  unfold Oper.wp
  rw [h1]
  exact hK _ _ h
set_option maxRecDepth 100000 in
set_option maxHeartbeats 4000000 in
theorem framesStack_calls (A : Option Addr) (len cap : Nat) (zo : Nat → OpV) (w : World) (ho : Ops w A len zo) (hcap : len ≤ cap) (hmax : cap ≤ maxLen) : Calls Try.prog 4 #[.slice A len cap] w fun e w' => e = .returned (.bool true) ∧ Below w.heap.size w w' := by
  have hu24 := Try.underlying24
  have HO := Asd.mk ho
  clear ho
  have BL := Asd.mk (Below.refl w.heap.size w)
  by_cases hl : 300 < (len : Int)
  · clear HO
    go_enter Try.func4, Try.ntmps4
    go_wp2_with fail
    (go_at_call 11; ((with_reducible refine (head_calls _).mono ?_); rintro e W1 ⟨rfl, hb⟩; have HB := Asd.mk hb; clear hb BL))
    go_wp2_with fail
    (go_at_call 12; ((with_reducible refine (new_calls _).mono ?_); rintro e W2 ⟨rfl, hB, hb⟩; have hN := Asd.mk (And.intro hB (bcall HB.out hb)); have hG := Asd.mk HB.out.size; clear hB hb HB))
    go_wp2_with fail
    go_ret
    exact ⟨by simp, hN.out.2⟩
  go_enter Try.func4, Try.ntmps4
  go_wp2_with fail
  (go_at_call 11; ((with_reducible refine (head_calls _).mono ?_); rintro e W1 ⟨rfl, hb⟩; have HB := Asd.mk hb; clear hb BL))
  go_wp2_with fail
  (go_at_call 12; ((with_reducible refine (new_calls _).mono ?_); rintro e W2 ⟨rfl, hB, hb⟩; have hN := Asd.mk (And.intro hB (bcall HB.out hb)); have hG := Asd.mk HB.out.size; clear hB hb HB))
  go_wp2_with fail
  have hL0 : Asd (LF w W2 W1.heap.size 0 fz 0 fz none 0) := ⟨hG.out, ⟨none, 0, hN.out.1, Bag.nil _ _ _ _ _, fun k hk => absurd hk (inBlock_none k)⟩, Bag.nil _ _ _ _ _, hN.out.2⟩
  clear hN hG
  generalize W1.heap.size = g at *
  have hne0 : ∀ w, (binOp .neq 32 (.agg (fa fz)) (.agg #[.bool false, .int .i64 0, .int .i64 0, .int .i64 0, .int .i64 0, .int .i64 0, .bool false, .int .i64 0, .int .i64 0, .int .i64 0, .int .i64 0, .int .i64 0, .bool false, .int .i64 0, .int .i64 0, .int .i64 0, .int .i64 0, .int .i64 0, .bool false, .int .i64 0, .int .i64 0, .int .i64 0, .int .i64 0, .int .i64 0, .bool false, .int .i64 0, .int .i64 0, .int .i64 0, .int .i64 0, .int .i64 0])).run Try.prog w = .ok (.bool false) w := fun w => neq32 fz w
  go_loopg [5, 6] (len + 1) (fun kq v5 v6 w' => ∃ (k n cap2 : Nat) (A2 : Option Addr) (z : Nat → CV), v5 = .slice A2 n cap2 ∧ v6 = .int .i64 (k : Int) ∧ Asd (k ≤ len ∧ kq + k = len + 1 ∧ n ≤ 16) ∧ Asd (LF w w' g n z n z A2 cap2))
  case atStart => exact ⟨0, 0, 0, none, fz, rfl, rfl, ⟨by omega, by omega, by omega⟩, hL0⟩
  case round =>
    obtain ⟨k, n, cap2, A2, z, rfl, rfl, HI, hL⟩ := hrel
    clear hL0
    have i0 := HI.out.1
    have n0 := HI.out.2.2
    have gm : gk - 1 < gk := by have := HI.out.2.1; omega
    by_cases hk : k < len
    · have k0 : (0 : Int) ≤ (k : Int) := by omega
      have k1 : (k : Int) < (len : Int) := by omega
      obtain ⟨B, o, rfl, hlB, hc, hok⟩ := HO.out.at_ hL.out.2.2.2 hk
      have HC := Asd.mk hc
      have hof := hok.2.1
      clear hc hok
      generalize zo k = v at *
      by_cases hq : v.q = 3
      · have e3 : (v.q == 3) = true := by simp [hq]
        clear hq
        rcases Nat.eq_zero_or_pos n with hn | hn
        · subst hn
          go_wp2_with (first | (refine ld34 rfl (.tmp 33) rfl B (o + k * 38) rfl v HC.out ?_) | (refine st34 rfl (.tmp 7) (.tmp 34) rfl wr.heap.size rfl v rfl (Blk.new wr 34 _) rfl ?_; intro W3 hb ht; have hV := Asd.mk hb; have q0 := ob_q hb; have hL2 := Asd.mk (hL.out.box ht); clear hb ht hL; have hL := hL2; clear hL2))
          (go_at_call 14; ((with_reducible refine (lf_pop0 hL.out).mono ?_); rintro e W5 ⟨rfl, h⟩; clear hL; have hL := Asd.mk h; clear h q0))
          go_wp2_with (first | (refine st32 rfl (.tmp 8) (.tmp 41) rfl W5.heap.size rfl fz rfl (Blk.new W5 32 _) rfl ?_; intro W6 hb ht; have hG := Asd.mk hb; have hL2 := Asd.mk (hL.out.box ht); clear hb ht hL; have hL := hL2; clear hL2) | (refine ldg32b (by rfl) (.tmp 8) rfl W5.heap.size rfl fz hG.out ?_))
          (go_at_call 21; ((with_reducible refine (lf_many hL.out).mono ?_); rintro e w_ ⟨rfl, rfl⟩))
          go_wp2_with fail
          (go_at_call 16; ((with_reducible refine (lf_caps hL.out (by omega)).mono ?_); rintro e W9 ⟨A9, c9, rfl, h⟩; clear hL; have hL := Asd.mk h; clear h))
          go_wp2_with fail
          go_roundg (gk - 1)
          case measure => exact gm
          case rel => exact ⟨k + 1, 0, cap2, A2, z, rfl, by simp, ⟨by omega, by have := HI.out.2.1; omega, by omega⟩, hL⟩
        · obtain ⟨p, rfl⟩ : ∃ p, n = p + 1 := ⟨n - 1, by omega⟩
          have hp1000 : p ≤ 1000 := by omega
          have m1 : decide (0 < (p : Int) + 1) = true := decide_eq_true (by omega)
          have m4 : (0 : Int) < (p : Int) + 1 := by omega
          have e1 : wrap64 ((p : Int) + 1 - 1) = (p : Int) := w64' hp1000
          go_wp2_with (first | (refine ld34 rfl (.tmp 33) rfl B (o + k * 38) rfl v HC.out ?_) | (refine st34 rfl (.tmp 7) (.tmp 34) rfl wr.heap.size rfl v rfl (Blk.new wr 34 _) rfl ?_; intro W3 hb ht; have hV := Asd.mk hb; have q0 := ob_q hb; have hL2 := Asd.mk (hL.out.box ht); clear hb ht hL; have hL := hL2; clear hL2))
          (go_at_call 14; ((with_reducible refine (lf_pop1 hL.out (by omega)).mono ?_); rintro e W5 ⟨rfl, h⟩; clear hL; have hL := Asd.mk h; clear h q0))
          obtain ⟨f, hf⟩ : ∃ f : Nat → CV, Asd ((fun i => z (p * 5 + i)) = f) := ⟨_, ⟨rfl⟩⟩
          rw [hf.out]
          have hne := neq32 f
          go_wp2_with (first | (refine st32 rfl (.tmp 8) (.tmp 41) rfl W5.heap.size rfl f rfl (Blk.new W5 32 _) rfl ?_; intro W6 hb ht; have hG := Asd.mk hb; have hL2 := Asd.mk (hL.out.box ht); clear hb ht hL; have hL := hL2; clear hL2))
          generalize W5.heap.size = b8 at *
          obtain ⟨B2, o2, rfl, -, hB2, hc2⟩ := hL.out.2.2.1.frame (k := p) (by omega)
          have HC2 := Asd.mk (fun i hi => (hc2 i hi).trans (by rw [hf.out]))
          clear hc2
          have hcc := hL.out.2.2.1.1
          have e1b : wrap64 (p : Int) = (p : Int) := w64 hp1000
          have e1c : (p : Int) < (p : Int) + 1 := Int.lt_succ _
          have e1d : ((p : Int)).toNat = p := Int.toNat_natCast p
          clear e1
          refine start_ (n := 8) (S := fun w' => Blk w' b8 32 (fa f) ∧ (∀ i, i < 30 → w'.cell? ⟨B2, o2 + p * 30 + i, none⟩ = some (Fl f i))) (ds := []) #[false, false, false, false, false, false, false, false] (by kernel_rfl) rfl rfl ⟨hG.out, HC2.out⟩ (fun hHeld => ?_)
          refine pure_ (i := 1) (N := some 59) (v := ?_) (a' := ?_) #[false, true, false, false, false, false, false, false] rfl rfl (by kernel_rfl) (fun _ _ _ h => h) (Or.inl ⟨by rfl, ?_⟩) ?_ ?_
          rotate_left
          · intro w'
            go_simp
            with_reducible rfl
          rotate_left
          · simp only [Act.put, List.setIfInBounds_toArray, List.set_cons_zero, List.set_cons_succ, i64_w, i32_w]
            rfl
          refine pure_ (i := 2) (N := some 60) (v := ?_) (a' := ?_) #[false, true, true, false, false, false, false, false] rfl rfl (by kernel_rfl) (fun _ _ _ h => h) (Or.inl ⟨by rfl, ?_⟩) ?_ ?_
          rotate_left
          · intro w'
            go_simp
            with_reducible rfl
          rotate_left
          · simp only [Act.put, List.setIfInBounds_toArray, List.set_cons_zero, List.set_cons_succ, i64_w, i32_w]
            rfl
          refine pure_ (i := 3) (N := some 61) (v := ?_) (a' := ?_) #[false, true, true, true, false, false, false, false] rfl rfl (by kernel_rfl) (fun _ _ _ h => h) (Or.inl ⟨by rfl, ?_⟩) ?_ ?_
          rotate_left
          · intro w'
            go_simp
            with_reducible rfl
          rotate_left
          · simp only [Act.put, List.setIfInBounds_toArray, List.set_cons_zero, List.set_cons_succ, i64_w, i32_w]
            rfl
          refine pure_ (i := 4) (N := some 62) (v := ?_) (a' := ?_) #[false, true, true, true, true, false, false, false] rfl rfl (by kernel_rfl) (fun _ _ _ h => h) (Or.inl ⟨by rfl, ?_⟩) ?_ ?_
          rotate_left
          · intro w'
            go_simp
            with_reducible rfl
          rotate_left
          · simp only [Act.put, List.setIfInBounds_toArray, List.set_cons_zero, List.set_cons_succ, i64_w, i32_w]
            rfl
          refine pure_ (i := 5) (N := some 63) (v := ?_) (a' := ?_) #[false, true, true, true, true, true, false, false] rfl rfl (by kernel_rfl) (fun _ _ _ h => h) (Or.inl ⟨by rfl, ?_⟩) ?_ ?_
          rotate_left
          · intro w'
            go_simp
            with_reducible rfl
          rotate_left
          · simp only [Act.put, List.setIfInBounds_toArray, List.set_cons_zero, List.set_cons_succ, i64_w, i32_w]
            rfl
          refine take_ (i := 0) (N := some 58) (v := ?_) (a' := ?_) #[true, true, true, true, true, true, false, false] rfl rfl (by kernel_rfl) (fun _ _ _ h => h) (Or.inl ⟨by rfl, ?_⟩) hHeld ?_ ?_
          rotate_left
          · rintro w' ⟨s0, s1⟩
            refine ld32b_run (.tmp 8) ?_ b8 ?_ f s0 <;> rfl
          rotate_left
          · simp only [Act.put, List.setIfInBounds_toArray, List.set_cons_zero, List.set_cons_succ, i64_w, i32_w]
            rfl
          refine take_ (i := 6) (N := some 64) (v := ?_) (a' := ?_) #[true, true, true, true, true, true, true, false] rfl rfl (by kernel_rfl) (fun _ _ _ h => h) (Or.inl ⟨by rfl, ?_⟩) hHeld ?_ ?_
          rotate_left
          · rintro w' ⟨s0, s1⟩
            refine ld32_run (.tmp 63) ?_ B2 (o2 + p * 30) ?_ f s1 <;> rfl
          rotate_left
          · simp only [Act.put, List.setIfInBounds_toArray, List.set_cons_zero, List.set_cons_succ, i64_w, i32_w]
            rfl
          refine pure_ (i := 7) (N := some 65) (v := ?_) (a' := ?_) #[true, true, true, true, true, true, true, true] rfl rfl (by kernel_rfl) (fun _ _ _ h => h) (Or.inl ⟨by rfl, ?_⟩) ?_ ?_
          rotate_left
          · intro w'
            go_simp
            with_reducible rfl
          rotate_left
          · simp only [Act.put, List.setIfInBounds_toArray, List.set_cons_zero, List.set_cons_succ, i64_w, i32_w]
            rfl
          refine done_ (by kernel_rfl) ?_
          clear e1b e1c e1d
          have e1 : wrap64 ((p : Int) + 1 - 1) = (p : Int) := w64' hp1000
          have hL2 := Asd.mk ((hL.out.below (bdrew (Below.refl _ _))).less (m' := p) (by omega))
          clear hL
          have hL := hL2
          clear hL2
          have e7 : (((p * 5 : Nat) : Int) != 5 * (p : Int)) = false := by simp; omega
          have e8 : ((p : Int) * 5 != 5 * (p : Int)) = false := by simp; omega
          have p0 : p ≤ 1000 := by omega
          go_wp2_with fail
          (go_at_call 21; ((with_reducible refine (lf_many hL.out).mono ?_); rintro e w_ ⟨rfl, rfl⟩))
          go_wp2_with fail
          (go_at_call 16; ((with_reducible refine (lf_caps hL.out (by omega)).mono ?_); rintro e W9 ⟨A9, c9, rfl, h⟩; clear hL; have hL := Asd.mk h; clear h))
          go_wp2_with fail
          go_roundg (gk - 1)
          case measure => exact gm
          case rel => exact ⟨k + 1, p, cap2, _, z, rfl, by simp, ⟨by omega, by have := HI.out.2.1; omega, by omega⟩, hL⟩
      · have e3 : (v.q == 3) = false := by simp [hq]
        clear hq
        have HGL := Asd.mk hL.out.glt
        have e7 : (((n * 5 : Nat) : Int) != 5 * (n : Int)) = false := by simp; omega
        have e8 : ((n : Int) * 5 != 5 * (n : Int)) = false := by simp; omega
        by_cases hn : n < 16
        · have m1 : decide ((n : Int) < 16) = true := by simp; omega
          have m1n : decide (n < 16) = true := by simp; omega
          have m1i : (n : Int) < 16 := by omega
          cases hr : fright v.f with
          | false =>
            have hp : pushB n v.f = false := by unfold pushB; rw [hr, decide_eq_true hn]; rfl
            have HR := Asd.mk hr
            have HP := Asd.mk hp
            clear hr hp
            go_wp2_with (first | (refine ld34 rfl (.tmp 33) rfl B (o + k * 38) rfl v HC.out ?_) | (refine st34 rfl (.tmp 7) (.tmp 34) rfl wr.heap.size rfl v rfl (Blk.new wr 34 _) rfl ?_; intro W3 hb ht; have hV := Asd.mk hb; have q0 := ob_q hb; have hL2 := Asd.mk (hL.out.box ht); clear hb ht hL; have hL := hL2; clear hL2) | (refine ldg32 (by rfl) (.tmp 75) rfl wr.heap.size 1 rfl v.f (ob_f hV.out) ?_) | (refine ld32 rfl (.tmp 80) rfl wr.heap.size 1 rfl v.f (ob_f hV.out) ?_) | (refine ld32 rfl (.tmp 87) rfl wr.heap.size 1 rfl v.f (ob_f hV.out) ?_))
            (go_at_call 25; ((with_reducible refine (lright_is v.f _ HR.out _).mono ?_); rintro e W5 ⟨rfl, hb⟩; have hL2 := Asd.mk (hL.out.below hb); have hV2 := Asd.mk (hV.out.below hb hV.out.lt); clear hb hL hV q0; have hL := hL2; have hV := hV2; clear hL2 hV2))
            go_wp2_with (first | (refine ldg32 (by rfl) (.tmp 75) rfl wr.heap.size 1 rfl v.f (ob_f hV.out) ?_) | (refine ld32 rfl (.tmp 80) rfl wr.heap.size 1 rfl v.f (ob_f hV.out) ?_) | (refine ld32 rfl (.tmp 87) rfl wr.heap.size 1 rfl v.f (ob_f hV.out) ?_))
            (go_at_call 19; ((with_reducible refine (lf_pushN hL.out v.f hof HP.out).mono ?_); rintro e W6 ⟨rfl, h⟩; clear hL; have hL := Asd.mk h; clear h))
            go_wp2_with fail
            (go_at_call 21; ((with_reducible refine (lf_many hL.out).mono ?_); rintro e w_ ⟨rfl, rfl⟩))
            go_wp2_with fail
            (go_at_call 16; ((with_reducible refine (lf_caps hL.out (by omega)).mono ?_); rintro e W9 ⟨A9, c9, rfl, h⟩; clear hL; have hL := Asd.mk h; clear h))
            go_wp2_with fail
            go_roundg (gk - 1)
            case measure => exact gm
            case rel => exact ⟨k + 1, n, cap2, A2, z, rfl, by simp, ⟨by omega, by have := HI.out.2.1; omega, by omega⟩, hL⟩
          | true =>
            have hp : pushB n v.f = true := by unfold pushB; rw [hr, decide_eq_true hn]; rfl
            have HR := Asd.mk hr
            have HP := Asd.mk hp
            clear hr hp
            go_wp2_with (first | (refine ld34 rfl (.tmp 33) rfl B (o + k * 38) rfl v HC.out ?_) | (refine st34 rfl (.tmp 7) (.tmp 34) rfl wr.heap.size rfl v rfl (Blk.new wr 34 _) rfl ?_; intro W3 hb ht; have hV := Asd.mk hb; have q0 := ob_q hb; have hL2 := Asd.mk (hL.out.box ht); clear hb ht hL; have hL := hL2; clear hL2) | (refine ldg32 (by rfl) (.tmp 75) rfl wr.heap.size 1 rfl v.f (ob_f hV.out) ?_) | (refine ld32 rfl (.tmp 80) rfl wr.heap.size 1 rfl v.f (ob_f hV.out) ?_) | (refine ld32 rfl (.tmp 87) rfl wr.heap.size 1 rfl v.f (ob_f hV.out) ?_))
            (go_at_call 25; ((with_reducible refine (lright_is v.f _ HR.out _).mono ?_); rintro e W5 ⟨rfl, hb⟩; have hL2 := Asd.mk (hL.out.below hb); have hV2 := Asd.mk (hV.out.below hb hV.out.lt); clear hb hL hV q0; have hL := hL2; have hV := hV2; clear hL2 hV2))
            go_wp2_with (first | (refine ldg32 (by rfl) (.tmp 75) rfl wr.heap.size 1 rfl v.f (ob_f hV.out) ?_) | (refine ld32 rfl (.tmp 80) rfl wr.heap.size 1 rfl v.f (ob_f hV.out) ?_) | (refine ld32 rfl (.tmp 87) rfl wr.heap.size 1 rfl v.f (ob_f hV.out) ?_))
            have hgv : wr.heap.size ≠ g := by have := HGL.out; omega
            (go_at_call 19; ((with_reducible refine (lf_pushY hL.out v.f hof HP.out).mono ?_); rintro e W6 ⟨rfl, h, hk⟩; have hV2 := Asd.mk (hk _ _ _ (by decide) hgv hV.out); clear hL hV; have hL := Asd.mk h; have hV := hV2; clear h hk hV2))
            have hsz := hL.out.glt
            go_wp2_with (first | (at_builtin; refine wpList_bag32 (m := 1) (z' := updf z n v.f) rfl (.tmp 86) (.tmp 89) rfl rfl rfl (hL.out.2.2.1.alloc _) frame_src (fun i hi => updf_old _ _ _ _ hi) (by simp; omega) (by omega) (by omega) ?_; intro A7 cap7 W7 hb7 ht7 hin7; have hL2 := Asd.mk (hL.out.app hb7 ht7 hin7); clear hb7 ht7 hin7 hL; have hL := hL2; clear hL2) | (refine wpList_bs32 rfl (.tmp 88) rfl v.f rfl ?_) | (refine ldg32 (by rfl) (.tmp 75) rfl wr.heap.size 1 rfl v.f (ob_f hV.out) ?_) | (refine ld32 rfl (.tmp 80) rfl wr.heap.size 1 rfl v.f (ob_f hV.out) ?_) | (refine ld32 rfl (.tmp 87) rfl wr.heap.size 1 rfl v.f (ob_f hV.out) ?_))
            have e9 : (((n : Int) + 1) * 5 != 5 * ((n : Int) + 1)) = false := by simp; omega
            (go_at_call 21; ((with_reducible refine (lf_many hL.out).mono ?_); rintro e w_ ⟨rfl, rfl⟩))
            go_wp2_with fail
            (go_at_call 16; ((with_reducible refine (lf_caps hL.out (by omega)).mono ?_); rintro e W9 ⟨A9, c9, rfl, h⟩; clear hL; have hL := Asd.mk h; clear h))
            go_wp2_with fail
            go_roundg (gk - 1)
            case measure => exact gm
            case rel => exact ⟨k + 1, n + 1, cap7, A7, updf z n v.f, rfl, by simp, ⟨by omega, by have := HI.out.2.1; omega, by omega⟩, hL⟩
        · have m1 : decide ((n : Int) < 16) = false := by simp; omega
          have m1n : decide (n < 16) = false := by simp; omega
          have m1i : ¬ (n : Int) < 16 := by omega
          have HP := Asd.mk (show pushB n v.f = false by unfold pushB; rw [decide_eq_false hn]; rfl)
          go_wp2_with (first | (refine ld34 rfl (.tmp 33) rfl B (o + k * 38) rfl v HC.out ?_) | (refine st34 rfl (.tmp 7) (.tmp 34) rfl wr.heap.size rfl v rfl (Blk.new wr 34 _) rfl ?_; intro W3 hb ht; have hV := Asd.mk hb; have q0 := ob_q hb; have hL2 := Asd.mk (hL.out.box ht); clear hb ht hL; have hL := hL2; clear hL2) | (refine ldg32 (by rfl) (.tmp 75) rfl wr.heap.size 1 rfl v.f (ob_f hV.out) ?_) | (refine ld32 rfl (.tmp 80) rfl wr.heap.size 1 rfl v.f (ob_f hV.out) ?_) | (refine ld32 rfl (.tmp 87) rfl wr.heap.size 1 rfl v.f (ob_f hV.out) ?_))
          (go_at_call 19; ((with_reducible refine (lf_pushN hL.out v.f hof HP.out).mono ?_); rintro e W6 ⟨rfl, h⟩; clear hL; have hL := Asd.mk h; clear h))
          go_wp2_with fail
          (go_at_call 21; ((with_reducible refine (lf_many hL.out).mono ?_); rintro e w_ ⟨rfl, rfl⟩))
          go_wp2_with fail
          (go_at_call 16; ((with_reducible refine (lf_caps hL.out (by omega)).mono ?_); rintro e W9 ⟨A9, c9, rfl, h⟩; clear hL; have hL := Asd.mk h; clear h))
          go_wp2_with fail
          go_roundg (gk - 1)
          case measure => exact gm
          case rel => exact ⟨k + 1, n, cap2, A2, z, rfl, by simp, ⟨by omega, by have := HI.out.2.1; omega, by omega⟩, hL⟩
    · have k1 : ¬ (k : Int) < (len : Int) := by omega
      go_wp2_with fail
      go_ret
      exact ⟨by simp, hL.out.2.2.2⟩
end Go.Proofs.Ytijcniflghjoaaa.Fr
