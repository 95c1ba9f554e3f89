/- The walk of QuarPlays. -/
import Derived.Test.YtldgecnmmklldaaQrHead
import Derived.Test.YtldgecnmmklldaaWLast
import Derived.Test.YtldgecnmmklldaaQrOpen13
import Derived.Test.YtldgecnmmklldaaQrPs
namespace Go.Proofs.Ytldgecnmmklldaa.Qr
open Go.RowKit Go.Proofs.YtldgecnmmklldaaW.PrintLast
set_option linter.unusedVariables false
set_option linter.unusedSimpArgs false
section
variable {w W W' : World} {gq r n1 n2 : Nat} {f b : Int} {z1 z2 : Nat → HV}
theorem ps_bytes (h : PS w W gq r f b n1 z1 n2 z2) : Calls Try.prog 17 #[.pointer (some ⟨gq, 0, none⟩)] W fun e w' => e = .returned (.int .i64 b) ∧ w' = W := bytes_qs _ _ _ _ _ _ _ h.qs
theorem ps_many (h : PS w W gq r f b n1 z1 n2 z2) : Calls Try.prog 16 #[.pointer (some ⟨gq, 0, none⟩)] W fun e w' => e = .returned (.int .i64 (n1 : Int)) ∧ w' = W := many_qs _ _ _ _ _ _ _ h.qs
theorem ps_full (h : PS w W gq r f b n1 z1 n2 z2) : Calls Try.prog 25 #[.pointer (some ⟨gq, 0, none⟩)] W fun e w' => e = .returned (.bool (decide (f ≤ b))) ∧ PS w w' gq r f b n1 z1 n2 z2 := (full_qs _ _ _ _ _ _ _ h.qs).mono fun e w' ⟨he, hb⟩ => ⟨he, h.below hb⟩
theorem ps_all (h : PS w W gq r f b n1 z1 n2 z2) (hn : n1 ≤ 1000) : Calls Try.prog 27 #[.pointer (some ⟨gq, 0, none⟩)] W fun e w' => ∃ A c, e = .returned (.slice A n1 c) ∧ Row w' A n1 z1 ∧ PS w w' gq r f b n1 z1 n2 z2 := (all_qs _ _ _ _ _ _ _ h.qs (by omega)).mono fun e w' ⟨⟨A, c, he, hr⟩, hb⟩ => ⟨A, c, he, hr.row, h.below hb⟩
theorem ps_rbytes (h : PS w W gq r f b n1 z1 n2 z2) (hn : n2 ≤ 1000) (hz : ZOK z2 n2 b) : Calls Try.prog 23 #[.pointer (some ⟨r, 0, none⟩)] W fun e w' => e = .returned (.int .i64 b) ∧ w' = W := by
  obtain ⟨h1, h2, ⟨A, cap, A', cap', k1, k2, k3, k4⟩, h5⟩ := h
  exact rbytes_calls r _ f A' n2 cap' z2 W k3 hn b hz
theorem ps_rmany (h : PS w W gq r f b n1 z1 n2 z2) : Calls Try.prog 24 #[.pointer (some ⟨r, 0, none⟩)] W fun e w' => e = .returned (.int .i64 (n2 : Int)) ∧ w' = W := by
  obtain ⟨h1, h2, ⟨A, cap, A', cap', k1, k2, k3, k4⟩, h5⟩ := h
  exact rmany_calls r _ f A' n2 cap' z2 W k3
theorem ps_rfull (h : PS w W gq r f b n1 z1 n2 z2) (hn : n2 ≤ 1000) (hz : ZOK z2 n2 b) : Calls Try.prog 26 #[.pointer (some ⟨r, 0, none⟩)] W fun e w' => e = .returned (.bool (decide (f ≤ b))) ∧ PS w w' gq r f b n1 z1 n2 z2 := by
  obtain ⟨h1, h2, ⟨A, cap, A', cap', k1, k2, k3, k4⟩, h5⟩ := id h
  exact (rfull_calls r _ f A' n2 cap' z2 W k3 hn b hz).mono fun e w' ⟨he, hb⟩ => ⟨he, h.below hb⟩
theorem ps_rall (h : PS w W gq r f b n1 z1 n2 z2) (hn : n2 ≤ 1000) {A0 : Option Addr} {n0 : Nat} {z0 : Nat → HV} (hr : Row W A0 n0 z0) : Calls Try.prog 28 #[.pointer (some ⟨r, 0, none⟩)] W fun e w' => ∃ A c, e = .returned (.slice A n2 c) ∧ Row w' A n2 z2 ∧ Row w' A0 n0 z0 ∧ PS w w' gq r f b n1 z1 n2 z2 := by
  obtain ⟨h1, h2, ⟨A, cap, A', cap', k1, k2, k3, k4⟩, h5⟩ := id h
  exact (rall_calls r _ f A' n2 cap' z2 W k3 hn).mono fun e w' ⟨⟨A, c, he, hr'⟩, hb⟩ => ⟨A, c, he, hr'.row, hr.below hb, h.below hb⟩
theorem ps_same (h : PS w W gq r f b n1 z1 n2 z2) {A A' : Option Addr} {n c c' : Nat} {l l' : Nat → HV} (hR : Row W A n l) (hR' : Row W A' n l') (hn : n ≤ 1000) (he : ∀ i, i < n → l i = l' i) : Calls Try.prog 19 #[.slice A n c, .slice A' n c'] W fun e w' => e = .returned (.bool true) ∧ PS w w' gq r f b n1 z1 n2 z2 :=
  (same_yes A A' n c c' l l' W hR hR' (by omega) he).mono fun e w' ⟨he, hb⟩ => ⟨he, h.below hb⟩
end
theorem DueAt.le {z : Nat → HV} {n : Nat} {now : Int} {k : Nat} (h : DueAt z n now k) : k ≤ n := by obtain ⟨a, _⟩ := h; exact a
theorem DueAt.uniq {z : Nat → HV} {n : Nat} {now : Int} {k k' : Nat} (h : DueAt z n now k) (h' : DueAt z n now k') : k = k' := by
  obtain ⟨a, b, c⟩ := h
  obtain ⟨a', b', c'⟩ := h'
  rcases Nat.lt_trichotomy k k' with e | e | e
  · have := b' k e; have := c (by omega); omega
  · exact e
  · have := b k' e; have := c' (by omega); omega
theorem sum_bd {z : Nat → HV} : ∀ (m : Nat), (∀ i, i < m → 0 ≤ (z i).n ∧ (z i).n ≤ 16777216) → 0 ≤ sumL (upto z m) ∧ sumL (upto z m) ≤ m * 16777216
  | 0, _ => ⟨by show (0 : Int) ≤ 0; omega, by show (0 : Int) ≤ _; omega⟩
  | m + 1, h => by
    have ih := sum_bd m (fun i hi => h i (by omega))
    have hm := h m (by omega)
    rw [upto_succ, sumL_snoc]
    constructor <;> omega
theorem sum_split (z : Nat → HV) (k : Nat) : ∀ m : Nat, sumL (upto z (k + m)) = sumL (upto z k) + sumL (upto (fun i => z (k + i)) m)
  | 0 => by show _ = _ + 0; simp
  | m + 1 => by
    rw [← Nat.add_assoc, upto_succ, sumL_snoc, upto_succ, sumL_snoc, sum_split z k m]
    omega
/-- What is left behind the first k is in bounds too. -/
theorem ZOK.cut {z : Nat → HV} {n k : Nat} {b : Int} (h : ZOK z n b) (hk : k ≤ n) (hn : n ≤ 1000) : ZOK (fun i => z (k + i)) (n - k) (wrap64 (b - sumL (upto z k))) := by
  obtain ⟨h1, h2, h3, h4⟩ := h
  have e := sum_split z k (n - k)
  rw [show k + (n - k) = n by omega] at e
  have b1 := sum_bd (z := fun i => z (k + i)) (n - k) (fun i hi => by have := h1 (k + i) (by omega); omega)
  have hw : wrap64 (b - sumL (upto z k)) = sumL (upto (fun i => z (k + i)) (n - k)) := by unfold wrap64; omega
  rw [hw]
  exact ⟨fun i hi => h1 (k + i) (by omega), rfl, b1.1, b1.2⟩
section
variable {w W : World} {gq r n1 n2 : Nat} {f b : Int} {z1 z2 : Nat → HV}
theorem ps_putB (h : PS w W gq r f b n1 z1 n2 z2) (x : HV) (hn : n1 ≤ 100000) (p : Bool) (hp : putB n1 z1 x = p) : Calls Try.prog 15 #[.pointer (some ⟨gq, 0, none⟩), .agg #[.int .i64 x.a, .int .i64 x.n, .int .i64 x.t]] W fun e w' => e = .returned (.bool p) ∧ PS w w' gq r f (if p = true then wrap64 (b + x.n) else b) (if p = true then n1 + 1 else n1) (upd z1 n1 x) n2 z2 := hp ▸ ps_put h x hn
theorem ps_rputB (h : PS w W gq r f b n1 z1 n2 z2) (x : HV) (hn : n2 ≤ 100000) (p : Bool) (hp : putB n2 z2 x = p) : Calls Try.prog 22 #[.pointer (some ⟨r, 0, none⟩), .agg #[.int .i64 x.a, .int .i64 x.n, .int .i64 x.t]] W fun e w' => e = .returned (.bool p) ∧ PS w w' gq r f b n1 z1 (if p = true then n2 + 1 else n2) (upd z2 n2 x) := hp ▸ ps_rput h x hn
end
theorem ZOK.same {z : Nat → HV} {n : Nat} {b : Int} (h : ZOK z n b) (x : HV) : ZOK (upd z n x) n b := by
  obtain ⟨h1, h2, h3, h4⟩ := h
  exact ⟨fun i hi => by unfold upd; rw [if_neg (by omega)]; exact h1 i hi, by rw [upto_upd]; exact h2, h3, h4⟩
set_option maxRecDepth 100000 in
set_option maxHeartbeats 4000000 in
theorem quarPlays_calls (f : Int) (A : Option Addr) (len cap : Nat) (zo : Nat → OpV) (w : World) (ho : Ops w A len zo) (hcap : len ≤ cap) (hmax : cap ≤ maxLen) : Calls Try.prog 4 #[.int .i64 f, .slice A len cap] w fun e w' => e = .returned (.bool true) ∧ Below w.heap.size w w' := by
  have hu26 := Try.underlying26
  have hu32 := Try.underlying32
  have HO := Asd.mk ho
  clear ho
  by_cases hf : f < 1 ∨ 16777216 < f
  · go_enter Try.func4, Try.ntmps4
    go_wp2_with fail
    (go_at_call 13; ((with_reducible refine (head_calls _).mono ?_); rintro e_ h1 ⟨rfl, b_⟩; have HB := Asd.mk b_; clear b_))
    go_wp2_with fail
    (go_at_call 14; ((with_reducible refine (newN f _ hf).mono ?_); rintro e_ w_ ⟨rfl, rfl⟩))
    go_wp2_with fail
    (go_at_call 18; ((with_reducible refine (rnewN f _ hf).mono ?_); rintro e_ w_ ⟨rfl, rfl⟩))
    go_wp2_with fail
    go_ret
    exact ⟨by simp, HB.out⟩
  have hf1 : 1 ≤ f := by omega
  have hf2 : f ≤ 16777216 := by omega
  clear hf
  by_cases hl : 300 < (len : Int)
  · clear HO
    go_enter Try.func4, Try.ntmps4
    go_wp2_with fail
    (go_at_call 13; ((with_reducible refine (head_calls _).mono ?_); rintro e_ h1 ⟨rfl, b_⟩; have HB := Asd.mk b_; clear b_))
    go_wp2_with fail
    (go_at_call 14; ((with_reducible refine (newY f _ hf1 hf2).mono ?_); rintro e_ h2 ⟨⟨rfl, q_⟩, b_⟩; have HQ := Asd.mk q_; have HB2 := Asd.mk b_; clear q_ b_))
    go_wp2_with fail
    (go_at_call 18; ((with_reducible refine (rnewY f _ hf1 hf2).mono ?_); rintro e_ h3 ⟨rfl, q_, b_⟩; have HK := Asd.mk q_; have HB3 := Asd.mk b_; clear q_ b_))
    go_wp2_with fail
    go_ret
    exact ⟨by simp, bcall (bcall HB.out HB2.out) HB3.out⟩
  go_enter Try.func4, Try.ntmps4
  go_wp2_with fail
  (go_at_call 13; ((with_reducible refine (head_calls _).mono ?_); rintro e_ h1 ⟨rfl, b_⟩; have HB := Asd.mk b_; clear b_))
  go_wp2_with fail
  (go_at_call 14; ((with_reducible refine (newY f _ hf1 hf2).mono ?_); rintro e_ h2 ⟨⟨rfl, q_⟩, b_⟩; have HQ := Asd.mk q_; have HB2 := Asd.mk b_; clear q_ b_))
  go_wp2_with fail
  (go_at_call 18; ((with_reducible refine (rnewY f _ hf1 hf2).mono ?_); rintro e_ h3 ⟨rfl, q_, b_⟩; have HK := Asd.mk q_; have HB3 := Asd.mk b_; clear q_ b_))
  go_wp2_with fail
  have H0 : Asd (PS w h3 h1.heap.size h2.heap.size f 0 0 z0 0 z0) := ⟨HB.out.size, HQ.out.lt, ⟨none, 0, none, 0, HQ.out.below HB3.out HQ.out.lt, Bag.nil _ _ _, ⟨HK.out, Bag.nil _ _ _⟩, fun j hj => by obtain ⟨_, h⟩ := hj; cases h⟩, bcall (bcall HB.out HB2.out) HB3.out⟩
  clear HQ HB HB2 HB3 HK
  generalize h1.heap.size = gq at *
  generalize h2.heap.size = r at *
  go_loopg [8] (len + 1) (fun kq v8 w' => ∃ (k m : Nat) (b : Int) (z : Nat → HV), v8 = .int .i64 (k : Int) ∧ Asd (k ≤ len ∧ kq + k = len + 1 ∧ m ≤ k ∧ ZOK z m b) ∧ Asd (PS w w' gq r f b m z m z))
  case atStart => exact ⟨0, 0, 0, z0, rfl, ⟨by omega, by omega, by omega, ZOK.zero _⟩, H0⟩
  case round =>
    obtain ⟨k, m, b, z, rfl, HI, HP⟩ := hrel
    clear H0
    obtain ⟨i0, i1, i2, i3⟩ := HI.out
    have HZ := Asd.mk i3
    clear i3
    by_cases c : k < len
    · have cI : (k : Int) < (len : Int) := by omega
      have c0 : (0 : Int) ≤ (k : Int) := by omega
      obtain ⟨B, o, rfl, hlB, ⟨d0, d1, d2, d3, d4⟩, hok⟩ := HO.out.at_ HP.out.2.2.2 c
      have hW := HO.out k c
      have hlo : w.heap.size ≤ w.heap.size := Nat.le_refl _
      obtain ⟨B', o', eBo, -, ⟨-, v1, v2, v3, v4⟩, -⟩ := hW
      simp only [Option.some.injEq, Addr.mk.injEq, and_true] at eBo
      obtain ⟨rfl, rfl⟩ := eBo
      clear hok
      generalize zo k = x at *
      obtain ⟨xq, ⟨xa, xn, xt⟩, now⟩ := x
      dsimp only at d0 d1 d2 d3 d4 v1 v2 v3 v4
      have HV := Asd.mk (And.intro v1 (And.intro v2 (And.intro v3 v4)))
      clear v1 v2 v3 v4
      by_cases hq : xq = 3
      · subst hq
        go_wp2_with fail
        refine start_ (n := 16) (S := fun w' => w'.cell? ⟨B, o + k * 5 + 4, none⟩ = some (.int .i64 now)) (ds := [13, 14]) #[false, false, false, false, false, false, false, false, false, false, false, false, false, false, false, false] (by kernel_rfl) rfl rfl (d4) (fun hHeld => ?_)
        refine pure_ (i := 0) (N := some 45) (v := ?_) (a' := ?_) #[true, false, false, false, false, false, false, false, false, false, false, false, false, false, false, false] rfl rfl (by kernel_rfl) (fun _ _ _ h => h) (Or.inl ⟨by rfl, ?_⟩) ?_ ?_
        rotate_left
        · intro w'
          go_simp
          with_reducible rfl
        rotate_left
        · simp only [Act.put, List.setIfInBounds_toArray, List.set_cons_zero, List.set_cons_succ, i64_w, i32_w]
          rfl
        refine pure_ (i := 1) (N := some 46) (v := ?_) (a' := ?_) #[true, true, false, false, false, false, false, false, false, false, false, false, false, false, false, false] rfl rfl (by kernel_rfl) (fun _ _ _ h => h) (Or.inl ⟨by rfl, ?_⟩) ?_ ?_
        rotate_left
        · intro w'
          go_simp
          with_reducible rfl
        rotate_left
        · simp only [Act.put, List.setIfInBounds_toArray, List.set_cons_zero, List.set_cons_succ, i64_w, i32_w]
          rfl
        refine pure_ (i := 2) (N := some 47) (v := ?_) (a' := ?_) #[true, true, true, false, false, false, false, false, false, false, false, false, false, false, false, false] rfl rfl (by kernel_rfl) (fun _ _ _ h => h) (Or.inl ⟨by rfl, ?_⟩) ?_ ?_
        rotate_left
        · intro w'
          go_simp
          with_reducible rfl
        rotate_left
        · simp only [Act.put, List.setIfInBounds_toArray, List.set_cons_zero, List.set_cons_succ, i64_w, i32_w]
          rfl
        refine pure_ (i := 3) (N := some 48) (v := ?_) (a' := ?_) #[true, true, true, true, false, false, false, false, false, false, false, false, false, false, false, false] rfl rfl (by kernel_rfl) (fun _ _ _ h => h) (Or.inl ⟨by rfl, ?_⟩) ?_ ?_
        rotate_left
        · intro w'
          go_simp
          with_reducible rfl
        rotate_left
        · simp only [Act.put, List.setIfInBounds_toArray, List.set_cons_zero, List.set_cons_succ, i64_w, i32_w]
          rfl
        refine pure_ (i := 4) (N := some 49) (v := ?_) (a' := ?_) #[true, true, true, true, true, false, false, false, false, false, false, false, false, false, false, false] rfl rfl (by kernel_rfl) (fun _ _ _ h => h) (Or.inl ⟨by rfl, ?_⟩) ?_ ?_
        rotate_left
        · intro w'
          go_simp
          with_reducible rfl
        rotate_left
        · simp only [Act.put, List.setIfInBounds_toArray, List.set_cons_zero, List.set_cons_succ, i64_w, i32_w]
          rfl
        refine pure_ (i := 7) (N := some 52) (v := ?_) (a' := ?_) #[true, true, true, true, true, false, false, true, false, false, false, false, false, false, false, false] rfl rfl (by kernel_rfl) (fun _ _ _ h => h) (Or.inl ⟨by rfl, ?_⟩) ?_ ?_
        rotate_left
        · intro w'
          go_simp
          with_reducible rfl
        rotate_left
        · simp only [Act.put, List.setIfInBounds_toArray, List.set_cons_zero, List.set_cons_succ, i64_w, i32_w]
          rfl
        refine pure_ (i := 8) (N := some 53) (v := ?_) (a' := ?_) #[true, true, true, true, true, false, false, true, true, false, false, false, false, false, false, false] rfl rfl (by kernel_rfl) (fun _ _ _ h => h) (Or.inl ⟨by rfl, ?_⟩) ?_ ?_
        rotate_left
        · intro w'
          go_simp
          with_reducible rfl
        rotate_left
        · simp only [Act.put, List.setIfInBounds_toArray, List.set_cons_zero, List.set_cons_succ, i64_w, i32_w]
          rfl
        refine pure_ (i := 9) (N := some 54) (v := ?_) (a' := ?_) #[true, true, true, true, true, false, false, true, true, true, false, false, false, false, false, false] rfl rfl (by kernel_rfl) (fun _ _ _ h => h) (Or.inl ⟨by rfl, ?_⟩) ?_ ?_
        rotate_left
        · intro w'
          go_simp
          with_reducible rfl
        rotate_left
        · simp only [Act.put, List.setIfInBounds_toArray, List.set_cons_zero, List.set_cons_succ, i64_w, i32_w]
          rfl
        refine pure_ (i := 10) (N := some 55) (v := ?_) (a' := ?_) #[true, true, true, true, true, false, false, true, true, true, true, false, false, false, false, false] rfl rfl (by kernel_rfl) (fun _ _ _ h => h) (Or.inl ⟨by rfl, ?_⟩) ?_ ?_
        rotate_left
        · intro w'
          go_simp
          with_reducible rfl
        rotate_left
        · simp only [Act.put, List.setIfInBounds_toArray, List.set_cons_zero, List.set_cons_succ, i64_w, i32_w]
          rfl
        refine pure_ (i := 11) (N := some 56) (v := ?_) (a' := ?_) #[true, true, true, true, true, false, false, true, true, true, true, true, false, false, false, false] rfl rfl (by kernel_rfl) (fun _ _ _ h => h) (Or.inl ⟨by rfl, ?_⟩) ?_ ?_
        rotate_left
        · intro w'
          go_simp
          with_reducible rfl
        rotate_left
        · simp only [Act.put, List.setIfInBounds_toArray, List.set_cons_zero, List.set_cons_succ, i64_w, i32_w]
          rfl
        refine take_ (i := 5) (N := some 50) (v := ?_) (a' := ?_) #[true, true, true, true, true, true, false, true, true, true, true, true, false, false, false, false] rfl rfl (by kernel_rfl) (fun _ _ _ h => h) (Or.inl ⟨by rfl, ?_⟩) hHeld ?_ ?_
        rotate_left
        · intro w' s0
          go_simp
          with_reducible rfl
        rotate_left
        · simp only [Act.put, List.setIfInBounds_toArray, List.set_cons_zero, List.set_cons_succ, i64_w, i32_w]
          rfl
        refine take_ (i := 12) (N := some 57) (v := ?_) (a' := ?_) #[true, true, true, true, true, true, false, true, true, true, true, true, true, false, false, false] rfl rfl (by kernel_rfl) (fun _ _ _ h => h) (Or.inl ⟨by rfl, ?_⟩) hHeld ?_ ?_
        rotate_left
        · intro w' s0
          go_simp
          with_reducible rfl
        rotate_left
        · simp only [Act.put, List.setIfInBounds_toArray, List.set_cons_zero, List.set_cons_succ, i64_w, i32_w]
          rfl
        refine one_ (i := 6) (N := some 51) #[true, true, true, true, true, true, true, true, true, true, true, true, true, false, false, false] rfl rfl (by kernel_rfl) (by decide) (fun K hK => ?_)
        refine goes_ Try.func20 (by kernel_rfl) rfl #[.pointer (some ⟨gq, 0, none⟩), .int .i64 now] (by rfl) rfl rfl (by simp only [List.map_toArray, List.map_cons, List.map_nil]; rfl) ?_
        with_reducible refine (ps_due (HP.out.below ((Below.refl _ _).drew)) now (by omega) HZ.out).mono ?_
        rintro e_ w5 ⟨k1, hk1, A3, c3, rfl, hb3, hp5⟩
        refine ⟨_, rfl, ?_⟩
        refine hK.out _ _ ((hp5.2.2.2.cell (p := ⟨B, _, none⟩) hlB).trans HV.out.2.2.2) (fun hHeld => ?_)
        clear hK K
        refine norm_ (a' := ?_) ?_ ?_
        rotate_left
        · show Act.put _ (some 51) _ = _
          simp only [Act.put, List.setIfInBounds_toArray, List.set_cons_zero, List.set_cons_succ, i64_w, i32_w]
          rfl
        refine last_ (i := 13) (N := some 58) #[true, true, true, true, true, true, true, true, true, true, true, true, true, true, false, false] rfl rfl (by kernel_rfl) (by decide) (fun K hK => ?_)
        refine goes_ Try.func21 (by kernel_rfl) rfl #[.pointer (some ⟨r, 0, none⟩), .int .i64 now] (by rfl) rfl rfl (by simp only [List.map_toArray, List.map_cons, List.map_nil]; rfl) ?_
        with_reducible refine (ps_rdue hp5 now (by omega) HZ.out.ok).mono ?_
        rintro e_ w6 ⟨k2, hk2, A4, c4, rfl, hb4, hp6, ht6⟩
        refine ⟨_, rfl, ?_⟩
        obtain rfl := DueAt.uniq hk1 hk2
        refine hK.out _ _ ?_
        clear hK K
        refine norm_ (a' := ?_) ?_ ?_
        rotate_left
        · show Act.put _ (some 58) _ = _
          simp only [Act.put, List.setIfInBounds_toArray, List.set_cons_zero, List.set_cons_succ, i64_w, i32_w]
          rfl
        refine last_ (i := 14) (N := some 59) #[true, true, true, true, true, true, true, true, true, true, true, true, true, true, true, false] rfl rfl (by kernel_rfl) (by decide) (fun K hK => ?_)
        refine goes_ Try.func19 (by kernel_rfl) rfl #[.slice A3 k1 c3, .slice A4 k1 c4] (by rfl) rfl rfl (by simp only [List.map_toArray, List.map_cons, List.map_nil]; rfl) ?_
        with_reducible refine (ps_same hp6 (hb3.keep (fun j hj hl => ht6.block j hl (fun e => by have := (hb3.lt hj).2; omega))).row hb4.row (Nat.le_trans hk1.le (by omega)) (fun _ _ => rfl)).mono ?_
        rintro e_ w7 ⟨rfl, hp7⟩
        refine ⟨_, rfl, ?_⟩
        refine hK.out _ _ ?_
        clear hK K
        refine norm_ (a' := ?_) ?_ ?_
        rotate_left
        · show Act.put _ (some 59) _ = _
          simp only [Act.put, List.setIfInBounds_toArray, List.set_cons_zero, List.set_cons_succ, i64_w, i32_w]
          rfl
        refine pure_ (i := 15) (N := some 60) (v := ?_) (a' := ?_) #[true, true, true, true, true, true, true, true, true, true, true, true, true, true, true, true] rfl rfl (by kernel_rfl) (fun _ _ _ h => h) (Or.inl ⟨by rfl, ?_⟩) ?_ ?_
        rotate_left
        · intro w'
          go_simp
          with_reducible rfl
        rotate_left
        · simp only [Act.put, List.setIfInBounds_toArray, List.set_cons_zero, List.set_cons_succ, i64_w, i32_w]
          rfl
        refine done_ (by kernel_rfl) ?_
        clear HP
        have HP := Asd.mk hp7
        have hk0 := hk1.le
        have HZ2 := Asd.mk (HZ.out.cut hk0 (by omega))
        clear hp5 hp6 hp7 hb3 hb4 ht6 hk1 hk2 d0 d1 d2 d3 d4
        go_wp2_with fail
        (go_at_call 17; ((with_reducible refine (ps_bytes HP.out).mono ?_); rintro e_ w_ ⟨rfl, rfl⟩))
        go_wp2_with fail
        (go_at_call 23; ((with_reducible refine (ps_rbytes HP.out (by omega) HZ2.out).mono ?_); rintro e_ w_ ⟨rfl, rfl⟩))
        go_wp2_with fail
        (go_at_call 16; ((with_reducible refine (ps_many HP.out).mono ?_); rintro e_ w_ ⟨rfl, rfl⟩))
        go_wp2_with fail
        (go_at_call 24; ((with_reducible refine (ps_rmany HP.out).mono ?_); rintro e_ w_ ⟨rfl, rfl⟩))
        go_wp2_with fail
        (go_at_call 25; ((with_reducible refine (ps_full HP.out).mono ?_); rintro e_ y1 ⟨rfl, h_⟩; clear HP; have HP := Asd.mk h_; clear h_))
        go_wp2_with fail
        (go_at_call 26; ((with_reducible refine (ps_rfull HP.out (by omega) HZ2.out).mono ?_); rintro e_ y2 ⟨rfl, h_⟩; clear HP; have HP := Asd.mk h_; clear h_))
        go_wp2_with fail
        (go_at_call 27; ((with_reducible refine (ps_all HP.out (by omega)).mono ?_); rintro e_ y3 ⟨A5, c5, rfl, r_, h_⟩; clear HP; have HP := Asd.mk h_; clear h_; have HR := Asd.mk r_; clear r_))
        go_wp2_with fail
        (go_at_call 28; ((with_reducible refine (ps_rall HP.out (by omega) HR.out).mono ?_); rintro e_ y4 ⟨A6, c6, rfl, r_, r2_, h_⟩; clear HP; have HP := Asd.mk h_; clear h_; clear HR; have HR := Asd.mk r2_; have HR6 := Asd.mk r_; clear r_ r2_))
        go_wp2_with fail
        (go_at_call 19; ((with_reducible refine (ps_same HP.out HR.out HR6.out (by omega) (fun _ _ => rfl)).mono ?_); rintro e_ y5 ⟨rfl, h_⟩; clear HP; have HP := Asd.mk h_; clear h_))
        go_wp2_with fail
        go_roundg (gk - 1)
        case measure => omega
        case rel => exact ⟨k + 1, m - k1, _, _, by simp, ⟨by omega, by omega, by omega, HZ2.out⟩, HP⟩
      · have e3 : (xq == 3) = false := by simp [hq]
        clear hq
        cases hp : putB m z ⟨xa, xn, xt⟩
        · have HZ2 := Asd.mk (HZ.out.same ⟨xa, xn, xt⟩)
          go_wp2_with fail
          refine start_ (n := 15) (S := fun w' => (w'.cell? ⟨B, o + k * 5 + 1, none⟩ = some (.int .i64 xa) ∧ w'.cell? ⟨B, o + k * 5 + 2, none⟩ = some (.int .i64 xn) ∧ w'.cell? ⟨B, o + k * 5 + 3, none⟩ = some (.int .i64 xt))) (ds := [13]) #[false, false, false, false, false, false, false, false, false, false, false, false, false, false, false] (by kernel_rfl) rfl rfl (⟨d1, d2, d3⟩) (fun hHeld => ?_)
          refine pure_ (i := 0) (N := some 61) (v := ?_) (a' := ?_) #[true, false, false, false, false, false, false, false, false, false, false, false, false, false, false] rfl rfl (by kernel_rfl) (fun _ _ _ h => h) (Or.inl ⟨by rfl, ?_⟩) ?_ ?_
          rotate_left
          · intro w'
            go_simp
            with_reducible rfl
          rotate_left
          · simp only [Act.put, List.setIfInBounds_toArray, List.set_cons_zero, List.set_cons_succ, i64_w, i32_w]
            rfl
          refine pure_ (i := 1) (N := some 62) (v := ?_) (a' := ?_) #[true, true, false, false, false, false, false, false, false, false, false, false, false, false, false] rfl rfl (by kernel_rfl) (fun _ _ _ h => h) (Or.inl ⟨by rfl, ?_⟩) ?_ ?_
          rotate_left
          · intro w'
            go_simp
            with_reducible rfl
          rotate_left
          · simp only [Act.put, List.setIfInBounds_toArray, List.set_cons_zero, List.set_cons_succ, i64_w, i32_w]
            rfl
          refine pure_ (i := 2) (N := some 63) (v := ?_) (a' := ?_) #[true, true, true, false, false, false, false, false, false, false, false, false, false, false, false] rfl rfl (by kernel_rfl) (fun _ _ _ h => h) (Or.inl ⟨by rfl, ?_⟩) ?_ ?_
          rotate_left
          · intro w'
            go_simp
            with_reducible rfl
          rotate_left
          · simp only [Act.put, List.setIfInBounds_toArray, List.set_cons_zero, List.set_cons_succ, i64_w, i32_w]
            rfl
          refine pure_ (i := 3) (N := some 64) (v := ?_) (a' := ?_) #[true, true, true, true, false, false, false, false, false, false, false, false, false, false, false] rfl rfl (by kernel_rfl) (fun _ _ _ h => h) (Or.inl ⟨by rfl, ?_⟩) ?_ ?_
          rotate_left
          · intro w'
            go_simp
            with_reducible rfl
          rotate_left
          · simp only [Act.put, List.setIfInBounds_toArray, List.set_cons_zero, List.set_cons_succ, i64_w, i32_w]
            rfl
          refine pure_ (i := 4) (N := some 65) (v := ?_) (a' := ?_) #[true, true, true, true, true, false, false, false, false, false, false, false, false, false, false] rfl rfl (by kernel_rfl) (fun _ _ _ h => h) (Or.inl ⟨by rfl, ?_⟩) ?_ ?_
          rotate_left
          · intro w'
            go_simp
            with_reducible rfl
          rotate_left
          · simp only [Act.put, List.setIfInBounds_toArray, List.set_cons_zero, List.set_cons_succ, i64_w, i32_w]
            rfl
          refine pure_ (i := 7) (N := some 68) (v := ?_) (a' := ?_) #[true, true, true, true, true, false, false, true, false, false, false, false, false, false, false] rfl rfl (by kernel_rfl) (fun _ _ _ h => h) (Or.inl ⟨by rfl, ?_⟩) ?_ ?_
          rotate_left
          · intro w'
            go_simp
            with_reducible rfl
          rotate_left
          · simp only [Act.put, List.setIfInBounds_toArray, List.set_cons_zero, List.set_cons_succ, i64_w, i32_w]
            rfl
          refine pure_ (i := 8) (N := some 69) (v := ?_) (a' := ?_) #[true, true, true, true, true, false, false, true, true, false, false, false, false, false, false] rfl rfl (by kernel_rfl) (fun _ _ _ h => h) (Or.inl ⟨by rfl, ?_⟩) ?_ ?_
          rotate_left
          · intro w'
            go_simp
            with_reducible rfl
          rotate_left
          · simp only [Act.put, List.setIfInBounds_toArray, List.set_cons_zero, List.set_cons_succ, i64_w, i32_w]
            rfl
          refine pure_ (i := 9) (N := some 70) (v := ?_) (a' := ?_) #[true, true, true, true, true, false, false, true, true, true, false, false, false, false, false] rfl rfl (by kernel_rfl) (fun _ _ _ h => h) (Or.inl ⟨by rfl, ?_⟩) ?_ ?_
          rotate_left
          · intro w'
            go_simp
            with_reducible rfl
          rotate_left
          · simp only [Act.put, List.setIfInBounds_toArray, List.set_cons_zero, List.set_cons_succ, i64_w, i32_w]
            rfl
          refine pure_ (i := 10) (N := some 71) (v := ?_) (a' := ?_) #[true, true, true, true, true, false, false, true, true, true, true, false, false, false, false] rfl rfl (by kernel_rfl) (fun _ _ _ h => h) (Or.inl ⟨by rfl, ?_⟩) ?_ ?_
          rotate_left
          · intro w'
            go_simp
            with_reducible rfl
          rotate_left
          · simp only [Act.put, List.setIfInBounds_toArray, List.set_cons_zero, List.set_cons_succ, i64_w, i32_w]
            rfl
          refine pure_ (i := 11) (N := some 72) (v := ?_) (a' := ?_) #[true, true, true, true, true, false, false, true, true, true, true, true, false, false, false] rfl rfl (by kernel_rfl) (fun _ _ _ h => h) (Or.inl ⟨by rfl, ?_⟩) ?_ ?_
          rotate_left
          · intro w'
            go_simp
            with_reducible rfl
          rotate_left
          · simp only [Act.put, List.setIfInBounds_toArray, List.set_cons_zero, List.set_cons_succ, i64_w, i32_w]
            rfl
          refine take_ (i := 5) (N := some 66) (v := ?_) (a' := ?_) #[true, true, true, true, true, true, false, true, true, true, true, true, false, false, false] rfl rfl (by kernel_rfl) (fun _ _ _ h => h) (Or.inl ⟨by rfl, ?_⟩) hHeld ?_ ?_
          rotate_left
          · intro w' s0
            go_simp
            with_reducible rfl
          rotate_left
          · simp only [Act.put, List.setIfInBounds_toArray, List.set_cons_zero, List.set_cons_succ, i64_w, i32_w]
            rfl
          refine take_ (i := 12) (N := some 73) (v := ?_) (a' := ?_) #[true, true, true, true, true, true, false, true, true, true, true, true, true, false, false] rfl rfl (by kernel_rfl) (fun _ _ _ h => h) (Or.inl ⟨by rfl, ?_⟩) hHeld ?_ ?_
          rotate_left
          · intro w' s0
            go_simp
            with_reducible rfl
          rotate_left
          · simp only [Act.put, List.setIfInBounds_toArray, List.set_cons_zero, List.set_cons_succ, i64_w, i32_w]
            rfl
          refine one_ (i := 6) (N := some 67) #[true, true, true, true, true, true, true, true, true, true, true, true, true, false, false] rfl rfl (by kernel_rfl) (by decide) (fun K hK => ?_)
          refine goes_ Try.func15 (by kernel_rfl) rfl #[.pointer (some ⟨gq, 0, none⟩), .agg #[.int .i64 xa, .int .i64 xn, .int .i64 xt]] (by rfl) rfl rfl (by simp only [List.map_toArray, List.map_cons, List.map_nil]; rfl) ?_
          with_reducible refine (ps_putB (HP.out.below ((Below.refl _ _).drew)) ⟨xa, xn, xt⟩ (by omega) false hp).mono ?_
          rintro e_ w5 ⟨rfl, hp5⟩
          refine ⟨_, rfl, ?_⟩
          refine hK.out _ _ (⟨(hp5.2.2.2.cell (p := ⟨B, _, none⟩) hlB).trans HV.out.1, (hp5.2.2.2.cell (p := ⟨B, _, none⟩) hlB).trans HV.out.2.1, (hp5.2.2.2.cell (p := ⟨B, _, none⟩) hlB).trans HV.out.2.2.1⟩) (fun hHeld => ?_)
          clear hK K
          refine norm_ (a' := ?_) ?_ ?_
          rotate_left
          · show Act.put _ (some 67) _ = _
            simp only [Act.put, List.setIfInBounds_toArray, List.set_cons_zero, List.set_cons_succ, i64_w, i32_w]
            rfl
          refine last_ (i := 13) (N := some 74) #[true, true, true, true, true, true, true, true, true, true, true, true, true, true, false] rfl rfl (by kernel_rfl) (by decide) (fun K hK => ?_)
          refine goes_ Try.func22 (by kernel_rfl) rfl #[.pointer (some ⟨r, 0, none⟩), .agg #[.int .i64 xa, .int .i64 xn, .int .i64 xt]] (by rfl) rfl rfl (by simp only [List.map_toArray, List.map_cons, List.map_nil]; rfl) ?_
          with_reducible refine (ps_rputB hp5 ⟨xa, xn, xt⟩ (by omega) false hp).mono ?_
          rintro e_ w6 ⟨rfl, hp6⟩
          refine ⟨_, rfl, ?_⟩
          refine hK.out _ _ ?_
          clear hK K
          refine norm_ (a' := ?_) ?_ ?_
          rotate_left
          · show Act.put _ (some 74) _ = _
            simp only [Act.put, List.setIfInBounds_toArray, List.set_cons_zero, List.set_cons_succ, i64_w, i32_w]
            rfl
          refine pure_ (i := 14) (N := some 75) (v := ?_) (a' := ?_) #[true, true, true, true, true, true, true, true, true, true, true, true, true, true, true] rfl rfl (by kernel_rfl) (fun _ _ _ h => h) (Or.inl ⟨by rfl, ?_⟩) ?_ ?_
          rotate_left
          · intro w'
            go_simp
            with_reducible rfl
          rotate_left
          · simp only [Act.put, List.setIfInBounds_toArray, List.set_cons_zero, List.set_cons_succ, i64_w, i32_w]
            rfl
          refine done_ (by kernel_rfl) ?_
          simp only [Bool.false_eq_true, if_false] at hp6
          clear HP
          have HP := Asd.mk hp6
          clear hp5 hp6 d0 d1 d2 d3 d4 hp
          go_wp2_with fail
          (go_at_call 17; ((with_reducible refine (ps_bytes HP.out).mono ?_); rintro e_ w_ ⟨rfl, rfl⟩))
          go_wp2_with fail
          (go_at_call 23; ((with_reducible refine (ps_rbytes HP.out (by omega) HZ2.out).mono ?_); rintro e_ w_ ⟨rfl, rfl⟩))
          go_wp2_with fail
          (go_at_call 16; ((with_reducible refine (ps_many HP.out).mono ?_); rintro e_ w_ ⟨rfl, rfl⟩))
          go_wp2_with fail
          (go_at_call 24; ((with_reducible refine (ps_rmany HP.out).mono ?_); rintro e_ w_ ⟨rfl, rfl⟩))
          go_wp2_with fail
          (go_at_call 25; ((with_reducible refine (ps_full HP.out).mono ?_); rintro e_ y1 ⟨rfl, h_⟩; clear HP; have HP := Asd.mk h_; clear h_))
          go_wp2_with fail
          (go_at_call 26; ((with_reducible refine (ps_rfull HP.out (by omega) HZ2.out).mono ?_); rintro e_ y2 ⟨rfl, h_⟩; clear HP; have HP := Asd.mk h_; clear h_))
          go_wp2_with fail
          (go_at_call 27; ((with_reducible refine (ps_all HP.out (by omega)).mono ?_); rintro e_ y3 ⟨A5, c5, rfl, r_, h_⟩; clear HP; have HP := Asd.mk h_; clear h_; have HR := Asd.mk r_; clear r_))
          go_wp2_with fail
          (go_at_call 28; ((with_reducible refine (ps_rall HP.out (by omega) HR.out).mono ?_); rintro e_ y4 ⟨A6, c6, rfl, r_, r2_, h_⟩; clear HP; have HP := Asd.mk h_; clear h_; clear HR; have HR := Asd.mk r2_; have HR6 := Asd.mk r_; clear r_ r2_))
          go_wp2_with fail
          (go_at_call 19; ((with_reducible refine (ps_same HP.out HR.out HR6.out (by omega) (fun _ _ => rfl)).mono ?_); rintro e_ y5 ⟨rfl, h_⟩; clear HP; have HP := Asd.mk h_; clear h_))
          go_wp2_with fail
          go_roundg (gk - 1)
          case measure => omega
          case rel => exact ⟨k + 1, m, _, _, by simp, ⟨by omega, by omega, by omega, HZ2.out⟩, HP⟩
        · have HZ2 := Asd.mk (HZ.out.put (by omega) hp)
          go_wp2_with fail
          refine start_ (n := 15) (S := fun w' => (w'.cell? ⟨B, o + k * 5 + 1, none⟩ = some (.int .i64 xa) ∧ w'.cell? ⟨B, o + k * 5 + 2, none⟩ = some (.int .i64 xn) ∧ w'.cell? ⟨B, o + k * 5 + 3, none⟩ = some (.int .i64 xt))) (ds := [13]) #[false, false, false, false, false, false, false, false, false, false, false, false, false, false, false] (by kernel_rfl) rfl rfl (⟨d1, d2, d3⟩) (fun hHeld => ?_)
          refine pure_ (i := 0) (N := some 61) (v := ?_) (a' := ?_) #[true, false, false, false, false, false, false, false, false, false, false, false, false, false, false] rfl rfl (by kernel_rfl) (fun _ _ _ h => h) (Or.inl ⟨by rfl, ?_⟩) ?_ ?_
          rotate_left
          · intro w'
            go_simp
            with_reducible rfl
          rotate_left
          · simp only [Act.put, List.setIfInBounds_toArray, List.set_cons_zero, List.set_cons_succ, i64_w, i32_w]
            rfl
          refine pure_ (i := 1) (N := some 62) (v := ?_) (a' := ?_) #[true, true, false, false, false, false, false, false, false, false, false, false, false, false, false] rfl rfl (by kernel_rfl) (fun _ _ _ h => h) (Or.inl ⟨by rfl, ?_⟩) ?_ ?_
          rotate_left
          · intro w'
            go_simp
            with_reducible rfl
          rotate_left
          · simp only [Act.put, List.setIfInBounds_toArray, List.set_cons_zero, List.set_cons_succ, i64_w, i32_w]
            rfl
          refine pure_ (i := 2) (N := some 63) (v := ?_) (a' := ?_) #[true, true, true, false, false, false, false, false, false, false, false, false, false, false, false] rfl rfl (by kernel_rfl) (fun _ _ _ h => h) (Or.inl ⟨by rfl, ?_⟩) ?_ ?_
          rotate_left
          · intro w'
            go_simp
            with_reducible rfl
          rotate_left
          · simp only [Act.put, List.setIfInBounds_toArray, List.set_cons_zero, List.set_cons_succ, i64_w, i32_w]
            rfl
          refine pure_ (i := 3) (N := some 64) (v := ?_) (a' := ?_) #[true, true, true, true, false, false, false, false, false, false, false, false, false, false, false] rfl rfl (by kernel_rfl) (fun _ _ _ h => h) (Or.inl ⟨by rfl, ?_⟩) ?_ ?_
          rotate_left
          · intro w'
            go_simp
            with_reducible rfl
          rotate_left
          · simp only [Act.put, List.setIfInBounds_toArray, List.set_cons_zero, List.set_cons_succ, i64_w, i32_w]
            rfl
          refine pure_ (i := 4) (N := some 65) (v := ?_) (a' := ?_) #[true, true, true, true, true, false, false, false, false, false, false, false, false, false, false] rfl rfl (by kernel_rfl) (fun _ _ _ h => h) (Or.inl ⟨by rfl, ?_⟩) ?_ ?_
          rotate_left
          · intro w'
            go_simp
            with_reducible rfl
          rotate_left
          · simp only [Act.put, List.setIfInBounds_toArray, List.set_cons_zero, List.set_cons_succ, i64_w, i32_w]
            rfl
          refine pure_ (i := 7) (N := some 68) (v := ?_) (a' := ?_) #[true, true, true, true, true, false, false, true, false, false, false, false, false, false, false] rfl rfl (by kernel_rfl) (fun _ _ _ h => h) (Or.inl ⟨by rfl, ?_⟩) ?_ ?_
          rotate_left
          · intro w'
            go_simp
            with_reducible rfl
          rotate_left
          · simp only [Act.put, List.setIfInBounds_toArray, List.set_cons_zero, List.set_cons_succ, i64_w, i32_w]
            rfl
          refine pure_ (i := 8) (N := some 69) (v := ?_) (a' := ?_) #[true, true, true, true, true, false, false, true, true, false, false, false, false, false, false] rfl rfl (by kernel_rfl) (fun _ _ _ h => h) (Or.inl ⟨by rfl, ?_⟩) ?_ ?_
          rotate_left
          · intro w'
            go_simp
            with_reducible rfl
          rotate_left
          · simp only [Act.put, List.setIfInBounds_toArray, List.set_cons_zero, List.set_cons_succ, i64_w, i32_w]
            rfl
          refine pure_ (i := 9) (N := some 70) (v := ?_) (a' := ?_) #[true, true, true, true, true, false, false, true, true, true, false, false, false, false, false] rfl rfl (by kernel_rfl) (fun _ _ _ h => h) (Or.inl ⟨by rfl, ?_⟩) ?_ ?_
          rotate_left
          · intro w'
            go_simp
            with_reducible rfl
          rotate_left
          · simp only [Act.put, List.setIfInBounds_toArray, List.set_cons_zero, List.set_cons_succ, i64_w, i32_w]
            rfl
          refine pure_ (i := 10) (N := some 71) (v := ?_) (a' := ?_) #[true, true, true, true, true, false, false, true, true, true, true, false, false, false, false] rfl rfl (by kernel_rfl) (fun _ _ _ h => h) (Or.inl ⟨by rfl, ?_⟩) ?_ ?_
          rotate_left
          · intro w'
            go_simp
            with_reducible rfl
          rotate_left
          · simp only [Act.put, List.setIfInBounds_toArray, List.set_cons_zero, List.set_cons_succ, i64_w, i32_w]
            rfl
          refine pure_ (i := 11) (N := some 72) (v := ?_) (a' := ?_) #[true, true, true, true, true, false, false, true, true, true, true, true, false, false, false] rfl rfl (by kernel_rfl) (fun _ _ _ h => h) (Or.inl ⟨by rfl, ?_⟩) ?_ ?_
          rotate_left
          · intro w'
            go_simp
            with_reducible rfl
          rotate_left
          · simp only [Act.put, List.setIfInBounds_toArray, List.set_cons_zero, List.set_cons_succ, i64_w, i32_w]
            rfl
          refine take_ (i := 5) (N := some 66) (v := ?_) (a' := ?_) #[true, true, true, true, true, true, false, true, true, true, true, true, false, false, false] rfl rfl (by kernel_rfl) (fun _ _ _ h => h) (Or.inl ⟨by rfl, ?_⟩) hHeld ?_ ?_
          rotate_left
          · intro w' s0
            go_simp
            with_reducible rfl
          rotate_left
          · simp only [Act.put, List.setIfInBounds_toArray, List.set_cons_zero, List.set_cons_succ, i64_w, i32_w]
            rfl
          refine take_ (i := 12) (N := some 73) (v := ?_) (a' := ?_) #[true, true, true, true, true, true, false, true, true, true, true, true, true, false, false] rfl rfl (by kernel_rfl) (fun _ _ _ h => h) (Or.inl ⟨by rfl, ?_⟩) hHeld ?_ ?_
          rotate_left
          · intro w' s0
            go_simp
            with_reducible rfl
          rotate_left
          · simp only [Act.put, List.setIfInBounds_toArray, List.set_cons_zero, List.set_cons_succ, i64_w, i32_w]
            rfl
          refine one_ (i := 6) (N := some 67) #[true, true, true, true, true, true, true, true, true, true, true, true, true, false, false] rfl rfl (by kernel_rfl) (by decide) (fun K hK => ?_)
          refine goes_ Try.func15 (by kernel_rfl) rfl #[.pointer (some ⟨gq, 0, none⟩), .agg #[.int .i64 xa, .int .i64 xn, .int .i64 xt]] (by rfl) rfl rfl (by simp only [List.map_toArray, List.map_cons, List.map_nil]; rfl) ?_
          with_reducible refine (ps_putB (HP.out.below ((Below.refl _ _).drew)) ⟨xa, xn, xt⟩ (by omega) true hp).mono ?_
          rintro e_ w5 ⟨rfl, hp5⟩
          refine ⟨_, rfl, ?_⟩
          refine hK.out _ _ (⟨(hp5.2.2.2.cell (p := ⟨B, _, none⟩) hlB).trans HV.out.1, (hp5.2.2.2.cell (p := ⟨B, _, none⟩) hlB).trans HV.out.2.1, (hp5.2.2.2.cell (p := ⟨B, _, none⟩) hlB).trans HV.out.2.2.1⟩) (fun hHeld => ?_)
          clear hK K
          refine norm_ (a' := ?_) ?_ ?_
          rotate_left
          · show Act.put _ (some 67) _ = _
            simp only [Act.put, List.setIfInBounds_toArray, List.set_cons_zero, List.set_cons_succ, i64_w, i32_w]
            rfl
          refine last_ (i := 13) (N := some 74) #[true, true, true, true, true, true, true, true, true, true, true, true, true, true, false] rfl rfl (by kernel_rfl) (by decide) (fun K hK => ?_)
          refine goes_ Try.func22 (by kernel_rfl) rfl #[.pointer (some ⟨r, 0, none⟩), .agg #[.int .i64 xa, .int .i64 xn, .int .i64 xt]] (by rfl) rfl rfl (by simp only [List.map_toArray, List.map_cons, List.map_nil]; rfl) ?_
          with_reducible refine (ps_rputB hp5 ⟨xa, xn, xt⟩ (by omega) true hp).mono ?_
          rintro e_ w6 ⟨rfl, hp6⟩
          refine ⟨_, rfl, ?_⟩
          refine hK.out _ _ ?_
          clear hK K
          refine norm_ (a' := ?_) ?_ ?_
          rotate_left
          · show Act.put _ (some 74) _ = _
            simp only [Act.put, List.setIfInBounds_toArray, List.set_cons_zero, List.set_cons_succ, i64_w, i32_w]
            rfl
          refine pure_ (i := 14) (N := some 75) (v := ?_) (a' := ?_) #[true, true, true, true, true, true, true, true, true, true, true, true, true, true, true] rfl rfl (by kernel_rfl) (fun _ _ _ h => h) (Or.inl ⟨by rfl, ?_⟩) ?_ ?_
          rotate_left
          · intro w'
            go_simp
            with_reducible rfl
          rotate_left
          · simp only [Act.put, List.setIfInBounds_toArray, List.set_cons_zero, List.set_cons_succ, i64_w, i32_w]
            rfl
          refine done_ (by kernel_rfl) ?_
          simp only [if_true] at hp6
          clear HP
          have HP := Asd.mk hp6
          clear hp5 hp6 d0 d1 d2 d3 d4 hp
          go_wp2_with fail
          (go_at_call 17; ((with_reducible refine (ps_bytes HP.out).mono ?_); rintro e_ w_ ⟨rfl, rfl⟩))
          go_wp2_with fail
          (go_at_call 23; ((with_reducible refine (ps_rbytes HP.out (by omega) HZ2.out).mono ?_); rintro e_ w_ ⟨rfl, rfl⟩))
          go_wp2_with fail
          (go_at_call 16; ((with_reducible refine (ps_many HP.out).mono ?_); rintro e_ w_ ⟨rfl, rfl⟩))
          go_wp2_with fail
          (go_at_call 24; ((with_reducible refine (ps_rmany HP.out).mono ?_); rintro e_ w_ ⟨rfl, rfl⟩))
          go_wp2_with fail
          (go_at_call 25; ((with_reducible refine (ps_full HP.out).mono ?_); rintro e_ y1 ⟨rfl, h_⟩; clear HP; have HP := Asd.mk h_; clear h_))
          go_wp2_with fail
          (go_at_call 26; ((with_reducible refine (ps_rfull HP.out (by omega) HZ2.out).mono ?_); rintro e_ y2 ⟨rfl, h_⟩; clear HP; have HP := Asd.mk h_; clear h_))
          go_wp2_with fail
          (go_at_call 27; ((with_reducible refine (ps_all HP.out (by omega)).mono ?_); rintro e_ y3 ⟨A5, c5, rfl, r_, h_⟩; clear HP; have HP := Asd.mk h_; clear h_; have HR := Asd.mk r_; clear r_))
          go_wp2_with fail
          (go_at_call 28; ((with_reducible refine (ps_rall HP.out (by omega) HR.out).mono ?_); rintro e_ y4 ⟨A6, c6, rfl, r_, r2_, h_⟩; clear HP; have HP := Asd.mk h_; clear h_; clear HR; have HR := Asd.mk r2_; have HR6 := Asd.mk r_; clear r_ r2_))
          go_wp2_with fail
          (go_at_call 19; ((with_reducible refine (ps_same HP.out HR.out HR6.out (by omega) (fun _ _ => rfl)).mono ?_); rintro e_ y5 ⟨rfl, h_⟩; clear HP; have HP := Asd.mk h_; clear h_))
          go_wp2_with fail
          go_roundg (gk - 1)
          case measure => omega
          case rel => exact ⟨k + 1, m + 1, _, _, by simp, ⟨by omega, by omega, by omega, HZ2.out⟩, HP⟩
    · have cI : ¬ (k : Int) < (len : Int) := by omega
      go_wp2_with fail
      go_ret
      exact ⟨by simp, HP.out.2.2.2⟩
end Go.Proofs.Ytldgecnmmklldaa.Qr
