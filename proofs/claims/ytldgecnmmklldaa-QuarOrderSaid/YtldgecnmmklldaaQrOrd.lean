/- The state of QuarOrder: what is kept apart, and the law's own slice of all that came in. -/
import Derived.Test.YtldgecnmmklldaaQrHead
import Derived.Test.YtldgecnmmklldaaQrAll
import Derived.Test.YtldgecnmmklldaaQrAllW
import Derived.Test.YtldgecnmmklldaaQrOpen13
namespace Go.Proofs.Ytldgecnmmklldaa.Qr
open Go.RowKit
set_option linter.unusedVariables false
set_option linter.unusedSimpArgs false
/-- n are kept apart (z1), m are in the law's own slice (z2); they lie apart from each other. -/
def LO (w W : World) (gq : Nat) (b : Int) (n : Nat) (z1 : Nat → HV) (m : Nat) (z2 : Nat → HV) (A2 : Option Addr) (cap2 : Nat) : Prop := w.heap.size ≤ gq ∧
  (∃ A cap, Blk W gq 59 #[.int .i64 100, .int .i64 b, .slice A n cap] ∧ Bag W (gq + 1) A n cap z1 ∧ ∀ k, InBlock A k → ¬ InBlock A2 k) ∧ Bag W (gq + 1) A2 m cap2 z2 ∧ Below w.heap.size w W
section
variable {w W W' : World} {gq n m : Nat} {b : Int} {z1 z2 : Nat → HV} {A2 : Option Addr} {cap2 : Nat}
theorem LO.below (h : LO w W gq b n z1 m z2 A2 cap2) (hb : Below W.heap.size W W') : LO w W' gq b n z1 m z2 A2 cap2 := by
  obtain ⟨h1, ⟨A, cap, h2, h3, h4⟩, h5, h6⟩ := h
  exact ⟨h1, ⟨A, cap, h2.below hb h2.lt, h3.keep fun k _ hl => hb.block k hl, h4⟩, h5.keep fun k _ hl => hb.block k hl, bcall h6 hb⟩
theorem LO.qs (h : LO w W gq b n z1 m z2 A2 cap2) : QS W gq (gq + 1) 100 b n z1 := by
  obtain ⟨h1, ⟨A, cap, h2, h3, h4⟩, h5, h6⟩ := h
  exact ⟨by omega, h2.lt, A, cap, h2, h3⟩
theorem lo_putY (h : LO w W gq b n z1 m z2 A2 cap2) (x : HV) (hm : n ≤ 100000) (hp : putB n z1 x = true) (cs : Array Value) (t : TypeId) :
    Calls Try.prog 15 #[.pointer (some ⟨gq, 0, none⟩), .agg #[.int .i64 x.a, .int .i64 x.n, .int .i64 x.t]] (W.alloc (.cells cs t)) fun e w' => e = .returned (.bool true) ∧ LO w w' gq (wrap64 (b + x.n)) (n + 1) (upd z1 n x) m z2 A2 cap2 ∧ Blk w' W.heap.size t cs := by
  obtain ⟨h1, ⟨A, cap, h2, h3, h4⟩, h5, h6⟩ := h
  refine (put_calls gq (gq + 1) 100 b A n cap z1 x (W.alloc (.cells cs t)) (h2.alloc _) (h3.alloc _) hm (h2.alloc _).lt).mono ?_
  rintro e w' ⟨he, ht, A', cap', k1, k2, k3⟩
  rw [hp] at he
  simp only [hp, if_true] at k1 k2
  have hsz : W.heap.size ≤ (W.alloc (.cells cs t)).heap.size := by simp
  have hlow : ∀ k, InBlock A2 k → ¬ (k = gq ∨ InBlock A k) := fun k hk hh => hh.elim (fun e => by have := (h5.lt hk).2; omega) (fun e => h4 k e hk)
  have hbk : Blk (W.alloc (.cells cs t)) W.heap.size t cs := Blk.new W t cs
  refine ⟨he, ⟨h1, ⟨A', cap', k1, k2, fun k hk h2' => ?_⟩, (h5.alloc _).keep fun k hk hl => ht.block k hl (hlow k hk), ?_⟩, hbk.keep (ht.block _ hbk.lt (fun hh => hh.elim (fun e => by have := h2.lt; omega) (fun e => by have := (h3.lt e).1; omega)))⟩
  · rcases k3 k hk with h | h
    · exact h4 k h h2'
    · have := (h5.lt h2').1; omega
  · exact ht.below (balloc h6 _) (fun i hi => hi.elim (fun e => by omega) (fun e => by have := (h3.lt e).2; omega))
theorem lo_putN (h : LO w W gq b n z1 m z2 A2 cap2) (x : HV) (hm : n ≤ 100000) (hp : putB n z1 x = false) (cs : Array Value) (t : TypeId) :
    Calls Try.prog 15 #[.pointer (some ⟨gq, 0, none⟩), .agg #[.int .i64 x.a, .int .i64 x.n, .int .i64 x.t]] (W.alloc (.cells cs t)) fun e w' => e = .returned (.bool false) ∧ LO w w' gq b n z1 m z2 A2 cap2 := by
  obtain ⟨h1, ⟨A, cap, h2, h3, h4⟩, h5, h6⟩ := h
  refine (put_calls gq (gq + 1) 100 b A n cap z1 x (W.alloc (.cells cs t)) (h2.alloc _) (h3.alloc _) hm (h2.alloc _).lt).mono ?_
  rintro e w' ⟨he, ht, A', cap', k1, k2, k3⟩
  rw [hp] at he
  simp only [hp, Bool.false_eq_true, if_false] at k1 k2
  have hsz : W.heap.size ≤ (W.alloc (.cells cs t)).heap.size := by simp
  have hlow : ∀ k, InBlock A2 k → ¬ (k = gq ∨ InBlock A k) := fun k hk hh => hh.elim (fun e => by have := (h5.lt hk).2; omega) (fun e => h4 k e hk)
  refine ⟨he, ⟨h1, ⟨A', cap', k1, k2.mono (Nat.le_refl _) (fun i hi => by unfold upd; rw [if_neg (by omega)]), fun k hk h2' => ?_⟩, (h5.alloc _).keep fun k hk hl => ht.block k hl (hlow k hk), ?_⟩⟩
  · rcases k3 k hk with h | h
    · exact h4 k h h2'
    · have := (h5.lt h2').1; omega
  · exact ht.below (balloc h6 _) (fun i hi => hi.elim (fun e => by omega) (fun e => by have := (h3.lt e).2; omega))
/-- Behind the law's own append. -/
theorem LO.app {A3 : Option Addr} {cap3 : Nat} {z3 : Nat → HV} (h : LO w W gq b n z1 m z2 A2 cap2) (hb : Bag W' (gq + 1) A3 (m + 1) cap3 z3) (ht : Turn (InBlock A2) W W') (hin : ∀ k, InBlock A3 k → InBlock A2 k ∨ W.heap.size ≤ k) : LO w W' gq b n z1 (m + 1) z3 A3 cap3 := by
  obtain ⟨h1, ⟨A, cap, h2, h3, h4⟩, h5, h6⟩ := h
  refine ⟨h1, ⟨A, cap, h2.keep (ht.block _ h2.lt (fun hk => by have := (h5.lt hk).2; omega)), h3.keep fun k hk hl => ht.block k hl (h4 k hk), fun k hk h3' => ?_⟩, hb, ht.below h6 (fun i hi => by have := (h5.lt hi).2; omega)⟩
  rcases hin k h3' with h | h
  · exact h4 k hk h
  · have := (h3.lt hk).1; omega
theorem LO.app2 {A3 : Option Addr} {cap3 : Nat} {z3 : Nat → HV} {ob : Obj} (h : LO w W gq b n z1 m z2 A2 cap2) (hb : Bag W' (gq + 1) A3 (m + 1) cap3 z3) (ht : Turn (InBlock A2) (W.alloc ob) W') (hin : ∀ k, InBlock A3 k → InBlock A2 k ∨ (W.alloc ob).heap.size ≤ k) : LO w W' gq b n z1 (m + 1) z3 A3 cap3 :=
  (h.below ((Below.refl _ W).alloc (Nat.le_refl _) ob)).app hb ht hin
theorem LO.box {ob : Obj} {g : Nat} {cs : Array Value} (h : LO w W gq b n z1 m z2 A2 cap2) (hX : Blk W g 35 cs) (ht : Turn (InBlock A2) (W.alloc ob) W') : Blk W' g 35 cs :=
  (hX.alloc ob).keep (ht.block g (hX.alloc ob).lt (fun hk => h.2.2.1.ne hX (by decide) hk rfl))
theorem InBlock.ofCut {A : Option Addr} {cap k j : Nat} {base n : Nat} {z : Nat → HV} (k2 : Bag W base A n cap z) (hj : InBlock (if cap = k then A else A.map (·.add (k * 3))) j) : InBlock A j := by
  obtain ⟨o, hj⟩ := hj
  split at hj
  · exact ⟨o, hj⟩
  · obtain ⟨_, _, ⟨rfl, _⟩ | ⟨B, o', cur, rfl, _⟩⟩ := id k2
    · cases hj
    · simp only [Option.map_some, Option.some.injEq] at hj
      unfold Addr.add at hj
      split at hj
      · injection hj with e1 e2
        subst e1
        exact ⟨o', rfl⟩
      · injection hj with e1 e2
        subst e1
        exact ⟨o', rfl⟩
theorem lo_due (h : LO w W gq b n z1 m z2 A2 cap2) (now : Int) (hn : n ≤ 1000) (hz : ZOK z1 n b) (cs : Array Value) (t : TypeId) :
    Calls Try.prog 20 #[.pointer (some ⟨gq, 0, none⟩), .int .i64 now] (W.alloc (.cells cs t)) fun e w' => ∃ k, DueAt z1 n now k ∧ ∃ A3 cap3, e = .returned (.slice A3 k cap3) ∧ Bag w' (gq + 1) A3 k cap3 z1 ∧ LO w w' gq (wrap64 (b - sumL (upto z1 k))) (n - k) (fun i => z1 (k + i)) m z2 A2 cap2 ∧ Blk w' W.heap.size t cs := by
  obtain ⟨h1, ⟨A, cap, h2, h3, h4⟩, h5, h6⟩ := h
  have hlt := h2.lt
  have hsz : (W.alloc (.cells cs t)).heap.size = W.heap.size + 1 := by simp
  refine (due20 gq (gq + 1) 100 b A n cap z1 now (W.alloc (.cells cs t)) (h2.alloc _) (h3.alloc _) (by omega) hz.ok ⟨by have := hz.2.2; omega, by have := hz.2.2; omega⟩).mono ?_
  rintro e w' ⟨k, hk, A3, cap3, he, hbag, hB, hT⟩
  have hbk : Blk (W.alloc (.cells cs t)) W.heap.size t cs := Blk.new W t cs
  refine ⟨k, hk, A3, cap3, he, hbag.lower (by rw [hsz]; omega), ⟨h1, ⟨_, _, hB, ((h3.alloc _).keep fun j hj hl => hT.block j hl (fun e => by have := (h3.lt hj).2; omega)).cut hk.1, fun j hj => h4 j (InBlock.ofCut h3 hj)⟩, (h5.alloc _).keep fun j hj hl => hT.block j hl (fun e => by have := (h5.lt hj).2; omega), hT.below (balloc h6 _) (fun i hi => by omega)⟩, hbk.keep (hT.block _ hbk.lt (fun e => by omega))⟩
theorem LO.castB {b' : Int} (h : LO w W gq b n z1 m z2 A2 cap2) (hb : b = b') : LO w W gq b' n z1 m z2 A2 cap2 := hb ▸ h
theorem lo_bytes (h : LO w W gq b n z1 m z2 A2 cap2) : Calls Try.prog 17 #[.pointer (some ⟨gq, 0, none⟩)] W fun e w' => e = .returned (.int .i64 b) ∧ w' = W := bytes_qs _ _ _ _ _ _ _ h.qs
theorem lo_many (h : LO w W gq b n z1 m z2 A2 cap2) : Calls Try.prog 16 #[.pointer (some ⟨gq, 0, none⟩)] W fun e w' => e = .returned (.int .i64 (n : Int)) ∧ w' = W := many_qs _ _ _ _ _ _ _ h.qs
theorem lo_full (h : LO w W gq b n z1 m z2 A2 cap2) : Calls Try.prog 25 #[.pointer (some ⟨gq, 0, none⟩)] W fun e w' => e = .returned (.bool (decide (100 ≤ b))) ∧ LO w w' gq b n z1 m z2 A2 cap2 := (full_qs _ _ _ _ _ _ _ h.qs).mono fun e w' ⟨he, hb⟩ => ⟨he, h.below hb⟩
theorem lo_all (h : LO w W gq b n z1 m z2 A2 cap2) (hn : n ≤ 1000) : Calls Try.prog 27 #[.pointer (some ⟨gq, 0, none⟩)] W fun e w' => ∃ A c, e = .returned (.slice A n c) ∧ Row w' A n z1 ∧ LO w w' gq b n z1 m z2 A2 cap2 := (all_qs _ _ _ _ _ _ _ h.qs (by omega)).mono fun e w' ⟨⟨A, c, he, hr⟩, hb⟩ => ⟨A, c, he, hr.row, h.below hb⟩
theorem lo_same (h : LO w W gq b n z1 m z2 A2 cap2) {o : Nat} (ho : o + n = m) (hz : ∀ i, i < n → z1 i = z2 (o + i)) {A : Option Addr} {c : Nat} (hR : Row W A n z1) (hn : n ≤ 1000) : Calls Try.prog 19 #[.slice A n c, .slice (if cap2 = o then A2 else A2.map (·.add (o * 3))) (m - o) (cap2 - o)] W fun e w' => e = .returned (.bool true) ∧ LO w w' gq b n z1 m z2 A2 cap2 := by
  have hc := h.2.2.1.cut (k := o) (by omega)
  rw [show m - o = n by omega] at hc ⊢
  exact (same_yes A _ n c _ z1 (fun i => z2 (o + i)) W hR hc.row (by omega) hz).mono fun e w' ⟨he, hb⟩ => ⟨he, h.below hb⟩
end
/-- Where the law stands: m came in, o of them went out. -/
def OK (len kq k n m o : Nat) (b : Int) (z1 z2 : Nat → HV) : Prop := k ≤ len ∧ kq + k = len + 1 ∧ m ≤ k ∧ o + n = m ∧ ZOK z1 n b ∧ (∀ i, i < n → z1 i = z2 (o + i)) ∧ (n = 0 → True)
theorem OK.put {len kq k n m o : Nat} {b : Int} {z1 z2 : Nat → HV} {x : HV} (h : OK len kq k n m o b z1 z2) (hk : k < len) (hl : len ≤ 300) (hp : putB n z1 x = true) : OK len (kq - 1) (k + 1) (n + 1) (m + 1) o (wrap64 (b + x.n)) (upd z1 n x) (upd z2 m x) := by
  obtain ⟨h1, h2, h3, h4, h5, h6, h7⟩ := h
  refine ⟨by omega, by omega, by omega, by omega, h5.put (by omega) hp, fun i hi => ?_, fun _ => trivial⟩
  unfold upd
  by_cases e : i = n
  · rw [if_pos e, if_pos (by omega)]
  · rw [if_neg e, if_neg (by omega)]; exact h6 i (by omega)
theorem OK.same {len kq k n m o : Nat} {b : Int} {z1 z2 : Nat → HV} (h : OK len kq k n m o b z1 z2) (hk : k < len) : OK len (kq - 1) (k + 1) n m o b z1 z2 := by
  obtain ⟨h1, h2, h3, h4, h5, h6, h7⟩ := h
  exact ⟨by omega, by omega, by omega, h4, h5, h6, h7⟩
theorem sum_bd0 {z : Nat → HV} : ∀ (m : Nat), (∀ i, i < m → 0 ≤ (z i).n ∧ (z i).n ≤ 16777216) → 0 ≤ sumL (upto z m) ∧ sumL (upto z m) ≤ m * 16777216
  | 0, _ => ⟨by show (0 : Int) ≤ 0; omega, by show (0 : Int) ≤ _; omega⟩
  | m + 1, h => by
    have ih := sum_bd0 m (fun i hi => h i (by omega))
    have hm := h m (by omega)
    rw [upto_succ, sumL_snoc]
    constructor <;> omega
theorem sum_split0 (z : Nat → HV) (k : Nat) : ∀ m : Nat, sumL (upto z (k + m)) = sumL (upto z k) + sumL (upto (fun i => z (k + i)) m)
  | 0 => by show _ = _ + 0; simp
  | m + 1 => by
    rw [← Nat.add_assoc, upto_succ, sumL_snoc, upto_succ, sumL_snoc, sum_split0 z k m]
    omega
theorem ZOK.sub {z : Nat → HV} {n k : Nat} {b : Int} (h : ZOK z n b) (hk : k ≤ n) (hn : n ≤ 1000) : wrap64 (b - sumL (upto z k)) = b - sumL (upto z k) ∧ ZOK (fun i => z (k + i)) (n - k) (b - sumL (upto z k)) := by
  obtain ⟨h1, h2, h3, h4⟩ := h
  have e := sum_split0 z k (n - k)
  rw [show k + (n - k) = n by omega] at e
  have b1 := sum_bd0 (z := fun i => z (k + i)) (n - k) (fun i hi => by have := h1 (k + i) (by omega); omega)
  have hw : b - sumL (upto z k) = sumL (upto (fun i => z (k + i)) (n - k)) := by omega
  rw [hw]
  exact ⟨by unfold wrap64; omega, fun i hi => h1 (k + i) (by omega), rfl, b1.1, b1.2⟩
theorem OK.due {len kq k n m o j : Nat} {b : Int} {z1 z2 : Nat → HV} (h : OK len kq k n m o b z1 z2) (hk : k < len) (hl : len ≤ 300) (hj : j ≤ n) : OK len (kq - 1) (k + 1) (n - j) m (o + j) (b - sumL (upto z1 j)) (fun i => z1 (j + i)) z2 := by
  obtain ⟨h1, h2, h3, h4, h5, h6, h7⟩ := h
  refine ⟨by omega, by omega, by omega, by omega, (h5.sub hj (by omega)).2, fun i hi => ?_, fun _ => trivial⟩
  show z1 (j + i) = _
  rw [h6 (j + i) (by omega), Nat.add_assoc]
/-- The inner loop's state. -/
def LX (w W : World) (gq : Nat) (b : Int) (n : Nat) (z1 : Nat → HV) (m : Nat) (z2 : Nat → HV) (A2 : Option Addr) (cap2 : Nat) (A3 : Option Addr) (j c3 : Nat) (zx : Nat → HV) (g : Nat) (cs : Array Value) : Prop :=
  LO w W gq b n z1 m z2 A2 cap2 ∧ Bag W (gq + 1) A3 j c3 zx ∧ Blk W g 35 cs
theorem LX.drewN {w W : World} {gq n m : Nat} {b : Int} {z1 z2 : Nat → HV} {A2 : Option Addr} {cap2 : Nat} {A3 : Option Addr} {j c3 : Nat} {zx : Nat → HV} {g : Nat} {cs : Array Value} (h : LX w W gq b n z1 m z2 A2 cap2 A3 j c3 zx g cs) (k : Nat) : LX w (W.drewN k) gq b n z1 m z2 A2 cap2 A3 j c3 zx g cs :=
  ⟨h.1.below (bdrewN (Below.refl _ _) k), h.2.1.drewN k, h.2.2.drewN k⟩
theorem LX.drew {w W : World} {gq n m : Nat} {b : Int} {z1 z2 : Nat → HV} {A2 : Option Addr} {cap2 : Nat} {A3 : Option Addr} {j c3 : Nat} {zx : Nat → HV} {g : Nat} {cs : Array Value} (h : LX w W gq b n z1 m z2 A2 cap2 A3 j c3 zx g cs) : LX w W.drew gq b n z1 m z2 A2 cap2 A3 j c3 zx g cs := h.drewN 1
theorem sum_step {z : Nat → HV} {n j : Nat} {b : Int} (h : ZOK z n b) (hn : n ≤ 1000) {i : Nat} (hi : i < j) (hj : j ≤ n) : wrap64 (b - sumL (upto z i) - (z i).n) = b - sumL (upto z (i + 1)) := by
  have e : sumL (upto z (i + 1)) = sumL (upto z i) + (z i).n := by rw [upto_succ, sumL_snoc]
  have h2 := h.sub (k := i + 1) (by omega) hn
  rw [e, ← Int.sub_sub] at h2
  rw [e, ← Int.sub_sub]
  exact h2.1
end Go.Proofs.Ytldgecnmmklldaa.Qr
