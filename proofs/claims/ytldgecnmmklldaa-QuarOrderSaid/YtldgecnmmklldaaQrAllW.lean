/- The walk of QuarAll. -/
import Derived.Test.YtldgecnmmklldaaQrHead
import Derived.Test.YtldgecnmmklldaaQrAll
import Derived.Test.YtldgecnmmklldaaQrOpen13
namespace Go.Proofs.Ytldgecnmmklldaa.Qr
open Go.RowKit
set_option linter.unusedVariables false
set_option linter.unusedSimpArgs false
theorem wpList_bag {w : World} {ops : Array Oper} {rest : List Oper} {o : Oper} {a : Act} {Q : Exit → Act → World → Prop}
    (hg : o.guard = none) (s x : Operand) (hop : o.op = Op.call { callee := Callee.builtin Builtin.append, args := #[s, x], argTypes := #[37, 37] })
    {base : Nat} {A : Option Addr} {n cap sb : Nat} {z : Nat → HV} {y0 y1 y2 : Int} (hs : a.eval s = .slice A n cap) (hx : a.eval x = .slice (some ⟨sb, 0, none⟩) 1 1)
    (bag : Bag w base A n cap z) (hblk : Blk w sb 23 #[.int .i64 y0, .int .i64 y1, .int .i64 y2]) (hb : base ≤ w.heap.size) (hn : n ≤ 100000)
    (h : ∀ A' cap' w', Bag w' base A' (n + 1) cap' (upd z n ⟨y0, y1, y2⟩) → Turn (InBlock A) w w' → (∀ k, InBlock A' k → InBlock A k ∨ w.heap.size ≤ k) → wpList Try.prog ops Q rest (a.put o.dst (.slice A' (n + 1) cap')) w') :
    wpList Try.prog ops Q (o :: rest) a w := by
  refine wpList_plain hg fun K hK => ?_
  obtain ⟨A', cap', W', hrun, h1, h2, h3⟩ := append_bag bag ⟨y0, y1, y2⟩ sb hblk hb hn o.type
  unfold Oper.wp execOp
  simp only [hop, resolve, invoke, builtin, Sem.run_bind, Sem.run_pure, Result.andThen_ok, List.map_toArray, List.map_cons, List.map_nil, hs, hx, hrun]
  exact hK _ _ (h A' cap' W' h1 h2 h3)
/-- What stands: m are kept apart, and m are in the law's own slice; they lie apart from each other. -/
def LA (w W : World) (gq : Nat) (b : Int) (m m2 : Nat) (z : Nat → HV) (A2 : Option Addr) (cap2 : Nat) : Prop := w.heap.size ≤ gq ∧
  (∃ A cap, Blk W gq 59 #[.int .i64 100, .int .i64 b, .slice A m cap] ∧ Bag W (gq + 1) A m cap z ∧ ∀ k, InBlock A k → ¬ InBlock A2 k) ∧ Bag W (gq + 1) A2 m2 cap2 z ∧ Below w.heap.size w W
section
variable {w W W' : World} {gq m m2 : Nat} {b : Int} {z : Nat → HV} {A2 : Option Addr} {cap2 : Nat}
theorem LA.below (h : LA w W gq b m m2 z A2 cap2) (hb : Below W.heap.size W W') : LA w W' gq b m m2 z A2 cap2 := by
  obtain ⟨h1, ⟨A, cap, h2, h3, h4⟩, h5, h6⟩ := h
  exact ⟨h1, ⟨A, cap, h2.below hb h2.lt, h3.keep fun k _ hl => hb.block k hl, h4⟩, h5.keep fun k _ hl => hb.block k hl, bcall h6 hb⟩
theorem LA.qs (h : LA w W gq b m m2 z A2 cap2) : QS W gq (gq + 1) 100 b m z := by
  obtain ⟨h1, ⟨A, cap, h2, h3, h4⟩, h5, h6⟩ := h
  exact ⟨by omega, h2.lt, A, cap, h2, h3⟩
theorem la_putY (h : LA w W gq b m m z A2 cap2) (x : HV) (hm : m ≤ 100000) (hp : putB m z x = true) (cs : Array Value) (t : TypeId) :
    Calls Try.prog 15 #[.pointer (some ⟨gq, 0, none⟩), .agg #[.int .i64 x.a, .int .i64 x.n, .int .i64 x.t]] (W.alloc (.cells cs t)) fun e w' => e = .returned (.bool true) ∧ LA w w' gq (wrap64 (b + x.n)) (m + 1) m (upd z m x) A2 cap2 ∧ Blk w' W.heap.size t cs := by
  obtain ⟨h1, ⟨A, cap, h2, h3, h4⟩, h5, h6⟩ := h
  refine (put_calls gq (gq + 1) 100 b A m cap z x (W.alloc (.cells cs t)) (h2.alloc _) (h3.alloc _) hm (h2.alloc _).lt).mono ?_
  rintro e w' ⟨he, ht, A', cap', k1, k2, k3⟩
  rw [hp] at he
  simp only [hp, if_true] at k1 k2
  have hsz : W.heap.size ≤ (W.alloc (.cells cs t)).heap.size := by simp
  have hlow : ∀ k, InBlock A2 k → ¬ (k = gq ∨ InBlock A k) := fun k hk hh => hh.elim (fun e => by have := (h5.lt hk).2; omega) (fun e => h4 k e hk)
  have hbk : Blk (W.alloc (.cells cs t)) W.heap.size t cs := Blk.new W t cs
  refine ⟨he, ⟨h1, ⟨A', cap', k1, k2, fun k hk h2' => ?_⟩, ((h5.alloc _).keep fun k hk hl => ht.block k hl (hlow k hk)).mono (Nat.le_refl _) (fun i hi => by unfold upd; rw [if_neg (by omega)]), ?_⟩, hbk.keep (ht.block _ hbk.lt (fun hh => hh.elim (fun e => by have := h2.lt; omega) (fun e => by have := (h3.lt e).1; omega)))⟩
  · rcases k3 k hk with h | h
    · exact h4 k h h2'
    · have := (h5.lt h2').1; omega
  · exact ht.below (balloc h6 _) (fun i hi => hi.elim (fun e => by omega) (fun e => by have := (h3.lt e).2; omega))
theorem la_putN (h : LA w W gq b m m z A2 cap2) (x : HV) (hm : m ≤ 100000) (hp : putB m z x = false) :
    Calls Try.prog 15 #[.pointer (some ⟨gq, 0, none⟩), .agg #[.int .i64 x.a, .int .i64 x.n, .int .i64 x.t]] W fun e w' => e = .returned (.bool false) ∧ LA w w' gq b m m z A2 cap2 := by
  obtain ⟨h1, ⟨A, cap, h2, h3, h4⟩, h5, h6⟩ := h
  refine (put_calls gq (gq + 1) 100 b A m cap z x W h2 h3 hm h2.lt).mono ?_
  rintro e w' ⟨he, ht, A', cap', k1, k2, k3⟩
  rw [hp] at he
  simp only [hp, Bool.false_eq_true, if_false] at k1 k2
  have hlow : ∀ k, InBlock A2 k → ¬ (k = gq ∨ InBlock A k) := fun k hk hh => hh.elim (fun e => by have := (h5.lt hk).2; omega) (fun e => h4 k e hk)
  refine ⟨he, ⟨h1, ⟨A', cap', k1, k2.mono (Nat.le_refl _) (fun i hi => by unfold upd; rw [if_neg (by omega)]), fun k hk h2' => ?_⟩, h5.keep fun k hk hl => ht.block k hl (hlow k hk), ?_⟩⟩
  · rcases k3 k hk with h | h
    · exact h4 k h h2'
    · have := (h5.lt h2').1; omega
  · exact ht.below h6 (fun i hi => hi.elim (fun e => by omega) (fun e => by have := (h3.lt e).2; omega))
/-- Behind the law's own append. -/
theorem LA.app {A3 : Option Addr} {cap3 : Nat} {z2 : Nat → HV} (h : LA w W gq b m m2 z A2 cap2) (hb : Bag W' (gq + 1) A3 (m2 + 1) cap3 z2) (hz : ∀ i, i < m → z2 i = z i) (ht : Turn (InBlock A2) W W') (hin : ∀ k, InBlock A3 k → InBlock A2 k ∨ W.heap.size ≤ k) : LA w W' gq b m (m2 + 1) z2 A3 cap3 := by
  obtain ⟨h1, ⟨A, cap, h2, h3, h4⟩, h5, h6⟩ := h
  refine ⟨h1, ⟨A, cap, h2.keep (ht.block _ h2.lt (fun hk => by have := (h5.lt hk).2; omega)), (h3.keep fun k hk hl => ht.block k hl (h4 k hk)).mono (Nat.le_refl _) hz, fun k hk h3' => ?_⟩, hb, ht.below h6 (fun i hi => by have := (h5.lt hi).2; omega)⟩
  rcases hin k h3' with h | h
  · exact h4 k hk h
  · have := (h3.lt hk).1; omega
end
/-- Of m that are held: all are in bounds, and the bytes are their sum. -/
def ZOK (z : Nat → HV) (m : Nat) (b : Int) : Prop := (∀ i, i < m → 0 ≤ (z i).a ∧ (z i).a ≤ 16777216 ∧ 0 ≤ (z i).n ∧ (z i).n ≤ 16777216 ∧ 0 ≤ (z i).t ∧ (z i).t ≤ 2199023255552) ∧ b = sumL (upto z m) ∧ 0 ≤ b ∧ b ≤ m * 16777216
theorem ZOK.ok {z : Nat → HV} {m : Nat} {b : Int} (h : ZOK z m b) : ∀ i, i < m → (z i).ok := fun i hi => by
  obtain ⟨h1, h2, h3, h4, h5, h6⟩ := h.1 i hi
  exact ⟨⟨by omega, by omega⟩, ⟨by omega, by omega⟩, ⟨by omega, by omega⟩⟩
theorem upto_upd (z : Nat → HV) (m : Nat) (x : HV) : upto (upd z m x) m = upto z m := by
  unfold upto
  refine List.map_congr_left fun i hi => ?_
  unfold upd
  rw [if_neg (by have := List.mem_range.1 hi; omega)]
theorem ZOK.put {z : Nat → HV} {m : Nat} {b : Int} {x : HV} (h : ZOK z m b) (hm : m ≤ 1000) (hp : putB m z x = true) : ZOK (upd z m x) (m + 1) (wrap64 (b + x.n)) := by
  obtain ⟨h1, h2, h3, h4⟩ := h
  have hx : 0 ≤ x.a ∧ x.a ≤ 16777216 ∧ 0 ≤ x.n ∧ x.n ≤ 16777216 ∧ 0 ≤ x.t ∧ x.t ≤ 2199023255552 := by
    unfold putB at hp
    simp at hp
    omega
  have hw : wrap64 (b + x.n) = b + x.n := by unfold wrap64; omega
  rw [hw]
  refine ⟨fun i hi => ?_, ?_, by omega, by omega⟩
  · unfold upd
    split
    · exact hx
    · exact h1 i (by omega)
  · rw [upto_succ, sumL_snoc, upto_upd, ← h2]
    unfold upd
    rw [if_pos rfl]
theorem upd_upd (z : Nat → HV) (m : Nat) (x : HV) : upd (upd z m x) m x = upd z m x := by
  funext i; unfold upd; split <;> rfl
/-- What stands behind the loop. -/
def LE (w W : World) (gq : Nat) (b : Int) (m : Nat) (z : Nat → HV) (m2 : Nat) (A2 : Option Addr) (cap2 : Nat) (z2 : Nat → HV) : Prop := w.heap.size ≤ gq ∧ QS W gq (gq + 1) 100 b m z ∧ Bag W (gq + 1) A2 m2 cap2 z2 ∧ Below w.heap.size w W
section
variable {w W W' : World} {gq m m2 : Nat} {b : Int} {z z2 : Nat → HV} {A2 : Option Addr} {cap2 : Nat}
theorem LA.le (h : LA w W gq b m m2 z A2 cap2) : LE w W gq b m z m2 A2 cap2 z := ⟨h.1, h.qs, h.2.2.1, h.2.2.2⟩
theorem LE.below (h : LE w W gq b m z m2 A2 cap2 z2) (hb : Below W.heap.size W W') : LE w W' gq b m z m2 A2 cap2 z2 := ⟨h.1, h.2.1.below hb, h.2.2.1.keep fun k _ hl => hb.block k hl, bcall h.2.2.2 hb⟩
theorem le_all (h : LE w W gq b m z m2 A2 cap2 z2) (hm : m ≤ 100000) : Calls Try.prog 27 #[.pointer (some ⟨gq, 0, none⟩)] W fun e w' => ∃ A c, e = .returned (.slice A m c) ∧ Row w' A m z ∧ LE w w' gq b m z m2 A2 cap2 z2 :=
  (all_qs gq (gq + 1) 100 b m z W h.2.1 hm).mono fun e w' ⟨⟨A, c, he, hb⟩, hB⟩ => ⟨A, c, he, hb.row, h.below hB⟩
theorem le_same {A : Option Addr} {c : Nat} (h : LE w W gq b m z m2 A2 cap2 z2) (hm : m2 ≤ 100000) (hR : Row W A m2 z2) : Calls Try.prog 19 #[.slice A m2 c, .slice A2 m2 cap2] W fun e w' => e = .returned (.bool true) ∧ LE w w' gq b m z m2 A2 cap2 z2 :=
  (same_yes A A2 m2 c cap2 z2 z2 W hR h.2.2.1.row hm (fun _ _ => rfl)).mono fun e w' ⟨he, hB⟩ => ⟨he, h.below hB⟩
theorem le_due (h : LE w W gq b m z m2 A2 cap2 z2) (hm : m ≤ 1000) (hz : ZOK z m b) : Calls Try.prog 20 #[.pointer (some ⟨gq, 0, none⟩), .int .i64 1125899906842624] W fun e w' => ∃ A c, e = .returned (.slice A m c) ∧ Row w' A m z ∧ LE w w' gq 0 0 z m2 A2 cap2 z2 := by
  refine (due_qs gq (gq + 1) 100 b m z _ W h.2.1 (by omega) hz.ok ⟨by have := hz.2.2; omega, by have := hz.2.2; omega⟩).mono ?_
  rintro e w' ⟨k, ⟨k0, k1, k2⟩, ⟨A, c, he, hb⟩, hq, ht⟩
  obtain rfl : k = m := by
    rcases Nat.lt_or_ge k m with h | h
    · have h1 := k2 h; have h2 := whenN_le (z k).t; omega
    · omega
  exact ⟨A, c, he, hb.row, h.1, hq.cast (by rw [← hz.2.1]; unfold wrap64; omega) (by omega) (fun i hi => by omega), h.2.2.1.keep fun j hj hl => ht.block j hl (fun e => by have := (h.2.2.1.lt hj).2; omega), ht.below h.2.2.2 (fun i hi => by have := h.1; omega)⟩
theorem le_many (h : LE w W gq 0 0 z m2 A2 cap2 z2) : Calls Try.prog 16 #[.pointer (some ⟨gq, 0, none⟩)] W fun e w' => e = .returned (.int .i64 0) ∧ w' = W := many_qs gq (gq + 1) 100 0 0 z W h.2.1
theorem le_bytes (h : LE w W gq 0 0 z m2 A2 cap2 z2) : Calls Try.prog 17 #[.pointer (some ⟨gq, 0, none⟩)] W fun e w' => e = .returned (.int .i64 0) ∧ w' = W := bytes_qs gq (gq + 1) 100 0 0 z W h.2.1
theorem le_full (h : LE w W gq 0 0 z m2 A2 cap2 z2) : Calls Try.prog 25 #[.pointer (some ⟨gq, 0, none⟩)] W fun e w' => e = .returned (.bool false) ∧ LE w w' gq 0 0 z m2 A2 cap2 z2 :=
  (full_qs gq (gq + 1) 100 0 0 z W h.2.1).mono fun e w' ⟨he, hB⟩ => ⟨he, h.below hB⟩
end
theorem ZOK.zero (z : Nat → HV) : ZOK z 0 0 := ⟨fun i hi => absurd hi (by omega), rfl, by omega, by omega⟩
set_option maxRecDepth 100000 in
set_option maxHeartbeats 4000000 in
theorem quarAll_calls (A : Option Addr) (len cap : Nat) (zo : Nat → OpV) (w : World) (ho : Ops w A len zo) (hcap : len ≤ cap) (hmax : cap ≤ maxLen) : Calls Try.prog 6 #[.slice A len cap] w fun e w' => e = .returned (.bool true) ∧ Below w.heap.size w w' := by
  have hu26 := Try.underlying26
  have HO := Asd.mk ho
  clear ho
  by_cases hl : 300 < (len : Int)
  · clear HO
    go_enter Try.func6, Try.ntmps6
    go_wp2_with fail
    (go_at_call 13; ((with_reducible refine (head_calls _).mono ?_); rintro e_ h1 ⟨rfl, b_⟩; have HB := Asd.mk b_; clear b_))
    go_wp2_with fail
    (go_at_call 14; ((with_reducible refine (newY 100 _ (by omega) (by omega)).mono ?_); rintro e_ h2 ⟨⟨rfl, q_⟩, b_⟩; have HQ := Asd.mk q_; have HB2 := Asd.mk b_; clear q_ b_))
    go_wp2_with fail
    go_ret
    exact ⟨by simp, bcall HB.out HB2.out⟩
  go_enter Try.func6, Try.ntmps6
  go_wp2_with fail
  (go_at_call 13; ((with_reducible refine (head_calls _).mono ?_); rintro e_ h1 ⟨rfl, b_⟩; have HB := Asd.mk b_; clear b_))
  go_wp2_with fail
  (go_at_call 14; ((with_reducible refine (newY 100 _ (by omega) (by omega)).mono ?_); rintro e_ h2 ⟨⟨rfl, q_⟩, b_⟩; have HQ := Asd.mk q_; have HB2 := Asd.mk b_; clear q_ b_))
  go_wp2_with fail
  have H0 : Asd (LA w h2 h1.heap.size 0 0 0 z0 none 0) := ⟨HB.out.size, ⟨none, 0, HQ.out, Bag.nil _ _ _, fun k hk => by obtain ⟨_, h⟩ := hk; cases h⟩, Bag.nil _ _ _, bcall HB.out HB2.out⟩
  clear HQ HB HB2
  generalize h1.heap.size = gq at *
  go_loopg [5, 6] (len + 1) (fun kq v5 v6 w' => ∃ (k m cap2 : Nat) (A2 : Option Addr) (b : Int) (z : Nat → HV), v5 = .slice A2 m cap2 ∧ v6 = .int .i64 (k : Int) ∧ Asd (k ≤ len ∧ kq + k = len + 1 ∧ m ≤ k ∧ ZOK z m b) ∧ Asd (LA w w' gq b m m z A2 cap2))
  case atStart => exact ⟨0, 0, 0, none, 0, z0, rfl, rfl, ⟨by omega, by omega, by omega, fun i hi => absurd hi (by omega), rfl, by omega, by omega⟩, H0⟩
  case round =>
    obtain ⟨k, m, cap2, A2, b, z, rfl, rfl, HI, HL⟩ := hrel
    clear H0
    obtain ⟨i0, i1, i2, i3⟩ := HI.out
    have HZ := Asd.mk i3
    clear i3
    by_cases c : k < len
    · have cI : (k : Int) < (len : Int) := by omega
      have c0 : (0 : Int) ≤ (k : Int) := by omega
      obtain ⟨B, o, rfl, hlB, ⟨d0, d1, d2, d3, d4⟩, hok⟩ := HO.out.at_ HL.out.2.2.2 c
      clear d0 d4
      obtain ⟨oa, on, ot⟩ := hok.2.1
      clear hok
      generalize (zo k).h = x at *
      obtain ⟨xa, xn, xt⟩ := x
      dsimp only at d1 d2 d3 oa on ot
      go_wp2_with fail
      generalize min (max xt 0) 1099511627776 = t' at *
      cases hp : putB m z ⟨xa, xn, t'⟩ with
      | true =>
        (go_at_call 15; ((with_reducible refine (la_putY HL.out ⟨xa, xn, t'⟩ (by omega) hp _ _).mono ?_); rintro e_ x1 ⟨rfl, c_, k_⟩; have HZ2 := Asd.mk (HZ.out.put (by omega) hp); clear HL hp d1 d2 d3; have HL := Asd.mk c_; have HX := Asd.mk k_; clear c_ k_))
        have e0 : x1.cell? ⟨wr.heap.size, 0, none⟩ = some (.int .i64 xa) := HX.out.cell 0
        have e1 : x1.cell? ⟨wr.heap.size, 1, none⟩ = some (.int .i64 xn) := HX.out.cell 1
        have e2 : x1.cell? ⟨wr.heap.size, 2, none⟩ = some (.int .i64 t') := HX.out.cell 2
        have hgx := HL.out.qs.2.1
        go_wp2_with (at_builtin; refine wpList_bag (sb := x1.heap.size) rfl (.tmp 43) (.tmp 45) rfl rfl rfl (HL.out.2.2.1.alloc _) (Blk.new _ _ _) (by simp; omega) (by omega) ?_; intro A3 cap3 w3 hb3 ht3 hin3; rw [upd_upd] at hb3; have HL3 := Asd.mk ((HL.out.below ((Below.refl _ x1).alloc (Nat.le_refl _) _)).app hb3 (fun _ _ => rfl) ht3 hin3); clear hb3 ht3 hin3)
        go_roundg (gk - 1)
        case measure => omega
        case rel => exact ⟨k + 1, m + 1, cap3, A3, _, upd z m ⟨xa, xn, t'⟩, rfl, by simp, ⟨by omega, by omega, by omega, HZ2.out⟩, HL3⟩
      | false =>
        (go_at_call 15; ((with_reducible refine (la_putN (HL.out.below ((Below.refl _ wr).alloc (Nat.le_refl _) _)) ⟨xa, xn, t'⟩ (by omega) hp).mono ?_); rintro e_ x1 ⟨rfl, c_⟩; clear HL hp d1 d2 d3; have HL := Asd.mk c_; clear c_))
        go_wp2_with fail
        go_roundg (gk - 1)
        case measure => omega
        case rel => exact ⟨k + 1, m, cap2, A2, b, z, rfl, by simp, ⟨by omega, by omega, by omega, HZ.out⟩, HL⟩
    · have cI : ¬ (k : Int) < (len : Int) := by omega
      have HE := Asd.mk HL.out.le
      clear HL
      go_wp2_with fail
      (go_at_call 27; ((with_reducible refine (le_all HE.out (by omega)).mono ?_); rintro e_ x1 ⟨A3, c3, rfl, r_, h_⟩; clear HE; have HE := Asd.mk h_; have HR := Asd.mk r_; clear h_ r_))
      go_wp2_with fail
      (go_at_call 19; ((with_reducible refine (le_same HE.out (by omega) HR.out).mono ?_); rintro e_ x2 ⟨rfl, h_⟩; clear HE; have HE := Asd.mk h_; clear HR h_))
      go_wp2_with fail
      (go_at_call 20; ((with_reducible refine (le_due HE.out (by omega) HZ.out).mono ?_); rintro e_ x3 ⟨A4, c4, rfl, r_, h_⟩; clear HE; have HE := Asd.mk h_; have HR := Asd.mk r_; clear h_ r_))
      go_wp2_with fail
      (go_at_call 19; ((with_reducible refine (le_same HE.out (by omega) HR.out).mono ?_); rintro e_ x4 ⟨rfl, h_⟩; clear HE; have HE := Asd.mk h_; clear HR h_))
      go_wp2_with fail
      (go_at_call 16; ((with_reducible refine (le_many HE.out).mono ?_); rintro e_ w_ ⟨rfl, rfl⟩))
      go_wp2_with fail
      (go_at_call 17; ((with_reducible refine (le_bytes HE.out).mono ?_); rintro e_ w_ ⟨rfl, rfl⟩))
      go_wp2_with fail
      (go_at_call 25; ((with_reducible refine (le_full HE.out).mono ?_); rintro e_ x5 ⟨rfl, h_⟩; clear HE; have HE := Asd.mk h_; clear h_))
      go_wp2_with fail
      (go_at_call 20; ((with_reducible refine (le_due HE.out (by omega) (ZOK.zero z)).mono ?_); rintro e_ x6 ⟨A5, c5, rfl, r_, h_⟩; clear HE; have HE := Asd.mk h_; clear h_ r_))
      go_wp2_with fail
      go_ret
      exact ⟨by simp, HE.out.2.2.2⟩
end Go.Proofs.Ytldgecnmmklldaa.Qr
