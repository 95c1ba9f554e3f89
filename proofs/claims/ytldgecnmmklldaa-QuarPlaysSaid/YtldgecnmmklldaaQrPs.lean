/- Layer 13's state and the document's, side by side. -/
import Derived.Test.YtldgecnmmklldaaQrRPut
import Derived.Test.YtldgecnmmklldaaQrRDue
namespace Go.Proofs.Ytldgecnmmklldaa.Qr
open Go.RowKit
set_option linter.unusedVariables false
set_option linter.unusedSimpArgs false
/-- The document's Put. -/
def RPutRes (r base : Nat) (f : Int) (A : Option Addr) (n : Nat) (z : Nat → HV) (x : HV) (w : World) (e : Ending) (w' : World) : Prop :=
  e = .returned (.bool (putB n z x)) ∧ Turn (fun i => i = r ∨ InBlock A i) w w' ∧ ∃ A' cap', RS w' r base f A' (if putB n z x = true then n + 1 else n) cap' (upd z n x) ∧ ∀ k, InBlock A' k → InBlock A k ∨ w.heap.size ≤ k
theorem rputRes_no {r base : Nat} {f : Int} {A : Option Addr} {n cap : Nat} {z : Nat → HV} {x : HV} {w : World} {e : Ending} {w' : World} (h : RS w r base f A n cap z) (hp0 : putB n z x = false)
    (hp : e = .returned (.bool false) ∧ Below w.heap.size w w') : RPutRes r base f A n z x w e w' := by
  unfold RPutRes
  rw [hp0]
  simp only [Bool.false_eq_true, if_false]
  exact ⟨hp.1, Turn.of_below hp.2 _, A, cap, ⟨h.1.below hp.2 h.1.lt, (h.2.keep fun k _ hl => hp.2.block k hl).mono (Nat.le_refl _) (fun i hi => by unfold upd; rw [if_neg (by omega)])⟩, fun k hk => .inl hk⟩
theorem rputRes_yes {r base : Nat} {f : Int} {A : Option Addr} {n : Nat} {z : Nat → HV} {x : HV} {w : World} {e : Ending} {w' : World} (h : putB n z x = true)
    (hp : RPost r base f A n z x.a x.n x.t w e w') : RPutRes r base f A n z x w e w' := by
  obtain ⟨he, A', cap', h1, h3, h4⟩ := hp
  unfold RPutRes
  rw [h]
  simp only [if_true]
  exact ⟨he, h3, A', cap', h1, h4⟩
theorem rput_calls (r base : Nat) (f : Int) (A : Option Addr) (n cap : Nat) (z : Nat → HV) (x : HV) (w : World) (h : RS w r base f A n cap z) (hn : n ≤ 100000) (hbase : base ≤ w.heap.size) :
    Calls Try.prog 22 #[.pointer (some ⟨r, 0, none⟩), .agg #[.int .i64 x.a, .int .i64 x.n, .int .i64 x.t]] w (RPutRes r base f A n z x w) := by
  obtain ⟨hB, hbag⟩ := id h
  by_cases h1 : 0 ≤ x.a
  case neg => exact (rput1 r base f A n cap z x.a x.n x.t w hB hbag hn (by omega)).mono fun e w' hp => rputRes_no h (by unfold putB; simp; omega) hp
  by_cases h2 : x.a ≤ 16777216
  case neg => exact (rput2 r base f A n cap z x.a x.n x.t w hB hbag hn h1 (by omega)).mono fun e w' hp => rputRes_no h (by unfold putB; simp; omega) hp
  by_cases h3 : 0 ≤ x.n
  case neg => exact (rput3 r base f A n cap z x.a x.n x.t w hB hbag hn h1 h2 (by omega)).mono fun e w' hp => rputRes_no h (by unfold putB; simp; omega) hp
  by_cases h4 : x.n ≤ 16777216
  case neg => exact (rput4 r base f A n cap z x.a x.n x.t w hB hbag hn h1 h2 h3 (by omega)).mono fun e w' hp => rputRes_no h (by unfold putB; simp; omega) hp
  by_cases h5 : 0 ≤ x.t
  case neg => exact (rput5 r base f A n cap z x.a x.n x.t w hB hbag hn h1 h2 h3 h4 (by omega)).mono fun e w' hp => rputRes_no h (by unfold putB; simp; omega) hp
  by_cases h6 : x.t ≤ 2199023255552
  case neg => exact (rput6 r base f A n cap z x.a x.n x.t w hB hbag hn h1 h2 h3 h4 h5 (by omega)).mono fun e w' hp => rputRes_no h (by unfold putB; simp; omega) hp
  rcases Nat.eq_zero_or_pos n with h8 | h8
  · exact (rput9 r base f A n cap z x.a x.n x.t w hB hbag hn h1 h2 h3 h4 h5 h6 h8 hbase).mono fun e w' hp => rputRes_yes (by unfold putB; simp; omega) hp
  by_cases h9 : x.t < (z (n - 1)).t
  · exact (rput7 r base f A n cap z x.a x.n x.t w hB hbag hn h1 h2 h3 h4 h5 h6 h8 h9).mono fun e w' hp => rputRes_no h (by unfold putB; simp; omega) hp
  · exact (rput8 r base f A n cap z x.a x.n x.t w hB hbag hn h1 h2 h3 h4 h5 h6 h8 (by omega) hbase).mono fun e w' hp => rputRes_yes (by unfold putB; simp; omega) hp
/-- Both states: gq and r are their blocks; the rows lie apart. -/
def PS (w W : World) (gq r : Nat) (f b : Int) (n1 : Nat) (z1 : Nat → HV) (n2 : Nat) (z2 : Nat → HV) : Prop := w.heap.size ≤ gq ∧ gq < r ∧
  (∃ A cap A' cap', Blk W gq 59 #[.int .i64 f, .int .i64 b, .slice A n1 cap] ∧ Bag W (r + 1) A n1 cap z1 ∧ RS W r (r + 1) f A' n2 cap' z2 ∧ ∀ j, InBlock A j → ¬ InBlock A' j) ∧ Below w.heap.size w W
section
variable {w W W' : World} {gq r n1 n2 : Nat} {f b : Int} {z1 z2 : Nat → HV}
theorem PS.below (h : PS w W gq r f b n1 z1 n2 z2) (hb : Below W.heap.size W W') : PS w W' gq r f b n1 z1 n2 z2 := by
  obtain ⟨h1, h2, ⟨A, cap, A', cap', k1, k2, k3, k4⟩, h5⟩ := h
  exact ⟨h1, h2, ⟨A, cap, A', cap', k1.below hb k1.lt, k2.keep fun k _ hl => hb.block k hl, k3.below hb, k4⟩, bcall h5 hb⟩
theorem PS.qs (h : PS w W gq r f b n1 z1 n2 z2) : QS W gq (r + 1) f b n1 z1 := by
  obtain ⟨h1, h2, ⟨A, cap, A', cap', k1, k2, k3, k4⟩, h5⟩ := h
  exact ⟨by omega, k3.1.lt, A, cap, k1, k2⟩
theorem ps_due (h : PS w W gq r f b n1 z1 n2 z2) (now : Int) (hn : n1 ≤ 1000) (hz : ZOK z1 n1 b) : Calls Try.prog 20 #[.pointer (some ⟨gq, 0, none⟩), .int .i64 now] W fun e w' => ∃ k, DueAt z1 n1 now k ∧ ∃ A2 cap2, e = .returned (.slice A2 k cap2) ∧ Bag w' (r + 1) A2 k cap2 z1 ∧ PS w w' gq r f (wrap64 (b - sumL (upto z1 k))) (n1 - k) (fun i => z1 (k + i)) n2 z2 := by
  obtain ⟨h1, h2, ⟨A, cap, A', cap', k1, k2, k3, k4⟩, h5⟩ := h
  refine (due20 gq (r + 1) f b A n1 cap z1 now W k1 k2 (by omega) hz.ok ⟨by have := hz.2.2; omega, by have := hz.2.2; omega⟩).mono ?_
  rintro e w' ⟨k, hk, A2, cap2, he, hbag, hB, hT⟩
  have hlt := k3.1.lt
  refine ⟨k, hk, A2, cap2, he, hbag.lower hlt, h1, h2, ⟨_, _, A', cap', hB, (k2.keep fun j hj hl => hT.block j hl (fun e => by have := (k2.lt hj).2; omega)).cut hk.1, ⟨k3.1.keep (hT.block r hlt (by omega)), k3.2.keep fun j hj hl => hT.block j hl (fun e => by have := (k3.2.lt hj).2; omega)⟩, fun j hj => k4 j ?_⟩, hT.below h5 (fun i hi => by omega)⟩
  obtain ⟨o, hj⟩ := hj
  split at hj
  · exact ⟨o, hj⟩
  · obtain ⟨_, _, ⟨rfl, _⟩ | ⟨B, o', cur, rfl, _⟩⟩ := id k2
    · cases hj
    · simp only [Option.map_some, Option.some.injEq] at hj
      unfold Addr.add at hj
      split at hj
      · injection hj with e1 e2
        subst e1
        exact ⟨o', rfl⟩
      · injection hj with e1 e2
        subst e1
        exact ⟨o', rfl⟩
theorem ps_rdue (h : PS w W gq r f b n1 z1 n2 z2) (now : Int) (hn : n2 ≤ 1000) (hz : ∀ i, i < n2 → (z2 i).ok) : Calls Try.prog 21 #[.pointer (some ⟨r, 0, none⟩), .int .i64 now] W fun e w' => ∃ k, DueAt z2 n2 now k ∧ ∃ A2 cap2, e = .returned (.slice A2 k cap2) ∧ Bag w' (r + 1) A2 k cap2 z2 ∧ PS w w' gq r f b n1 z1 (n2 - k) (fun i => z2 (k + i)) ∧ Turn (fun i => i = r) W w' := by
  obtain ⟨h1, h2, ⟨A, cap, A', cap', k1, k2, k3, k4⟩, h5⟩ := h
  have hlt := k3.1.lt
  refine (rdue_calls r (r + 1) f A' n2 cap' z2 now W k3 hlt hn hz).mono ?_
  rintro e w' ⟨k, hk, A2, cap2, he, hbag, A3, cap3, hR, hT, hin⟩
  refine ⟨k, hk, A2, cap2, he, hbag.lower hlt, ⟨h1, h2, ⟨A, cap, A3, cap3, k1.keep (hT.block gq k1.lt (by omega)), k2.keep fun j hj hl => hT.block j hl (fun e => by have := (k2.lt hj).2; omega), hR, fun j hj h3 => ?_⟩, hT.below h5 (fun i hi => by omega)⟩, hT⟩
  rcases hin j h3 with h | h
  · exact k4 j hj h
  · have := (k2.lt hj).1; omega
theorem ps_put (h : PS w W gq r f b n1 z1 n2 z2) (x : HV) (hn : n1 ≤ 100000) : Calls Try.prog 15 #[.pointer (some ⟨gq, 0, none⟩), .agg #[.int .i64 x.a, .int .i64 x.n, .int .i64 x.t]] W fun e w' => e = .returned (.bool (putB n1 z1 x)) ∧ PS w w' gq r f (if putB n1 z1 x = true then wrap64 (b + x.n) else b) (if putB n1 z1 x = true then n1 + 1 else n1) (upd z1 n1 x) n2 z2 := by
  obtain ⟨h1, h2, ⟨A, cap, A', cap', k1, k2, k3, k4⟩, h5⟩ := h
  have hlt := k3.1.lt
  refine (put_calls gq (r + 1) f b A n1 cap z1 x W k1 k2 hn hlt).mono ?_
  rintro e w' ⟨he, hT, A3, cap3, m1, m2, m3⟩
  refine ⟨he, h1, h2, ⟨A3, cap3, A', cap', m1, m2, ⟨k3.1.keep (hT.block r hlt (fun e => e.elim (fun e => by omega) (fun e => by have := (k2.lt e).2; omega))), k3.2.keep fun j hj hl => hT.block j hl (fun e => e.elim (fun e => by have := (k3.2.lt hj).2; omega) (fun e => k4 j e hj))⟩, fun j hj h3 => ?_⟩, hT.below h5 (fun i hi => hi.elim (fun e => by omega) (fun e => by have := (k2.lt e).2; omega))⟩
  rcases m3 j hj with h | h
  · exact k4 j h h3
  · have := (k3.2.lt h3).1; omega
theorem ps_rput (h : PS w W gq r f b n1 z1 n2 z2) (x : HV) (hn : n2 ≤ 100000) : Calls Try.prog 22 #[.pointer (some ⟨r, 0, none⟩), .agg #[.int .i64 x.a, .int .i64 x.n, .int .i64 x.t]] W fun e w' => e = .returned (.bool (putB n2 z2 x)) ∧ PS w w' gq r f b n1 z1 (if putB n2 z2 x = true then n2 + 1 else n2) (upd z2 n2 x) := by
  obtain ⟨h1, h2, ⟨A, cap, A', cap', k1, k2, k3, k4⟩, h5⟩ := h
  have hlt := k3.1.lt
  refine (rput_calls r (r + 1) f A' n2 cap' z2 x W k3 hn hlt).mono ?_
  rintro e w' ⟨he, hT, A3, cap3, m1, m3⟩
  refine ⟨he, h1, h2, ⟨A, cap, A3, cap3, k1.keep (hT.block gq k1.lt (fun e => e.elim (fun e => by omega) (fun e => by have := (k3.2.lt e).2; omega))), k2.keep fun j hj hl => hT.block j hl (fun e => e.elim (fun e => by have := (k2.lt hj).2; omega) (fun e => k4 j hj e)), m1, fun j hj h3 => ?_⟩, hT.below h5 (fun i hi => hi.elim (fun e => by omega) (fun e => by have := (k3.2.lt e).2; omega))⟩
  rcases m3 j h3 with h | h
  · exact k4 j hj h
  · have := (k2.lt hj).1; omega
end
end Go.Proofs.Ytldgecnmmklldaa.Qr
