/- Layer 13's functions over one state: how many there are, which, and where. -/
import Derived.Test.YtldgecnmmklldaaQrPut
import Derived.Test.YtldgecnmmklldaaQrDue
import Derived.Test.YtldgecnmmklldaaQrSame
namespace Go.Proofs.Ytldgecnmmklldaa.Qr
open Go.RowKit
set_option linter.unusedVariables false
set_option linter.unusedSimpArgs false
def PutRes (g base : Nat) (f b : Int) (A : Option Addr) (n : Nat) (z : Nat → HV) (x : HV) (w : World) (e : Ending) (w' : World) : Prop :=
  e = .returned (.bool (putB n z x)) ∧ Turn (fun i => i = g ∨ InBlock A i) w w' ∧ ∃ A' cap', Blk w' g 59 #[.int .i64 f, .int .i64 (if putB n z x = true then wrap64 (b + x.n) else b), .slice A' (if putB n z x = true then n + 1 else n) cap'] ∧
    Bag w' base A' (if putB n z x = true then n + 1 else n) cap' (upd z n x) ∧ ∀ k, InBlock A' k → InBlock A k ∨ w.heap.size ≤ k
theorem putRes_no {g base : Nat} {f b : Int} {A : Option Addr} {n cap : Nat} {z : Nat → HV} {x : HV} {w : World} {e : Ending} {w' : World} (hB : Blk w g 59 #[.int .i64 f, .int .i64 b, .slice A n cap]) (hbag : Bag w base A n cap z) (h : putB n z x = false)
    (hp : e = .returned (.bool false) ∧ Below w.heap.size w w') : PutRes g base f b A n z x w e w' := by
  unfold PutRes
  rw [h]
  simp only [Bool.false_eq_true, if_false]
  exact ⟨hp.1, Turn.of_below hp.2 _, A, cap, hB.below hp.2 hB.lt, (hbag.keep fun k _ hl => hp.2.block k hl).mono (Nat.le_refl _) (fun i hi => by unfold upd; rw [if_neg (by omega)]), fun k hk => .inl hk⟩
theorem putRes_yes {g base : Nat} {f b : Int} {A : Option Addr} {n : Nat} {z : Nat → HV} {x : HV} {w : World} {e : Ending} {w' : World} (h : putB n z x = true)
    (hp : PutPost g base f b A n z x.a x.n x.t w e w') : PutRes g base f b A n z x w e w' := by
  obtain ⟨he, A', cap', h1, h2, h3, h4⟩ := hp
  unfold PutRes
  rw [h]
  simp only [if_true]
  exact ⟨he, h3, A', cap', h1, h2, h4⟩
theorem inB_t {n : Int} : inB n = true ↔ (0 ≤ n ∧ n ≤ 16777216) := by unfold inB; simp
theorem inB_f {n : Int} : inB n = false ↔ ¬ (0 ≤ n ∧ n ≤ 16777216) := by unfold inB; simp
theorem put_calls (g base : Nat) (f b : Int) (A : Option Addr) (n cap : Nat) (z : Nat → HV) (x : HV) (w : World) (hB : Blk w g 59 #[.int .i64 f, .int .i64 b, .slice A n cap]) (hbag : Bag w base A n cap z) (hn : n ≤ 100000) (hbase : base ≤ w.heap.size) :
    Calls Try.prog 15 #[.pointer (some ⟨g, 0, none⟩), .agg #[.int .i64 x.a, .int .i64 x.n, .int .i64 x.t]] w (PutRes g base f b A n z x w) := by
  cases ha : inB x.a with
  | false => exact (put_no1 g base f b A n cap z x.a x.n x.t w hB hbag hn ha).mono fun e w' hp => putRes_no hB hbag (by have := inB_f.1 ha; unfold putB; simp; omega) hp
  | true =>
  cases hm : inB x.n with
  | false => exact (put_no2 g base f b A n cap z x.a x.n x.t w hB hbag hn ha hm).mono fun e w' hp => putRes_no hB hbag (by have := inB_f.1 hm; unfold putB; simp; omega) hp
  | true =>
  by_cases h3 : x.t < 0
  · exact (put_no3 g base f b A n cap z x.a x.n x.t w hB hbag hn ha hm h3).mono fun e w' hp => putRes_no hB hbag (by unfold putB; simp; omega) hp
  by_cases h4 : 2199023255552 < x.t
  · exact (put_no4 g base f b A n cap z x.a x.n x.t w hB hbag hn ha hm h4).mono fun e w' hp => putRes_no hB hbag (by unfold putB; simp; omega) hp
  have h3' : 0 ≤ x.t := by omega
  have h4' : x.t ≤ 2199023255552 := by omega
  have a1 := inB_t.1 ha
  have a2 := inB_t.1 hm
  rcases Nat.eq_zero_or_pos n with h | h
  · exact (put_yes7 g base f b A n cap z x.a x.n x.t w hB hbag hn ha hm h3' h4' h hbase).mono fun e w' hp => putRes_yes (by unfold putB; simp; omega) hp
  · by_cases h6 : x.t < (z (n - 1)).t
    · exact (put_no5 g base f b A n cap z x.a x.n x.t w hB hbag hn ha hm h3' h4' h h6).mono fun e w' hp => putRes_no hB hbag (by unfold putB; simp; omega) hp
    · exact (put_yes6 g base f b A n cap z x.a x.n x.t w hB hbag hn ha hm h3' h4' h (by omega) hbase).mono fun e w' hp => putRes_yes (by unfold putB; simp; omega) hp
/-- The state of one: g is its block; what it holds lies from base on. -/
def QS (w : World) (g base : Nat) (f b : Int) (n : Nat) (z : Nat → HV) : Prop := g < base ∧ base ≤ w.heap.size ∧ ∃ A cap, Blk w g 59 #[.int .i64 f, .int .i64 b, .slice A n cap] ∧ Bag w base A n cap z
theorem QS.lt {w : World} {g base : Nat} {f b : Int} {n : Nat} {z : Nat → HV} (h : QS w g base f b n z) : g < w.heap.size := Nat.lt_of_lt_of_le h.1 h.2.1
theorem QS.below {w w' : World} {g base : Nat} {f b : Int} {n : Nat} {z : Nat → HV} (h : QS w g base f b n z) (hb : Below w.heap.size w w') : QS w' g base f b n z := by
  obtain ⟨h1, h2, A, cap, h3, h4⟩ := h
  exact ⟨h1, Nat.le_trans h2 hb.size, A, cap, h3.below hb h3.lt, h4.keep fun k _ hl => hb.block k hl⟩
theorem QS.alloc {w : World} {g base : Nat} {f b : Int} {n : Nat} {z : Nat → HV} (h : QS w g base f b n z) (o : Obj) : QS (w.alloc o) g base f b n z := h.below ((Below.refl _ w).alloc (Nat.le_refl _) o)
theorem QS.same {w : World} {g base : Nat} {f b : Int} {n : Nat} {z z' : Nat → HV} (h : QS w g base f b n z) (hz : ∀ i, i < n → z' i = z i) : QS w g base f b n z' := by
  obtain ⟨h1, h2, A, cap, h3, h4⟩ := h
  exact ⟨h1, h2, A, cap, h3, h4.mono (Nat.le_refl _) hz⟩
theorem new_qs (f : Int) (w : World) (h0 : 1 ≤ f) (h1 : f ≤ 16777216) (z : Nat → HV) : Calls Try.prog 14 #[.int .i64 f] w fun e w' => e = .returned (.pointer (some ⟨w.heap.size, 0, none⟩)) ∧ QS w' w.heap.size (w.heap.size + 1) f 0 0 z ∧ Below w.heap.size w w' :=
  (newY f w h0 h1).mono fun e w' ⟨⟨he, hB⟩, hb⟩ => ⟨he, ⟨by omega, hB.lt, none, 0, hB, Bag.nil _ _ _⟩, hb⟩
theorem put_qs (g base : Nat) (f b : Int) (n : Nat) (z : Nat → HV) (x : HV) (w : World) (h : QS w g base f b n z) (hn : n ≤ 100000) :
    Calls Try.prog 15 #[.pointer (some ⟨g, 0, none⟩), .agg #[.int .i64 x.a, .int .i64 x.n, .int .i64 x.t]] w fun e w' => e = .returned (.bool (putB n z x)) ∧ QS w' g base f (if putB n z x = true then wrap64 (b + x.n) else b) (if putB n z x = true then n + 1 else n) (upd z n x) ∧ Turn (fun i => i = g ∨ base ≤ i) w w' := by
  obtain ⟨h1, h2, A, cap, h3, h4⟩ := h
  refine (put_calls g base f b A n cap z x w h3 h4 hn h2).mono ?_
  rintro e w' ⟨he, hT, A', cap', hB, hbag, hin⟩
  exact ⟨he, ⟨h1, Nat.le_trans h2 hT.size, A', cap', hB, hbag⟩, hT.mono fun i hi hs => hs.elim .inl (fun k => .inr (h4.lt k).2)⟩
theorem bytes_qs (g base : Nat) (f b : Int) (n : Nat) (z : Nat → HV) (w : World) (h : QS w g base f b n z) : Calls Try.prog 17 #[.pointer (some ⟨g, 0, none⟩)] w fun e w' => e = .returned (.int .i64 b) ∧ w' = w := by
  obtain ⟨h1, h2, A, cap, h3, h4⟩ := h
  exact bytes_calls g f b _ w h3
theorem many_qs (g base : Nat) (f b : Int) (n : Nat) (z : Nat → HV) (w : World) (h : QS w g base f b n z) : Calls Try.prog 16 #[.pointer (some ⟨g, 0, none⟩)] w fun e w' => e = .returned (.int .i64 (n : Int)) ∧ w' = w := by
  obtain ⟨h1, h2, A, cap, h3, h4⟩ := h
  exact many_calls g f b A n cap w h3
theorem full_qs (g base : Nat) (f b : Int) (n : Nat) (z : Nat → HV) (w : World) (h : QS w g base f b n z) : Calls Try.prog 25 #[.pointer (some ⟨g, 0, none⟩)] w fun e w' => e = .returned (.bool (decide (f ≤ b))) ∧ Below w.heap.size w w' := by
  obtain ⟨h1, h2, A, cap, h3, h4⟩ := h
  exact full_calls g f b _ w h3
theorem due_qs (g base : Nat) (f b : Int) (n : Nat) (z : Nat → HV) (now : Int) (w : World) (h : QS w g base f b n z) (hn : n ≤ 100000) (hz : ∀ i, i < n → (z i).ok) (hb64 : I64 b) :
    Calls Try.prog 20 #[.pointer (some ⟨g, 0, none⟩), .int .i64 now] w fun e w' => ∃ k, DueAt z n now k ∧ (∃ A2 cap2, e = .returned (.slice A2 k cap2) ∧ Bag w' w.heap.size A2 k cap2 z) ∧
      QS w' g base f (wrap64 (b - sumL (upto z k))) (n - k) (fun i => z (k + i)) ∧ Turn (fun i => i = g) w w' := by
  obtain ⟨h1, h2, A, cap, h3, h4⟩ := h
  refine (due20 g base f b A n cap z now w h3 h4 hn hz hb64).mono ?_
  rintro e w' ⟨k, hk, A2, cap2, he, hbag, hB, hT⟩
  exact ⟨k, hk, ⟨A2, cap2, he, hbag⟩, ⟨h1, Nat.le_trans h2 hT.size, _, _, hB, (h4.keep fun j hj hl => hT.block j hl (fun e => by have := (h4.lt hj).2; omega)).cut hk.1⟩, hT⟩
theorem put_qsY (g base : Nat) (f b b' : Int) (n : Nat) (z : Nat → HV) (x : HV) (w : World) (h : QS w g base f b n z) (hn : n ≤ 100000) (hp : putB n z x = true) (hb : wrap64 (b + x.n) = b') :
    Calls Try.prog 15 #[.pointer (some ⟨g, 0, none⟩), .agg #[.int .i64 x.a, .int .i64 x.n, .int .i64 x.t]] w fun e w' => e = .returned (.bool true) ∧ QS w' g base f b' (n + 1) (upd z n x) ∧ Turn (fun i => i = g ∨ base ≤ i) w w' := by
  have h := put_qs g base f b n z x w h hn
  rw [hp, hb] at h
  simpa only [if_true] using h
theorem put_qsN (g base : Nat) (f b : Int) (n : Nat) (z : Nat → HV) (x : HV) (w : World) (h : QS w g base f b n z) (hn : n ≤ 100000) (hp : putB n z x = false) :
    Calls Try.prog 15 #[.pointer (some ⟨g, 0, none⟩), .agg #[.int .i64 x.a, .int .i64 x.n, .int .i64 x.t]] w fun e w' => e = .returned (.bool false) ∧ QS w' g base f b n z ∧ Turn (fun i => i = g ∨ base ≤ i) w w' := by
  have h := put_qs g base f b n z x w h hn
  rw [hp] at h
  simp only [Bool.false_eq_true, if_false] at h
  exact h.mono fun e w' ⟨h1, h2, h3⟩ => ⟨h1, h2.same (fun i hi => by unfold upd; rw [if_neg (by omega)]), h3⟩
theorem QS.cast {w : World} {g base : Nat} {f b b' : Int} {n n' : Nat} {z z' : Nat → HV} (h : QS w g base f b n z) (hb : b = b') (hn : n = n') (hz : ∀ i, i < n → z' i = z i) : QS w g base f b' n' z' := by
  subst hb; subst hn; exact h.same hz
end Go.Proofs.Ytldgecnmmklldaa.Qr
