/- When, the program's and the document's; the iterator over what is due. -/
import Derived.Test.YtldgecnmmklldaaQrBag
import Derived.Laws.BitsLemmas
import Derived.RangeFuncNested
import Derived.RangeFuncBound
import Derived.RangeFuncCalls
import Derived.RangeFuncLeaves
import Derived.Shelf.Abstract
import Derived.Shelf.RegionOpen
import Derived.WalkKit
import Derived.OwnWalkIn
import Derived.TacticsInMore
import Derived.LoopNIn
import Derived.LoopIn
import Derived.Test.YtldgecnmmklldaaWLast
namespace Go.Proofs.Ytldgecnmmklldaa.Qr
open Go.RowKit Go.Shelf Go.Proofs.YtldgecnmmklldaaW.PrintLast
set_option linter.unusedVariables false
set_option linter.unusedSimpArgs false
attribute [local go_sem] Oper.semAt_some
/-! ### numbers -/
theorem and1 (n : Int) (h0 : 0 ≤ n) (h1 : n < 9223372036854775808) : bits .and .i64 n 1 = n % 2 :=
  bits_mask .i64 63 (by decide) (fun n h0 h1 => by rw [IntKind.wrap_i64]; omega) 1 (by decide) n h0 h1
theorem ofInt_toNat (n : Int) : (BitVec.ofInt 64 n).toNat = (n % 18446744073709551616).toNat := by
  rw [BitVec.toNat_ofInt]; rfl
theorem bv_split (v m : BitVec 64) : (v &&& ~~~ m) + (v &&& m) = v := by
  rw [BitVec.add_eq_or_of_and_eq_zero]
  · ext i hi; simp; cases v[i] <;> cases m[i] <;> simp
  · ext i hi; simp; intro h; simp [h]
theorem andNot1 (n : Int) (h0 : 0 ≤ n) (h1 : n < 9223372036854775808) : bits .andNot .i64 n 1 = n - n % 2 := by
  show IntKind.i64.wrap (((BitVec.ofInt 64 n &&& ~~~ BitVec.ofInt 64 1).toNat : Nat) : Int) = _
  rw [show BitVec.ofInt 64 1 = 1#64 from rfl]
  have hv : (BitVec.ofInt 64 n).toNat = n.toNat := by rw [ofInt_toNat]; omega
  have hs := congrArg BitVec.toNat (bv_split (BitVec.ofInt 64 n) 1#64)
  rw [BitVec.toNat_add, hv] at hs
  have hm : (BitVec.ofInt 64 n &&& 1#64).toNat = n.toNat % 2 := by
    rw [BitVec.toNat_and, hv]; exact Nat.and_one_is_mod _
  have hle : (BitVec.ofInt 64 n &&& ~~~ 1#64).toNat ≤ n.toNat := by
    rw [BitVec.toNat_and, hv]; exact Nat.and_le_left
  rw [hm] at hs
  generalize (BitVec.ofInt 64 n &&& ~~~ 1#64).toNat = A at *
  rw [IntKind.wrap_i64]
  omega

/-- When an epoch is over. -/
def whenN (a : Int) : Int := if a < 0 then 2 else if 2199023255552 < a then 2199023255554 else a + 2 + a % 2
theorem whenN_le (a : Int) : 2 ≤ whenN a ∧ whenN a ≤ 2199023255554 := by unfold whenN; repeat' split <;> omega

theorem when_calls (a : Int) (w : World) (h0 : -9223372036854775808 ≤ a) (h1 : a ≤ 9223372036854775807) :
    Calls Try.prog 29 #[.int .i64 a] w fun e w' => e = .returned (.int .i64 (whenN a)) ∧ w' = w := by
  by_cases hn : a < 0
  · have e1 : whenN a = 2 := by unfold whenN; rw [if_pos hn]
    have e2 : bits .andNot .i64 1 1 = 0 := by decide
    rw [e1]
    go_enter Try.func29, Try.ntmps29
    go_wp2
    all_goals try (exfalso; omega)
    all_goals go_ret
    all_goals exact ⟨by simp [e2]; try decide, rfl⟩
  by_cases hm : 2199023255552 < a
  · have e1 : whenN a = 2199023255554 := by unfold whenN; rw [if_neg hn, if_pos hm]
    have e2 : bits .andNot .i64 2199023255553 1 = 2199023255552 := by rw [andNot1 _ (by omega) (by omega)]; decide
    rw [e1]
    go_enter Try.func29, Try.ntmps29
    go_wp2
    all_goals try (exfalso; omega)
    all_goals go_ret
    all_goals exact ⟨by simp [e2]; try decide, rfl⟩
  · have e1 : whenN a = a + 2 + a % 2 := by unfold whenN; rw [if_neg hn, if_neg hm]
    have e2 : bits .andNot .i64 (a + 1) 1 = a + a % 2 := by rw [andNot1 _ (by omega) (by omega)]; omega
    have e3 : wrap64 (a + a % 2 + 2) = a + 2 + a % 2 := by unfold wrap64; omega
    rw [e1]
    go_enter Try.func29, Try.ntmps29
    go_wp2
    all_goals try (exfalso; omega)
    all_goals go_ret
    all_goals exact ⟨by simp [e2, e3]; try omega, rfl⟩

theorem rwhen_calls (a : Int) (w : World) (h0 : -9223372036854775808 ≤ a) (h1 : a ≤ 9223372036854775807) :
    Calls Try.prog 44 #[.int .i64 a] w fun e w' => e = .returned (.int .i64 (whenN a)) ∧ w' = w := by
  by_cases hn : a < 0
  · have e1 : whenN a = 2 := by unfold whenN; rw [if_pos hn]
    rw [e1]
    go_enter Try.func44, Try.ntmps44
    go_wp2
    all_goals try (exfalso; omega)
    all_goals go_ret
    all_goals exact ⟨by simp, rfl⟩
  by_cases hm : 2199023255552 < a
  · have e1 : whenN a = 2199023255554 := by unfold whenN; rw [if_neg hn, if_pos hm]
    rw [e1]
    go_enter Try.func44, Try.ntmps44
    go_wp2
    all_goals try (exfalso; omega)
    all_goals go_ret
    all_goals exact ⟨by simp, rfl⟩
  · have e1 : whenN a = a + 2 + a % 2 := by unfold whenN; rw [if_neg hn, if_neg hm]
    rw [e1]
    go_enter Try.func44, Try.ntmps44
    go_wp2
    all_goals try (exfalso; omega)
    all_goals go_ret
    all_goals exact ⟨by simp, rfl⟩

/-- The first k of what is held. -/
def upto (z : Nat → HV) (k : Nat) : List HV := (List.range k).map z
theorem upto_succ (z : Nat → HV) (k : Nat) : upto z (k + 1) = upto z k ++ [z k] := by simp [upto, List.range_succ]
theorem upto_length (z : Nat → HV) (k : Nat) : (upto z k).length = k := by simp [upto]
/-- Just the first k of n are due. -/
def DueAt (z : Nat → HV) (n : Nat) (now : Int) (k : Nat) : Prop := k ≤ n ∧ (∀ i, i < k → whenN (z i).t ≤ now) ∧ (k < n → now < whenN (z k).t)
/-- What the iterator asks of a round: what lay below n₀, but for the blocks of X, is as it was. -/
def Kept (n₀ : Nat) (X : Nat → Prop) (W W' : World) : Prop := W.heap.size ≤ W'.heap.size ∧ ∀ i, i < n₀ → ¬ X i → W'.heap[i]? = W.heap[i]?
theorem Kept.refl (n₀ : Nat) (X : Nat → Prop) (W : World) : Kept n₀ X W W := ⟨Nat.le_refl _, fun _ _ _ => rfl⟩
theorem Kept.trans {n₀ : Nat} {X : Nat → Prop} {A B C : World} (h : Kept n₀ X A B) (k : Kept n₀ X B C) : Kept n₀ X A C := ⟨Nat.le_trans h.1 k.1, fun i hi hx => (k.2 i hi hx).trans (h.2 i hi hx)⟩
theorem Kept.cell {n₀ : Nat} {X : Nat → Prop} {A B : World} (h : Kept n₀ X A B) {b o : Nat} (hb : b < n₀) (hx : ¬ X b) : B.cell? ⟨b, o, none⟩ = A.cell? ⟨b, o, none⟩ := World.cell?_of_block (h.2 b hb hx)
theorem due_calls (g : Nat) (now : Int) (w : World) : Calls Try.prog 43 #[.pointer (some ⟨g, 0, none⟩), .int .i64 now] w fun e w' => e = .returned (.func (.func 52) #[] #[.pointer (some ⟨w.heap.size, 0, none⟩), .pointer (some ⟨w.heap.size + 1, 0, none⟩)]) ∧ w' = (w.alloc (.cells #[.pointer (some ⟨g, 0, none⟩)] 26)).alloc (.cells #[.int .i64 now] 2) := by
  have hmf : ∀ (fn : Fn) (first cap : Array Value) (w : World), (Instr.makeFunc fn first cap).run Try.prog w = .ok (.func fn first cap) w := fun _ _ _ _ => rfl
  go_enter Try.func43, Try.ntmps43
  go_wp2
  go_ret
  exact ⟨by simp, rfl⟩
def YPost (J Jx : List HV → World → Prop) (n₀ : Nat) (X : Nat → Prop) (pre : List HV) (x : HV) (W : World) (b : Bool) (W' : World) : Prop := (b = true ∧ J (pre ++ [x]) W' ∧ Kept n₀ X W W') ∨ (b = false ∧ Jx (pre ++ [x]) W')
theorem grown_none {a b : World} (h : Below a.heap.size a b) : a.grownBy b none := ⟨h.os, h.tape, h.output, h.size, fun i hi _ => h.block i hi⟩
set_option maxRecDepth 100000 in
set_option maxHeartbeats 2000000 in
theorem iter_in (n : Nat) (hn : 1 ≤ n) (l Bq Bn n₀ B o len cap : Nat) (g : Nat) (now : Int) (z : Nat → HV) (X : Nat → Prop) (hlen : len ≤ 100000) (hz : ∀ i, i < len → (z i).ok) (hB : B < n₀) (hBn : Bn < n₀) (hXB : ¬ X B) (hXn : ¬ X Bn) (J Jx : List HV → World → Prop)
    (W : World) (hJ : AbidesFrom W.heap.size J)
    (hY : ∀ pre x W, J pre W → pre.length < len → YieldAt Fence.wide (n - 1) Try.prog l #[.agg #[.int .i64 x.a, .int .i64 x.n, .int .i64 x.t]] W fun e W' =>
      (e = .returned (.bool true) ∧ J (pre ++ [x]) W' ∧ Kept n₀ X W W') ∨ (e = .returned (.bool false) ∧ Jx (pre ++ [x]) W'))
    (hq : W.cell? ⟨Bq, 0, none⟩ = some (.pointer (some ⟨g, 0, none⟩))) (hg : W.cell? ⟨g, 2, none⟩ = some (.slice (some ⟨B, o, none⟩) len cap)) (hc : W.cell? ⟨Bn, 0, none⟩ = some (.int .i64 now))
    (hr : ∀ i, i < len → W.cell? ⟨B, o + i * 3, none⟩ = some (.int .i64 (z i).a) ∧ W.cell? ⟨B, o + i * 3 + 1, none⟩ = some (.int .i64 (z i).n) ∧ W.cell? ⟨B, o + i * 3 + 2, none⟩ = some (.int .i64 (z i).t)) (hs : n₀ ≤ W.heap.size) (h0 : J [] W) :
    CallsIn Fence.wide n Try.prog 52 #[.func (.yield l) #[] #[], .pointer (some ⟨Bq, 0, none⟩), .pointer (some ⟨Bn, 0, none⟩)] W fun e W' => (∃ v, e = .returned v) ∧
      ((∃ ys, (∃ k, DueAt z len now k ∧ ys = upto z k) ∧ J ys W') ∨ (∃ pre, (∃ k, k ≤ len ∧ pre = upto z k) ∧ Jx pre W')) := by
  have HC := Asd.mk hc
  have HR := Asd.mk hr
  have HY := Asd.mk hY
  have HZ := Asd.mk hz
  have HJ := Asd.mk hJ
  clear hc hr hY hz hJ
  refine callsIn_of_wp Try.func52 rfl trivial ?_ rfl
  simp only [Try.ntmps52, List.size_toArray, List.length_cons, List.length_nil, Nat.reduceAdd, Nat.reduceSub, Array.replicate_succ, Array.replicate_zero, List.push_toArray, List.append_toArray, List.nil_append, List.cons_append]
  gi_wp2
  gi_loopw [11] (fun i wr => ∃ k : Nat, i = .int .i64 k ∧ Asd (k ≤ len ∧ ∀ i, i < k → whenN (z i).t ≤ now) ∧ Asd (J (upto z k) wr) ∧ Asd (Kept n₀ X W wr))
    (fun i _ => len - (intOf i).toNat)
  case atStart => exact ⟨0, rfl, ⟨by omega, fun i hi => by omega⟩, ⟨h0⟩, ⟨Kept.refl _ _ _⟩⟩
  case round =>
    obtain ⟨k, rfl, HI, HJ2, HK⟩ := hrel
    obtain ⟨i0, i1⟩ := HI.out
    have HD := Asd.mk i1
    clear i1
    by_cases hlt : k < len
    · obtain ⟨r0, r1, r2⟩ := HR.out k hlt
      have c0 := (HK.out.cell hB hXB).trans r0
      have c1 := (HK.out.cell hB hXB).trans r1
      have c2 := (HK.out.cell hB hXB).trans r2
      have cn := (HK.out.cell hBn hXn).trans HC.out
      have hk0 : (0 : Int) ≤ (k : Int) := by omega
      have hk1 : (k : Int) < (len : Int) := by omega
      have hsz : Bn < wr.heap.size := by have := HK.out.1; omega
      clear r0 r1 r2
      by_cases hd : whenN (z k).t ≤ now
      · have HE := Asd.mk (show ∀ i, i < k + 1 → whenN (z i).t ≤ now from fun i hi => by
          rcases Nat.lt_or_eq_of_le (Nat.le_of_lt_succ hi) with h | h
          · exact HD.out i h
          · subst h; exact hd)
        have HU := Asd.mk (upto_succ z k)
        have hdd : decide (now < whenN (z k).t) = false := decide_eq_false (by omega)
        have HW := Asd.mk (fun W => when_calls (z k).t W (HZ.out k hlt).2.2.1 (HZ.out k hlt).2.2.2)
        clear hd
        generalize whenN (z k).t = wn at *
        generalize z k = x at *
        obtain ⟨x0, x1, x2⟩ := x
        dsimp only at c0 c1 c2 HW
        have hmx : Try.prog.follows .mixedOrders = true := by kernel_rfl
        have HJx := Asd.mk (HJ.out _ wr ((wr.alloc (.cells #[.int .i64 x0, .int .i64 x1, .int .i64 x2] 23)).drew) none HJ2.out (grown_none (bdrew (balloc (Below.refl _ _) _))) (fun r h => by cases h))
        obtain ⟨fn, tmps, assign, body, hy, hR⟩ := HY.out (upto z k) ⟨x0, x1, x2⟩ _ HJx.out (by rw [upto_length]; exact hlt)
        have HRd := Asd.mk (RoundIn.mono (R' := fun e W' => ∃ b, e = .returned (.bool b) ∧ YPost J Jx n₀ X (upto z k) ⟨x0, x1, x2⟩ ((wr.alloc (.cells #[.int .i64 x0, .int .i64 x1, .int .i64 x2] 23)).drew) b W') hR (by
          rintro e W' (⟨rfl, h1, h2⟩ | ⟨rfl, h1⟩)
          · exact ⟨true, rfl, .inl ⟨rfl, h1, h2⟩⟩
          · exact ⟨false, rfl, .inr ⟨rfl, h1⟩⟩))
        clear hR
        gi_wp2
        first | (gi_region_with_o (first | (gi_at_call 29; refine (callsIn_wide.2 (HW.out _)).mono ?_; rintro e w' ⟨rfl, rfl⟩) | (refine ⟨trivial, ?_⟩; gi_at_call 29; refine (callsIn_wide.2 (HW.out _)).mono ?_; rintro e w' ⟨rfl, rfl⟩) | (refine RoundIn.mono HRd.out ?_; rintro e W3 ⟨b, rfl, hz3⟩; have HZ3 := Asd.mk hz3; clear hz3))) | fail
        all_goals
          clear hy
          rcases HZ3.out with ⟨rfl, hJ3, hk3⟩ | ⟨rfl, hJx3⟩
          · have HJ4 := Asd.mk hJ3
            have HK4 := Asd.mk (HK.out.trans (Kept.trans (⟨by simp, fun i hi _ => Below.heap_alloc wr _ i (by have := HK.out.1; omega)⟩ : Kept n₀ X wr ((wr.alloc (.cells #[.int .i64 x0, .int .i64 x1, .int .i64 x2] 23)).drew)) hk3))
            clear hJ3 hk3 HZ3
            gi_wp2
            go_roundw
            case rel => exact ⟨k + 1, by simp, ⟨by omega, HE.out⟩, ⟨HU.out ▸ HJ4.out⟩, HK4⟩
            case measure => simp [intOf]; omega
          · have HJ4 := Asd.mk hJx3
            clear hJx3 HZ3
            gi_wp2
            refine bodyPost_ret (results_none rfl _ _ _) rfl ?_
            exact ⟨⟨_, rfl⟩, .inr ⟨_, ⟨k + 1, by omega, HU.out.symm⟩, HJ4.out⟩⟩
      · have HE := Asd.mk (show DueAt z len now k from ⟨by omega, HD.out, fun _ => by omega⟩)
        have hdd : decide (now < whenN (z k).t) = true := decide_eq_true (by omega)
        have HW := Asd.mk (fun W => when_calls (z k).t W (HZ.out k hlt).2.2.1 (HZ.out k hlt).2.2.2)
        clear hd
        generalize whenN (z k).t = wn at *
        generalize z k = x at *
        obtain ⟨x0, x1, x2⟩ := x
        dsimp only at c0 c1 c2 HW
        have hmx : Try.prog.follows .mixedOrders = true := by kernel_rfl
        gi_wp2
        refine wpIn_wide.2 ?_
        refine start_ (n := 11) (S := fun w' => w'.cell? ⟨wr.heap.size, 2, none⟩ = some (.int .i64 x2) ∧ w'.cell? ⟨Bn, 0, none⟩ = some (.int .i64 now)) (ds := []) #[false, false, false, false, false, false, false, false, false, false, false] (by kernel_rfl) rfl rfl ⟨(by go_simp), (by go_simp)⟩ (fun hHeld => ?_)
        refine pure_ (i := 0) (N := some 15) (v := ?_) (a' := ?_) #[true, false, false, false, false, false, false, false, false, false, false] rfl rfl (by kernel_rfl) (fun _ _ _ h => h) (Or.inl ⟨by rfl, ?_⟩) ?_ ?_
        rotate_left
        · intro w'
          go_simp
          with_reducible rfl
        rotate_left
        · simp only [Act.put, List.setIfInBounds_toArray, List.set_cons_zero, List.set_cons_succ, i64_w, i32_w]
          rfl
        refine take_ (i := 1) (N := some 16) (v := ?_) (a' := ?_) #[true, true, false, false, false, false, false, false, false, false, false] rfl rfl (by kernel_rfl) (fun _ _ _ h => h) (Or.inl ⟨by rfl, ?_⟩) hHeld ?_ ?_
        rotate_left
        · rintro w' ⟨s0, s1⟩
          go_simp
          with_reducible rfl
        rotate_left
        · simp only [Act.put, List.setIfInBounds_toArray, List.set_cons_zero, List.set_cons_succ, i64_w, i32_w]
          rfl
        refine take_ (i := 3) (N := some 18) (v := ?_) (a' := ?_) #[true, true, false, true, false, false, false, false, false, false, false] rfl rfl (by kernel_rfl) (fun _ _ _ h => h) (Or.inl ⟨by rfl, ?_⟩) hHeld ?_ ?_
        rotate_left
        · rintro w' ⟨s0, s1⟩
          go_simp
          with_reducible rfl
        rotate_left
        · simp only [Act.put, List.setIfInBounds_toArray, List.set_cons_zero, List.set_cons_succ, i64_w, i32_w]
          rfl
        refine one_ (i := 2) (N := some 17) #[true, true, true, true, false, false, false, false, false, false, false] rfl rfl (by kernel_rfl) (by decide) (fun K hK => ?_)
        refine goes_ Try.func29 (by kernel_rfl) rfl #[.int .i64 x2] (by rfl) rfl rfl (by simp only [List.map_toArray, List.map_cons, List.map_nil]; rfl) ?_
        with_reducible refine (HW.out _).mono ?_
        rintro e_ w5 ⟨rfl, rfl⟩
        refine ⟨_, rfl, ?_⟩
        refine hK.out _ _ ⟨hHeld.1, hHeld.2⟩ (fun hHeld => ?_)
        clear hK K
        refine norm_ (a' := ?_) ?_ ?_
        rotate_left
        · show Act.put _ (some 17) _ = _
          simp only [Act.put, List.setIfInBounds_toArray, List.set_cons_zero, List.set_cons_succ, i64_w, i32_w]
          rfl
        refine pure_ (i := 4) (N := some 19) (v := ?_) (a' := ?_) #[true, true, true, true, true, false, false, false, false, false, false] rfl rfl (by kernel_rfl) (fun _ _ _ h => h) (Or.inl ⟨by rfl, ?_⟩) ?_ ?_
        rotate_left
        · intro w'
          go_simp
          with_reducible rfl
        rotate_left
        · simp only [Act.put, List.setIfInBounds_toArray, List.set_cons_zero, List.set_cons_succ, i64_w, i32_w]
          rfl
        refine pure_ (i := 5) (N := some 20) (v := ?_) (a' := ?_) #[true, true, true, true, true, true, false, false, false, false, false] rfl rfl (by kernel_rfl) (fun _ _ _ h => h) (Or.inl ⟨by rfl, ?_⟩) ?_ ?_
        rotate_left
        · intro w'
          go_simp
          with_reducible rfl
        rotate_left
        · simp only [Act.put, List.setIfInBounds_toArray, List.set_cons_zero, List.set_cons_succ, i64_w, i32_w]
          rfl
        refine pure_ (i := 6) (N := some 21) (v := undef) (a' := ?_) #[true, true, true, true, true, true, true, false, false, false, false] rfl rfl (by kernel_rfl) (fun _ _ _ h => h) (Or.inr ⟨by rfl, rfl⟩) ?_ ?_
        rotate_left
        · simp only [Act.put, List.setIfInBounds_toArray, List.set_cons_zero, List.set_cons_succ, i64_w, i32_w]
          rfl
        refine pure_ (i := 7) (N := some 22) (v := undef) (a' := ?_) #[true, true, true, true, true, true, true, true, false, false, false] rfl rfl (by kernel_rfl) (fun _ _ _ h => h) (Or.inr ⟨by rfl, rfl⟩) ?_ ?_
        rotate_left
        · simp only [Act.put, List.setIfInBounds_toArray, List.set_cons_zero, List.set_cons_succ, i64_w, i32_w]
          rfl
        refine pure_ (i := 8) (N := some 23) (v := undef) (a' := ?_) #[true, true, true, true, true, true, true, true, true, false, false] rfl rfl (by kernel_rfl) (fun _ _ _ h => h) (Or.inr ⟨by rfl, rfl⟩) ?_ ?_
        rotate_left
        · simp only [Act.put, List.setIfInBounds_toArray, List.set_cons_zero, List.set_cons_succ, i64_w, i32_w]
          rfl
        refine pure_ (i := 9) (N := some 24) (v := undef) (a' := ?_) #[true, true, true, true, true, true, true, true, true, true, false] rfl rfl (by kernel_rfl) (fun _ _ _ h => h) (Or.inr ⟨by rfl, rfl⟩) ?_ ?_
        rotate_left
        · simp only [Act.put, List.setIfInBounds_toArray, List.set_cons_zero, List.set_cons_succ, i64_w, i32_w]
          rfl
        refine pure_ (i := 10) (N := some 25) (v := ?_) (a' := ?_) #[true, true, true, true, true, true, true, true, true, true, true] rfl rfl (by kernel_rfl) (fun _ _ _ h => h) (Or.inl ⟨by rfl, ?_⟩) ?_ ?_
        rotate_left
        · intro w'
          go_simp
          with_reducible rfl
        rotate_left
        · simp only [Act.put, List.setIfInBounds_toArray, List.set_cons_zero, List.set_cons_succ, i64_w, i32_w]
          rfl
        refine done_ (by kernel_rfl) ?_
        gi_wp2
        refine bodyPost_ret (results_none rfl _ _ _) rfl ?_
        refine ⟨⟨_, rfl⟩, .inl ⟨_, ⟨k, HE.out, rfl⟩, ?_⟩⟩
        exact HJ.out _ wr _ none HJ2.out (grown_none (show Below wr.heap.size wr _ from by repeat (first | with_reducible exact Below.refl _ _ | with_reducible apply bdrewN | with_reducible apply bdrew | with_reducible refine bset ?_ (Nat.le_refl _) | with_reducible apply balloc))) (fun r h => by cases h)
    · obtain rfl : k = len := by omega
      gi_wp2
      go_end0
      exact ⟨⟨_, rfl⟩, .inl ⟨_, ⟨k, ⟨Nat.le_refl _, HD.out, fun h => by omega⟩, rfl⟩, HJ2.out⟩⟩
end Go.Proofs.Ytldgecnmmklldaa.Qr
