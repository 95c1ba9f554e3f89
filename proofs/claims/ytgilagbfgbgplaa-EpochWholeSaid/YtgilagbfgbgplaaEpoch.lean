/- Contracts of the clocks of layer 9, the program's and the document's. Block g holds a clock's one number, n. -/
import Derived.Test.YtgilagbfgbgplaaProg
import Derived.Test.YtgilagbfgbgplaaKit
import Derived.WalkLawsBesides
import Derived.Laws.BitsLemmas
namespace Go.Proofs.Ytgilagbfgbgplaa.Ep
open Go.RowKit
set_option linter.unusedVariables false
set_option linter.unusedSimpArgs false

/-! ### numbers -/
theorem and1 (n : Int) (h0 : 0 ≤ n) (h1 : n < 9223372036854775808) : bits .and .i64 n 1 = n % 2 :=
  bits_mask .i64 63 (by decide) (fun n h0 h1 => by rw [IntKind.wrap_i64]; omega) 1 (by decide) n h0 h1
theorem ofInt_toNat (n : Int) : (BitVec.ofInt 64 n).toNat = (n % 18446744073709551616).toNat := by
  rw [BitVec.toNat_ofInt]; rfl
theorem bv_split (v m : BitVec 64) : (v &&& ~~~ m) + (v &&& m) = v := by
  rw [BitVec.add_eq_or_of_and_eq_zero]
  · ext i hi; simp; cases v[i] <;> cases m[i] <;> simp
  · ext i hi; simp; intro h; simp [h]
theorem andNot1 (n : Int) (h0 : 0 ≤ n) (h1 : n < 9223372036854775808) : bits .andNot .i64 n 1 = n - n % 2 := by
  show IntKind.i64.wrap (((BitVec.ofInt 64 n &&& ~~~ BitVec.ofInt 64 1).toNat : Nat) : Int) = _
  rw [show BitVec.ofInt 64 1 = 1#64 from rfl]
  have hv : (BitVec.ofInt 64 n).toNat = n.toNat := by rw [ofInt_toNat]; omega
  have hs := congrArg BitVec.toNat (bv_split (BitVec.ofInt 64 n) 1#64)
  rw [BitVec.toNat_add, hv] at hs
  have hm : (BitVec.ofInt 64 n &&& 1#64).toNat = n.toNat % 2 := by
    rw [BitVec.toNat_and, hv]; exact Nat.and_one_is_mod _
  have hle : (BitVec.ofInt 64 n &&& ~~~ 1#64).toNat ≤ n.toNat := by
    rw [BitVec.toNat_and, hv]; exact Nat.and_le_left
  rw [hm] at hs
  generalize (BitVec.ofInt 64 n &&& ~~~ 1#64).toNat = A at *
  rw [IntKind.wrap_i64]
  omega

/-- When an epoch is over. -/
def whenN (a : Int) : Int := if a < 0 then 2 else if 2199023255552 < a then 2199023255554 else a + 2 + a % 2
theorem whenN_le (a : Int) : 2 ≤ whenN a ∧ whenN a ≤ 2199023255554 := by unfold whenN; repeat' split <;> omega

/-! ### the walks -/
theorem mf (fn : Fn) (first cap : Array Value) (w : World) : (Instr.makeFunc fn first cap).run Try.prog w = .ok (.func fn first cap) w := rfl

theorem when_calls (a : Int) (w : World) (h0 : -9223372036854775808 ≤ a) (h1 : a ≤ 9223372036854775807) :
    Calls Try.prog 28 #[.int .i64 a] w fun e w' => e = .returned (.int .i64 (whenN a)) ∧ w' = w := by
  by_cases hn : a < 0
  · have e1 : whenN a = 2 := by unfold whenN; rw [if_pos hn]
    have e2 : bits .andNot .i64 1 1 = 0 := by decide
    rw [e1]
    go_enter Try.func28, Try.ntmps28
    go_wp2
    all_goals try (exfalso; omega)
    all_goals go_ret
    all_goals exact ⟨by simp [e2]; try decide, rfl⟩
  by_cases hm : 2199023255552 < a
  · have e1 : whenN a = 2199023255554 := by unfold whenN; rw [if_neg hn, if_pos hm]
    have e2 : bits .andNot .i64 2199023255553 1 = 2199023255552 := by rw [andNot1 _ (by omega) (by omega)]; decide
    rw [e1]
    go_enter Try.func28, Try.ntmps28
    go_wp2
    all_goals try (exfalso; omega)
    all_goals go_ret
    all_goals exact ⟨by simp [e2]; try decide, rfl⟩
  · have e1 : whenN a = a + 2 + a % 2 := by unfold whenN; rw [if_neg hn, if_neg hm]
    have e2 : bits .andNot .i64 (a + 1) 1 = a + a % 2 := by rw [andNot1 _ (by omega) (by omega)]; omega
    have e3 : wrap64 (a + a % 2 + 2) = a + 2 + a % 2 := by unfold wrap64; omega
    rw [e1]
    go_enter Try.func28, Try.ntmps28
    go_wp2
    all_goals try (exfalso; omega)
    all_goals go_ret
    all_goals exact ⟨by simp [e2, e3]; try omega, rfl⟩

theorem rwhen_calls (a : Int) (w : World) (h0 : -9223372036854775808 ≤ a) (h1 : a ≤ 9223372036854775807) :
    Calls Try.prog 29 #[.int .i64 a] w fun e w' => e = .returned (.int .i64 (whenN a)) ∧ w' = w := by
  by_cases hn : a < 0
  · have e1 : whenN a = 2 := by unfold whenN; rw [if_pos hn]
    rw [e1]
    go_enter Try.func29, Try.ntmps29
    go_wp2
    all_goals try (exfalso; omega)
    all_goals go_ret
    all_goals exact ⟨by simp, rfl⟩
  by_cases hm : 2199023255552 < a
  · have e1 : whenN a = 2199023255554 := by unfold whenN; rw [if_neg hn, if_pos hm]
    rw [e1]
    go_enter Try.func29, Try.ntmps29
    go_wp2
    all_goals try (exfalso; omega)
    all_goals go_ret
    all_goals exact ⟨by simp, rfl⟩
  · have e1 : whenN a = a + 2 + a % 2 := by unfold whenN; rw [if_neg hn, if_neg hm]
    rw [e1]
    go_enter Try.func29, Try.ntmps29
    go_wp2
    all_goals try (exfalso; omega)
    all_goals go_ret
    all_goals exact ⟨by simp, rfl⟩
theorem runs_calls (g : Nat) (n : Int) (w : World) (h0 : 0 ≤ n) (h1 : n ≤ 1000000) (hc : w.cell? ⟨g, 0, none⟩ = some (.int .i64 n)) :
    Calls Try.prog 24 #[.pointer (some ⟨g, 0, none⟩)] w fun e w' => e = .returned (.bool (decide (n % 2 = 1))) ∧ w' = w := by
  have e1 := and1 n h0 (by omega)
  go_enter Try.func24, Try.ntmps24
  go_wp2
  go_ret
  exact ⟨by simp [e1, Bool.beq_eq_decide_eq], rfl⟩
theorem rruns_calls (g : Nat) (n : Int) (w : World) (h0 : 0 ≤ n) (h1 : n ≤ 1000000) (hc : w.cell? ⟨g, 0, none⟩ = some (.int .i64 n)) :
    Calls Try.prog 25 #[.pointer (some ⟨g, 0, none⟩)] w fun e w' => e = .returned (.bool (decide (n % 2 = 1))) ∧ w' = w := by
  go_enter Try.func25, Try.ntmps25
  go_wp2
  go_ret
  exact ⟨by simp [Bool.beq_eq_decide_eq], rfl⟩
theorem now_calls (g : Nat) (n : Int) (w : World) (hc : w.cell? ⟨g, 0, none⟩ = some (.int .i64 n)) :
    Calls Try.prog 22 #[.pointer (some ⟨g, 0, none⟩)] w fun e w' => e = .returned (.int .i64 n) ∧ w' = w := by
  go_enter Try.func22, Try.ntmps22
  go_wp2
  go_ret
  exact ⟨by simp, rfl⟩
theorem rnow_calls (g : Nat) (n : Int) (w : World) (hc : w.cell? ⟨g, 0, none⟩ = some (.int .i64 n)) :
    Calls Try.prog 23 #[.pointer (some ⟨g, 0, none⟩)] w fun e w' => e = .returned (.int .i64 n) ∧ w' = w := by
  go_enter Try.func23, Try.ntmps23
  go_wp2
  go_ret
  exact ⟨by simp, rfl⟩
/-- What Begin and End leave. -/
def put (w : World) (g : Nat) (n : Int) : World := w.setCell ⟨g, 0, none⟩ (.int .i64 n)
theorem begin1 (g : Nat) (n : Int) (w : World) (h0 : 0 ≤ n) (h1 : n ≤ 1000000) (hp : n % 2 = 1) (hc : w.cell? ⟨g, 0, none⟩ = some (.int .i64 n)) (hf : w.frozen? ⟨g, 0, none⟩ = false) :
    Calls Try.prog 18 #[.pointer (some ⟨g, 0, none⟩)] w fun e w' => e = .returned (.bool false) ∧ w' = w := by
  have hmf := mf
  have e1 : (bits .and .i64 n 1 == 1) = true := by rw [and1 n h0 (by omega), hp]; rfl
  have e2 : wrap64 (n + 1) = n + 1 := by unfold wrap64; omega
  go_enter Try.func18, Try.ntmps18
  go_wp2
  all_goals try (exfalso; omega)
  go_ret
  exact ⟨by simp [e1]; try omega, rfl⟩
theorem begin0 (g : Nat) (n : Int) (w : World) (h0 : 0 ≤ n) (h1 : n ≤ 1000000) (hp : n % 2 = 0) (hc : w.cell? ⟨g, 0, none⟩ = some (.int .i64 n)) (hf : w.frozen? ⟨g, 0, none⟩ = false) :
    Calls Try.prog 18 #[.pointer (some ⟨g, 0, none⟩)] w fun e w' => e = .returned (.bool true) ∧ w' = w.setCell ⟨g, 0, none⟩ (.int .i64 (n + 1)) := by
  have hmf := mf
  have e1 : (bits .and .i64 n 1 == 1) = false := by rw [and1 n h0 (by omega), hp]; rfl
  have e2 : wrap64 (n + 1) = n + 1 := by unfold wrap64; omega
  go_enter Try.func18, Try.ntmps18
  go_wp2
  all_goals try (exfalso; omega)
  go_ret
  exact ⟨by simp [e1]; try omega, rfl⟩
theorem rbegin1 (g : Nat) (n : Int) (w : World) (h0 : 0 ≤ n) (h1 : n ≤ 1000000) (hp : n % 2 = 1) (hc : w.cell? ⟨g, 0, none⟩ = some (.int .i64 n)) (hf : w.frozen? ⟨g, 0, none⟩ = false) :
    Calls Try.prog 19 #[.pointer (some ⟨g, 0, none⟩)] w fun e w' => e = .returned (.bool false) ∧ w' = w := by
  have hmf := mf
  have e1 : (bits .and .i64 n 1 == 1) = true := by rw [and1 n h0 (by omega), hp]; rfl
  have e2 : wrap64 (n + 1) = n + 1 := by unfold wrap64; omega
  go_enter Try.func19, Try.ntmps19
  go_wp2
  all_goals try (exfalso; omega)
  go_ret
  exact ⟨by simp [e1]; try omega, rfl⟩
theorem rbegin0 (g : Nat) (n : Int) (w : World) (h0 : 0 ≤ n) (h1 : n ≤ 1000000) (hp : n % 2 = 0) (hc : w.cell? ⟨g, 0, none⟩ = some (.int .i64 n)) (hf : w.frozen? ⟨g, 0, none⟩ = false) :
    Calls Try.prog 19 #[.pointer (some ⟨g, 0, none⟩)] w fun e w' => e = .returned (.bool true) ∧ w' = w.setCell ⟨g, 0, none⟩ (.int .i64 (n + 1)) := by
  have hmf := mf
  have e1 : (bits .and .i64 n 1 == 1) = false := by rw [and1 n h0 (by omega), hp]; rfl
  have e2 : wrap64 (n + 1) = n + 1 := by unfold wrap64; omega
  go_enter Try.func19, Try.ntmps19
  go_wp2
  all_goals try (exfalso; omega)
  go_ret
  exact ⟨by simp [e1]; try omega, rfl⟩
theorem end1 (g : Nat) (n : Int) (w : World) (h0 : 0 ≤ n) (h1 : n ≤ 1000000) (hp : n % 2 = 1) (hc : w.cell? ⟨g, 0, none⟩ = some (.int .i64 n)) (hf : w.frozen? ⟨g, 0, none⟩ = false) :
    Calls Try.prog 20 #[.pointer (some ⟨g, 0, none⟩)] w fun e w' => e = .returned (.bool true) ∧ w' = w.setCell ⟨g, 0, none⟩ (.int .i64 (n + 1)) := by
  have hmf := mf
  have e1 : (bits .and .i64 n 1 == 1) = true := by rw [and1 n h0 (by omega), hp]; rfl
  have e2 : wrap64 (n + 1) = n + 1 := by unfold wrap64; omega
  go_enter Try.func20, Try.ntmps20
  go_wp2
  all_goals try (exfalso; omega)
  go_ret
  exact ⟨by simp [e1]; try omega, rfl⟩
theorem end0 (g : Nat) (n : Int) (w : World) (h0 : 0 ≤ n) (h1 : n ≤ 1000000) (hp : n % 2 = 0) (hc : w.cell? ⟨g, 0, none⟩ = some (.int .i64 n)) (hf : w.frozen? ⟨g, 0, none⟩ = false) :
    Calls Try.prog 20 #[.pointer (some ⟨g, 0, none⟩)] w fun e w' => e = .returned (.bool false) ∧ w' = w := by
  have hmf := mf
  have e1 : (bits .and .i64 n 1 == 1) = false := by rw [and1 n h0 (by omega), hp]; rfl
  have e2 : wrap64 (n + 1) = n + 1 := by unfold wrap64; omega
  go_enter Try.func20, Try.ntmps20
  go_wp2
  all_goals try (exfalso; omega)
  go_ret
  exact ⟨by simp [e1]; try omega, rfl⟩
theorem rend1 (g : Nat) (n : Int) (w : World) (h0 : 0 ≤ n) (h1 : n ≤ 1000000) (hp : n % 2 = 1) (hc : w.cell? ⟨g, 0, none⟩ = some (.int .i64 n)) (hf : w.frozen? ⟨g, 0, none⟩ = false) :
    Calls Try.prog 21 #[.pointer (some ⟨g, 0, none⟩)] w fun e w' => e = .returned (.bool true) ∧ w' = w.setCell ⟨g, 0, none⟩ (.int .i64 (n + 1)) := by
  have hmf := mf
  have e1 : (bits .and .i64 n 1 == 1) = true := by rw [and1 n h0 (by omega), hp]; rfl
  have e2 : wrap64 (n + 1) = n + 1 := by unfold wrap64; omega
  go_enter Try.func21, Try.ntmps21
  go_wp2
  all_goals try (exfalso; omega)
  go_ret
  exact ⟨by simp [e1]; try omega, rfl⟩
theorem rend0 (g : Nat) (n : Int) (w : World) (h0 : 0 ≤ n) (h1 : n ≤ 1000000) (hp : n % 2 = 0) (hc : w.cell? ⟨g, 0, none⟩ = some (.int .i64 n)) (hf : w.frozen? ⟨g, 0, none⟩ = false) :
    Calls Try.prog 21 #[.pointer (some ⟨g, 0, none⟩)] w fun e w' => e = .returned (.bool false) ∧ w' = w := by
  have hmf := mf
  have e1 : (bits .and .i64 n 1 == 1) = false := by rw [and1 n h0 (by omega), hp]; rfl
  have e2 : wrap64 (n + 1) = n + 1 := by unfold wrap64; omega
  go_enter Try.func21, Try.ntmps21
  go_wp2
  all_goals try (exfalso; omega)
  go_ret
  exact ⟨by simp [e1]; try omega, rfl⟩
theorem over_calls (g : Nat) (n a : Int) (w : World) (h0 : -9223372036854775808 ≤ a) (h1 : a ≤ 9223372036854775807) (hc : w.cell? ⟨g, 0, none⟩ = some (.int .i64 n)) :
    Calls Try.prog 26 #[.pointer (some ⟨g, 0, none⟩), .int .i64 a] w fun e w' => e = .returned (.bool (decide (whenN a ≤ n))) ∧ ∃ m, w' = w.drewN m := by
  have H := Lib.hid (fun W => when_calls a W h0 h1)
  go_enter Try.func26, Try.ntmps26
  go_wp2_with fail
  go_quiet ((go_at_call 28; exact Calls.quiet_of_same (H.out _)))
  go_wp2
  go_ret
  exact ⟨rfl, _, rfl⟩
theorem rover_calls (g : Nat) (n a : Int) (w : World) (h0 : -9223372036854775808 ≤ a) (h1 : a ≤ 9223372036854775807) (hc : w.cell? ⟨g, 0, none⟩ = some (.int .i64 n)) :
    Calls Try.prog 27 #[.pointer (some ⟨g, 0, none⟩), .int .i64 a] w fun e w' => e = .returned (.bool (decide (whenN a ≤ n))) ∧ ∃ m, w' = w.drewN m := by
  have H := Lib.hid (fun W => rwhen_calls a W h0 h1)
  go_enter Try.func27, Try.ntmps27
  go_wp2_with fail
  go_quiet ((go_at_call 29; exact Calls.quiet_of_same (H.out _)))
  go_wp2
  go_ret
  exact ⟨rfl, _, rfl⟩
theorem new_calls (w : World) :
    Calls Try.prog 16 #[] w fun e w' => e = .returned (.pointer (some ⟨w.heap.size, 0, none⟩)) ∧ ∃ o : Obj, w' = w.alloc o ∧ w'.cell? ⟨w.heap.size, 0, none⟩ = some (.int .i64 0) ∧ w'.frozen? ⟨w.heap.size, 0, none⟩ = false := by
  go_enter Try.func16, Try.ntmps16
  go_wp2
  go_ret
  refine ⟨rfl, _, rfl, ?_, ?_⟩ <;> go_simp
theorem rnew_calls (w : World) :
    Calls Try.prog 17 #[] w fun e w' => e = .returned (.pointer (some ⟨w.heap.size, 0, none⟩)) ∧ ∃ o : Obj, w' = w.alloc o ∧ w'.cell? ⟨w.heap.size, 0, none⟩ = some (.int .i64 0) ∧ w'.frozen? ⟨w.heap.size, 0, none⟩ = false := by
  go_enter Try.func17, Try.ntmps17
  go_wp2
  go_ret
  refine ⟨rfl, _, rfl, ?_, ?_⟩ <;> go_simp
theorem runs1 (g : Nat) (n : Int) (w : World) (h0 : 0 ≤ n) (h1 : n ≤ 1000000) (hp : n % 2 = 1) (hc : w.cell? ⟨g, 0, none⟩ = some (.int .i64 n)) :
    Calls Try.prog 24 #[.pointer (some ⟨g, 0, none⟩)] w fun e w' => e = .returned (.bool true) ∧ w' = w := by
  have h := runs_calls g n w h0 h1 hc
  rwa [show decide (n % 2 = 1) = true from by simp [hp]] at h
theorem runs0 (g : Nat) (n : Int) (w : World) (h0 : 0 ≤ n) (h1 : n ≤ 1000000) (hp : n % 2 = 0) (hc : w.cell? ⟨g, 0, none⟩ = some (.int .i64 n)) :
    Calls Try.prog 24 #[.pointer (some ⟨g, 0, none⟩)] w fun e w' => e = .returned (.bool false) ∧ w' = w := by
  have h := runs_calls g n w h0 h1 hc
  rwa [show decide (n % 2 = 1) = false from by simp [hp]] at h
theorem rruns1 (g : Nat) (n : Int) (w : World) (h0 : 0 ≤ n) (h1 : n ≤ 1000000) (hp : n % 2 = 1) (hc : w.cell? ⟨g, 0, none⟩ = some (.int .i64 n)) :
    Calls Try.prog 25 #[.pointer (some ⟨g, 0, none⟩)] w fun e w' => e = .returned (.bool true) ∧ w' = w := by
  have h := rruns_calls g n w h0 h1 hc
  rwa [show decide (n % 2 = 1) = true from by simp [hp]] at h
theorem rruns0 (g : Nat) (n : Int) (w : World) (h0 : 0 ≤ n) (h1 : n ≤ 1000000) (hp : n % 2 = 0) (hc : w.cell? ⟨g, 0, none⟩ = some (.int .i64 n)) :
    Calls Try.prog 25 #[.pointer (some ⟨g, 0, none⟩)] w fun e w' => e = .returned (.bool false) ∧ w' = w := by
  have h := rruns_calls g n w h0 h1 hc
  rwa [show decide (n % 2 = 1) = false from by simp [hp]] at h
/-- A slice of bools, read. -/
theorem read_bools {w wr : World} {A : Option Addr} {len : Nat} {zs : List Bool} (hz : ∀ i, i < len → ∃ a, A = some a ∧ w.cell? (a.add i) = some (.bool (zs.getD i false))) (hb : Below w.heap.size w wr) {k : Nat} (hk : k < len) :
    ∃ a b, A = some a ∧ zs.getD k false = b ∧ a.block < w.heap.size ∧ wr.cell? (a.add k) = some (.bool b) ∧ ∀ g v, w.heap.size ≤ g → (wr.setCell ⟨g, 0, none⟩ v).cell? (a.add k) = some (.bool b) := by
  obtain ⟨a, ha, hc⟩ := hz k hk
  have hl := World.block_lt_of_cell? w _ hc
  have hr := cellB hb hc
  have hbk : (a.add k).block = a.block := by unfold Addr.add; split <;> rfl
  refine ⟨a, _, ha, rfl, by rw [← hbk]; exact hl, hr, fun g v hg => ?_⟩
  have hh := Below.heap_setCell wr ⟨g, 0, none⟩ v (a.add k).block (by show (a.add k).block ≠ g; omega)
  rw [← hr]
  simp only [World.cell?, hh]
end Go.Proofs.Ytgilagbfgbgplaa.Ep
