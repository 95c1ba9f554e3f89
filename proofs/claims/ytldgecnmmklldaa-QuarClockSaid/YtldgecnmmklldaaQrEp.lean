/- The clock of layer 9, as layer 13's law calls it. -/
import Derived.Test.YtldgecnmmklldaaQrIter
import Derived.WalkLawsBesides
import Derived.Laws.BitsLemmas
namespace Go.Proofs.Ytldgecnmmklldaa.Qr
open Go.RowKit
set_option linter.unusedVariables false
set_option linter.unusedSimpArgs false
theorem mf (fn : Fn) (first cap : Array Value) (w : World) : (Instr.makeFunc fn first cap).run Try.prog w = .ok (.func fn first cap) w := rfl
theorem now_calls (g : Nat) (n : Int) (w : World) (hc : w.cell? ⟨g, 0, none⟩ = some (.int .i64 n)) :
    Calls Try.prog 31 #[.pointer (some ⟨g, 0, none⟩)] w fun e w' => e = .returned (.int .i64 n) ∧ w' = w := by
  go_enter Try.func31, Try.ntmps31
  go_wp2
  go_ret
  exact ⟨by simp, rfl⟩
theorem begin1 (g : Nat) (n : Int) (w : World) (h0 : 0 ≤ n) (h1 : n ≤ 1000000) (hp : n % 2 = 1) (hc : w.cell? ⟨g, 0, none⟩ = some (.int .i64 n)) (hf : w.frozen? ⟨g, 0, none⟩ = false) :
    Calls Try.prog 32 #[.pointer (some ⟨g, 0, none⟩)] w fun e w' => e = .returned (.bool false) ∧ w' = w := by
  have hmf := mf
  have e1 : (bits .and .i64 n 1 == 1) = true := by rw [and1 n h0 (by omega), hp]; rfl
  have e2 : wrap64 (n + 1) = n + 1 := by unfold wrap64; omega
  go_enter Try.func32, Try.ntmps32
  go_wp2
  all_goals try (exfalso; omega)
  go_ret
  exact ⟨by simp [e1]; try omega, rfl⟩
theorem begin0 (g : Nat) (n : Int) (w : World) (h0 : 0 ≤ n) (h1 : n ≤ 1000000) (hp : n % 2 = 0) (hc : w.cell? ⟨g, 0, none⟩ = some (.int .i64 n)) (hf : w.frozen? ⟨g, 0, none⟩ = false) :
    Calls Try.prog 32 #[.pointer (some ⟨g, 0, none⟩)] w fun e w' => e = .returned (.bool true) ∧ w' = w.setCell ⟨g, 0, none⟩ (.int .i64 (n + 1)) := by
  have hmf := mf
  have e1 : (bits .and .i64 n 1 == 1) = false := by rw [and1 n h0 (by omega), hp]; rfl
  have e2 : wrap64 (n + 1) = n + 1 := by unfold wrap64; omega
  go_enter Try.func32, Try.ntmps32
  go_wp2
  all_goals try (exfalso; omega)
  go_ret
  exact ⟨by simp [e1]; try omega, rfl⟩
theorem end1 (g : Nat) (n : Int) (w : World) (h0 : 0 ≤ n) (h1 : n ≤ 1000000) (hp : n % 2 = 1) (hc : w.cell? ⟨g, 0, none⟩ = some (.int .i64 n)) (hf : w.frozen? ⟨g, 0, none⟩ = false) :
    Calls Try.prog 33 #[.pointer (some ⟨g, 0, none⟩)] w fun e w' => e = .returned (.bool true) ∧ w' = w.setCell ⟨g, 0, none⟩ (.int .i64 (n + 1)) := by
  have hmf := mf
  have e1 : (bits .and .i64 n 1 == 1) = true := by rw [and1 n h0 (by omega), hp]; rfl
  have e2 : wrap64 (n + 1) = n + 1 := by unfold wrap64; omega
  go_enter Try.func33, Try.ntmps33
  go_wp2
  all_goals try (exfalso; omega)
  go_ret
  exact ⟨by simp [e1]; try omega, rfl⟩
theorem end0 (g : Nat) (n : Int) (w : World) (h0 : 0 ≤ n) (h1 : n ≤ 1000000) (hp : n % 2 = 0) (hc : w.cell? ⟨g, 0, none⟩ = some (.int .i64 n)) (hf : w.frozen? ⟨g, 0, none⟩ = false) :
    Calls Try.prog 33 #[.pointer (some ⟨g, 0, none⟩)] w fun e w' => e = .returned (.bool false) ∧ w' = w := by
  have hmf := mf
  have e1 : (bits .and .i64 n 1 == 1) = false := by rw [and1 n h0 (by omega), hp]; rfl
  have e2 : wrap64 (n + 1) = n + 1 := by unfold wrap64; omega
  go_enter Try.func33, Try.ntmps33
  go_wp2
  all_goals try (exfalso; omega)
  go_ret
  exact ⟨by simp [e1]; try omega, rfl⟩
theorem cnew_calls (w : World) :
    Calls Try.prog 30 #[] w fun e w' => e = .returned (.pointer (some ⟨w.heap.size, 0, none⟩)) ∧ ∃ o : Obj, w' = w.alloc o ∧ w'.cell? ⟨w.heap.size, 0, none⟩ = some (.int .i64 0) ∧ w'.frozen? ⟨w.heap.size, 0, none⟩ = false := by
  go_enter Try.func30, Try.ntmps30
  go_wp2
  go_ret
  refine ⟨rfl, _, rfl, ?_, ?_⟩ <;> go_simp
end Go.Proofs.Ytldgecnmmklldaa.Qr
