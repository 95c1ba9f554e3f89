/- What cap.Right and the document's Right compute (layers 1 and 2). -/
import Derived.Test.YtijcniflghjoaaaRgKit
import Derived.Test.YtijcniflghjoaaaBits
namespace Go.Proofs.Ytijcniflghjoaaa.Rg
open Go.RowKit
set_option linter.unusedVariables false
set_option linter.unusedSimpArgs false
def gv_permRight (p : Int) : Bool := Go.bits .andNot .i64 p 127 == 0
def gv_spanRight (a b : Int) : Bool := decide (0 ≤ a) && (decide (a ≤ 4294967295) && (decide (0 ≤ b) && decide (b ≤ 4294967295)))
def gv_spanHas (a b c d : Int) : Bool := decide (a ≤ c) && (decide (c ≤ d) && decide (d ≤ b))
def gv_capRight (a : Bool) (b c d e f : Int) : Bool := gv_spanRight b c && (decide (0 ≤ d) && (decide (d ≤ 4294967295) && (gv_permRight e && (decide (0 ≤ f) && (decide (f ≤ 255) && (!a || gv_spanHas 0 16777216 b c))))))
def capRight_f (a0_0 : Bool) (a0_1 : Int) (a0_2 : Int) (a0_3 : Int) (a0_4 : Int) (a0_5 : Int) : Option (Bool) := some (gv_capRight a0_0 a0_1 a0_2 a0_3 a0_4 a0_5)
theorem gv_bcell {W w1 : World} (hb : Below W.heap.size W w1) : (∀ b o, b < W.heap.size → w1.cell? ⟨b, o, none⟩ = W.cell? ⟨b, o, none⟩) ∧ (∀ b o, b < W.heap.size → w1.frozen? ⟨b, o, none⟩ = W.frozen? ⟨b, o, none⟩) :=
  ⟨fun b o h => hb.cell (p := ⟨b, o, none⟩) h, fun b o h => hb.frozen (p := ⟨b, o, none⟩) h⟩
theorem gv_bcall {w W w2 : World} (h : Below w.heap.size w W) (hb : Below W.heap.size W w2) : Below w.heap.size w w2 := h.trans (hb.mono h.size)
theorem gv_ret_bool {a b : Bool} (h : a = b) : Ending.returned (.bool a) = Ending.returned (.bool b) := by rw [h]
theorem gv_kle {a b c : Nat} (h : a ≤ b) : a ≤ b + c := by omega
theorem gv_klt {a b c : Nat} (h : a < b) : a < b + c := by omega
theorem gv_permRight_calls (p : Int) (w : World) :
    Calls Try.prog 56 #[.int .i64 p] w fun e w' => e = .returned (.bool (gv_permRight p)) ∧ w = w' := by
  go_enter Try.func56, Try.ntmps56
  go_wp2
  go_ret
  exact ⟨rfl, rfl⟩
theorem gv_capOf (a : Bool) (b c d e f : Int) (w : World) :
    Calls Try.prog 54 #[.agg #[.bool a, .int .i64 b, .int .i64 c, .int .i64 d, .int .i64 e, .int .i64 f]] w fun r w' => r = .returned (.agg #[.int .i64 b, .int .i64 c, .bool a, .int .i64 b, .int .i64 c, .int .i64 d, .int .i64 e, .int .i64 f]) ∧ Below w.heap.size w w' := by
  go_enter Try.func54, Try.ntmps54
  go_wp2
  exact bodyPost_ret (v := .agg #[.int .i64 b, .int .i64 c, .bool a, .int .i64 b, .int .i64 c, .int .i64 d, .int .i64 e, .int .i64 f]) (by simp [results, Try.results54, go_sem]) rfl ⟨rfl, by repeat (first | exact Below.refl _ _ | refine balloc ?_ _ | refine gv_bcall ?_ (by assumption))⟩
theorem gv_spanRight_calls (a b : Int) (w : World) :
    Calls Try.prog 55 #[.agg #[.int .i64 a, .int .i64 b]] w fun r w' => r = .returned (.bool (gv_spanRight a b)) ∧ Below w.heap.size w w' := by
  go_enter Try.func55, Try.ntmps55
  go_wp2
  all_goals go_ret
  all_goals exact ⟨gv_ret_bool (by unfold gv_spanRight; rw [Bool.eq_iff_iff]; simp; try omega), by repeat (first | exact Below.refl _ _ | refine balloc ?_ _ | refine gv_bcall ?_ (by assumption))⟩
theorem gv_spanHas_calls (a b c d : Int) (w : World) :
    Calls Try.prog 57 #[.agg #[.int .i64 a, .int .i64 b], .agg #[.int .i64 c, .int .i64 d]] w fun r w' => r = .returned (.bool (gv_spanHas a b c d)) ∧ Below w.heap.size w w' := by
  go_enter Try.func57, Try.ntmps57
  go_wp2
  all_goals go_ret
  all_goals exact ⟨gv_ret_bool (by unfold gv_spanHas; rw [Bool.eq_iff_iff]; simp; try omega), by repeat (first | exact Below.refl _ _ | refine balloc ?_ _ | refine gv_bcall ?_ (by assumption))⟩
section
attribute [local go_sem] gv_kle gv_klt
set_option maxRecDepth 100000 in
theorem gv_capRight_calls (a : Bool) (b c d e f : Int) (w : World) :
    Calls Try.prog 46 #[.agg #[.bool a, .int .i64 b, .int .i64 c, .int .i64 d, .int .i64 e, .int .i64 f]] w fun r w' => r = .returned (.bool (gv_capRight a b c d e f)) ∧ Below w.heap.size w w' := by
  go_enter Try.func46, Try.ntmps46
  go_wp2_with (first | (go_at_call 56; refine (gv_permRight_calls _ _).mono ?_; rintro e w' ⟨rfl, rfl⟩) | (go_at_call 54; refine (gv_capOf _ _ _ _ _ _ _).mono ?_; rintro e w1 ⟨rfl, hbw1⟩; obtain ⟨hcw1, hfw1⟩ := gv_bcell hbw1; have hzw1 := hbw1.size; (try simp at hzw1); have l_w_w1 : w.heap.size < w1.heap.size := (by omega); have m_w_w1 : w.heap.size ≤ w1.heap.size := (by omega)) | (go_at_call 55; refine (gv_spanRight_calls _ _ _).mono ?_; rintro e w2 ⟨rfl, hbw2⟩; obtain ⟨hcw2, hfw2⟩ := gv_bcell hbw2; have hzw2 := hbw2.size; (try simp at hzw2); have l_w_w2 : w.heap.size < w2.heap.size := (by omega); have m_w_w2 : w.heap.size ≤ w2.heap.size := (by omega); have l_w1_w2 : w1.heap.size < w2.heap.size := (by omega); have m_w1_w2 : w1.heap.size ≤ w2.heap.size := (by omega)) | (go_at_call 57; refine (gv_spanHas_calls _ _ _ _ _).mono ?_; rintro e w3 ⟨rfl, hbw3⟩; obtain ⟨hcw3, hfw3⟩ := gv_bcell hbw3; have hzw3 := hbw3.size; (try simp at hzw3); have l_w_w3 : w.heap.size < w3.heap.size := (by omega); have m_w_w3 : w.heap.size ≤ w3.heap.size := (by omega); have l_w1_w3 : w1.heap.size < w3.heap.size := (by omega); have m_w1_w3 : w1.heap.size ≤ w3.heap.size := (by omega); have l_w2_w3 : w2.heap.size < w3.heap.size := (by omega); have m_w2_w3 : w2.heap.size ≤ w3.heap.size := (by omega)))
  all_goals go_ret
  all_goals refine ⟨gv_ret_bool ?_, by repeat (first | exact Below.refl _ _ | refine balloc ?_ _ | refine gv_bcall ?_ (by assumption))⟩
  all_goals (unfold gv_capRight; simp [*]; try omega)
end

/-- What a right capability is: B1. -/
def RightP (x : CV) : Prop := 0 ≤ x.b ∧ x.b ≤ 4294967295 ∧ 0 ≤ x.c ∧ x.c ≤ 4294967295 ∧ 0 ≤ x.d ∧ x.d ≤ 4294967295 ∧ 0 ≤ x.e ∧ x.e ≤ 127 ∧ 0 ≤ x.f ∧ x.f ≤ 255 ∧ (x.t = true → x.b ≤ x.c ∧ x.c ≤ 16777216)
instance (x : CV) : Decidable (RightP x) := by unfold RightP; infer_instance
def CV.right (x : CV) : Bool := decide (RightP x)
theorem gvRight_eq (x : CV) (h : I64 x.e) : gv_capRight x.t x.b x.c x.d x.e x.f = x.right := by
  obtain ⟨a, b, c, d, e, f⟩ := x
  unfold gv_capRight gv_spanRight gv_permRight gv_spanHas CV.right RightP
  dsimp only at h ⊢
  rw [Bt.right_iff e h.1 h.2, Bool.eq_iff_iff]
  cases a <;> simp <;> omega
theorem capRight_calls (x : CV) (h : I64 x.e) (w : World) : Calls Try.prog 46 #[x.val] w fun r w' => r = .returned (.bool x.right) ∧ Below w.heap.size w w' := by
  have hh := gv_capRight_calls x.t x.b x.c x.d x.e x.f w
  rw [gvRight_eq x h] at hh
  exact hh
/-! ### the document's -/
def addrB (n : Int) : Bool := decide (0 ≤ n ∧ n ≤ 4294967295)
def permB (n : Int) : Bool := decide (0 ≤ n ∧ n ≤ 127)
theorem addr_calls (n : Int) (w : World) : Calls Try.prog 43 #[.int .i64 n] w fun r w' => r = .returned (.bool (addrB n)) ∧ w' = w := by
  go_enter Try.func43, Try.ntmps43
  go_wp2
  all_goals go_ret
  all_goals exact ⟨ret_bool (by unfold addrB; rw [Bool.eq_iff_iff]; simp; try omega), rfl⟩
theorem perm_calls (n : Int) (w : World) : Calls Try.prog 44 #[.int .i64 n] w fun r w' => r = .returned (.bool (permB n)) ∧ w' = w := by
  go_enter Try.func44, Try.ntmps44
  go_wp2
  all_goals go_ret
  all_goals exact ⟨ret_bool (by unfold permB; rw [Bool.eq_iff_iff]; simp; try omega), rfl⟩
set_option maxRecDepth 100000 in
theorem refRight_calls (x : CV) (w : World) : Calls Try.prog 26 #[x.val] w fun r w' => r = .returned (.bool x.right) ∧ Below w.heap.size w w' := by
  obtain ⟨a, b, c, d, e, f⟩ := x
  show Calls Try.prog 26 #[.agg #[.bool a, .int .i64 b, .int .i64 c, .int .i64 d, .int .i64 e, .int .i64 f]] w _
  generalize hr : CV.right ⟨a, b, c, d, e, f⟩ = r
  unfold CV.right RightP at hr
  dsimp only at hr
  have HR := Asd.mk hr
  clear hr
  cases a
  all_goals
    go_enter Try.func26, Try.ntmps26
    go_wp2_with (first | (go_at_call 43; with_reducible refine (addr_calls _ _).mono ?_; rintro e_ w1 ⟨rfl, rfl⟩) | (go_at_call 44; with_reducible refine (perm_calls _ _).mono ?_; rintro e_ w1 ⟨rfl, rfl⟩))
    all_goals go_ret
    all_goals refine ⟨ret_bool ?_, by repeat (first | exact Below.refl _ _ | refine balloc ?_ _)⟩
    all_goals (rw [← HR.out]; clear HR; simp_all [addrB, permB]; try omega)
end Go.Proofs.Ytijcniflghjoaaa.Rg
