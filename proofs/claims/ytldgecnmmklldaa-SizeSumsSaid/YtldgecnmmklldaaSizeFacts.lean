/- Plain facts: what the printed functions of the layer of sizes compute, for every number. -/
import Derived.Test.YtldgecnmmklldaaPSzx
namespace Go.Proofs.Ytldgecnmmklldaa.PSz
open Go.RowKit Go.Proofs.YtldgecnmmklldaaW.PrintWords Go.Proofs.YtldgecnmmklldaaW.PrintLast Go.Proofs.YtldgecnmmklldaaW.PrintMore
set_option linter.unusedVariables false

theorem wrapId {n : Int} (h0 : -9223372036854775808 ≤ n) (h1 : n ≤ 9223372036854775807) : wrap64 n = n := by unfold wrap64; omega
/-- What a request takes, and its class. -/
def rnd (n : Int) : Int := if n ≤ 16 then 16 else if n ≤ 32 then 32 else if n ≤ 48 then 48 else if n ≤ 64 then 64 else if n ≤ 80 then 80 else if n ≤ 96 then 96 else if n ≤ 112 then 112 else if n ≤ 128 then 128 else if n ≤ 192 then 192 else if n ≤ 256 then 256 else if n ≤ 384 then 384 else if n ≤ 512 then 512 else if n ≤ 768 then 768 else if n ≤ 1024 then 1024 else (n + 255) / 256 * 256
def cls (n : Int) : Int := if n ≤ 16 then 0 else if n ≤ 32 then 1 else if n ≤ 48 then 2 else if n ≤ 64 then 3 else if n ≤ 80 then 4 else if n ≤ 96 then 5 else if n ≤ 112 then 6 else if n ≤ 128 then 7 else if n ≤ 192 then 8 else if n ≤ 256 then 9 else if n ≤ 384 then 10 else if n ≤ 512 then 11 else if n ≤ 768 then 12 else if n ≤ 1024 then 13 else 14
/-- A number lies in one of fifteen places. -/
theorem reg (n : Int) : (n ≤ 16 ∧ cls n = 0 ∧ rnd n = 16) ∨ (16 < n ∧ n ≤ 32 ∧ cls n = 1 ∧ rnd n = 32) ∨ (32 < n ∧ n ≤ 48 ∧ cls n = 2 ∧ rnd n = 48) ∨ (48 < n ∧ n ≤ 64 ∧ cls n = 3 ∧ rnd n = 64) ∨ (64 < n ∧ n ≤ 80 ∧ cls n = 4 ∧ rnd n = 80) ∨ (80 < n ∧ n ≤ 96 ∧ cls n = 5 ∧ rnd n = 96) ∨ (96 < n ∧ n ≤ 112 ∧ cls n = 6 ∧ rnd n = 112) ∨ (112 < n ∧ n ≤ 128 ∧ cls n = 7 ∧ rnd n = 128) ∨ (128 < n ∧ n ≤ 192 ∧ cls n = 8 ∧ rnd n = 192) ∨ (192 < n ∧ n ≤ 256 ∧ cls n = 9 ∧ rnd n = 256) ∨ (256 < n ∧ n ≤ 384 ∧ cls n = 10 ∧ rnd n = 384) ∨ (384 < n ∧ n ≤ 512 ∧ cls n = 11 ∧ rnd n = 512) ∨ (512 < n ∧ n ≤ 768 ∧ cls n = 12 ∧ rnd n = 768) ∨ (768 < n ∧ n ≤ 1024 ∧ cls n = 13 ∧ rnd n = 1024) ∨ (1024 < n ∧ cls n = 14 ∧ rnd n = (n + 255) / 256 * 256) := by
  by_cases h1 : n ≤ 16
  · exact .inl ⟨h1, by unfold cls; rw [if_pos h1], by unfold rnd; rw [if_pos h1]⟩
  by_cases h2 : n ≤ 32
  · exact .inr (.inl ⟨by omega, h2, by unfold cls; rw [if_neg h1, if_pos h2], by unfold rnd; rw [if_neg h1, if_pos h2]⟩)
  by_cases h3 : n ≤ 48
  · exact .inr (.inr (.inl ⟨by omega, h3, by unfold cls; rw [if_neg h1, if_neg h2, if_pos h3], by unfold rnd; rw [if_neg h1, if_neg h2, if_pos h3]⟩))
  by_cases h4 : n ≤ 64
  · exact .inr (.inr (.inr (.inl ⟨by omega, h4, by unfold cls; rw [if_neg h1, if_neg h2, if_neg h3, if_pos h4], by unfold rnd; rw [if_neg h1, if_neg h2, if_neg h3, if_pos h4]⟩)))
  by_cases h5 : n ≤ 80
  · exact .inr (.inr (.inr (.inr (.inl ⟨by omega, h5, by unfold cls; rw [if_neg h1, if_neg h2, if_neg h3, if_neg h4, if_pos h5], by unfold rnd; rw [if_neg h1, if_neg h2, if_neg h3, if_neg h4, if_pos h5]⟩))))
  by_cases h6 : n ≤ 96
  · exact .inr (.inr (.inr (.inr (.inr (.inl ⟨by omega, h6, by unfold cls; rw [if_neg h1, if_neg h2, if_neg h3, if_neg h4, if_neg h5, if_pos h6], by unfold rnd; rw [if_neg h1, if_neg h2, if_neg h3, if_neg h4, if_neg h5, if_pos h6]⟩)))))
  by_cases h7 : n ≤ 112
  · exact .inr (.inr (.inr (.inr (.inr (.inr (.inl ⟨by omega, h7, by unfold cls; rw [if_neg h1, if_neg h2, if_neg h3, if_neg h4, if_neg h5, if_neg h6, if_pos h7], by unfold rnd; rw [if_neg h1, if_neg h2, if_neg h3, if_neg h4, if_neg h5, if_neg h6, if_pos h7]⟩))))))
  by_cases h8 : n ≤ 128
  · exact .inr (.inr (.inr (.inr (.inr (.inr (.inr (.inl ⟨by omega, h8, by unfold cls; rw [if_neg h1, if_neg h2, if_neg h3, if_neg h4, if_neg h5, if_neg h6, if_neg h7, if_pos h8], by unfold rnd; rw [if_neg h1, if_neg h2, if_neg h3, if_neg h4, if_neg h5, if_neg h6, if_neg h7, if_pos h8]⟩)))))))
  by_cases h9 : n ≤ 192
  · exact .inr (.inr (.inr (.inr (.inr (.inr (.inr (.inr (.inl ⟨by omega, h9, by unfold cls; rw [if_neg h1, if_neg h2, if_neg h3, if_neg h4, if_neg h5, if_neg h6, if_neg h7, if_neg h8, if_pos h9], by unfold rnd; rw [if_neg h1, if_neg h2, if_neg h3, if_neg h4, if_neg h5, if_neg h6, if_neg h7, if_neg h8, if_pos h9]⟩))))))))
  by_cases h10 : n ≤ 256
  · exact .inr (.inr (.inr (.inr (.inr (.inr (.inr (.inr (.inr (.inl ⟨by omega, h10, by unfold cls; rw [if_neg h1, if_neg h2, if_neg h3, if_neg h4, if_neg h5, if_neg h6, if_neg h7, if_neg h8, if_neg h9, if_pos h10], by unfold rnd; rw [if_neg h1, if_neg h2, if_neg h3, if_neg h4, if_neg h5, if_neg h6, if_neg h7, if_neg h8, if_neg h9, if_pos h10]⟩)))))))))
  by_cases h11 : n ≤ 384
  · exact .inr (.inr (.inr (.inr (.inr (.inr (.inr (.inr (.inr (.inr (.inl ⟨by omega, h11, by unfold cls; rw [if_neg h1, if_neg h2, if_neg h3, if_neg h4, if_neg h5, if_neg h6, if_neg h7, if_neg h8, if_neg h9, if_neg h10, if_pos h11], by unfold rnd; rw [if_neg h1, if_neg h2, if_neg h3, if_neg h4, if_neg h5, if_neg h6, if_neg h7, if_neg h8, if_neg h9, if_neg h10, if_pos h11]⟩))))))))))
  by_cases h12 : n ≤ 512
  · exact .inr (.inr (.inr (.inr (.inr (.inr (.inr (.inr (.inr (.inr (.inr (.inl ⟨by omega, h12, by unfold cls; rw [if_neg h1, if_neg h2, if_neg h3, if_neg h4, if_neg h5, if_neg h6, if_neg h7, if_neg h8, if_neg h9, if_neg h10, if_neg h11, if_pos h12], by unfold rnd; rw [if_neg h1, if_neg h2, if_neg h3, if_neg h4, if_neg h5, if_neg h6, if_neg h7, if_neg h8, if_neg h9, if_neg h10, if_neg h11, if_pos h12]⟩)))))))))))
  by_cases h13 : n ≤ 768
  · exact .inr (.inr (.inr (.inr (.inr (.inr (.inr (.inr (.inr (.inr (.inr (.inr (.inl ⟨by omega, h13, by unfold cls; rw [if_neg h1, if_neg h2, if_neg h3, if_neg h4, if_neg h5, if_neg h6, if_neg h7, if_neg h8, if_neg h9, if_neg h10, if_neg h11, if_neg h12, if_pos h13], by unfold rnd; rw [if_neg h1, if_neg h2, if_neg h3, if_neg h4, if_neg h5, if_neg h6, if_neg h7, if_neg h8, if_neg h9, if_neg h10, if_neg h11, if_neg h12, if_pos h13]⟩))))))))))))
  by_cases h14 : n ≤ 1024
  · exact .inr (.inr (.inr (.inr (.inr (.inr (.inr (.inr (.inr (.inr (.inr (.inr (.inr (.inl ⟨by omega, h14, by unfold cls; rw [if_neg h1, if_neg h2, if_neg h3, if_neg h4, if_neg h5, if_neg h6, if_neg h7, if_neg h8, if_neg h9, if_neg h10, if_neg h11, if_neg h12, if_neg h13, if_pos h14], by unfold rnd; rw [if_neg h1, if_neg h2, if_neg h3, if_neg h4, if_neg h5, if_neg h6, if_neg h7, if_neg h8, if_neg h9, if_neg h10, if_neg h11, if_neg h12, if_neg h13, if_pos h14]⟩)))))))))))))
  exact .inr (.inr (.inr (.inr (.inr (.inr (.inr (.inr (.inr (.inr (.inr (.inr (.inr (.inr (⟨by omega, by unfold cls; rw [if_neg h1, if_neg h2, if_neg h3, if_neg h4, if_neg h5, if_neg h6, if_neg h7, if_neg h8, if_neg h9, if_neg h10, if_neg h11, if_neg h12, if_neg h13, if_neg h14], by unfold rnd; rw [if_neg h1, if_neg h2, if_neg h3, if_neg h4, if_neg h5, if_neg h6, if_neg h7, if_neg h8, if_neg h9, if_neg h10, if_neg h11, if_neg h12, if_neg h13, if_neg h14]⟩))))))))))))))
theorem small {p : Int → Prop} (h : ∀ n : Fin 1025, p (n.val : Int)) (a : Int) (h0 : 0 ≤ a) (h1 : a ≤ 1024) : p a := by
  have := h ⟨a.toNat, by omega⟩
  simpa [Int.toNat_of_nonneg h0] using this

theorem less_eq (a b : Int) : cmp_Less_int.f a b = some (decide (a < b)) := by
  unfold cmp_Less_int.f cmp_isNaN_int.f; simp
theorem bs_step (a : Int) (k : Nat) (i j m v m1 : Int) (hm : wrap64 ((IntKind.u64.wrap (wrap64 (i + j))) / 2) = m) (hv : rd szL m = v) (hm1 : wrap64 (m + 1) = m1) (hij : i < j) (h0 : 0 ≤ m) (h1 : m < (szL.length : Int)) (hlt : v < a) :
    slices_BinarySearch_int_int.l0 (k + 1) szL a (szL.length : Int) i j = slices_BinarySearch_int_int.l0 k szL a (szL.length : Int) m1 j := by
  conv => lhs; unfold slices_BinarySearch_int_int.l0
  rw [if_pos hij, hm, if_pos h0, if_pos h1, less_eq, Option.bind_some, hv, if_pos (by simpa using hlt), hm1]
theorem bs_big (a : Int) (h : 1024 < a) : (slices_BinarySearch_int_int.f 20 szL a).bind (fun b => some b.1) = some 14 := by
  unfold slices_BinarySearch_int_int.f
  rw [bs_step a 19 0 (szL.length : Int) 7 128 8 (by decide +kernel) (by decide +kernel) (by decide +kernel) (by decide) (by decide) (by decide) (by omega)]
  rw [bs_step a 18 8 (szL.length : Int) 11 512 12 (by decide +kernel) (by decide +kernel) (by decide +kernel) (by decide) (by decide) (by decide) (by omega)]
  rw [bs_step a 17 12 (szL.length : Int) 13 1024 14 (by decide +kernel) (by decide +kernel) (by decide +kernel) (by decide) (by decide) (by decide) (by omega)]
  rfl
theorem class_eq (a : Int) (h0 : 0 ≤ a) (h1 : a ≤ 65536) : size_Class.f a = some (cls a) := by
  by_cases h : a ≤ 1024
  · exact small (p := fun a => size_Class.f a = some (cls a)) (by decide +kernel) a h0 h
  · unfold size_Class.f
    rw [if_neg (by omega), if_neg (by omega), bs_big a (by omega)]
    have := reg a
    congr 1; omega
theorem class_out (a : Int) (h : a < 0 ∨ 65536 < a) : size_Class.f a = some (-1) := by
  unfold size_Class.f
  by_cases h0 : a < 0
  · rw [if_pos h0]
  · rw [if_neg h0, if_pos (by omega)]
theorem round_eq (a : Int) (h0 : 0 ≤ a) (h1 : a ≤ 65536) : size_Round.f a = some (rnd a, true) := by
  by_cases h : a ≤ 1024
  · exact small (p := fun a => size_Round.f a = some (rnd a, true)) (by decide +kernel) a h0 h
  · unfold size_Round.f
    rw [if_neg (by omega), if_neg (by omega), class_eq a h0 h1, Option.bind_some]
    have := reg a
    rw [if_neg (by omega)]
    have e : (a + 256 - 1) / 256 * 256 = rnd a := by omega
    rw [e]
theorem round_out (a : Int) (h : a < 0 ∨ 65536 < a) : size_Round.f a = some (0, false) := by
  unfold size_Round.f
  by_cases h0 : a < 0
  · rw [if_pos h0]
  · rw [if_neg h0, if_pos (by omega)]
theorem wf_u16 {a : Int} (h : (Lit.int .u16 a).wf = true) : 0 ≤ a ∧ a ≤ 65535 := by
  have hmin : IntKind.u16.min = 0 := rfl
  have hmax : IntKind.u16.max = 65535 := rfl
  simp only [Lit.wf, Bool.and_eq_true, decide_eq_true_eq] at h
  exact ⟨by omega, by omega⟩
theorem wf_u8 {a : Int} (h : (Lit.int .u8 a).wf = true) : 0 ≤ a ∧ a ≤ 255 := by
  have hmin : IntKind.u8.min = 0 := rfl
  have hmax : IntKind.u8.max = 255 := rfl
  simp only [Lit.wf, Bool.and_eq_true, decide_eq_true_eq] at h
  exact ⟨by omega, by omega⟩
theorem head_eq : seizinlaw11_head.f = some true := by decide +kernel
theorem rnd_le (n : Int) (h : 0 ≤ n) : n ≤ rnd n ∧ rnd n ≤ n + 255 ∧ 16 ≤ rnd n := by have := reg n; omega
end Go.Proofs.Ytldgecnmmklldaa.PSz
