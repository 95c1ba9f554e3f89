/- The plain law of AccessKinds: loads, stores, fetches, and those of capabilities, are the document's. -/
import Derived.Test.YthhiljgngedaaaaAccFacts
import Derived.Test.YthhiljgngedaaaaPAccx5
import Derived.Test.YthhiljgngedaaaaPAccx6
namespace Go.Proofs.Ythhiljgngedaaaa.Pure
open Go.RowKit Go.Proofs.Ythhiljgngedaaaa.PAcc Go.Proofs.YthhiljgngedaaaaW.PrintWords Go.Proofs.YthhiljgngedaaaaW.PrintLast Go.Proofs.YthhiljgngedaaaaW.PrintMore
set_option linter.unusedVariables false
set_option linter.unusedSimpArgs false

theorem of1 (k : Nat) (hk : 8 ≤ k) : perm_Of.f k [1] = some 1 := at_rounds (perm_Of.mono [1]) hk (by decide +kernel)
theorem of2 (k : Nat) (hk : 8 ≤ k) : perm_Of.f k [2] = some 2 := at_rounds (perm_Of.mono [2]) hk (by decide +kernel)
theorem of4 (k : Nat) (hk : 8 ≤ k) : perm_Of.f k [4] = some 4 := at_rounds (perm_Of.mono [4]) hk (by decide +kernel)
theorem of9 (k : Nat) (hk : 8 ≤ k) : perm_Of.f k [1, 8] = some 9 := at_rounds (perm_Of.mono [1, 8]) hk (by decide +kernel)
theorem of18 (k : Nat) (hk : 8 ≤ k) : perm_Of.f k [2, 16] = some 18 := at_rounds (perm_Of.mono [2, 16]) hk (by decide +kernel)
def evn (p : Int × Int) (n : Int) : Int × Int := if p.2 = 0 then (if p.1.tmod n = 0 then p else (0, 51)) else p
theorem even_of (p : Int × Int) (n : Int) (h : p.2 ≠ 0 → p.1 = 0) : (if p.1.tmod n = 0 then some (p.1, p.2) else some (0, 51)) = some (evn p n) := by
  unfold evn
  by_cases h2 : p.2 = 0
  · rw [if_pos h2]; split <;> rfl
  · rw [if_neg h2, h h2, if_pos (by simp)]
    rw [← h h2]
theorem refEven_eq (p : Int × Int) (n : Int) (hn : n ≠ 0) : seizinref05_even.f p.1 p.2 n = some (evn p n) := by
  unfold seizinref05_even.f evn
  rw [if_neg hn]
  repeat' split
  all_goals rfl
theorem AccessKinds (a0_0 : Bool) (a0_1 a0_2 a0_3 a0_4 a0_5 : Int) (a1 a2 : Int) (w0_1 : I64 a0_1) (w0_2 : I64 a0_2) (w0_3 : I64 a0_3) (w0_4 : I64 a0_4) (w0_5 : I64 a0_5) (w1 : I64 a1) (w2 : I64 a2) : ∃ k, seizinlaw05_AccessKinds.f k a0_0 a0_1 a0_2 a0_3 a0_4 a0_5 a1 a2 = some true := by
  refine ⟨64, ?_⟩
  have i1 : I64 1 := ⟨by omega, by omega⟩
  have i2 : I64 2 := ⟨by omega, by omega⟩
  have i4 : I64 4 := ⟨by omega, by omega⟩
  have i9 : I64 9 := ⟨by omega, by omega⟩
  have i18 : I64 18 := ⟨by omega, by omega⟩
  have ck : ∀ (k : Nat), 1 ≤ k → ∀ (need : Int), I64 need → ∀ off n, access_Check.f k a0_0 a0_1 a0_2 a0_3 a0_4 a0_5 need off n = some (chk a0_0 a0_1 a0_2 a0_3 a0_4 a0_5 need off n) := fun k hk need hn off n => check_eq k hk _ _ _ _ _ _ _ _ _ w0_4 hn w0_2
  have rk : ∀ (k : Nat), 9 ≤ k → ∀ need off n, seizinref05_Check.f k a0_0 a0_1 a0_2 a0_3 a0_4 a0_5 need off n = some (chk a0_0 a0_1 a0_2 a0_3 a0_4 a0_5 need off n) := fun k hk need off n => refCheck_eq k hk _ _ _ _ _ _ _ _ _ w0_2
  have er : ∀ need off n, (chk a0_0 a0_1 a0_2 a0_3 a0_4 a0_5 need off n).2 ≠ 0 → (chk a0_0 a0_1 a0_2 a0_3 a0_4 a0_5 need off n).1 = 0 := fun _ _ _ h => chk_err h
  have n16 : (16 : Int) ≠ 0 := by decide
  have n4 : (4 : Int) ≠ 0 := by decide
  unfold seizinlaw05_AccessKinds.f access_Load.f access_check.f seizinref05_Load.f
  simp only [head64, of1 64 (by decide), ck 64 (by decide) 1 i1, rk 64 (by decide), Option.bind_some, if_true, bne_self_eq_false]
  unfold seizinlaw05_AccessKinds.j0 access_Store.f access_check.f seizinref05_Store.f access_Fetch.f access_even.f access_check.f seizinref05_Fetch.f
  simp only [of2 63 (by decide), of4 63 (by decide), ck 63 (by decide) 2 i2, ck 63 (by decide) 4 i4, rk 63 (by decide), Option.bind_some, if_true, if_neg n4, even_of _ _ (er _ _ _), refEven_eq _ _ n4, bne_self_eq_false, Bool.false_eq_true, if_false]
  unfold seizinlaw05_AccessKinds.j1 access_LoadCap.f access_StoreCap.f access_even.f access_check.f seizinref05_LoadCap.f seizinref05_StoreCap.f
  simp only [of9 62 (by decide), of18 62 (by decide), ck 62 (by decide) 9 i9, ck 62 (by decide) 18 i18, rk 62 (by decide), Option.bind_some, if_true, if_neg n16, even_of _ _ (er _ _ _), refEven_eq _ _ n16, Bool.false_eq_true, if_false]
  simp

end Go.Proofs.Ythhiljgngedaaaa.Pure
