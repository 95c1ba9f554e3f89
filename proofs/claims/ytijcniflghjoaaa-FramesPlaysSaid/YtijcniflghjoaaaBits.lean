/- Plain facts about Go's bit operations on int, as numbers: masks, permissions as sets. -/
import Derived.Laws.BitsLemmas
import GoSem.Claim
import Derived.Laws.BitsAllLaws
namespace Go.Proofs.Ytijcniflghjoaaa.Bt
open Go

theorem i64 {n : Int} (h : (Lit.int .i64 n).wf = true) : -9223372036854775808 ≤ n ∧ n ≤ 9223372036854775807 := by
  have hmin : IntKind.i64.min = -9223372036854775808 := rfl
  have hmax : IntKind.i64.max = 9223372036854775807 := rfl
  simp only [Lit.wf, Bool.and_eq_true, decide_eq_true_eq] at h
  exact ⟨by omega, by omega⟩
theorem u8 {n : Int} (h : (Lit.int .u8 n).wf = true) : 0 ≤ n ∧ n ≤ 255 := by
  have hmin : IntKind.u8.min = 0 := rfl
  have hmax : IntKind.u8.max = 255 := rfl
  simp only [Lit.wf, Bool.and_eq_true, decide_eq_true_eq] at h
  exact ⟨by omega, by omega⟩
theorem u16 {n : Int} (h : (Lit.int .u16 n).wf = true) : 0 ≤ n ∧ n ≤ 65535 := by
  have hmin : IntKind.u16.min = 0 := rfl
  have hmax : IntKind.u16.max = 65535 := rfl
  simp only [Lit.wf, Bool.and_eq_true, decide_eq_true_eq] at h
  exact ⟨by omega, by omega⟩
theorem u32 {n : Int} (h : (Lit.int .u32 n).wf = true) : 0 ≤ n ∧ n ≤ 4294967295 := by
  have hmin : IntKind.u32.min = 0 := rfl
  have hmax : IntKind.u32.max = 4294967295 := rfl
  simp only [Lit.wf, Bool.and_eq_true, decide_eq_true_eq] at h
  exact ⟨by omega, by omega⟩
theorem i16 {n : Int} (h : (Lit.int .i16 n).wf = true) : -32768 ≤ n ∧ n ≤ 32767 := by
  have hmin : IntKind.i16.min = -32768 := rfl
  have hmax : IntKind.i16.max = 32767 := rfl
  simp only [Lit.wf, Bool.and_eq_true, decide_eq_true_eq] at h
  exact ⟨by omega, by omega⟩

theorem ofInt_toNat (n : Int) : (BitVec.ofInt 64 n).toNat = (n % 18446744073709551616).toNat := by
  simp [BitVec.toNat_ofInt]

theorem and32 (n : Int) : Go.bits .and .i64 n 4294967295 = n % 4294967296 := by
  show IntKind.i64.wrap ((BitVec.ofInt 64 n &&& BitVec.ofInt 64 4294967295).toNat : Int) = _
  rw [BitVec.toNat_and, ofInt_toNat, show (BitVec.ofInt 64 4294967295).toNat = 2 ^ 32 - 1 from by decide, Nat.and_two_pow_sub_one_eq_mod, IntKind.wrap_i64]
  omega

theorem bits_zero (r : BitVec 64) : (IntKind.i64.wrap (r.toNat : Int) == 0) = decide (r = 0#64) := by
  rw [Bool.eq_iff_iff, beq_iff_eq, decide_eq_true_eq, IntKind.wrap_i64]
  have hr := r.isLt
  constructor
  · intro h
    apply BitVec.eq_of_toNat_eq
    simp
    omega
  · rintro rfl
    decide

theorem andNot_zero (q p : Int) : (Go.bits .andNot .i64 q p == 0) = decide (BitVec.ofInt 64 q &&& ~~~ BitVec.ofInt 64 p = 0#64) := bits_zero _

theorem sub_iff (x y : BitVec 64) : x &&& ~~~y = 0#64 ↔ ∀ i, i < 64 → x.getLsbD i = true → y.getLsbD i = true := by
  constructor
  · intro h i hi hx
    have := congrArg (fun z => z.getLsbD i) h
    simp [hx, hi] at this
    exact this
  · intro h
    apply BitVec.eq_of_getLsbD_eq
    intro i hi
    have := h i hi
    simp [hi]
    intro hx
    exact this hx

theorem mask7 (x : BitVec 64) : x &&& ~~~ 127#64 = 0#64 ↔ x.toNat < 128 := by
  rw [sub_iff]
  constructor
  · intro h
    apply Classical.byContradiction
    intro hge
    have hge : 128 ≤ x.toNat := by omega
    obtain ⟨i, hi, hb⟩ := Nat.exists_ge_and_testBit_of_ge_two_pow (n := 7) hge
    have hi64 : i < 64 := by
      apply Classical.byContradiction
      intro h64
      have := Nat.testBit_lt_two_pow (x := x.toNat) (i := i) (Nat.lt_of_lt_of_le x.isLt (Nat.pow_le_pow_right (by decide) (by omega)))
      rw [this] at hb
      cases hb
    have := h i hi64 (by simpa [BitVec.getLsbD] using hb)
    have h2 : (127#64).getLsbD i = false := by
      have : (127 : Nat).testBit i = false := Nat.testBit_lt_two_pow (Nat.lt_of_lt_of_le (by decide : 127 < 2 ^ 7) (Nat.pow_le_pow_right (by decide) hi))
      simpa [BitVec.getLsbD] using this
    rw [h2] at this
    cases this
  · intro h i hi hx
    have hi7 : i < 7 := by
      apply Classical.byContradiction
      intro h7
      have := Nat.testBit_lt_two_pow (x := x.toNat) (i := i) (Nat.lt_of_lt_of_le h (Nat.pow_le_pow_right (by decide : 0 < 2) (by omega : 7 ≤ i)))
      simp [BitVec.getLsbD] at hx
      rw [this] at hx
      cases hx
    have h8 : ∀ j : Fin 7, (127#64).getLsbD j.val = true := by decide
    exact h8 ⟨i, hi7⟩

/-- A permission set is right just if it lies between 0 and 127. -/
theorem right_iff (p : Int) (h0 : -9223372036854775808 ≤ p) (h1 : p ≤ 9223372036854775807) : (Go.bits .andNot .i64 p 127 == 0) = decide (0 ≤ p ∧ p ≤ 127) := by
  rw [andNot_zero, Bool.eq_iff_iff, decide_eq_true_eq, decide_eq_true_eq, show BitVec.ofInt 64 127 = 127#64 from by decide, mask7, ofInt_toNat]
  omega

theorem sub_refl (p : Int) : (Go.bits .andNot .i64 p p == 0) = true := by
  rw [andNot_zero, decide_eq_true_eq, sub_iff]
  exact fun _ _ h => h

theorem sub_trans (p q r : Int) (h : (Go.bits .andNot .i64 p q == 0) = true) (k : (Go.bits .andNot .i64 q r == 0) = true) : (Go.bits .andNot .i64 p r == 0) = true := by
  rw [andNot_zero, decide_eq_true_eq, sub_iff] at *
  exact fun i hi hp => k i hi (h i hi hp)

theorem sub_anti (p q : Int) (hp0 : 0 ≤ p) (hp1 : p ≤ 127) (hq0 : 0 ≤ q) (hq1 : q ≤ 127) (h : (Go.bits .andNot .i64 p q == 0) = true) (k : (Go.bits .andNot .i64 q p == 0) = true) : p = q := by
  rw [andNot_zero, decide_eq_true_eq, sub_iff] at *
  have e : BitVec.ofInt 64 p = BitVec.ofInt 64 q := by
    apply BitVec.eq_of_getLsbD_eq
    intro i hi
    have a := h i hi
    have b := k i hi
    cases hx : (BitVec.ofInt 64 p).getLsbD i <;> cases hy : (BitVec.ofInt 64 q).getLsbD i <;> simp_all
  have := congrArg BitVec.toNat e
  rw [ofInt_toNat, ofInt_toNat] at this
  omega

theorem sub_all (p : Int) (hp0 : 0 ≤ p) (hp1 : p ≤ 127) : (Go.bits .andNot .i64 p 127 == 0) = true := by
  rw [right_iff p (by omega) (by omega)]
  simp; omega

theorem or_lt (a b : Int) (ha0 : 0 ≤ a) (ha : a ≤ 127) (hb0 : 0 ≤ b) (hb : b ≤ 127) : 0 ≤ Go.bits .or .i64 a b ∧ Go.bits .or .i64 a b ≤ 127 := by
  have h : Go.bits .or .i64 a b = IntKind.i64.wrap ((BitVec.ofInt 64 a ||| BitVec.ofInt 64 b).toNat : Int) := rfl
  have hx : (BitVec.ofInt 64 a ||| BitVec.ofInt 64 b).toNat < 2 ^ 7 := by
    rw [BitVec.toNat_or, ofInt_toNat, ofInt_toNat]
    exact Nat.or_lt_two_pow (by omega) (by omega)
  rw [h, IntKind.wrap_i64]
  omega
theorem ofInt_or (a b : Int) : BitVec.ofInt 64 (Go.bits .or .i64 a b) = BitVec.ofInt 64 a ||| BitVec.ofInt 64 b := by
  have h : Go.bits .or .i64 a b = IntKind.i64.wrap ((BitVec.ofInt 64 a ||| BitVec.ofInt 64 b).toNat : Int) := rfl
  apply BitVec.eq_of_toNat_eq
  rw [h, ofInt_toNat, IntKind.wrap_i64]
  have := (BitVec.ofInt 64 a ||| BitVec.ofInt 64 b).isLt
  omega
theorem sub_or (a b e : Int) : (Go.bits .andNot .i64 (Go.bits .or .i64 a b) e == 0) = ((Go.bits .andNot .i64 a e == 0) && (Go.bits .andNot .i64 b e == 0)) := by
  rw [andNot_zero, andNot_zero, andNot_zero, ofInt_or, Bool.eq_iff_iff, Bool.and_eq_true, decide_eq_true_eq, decide_eq_true_eq, decide_eq_true_eq, sub_iff, sub_iff, sub_iff]
  constructor
  · intro h
    exact ⟨fun i hi hx => h i hi (by rw [BitVec.getLsbD_or, hx, Bool.true_or]), fun i hi hx => h i hi (by rw [BitVec.getLsbD_or, hx, Bool.or_true])⟩
  · rintro ⟨h, k⟩ i hi hx
    rw [BitVec.getLsbD_or, Bool.or_eq_true] at hx
    rcases hx with hx | hx
    · exact h i hi hx
    · exact k i hi hx
theorem sub_zero (e : Int) : (Go.bits .andNot .i64 0 e == 0) = true := by
  rw [andNot_zero, decide_eq_true_eq, sub_iff]
  intro i hi hx
  simp at hx
theorem u8_and127 (p : Int) (h0 : 0 ≤ p) (h1 : p ≤ 255) : Go.bits .and .u8 p 127 = p % 128 :=
  bits_mask .u8 8 (by decide) wraps_u8 7 (by decide) p h0 (by omega)

end Go.Proofs.Ytijcniflghjoaaa.Bt
