/- The plain law of DeriveTwice: bounds that are set twice are the narrower ones; permissions that are taken away are not got again. -/
import Derived.Test.YtgkmacgckoifaaaDerFacts
import Derived.Test.YtgkmacgckoifaaaPDrx25
namespace Go.Proofs.Ytgkmacgckoifaaa.Pure
open Go.RowKit Go.Proofs.Ytgkmacgckoifaaa.PDr Go.Proofs.YtgkmacgckoifaaaW.PrintWords Go.Proofs.YtgkmacgckoifaaaW.PrintLast Go.Proofs.YtgkmacgckoifaaaW.PrintMore
set_option linter.unusedVariables false
set_option linter.unusedSimpArgs false

theorem and_nat (a b : Nat) (ha : a ≤ 4294967295) (hb : b ≤ 4294967295) : Go.bits .and .i64 (a : Int) (b : Int) = ((a &&& b : Nat) : Int) := by
  have h : Go.bits .and .i64 (a : Int) (b : Int) = IntKind.i64.wrap ((BitVec.ofInt 64 (a : Int) &&& BitVec.ofInt 64 (b : Int)).toNat : Int) := rfl
  have hx : (BitVec.ofInt 64 (a : Int) &&& BitVec.ofInt 64 (b : Int)).toNat = a &&& b := by
    rw [BitVec.toNat_and, Bt.ofInt_toNat, Bt.ofInt_toNat, show (((a : Int)) % 18446744073709551616).toNat = a by omega, show (((b : Int)) % 18446744073709551616).toNat = b by omega]
  have hl : a &&& b ≤ a := Nat.and_le_left
  rw [h, hx]
  generalize a &&& b = z at hl
  rw [IntKind.wrap_i64]
  omega
theorem masksN (e p q : Nat) (he : e ≤ 127) (hp : p ≤ 255) (hq : q ≤ 255) :
    Go.bits .and .i64 (Go.bits .and .i64 (e : Int) ((p % 128 : Nat) : Int)) ((q % 128 : Nat) : Int) = Go.bits .and .i64 (Go.bits .and .i64 (Go.bits .and .i64 (e : Int) (p : Int)) (q : Int)) ((127 : Nat) : Int) := by
  have l1 : ∀ x y : Nat, x ≤ 127 → x &&& y ≤ 127 := fun x y h => Nat.le_trans Nat.and_le_left h
  have m : ∀ x : Nat, x % 128 = x &&& 127 := fun x => (Nat.and_two_pow_sub_one_eq_mod x 7).symm
  have b1 := l1 e (p % 128) he
  have b2 := l1 e p he
  have b3 := l1 (e &&& p) q b2
  rw [and_nat e (p % 128) (by omega) (by omega), and_nat _ (q % 128) (Nat.le_trans b1 (by omega)) (by omega), and_nat e p (by omega) (by omega), and_nat _ q (Nat.le_trans b2 (by omega)) (by omega), and_nat _ 127 (Nat.le_trans b3 (by omega)) (by omega), m, m]
  congr 1
  rw [← Nat.and_assoc e p 127, Nat.and_assoc (e &&& p) 127, Nat.and_comm 127, Nat.and_assoc q 127 127, Nat.and_self, ← Nat.and_assoc]
theorem masks (e p q : Int) (he : 0 ≤ e ∧ e ≤ 127) (hp : 0 ≤ p ∧ p ≤ 255) (hq : 0 ≤ q ∧ q ≤ 255) :
    Go.bits .and .i64 (Go.bits .and .i64 e (p % 128)) (q % 128) = Go.bits .and .i64 (Go.bits .and .i64 (Go.bits .and .i64 e p) q) 127 := by
  obtain ⟨e, rfl⟩ := Int.eq_ofNat_of_zero_le he.1
  obtain ⟨p, rfl⟩ := Int.eq_ofNat_of_zero_le hp.1
  obtain ⟨q, rfl⟩ := Int.eq_ofNat_of_zero_le hq.1
  exact masksN e p q (by omega) (by omega) (by omega)
theorem and_bound {e n : Int} (h0 : 0 ≤ e) (h1 : e ≤ 127) (k0 : 0 ≤ n) (k1 : n ≤ 127) : 0 ≤ Go.bits .and .i64 e n ∧ Go.bits .and .i64 e n ≤ 127 := by
  obtain ⟨e, rfl⟩ := Int.eq_ofNat_of_zero_le h0
  obtain ⟨n, rfl⟩ := Int.eq_ofNat_of_zero_le k0
  rw [and_nat e n (by omega) (by omega)]
  have hl : e &&& n ≤ e := Nat.and_le_left
  generalize e &&& n = z at hl
  omega
theorem used_ok {a : Bool} {b c d e f : Int} (hr : rightB a b c d e f = true) (ha : a = true) (hf : f = 0) : usedE a b c d e f = 0 := by
  unfold usedE; rw [if_pos hr, if_pos ha, if_pos hf]
theorem used1 {a : Bool} {b c d e f : Int} : (usedE a b c d e f ≠ 0) ∨ (usedE a b c d e f = 0 ∧ rightB a b c d e f = true ∧ a = true ∧ f = 0) := by
  unfold usedE
  cases h1 : rightB a b c d e f <;> cases a <;> by_cases hf : f = 0 <;> simp [hf]
theorem right_iff {a : Bool} {b c d e f : Int} : rightB a b c d e f = true ↔ RightP a b c d e f := by unfold rightB; rw [decide_eq_true_eq]
theorem in_iff {b c d n : Int} : inB b c d n = true ↔ (0 ≤ d ∧ 0 ≤ n ∧ b ≤ d ∧ d ≤ c ∧ n ≤ c - d) := by unfold inB; rw [decide_eq_true_eq]
theorem bounds_ok {a : Bool} {b c d e f n : Int} (hr : rightB a b c d e f = true) (ha : a = true) (hf : f = 0) (hi : inB b c d n = true) : boundsR a b c d e f n = (a, d, d + n, d, e, f, 0) ∧ rightB a d (d + n) d e f = true := by
  unfold boundsR
  rw [if_pos (used_ok hr ha hf), if_pos hi]
  rw [right_iff] at hr; rw [in_iff] at hi
  obtain ⟨q1, q2, q3, q4, q5, q6, q7, q8, q9, q10, q11⟩ := hr
  have q12 := q11 ha
  have hw : wrap64 (d + n) = d + n := by unfold wrap64; omega
  rw [hw]
  refine ⟨rfl, ?_⟩
  rw [right_iff]; exact ⟨q5, q6, by omega, by omega, q5, q6, q7, q8, q9, q10, fun _ => ⟨by omega, by omega⟩⟩
theorem perms_ok {a : Bool} {b c d e f n : Int} (hr : rightB a b c d e f = true) (ha : a = true) (hf : f = 0) (hn : 0 ≤ n ∧ n ≤ 127) : permsR a b c d e f n = (a, b, c, d, Go.bits .and .i64 e n, f, 0) ∧ rightB a b c d (Go.bits .and .i64 e n) f = true := by
  unfold permsR
  rw [if_pos (used_ok hr ha hf), if_pos (decide_eq_true hn)]
  refine ⟨rfl, ?_⟩
  rw [right_iff] at *
  obtain ⟨q1, q2, q3, q4, q5, q6, q7, q8, q9, q10, q11⟩ := hr
  have hl := and_bound q7 q8 hn.1 hn.2
  exact ⟨q1, q2, q3, q4, q5, q6, hl.1, hl.2, q9, q10, q11⟩
set_option maxHeartbeats 4000000 in
theorem DeriveTwice (a0_0 : Bool) (a0_1 a0_2 a0_3 a0_4 a0_5 : Int) (a1 a2 a3 a4 : Int) (w0_1 : I64 a0_1) (w0_2 : I64 a0_2) (w0_3 : I64 a0_3) (w0_4 : I64 a0_4) (w0_5 : I64 a0_5) (w1 : 0 ≤ a1 ∧ a1 ≤ 65535) (w2 : 0 ≤ a2 ∧ a2 ≤ 65535) (w3 : 0 ≤ a3 ∧ a3 ≤ 255) (w4 : 0 ≤ a4 ∧ a4 ≤ 255) : ∃ k, seizinlaw04_DeriveTwice.f k a0_0 a0_1 a0_2 a0_3 a0_4 a0_5 a1 a2 a3 a4 = some true := by
  refine ⟨1, ?_⟩
  unfold seizinlaw04_DeriveTwice.f
  have e1 : wrap64 a1 = a1 := wrap_id ⟨by omega, by omega⟩
  have e2 : wrap64 a2 = a2 := wrap_id ⟨by omega, by omega⟩
  have e3 : wrap64 a3 = a3 := wrap_id ⟨by omega, by omega⟩
  have e4 : wrap64 a4 = a4 := wrap_id ⟨by omega, by omega⟩
  rw [head_eq, e1, e2, Bounds_eq _ _ _ _ _ _ _ w0_2 w0_4]
  simp only [Option.bind_some]
  rcases used1 (a := a0_0) (b := a0_1) (c := a0_2) (d := a0_3) (e := a0_4) (f := a0_5) with h | ⟨h, hr, ha, hf⟩
  · have : boundsR a0_0 a0_1 a0_2 a0_3 a0_4 a0_5 a1 = zz (usedE a0_0 a0_1 a0_2 a0_3 a0_4 a0_5) := by unfold boundsR; rw [if_neg h]
    rw [this]; unfold zz; rw [if_neg h]
  by_cases hi : inB a0_1 a0_2 a0_3 a1 = true
  · obtain ⟨hb, hr1⟩ := bounds_ok hr ha hf hi
    have hrp := right_iff.mp hr
    obtain ⟨q1, q2, q3, q4, q5, q6, q7, q8, q9, q10, q11⟩ := hrp
    have q12 := q11 ha
    have hi' := in_iff.mp hi
    rw [hb]
    simp only [if_true]
    rw [Bounds_eq _ _ _ _ _ _ _ ⟨by omega, by omega⟩ w0_4]
    simp only [Option.bind_some]
    have ew : wrap64 (a0_3 + a2) = a0_3 + a2 := wrap_id ⟨by omega, by omega⟩
    have ej : seizinlaw04_DeriveTwice.j0 1 a3 a4 true false a0_0 a0_1 a0_2 a0_3 a0_4 a0_5 a0_0 a0_3 (a0_3 + a1) a0_3 a0_4 a0_5 = some true := by
      rw [show (1 : Nat) = 0 + 1 from rfl]
      simp only [seizinlaw04_DeriveTwice.j0, Bool.false_eq_true, if_false]
      have u3 : wrap64 (Go.bits .and .u8 a3 127) = a3 % 128 := by rw [Bt.u8_and127 a3 w3.1 w3.2]; exact wrap_id ⟨by omega, by omega⟩
      have u4 : wrap64 (Go.bits .and .u8 a4 127) = a4 % 128 := by rw [Bt.u8_and127 a4 w4.1 w4.2]; exact wrap_id ⟨by omega, by omega⟩
      rw [u3, u4, e3, e4]
      clear u3 u4 e1 e2 e3 e4 ew
      rw [Perms_eq _ _ _ _ _ _ _ w0_4 ⟨by omega, by omega⟩]
      obtain ⟨hp, hr2⟩ := perms_ok (n := a3 % 128) hr1 ha hf ⟨by omega, by omega⟩
      rw [hp]
      have hr2p := right_iff.mp hr2
      unfold RightP at hr2p
      simp only [Option.bind_some]
      rw [Perms_eq _ _ _ _ _ _ _ ⟨by omega, by omega⟩ ⟨by omega, by omega⟩]
      obtain ⟨hp2, hr3⟩ := perms_ok (n := a4 % 128) hr2 ha hf ⟨by omega, by omega⟩
      rw [hp2]
      simp only [Option.bind_some, if_true]
      rw [if_pos (masks a0_4 a3 a4 ⟨q7, q8⟩ w3 w4)]
      simp
    by_cases hm : a2 ≤ a1
    · have hi2 : inB a0_3 (a0_3 + a1) a0_3 a2 = true := by rw [in_iff]; omega
      obtain ⟨hb2, _⟩ := bounds_ok hr1 ha hf hi2
      rw [hb2]
      simp only [if_true, decide_eq_true hm, beq_self_eq_true, bne_self_eq_false, Bool.false_eq_true, if_false, ew]
      exact ej
    · have hb2 : boundsR a0_0 a0_3 (a0_3 + a1) a0_3 a0_4 a0_5 a2 = zz 43 := by
        unfold boundsR; rw [if_pos (used_ok hr1 ha hf), if_neg (by rw [in_iff]; omega)]
      rw [hb2]
      unfold zz
      simp only [decide_eq_false hm]
      exact ej
  · have : boundsR a0_0 a0_1 a0_2 a0_3 a0_4 a0_5 a1 = zz 43 := by unfold boundsR; rw [if_pos h, if_neg hi]
    rw [this]; unfold zz; simp

end Go.Proofs.Ytgkmacgckoifaaa.Pure
