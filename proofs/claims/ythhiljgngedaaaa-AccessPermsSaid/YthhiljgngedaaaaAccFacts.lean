/- Plain facts: what the printed functions of layer 5 (the program's and the document's) compute, in one form for both. -/
import Derived.Test.YthhiljgngedaaaaBits
import Derived.Test.YthhiljgngedaaaaPAccx2
import Derived.Test.YthhiljgngedaaaaPAccx3
import Derived.Test.YthhiljgngedaaaaPAccx4
namespace Go.Proofs.Ythhiljgngedaaaa.PAcc
open Go.RowKit Go.Proofs.YthhiljgngedaaaaW.PrintWords Go.Proofs.YthhiljgngedaaaaW.PrintLast Go.Proofs.YthhiljgngedaaaaW.PrintMore
set_option linter.unusedVariables false
set_option linter.unusedSimpArgs false

/-- An int that is one. -/
def I64 (n : Int) : Prop := -9223372036854775808 ≤ n ∧ n ≤ 9223372036854775807
theorem I64.of_wf {n : Int} (h : (Lit.int .i64 n).wf = true) : I64 n := by
  have hmin : IntKind.i64.min = -9223372036854775808 := rfl
  have hmax : IntKind.i64.max = 9223372036854775807 := rfl
  simp only [Lit.wf, Bool.and_eq_true, decide_eq_true_eq] at h
  exact ⟨by omega, by omega⟩
theorem wrap_id {n : Int} (h : I64 n) : wrap64 n = n := by obtain ⟨a, b⟩ := h; unfold wrap64; omega
/-- What a right capability is: B1. -/
def RightP (a : Bool) (b c d e f : Int) : Prop := 0 ≤ b ∧ b ≤ 4294967295 ∧ 0 ≤ c ∧ c ≤ 4294967295 ∧ 0 ≤ d ∧ d ≤ 4294967295 ∧ 0 ≤ e ∧ e ≤ 127 ∧ 0 ≤ f ∧ f ≤ 255 ∧ (a = true → b ≤ c ∧ c ≤ 16777216)
instance (a : Bool) (b c d e f : Int) : Decidable (RightP a b c d e f) := by unfold RightP; infer_instance
def rightB (a : Bool) (b c d e f : Int) : Bool := decide (RightP a b c d e f)
/-- Permissions as sets. -/
def hasB (p q : Int) : Bool := decide (0 ≤ p ∧ p ≤ 127) && (decide (0 ≤ q ∧ q ≤ 127) && (Go.bits .andNot .i64 q p == 0))
theorem permRight_eq (p : Int) (h : I64 p) : perm_Right.f p = some (decide (0 ≤ p ∧ p ≤ 127)) := by
  unfold perm_Right.f; rw [Bt.right_iff p h.1 h.2]
theorem refPRight_eq (p : Int) : seizinref01_Right.f p = some (decide (0 ≤ p ∧ p ≤ 127)) := by
  unfold seizinref01_Right.f
  split <;> (rw [Option.some.injEq, Bool.eq_iff_iff]; simp; try omega)
theorem refAddr_eq (p : Int) : seizinref02_addr.f p = some (decide (0 ≤ p ∧ p ≤ 4294967295)) := by
  unfold seizinref02_addr.f
  split <;> (rw [Option.some.injEq, Bool.eq_iff_iff]; simp; try omega)
theorem capRight_eq (a : Bool) (b c d e f : Int) (h : I64 e) : cap_Right.f a b c d e f = some (rightB a b c d e f) := by
  unfold cap_Right.f gv_capRight gv_spanRight gv_permRight gv_spanHas rightB RightP
  rw [Bt.right_iff e h.1 h.2, Option.some.injEq, Bool.eq_iff_iff]
  cases a <;> simp <;> omega
theorem refRight_eq (a : Bool) (b c d e f : Int) : seizinref02_Right.f a b c d e f = some (rightB a b c d e f) := by
  unfold seizinref02_Right.f
  simp only [refAddr_eq, refPRight_eq, Option.bind_some, decide_eq_true_eq]
  unfold rightB RightP
  cases a
  all_goals simp only [Bool.false_eq_true, if_false, if_true, false_implies, true_implies, and_true]
  all_goals repeat' split
  all_goals (rw [Option.some.injEq, Bool.eq_iff_iff]; simp only [decide_eq_true_eq, Bool.false_eq_true, true_iff, false_iff]; omega)
theorem permHas_eq (p q : Int) (hp : I64 p) (hq : I64 q) : perm_Has.f p q = some (hasB p q) := by
  unfold perm_Has.f hasB
  simp only [permRight_eq p hp, permRight_eq q hq, Option.bind_some]
  generalize decide (0 ≤ p ∧ p ≤ 127) = x
  generalize decide (0 ≤ q ∧ q ≤ 127) = y
  cases x <;> cases y <;> simp
theorem bit_some (p i : Int) (hi : 0 ≤ i) : ∃ b, seizinref01_bit.f p i = some b := by
  unfold seizinref01_bit.f; rw [if_pos hi]; exact ⟨_, rfl⟩
theorem hasEnd (p q : Int) : ((seizinref01_Right.f p).bind fun t226 => (if t226 = true then ((seizinref01_Right.f q).bind fun t227 => (some t227)) else (some false))) = some (decide (0 ≤ p ∧ p ≤ 127) && decide (0 ≤ q ∧ q ≤ 127)) := by
  simp only [refPRight_eq, Option.bind_some]
  generalize decide (0 ≤ p ∧ p ≤ 127) = x
  generalize decide (0 ≤ q ∧ q ≤ 127) = y
  cases x <;> cases y <;> simp
/-- Where one of both is no set of permissions the document's answer is no. -/
theorem refHas_not (p q : Int) (hn : (decide (0 ≤ p ∧ p ≤ 127) && decide (0 ≤ q ∧ q ≤ 127)) = false) (d : Nat) : ∀ (k : Nat) (i : Int), 0 ≤ i → i ≤ 7 → 7 - i = d → d < k → seizinref01_Has.l0 k p q i = some false := by
  induction d with
  | zero =>
    intro k i h0 h1 hd hk
    obtain ⟨k, rfl⟩ : ∃ m, k = m + 1 := ⟨k - 1, by omega⟩
    simp only [seizinref01_Has.l0]; rw [if_neg (by omega), hasEnd, hn]
  | succ d ih =>
    intro k i h0 h1 hd hk
    obtain ⟨k, rfl⟩ : ∃ m, k = m + 1 := ⟨k - 1, by omega⟩
    obtain ⟨x, hx⟩ := bit_some q i h0
    obtain ⟨y, hy⟩ := bit_some p i h0
    have hw : wrap64 (i + 1) = i + 1 := by unfold wrap64; omega
    have r := ih k (i + 1) (by omega) (by omega) (by omega) (by omega)
    simp only [seizinref01_Has.l0]; rw [if_pos (by omega), hx, hy, hw, r]
    cases x <;> cases y <;> simp
/-- Where both are, all of both: reckoned by the kernel. -/
theorem refHas_fin : ∀ p q : Fin 128, seizinref01_Has.f 8 (p.val : Int) (q.val : Int) = some (hasB (p.val : Int) (q.val : Int)) := by decide +kernel
theorem refHas_eq (p q : Int) : seizinref01_Has.f 8 p q = some (hasB p q) := by
  by_cases h : (decide (0 ≤ p ∧ p ≤ 127) && decide (0 ≤ q ∧ q ≤ 127)) = true
  · simp only [Bool.and_eq_true, decide_eq_true_eq] at h
    have := refHas_fin ⟨p.toNat, by omega⟩ ⟨q.toNat, by omega⟩
    simp only [] at this
    rw [show ((p.toNat : Nat) : Int) = p from by omega, show ((q.toNat : Nat) : Int) = q from by omega] at this
    exact this
  · have hn : (decide (0 ≤ p ∧ p ≤ 127) && decide (0 ≤ q ∧ q ≤ 127)) = false := by simpa using h
    unfold seizinref01_Has.f
    rw [refHas_not p q hn 7 8 0 (by omega) (by omega) (by omega) (by omega)]
    unfold hasB
    rw [← Bool.and_assoc, hn, Bool.false_and]
/-- One is under another one: B2. -/
def underB (b c e b' c' e' : Int) : Bool := decide (b' ≤ b ∧ b ≤ c ∧ c ≤ c') && hasB e' e
def inB (b c at_ n : Int) : Bool := decide (0 ≤ at_ ∧ 0 ≤ n ∧ b ≤ at_ ∧ at_ ≤ c ∧ n ≤ c - at_)
theorem capIn_eq (a : Bool) (b c d e f at_ n : Int) (hc : I64 c) : cap_In.f a b c d e f at_ n = some (inB b c at_ n) := by
  obtain ⟨h0, h1⟩ := hc
  unfold cap_In.f inB wrap64
  repeat' split
  all_goals (rw [Option.some.injEq, Bool.eq_iff_iff]; simp; try omega)
theorem refIn_eq (a : Bool) (b c d e f at_ n : Int) (hc : I64 c) : seizinref02_In.f a b c d e f at_ n = some (inB b c at_ n) := by
  obtain ⟨h0, h1⟩ := hc
  unfold seizinref02_In.f inB wrap64 mx
  repeat' split
  all_goals (rw [Option.some.injEq, Bool.eq_iff_iff]; simp; try omega)
theorem hasB_refl {p : Int} (h0 : 0 ≤ p) (h1 : p ≤ 127) : hasB p p = true := by
  unfold hasB; rw [Bt.sub_refl]; simp; omega
theorem hasB_trans {p q r : Int} (h : hasB q p = true) (k : hasB r q = true) : hasB r p = true := by
  unfold hasB at *
  simp only [Bool.and_eq_true] at *
  exact ⟨k.1, h.2.1, Bt.sub_trans p q r h.2.2 k.2.2⟩
theorem hasB_anti {p q : Int} (h : hasB q p = true) (k : hasB p q = true) : p = q := by
  unfold hasB at *
  simp only [Bool.and_eq_true, decide_eq_true_eq] at *
  exact Bt.sub_anti p q k.1.1 k.1.2 h.1.1 h.1.2 h.2.2 k.2.2
theorem hasB_all {p : Int} (h0 : 0 ≤ p) (h1 : p ≤ 127) : hasB 127 p = true := by
  unfold hasB; rw [Bt.sub_all p h0 h1]; simp; omega

theorem refHas_ge (p q : Int) (k : Nat) (hk : 8 ≤ k) : seizinref01_Has.f k p q = some (hasB p q) := at_rounds (seizinref01_Has.mono p q) hk (refHas_eq p q)
theorem head64 : seizinlaw05_head.f 64 = some true := by decide +kernel

def nearB (n : Int) : Bool := decide (-65536 ≤ n ∧ n ≤ 65536)
theorem near_eq (n : Int) : access_near.f n = some (nearB n) := by
  unfold access_near.f nearB
  split <;> (rw [Option.some.injEq, Bool.eq_iff_iff]; simp; try omega)
theorem far_eq (n : Int) : seizinref05_far.f n = some (!nearB n) := by
  unfold seizinref05_far.f nearB
  split <;> (rw [Option.some.injEq, Bool.eq_iff_iff]; simp; try omega)

/-- What a use of one comes to, of one that is right. -/
def chk2 (a : Bool) (b c d e f need off n : Int) : Int × Int :=
  if a = true then (if f = 0 then (if hasB e need = true then (if nearB off = true then (if inB b c (wrap64 (d + off)) n = true then (wrap64 (d + off), 0) else (0, 43)) else (0, 43)) else (0, 44)) else (0, 42)) else (0, 41)
def argB (a : Bool) (b c d e f need n : Int) : Bool := rightB a b c d e f && (decide (0 ≤ need ∧ need ≤ 127) && decide (1 ≤ n ∧ n ≤ 16))
/-- The address of a use, or what is wrong: E1. -/
def chk (a : Bool) (b c d e f need off n : Int) : Int × Int := if argB a b c d e f need n = true then chk2 a b c d e f need off n else (0, 1)

theorem check_j0 (k : Nat) (need off n : Int) (x a : Bool) (b c d e f : Int) (he : I64 e) (hn : I64 need) (hc : I64 c) : access_Check.j0 (k + 1) need off n x a b c d e f = some (if x = true then (0, 1) else chk2 a b c d e f need off n) := by
  unfold access_Check.j0 chk2
  simp only [permHas_eq e need he hn, near_eq, capIn_eq _ _ _ _ _ _ _ _ hc, Option.bind_some]
  cases x <;> cases a <;> by_cases hf : f = 0 <;> cases hasB e need <;> cases nearB off <;> cases inB b c (wrap64 (d + off)) n <;> simp [hf]
theorem refCheck_j0 (k : Nat) (hk : 8 ≤ k) (need off n : Int) (x a : Bool) (b c d e f : Int) (hc : I64 c) : seizinref05_Check.j0 (k + 1) need off n x a b c d e f = some (if x = true then (0, 1) else chk2 a b c d e f need off n) := by
  unfold seizinref05_Check.j0 chk2
  simp only [refHas_ge e need k hk, far_eq, refIn_eq _ _ _ _ _ _ _ _ hc, Option.bind_some]
  cases x <;> cases a <;> by_cases hf : f = 0 <;> cases hasB e need <;> cases nearB off <;> cases inB b c (wrap64 (d + off)) n <;> simp [hf]
theorem check_eq (k : Nat) (hk : 1 ≤ k) (a : Bool) (b c d e f need off n : Int) (he : I64 e) (hn : I64 need) (hc : I64 c) : access_Check.f k a b c d e f need off n = some (chk a b c d e f need off n) := by
  obtain ⟨k, rfl⟩ : ∃ m, k = m + 1 := ⟨k - 1, by omega⟩
  unfold access_Check.f chk argB
  simp only [capRight_eq _ _ _ _ _ _ he, permRight_eq _ hn, Option.bind_some, check_j0 k _ _ _ _ _ _ _ _ _ _ he hn hc]
  cases rightB a b c d e f
  · simp
  generalize decide (0 ≤ need ∧ need ≤ 127) = y
  cases y
  · simp
  by_cases h1 : n < 1
  · have : decide (1 ≤ n ∧ n ≤ 16) = false := by simp; omega
    simp [h1, this]
  · by_cases h2 : n > 16
    · have : decide (1 ≤ n ∧ n ≤ 16) = false := by simp; omega
      simp [h1, h2, this]
    · have : decide (1 ≤ n ∧ n ≤ 16) = true := by simp; omega
      simp [h1, h2, this]
theorem refCheck_eq (k : Nat) (hk : 9 ≤ k) (a : Bool) (b c d e f need off n : Int) (hc : I64 c) : seizinref05_Check.f k a b c d e f need off n = some (chk a b c d e f need off n) := by
  obtain ⟨k, rfl⟩ : ∃ m, k = m + 1 := ⟨k - 1, by omega⟩
  unfold seizinref05_Check.f chk argB
  simp only [refRight_eq, refPRight_eq, Option.bind_some, refCheck_j0 k (by omega) _ _ _ _ _ _ _ _ _ _ hc]
  cases rightB a b c d e f
  · simp
  generalize decide (0 ≤ need ∧ need ≤ 127) = y
  cases y
  · simp
  by_cases h1 : n < 1
  · have : decide (1 ≤ n ∧ n ≤ 16) = false := by simp; omega
    simp [h1, this]
  · by_cases h2 : n > 16
    · have : decide (1 ≤ n ∧ n ≤ 16) = false := by simp; omega
      simp [h1, h2, this]
    · have : decide (1 ≤ n ∧ n ≤ 16) = true := by simp; omega
      simp [h1, h2, this]

/-- What is known of one that may be used so. -/
theorem chk_ok {a : Bool} {b c d e f need off n : Int} (h : (chk a b c d e f need off n).2 = 0) : rightB a b c d e f = true ∧ 0 ≤ need ∧ need ≤ 127 ∧ 1 ≤ n ∧ n ≤ 16 ∧ a = true ∧ f = 0 ∧ hasB e need = true ∧ nearB off = true ∧ inB b c (wrap64 (d + off)) n = true ∧ chk a b c d e f need off n = (wrap64 (d + off), 0) := by
  unfold chk at *
  split at h
  · rename_i h1
    rw [if_pos h1]
    unfold argB at h1
    simp only [Bool.and_eq_true, decide_eq_true_eq] at h1
    unfold chk2 at *
    split at h
    · split at h
      · split at h
        · split at h
          · split at h
            · simp_all
            · simp at h
          · simp at h
        · simp at h
      · simp at h
    · simp at h
  · simp at h
theorem chk_of {a : Bool} {b c d e f need off n : Int} (h1 : rightB a b c d e f = true) (h2 : 0 ≤ need) (h3 : need ≤ 127) (h4 : 1 ≤ n) (h5 : n ≤ 16) (h6 : a = true) (h7 : f = 0) (h8 : hasB e need = true) (h9 : nearB off = true) (h10 : inB b c (wrap64 (d + off)) n = true) : chk a b c d e f need off n = (wrap64 (d + off), 0) := by
  have hA : argB a b c d e f need n = true := by unfold argB; simp [h1, h2, h3, h4, h5]
  unfold chk
  rw [if_pos hA]
  unfold chk2
  rw [if_pos h6, if_pos h7, if_pos h8, if_pos h9, if_pos h10]
theorem chk_err {a : Bool} {b c d e f need off n : Int} (h : (chk a b c d e f need off n).2 ≠ 0) : (chk a b c d e f need off n).1 = 0 := by
  unfold chk chk2 at *
  repeat' split
  all_goals simp_all
theorem right_at {a : Bool} {b c d e f : Int} (h : rightB a b c d e f = true) : RightP a b c d e f := by
  unfold rightB at h
  rwa [decide_eq_true_eq] at h

def stp (a : Bool) (b c d e f n : Int) : Bool × Int × Int × Int × Int × Int × Bool :=
  if rightB a b c d e f = true then (if a = true then (if f = 0 then (if nearB n = true then (if wrap64 (d + n) < b then (false, 0, 0, 0, 0, 0, false) else (if wrap64 (d + n) > c then (false, 0, 0, 0, 0, 0, false) else (a, b, c, wrap64 (d + n), e, f, true))) else (false, 0, 0, 0, 0, 0, false)) else (false, 0, 0, 0, 0, 0, false)) else (false, 0, 0, 0, 0, 0, false)) else (false, 0, 0, 0, 0, 0, false)
theorem step_eq (a : Bool) (b c d e f n : Int) (he : I64 e) : access_Step.f a b c d e f n = some (stp a b c d e f n) := by
  unfold access_Step.f stp
  simp only [capRight_eq _ _ _ _ _ _ he, near_eq, Option.bind_some]
  repeat' split
  all_goals rfl
theorem refStep_eq (a : Bool) (b c d e f n : Int) : seizinref05_Step.f a b c d e f n = some (stp a b c d e f n) := by
  unfold seizinref05_Step.f stp
  simp only [refRight_eq, far_eq, Option.bind_some]
  cases rightB a b c d e f <;> cases a <;> by_cases hf : f = 0 <;> cases nearB n <;> by_cases h1 : wrap64 (d + n) < b <;> by_cases h2 : wrap64 (d + n) > c <;> simp [hf, h1, h2]
end Go.Proofs.Ythhiljgngedaaaa.PAcc
