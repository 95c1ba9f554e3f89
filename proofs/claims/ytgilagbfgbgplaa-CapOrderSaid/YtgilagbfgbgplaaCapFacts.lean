/- Plain facts: what the printed functions of layers 1 and 2 (the program's and the document's) compute, in one form for both. -/
import Derived.Test.YtgilagbfgbgplaaBits
import Derived.Test.YtgilagbfgbgplaaPCapx2
import Derived.Test.YtgilagbfgbgplaaPCapx3
namespace Go.Proofs.Ytgilagbfgbgplaa.PCap
open Go.RowKit Go.Proofs.YtgilagbfgbgplaaW.PrintWords Go.Proofs.YtgilagbfgbgplaaW.PrintLast Go.Proofs.YtgilagbfgbgplaaW.PrintMore
set_option linter.unusedVariables false

/-- An int that is one. -/
def I64 (n : Int) : Prop := -9223372036854775808 ≤ n ∧ n ≤ 9223372036854775807
theorem I64.of_wf {n : Int} (h : (Lit.int .i64 n).wf = true) : I64 n := by
  have hmin : IntKind.i64.min = -9223372036854775808 := rfl
  have hmax : IntKind.i64.max = 9223372036854775807 := rfl
  simp only [Lit.wf, Bool.and_eq_true, decide_eq_true_eq] at h
  exact ⟨by omega, by omega⟩
theorem wrap_id {n : Int} (h : I64 n) : wrap64 n = n := by obtain ⟨a, b⟩ := h; unfold wrap64; omega

/-- What a right capability is: B1. -/
def RightP (a : Bool) (b c d e f : Int) : Prop := 0 ≤ b ∧ b ≤ 4294967295 ∧ 0 ≤ c ∧ c ≤ 4294967295 ∧ 0 ≤ d ∧ d ≤ 4294967295 ∧ 0 ≤ e ∧ e ≤ 127 ∧ 0 ≤ f ∧ f ≤ 255 ∧ (a = true → b ≤ c ∧ c ≤ 16777216)
instance (a : Bool) (b c d e f : Int) : Decidable (RightP a b c d e f) := by unfold RightP; infer_instance
def rightB (a : Bool) (b c d e f : Int) : Bool := decide (RightP a b c d e f)
/-- Permissions as sets. -/
def hasB (p q : Int) : Bool := decide (0 ≤ p ∧ p ≤ 127) && (decide (0 ≤ q ∧ q ≤ 127) && (Go.bits .andNot .i64 q p == 0))

theorem permRight_eq (p : Int) (h : I64 p) : perm_Right.f p = some (decide (0 ≤ p ∧ p ≤ 127)) := by
  unfold perm_Right.f; rw [Bt.right_iff p h.1 h.2]
theorem refPRight_eq (p : Int) : seizinref01_Right.f p = some (decide (0 ≤ p ∧ p ≤ 127)) := by
  unfold seizinref01_Right.f
  split <;> (rw [Option.some.injEq, Bool.eq_iff_iff]; simp; try omega)
theorem refAddr_eq (p : Int) : seizinref02_addr.f p = some (decide (0 ≤ p ∧ p ≤ 4294967295)) := by
  unfold seizinref02_addr.f
  split <;> (rw [Option.some.injEq, Bool.eq_iff_iff]; simp; try omega)
theorem capRight_eq (a : Bool) (b c d e f : Int) (h : I64 e) : cap_Right.f a b c d e f = some (rightB a b c d e f) := by
  unfold cap_Right.f gv_capRight gv_spanRight gv_permRight gv_spanHas rightB RightP
  rw [Bt.right_iff e h.1 h.2, Option.some.injEq, Bool.eq_iff_iff]
  cases a <;> simp <;> omega
theorem refRight_eq (a : Bool) (b c d e f : Int) : seizinref02_Right.f a b c d e f = some (rightB a b c d e f) := by
  unfold seizinref02_Right.f
  simp only [refAddr_eq, refPRight_eq, Option.bind_some, decide_eq_true_eq]
  unfold rightB RightP
  cases a
  all_goals simp only [Bool.false_eq_true, if_false, if_true, false_implies, true_implies, and_true]
  all_goals repeat' split
  all_goals (rw [Option.some.injEq, Bool.eq_iff_iff]; simp only [decide_eq_true_eq, Bool.false_eq_true, true_iff, false_iff]; omega)

theorem permHas_eq (p q : Int) (hp : I64 p) (hq : I64 q) : perm_Has.f p q = some (hasB p q) := by
  unfold perm_Has.f hasB
  simp only [permRight_eq p hp, permRight_eq q hq, Option.bind_some]
  generalize decide (0 ≤ p ∧ p ≤ 127) = x
  generalize decide (0 ≤ q ∧ q ≤ 127) = y
  cases x <;> cases y <;> simp

theorem bit_some (p i : Int) (hi : 0 ≤ i) : ∃ b, seizinref01_bit.f p i = some b := by
  unfold seizinref01_bit.f; rw [if_pos hi]; exact ⟨_, rfl⟩
theorem hasEnd (p q : Int) : ((seizinref01_Right.f p).bind fun t226 => (if t226 = true then ((seizinref01_Right.f q).bind fun t227 => (some t227)) else (some false))) = some (decide (0 ≤ p ∧ p ≤ 127) && decide (0 ≤ q ∧ q ≤ 127)) := by
  simp only [refPRight_eq, Option.bind_some]
  generalize decide (0 ≤ p ∧ p ≤ 127) = x
  generalize decide (0 ≤ q ∧ q ≤ 127) = y
  cases x <;> cases y <;> simp
/-- Where one of both is no set of permissions the document's answer is no. -/
theorem refHas_not (p q : Int) (hn : (decide (0 ≤ p ∧ p ≤ 127) && decide (0 ≤ q ∧ q ≤ 127)) = false) (d : Nat) : ∀ (k : Nat) (i : Int), 0 ≤ i → i ≤ 7 → 7 - i = d → d < k → seizinref01_Has.l0 k p q i = some false := by
  induction d with
  | zero =>
    intro k i h0 h1 hd hk
    obtain ⟨k, rfl⟩ : ∃ m, k = m + 1 := ⟨k - 1, by omega⟩
    simp only [seizinref01_Has.l0]; rw [if_neg (by omega), hasEnd, hn]
  | succ d ih =>
    intro k i h0 h1 hd hk
    obtain ⟨k, rfl⟩ : ∃ m, k = m + 1 := ⟨k - 1, by omega⟩
    obtain ⟨x, hx⟩ := bit_some q i h0
    obtain ⟨y, hy⟩ := bit_some p i h0
    have hw : wrap64 (i + 1) = i + 1 := by unfold wrap64; omega
    have r := ih k (i + 1) (by omega) (by omega) (by omega) (by omega)
    simp only [seizinref01_Has.l0]; rw [if_pos (by omega), hx, hy, hw, r]
    cases x <;> cases y <;> simp
/-- Where both are, all of both: reckoned by the kernel. -/
theorem refHas_fin : ∀ p q : Fin 128, seizinref01_Has.f 8 (p.val : Int) (q.val : Int) = some (hasB (p.val : Int) (q.val : Int)) := by decide +kernel
theorem refHas_eq (p q : Int) : seizinref01_Has.f 8 p q = some (hasB p q) := by
  by_cases h : (decide (0 ≤ p ∧ p ≤ 127) && decide (0 ≤ q ∧ q ≤ 127)) = true
  · simp only [Bool.and_eq_true, decide_eq_true_eq] at h
    have := refHas_fin ⟨p.toNat, by omega⟩ ⟨q.toNat, by omega⟩
    simp only [] at this
    rw [show ((p.toNat : Nat) : Int) = p from by omega, show ((q.toNat : Nat) : Int) = q from by omega] at this
    exact this
  · have hn : (decide (0 ≤ p ∧ p ≤ 127) && decide (0 ≤ q ∧ q ≤ 127)) = false := by simpa using h
    unfold seizinref01_Has.f
    rw [refHas_not p q hn 7 8 0 (by omega) (by omega) (by omega) (by omega)]
    unfold hasB
    rw [← Bool.and_assoc, hn, Bool.false_and]

/-- One is under another one: B2. -/
def underB (b c e b' c' e' : Int) : Bool := decide (b' ≤ b ∧ b ≤ c ∧ c ≤ c') && hasB e' e
theorem capUnder_eq (a : Bool) (b c d e f : Int) (a' : Bool) (b' c' d' e' f' : Int) (h : I64 e) (h' : I64 e') : cap_Under.f a b c d e f a' b' c' d' e' f' = some (underB b c e b' c' e') := by
  unfold cap_Under.f cap_of.f cap_span_has.f underB
  simp only [Option.bind_some, permHas_eq e' e h' h]
  by_cases h1 : b' ≤ b <;> by_cases h2 : b ≤ c <;> by_cases h3 : c ≤ c' <;> simp [h1, h2, h3]
theorem refUnder_eq (a : Bool) (b c d e f : Int) (a' : Bool) (b' c' d' e' f' : Int) : seizinref02_Under.f 8 a b c d e f a' b' c' d' e' f' = some (underB b c e b' c' e') := by
  unfold seizinref02_Under.f underB
  simp only [Option.bind_some, refHas_eq e' e]
  by_cases h1 : b' ≤ b <;> by_cases h2 : b ≤ c <;> by_cases h3 : c ≤ c' <;> simp [h1, h2, h3]

def sizeN (b c : Int) : Int := if c ≤ b then 0 else wrap64 (c - b)
theorem capSize_eq (a : Bool) (b c d e f : Int) : cap_Size.f a b c d e f = some (sizeN b c) := by
  unfold cap_Size.f sizeN; split <;> rfl
theorem refSize_eq (a : Bool) (b c d e f : Int) : seizinref02_Size.f a b c d e f = some (sizeN b c) := by
  unfold seizinref02_Size.f sizeN; split <;> rfl

theorem refMod_eq (n : Int) (h : I64 n) : seizinref02_Mod.f n = some (n % 4294967296) := by
  obtain ⟨h0, h1⟩ := h
  unfold seizinref02_Mod.f wrap64
  have e : n.tmod 4294967296 = if 0 ≤ n then n % 4294967296 else -((-n) % 4294967296) := by
    split
    · rename_i h; exact Int.tmod_eq_emod_of_nonneg h
    · rename_i h
      have : n.tmod 4294967296 = -((-n).tmod 4294967296) := by rw [Int.neg_tmod]; omega
      rw [this, Int.tmod_eq_emod_of_nonneg (by omega)]
  rw [e]
  repeat' split
  all_goals first | rfl | (rw [Option.some.injEq]; omega) | (exfalso; omega)
def offN (b d : Int) : Int := (d % 4294967296 - b % 4294967296) % 4294967296
theorem capOff_eq (a : Bool) (b c d e f : Int) : cap_Off.f a b c d e f = some (offN b d) := by
  unfold cap_Off.f offN wrap64
  simp only [Bt.and32]
  congr 1
  omega
theorem refOff_eq (a : Bool) (b c d e f : Int) (hb : I64 b) (hd : I64 d) : seizinref02_Off.f a b c d e f = some (offN b d) := by
  unfold seizinref02_Off.f
  have hw : wrap64 (d % 4294967296 - b % 4294967296) = d % 4294967296 - b % 4294967296 := by unfold wrap64; omega
  simp only [refMod_eq d hd, refMod_eq b hb, Option.bind_some, hw]
  rw [refMod_eq _ ⟨by omega, by omega⟩]
  rfl

def inB (b c at_ n : Int) : Bool := decide (0 ≤ at_ ∧ 0 ≤ n ∧ b ≤ at_ ∧ at_ ≤ c ∧ n ≤ c - at_)
theorem capIn_eq (a : Bool) (b c d e f at_ n : Int) (hc : I64 c) : cap_In.f a b c d e f at_ n = some (inB b c at_ n) := by
  obtain ⟨h0, h1⟩ := hc
  unfold cap_In.f inB wrap64
  repeat' split
  all_goals (rw [Option.some.injEq, Bool.eq_iff_iff]; simp; try omega)
theorem refIn_eq (a : Bool) (b c d e f at_ n : Int) (hc : I64 c) : seizinref02_In.f a b c d e f at_ n = some (inB b c at_ n) := by
  obtain ⟨h0, h1⟩ := hc
  unfold seizinref02_In.f inB wrap64 mx
  repeat' split
  all_goals (rw [Option.some.injEq, Bool.eq_iff_iff]; simp; try omega)

theorem capInt_eq (n : Int) : cap_Int.f n = some (false, 0, 0, n % 4294967296, 0, 0) := by
  unfold cap_Int.f; rw [Bt.and32]
theorem refInt_eq (n : Int) (h : I64 n) : seizinref02_Int.f n = some (false, 0, 0, n % 4294967296, 0, 0) := by
  unfold seizinref02_Int.f; rw [refMod_eq n h]; rfl
theorem capNull_eq : cap_Null.f = some (false, 0, 0, 0, 0, 0) := by
  unfold cap_Null.f; rw [capInt_eq]; rfl
def rootN (n : Int) : Bool × Int × Int × Int × Int × Int := if n < 1 ∨ n > 16777216 then (false, 0, 0, 0, 0, 0) else (true, 0, n, 0, 127, 0)
theorem capRoot_eq (n : Int) : cap_Root.f n = some (rootN n) := by
  unfold cap_Root.f rootN
  rw [capNull_eq]
  simp only [Option.bind_some]
  repeat' split
  all_goals first | rfl | (exfalso; omega)
theorem refRoot_eq (n : Int) : seizinref02_Root.f n = some (rootN n) := by
  unfold seizinref02_Root.f rootN
  repeat' split
  all_goals first | rfl | (exfalso; omega)
theorem head_eq : seizinlaw02_head.f = some true := rfl
theorem capValue_eq (a : Bool) (b c d e f : Int) : cap_Value.f a b c d e f = some d := rfl
theorem refValue_eq (a : Bool) (b c d e f : Int) : seizinref02_Value.f a b c d e f = some d := rfl

/-! ### order -/
theorem hasB_refl {p : Int} (h0 : 0 ≤ p) (h1 : p ≤ 127) : hasB p p = true := by
  unfold hasB; rw [Bt.sub_refl]; simp; omega
theorem hasB_trans {p q r : Int} (h : hasB q p = true) (k : hasB r q = true) : hasB r p = true := by
  unfold hasB at *
  simp only [Bool.and_eq_true] at *
  exact ⟨k.1, h.2.1, Bt.sub_trans p q r h.2.2 k.2.2⟩
theorem hasB_anti {p q : Int} (h : hasB q p = true) (k : hasB p q = true) : p = q := by
  unfold hasB at *
  simp only [Bool.and_eq_true, decide_eq_true_eq] at *
  exact Bt.sub_anti p q k.1.1 k.1.2 h.1.1 h.1.2 h.2.2 k.2.2
theorem hasB_all {p : Int} (h0 : 0 ≤ p) (h1 : p ≤ 127) : hasB 127 p = true := by
  unfold hasB; rw [Bt.sub_all p h0 h1]; simp; omega
end Go.Proofs.Ytgilagbfgbgplaa.PCap
