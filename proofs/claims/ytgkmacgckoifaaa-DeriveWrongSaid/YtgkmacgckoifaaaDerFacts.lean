/- Plain facts: what the printed functions of layer 4 compute. -/
import Derived.Test.YtgkmacgckoifaaaBits
import Derived.Test.YtgkmacgckoifaaaPDrx2
import Derived.Test.YtgkmacgckoifaaaPDrx3
import Derived.Test.YtgkmacgckoifaaaPDrx4
import Derived.Test.YtgkmacgckoifaaaPDrx5
import Derived.Test.YtgkmacgckoifaaaPDrx6
import Derived.Test.YtgkmacgckoifaaaPDrx7
import Derived.Test.YtgkmacgckoifaaaPDrx8
import Derived.Test.YtgkmacgckoifaaaPDrx9
import Derived.Test.YtgkmacgckoifaaaPDrx10
import Derived.Test.YtgkmacgckoifaaaPDrx11
import Derived.Test.YtgkmacgckoifaaaPDrx12
import Derived.Test.YtgkmacgckoifaaaPDrx13
import Derived.Test.YtgkmacgckoifaaaPDrx14
import Derived.Test.YtgkmacgckoifaaaPDrx15
import Derived.Test.YtgkmacgckoifaaaPDrx16
namespace Go.Proofs.Ytgkmacgckoifaaa.PDr
open Go.RowKit Go.Proofs.YtgkmacgckoifaaaW.PrintWords Go.Proofs.YtgkmacgckoifaaaW.PrintLast Go.Proofs.YtgkmacgckoifaaaW.PrintMore
set_option linter.unusedVariables false
set_option linter.unusedSimpArgs false

/-- An int that is one. -/
def I64 (n : Int) : Prop := -9223372036854775808 ≤ n ∧ n ≤ 9223372036854775807
theorem I64.of_wf {n : Int} (h : (Lit.int .i64 n).wf = true) : I64 n := by
  have hmin : IntKind.i64.min = -9223372036854775808 := rfl
  have hmax : IntKind.i64.max = 9223372036854775807 := rfl
  simp only [Lit.wf, Bool.and_eq_true, decide_eq_true_eq] at h
  exact ⟨by omega, by omega⟩
theorem wrap_id {n : Int} (h : I64 n) : wrap64 n = n := by obtain ⟨a, b⟩ := h; unfold wrap64; omega
/-- What a right capability is: B1. -/
def RightP (a : Bool) (b c d e f : Int) : Prop := 0 ≤ b ∧ b ≤ 4294967295 ∧ 0 ≤ c ∧ c ≤ 4294967295 ∧ 0 ≤ d ∧ d ≤ 4294967295 ∧ 0 ≤ e ∧ e ≤ 127 ∧ 0 ≤ f ∧ f ≤ 255 ∧ (a = true → b ≤ c ∧ c ≤ 16777216)
instance (a : Bool) (b c d e f : Int) : Decidable (RightP a b c d e f) := by unfold RightP; infer_instance
def rightB (a : Bool) (b c d e f : Int) : Bool := decide (RightP a b c d e f)
/-- Permissions as sets. -/
def hasB (p q : Int) : Bool := decide (0 ≤ p ∧ p ≤ 127) && (decide (0 ≤ q ∧ q ≤ 127) && (Go.bits .andNot .i64 q p == 0))
theorem permRight_eq (p : Int) (h : I64 p) : perm_Right.f p = some (decide (0 ≤ p ∧ p ≤ 127)) := by
  unfold perm_Right.f; rw [Bt.right_iff p h.1 h.2]
theorem refPRight_eq (p : Int) : seizinref01_Right.f p = some (decide (0 ≤ p ∧ p ≤ 127)) := by
  unfold seizinref01_Right.f
  split <;> (rw [Option.some.injEq, Bool.eq_iff_iff]; simp; try omega)
theorem refAddr_eq (p : Int) : seizinref02_addr.f p = some (decide (0 ≤ p ∧ p ≤ 4294967295)) := by
  unfold seizinref02_addr.f
  split <;> (rw [Option.some.injEq, Bool.eq_iff_iff]; simp; try omega)
theorem capRight_eq (a : Bool) (b c d e f : Int) (h : I64 e) : cap_Right.f a b c d e f = some (rightB a b c d e f) := by
  unfold cap_Right.f gv_capRight gv_spanRight gv_permRight gv_spanHas rightB RightP
  rw [Bt.right_iff e h.1 h.2, Option.some.injEq, Bool.eq_iff_iff]
  cases a <;> simp <;> omega
theorem refRight_eq (a : Bool) (b c d e f : Int) : seizinref02_Right.f a b c d e f = some (rightB a b c d e f) := by
  unfold seizinref02_Right.f
  simp only [refAddr_eq, refPRight_eq, Option.bind_some, decide_eq_true_eq]
  unfold rightB RightP
  cases a
  all_goals simp only [Bool.false_eq_true, if_false, if_true, false_implies, true_implies, and_true]
  all_goals repeat' split
  all_goals (rw [Option.some.injEq, Bool.eq_iff_iff]; simp only [decide_eq_true_eq, Bool.false_eq_true, true_iff, false_iff]; omega)
theorem permHas_eq (p q : Int) (hp : I64 p) (hq : I64 q) : perm_Has.f p q = some (hasB p q) := by
  unfold perm_Has.f hasB
  simp only [permRight_eq p hp, permRight_eq q hq, Option.bind_some]
  generalize decide (0 ≤ p ∧ p ≤ 127) = x
  generalize decide (0 ≤ q ∧ q ≤ 127) = y
  cases x <;> cases y <;> simp
/-- One is under another one: B2. -/
def underB (b c e b' c' e' : Int) : Bool := decide (b' ≤ b ∧ b ≤ c ∧ c ≤ c') && hasB e' e
def inB (b c at_ n : Int) : Bool := decide (0 ≤ at_ ∧ 0 ≤ n ∧ b ≤ at_ ∧ at_ ≤ c ∧ n ≤ c - at_)
theorem capIn_eq (a : Bool) (b c d e f at_ n : Int) (hc : I64 c) : cap_In.f a b c d e f at_ n = some (inB b c at_ n) := by
  obtain ⟨h0, h1⟩ := hc
  unfold cap_In.f inB wrap64
  repeat' split
  all_goals (rw [Option.some.injEq, Bool.eq_iff_iff]; simp; try omega)
theorem refIn_eq (a : Bool) (b c d e f at_ n : Int) (hc : I64 c) : seizinref02_In.f a b c d e f at_ n = some (inB b c at_ n) := by
  obtain ⟨h0, h1⟩ := hc
  unfold seizinref02_In.f inB wrap64 mx
  repeat' split
  all_goals (rw [Option.some.injEq, Bool.eq_iff_iff]; simp; try omega)
theorem hasB_refl {p : Int} (h0 : 0 ≤ p) (h1 : p ≤ 127) : hasB p p = true := by
  unfold hasB; rw [Bt.sub_refl]; simp; omega
theorem hasB_trans {p q r : Int} (h : hasB q p = true) (k : hasB r q = true) : hasB r p = true := by
  unfold hasB at *
  simp only [Bool.and_eq_true] at *
  exact ⟨k.1, h.2.1, Bt.sub_trans p q r h.2.2 k.2.2⟩
theorem hasB_anti {p q : Int} (h : hasB q p = true) (k : hasB p q = true) : p = q := by
  unfold hasB at *
  simp only [Bool.and_eq_true, decide_eq_true_eq] at *
  exact Bt.sub_anti p q k.1.1 k.1.2 h.1.1 h.1.2 h.2.2 k.2.2
theorem hasB_all {p : Int} (h0 : 0 ≤ p) (h1 : p ≤ 127) : hasB 127 p = true := by
  unfold hasB; rw [Bt.sub_all p h0 h1]; simp; omega

theorem capUnder_eq (a : Bool) (b c d e f : Int) (a' : Bool) (b' c' d' e' f' : Int) (h : I64 e) (h' : I64 e') : cap_Under.f a b c d e f a' b' c' d' e' f' = some (underB b c e b' c' e') := by
  unfold cap_Under.f cap_of.f cap_span_has.f underB
  simp only [Option.bind_some, permHas_eq e' e h' h]
  by_cases h1 : b' ≤ b <;> by_cases h2 : b ≤ c <;> by_cases h3 : c ≤ c' <;> simp [h1, h2, h3]

/-! ### What is made of one -/
def firstN : List S46 → Int
  | [] => 0
  | m :: l => if m.f0 = true then firstN l else m.f1
theorem first_go (xs : List S46) (hx : xs.length ≤ 100) : ∀ (m i k : Nat), xs.length - i = m → m < k → i ≤ xs.length → derive_first.l0 k xs (xs.length : Int) (i : Int) = some (firstN (xs.drop i)) := by
  intro m
  induction m with
  | zero =>
    intro i k h hk hi
    obtain ⟨k, rfl⟩ : ∃ z, k = z + 1 := ⟨k - 1, by omega⟩
    have e : i = xs.length := by omega
    subst e
    unfold derive_first.l0
    rw [if_neg (by omega), List.drop_length]; rfl
  | succ m ih =>
    intro i k h hk hi
    obtain ⟨k, rfl⟩ : ∃ z, k = z + 1 := ⟨k - 1, by omega⟩
    have hl : i < xs.length := by omega
    have hr : rd_T46 xs (i : Int) = xs[i] := by
      unfold rd_T46
      rw [Int.toNat_natCast, List.getD_eq_getElem?_getD, List.getElem?_eq_getElem hl]; rfl
    have hw : wrap64 ((i : Int) + 1) = ((i + 1 : Nat) : Int) := by unfold wrap64; omega
    unfold derive_first.l0
    rw [if_pos (by omega), if_pos (by omega), if_pos (by omega), hr, List.drop_eq_getElem_cons hl, hw, ih (i + 1) k (by omega) (by omega) (by omega)]
    show _ = some (if (xs[i]).f0 = true then _ else _)
    split <;> rfl
theorem first_eq (xs : List S46) (hx : xs.length ≤ 19) : derive_first.f 20 xs = some (firstN xs) := by
  unfold derive_first.f
  have := first_go xs (by omega) xs.length 0 20 (by omega) (by omega) (by omega)
  exact_mod_cast this

def zz (e : Int) : Bool × Int × Int × Int × Int × Int × Int := (false, 0, 0, 0, 0, 0, e)
def usedE (a : Bool) (b c d e f : Int) : Int := if rightB a b c d e f = true then (if a = true then (if f = 0 then 0 else 42) else 41) else 1
def authE (a : Bool) (b c d e f p : Int) : Int := if usedE a b c d e f = 0 then (if hasB e p = true then (if inB b c d 1 = true then (if decide (2 ≤ d ∧ d ≤ 255) = true then 0 else 45) else 43) else 44) else usedE a b c d e f
def boundsR (a : Bool) (b c d e f n : Int) := if usedE a b c d e f = 0 then (if inB b c d n = true then (a, d, wrap64 (d + n), d, e, f, 0) else zz 43) else zz (usedE a b c d e f)
def permsR (a : Bool) (b c d e f n : Int) := if usedE a b c d e f = 0 then (if decide (0 ≤ n ∧ n ≤ 127) = true then (a, b, c, d, Go.bits .and .i64 e n, f, 0) else zz 1) else zz (usedE a b c d e f)
def moveR (a : Bool) (b c d e f n : Int) := if rightB a b c d e f = true then (if a = true then (if f = 0 then (a, b, c, n % 4294967296, e, f, 0) else zz 42) else (a, b, c, n % 4294967296, e, f, 0)) else zz 1
def sealR (a : Bool) (b c d e f : Int) (a' : Bool) (b' c' d' e' f' : Int) := if usedE a b c d e f = 0 then (if authE a' b' c' d' e' f' 32 = 0 then (a, b, c, d, e, d', 0) else zz (authE a' b' c' d' e' f' 32)) else zz (usedE a b c d e f)
def unsealR (a : Bool) (b c d e f : Int) (a' : Bool) (b' c' d' e' f' : Int) := if rightB a b c d e f = true then (if a = true then (if f = 0 then zz 42 else (if authE a' b' c' d' e' f' 64 = 0 then (if d' = f then (a, b, c, d, e, 0, 0) else zz 45) else zz (authE a' b' c' d' e' f' 64))) else zz 41) else zz 1
def enterR (a : Bool) (b c d e f : Int) := if usedE a b c d e f = 0 then (if hasB e 4 = true then (a, b, c, d, e, 1, 0) else zz 44) else zz (usedE a b c d e f)
def buildR (a : Bool) (b c d e f : Int) (a' : Bool) (b' c' d' e' f' : Int) := if rightB a b c d e f = true then (if usedE a' b' c' d' e' f' = 0 then (if f = 0 then (if hasB e' e = true then (if underB b c e b' c' e' = true then (true, b, c, d, e, f, 0) else zz 43) else zz 44) else zz 42) else zz (usedE a' b' c' d' e' f')) else zz 1

theorem used_eq (a : Bool) (b c d e f : Int) (he : I64 e) : derive_used.f a b c d e f = some [⟨rightB a b c d e f, 1⟩, ⟨a, 41⟩, ⟨(f != 0) == false, 42⟩] := by
  unfold derive_used.f derive_right.f derive_tagged.f derive_sealed.f
  rw [capRight_eq _ _ _ _ _ _ he]; rfl
theorem spans_eq (a : Bool) (b c d e f n : Int) (hc : I64 c) : derive_spans.f a b c d e f n = some (inB b c d n, 43) := by
  unfold derive_spans.f; rw [capIn_eq _ _ _ _ _ _ _ _ hc]; rfl
theorem has_eq (a : Bool) (b c d e f p : Int) (he : I64 e) (hp : I64 p) : derive_has.f a b c d e f p = some (hasB e p, 44) := by
  unfold derive_has.f; rw [permHas_eq e p he hp]; rfl
theorem auth_eq (a : Bool) (b c d e f p : Int) (hc : I64 c) (he : I64 e) (hp : I64 p) : derive_authority.f a b c d e f p = some [⟨rightB a b c d e f, 1⟩, ⟨a, 41⟩, ⟨(f != 0) == false, 42⟩, ⟨hasB e p, 44⟩, ⟨inB b c d 1, 43⟩, ⟨decide (2 ≤ d ∧ d ≤ 255), 45⟩] := by
  unfold derive_authority.f
  rw [used_eq _ _ _ _ _ _ he, has_eq _ _ _ _ _ _ _ he hp, spans_eq _ _ _ _ _ _ _ hc]
  simp only [Option.bind_some]
  by_cases h : d ≥ 2
  · rw [if_pos h, if_pos (by simp)]
    have : decide (2 ≤ d ∧ d ≤ 255) = decide (d ≤ 255) := by rw [Bool.eq_iff_iff]; simp; omega
    rw [this]; rfl
  · rw [if_neg h, if_pos (by simp)]
    have : decide (2 ≤ d ∧ d ≤ 255) = false := by simp; omega
    rw [this]; rfl
theorem nz (f : Int) : ((f != 0) == false) = decide (f = 0) := by rw [Bool.eq_iff_iff]; simp
theorem Bounds_eq (a : Bool) (b c d e f n : Int) (hc : I64 c) (he : I64 e) : derive_Bounds.f a b c d e f n = some (boundsR a b c d e f n) := by
  unfold derive_Bounds.f boundsR usedE zz
  rw [used_eq _ _ _ _ _ _ he, spans_eq _ _ _ _ _ _ _ hc]
  simp only [Option.bind_some, List.cons_append, List.nil_append]
  rw [first_eq _ (by simp)]
  simp only [Option.bind_some, firstN, nz]
  cases rightB a b c d e f <;> cases a <;> by_cases hf : f = 0 <;> cases inB b c d n <;> simp [hf]
theorem Perms_eq (a : Bool) (b c d e f n : Int) (he : I64 e) (hn : I64 n) : derive_Perms.f a b c d e f n = some (permsR a b c d e f n) := by
  unfold derive_Perms.f permsR usedE zz
  rw [used_eq _ _ _ _ _ _ he, permRight_eq n hn]
  simp only [Option.bind_some, List.cons_append, List.nil_append]
  rw [first_eq _ (by simp)]
  simp only [Option.bind_some, firstN, nz]
  generalize decide (0 ≤ n ∧ n ≤ 127) = y
  cases rightB a b c d e f <;> cases a <;> by_cases hf : f = 0 <;> cases y <;> simp [hf]
theorem Move_eq (a : Bool) (b c d e f n : Int) (he : I64 e) : derive_Move.f a b c d e f n = some (moveR a b c d e f n) := by
  unfold derive_Move.f moveR zz derive_right.f
  rw [capRight_eq _ _ _ _ _ _ he, Bt.and32]
  simp only [Option.bind_some]
  rw [first_eq _ (by simp)]
  simp only [Option.bind_some, firstN]
  cases rightB a b c d e f <;> cases a <;> by_cases hf : f = 0 <;> simp [hf]
theorem Seal_eq (a : Bool) (b c d e f : Int) (a' : Bool) (b' c' d' e' f' : Int) (he : I64 e) (hc' : I64 c') (he' : I64 e') : derive_Seal.f a b c d e f a' b' c' d' e' f' = some (sealR a b c d e f a' b' c' d' e' f') := by
  unfold derive_Seal.f sealR authE usedE zz
  rw [used_eq _ _ _ _ _ _ he, auth_eq _ _ _ _ _ _ _ hc' he' ⟨by omega, by omega⟩]
  simp only [Option.bind_some, List.cons_append, List.nil_append]
  rw [first_eq _ (by simp)]
  simp only [Option.bind_some, firstN, nz]
  generalize decide (2 ≤ d' ∧ d' ≤ 255) = y
  cases rightB a b c d e f <;> cases a <;> by_cases hf : f = 0 <;> cases rightB a' b' c' d' e' f' <;> cases a' <;> by_cases hf' : f' = 0 <;> cases hasB e' 32 <;> cases inB b' c' d' 1 <;> cases y <;> simp [hf, hf']
theorem Unseal_eq (a : Bool) (b c d e f : Int) (a' : Bool) (b' c' d' e' f' : Int) (he : I64 e) (hc' : I64 c') (he' : I64 e') : derive_Unseal.f a b c d e f a' b' c' d' e' f' = some (unsealR a b c d e f a' b' c' d' e' f') := by
  unfold derive_Unseal.f unsealR authE usedE zz derive_right.f derive_tagged.f derive_sealed.f
  rw [capRight_eq _ _ _ _ _ _ he, auth_eq _ _ _ _ _ _ _ hc' he' ⟨by omega, by omega⟩]
  simp only [Option.bind_some, List.cons_append, List.nil_append]
  rw [first_eq _ (by simp)]
  simp only [Option.bind_some, firstN, nz]
  generalize decide (2 ≤ d' ∧ d' ≤ 255) = y
  cases rightB a b c d e f <;> cases a <;> by_cases hf : f = 0 <;> cases rightB a' b' c' d' e' f' <;> cases a' <;> by_cases hf' : f' = 0 <;> cases hasB e' 64 <;> cases inB b' c' d' 1 <;> cases y <;> by_cases hd : d' = f <;> simp [hf, hf', hd] <;> try (simp_all)
theorem Enter_eq (a : Bool) (b c d e f : Int) (he : I64 e) : derive_Enter.f a b c d e f = some (enterR a b c d e f) := by
  unfold derive_Enter.f enterR usedE zz
  rw [used_eq _ _ _ _ _ _ he, has_eq _ _ _ _ _ _ _ he ⟨by omega, by omega⟩]
  simp only [Option.bind_some, List.cons_append, List.nil_append]
  rw [first_eq _ (by simp)]
  simp only [Option.bind_some, firstN, nz]
  cases rightB a b c d e f <;> cases a <;> by_cases hf : f = 0 <;> cases hasB e 4 <;> simp [hf]
theorem Build_eq (a : Bool) (b c d e f : Int) (a' : Bool) (b' c' d' e' f' : Int) (he : I64 e) (he' : I64 e') : derive_Build.f a b c d e f a' b' c' d' e' f' = some (buildR a b c d e f a' b' c' d' e' f') := by
  unfold derive_Build.f buildR usedE zz derive_right.f derive_sealed.f
  rw [capRight_eq _ _ _ _ _ _ he, used_eq _ _ _ _ _ _ he', has_eq _ _ _ _ _ _ _ he' he, capUnder_eq _ _ _ _ _ _ _ _ _ _ _ _ he he']
  simp only [Option.bind_some, List.cons_append, List.nil_append]
  rw [first_eq _ (by simp)]
  simp only [Option.bind_some, firstN, nz]
  cases rightB a b c d e f <;> cases rightB a' b' c' d' e' f' <;> cases a' <;> by_cases hf' : f' = 0 <;> by_cases hf : f = 0 <;> cases hasB e' e <;> cases underB b c e b' c' e' <;> simp [hf, hf']
theorem head_eq : seizinlaw04_head.f = some true := by decide +kernel

end Go.Proofs.Ytgkmacgckoifaaa.PDr
