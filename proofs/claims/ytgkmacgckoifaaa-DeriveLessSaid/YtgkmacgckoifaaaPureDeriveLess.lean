/- The plain law of DeriveLess: whatever is made of one spans, and permits, no more than that one, or than the one by which it was built. -/
import Derived.Test.YtgkmacgckoifaaaDerFactsS
import Derived.Test.YtgkmacgckoifaaaPDrx24
namespace Go.Proofs.Ytgkmacgckoifaaa.Pure
open Go.RowKit Go.Proofs.Ytgkmacgckoifaaa.PDr Go.Proofs.YtgkmacgckoifaaaW.PrintWords Go.Proofs.YtgkmacgckoifaaaW.PrintLast Go.Proofs.YtgkmacgckoifaaaW.PrintMore
set_option linter.unusedVariables false
set_option linter.unusedSimpArgs false

/-- What is made of one: nothing, or one that is right, and under that. -/
def LessP (of : Bool × Int × Int × Int × Int × Int) (t : Bool × Int × Int × Int × Int × Int × Int) : Prop :=
  (∃ z, z ≠ 0 ∧ t = zz z) ∨ (t.2.2.2.2.2.2 = 0 ∧ t.1 = true ∧ of.1 = true ∧ rightB t.1 t.2.1 t.2.2.1 t.2.2.2.1 t.2.2.2.2.1 t.2.2.2.2.2.1 = true ∧ underB t.2.1 t.2.2.1 t.2.2.2.2.1 of.2.1 of.2.2.1 of.2.2.2.2.1 = true)
theorem used1 {a : Bool} {b c d e f : Int} : (usedE a b c d e f ≠ 0) ∨ (usedE a b c d e f = 0 ∧ rightB a b c d e f = true ∧ a = true ∧ f = 0) := by
  unfold usedE
  cases h1 : rightB a b c d e f <;> cases a <;> by_cases hf : f = 0 <;> simp [hf]
theorem right_iff {a : Bool} {b c d e f : Int} : rightB a b c d e f = true ↔ RightP a b c d e f := by unfold rightB; rw [decide_eq_true_eq]
theorem under_iff {b c e b' c' e' : Int} : underB b c e b' c' e' = true ↔ (b' ≤ b ∧ b ≤ c ∧ c ≤ c') ∧ hasB e' e = true := by
  unfold underB; simp
theorem in_iff {b c d n : Int} : inB b c d n = true ↔ (0 ≤ d ∧ 0 ≤ n ∧ b ≤ d ∧ d ≤ c ∧ n ≤ c - d) := by unfold inB; rw [decide_eq_true_eq]
theorem and_fin : ∀ p q : Fin 128, (0 ≤ Go.bits .and .i64 (p.val : Int) (q.val : Int) ∧ Go.bits .and .i64 (p.val : Int) (q.val : Int) ≤ 127) ∧ hasB (p.val : Int) (Go.bits .and .i64 (p.val : Int) (q.val : Int)) = true := by decide +kernel
theorem and_less {p q : Int} (h0 : 0 ≤ p) (h1 : p ≤ 127) (k0 : 0 ≤ q) (k1 : q ≤ 127) : (0 ≤ Go.bits .and .i64 p q ∧ Go.bits .and .i64 p q ≤ 127) ∧ hasB p (Go.bits .and .i64 p q) = true := by
  have := and_fin ⟨p.toNat, by omega⟩ ⟨q.toNat, by omega⟩
  simp only [] at this
  rw [show ((p.toNat : Nat) : Int) = p from by omega, show ((q.toNat : Nat) : Int) = q from by omega] at this
  exact this
theorem less_bounds (a : Bool) (b c d e f n : Int) : LessP (a, b, c, d, e, f) (boundsR a b c d e f n) := by
  unfold boundsR LessP
  rcases used1 (a := a) (b := b) (c := c) (d := d) (e := e) (f := f) with h | ⟨h, hr, ha, hf⟩
  · rw [if_neg h]; exact .inl ⟨_, h, rfl⟩
  rw [if_pos h]
  by_cases hi : inB b c d n = true
  · rw [if_pos hi]
    rw [right_iff] at hr; rw [in_iff] at hi
    obtain ⟨q1, q2, q3, q4, q5, q6, q7, q8, q9, q10, q11⟩ := hr
    have q12 := q11 ha
    have hw : wrap64 (d + n) = d + n := by unfold wrap64; omega
    refine .inr ⟨rfl, ha, ha, ?_, ?_⟩
    · show rightB a d (wrap64 (d + n)) d e f = true
      rw [right_iff, hw]; exact ⟨q5, q6, by omega, by omega, q5, q6, q7, q8, q9, q10, fun _ => ⟨by omega, by omega⟩⟩
    · show underB d (wrap64 (d + n)) e b c e = true
      rw [under_iff, hw]; exact ⟨⟨by omega, by omega, by omega⟩, hasB_refl q7 q8⟩
  · rw [if_neg hi]; exact .inl ⟨43, by omega, rfl⟩
theorem less_same {a : Bool} {b c d e f : Int} (hr : rightB a b c d e f = true) (ha : a = true) : underB b c e b c e = true := by
  rw [right_iff] at hr
  obtain ⟨q1, q2, q3, q4, q5, q6, q7, q8, q9, q10, q11⟩ := hr
  have q12 := q11 ha
  rw [under_iff]; exact ⟨⟨by omega, by omega, by omega⟩, hasB_refl q7 q8⟩
theorem less_perms (a : Bool) (b c d e f n : Int) : LessP (a, b, c, d, e, f) (permsR a b c d e f n) := by
  unfold permsR LessP
  rcases used1 (a := a) (b := b) (c := c) (d := d) (e := e) (f := f) with h | ⟨h, hr, ha, hf⟩
  · rw [if_neg h]; exact .inl ⟨_, h, rfl⟩
  rw [if_pos h]
  by_cases hi : decide (0 ≤ n ∧ n ≤ 127) = true
  · rw [if_pos hi]; rw [decide_eq_true_eq] at hi
    rw [right_iff] at hr
    obtain ⟨q1, q2, q3, q4, q5, q6, q7, q8, q9, q10, q11⟩ := hr
    have q12 := q11 ha
    have hb := and_less q7 q8 hi.1 hi.2
    refine .inr ⟨rfl, ha, ha, ?_, ?_⟩
    · show rightB a b c d (Go.bits .and .i64 e n) f = true
      rw [right_iff]; exact ⟨q1, q2, q3, q4, q5, q6, hb.1.1, hb.1.2, q9, q10, q11⟩
    · show underB b c (Go.bits .and .i64 e n) b c e = true
      rw [under_iff]; exact ⟨⟨by omega, by omega, by omega⟩, hb.2⟩
  · rw [if_neg hi]; exact .inl ⟨1, by omega, rfl⟩
theorem less_move (b c d e f n : Int) : LessP (true, b, c, d, e, f) (moveR true b c d e f n) := by
  unfold moveR LessP
  by_cases hr : rightB true b c d e f = true
  · rw [if_pos hr, if_pos rfl]
    by_cases hf : f = 0
    · rw [if_pos hf]
      refine .inr ⟨rfl, rfl, rfl, ?_, less_same hr rfl⟩
      show rightB true b c (n % 4294967296) e f = true
      rw [right_iff] at hr ⊢
      obtain ⟨q1, q2, q3, q4, q5, q6, q7, q8, q9, q10, q11⟩ := hr
      exact ⟨q1, q2, q3, q4, by omega, by omega, q7, q8, q9, q10, q11⟩
    · rw [if_neg hf]; exact .inl ⟨42, by omega, rfl⟩
  · rw [if_neg hr]; exact .inl ⟨1, by omega, rfl⟩
theorem move_tag (b c d e f n : Int) : (moveR false b c d e f n).1 = false := by
  unfold moveR
  by_cases hr : rightB false b c d e f = true
  · rw [if_pos hr]; rfl
  · rw [if_neg hr]; rfl
theorem auth0 {a : Bool} {b c d e f p : Int} : (authE a b c d e f p ≠ 0) ∨ (authE a b c d e f p = 0 ∧ 2 ≤ d ∧ d ≤ 255) := by
  unfold authE
  rcases used1 (a := a) (b := b) (c := c) (d := d) (e := e) (f := f) with h | ⟨h, _⟩
  · rw [if_neg h]; exact .inl h
  rw [if_pos h]
  cases hasB e p
  · exact .inl (by simp)
  cases inB b c d 1
  · exact .inl (by simp)
  by_cases hd : decide (2 ≤ d ∧ d ≤ 255) = true
  · rw [hd]; rw [decide_eq_true_eq] at hd; exact .inr ⟨rfl, hd⟩
  · rw [if_pos rfl, if_pos rfl, if_neg hd]; exact .inl (by omega)
theorem right_type {a : Bool} {b c d e f : Int} (x : Int) (h : rightB a b c d e f = true) (h0 : 0 ≤ x) (h1 : x ≤ 255) : rightB a b c d e x = true := by
  rw [right_iff] at *; obtain ⟨q1, q2, q3, q4, q5, q6, q7, q8, q9, q10, q11⟩ := h; exact ⟨q1, q2, q3, q4, q5, q6, q7, q8, h0, h1, q11⟩
theorem less_seal (a : Bool) (b c d e f : Int) (a' : Bool) (b' c' d' e' f' : Int) : LessP (a, b, c, d, e, f) (sealR a b c d e f a' b' c' d' e' f') := by
  unfold sealR LessP
  rcases used1 (a := a) (b := b) (c := c) (d := d) (e := e) (f := f) with h | ⟨h, hr, ha, hf⟩
  · rw [if_neg h]; exact .inl ⟨_, h, rfl⟩
  rw [if_pos h]
  rcases auth0 (a := a') (b := b') (c := c') (d := d') (e := e') (f := f') (p := 32) with k | ⟨k, k1, k2⟩
  · rw [if_neg k]; exact .inl ⟨_, k, rfl⟩
  rw [if_pos k]
  exact .inr ⟨rfl, ha, ha, right_type d' hr (by omega) (by omega), less_same hr ha⟩
theorem less_unseal (a : Bool) (b c d e f : Int) (a' : Bool) (b' c' d' e' f' : Int) : LessP (a, b, c, d, e, f) (unsealR a b c d e f a' b' c' d' e' f') := by
  unfold unsealR LessP
  by_cases hr : rightB a b c d e f = true
  · rw [if_pos hr]
    by_cases ha : a = true
    · rw [if_pos ha]
      by_cases hf : f = 0
      · rw [if_pos hf]; exact .inl ⟨42, by omega, rfl⟩
      rw [if_neg hf]
      rcases auth0 (a := a') (b := b') (c := c') (d := d') (e := e') (f := f') (p := 64) with k | ⟨k, k1, k2⟩
      · rw [if_neg k]; exact .inl ⟨_, k, rfl⟩
      rw [if_pos k]
      by_cases hd : d' = f
      · rw [if_pos hd]; exact .inr ⟨rfl, ha, ha, right_type 0 hr (by omega) (by omega), less_same hr ha⟩
      · rw [if_neg hd]; exact .inl ⟨45, by omega, rfl⟩
    · rw [if_neg ha]; exact .inl ⟨41, by omega, rfl⟩
  · rw [if_neg hr]; exact .inl ⟨1, by omega, rfl⟩
theorem less_enter (a : Bool) (b c d e f : Int) : LessP (a, b, c, d, e, f) (enterR a b c d e f) := by
  unfold enterR LessP
  rcases used1 (a := a) (b := b) (c := c) (d := d) (e := e) (f := f) with h | ⟨h, hr, ha, hf⟩
  · rw [if_neg h]; exact .inl ⟨_, h, rfl⟩
  rw [if_pos h]
  by_cases hp : hasB e 4 = true
  · rw [if_pos hp]; exact .inr ⟨rfl, ha, ha, right_type 1 hr (by omega) (by omega), less_same hr ha⟩
  · rw [if_neg hp]; exact .inl ⟨44, by omega, rfl⟩
theorem less_build (a : Bool) (b c d e f : Int) (a' : Bool) (b' c' d' e' f' : Int) : LessP (a', b', c', d', e', f') (buildR a b c d e f a' b' c' d' e' f') := by
  unfold buildR LessP
  by_cases hr : rightB a b c d e f = true
  · rw [if_pos hr]
    rcases used1 (a := a') (b := b') (c := c') (d := d') (e := e') (f := f') with h | ⟨h, hr', ha', hf'⟩
    · rw [if_neg h]; exact .inl ⟨_, h, rfl⟩
    rw [if_pos h]
    by_cases hf : f = 0
    · rw [if_pos hf]
      by_cases hp : hasB e' e = true
      · rw [if_pos hp]
        by_cases hu : underB b c e b' c' e' = true
        · rw [if_pos hu]
          refine .inr ⟨rfl, rfl, ha', ?_, hu⟩
          rw [under_iff] at hu
          show rightB true b c d e f = true
          rw [right_iff] at hr hr' ⊢
          obtain ⟨q1, q2, q3, q4, q5, q6, q7, q8, q9, q10, q11⟩ := hr
          obtain ⟨p1, p2, p3, p4, p5, p6, p7, p8, p9, p10, p11⟩ := hr'
          have p12 := p11 ha'
          exact ⟨q1, q2, q3, q4, q5, q6, q7, q8, q9, q10, fun _ => ⟨by omega, by omega⟩⟩
        · rw [if_neg hu]; exact .inl ⟨43, by omega, rfl⟩
      · rw [if_neg hp]; exact .inl ⟨44, by omega, rfl⟩
    · rw [if_neg hf]; exact .inl ⟨42, by omega, rfl⟩
  · rw [if_neg hr]; exact .inl ⟨1, by omega, rfl⟩
theorem less_j1 (k : Nat) (hk : 8 ≤ k) (of : Bool × Int × Int × Int × Int × Int) (t : Bool × Int × Int × Int × Int × Int × Int) (h : LessP of t) :
    seizinlaw04_DeriveLess.j1 (k + 1) true t.2.2.2.2.2.2 t.1 t.2.1 t.2.2.1 t.2.2.2.1 t.2.2.2.2.1 t.2.2.2.2.2.1 of.1 of.2.1 of.2.2.1 of.2.2.2.1 of.2.2.2.2.1 of.2.2.2.2.2 = some true := by
  simp only [seizinlaw04_DeriveLess.j1]
  rcases h with ⟨z, hz, rfl⟩ | ⟨h0, h1, h2, h3, h4⟩
  · unfold zz; simp [hz]
  · rw [if_pos h0]
    simp only [if_true]
    rw [if_pos h1, if_pos h2, refRight_eq, h3]
    simp only [Option.bind_some, if_true]
    rw [refUnder_eq k hk, h4]; rfl
theorem DeriveLess (a0_0 : Bool) (a0_1 a0_2 a0_3 a0_4 a0_5 : Int) (a1_0 : Bool) (a1_1 a1_2 a1_3 a1_4 a1_5 : Int) (a2 a3 : Int) (w0_1 : I64 a0_1) (w0_2 : I64 a0_2) (w0_3 : I64 a0_3) (w0_4 : I64 a0_4) (w0_5 : I64 a0_5) (w1_1 : I64 a1_1) (w1_2 : I64 a1_2) (w1_3 : I64 a1_3) (w1_4 : I64 a1_4) (w1_5 : I64 a1_5) (w2 : I64 a2) (w3 : 0 ≤ a3 ∧ a3 ≤ 255) : ∃ k, seizinlaw04_DeriveLess.f k a0_0 a0_1 a0_2 a0_3 a0_4 a0_5 a1_0 a1_1 a1_2 a1_3 a1_4 a1_5 a2 a3 = some true := by
  refine ⟨20, ?_⟩
  unfold seizinlaw04_DeriveLess.f
  rw [head_eq, refRight_eq, refRight_eq]
  simp only [Option.bind_some]
  have ej : ∀ x, seizinlaw04_DeriveLess.j0 (19 + 1) a2 a3 true x a0_0 a0_1 a0_2 a0_3 a0_4 a0_5 a1_0 a1_1 a1_2 a1_3 a1_4 a1_5 = some true := by
    intro x
    simp only [seizinlaw04_DeriveLess.j0]
    cases x
    · simp only [Bool.false_eq_true, if_false]
      rw [Bounds_eq _ _ _ _ _ _ _ w0_2 w0_4, Perms_eq _ _ _ _ _ _ _ w0_4 w2, Move_eq _ _ _ _ _ _ _ w0_4, Seal_eq _ _ _ _ _ _ _ _ _ _ _ _ w0_4 w1_2 w1_4, Unseal_eq _ _ _ _ _ _ _ _ _ _ _ _ w0_4 w1_2 w1_4, Enter_eq _ _ _ _ _ _ w0_4, Build_eq _ _ _ _ _ _ _ _ _ _ _ _ w0_4 w1_4]
      simp only [Option.bind_some, if_true]
      split
      · exact less_j1 18 (by omega) (a0_0, a0_1, a0_2, a0_3, a0_4, a0_5) _ (less_bounds _ _ _ _ _ _ _)
      split
      · exact less_j1 18 (by omega) (a0_0, a0_1, a0_2, a0_3, a0_4, a0_5) _ (less_perms _ _ _ _ _ _ _)
      split
      · cases a0_0
        · rw [if_neg (by simp), move_tag]; rfl
        · rw [if_pos rfl]; exact less_j1 18 (by omega) (true, a0_1, a0_2, a0_3, a0_4, a0_5) _ (less_move _ _ _ _ _ _)
      split
      · exact less_j1 18 (by omega) (a0_0, a0_1, a0_2, a0_3, a0_4, a0_5) _ (less_seal _ _ _ _ _ _ _ _ _ _ _ _)
      split
      · exact less_j1 18 (by omega) (a0_0, a0_1, a0_2, a0_3, a0_4, a0_5) _ (less_unseal _ _ _ _ _ _ _ _ _ _ _ _)
      split
      · exact less_j1 18 (by omega) (a0_0, a0_1, a0_2, a0_3, a0_4, a0_5) _ (less_enter _ _ _ _ _ _)
      · exact less_j1 18 (by omega) (a1_0, a1_1, a1_2, a1_3, a1_4, a1_5) _ (less_build _ _ _ _ _ _ _ _ _ _ _ _)
    · rw [if_pos rfl]
  split
  · exact ej _
  · exact ej _

end Go.Proofs.Ytgkmacgckoifaaa.Pure
