-- written by a changed copy of the kit's print program, for this claim
import Derived.Test.YtldgecnmmklldaaPSzx0
import Derived.Test.YtldgecnmmklldaaPSzx1
namespace Go.Proofs.Ytldgecnmmklldaa.PSz
open Go.RowKit Go.Proofs.YtldgecnmmklldaaW.PrintWords Go.Proofs.YtldgecnmmklldaaW.PrintLast Go.Proofs.YtldgecnmmklldaaW.PrintMore
attribute [local go_sem] max2_int min2_int max_two min_two max_three min_three max_four min_four   -- for this text's walks alone
set_option linter.unusedVariables false
set_option linter.unusedSimpArgs false

/-! ### seizinref11_Class: function 38 -/
def seizinref11_Class.l0 : Nat → Int → List Int → Int → Option (Int)
  | 0, _, _, _ => none
  | k + 1, x3, x5, x6 => if x6 < (x5.length : Int) then (if 0 ≤ x6 then (if (rd x5 x6) = x3 then (some x6) else (seizinref11_Class.l0 k x3 x5 (wrap64 (x6 + 1)))) else (none)) else (some 14)
def seizinref11_Class.f (k : Nat) (a0 : Int) : Option (Int) := (seizinref11_Round.f k a0).bind fun bt131 => (if bt131.2 = true then ((seizinref11_Sizes.f).bind fun t133 => (seizinref11_Class.l0 k bt131.1 t133 0)) else (some (-1)))
theorem seizinref11_Class.mono_l : ∀ k, (∀ y0 y1 y2, LeO (seizinref11_Class.l0 k y0 y1 y2) (seizinref11_Class.l0 (k + 1) y0 y1 y2))
  | 0 => fun _ _ _ r h => by simp [seizinref11_Class.l0] at h
  | k + 1 => by
    have ih0 := seizinref11_Class.mono_l k
    · intro y0 y1 y2
      unfold seizinref11_Class.l0
      repeat' first
      | (with_reducible exact ih0 _ _ _)
      | (with_reducible exact seizinref11_Round.mono _ _)
      | (with_reducible exact LeO.refl _)
      | (with_reducible exact LeO.none _)
      | (with_reducible refine LeO.ite ?_ ?_)
      | (with_reducible refine LeO.bind ?_ (fun _ => ?_))
      | exact ih0 _ _ _
      | exact seizinref11_Round.mono _ _
      | exact LeO.none _
      | refine LeO.ite ?_ ?_
      | refine LeO.bind ?_ (fun _ => ?_)
theorem seizinref11_Class.mono : ∀ a0 k, LeO (seizinref11_Class.f k a0) (seizinref11_Class.f (k + 1) a0) := by
  intro a0 k
  have ih0 := seizinref11_Class.mono_l k
  unfold seizinref11_Class.f
  repeat' first
      | (with_reducible exact ih0 _ _ _)
      | (with_reducible exact seizinref11_Round.mono _ _)
      | (with_reducible exact LeO.refl _)
      | (with_reducible exact LeO.none _)
      | (with_reducible refine LeO.ite ?_ ?_)
      | (with_reducible refine LeO.bind ?_ (fun _ => ?_))
      | exact ih0 _ _ _
      | exact seizinref11_Round.mono _ _
      | exact LeO.none _
      | refine LeO.ite ?_ ?_
      | refine LeO.bind ?_ (fun _ => ?_)
set_option maxHeartbeats 8000000 in
set_option maxRecDepth 100000 in
theorem seizinref11_Class.calls (k : Nat) (a0 : Int) (r : Int) (w : World) (h : seizinref11_Class.f k a0 = some r) :
    Calls Try.prog 38 #[.int .i64 a0] w fun e w' => e = .returned (.int .i64 r) ∧ Below w.heap.size w w' := by
  have HB := Aside0.mk (Below.refl w.heap.size w)
  have H : ((seizinref11_Round.f k a0).bind fun bt131 => (if bt131.2 = true then ((seizinref11_Sizes.f).bind fun t133 => (seizinref11_Class.l0 k bt131.1 t133 0)) else (some (-1)))) = some r := h
  clear h
  replace H := Option.bind_eq_some_iff.mp H
  obtain ⟨⟨t131, t132⟩, A20, H⟩ := H
  replace H : (if t132 = true then ((seizinref11_Sizes.f).bind fun t133 => (seizinref11_Class.l0 k t131 t133 0)) else (some (-1))) = some r := H
  have A2 := Aside0.mk A20
  clear A20
  by_cases c3 : t132 = true
  · subst c3
    have H1 : ((seizinref11_Sizes.f).bind fun t133 => (seizinref11_Class.l0 k t131 t133 0)) = some r := by rw [if_pos rfl] at H; exact H
    clear H
    have H := H1
    clear H1
    replace H := Option.bind_eq_some_iff.mp H
    obtain ⟨t133, A40, H⟩ := H
    replace H : (seizinref11_Class.l0 k t131 t133 0) = some r := H
    have A4 := Aside0.mk A40
    clear A40
    have H' := Aside0.mk H
    clear H
    go_enter Try.func38, Try.ntmps38
    go_wp2_with (first | ((with_reducible refine gate_callee (f := 36) rfl ?_); refine goesL_ (some 9) rfl rfl Try.func36 (by kernel_rfl) rfl #[.int .i64 a0] rfl (by (try simp only [List.map_toArray, List.map_cons, List.map_nil]); first | done | rfl | (simp only [List.length_drop, List.length_take]; rfl)) ?_; (with_reducible refine (seizinref11_Round.calls k a0 t131 true _ A2.out).mono ?_); rintro e w5 ⟨rfl, hb⟩; refine ⟨_, rfl, ?_⟩; have n0_ := Aside0.mk (below_step (by repeat (first | (with_reducible first | exact HB.out | apply below_alloc | apply pw_below_drewN | apply below_drew1) | exact HB.out)) hb); clear HB; have HB := n0_; clear n0_; (try clear hb); (try clear hb2); (try clear hk); (try clear hi)) | ((with_reducible refine gate_callee (f := 41) rfl ?_); refine goesL_ (some 14) rfl rfl Try.func41 (by kernel_rfl) rfl #[] rfl (by (try simp only [List.map_toArray, List.map_cons, List.map_nil]); first | done | rfl | (simp only [List.length_drop, List.length_take]; rfl)) ?_; (with_reducible refine (seizinref11_Sizes.calls  t133 _ A4.out).mono ?_); rintro e w6 ⟨v134, rfl, ho0, hb⟩; refine ⟨_, rfl, ?_⟩; have n0_ := Aside0.mk (Kd.R_lower ho0 (below_size (by repeat (first | (with_reducible first | exact HB.out | apply below_alloc | apply pw_below_drewN | apply below_drew1) | exact HB.out)))); have n1_ := Aside0.mk (below_step (by repeat (first | (with_reducible first | exact HB.out | apply below_alloc | apply pw_below_drewN | apply below_drew1) | exact HB.out)) hb); clear HB; have HO135 := n0_; have HB := n1_; clear n0_ n1_; (try clear hb); (try clear hb2); (try clear hk); (try clear hi); (try clear ho0)))
    go_loopg [6] k (fun kq v6 w' => ∃ (x6_1 : Int), v6 = .int .i64 x6_1 ∧ Aside0 (seizinref11_Class.l0 kq t131 t133 x6_1 = some r) ∧ Aside0 (kq ≤ k) ∧ Aside0 (Kd.R (Kd.int .i64) 3 w' w.heap.size (fun _ => True) v134 t133) ∧ Aside0 (Below w.heap.size w w'))
    case atStart => exact ⟨(0), (by first | rfl | (simp; done) | (simp [*]; done)), H', ⟨Nat.le_refl _⟩, ⟨by (with_reducible repeat (first | apply Kd.R_alloc | apply Kd.R_drewN | apply Kd.R_drew)); exact HO135.out⟩, ⟨by repeat (first | (with_reducible first | exact HB.out | apply below_alloc | apply pw_below_drewN | apply below_drew1) | exact HB.out)⟩⟩
    case round =>
      clear H'
      try clear p2
      try clear c3
      try clear c4
      obtain ⟨x6_1, rfl, HA, HK1, HO_5, HB⟩ := hrel
      cases gk with
      | zero => exact absurd HA.out (by simp [seizinref11_Class.l0])
      | succ k1 =>
        have H := HA.out
        clear HA
        simp only [seizinref11_Class.l0] at H
        by_cases c7 : x6_1 < (t133.length : Int)
        · rw [if_pos c7] at H
          have c7b0 : decide (x6_1 < (t133.length : Int)) = true := decide_eq_true c7
          clear c7
          by_cases c8 : 0 ≤ x6_1
          · rw [if_pos c8] at H
            have c8b0 : decide (0 ≤ x6_1) = true := decide_eq_true c8
            clear c8
            by_cases c9 : (rd t133 x6_1) = t131
            · rw [if_pos c9] at H
              have c9b0 : ((rd t133 x6_1) == t131) = true := beq_iff_eq.mpr c9
              have c9b1 : ((rd t133 x6_1) != t131) = false := bne_eq_false_iff_eq.mpr c9
              clear c9
              obtain rfl := Option.some.inj H
              obtain ⟨Ao10, co10, eo10⟩ := Kd.R_slice HO_5.out
              subst eo10
              have p136 : 0 ≤ (x6_1 : Int) := of_decide_eq_true (by first | (with_reducible assumption) | assumption)
              have q136 : x6_1 < (t133.length : Int) := of_decide_eq_true (by first | (with_reducible assumption) | assumption)
              obtain ⟨ad136, e136, hx136_0⟩ := Kd.at_int (Kd.R_reads' HO_5.out).2.2 x6_1 p136 q136
              cases e136
              replace p136 := eq_true p136
              replace q136 := eq_true q136
              go_wp2
              go_ret
              exact ⟨by first | rfl | (simp [errW_none, errW_some] <;> rfl) | (simp [*, errW_none, errW_some] <;> rfl), by repeat (first | (with_reducible first | exact HB.out | apply below_alloc | apply pw_below_drewN | apply below_drew1) | exact HB.out)⟩
            · rw [if_neg c9] at H
              have c9b0 : ((rd t133 x6_1) == t131) = false := beq_eq_false_iff_ne.mpr c9
              have c9b1 : ((rd t133 x6_1) != t131) = true := bne_iff_ne.mpr c9
              have H' := Aside0.mk H
              clear H
              obtain ⟨Ao11, co11, eo11⟩ := Kd.R_slice HO_5.out
              subst eo11
              have p136 : 0 ≤ (x6_1 : Int) := of_decide_eq_true (by first | (with_reducible assumption) | assumption)
              have q136 : x6_1 < (t133.length : Int) := of_decide_eq_true (by first | (with_reducible assumption) | assumption)
              obtain ⟨ad136, e136, hx136_0⟩ := Kd.at_int (Kd.R_reads' HO_5.out).2.2 x6_1 p136 q136
              cases e136
              replace p136 := eq_true p136
              replace q136 := eq_true q136
              go_wp2
              go_roundg k1
              case measure => have := HK1.out; omega
              case rel => exact ⟨(wrap64 (x6_1 + 1)), (by first | rfl | (simp; done) | (simp [*]; done)), H', ⟨by have := HK1.out; omega⟩, ⟨by (with_reducible repeat (first | apply Kd.R_alloc | apply Kd.R_drewN | apply Kd.R_drew)); exact HO_5.out⟩, ⟨by repeat (first | (with_reducible first | exact HB.out | apply below_alloc | apply pw_below_drewN | apply below_drew1) | exact HB.out)⟩⟩
          · rw [if_neg c8] at H
            exact absurd H (by simp)
        · rw [if_neg c7] at H
          have c7b0 : decide (x6_1 < (t133.length : Int)) = false := decide_eq_false c7
          clear c7
          obtain rfl := Option.some.inj H
          obtain ⟨Ao12, co12, eo12⟩ := Kd.R_slice HO_5.out
          subst eo12
          go_wp2
          go_ret
          exact ⟨by first | rfl | (simp [errW_none, errW_some] <;> rfl) | (simp [*, errW_none, errW_some] <;> rfl), by repeat (first | (with_reducible first | exact HB.out | apply below_alloc | apply pw_below_drewN | apply below_drew1) | exact HB.out)⟩
  · replace c3 := Bool.eq_false_iff.mpr c3
    subst c3
    have H1 : (some (-1)) = some r := by rw [if_neg (show ¬ (false = true) by decide)] at H; exact H
    clear H
    have H := H1
    clear H1
    obtain rfl := Option.some.inj H
    go_enter Try.func38, Try.ntmps38
    go_wp2_with (first | ((with_reducible refine gate_callee (f := 36) rfl ?_); refine goesL_ (some 9) rfl rfl Try.func36 (by kernel_rfl) rfl #[.int .i64 a0] rfl (by (try simp only [List.map_toArray, List.map_cons, List.map_nil]); first | done | rfl | (simp only [List.length_drop, List.length_take]; rfl)) ?_; (with_reducible refine (seizinref11_Round.calls k a0 t131 false _ A2.out).mono ?_); rintro e w13 ⟨rfl, hb⟩; refine ⟨_, rfl, ?_⟩; have n0_ := Aside0.mk (below_step (by repeat (first | (with_reducible first | exact HB.out | apply below_alloc | apply pw_below_drewN | apply below_drew1) | exact HB.out)) hb); clear HB; have HB := n0_; clear n0_; (try clear hb); (try clear hb2); (try clear hk); (try clear hi)))
    go_ret
    exact ⟨by first | rfl | (simp [errW_none, errW_some] <;> rfl) | (simp [*, errW_none, errW_some] <;> rfl), by repeat (first | (with_reducible first | exact HB.out | apply below_alloc | apply pw_below_drewN | apply below_drew1) | exact HB.out)⟩

/-! ### seizinref07_SameInts: function 39 -/
def seizinref07_SameInts.l0 : Nat → List Int → List Int → Int → Option (Bool)
  | 0, _, _, _ => none
  | k + 1, x0, x1, x5 => if x5 < (x0.length : Int) then (if 0 ≤ x5 then (if x5 < (x1.length : Int) then (if (rd x0 x5) = (rd x1 x5) then (seizinref07_SameInts.l0 k x0 x1 (wrap64 (x5 + 1))) else (some false)) else (none)) else (none)) else (some true)
def seizinref07_SameInts.f (k : Nat) (l0 : List Int) (l1 : List Int) : Option (Bool) := if (l0.length : Int) = (l1.length : Int) then (seizinref07_SameInts.l0 k l0 l1 0) else (some false)
theorem seizinref07_SameInts.mono_l : ∀ k, (∀ y0 y1 y2, LeO (seizinref07_SameInts.l0 k y0 y1 y2) (seizinref07_SameInts.l0 (k + 1) y0 y1 y2))
  | 0 => fun _ _ _ r h => by simp [seizinref07_SameInts.l0] at h
  | k + 1 => by
    have ih0 := seizinref07_SameInts.mono_l k
    · intro y0 y1 y2
      unfold seizinref07_SameInts.l0
      repeat' first
      | (with_reducible exact ih0 _ _ _)
      | (with_reducible exact LeO.refl _)
      | (with_reducible exact LeO.none _)
      | (with_reducible refine LeO.ite ?_ ?_)
      | (with_reducible refine LeO.bind ?_ (fun _ => ?_))
      | exact ih0 _ _ _
      | exact LeO.none _
      | refine LeO.ite ?_ ?_
      | refine LeO.bind ?_ (fun _ => ?_)
theorem seizinref07_SameInts.mono : ∀ a0 a1 k, LeO (seizinref07_SameInts.f k a0 a1) (seizinref07_SameInts.f (k + 1) a0 a1) := by
  intro a0 a1 k
  have ih0 := seizinref07_SameInts.mono_l k
  unfold seizinref07_SameInts.f
  repeat' first
      | (with_reducible exact ih0 _ _ _)
      | (with_reducible exact LeO.refl _)
      | (with_reducible exact LeO.none _)
      | (with_reducible refine LeO.ite ?_ ?_)
      | (with_reducible refine LeO.bind ?_ (fun _ => ?_))
      | exact ih0 _ _ _
      | exact LeO.none _
      | refine LeO.ite ?_ ?_
      | refine LeO.bind ?_ (fun _ => ?_)
set_option maxHeartbeats 8000000 in
set_option maxRecDepth 100000 in
theorem seizinref07_SameInts.calls (k : Nat) (A0 : Option Addr) (c0 : Nat) (l0 : List Int) (A1 : Option Addr) (c1 : Nat) (l1 : List Int) (r : Bool) (w : World) (hr0 : Kd.C (Kd.int .i64) w A0 l0.length l0) (hc0 : l0.length ≤ c0) (hr1 : Kd.C (Kd.int .i64) w A1 l1.length l1) (hc1 : l1.length ≤ c1) (h : seizinref07_SameInts.f k l0 l1 = some r) :
    Calls Try.prog 39 #[.slice A0 l0.length c0, .slice A1 l1.length c1] w fun e w' => e = .returned (.bool r) ∧ Drawn0 w w' := by
  have HR0 := Aside0.mk hr0
  have HC0 := Aside0.mk hc0
  clear hr0 hc0
  have HR1 := Aside0.mk hr1
  have HC1 := Aside0.mk hc1
  clear hr1 hc1
  have H : (if (l0.length : Int) = (l1.length : Int) then (seizinref07_SameInts.l0 k l0 l1 0) else (some false)) = some r := h
  clear h
  by_cases c3 : (l0.length : Int) = (l1.length : Int)
  · rw [if_pos c3] at H
    have c3b0 : ((l0.length : Int) == (l1.length : Int)) = true := beq_iff_eq.mpr c3
    have c3b1 : ((l0.length : Int) != (l1.length : Int)) = false := bne_eq_false_iff_eq.mpr c3
    have c3b2 : (l0.length == l1.length) = true := by first | simpa using c3 | (simp at c3 ⊢; omega)
    clear c3
    have H' := Aside0.mk H
    clear H
    go_enter Try.func39, Try.ntmps39
    go_wp2
    repeat (go_quiet (fail); try go_wp2)
    go_loopg [5] k (fun kq v5 w' => ∃ (x5_1 : Int), v5 = .int .i64 x5_1 ∧ Aside0 (seizinref07_SameInts.l0 kq l0 l1 x5_1 = some r) ∧ Aside0 (kq ≤ k) ∧ Drawn0 w w')
    case atStart => exact ⟨(0), (by first | rfl | (simp; done) | (simp [*]; done)), H', ⟨Nat.le_refl _⟩, by repeat (first | exact Drawn0.refl _ | apply Drawn0.step)⟩
    case round =>
      clear H'
      try clear c1
      try clear p2
      try clear c3
      try clear c3b0
      try clear c3b1
      try clear c3b2
      obtain ⟨x5_1, rfl, HA, HK1, ⟨m1, rfl⟩⟩ := hrel
      cases gk with
      | zero => exact absurd HA.out (by simp [seizinref07_SameInts.l0])
      | succ k1 =>
        have H := HA.out
        clear HA
        simp only [seizinref07_SameInts.l0] at H
        by_cases c4 : x5_1 < (l0.length : Int)
        · rw [if_pos c4] at H
          have c4b0 : decide (x5_1 < (l0.length : Int)) = true := decide_eq_true c4
          clear c4
          by_cases c5 : 0 ≤ x5_1
          · rw [if_pos c5] at H
            have c5b0 : decide (0 ≤ x5_1) = true := decide_eq_true c5
            clear c5
            by_cases c6 : x5_1 < (l1.length : Int)
            · rw [if_pos c6] at H
              have c6b0 : decide (x5_1 < (l1.length : Int)) = true := decide_eq_true c6
              clear c6
              by_cases c7 : (rd l0 x5_1) = (rd l1 x5_1)
              · rw [if_pos c7] at H
                have c7b0 : ((rd l0 x5_1) == (rd l1 x5_1)) = true := beq_iff_eq.mpr c7
                have c7b1 : ((rd l0 x5_1) != (rd l1 x5_1)) = false := bne_eq_false_iff_eq.mpr c7
                clear c7
                have H' := Aside0.mk H
                clear H
                have p137 : 0 ≤ (x5_1 : Int) := of_decide_eq_true (by first | (with_reducible assumption) | assumption)
                have q137 : x5_1 < (l0.length : Int) := of_decide_eq_true (by first | (with_reducible assumption) | assumption)
                obtain ⟨ad137, e137, hx137_0⟩ := Kd.at_int HR0.out x5_1 p137 q137
                cases e137
                replace p137 := eq_true p137
                replace q137 := eq_true q137
                have p138 : 0 ≤ (x5_1 : Int) := of_decide_eq_true (by first | (with_reducible assumption) | assumption)
                have q138 : x5_1 < (l1.length : Int) := of_decide_eq_true (by first | (with_reducible assumption) | assumption)
                obtain ⟨ad138, e138, hx138_0⟩ := Kd.at_int HR1.out x5_1 p138 q138
                cases e138
                replace p138 := eq_true p138
                replace q138 := eq_true q138
                go_wp2
                repeat (go_quiet (fail); try go_wp2)
                go_roundg k1
                case measure => have := HK1.out; omega
                case rel => exact ⟨(wrap64 (x5_1 + 1)), (by first | rfl | (simp; done) | (simp [*]; done)), H', ⟨by have := HK1.out; omega⟩, by repeat (first | exact Drawn0.refl _ | apply Drawn0.step)⟩
              · rw [if_neg c7] at H
                have c7b0 : ((rd l0 x5_1) == (rd l1 x5_1)) = false := beq_eq_false_iff_ne.mpr c7
                have c7b1 : ((rd l0 x5_1) != (rd l1 x5_1)) = true := bne_iff_ne.mpr c7
                obtain rfl := Option.some.inj H
                have p137 : 0 ≤ (x5_1 : Int) := of_decide_eq_true (by first | (with_reducible assumption) | assumption)
                have q137 : x5_1 < (l0.length : Int) := of_decide_eq_true (by first | (with_reducible assumption) | assumption)
                obtain ⟨ad137, e137, hx137_0⟩ := Kd.at_int HR0.out x5_1 p137 q137
                cases e137
                replace p137 := eq_true p137
                replace q137 := eq_true q137
                have p138 : 0 ≤ (x5_1 : Int) := of_decide_eq_true (by first | (with_reducible assumption) | assumption)
                have q138 : x5_1 < (l1.length : Int) := of_decide_eq_true (by first | (with_reducible assumption) | assumption)
                obtain ⟨ad138, e138, hx138_0⟩ := Kd.at_int HR1.out x5_1 p138 q138
                cases e138
                replace p138 := eq_true p138
                replace q138 := eq_true q138
                go_wp2
                repeat (go_quiet (fail); try go_wp2)
                go_ret
                exact ⟨by first | rfl | (simp; done) | (simp [*]; done), by repeat (first | exact Drawn0.refl _ | apply Drawn0.step)⟩
            · rw [if_neg c6] at H
              exact absurd H (by simp)
          · rw [if_neg c5] at H
            exact absurd H (by simp)
        · rw [if_neg c4] at H
          have c4b0 : decide (x5_1 < (l0.length : Int)) = false := decide_eq_false c4
          clear c4
          obtain rfl := Option.some.inj H
          go_wp2
          repeat (go_quiet (fail); try go_wp2)
          go_ret
          exact ⟨by first | rfl | (simp; done) | (simp [*]; done), by repeat (first | exact Drawn0.refl _ | apply Drawn0.step)⟩
  · rw [if_neg c3] at H
    have c3b0 : ((l0.length : Int) == (l1.length : Int)) = false := beq_eq_false_iff_ne.mpr c3
    have c3b1 : ((l0.length : Int) != (l1.length : Int)) = true := bne_iff_ne.mpr c3
    have c3b2 : (l0.length == l1.length) = false := by first | simpa using c3 | (simp at c3 ⊢; omega)
    obtain rfl := Option.some.inj H
    go_enter Try.func39, Try.ntmps39
    go_wp2
    repeat (go_quiet (fail); try go_wp2)
    go_ret
    exact ⟨by first | rfl | (simp; done) | (simp [*]; done), by repeat (first | exact Drawn0.refl _ | apply Drawn0.step)⟩

/-! ### seizinlaw11_SizeTells: function 8 -/
def seizinlaw11_SizeTells.f (k : Nat) (a0 : Int) : Option (Bool) := (seizinlaw11_head.f).bind fun t139 => ((size_Round.f a0).bind fun bt140 => ((seizinref11_Round.f k a0).bind fun bt142 => (if t139 = true then (if bt140.1 = bt142.1 then (if (bt140.2 == bt142.2) = true then ((size_Class.f a0).bind fun t144 => ((seizinref11_Class.f k a0).bind fun t145 => (if t144 = t145 then ((size_Sizes.f).bind fun t146 => ((seizinref11_Sizes.f).bind fun t149 => ((seizinref07_SameInts.f k t146 t149).bind fun t152 => (some t152)))) else (some false)))) else (some false)) else (some false)) else (some false))))
theorem seizinlaw11_SizeTells.mono : ∀ a0 k, LeO (seizinlaw11_SizeTells.f k a0) (seizinlaw11_SizeTells.f (k + 1) a0) := by
  intro a0 k
  unfold seizinlaw11_SizeTells.f
  repeat' first
      | (with_reducible exact seizinref07_SameInts.mono _ _ _)
      | (with_reducible exact seizinref11_Class.mono _ _)
      | (with_reducible exact seizinref11_Round.mono _ _)
      | (with_reducible exact LeO.refl _)
      | (with_reducible exact LeO.none _)
      | (with_reducible refine LeO.ite ?_ ?_)
      | (with_reducible refine LeO.bind ?_ (fun _ => ?_))
      | exact seizinref07_SameInts.mono _ _ _
      | exact seizinref11_Class.mono _ _
      | exact seizinref11_Round.mono _ _
      | exact LeO.none _
      | refine LeO.ite ?_ ?_
      | refine LeO.bind ?_ (fun _ => ?_)
set_option maxHeartbeats 8000000 in
set_option maxRecDepth 100000 in
theorem seizinlaw11_SizeTells.calls (k : Nat) (a0 : Int) (r : Bool) (w : World) (h : seizinlaw11_SizeTells.f k a0 = some r) (hr_ : r = true) :
    Calls Try.prog 8 #[.int .i64 a0] w fun e w' => e = .returned (.bool r) ∧ Below w.heap.size w w' := by
  have HB := Aside0.mk (Below.refl w.heap.size w)
  have H : ((seizinlaw11_head.f).bind fun t139 => ((size_Round.f a0).bind fun bt140 => ((seizinref11_Round.f k a0).bind fun bt142 => (if t139 = true then (if bt140.1 = bt142.1 then (if (bt140.2 == bt142.2) = true then ((size_Class.f a0).bind fun t144 => ((seizinref11_Class.f k a0).bind fun t145 => (if t144 = t145 then ((size_Sizes.f).bind fun t146 => ((seizinref11_Sizes.f).bind fun t149 => ((seizinref07_SameInts.f k t146 t149).bind fun t152 => (some t152)))) else (some false)))) else (some false)) else (some false)) else (some false))))) = some r := h
  clear h
  replace H := Option.bind_eq_some_iff.mp H
  obtain ⟨t139, A20, H⟩ := H
  replace H : ((size_Round.f a0).bind fun bt140 => ((seizinref11_Round.f k a0).bind fun bt142 => (if t139 = true then (if bt140.1 = bt142.1 then (if (bt140.2 == bt142.2) = true then ((size_Class.f a0).bind fun t144 => ((seizinref11_Class.f k a0).bind fun t145 => (if t144 = t145 then ((size_Sizes.f).bind fun t146 => ((seizinref11_Sizes.f).bind fun t149 => ((seizinref07_SameInts.f k t146 t149).bind fun t152 => (some t152)))) else (some false)))) else (some false)) else (some false)) else (some false)))) = some r := H
  have A2 := Aside0.mk A20
  clear A20
  replace H := Option.bind_eq_some_iff.mp H
  obtain ⟨⟨t140, t141⟩, A30, H⟩ := H
  replace H : ((seizinref11_Round.f k a0).bind fun bt142 => (if t139 = true then (if t140 = bt142.1 then (if (t141 == bt142.2) = true then ((size_Class.f a0).bind fun t144 => ((seizinref11_Class.f k a0).bind fun t145 => (if t144 = t145 then ((size_Sizes.f).bind fun t146 => ((seizinref11_Sizes.f).bind fun t149 => ((seizinref07_SameInts.f k t146 t149).bind fun t152 => (some t152)))) else (some false)))) else (some false)) else (some false)) else (some false))) = some r := H
  have A3 := Aside0.mk A30
  clear A30
  replace H := Option.bind_eq_some_iff.mp H
  obtain ⟨⟨t142, t143⟩, A40, H⟩ := H
  replace H : (if t139 = true then (if t140 = t142 then (if (t141 == t143) = true then ((size_Class.f a0).bind fun t144 => ((seizinref11_Class.f k a0).bind fun t145 => (if t144 = t145 then ((size_Sizes.f).bind fun t146 => ((seizinref11_Sizes.f).bind fun t149 => ((seizinref07_SameInts.f k t146 t149).bind fun t152 => (some t152)))) else (some false)))) else (some false)) else (some false)) else (some false)) = some r := H
  have A4 := Aside0.mk A40
  clear A40
  by_cases c5 : t139 = true
  · subst c5
    have H1 : (if t140 = t142 then (if (t141 == t143) = true then ((size_Class.f a0).bind fun t144 => ((seizinref11_Class.f k a0).bind fun t145 => (if t144 = t145 then ((size_Sizes.f).bind fun t146 => ((seizinref11_Sizes.f).bind fun t149 => ((seizinref07_SameInts.f k t146 t149).bind fun t152 => (some t152)))) else (some false)))) else (some false)) else (some false)) = some r := by rw [if_pos rfl] at H; exact H
    clear H
    have H := H1
    clear H1
    by_cases c6 : t140 = t142
    · rw [if_pos c6] at H
      have c6b0 : (t140 == t142) = true := beq_iff_eq.mpr c6
      have c6b1 : (t140 != t142) = false := bne_eq_false_iff_eq.mpr c6
      clear c6
      by_cases c7 : (t141 == t143) = true
      · rw [if_pos c7] at H
        have c7b0 : (t141 == t143) = true := c7
        (try (have c7b1 : decide (t141 = t143) = true := by simpa using c7))
        (try (have c7b2 : (t141 == t143) = true := by simpa using c7))
        clear c7
        replace H := Option.bind_eq_some_iff.mp H
        obtain ⟨t144, A80, H⟩ := H
        replace H : ((seizinref11_Class.f k a0).bind fun t145 => (if t144 = t145 then ((size_Sizes.f).bind fun t146 => ((seizinref11_Sizes.f).bind fun t149 => ((seizinref07_SameInts.f k t146 t149).bind fun t152 => (some t152)))) else (some false))) = some r := H
        have A8 := Aside0.mk A80
        clear A80
        replace H := Option.bind_eq_some_iff.mp H
        obtain ⟨t145, A90, H⟩ := H
        replace H : (if t144 = t145 then ((size_Sizes.f).bind fun t146 => ((seizinref11_Sizes.f).bind fun t149 => ((seizinref07_SameInts.f k t146 t149).bind fun t152 => (some t152)))) else (some false)) = some r := H
        have A9 := Aside0.mk A90
        clear A90
        by_cases c10 : t144 = t145
        · rw [if_pos c10] at H
          have c10b0 : (t144 == t145) = true := beq_iff_eq.mpr c10
          have c10b1 : (t144 != t145) = false := bne_eq_false_iff_eq.mpr c10
          clear c10
          replace H := Option.bind_eq_some_iff.mp H
          obtain ⟨t146, A110, H⟩ := H
          replace H : ((seizinref11_Sizes.f).bind fun t149 => ((seizinref07_SameInts.f k t146 t149).bind fun t152 => (some t152))) = some r := H
          have A11 := Aside0.mk A110
          clear A110
          replace H := Option.bind_eq_some_iff.mp H
          obtain ⟨t149, A120, H⟩ := H
          replace H : ((seizinref07_SameInts.f k t146 t149).bind fun t152 => (some t152)) = some r := H
          have A12 := Aside0.mk A120
          clear A120
          replace H := Option.bind_eq_some_iff.mp H
          obtain ⟨t152, A130, H⟩ := H
          replace H : (some t152) = some r := H
          have A13 := Aside0.mk A130
          clear A130
          clear hr_
          obtain rfl := Option.some.inj H
          go_enter Try.func8, Try.ntmps8
          go_wp2_with (first | ((with_reducible refine gate_callee (f := 34) rfl ?_); refine goesL_ (some 8) rfl rfl Try.func34 (by kernel_rfl) rfl #[] rfl (by (try simp only [List.map_toArray, List.map_cons, List.map_nil]); first | done | rfl | (simp only [List.length_drop, List.length_take]; rfl)) ?_; (with_reducible refine (seizinlaw11_head.calls  true _ A2.out).mono ?_); rintro e w14 ⟨rfl, hb⟩; refine ⟨_, rfl, ?_⟩; have n0_ := Aside0.mk (below_step (by repeat (first | (with_reducible first | exact HB.out | apply below_alloc | apply pw_below_drewN | apply below_drew1) | exact HB.out)) hb); clear HB; have HB := n0_; clear n0_; (try clear hb); (try clear hb2); (try clear hk); (try clear hi)) | ((with_reducible refine gate_callee (f := 35) rfl ?_); refine goesL_ (some 11) rfl rfl Try.func35 (by kernel_rfl) rfl #[.int .i64 a0] rfl (by (try simp only [List.map_toArray, List.map_cons, List.map_nil]); first | done | rfl | (simp only [List.length_drop, List.length_take]; rfl)) ?_; (with_reducible refine (size_Round.calls a0 t140 t141 _ A3.out).mono ?_); rintro e w15 ⟨rfl, hb⟩; refine ⟨_, rfl, ?_⟩; have n0_ := Aside0.mk (below_step (by repeat (first | (with_reducible first | exact HB.out | apply below_alloc | apply pw_below_drewN | apply below_drew1) | exact HB.out)) hb); clear HB; have HB := n0_; clear n0_; (try clear hb); (try clear hb2); (try clear hk); (try clear hi)) | ((with_reducible refine gate_callee (f := 36) rfl ?_); refine goesL_ (some 16) rfl rfl Try.func36 (by kernel_rfl) rfl #[.int .i64 a0] rfl (by (try simp only [List.map_toArray, List.map_cons, List.map_nil]); first | done | rfl | (simp only [List.length_drop, List.length_take]; rfl)) ?_; (with_reducible refine (seizinref11_Round.calls k a0 t142 t143 _ A4.out).mono ?_); rintro e w16 ⟨rfl, hb⟩; refine ⟨_, rfl, ?_⟩; have n0_ := Aside0.mk (below_step (by repeat (first | (with_reducible first | exact HB.out | apply below_alloc | apply pw_below_drewN | apply below_drew1) | exact HB.out)) hb); clear HB; have HB := n0_; clear n0_; (try clear hb); (try clear hb2); (try clear hk); (try clear hi)) | (go_at_call 37; (with_reducible refine (size_Class.calls a0 t144 _ A8.out).mono ?_); rintro e w17 ⟨rfl, hb⟩; have n0_ := Aside0.mk (below_step (by repeat (first | (with_reducible first | exact HB.out | apply below_alloc | apply pw_below_drewN | apply below_drew1) | exact HB.out)) hb); clear HB; have HB := n0_; clear n0_; (try clear hb); (try clear hb2); (try clear hk); (try clear hi)) | (go_at_call 38; (with_reducible refine (seizinref11_Class.calls k a0 t145 _ A9.out).mono ?_); rintro e w18 ⟨rfl, hb⟩; have n0_ := Aside0.mk (below_step (by repeat (first | (with_reducible first | exact HB.out | apply below_alloc | apply pw_below_drewN | apply below_drew1) | exact HB.out)) hb); clear HB; have HB := n0_; clear n0_; (try clear hb); (try clear hb2); (try clear hk); (try clear hi)) | (go_at_call 40; (with_reducible refine (size_Sizes.calls  t146 _ A11.out).mono ?_); rintro e w19 ⟨v147, rfl, ho0, hb⟩; have n0_ := Aside0.mk (Kd.R_lower ho0 (below_size (by repeat (first | (with_reducible first | exact HB.out | apply below_alloc | apply pw_below_drewN | apply below_drew1) | exact HB.out)))); have n1_ := Aside0.mk (below_step (by repeat (first | (with_reducible first | exact HB.out | apply below_alloc | apply pw_below_drewN | apply below_drew1) | exact HB.out)) hb); clear HB; have HO148 := n0_; have HB := n1_; clear n0_ n1_; (try clear hb); (try clear hb2); (try clear hk); (try clear hi); (try clear ho0)) | (go_at_call 41; (with_reducible refine (seizinref11_Sizes.calls  t149 _ A12.out).mono ?_); rintro e w20 ⟨v150, rfl, ho0, hb⟩; have n0_ := Aside0.mk (Kd.R_elder' (by (with_reducible repeat (first | apply Kd.R_alloc | apply Kd.R_drewN | apply Kd.R_drew)); exact HO148.out) (Kd.R_base ho0) hb); have n1_ := Aside0.mk (Kd.R_lower (Kd.R_new' ho0 (Kd.R_lt (by (with_reducible repeat (first | apply Kd.R_alloc | apply Kd.R_drewN | apply Kd.R_drew)); exact HO148.out))) (below_size (by repeat (first | (with_reducible first | exact HB.out | apply below_alloc | apply pw_below_drewN | apply below_drew1) | exact HB.out)))); have n2_ := Aside0.mk (below_step (by repeat (first | (with_reducible first | exact HB.out | apply below_alloc | apply pw_below_drewN | apply below_drew1) | exact HB.out)) hb); clear HO148; clear HB; have HO148 := n0_; have HO151 := n1_; have HB := n2_; clear n0_ n1_ n2_; (try clear hb); (try clear hb2); (try clear hk); (try clear hi); (try clear ho0); obtain ⟨Ao21, co21, eo21⟩ := Kd.R_slice HO148.out; subst eo21; obtain ⟨Ao22, co22, eo22⟩ := Kd.R_slice HO151.out; subst eo22) | (go_at_call 39; (with_reducible refine (seizinref07_SameInts.calls k _ _ t146 _ _ t149 t152 _ ?side1 ?side2 ?side3 ?side4 A13.out).mono ?_); (case side1 => repeat (first | exact (Kd.R_reads' HO148.out).2.2 | (with_reducible refine Kd.C_alloc ?_ _) | (with_reducible refine Kd.C_drewN ?_ _) | (with_reducible refine Kd.C_drew ?_))); (case side2 => exact (Kd.R_reads' HO148.out).2.1); (case side3 => repeat (first | exact (Kd.R_reads' HO151.out).2.2 | (with_reducible refine Kd.C_alloc ?_ _) | (with_reducible refine Kd.C_drewN ?_ _) | (with_reducible refine Kd.C_drew ?_))); (case side4 => exact (Kd.R_reads' HO151.out).2.1); rintro e w' ⟨rfl, ⟨nd, rfl⟩⟩))
          go_ret
          exact ⟨by first | rfl | (simp [errW_none, errW_some] <;> rfl) | (simp [*, errW_none, errW_some] <;> rfl), by repeat (first | (with_reducible first | exact HB.out | apply below_alloc | apply pw_below_drewN | apply below_drew1) | exact HB.out)⟩
        · rw [if_neg c10] at H
          have c10b0 : (t144 == t145) = false := beq_eq_false_iff_ne.mpr c10
          have c10b1 : (t144 != t145) = true := bne_iff_ne.mpr c10
          exact absurd ((Option.some.inj H).trans hr_) (by decide)
      · rw [if_neg c7] at H
        have c7b0 : (t141 == t143) = false := by simpa using c7
        (try (have c7b1 : decide (t141 = t143) = false := by simpa using c7))
        (try (have c7b2 : (t141 == t143) = false := by simpa using c7))
        (try (have c7b3 : ¬ (t141 = t143) := by simpa using c7))
        clear c7
        exact absurd ((Option.some.inj H).trans hr_) (by decide)
    · rw [if_neg c6] at H
      have c6b0 : (t140 == t142) = false := beq_eq_false_iff_ne.mpr c6
      have c6b1 : (t140 != t142) = true := bne_iff_ne.mpr c6
      exact absurd ((Option.some.inj H).trans hr_) (by decide)
  · replace c5 := Bool.eq_false_iff.mpr c5
    subst c5
    have H1 : (some false) = some r := by rw [if_neg (show ¬ (false = true) by decide)] at H; exact H
    clear H
    have H := H1
    clear H1
    exact absurd ((Option.some.inj H).trans hr_) (by decide)

/-- THE ONE PURE STATEMENT of seizinlaw11_SizeTells: yours. -/
def seizinlaw11_SizeTells.Pure : Prop := ∀ (a0 : Int), (Lit.int .i64 a0).wf = true → ∃ k, seizinlaw11_SizeTells.f k a0 = some true
theorem seizinlaw11_SizeTells.walk (P : seizinlaw11_SizeTells.Pure) (a0 : Int) (w : World) (w0 : (Lit.int .i64 a0).wf = true) :
    Calls Try.prog 8 #[.int .i64 a0] w fun e w' => e = .returned (.bool true) ∧ Below w.heap.size w w' := by
  obtain ⟨k, h⟩ := P a0 w0
  refine (seizinlaw11_SizeTells.calls k a0 true w h rfl).mono ?_
  rintro e w' ⟨rfl, hd⟩
  exact ⟨rfl, hd⟩

/-! ### seizinlaw11_SizeLeast: function 9 -/
mutual
def seizinlaw11_SizeLeast.j0 : Nat → Bool → Int → Int → Bool → Option (Bool)
  | 0, _, _, _, _ => none
  | k + 1, x3, x4, x5, x48 => if x48 = true then (some false) else ((size_Sizes.f).bind fun t158 => (seizinlaw11_SizeLeast.l0 k x3 x4 x5 t158 0))
def seizinlaw11_SizeLeast.l0 : Nat → Bool → Int → Int → List Int → Int → Option (Bool)
  | 0, _, _, _, _, _ => none
  | k + 1, x3, x4, x5, x9, x10 => if x10 < (x9.length : Int) then (if 0 ≤ x10 then (if (rd x9 x10) ≥ x4 then (if (rd x9 x10) < x5 then (some false) else (seizinlaw11_SizeLeast.l0 k x3 x4 x5 x9 (wrap64 (x10 + 1)))) else (seizinlaw11_SizeLeast.l0 k x3 x4 x5 x9 (wrap64 (x10 + 1)))) else (none)) else (if x3 = true then (if x4 ≤ 1024 then (some true) else (if (wrap64 (x5 - x4)) < 256 then (some ((Int.tmod x5 256) == 0)) else (some false))) else (some false))
end
def seizinlaw11_SizeLeast.f (k : Nat) (a0 : Int) : Option (Bool) := (seizinlaw11_head.f).bind fun t153 => ((size_Round.f (wrap64 (a0))).bind fun bt154 => ((size_Round.f bt154.1).bind fun bt156 => (if bt154.2 = true then (if bt156.2 = true then (if bt156.1 = bt154.1 then (if bt154.1 < (wrap64 (a0)) then (seizinlaw11_SizeLeast.j0 k t153 (wrap64 (a0)) bt154.1 true) else (if bt154.1 < 16 then (seizinlaw11_SizeLeast.j0 k t153 (wrap64 (a0)) bt154.1 true) else (seizinlaw11_SizeLeast.j0 k t153 (wrap64 (a0)) bt154.1 ((Int.tmod bt154.1 16) != 0)))) else (seizinlaw11_SizeLeast.j0 k t153 (wrap64 (a0)) bt154.1 true)) else (seizinlaw11_SizeLeast.j0 k t153 (wrap64 (a0)) bt154.1 true)) else (seizinlaw11_SizeLeast.j0 k t153 (wrap64 (a0)) bt154.1 true))))
theorem seizinlaw11_SizeLeast.mono_l : ∀ k, (∀ y0 y1 y2 y3, LeO (seizinlaw11_SizeLeast.j0 k y0 y1 y2 y3) (seizinlaw11_SizeLeast.j0 (k + 1) y0 y1 y2 y3)) ∧ (∀ y0 y1 y2 y3 y4, LeO (seizinlaw11_SizeLeast.l0 k y0 y1 y2 y3 y4) (seizinlaw11_SizeLeast.l0 (k + 1) y0 y1 y2 y3 y4))
  | 0 => ⟨fun _ _ _ _ r h => by simp [seizinlaw11_SizeLeast.j0] at h, fun _ _ _ _ _ r h => by simp [seizinlaw11_SizeLeast.l0] at h⟩
  | k + 1 => by
    obtain ⟨ih0, ih1⟩ := seizinlaw11_SizeLeast.mono_l k
    refine ⟨?_, ?_⟩
    · intro y0 y1 y2 y3
      unfold seizinlaw11_SizeLeast.j0
      repeat' first
      | (with_reducible exact ih0 _ _ _ _)
      | (with_reducible exact ih1 _ _ _ _ _)
      | (with_reducible exact LeO.refl _)
      | (with_reducible exact LeO.none _)
      | (with_reducible refine LeO.ite ?_ ?_)
      | (with_reducible refine LeO.bind ?_ (fun _ => ?_))
      | exact ih0 _ _ _ _
      | exact ih1 _ _ _ _ _
      | exact LeO.none _
      | refine LeO.ite ?_ ?_
      | refine LeO.bind ?_ (fun _ => ?_)
    · intro y0 y1 y2 y3 y4
      unfold seizinlaw11_SizeLeast.l0
      repeat' first
      | (with_reducible exact ih0 _ _ _ _)
      | (with_reducible exact ih1 _ _ _ _ _)
      | (with_reducible exact LeO.refl _)
      | (with_reducible exact LeO.none _)
      | (with_reducible refine LeO.ite ?_ ?_)
      | (with_reducible refine LeO.bind ?_ (fun _ => ?_))
      | exact ih0 _ _ _ _
      | exact ih1 _ _ _ _ _
      | exact LeO.none _
      | refine LeO.ite ?_ ?_
      | refine LeO.bind ?_ (fun _ => ?_)
theorem seizinlaw11_SizeLeast.mono : ∀ a0 k, LeO (seizinlaw11_SizeLeast.f k a0) (seizinlaw11_SizeLeast.f (k + 1) a0) := by
  intro a0 k
  obtain ⟨ih0, ih1⟩ := seizinlaw11_SizeLeast.mono_l k
  unfold seizinlaw11_SizeLeast.f
  repeat' first
      | (with_reducible exact ih0 _ _ _ _)
      | (with_reducible exact ih1 _ _ _ _ _)
      | (with_reducible exact LeO.refl _)
      | (with_reducible exact LeO.none _)
      | (with_reducible refine LeO.ite ?_ ?_)
      | (with_reducible refine LeO.bind ?_ (fun _ => ?_))
      | exact ih0 _ _ _ _
      | exact ih1 _ _ _ _ _
      | exact LeO.none _
      | refine LeO.ite ?_ ?_
      | refine LeO.bind ?_ (fun _ => ?_)
set_option maxHeartbeats 8000000 in
set_option maxRecDepth 100000 in
theorem seizinlaw11_SizeLeast.calls (k : Nat) (a0 : Int) (r : Bool) (w : World) (h : seizinlaw11_SizeLeast.f k a0 = some r) (hr_ : r = true) :
    Calls Try.prog 9 #[.int .u16 a0] w fun e w' => e = .returned (.bool r) ∧ Below w.heap.size w w' := by
  have HB := Aside0.mk (Below.refl w.heap.size w)
  have H : ((seizinlaw11_head.f).bind fun t153 => ((size_Round.f (wrap64 (a0))).bind fun bt154 => ((size_Round.f bt154.1).bind fun bt156 => (if bt154.2 = true then (if bt156.2 = true then (if bt156.1 = bt154.1 then (if bt154.1 < (wrap64 (a0)) then (seizinlaw11_SizeLeast.j0 k t153 (wrap64 (a0)) bt154.1 true) else (if bt154.1 < 16 then (seizinlaw11_SizeLeast.j0 k t153 (wrap64 (a0)) bt154.1 true) else (seizinlaw11_SizeLeast.j0 k t153 (wrap64 (a0)) bt154.1 ((Int.tmod bt154.1 16) != 0)))) else (seizinlaw11_SizeLeast.j0 k t153 (wrap64 (a0)) bt154.1 true)) else (seizinlaw11_SizeLeast.j0 k t153 (wrap64 (a0)) bt154.1 true)) else (seizinlaw11_SizeLeast.j0 k t153 (wrap64 (a0)) bt154.1 true))))) = some r := h
  clear h
  replace H := Option.bind_eq_some_iff.mp H
  obtain ⟨t153, A20, H⟩ := H
  replace H : ((size_Round.f (wrap64 (a0))).bind fun bt154 => ((size_Round.f bt154.1).bind fun bt156 => (if bt154.2 = true then (if bt156.2 = true then (if bt156.1 = bt154.1 then (if bt154.1 < (wrap64 (a0)) then (seizinlaw11_SizeLeast.j0 k t153 (wrap64 (a0)) bt154.1 true) else (if bt154.1 < 16 then (seizinlaw11_SizeLeast.j0 k t153 (wrap64 (a0)) bt154.1 true) else (seizinlaw11_SizeLeast.j0 k t153 (wrap64 (a0)) bt154.1 ((Int.tmod bt154.1 16) != 0)))) else (seizinlaw11_SizeLeast.j0 k t153 (wrap64 (a0)) bt154.1 true)) else (seizinlaw11_SizeLeast.j0 k t153 (wrap64 (a0)) bt154.1 true)) else (seizinlaw11_SizeLeast.j0 k t153 (wrap64 (a0)) bt154.1 true)))) = some r := H
  have A2 := Aside0.mk A20
  clear A20
  replace H := Option.bind_eq_some_iff.mp H
  obtain ⟨⟨t154, t155⟩, A30, H⟩ := H
  replace H : ((size_Round.f t154).bind fun bt156 => (if t155 = true then (if bt156.2 = true then (if bt156.1 = t154 then (if t154 < (wrap64 (a0)) then (seizinlaw11_SizeLeast.j0 k t153 (wrap64 (a0)) t154 true) else (if t154 < 16 then (seizinlaw11_SizeLeast.j0 k t153 (wrap64 (a0)) t154 true) else (seizinlaw11_SizeLeast.j0 k t153 (wrap64 (a0)) t154 ((Int.tmod t154 16) != 0)))) else (seizinlaw11_SizeLeast.j0 k t153 (wrap64 (a0)) t154 true)) else (seizinlaw11_SizeLeast.j0 k t153 (wrap64 (a0)) t154 true)) else (seizinlaw11_SizeLeast.j0 k t153 (wrap64 (a0)) t154 true))) = some r := H
  have A3 := Aside0.mk A30
  clear A30
  replace H := Option.bind_eq_some_iff.mp H
  obtain ⟨⟨t156, t157⟩, A40, H⟩ := H
  replace H : (if t155 = true then (if t157 = true then (if t156 = t154 then (if t154 < (wrap64 (a0)) then (seizinlaw11_SizeLeast.j0 k t153 (wrap64 (a0)) t154 true) else (if t154 < 16 then (seizinlaw11_SizeLeast.j0 k t153 (wrap64 (a0)) t154 true) else (seizinlaw11_SizeLeast.j0 k t153 (wrap64 (a0)) t154 ((Int.tmod t154 16) != 0)))) else (seizinlaw11_SizeLeast.j0 k t153 (wrap64 (a0)) t154 true)) else (seizinlaw11_SizeLeast.j0 k t153 (wrap64 (a0)) t154 true)) else (seizinlaw11_SizeLeast.j0 k t153 (wrap64 (a0)) t154 true)) = some r := H
  have A4 := Aside0.mk A40
  clear A40
  have HC5 := Aside0.mk H
  clear H
  go_enter Try.func9, Try.ntmps9
  go_upto_region 5 with (first | ((with_reducible refine gate_callee (f := 34) rfl ?_); refine goesL_ (some 11) rfl rfl Try.func34 (by kernel_rfl) rfl #[] rfl (by (try simp only [List.map_toArray, List.map_cons, List.map_nil]); first | done | rfl | (simp only [List.length_drop, List.length_take]; rfl)) ?_; (with_reducible refine (seizinlaw11_head.calls  t153 _ A2.out).mono ?_); rintro e w6 ⟨rfl, hb⟩; refine ⟨_, rfl, ?_⟩; have n0_ := Aside0.mk (below_step (by repeat (first | (with_reducible first | exact HB.out | apply below_alloc | apply pw_below_drewN | apply below_drew1) | exact HB.out)) hb); clear HB; have HB := n0_; clear n0_; (try clear hb); (try clear hb2); (try clear hk); (try clear hi)) | ((with_reducible refine gate_callee (f := 35) rfl ?_); refine goesL_ (some 16) rfl rfl Try.func35 (by kernel_rfl) rfl #[.int .i64 (wrap64 (a0))] rfl (by (try simp only [List.map_toArray, List.map_cons, List.map_nil]); first | done | rfl | (simp only [List.length_drop, List.length_take]; rfl)) ?_; (with_reducible refine (size_Round.calls (wrap64 (a0)) t154 t155 _ A3.out).mono ?_); rintro e w7 ⟨rfl, hb⟩; refine ⟨_, rfl, ?_⟩; have n0_ := Aside0.mk (below_step (by repeat (first | (with_reducible first | exact HB.out | apply below_alloc | apply pw_below_drewN | apply below_drew1) | exact HB.out)) hb); clear HB; have HB := n0_; clear n0_; (try clear hb); (try clear hb2); (try clear hk); (try clear hi)) | ((with_reducible refine gate_callee (f := 35) rfl ?_); refine goesL_ (some 21) rfl rfl Try.func35 (by kernel_rfl) rfl #[.int .i64 t154] rfl (by (try simp only [List.map_toArray, List.map_cons, List.map_nil]); first | done | rfl | (simp only [List.length_drop, List.length_take]; rfl)) ?_; (with_reducible refine (size_Round.calls t154 t156 t157 _ A4.out).mono ?_); rintro e w8 ⟨rfl, hb⟩; refine ⟨_, rfl, ?_⟩; have n0_ := Aside0.mk (below_step (by repeat (first | (with_reducible first | exact HB.out | apply below_alloc | apply pw_below_drewN | apply below_drew1) | exact HB.out)) hb); clear HB; have HB := n0_; clear n0_; (try clear hb); (try clear hb2); (try clear hk); (try clear hi)))
  (try simp only [Act.put, List.setIfInBounds_toArray, List.set_cons_zero, List.set_cons_succ])
  go_cut [48] (fun v48 wc => ∃ (kq : Nat) (x48_4 : Bool), v48 = .bool x48_4 ∧ Aside0 (seizinlaw11_SizeLeast.j0 kq t153 (wrap64 (a0)) t154 x48_4 = some r) ∧ Aside0 (kq ≤ k) ∧ Aside0 (Below w.heap.size w wc))
  case first =>
    have H := HC5.out
    clear HC5
    by_cases c9 : t155 = true
    · subst c9
      have H1 : (if t157 = true then (if t156 = t154 then (if t154 < (wrap64 (a0)) then (seizinlaw11_SizeLeast.j0 k t153 (wrap64 (a0)) t154 true) else (if t154 < 16 then (seizinlaw11_SizeLeast.j0 k t153 (wrap64 (a0)) t154 true) else (seizinlaw11_SizeLeast.j0 k t153 (wrap64 (a0)) t154 ((Int.tmod t154 16) != 0)))) else (seizinlaw11_SizeLeast.j0 k t153 (wrap64 (a0)) t154 true)) else (seizinlaw11_SizeLeast.j0 k t153 (wrap64 (a0)) t154 true)) = some r := by rw [if_pos rfl] at H; exact H
      clear H
      have H := H1
      clear H1
      by_cases c10 : t157 = true
      · subst c10
        have H1 : (if t156 = t154 then (if t154 < (wrap64 (a0)) then (seizinlaw11_SizeLeast.j0 k t153 (wrap64 (a0)) t154 true) else (if t154 < 16 then (seizinlaw11_SizeLeast.j0 k t153 (wrap64 (a0)) t154 true) else (seizinlaw11_SizeLeast.j0 k t153 (wrap64 (a0)) t154 ((Int.tmod t154 16) != 0)))) else (seizinlaw11_SizeLeast.j0 k t153 (wrap64 (a0)) t154 true)) = some r := by rw [if_pos rfl] at H; exact H
        clear H
        have H := H1
        clear H1
        by_cases c11 : t156 = t154
        · rw [if_pos c11] at H
          have c11b0 : (t156 == t154) = true := beq_iff_eq.mpr c11
          have c11b1 : (t156 != t154) = false := bne_eq_false_iff_eq.mpr c11
          clear c11
          (first | rw [c11b0] | (simp only [i64_w, i32_w]; rw [c11b0]) | skip)
          by_cases c12 : t154 < (wrap64 (a0))
          · rw [if_pos c12] at H
            have c12b0 : decide (t154 < (wrap64 (a0))) = true := decide_eq_true c12
            clear c12
            have H' := Aside0.mk H
            clear H
            go_wp2
            go_meet
            case rel => exact ⟨_, (true), (by first | rfl | (simp; done) | (simp [*]; done)), H', ⟨by first | omega | exact Nat.le_refl _⟩, ⟨by repeat (first | (with_reducible first | exact HB.out | apply below_alloc | apply pw_below_drewN | apply below_drew1) | exact HB.out)⟩⟩
          · rw [if_neg c12] at H
            have c12b0 : decide (t154 < (wrap64 (a0))) = false := decide_eq_false c12
            clear c12
            by_cases c13 : t154 < 16
            · rw [if_pos c13] at H
              have c13b0 : decide (t154 < 16) = true := decide_eq_true c13
              clear c13
              have H' := Aside0.mk H
              clear H
              go_wp2
              go_meet
              case rel => exact ⟨_, (true), (by first | rfl | (simp; done) | (simp [*]; done)), H', ⟨by first | omega | exact Nat.le_refl _⟩, ⟨by repeat (first | (with_reducible first | exact HB.out | apply below_alloc | apply pw_below_drewN | apply below_drew1) | exact HB.out)⟩⟩
            · rw [if_neg c13] at H
              have c13b0 : decide (t154 < 16) = false := decide_eq_false c13
              clear c13
              have H' := Aside0.mk H
              clear H
              go_wp2
              go_meet
              case rel => exact ⟨_, (((Int.tmod t154 16) != 0)), (by first | rfl | (simp; done) | (simp [*]; done)), H', ⟨by first | omega | exact Nat.le_refl _⟩, ⟨by repeat (first | (with_reducible first | exact HB.out | apply below_alloc | apply pw_below_drewN | apply below_drew1) | exact HB.out)⟩⟩
        · rw [if_neg c11] at H
          have c11b0 : (t156 == t154) = false := beq_eq_false_iff_ne.mpr c11
          have c11b1 : (t156 != t154) = true := bne_iff_ne.mpr c11
          (first | rw [c11b0] | (simp only [i64_w, i32_w]; rw [c11b0]) | skip)
          have H' := Aside0.mk H
          clear H
          go_wp2
          go_meet
          case rel => exact ⟨_, (true), (by first | rfl | (simp; done) | (simp [*]; done)), H', ⟨by first | omega | exact Nat.le_refl _⟩, ⟨by repeat (first | (with_reducible first | exact HB.out | apply below_alloc | apply pw_below_drewN | apply below_drew1) | exact HB.out)⟩⟩
      · replace c10 := Bool.eq_false_iff.mpr c10
        subst c10
        have H1 : (seizinlaw11_SizeLeast.j0 k t153 (wrap64 (a0)) t154 true) = some r := by rw [if_neg (show ¬ (false = true) by decide)] at H; exact H
        clear H
        have H := H1
        clear H1
        have H' := Aside0.mk H
        clear H
        go_wp2
        go_meet
        case rel => exact ⟨_, (true), (by first | rfl | (simp; done) | (simp [*]; done)), H', ⟨by first | omega | exact Nat.le_refl _⟩, ⟨by repeat (first | (with_reducible first | exact HB.out | apply below_alloc | apply pw_below_drewN | apply below_drew1) | exact HB.out)⟩⟩
    · replace c9 := Bool.eq_false_iff.mpr c9
      subst c9
      have H1 : (seizinlaw11_SizeLeast.j0 k t153 (wrap64 (a0)) t154 true) = some r := by rw [if_neg (show ¬ (false = true) by decide)] at H; exact H
      clear H
      have H := H1
      clear H1
      have H' := Aside0.mk H
      clear H
      go_wp2
      go_meet
      case rel => exact ⟨_, (true), (by first | rfl | (simp; done) | (simp [*]; done)), H', ⟨by first | omega | exact Nat.le_refl _⟩, ⟨by repeat (first | (with_reducible first | exact HB.out | apply below_alloc | apply pw_below_drewN | apply below_drew1) | exact HB.out)⟩⟩
  case rest =>
    clear HC5
    try clear c1
    try clear p2
    try clear c3
    try clear p6
    try clear c9
    try clear c10
    try clear c11
    try clear c11b0
    try clear c11b1
    try clear c12
    try clear c12b0
    try clear c13
    try clear c13b0
    obtain ⟨kq, x48_4, rfl, HA, HJ4, HB⟩ := hcut
    cases kq with
    | zero => exact absurd HA.out (by simp [seizinlaw11_SizeLeast.j0])
    | succ kj4 =>
      have H := HA.out
      clear HA
      simp only [seizinlaw11_SizeLeast.j0] at H
      by_cases c14 : x48_4 = true
      · subst c14
        have H1 : (some false) = some r := by rw [if_pos rfl] at H; exact H
        clear H
        have H := H1
        clear H1
        exact absurd ((Option.some.inj H).trans hr_) (by decide)
      · replace c14 := Bool.eq_false_iff.mpr c14
        subst c14
        have H1 : ((size_Sizes.f).bind fun t158 => (seizinlaw11_SizeLeast.l0 kj4 t153 (wrap64 (a0)) t154 t158 0)) = some r := by rw [if_neg (show ¬ (false = true) by decide)] at H; exact H
        clear H
        have H := H1
        clear H1
        replace H := Option.bind_eq_some_iff.mp H
        obtain ⟨t158, A150, H⟩ := H
        replace H : (seizinlaw11_SizeLeast.l0 kj4 t153 (wrap64 (a0)) t154 t158 0) = some r := H
        have A15 := Aside0.mk A150
        clear A150
        have H' := Aside0.mk H
        clear H
        go_wp2_with (first | ((with_reducible refine gate_callee (f := 40) rfl ?_); refine goesL_ (some 49) rfl rfl Try.func40 (by kernel_rfl) rfl #[] rfl (by (try simp only [List.map_toArray, List.map_cons, List.map_nil]); first | done | rfl | (simp only [List.length_drop, List.length_take]; rfl)) ?_; (with_reducible refine (size_Sizes.calls  t158 _ A15.out).mono ?_); rintro e w16 ⟨v159, rfl, ho0, hb⟩; refine ⟨_, rfl, ?_⟩; have n0_ := Aside0.mk (Kd.R_lower ho0 (below_size (by repeat (first | (with_reducible first | exact HB.out | apply below_alloc | apply pw_below_drewN | apply below_drew1) | exact HB.out)))); have n1_ := Aside0.mk (below_step (by repeat (first | (with_reducible first | exact HB.out | apply below_alloc | apply pw_below_drewN | apply below_drew1) | exact HB.out)) hb); clear HB; have HO160 := n0_; have HB := n1_; clear n0_ n1_; (try clear hb); (try clear hb2); (try clear hk); (try clear hi); (try clear ho0)))
        go_loopg [10] kj4 (fun kq v10 w' => ∃ (x10_2 : Int), v10 = .int .i64 x10_2 ∧ Aside0 (seizinlaw11_SizeLeast.l0 kq t153 (wrap64 (a0)) t154 t158 x10_2 = some r) ∧ Aside0 (kq ≤ kj4) ∧ Aside0 (Kd.R (Kd.int .i64) 3 w' w.heap.size (fun _ => True) v159 t158) ∧ Aside0 (Below w.heap.size w w'))
        case atStart => exact ⟨(0), (by first | rfl | (simp; done) | (simp [*]; done)), H', ⟨Nat.le_refl _⟩, ⟨by (with_reducible repeat (first | apply Kd.R_alloc | apply Kd.R_drewN | apply Kd.R_drew)); exact HO160.out⟩, ⟨by repeat (first | (with_reducible first | exact HB.out | apply below_alloc | apply pw_below_drewN | apply below_drew1) | exact HB.out)⟩⟩
        case round =>
          clear H'
          try clear c1
          try clear p2
          try clear c3
          try clear c4
          try clear p6
          try clear c9
          try clear c10
          try clear c11
          try clear c11b0
          try clear c11b1
          try clear c12
          try clear c12b0
          try clear c13
          try clear c13b0
          try clear c14
          try clear p2
          try clear p6
          obtain ⟨x10_2, rfl, HA, HK2, HO_9, HB⟩ := hrel
          cases gk with
          | zero => exact absurd HA.out (by simp [seizinlaw11_SizeLeast.l0])
          | succ k2 =>
            have H := HA.out
            clear HA
            simp only [seizinlaw11_SizeLeast.l0] at H
            by_cases c17 : x10_2 < (t158.length : Int)
            · rw [if_pos c17] at H
              have c17b0 : decide (x10_2 < (t158.length : Int)) = true := decide_eq_true c17
              clear c17
              by_cases c18 : 0 ≤ x10_2
              · rw [if_pos c18] at H
                have c18b0 : decide (0 ≤ x10_2) = true := decide_eq_true c18
                clear c18
                by_cases c19 : (rd t158 x10_2) ≥ (wrap64 (a0))
                · rw [if_pos c19] at H
                  have c19b0 : decide ((wrap64 (a0)) ≤ (rd t158 x10_2)) = true := decide_eq_true c19
                  clear c19
                  by_cases c20 : (rd t158 x10_2) < t154
                  · rw [if_pos c20] at H
                    have c20b0 : decide ((rd t158 x10_2) < t154) = true := decide_eq_true c20
                    clear c20
                    exact absurd ((Option.some.inj H).trans hr_) (by decide)
                  · rw [if_neg c20] at H
                    have c20b0 : decide ((rd t158 x10_2) < t154) = false := decide_eq_false c20
                    clear c20
                    have H' := Aside0.mk H
                    clear H
                    obtain ⟨Ao21, co21, eo21⟩ := Kd.R_slice HO_9.out
                    subst eo21
                    have p161 : 0 ≤ (x10_2 : Int) := of_decide_eq_true (by first | (with_reducible assumption) | assumption)
                    have q161 : x10_2 < (t158.length : Int) := of_decide_eq_true (by first | (with_reducible assumption) | assumption)
                    obtain ⟨ad161, e161, hx161_0⟩ := Kd.at_int (Kd.R_reads' HO_9.out).2.2 x10_2 p161 q161
                    cases e161
                    replace p161 := eq_true p161
                    replace q161 := eq_true q161
                    have p162 : 0 ≤ (x10_2 : Int) := of_decide_eq_true (by first | (with_reducible assumption) | assumption)
                    have q162 : x10_2 < (t158.length : Int) := of_decide_eq_true (by first | (with_reducible assumption) | assumption)
                    obtain ⟨ad162, e162, hx162_0⟩ := Kd.at_int (Kd.R_reads' HO_9.out).2.2 x10_2 p162 q162
                    obtain rfl : ad161 = ad162 := (by injection e162)
                    replace p162 := eq_true p162
                    replace q162 := eq_true q162
                    go_wp2
                    go_roundg k2
                    case measure => have := HJ4.out; have := HK2.out; omega
                    case rel => exact ⟨(wrap64 (x10_2 + 1)), (by first | rfl | (simp; done) | (simp [*]; done)), H', ⟨by have := HJ4.out; have := HK2.out; omega⟩, ⟨by (with_reducible repeat (first | apply Kd.R_alloc | apply Kd.R_drewN | apply Kd.R_drew)); exact HO_9.out⟩, ⟨by repeat (first | (with_reducible first | exact HB.out | apply below_alloc | apply pw_below_drewN | apply below_drew1) | exact HB.out)⟩⟩
                · rw [if_neg c19] at H
                  have c19b0 : decide ((wrap64 (a0)) ≤ (rd t158 x10_2)) = false := decide_eq_false c19
                  clear c19
                  have H' := Aside0.mk H
                  clear H
                  obtain ⟨Ao22, co22, eo22⟩ := Kd.R_slice HO_9.out
                  subst eo22
                  have p161 : 0 ≤ (x10_2 : Int) := of_decide_eq_true (by first | (with_reducible assumption) | assumption)
                  have q161 : x10_2 < (t158.length : Int) := of_decide_eq_true (by first | (with_reducible assumption) | assumption)
                  obtain ⟨ad161, e161, hx161_0⟩ := Kd.at_int (Kd.R_reads' HO_9.out).2.2 x10_2 p161 q161
                  cases e161
                  replace p161 := eq_true p161
                  replace q161 := eq_true q161
                  go_wp2
                  go_roundg k2
                  case measure => have := HJ4.out; have := HK2.out; omega
                  case rel => exact ⟨(wrap64 (x10_2 + 1)), (by first | rfl | (simp; done) | (simp [*]; done)), H', ⟨by have := HJ4.out; have := HK2.out; omega⟩, ⟨by (with_reducible repeat (first | apply Kd.R_alloc | apply Kd.R_drewN | apply Kd.R_drew)); exact HO_9.out⟩, ⟨by repeat (first | (with_reducible first | exact HB.out | apply below_alloc | apply pw_below_drewN | apply below_drew1) | exact HB.out)⟩⟩
              · rw [if_neg c18] at H
                exact absurd H (by simp)
            · rw [if_neg c17] at H
              have c17b0 : decide (x10_2 < (t158.length : Int)) = false := decide_eq_false c17
              clear c17
              by_cases c23 : t153 = true
              · subst c23
                have H1 : (if (wrap64 (a0)) ≤ 1024 then (some true) else (if (wrap64 (t154 - (wrap64 (a0)))) < 256 then (some ((Int.tmod t154 256) == 0)) else (some false))) = some r := by rw [if_pos rfl] at H; exact H
                clear H
                have H := H1
                clear H1
                by_cases c24 : (wrap64 (a0)) ≤ 1024
                · rw [if_pos c24] at H
                  have c24b0 : decide ((wrap64 (a0)) ≤ 1024) = true := decide_eq_true c24
                  clear c24
                  clear hr_
                  obtain rfl := Option.some.inj H
                  obtain ⟨Ao25, co25, eo25⟩ := Kd.R_slice HO_9.out
                  subst eo25
                  go_wp2
                  go_ret
                  exact ⟨by first | rfl | (simp [errW_none, errW_some] <;> rfl) | (simp [*, errW_none, errW_some] <;> rfl), by repeat (first | (with_reducible first | exact HB.out | apply below_alloc | apply pw_below_drewN | apply below_drew1) | exact HB.out)⟩
                · rw [if_neg c24] at H
                  have c24b0 : decide ((wrap64 (a0)) ≤ 1024) = false := decide_eq_false c24
                  clear c24
                  by_cases c26 : (wrap64 (t154 - (wrap64 (a0)))) < 256
                  · rw [if_pos c26] at H
                    have c26b0 : decide ((wrap64 (t154 - (wrap64 (a0)))) < 256) = true := decide_eq_true c26
                    clear c26
                    clear hr_
                    obtain rfl := Option.some.inj H
                    obtain ⟨Ao27, co27, eo27⟩ := Kd.R_slice HO_9.out
                    subst eo27
                    go_wp2
                    go_ret
                    exact ⟨by first | rfl | (simp [errW_none, errW_some] <;> rfl) | (simp [*, errW_none, errW_some] <;> rfl), by repeat (first | (with_reducible first | exact HB.out | apply below_alloc | apply pw_below_drewN | apply below_drew1) | exact HB.out)⟩
                  · rw [if_neg c26] at H
                    have c26b0 : decide ((wrap64 (t154 - (wrap64 (a0)))) < 256) = false := decide_eq_false c26
                    clear c26
                    exact absurd ((Option.some.inj H).trans hr_) (by decide)
              · replace c23 := Bool.eq_false_iff.mpr c23
                subst c23
                have H1 : (some false) = some r := by rw [if_neg (show ¬ (false = true) by decide)] at H; exact H
                clear H
                have H := H1
                clear H1
                exact absurd ((Option.some.inj H).trans hr_) (by decide)

/-- THE ONE PURE STATEMENT of seizinlaw11_SizeLeast: yours. -/
def seizinlaw11_SizeLeast.Pure : Prop := ∀ (a0 : Int), (Lit.int .u16 a0).wf = true → ∃ k, seizinlaw11_SizeLeast.f k a0 = some true
theorem seizinlaw11_SizeLeast.walk (P : seizinlaw11_SizeLeast.Pure) (a0 : Int) (w : World) (w0 : (Lit.int .u16 a0).wf = true) :
    Calls Try.prog 9 #[.int .u16 a0] w fun e w' => e = .returned (.bool true) ∧ Below w.heap.size w w' := by
  obtain ⟨k, h⟩ := P a0 w0
  refine (seizinlaw11_SizeLeast.calls k a0 true w h rfl).mono ?_
  rintro e w' ⟨rfl, hd⟩
  exact ⟨rfl, hd⟩

end Go.Proofs.Ytldgecnmmklldaa.PSz
