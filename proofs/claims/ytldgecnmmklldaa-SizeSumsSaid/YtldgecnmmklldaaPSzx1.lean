-- written by a changed copy of the kit's print program, for this claim
import Derived.Test.YtldgecnmmklldaaPSzx0
namespace Go.Proofs.Ytldgecnmmklldaa.PSz
open Go.RowKit Go.Proofs.YtldgecnmmklldaaW.PrintWords Go.Proofs.YtldgecnmmklldaaW.PrintLast Go.Proofs.YtldgecnmmklldaaW.PrintMore
attribute [local go_sem] max2_int min2_int max_two min_two max_three min_three max_four min_four   -- for this text's walks alone
set_option linter.unusedVariables false
set_option linter.unusedSimpArgs false

-- NOT PRINTED: function 49 (size_sizes)

/-! ### cmp_isNaN_int: function 55 -/
def cmp_isNaN_int.f (a0 : Int) : Option (Bool) := some (a0 != a0)
set_option maxHeartbeats 8000000 in
set_option maxRecDepth 100000 in
theorem cmp_isNaN_int.calls (a0 : Int) (r : Bool) (w : World) (h : cmp_isNaN_int.f a0 = some r) :
    Calls Try.prog 55 #[.int .i64 a0] w fun e w' => e = .returned (.bool r) ∧ Drawn0 w w' := by
  have H : (some (a0 != a0)) = some r := h
  clear h
  obtain rfl := Option.some.inj H
  go_enter Try.func55, Try.ntmps55
  go_wp2
  go_ret
  exact ⟨by first | rfl | (simp; done) | (simp [*]; done), by repeat (first | exact Drawn0.refl _ | apply Drawn0.step)⟩

/-! ### cmp_Less_int: function 53 -/
def cmp_Less_int.f (a0 : Int) (a1 : Int) : Option (Bool) := (cmp_isNaN_int.f a0).bind fun t101 => (if t101 = true then ((cmp_isNaN_int.f a1).bind fun t102 => (if t102 = true then (some (decide (a0 < a1))) else (some true))) else (some (decide (a0 < a1))))
set_option maxHeartbeats 8000000 in
set_option maxRecDepth 100000 in
theorem cmp_Less_int.calls (a0 : Int) (a1 : Int) (r : Bool) (w : World) (h : cmp_Less_int.f a0 a1 = some r) :
    Calls Try.prog 53 #[.int .i64 a0, .int .i64 a1] w fun e w' => e = .returned (.bool r) ∧ Drawn0 w w' := by
  have H : ((cmp_isNaN_int.f a0).bind fun t101 => (if t101 = true then ((cmp_isNaN_int.f a1).bind fun t102 => (if t102 = true then (some (decide (a0 < a1))) else (some true))) else (some (decide (a0 < a1))))) = some r := h
  clear h
  replace H := Option.bind_eq_some_iff.mp H
  obtain ⟨t101, A30, H⟩ := H
  replace H : (if t101 = true then ((cmp_isNaN_int.f a1).bind fun t102 => (if t102 = true then (some (decide (a0 < a1))) else (some true))) else (some (decide (a0 < a1)))) = some r := H
  have A3 := Aside0.mk A30
  clear A30
  by_cases c4 : t101 = true
  · subst c4
    have H1 : ((cmp_isNaN_int.f a1).bind fun t102 => (if t102 = true then (some (decide (a0 < a1))) else (some true))) = some r := by rw [if_pos rfl] at H; exact H
    clear H
    have H := H1
    clear H1
    replace H := Option.bind_eq_some_iff.mp H
    obtain ⟨t102, A50, H⟩ := H
    replace H : (if t102 = true then (some (decide (a0 < a1))) else (some true)) = some r := H
    have A5 := Aside0.mk A50
    clear A50
    by_cases c6 : t102 = true
    · subst c6
      have H1 : (some (decide (a0 < a1))) = some r := by rw [if_pos rfl] at H; exact H
      clear H
      have H := H1
      clear H1
      obtain rfl := Option.some.inj H
      go_enter Try.func53, Try.ntmps53
      go_wp2_with (first | ((with_reducible refine gate_callee (f := 55) rfl ?_); refine goesL_ (some 6) rfl rfl Try.func55 (by kernel_rfl) rfl #[.int .i64 a0] rfl (by (try simp only [List.map_toArray, List.map_cons, List.map_nil]); first | done | rfl | (simp only [List.length_drop, List.length_take]; rfl)) ?_; (with_reducible refine (cmp_isNaN_int.calls a0 true _ A3.out).mono ?_); rintro e w' ⟨rfl, ⟨nd, rfl⟩⟩; refine ⟨_, rfl, ?_⟩) | (go_at_call 55; (with_reducible refine (cmp_isNaN_int.calls a1 true _ A5.out).mono ?_); rintro e w' ⟨rfl, ⟨nd, rfl⟩⟩))
      go_ret
      exact ⟨by first | rfl | (simp; done) | (simp [*]; done), by repeat (first | exact Drawn0.refl _ | apply Drawn0.step)⟩
    · replace c6 := Bool.eq_false_iff.mpr c6
      subst c6
      have H1 : (some true) = some r := by rw [if_neg (show ¬ (false = true) by decide)] at H; exact H
      clear H
      have H := H1
      clear H1
      obtain rfl := Option.some.inj H
      go_enter Try.func53, Try.ntmps53
      go_wp2_with (first | ((with_reducible refine gate_callee (f := 55) rfl ?_); refine goesL_ (some 6) rfl rfl Try.func55 (by kernel_rfl) rfl #[.int .i64 a0] rfl (by (try simp only [List.map_toArray, List.map_cons, List.map_nil]); first | done | rfl | (simp only [List.length_drop, List.length_take]; rfl)) ?_; (with_reducible refine (cmp_isNaN_int.calls a0 true _ A3.out).mono ?_); rintro e w' ⟨rfl, ⟨nd, rfl⟩⟩; refine ⟨_, rfl, ?_⟩) | (go_at_call 55; (with_reducible refine (cmp_isNaN_int.calls a1 false _ A5.out).mono ?_); rintro e w' ⟨rfl, ⟨nd, rfl⟩⟩))
      go_ret
      exact ⟨by first | rfl | (simp; done) | (simp [*]; done), by repeat (first | exact Drawn0.refl _ | apply Drawn0.step)⟩
  · replace c4 := Bool.eq_false_iff.mpr c4
    subst c4
    have H1 : (some (decide (a0 < a1))) = some r := by rw [if_neg (show ¬ (false = true) by decide)] at H; exact H
    clear H
    have H := H1
    clear H1
    obtain rfl := Option.some.inj H
    go_enter Try.func53, Try.ntmps53
    go_wp2_with (first | ((with_reducible refine gate_callee (f := 55) rfl ?_); refine goesL_ (some 6) rfl rfl Try.func55 (by kernel_rfl) rfl #[.int .i64 a0] rfl (by (try simp only [List.map_toArray, List.map_cons, List.map_nil]); first | done | rfl | (simp only [List.length_drop, List.length_take]; rfl)) ?_; (with_reducible refine (cmp_isNaN_int.calls a0 false _ A3.out).mono ?_); rintro e w' ⟨rfl, ⟨nd, rfl⟩⟩; refine ⟨_, rfl, ?_⟩))
    go_ret
    exact ⟨by first | rfl | (simp; done) | (simp [*]; done), by repeat (first | exact Drawn0.refl _ | apply Drawn0.step)⟩

/-! ### slices_isNaN_int: function 54 -/
def slices_isNaN_int.f (a0 : Int) : Option (Bool) := some (a0 != a0)
set_option maxHeartbeats 8000000 in
set_option maxRecDepth 100000 in
theorem slices_isNaN_int.calls (a0 : Int) (r : Bool) (w : World) (h : slices_isNaN_int.f a0 = some r) :
    Calls Try.prog 54 #[.int .i64 a0] w fun e w' => e = .returned (.bool r) ∧ Drawn0 w w' := by
  have H : (some (a0 != a0)) = some r := h
  clear h
  obtain rfl := Option.some.inj H
  go_enter Try.func54, Try.ntmps54
  go_wp2
  go_ret
  exact ⟨by first | rfl | (simp; done) | (simp [*]; done), by repeat (first | exact Drawn0.refl _ | apply Drawn0.step)⟩

/-! ### slices_BinarySearch_int_int: function 50 -/
def slices_BinarySearch_int_int.l0 : Nat → List Int → Int → Int → Int → Int → Option (Int × Bool)
  | 0, _, _, _, _, _ => none
  | k + 1, x0, x1, x6, x7, x8 => if x7 < x8 then (if 0 ≤ (wrap64 ((IntKind.u64.wrap (wrap64 (x7 + x8))) / 2)) then (if (wrap64 ((IntKind.u64.wrap (wrap64 (x7 + x8))) / 2)) < (x0.length : Int) then ((cmp_Less_int.f (rd x0 (wrap64 ((IntKind.u64.wrap (wrap64 (x7 + x8))) / 2))) x1).bind fun t104 => (if t104 = true then (slices_BinarySearch_int_int.l0 k x0 x1 x6 (wrap64 ((wrap64 ((IntKind.u64.wrap (wrap64 (x7 + x8))) / 2)) + 1)) x8) else (slices_BinarySearch_int_int.l0 k x0 x1 x6 x7 (wrap64 ((IntKind.u64.wrap (wrap64 (x7 + x8))) / 2))))) else (none)) else (none)) else (if x7 < x6 then (if 0 ≤ x7 then (if x7 < (x0.length : Int) then (if (rd x0 x7) = x1 then (some (x7, true)) else ((slices_isNaN_int.f (rd x0 x7)).bind fun t107 => (if t107 = true then ((slices_isNaN_int.f x1).bind fun t108 => (some (x7, t108))) else (some (x7, false))))) else (none)) else (none)) else (some (x7, false)))
def slices_BinarySearch_int_int.f (k : Nat) (l0 : List Int) (a1 : Int) : Option (Int × Bool) := slices_BinarySearch_int_int.l0 k l0 a1 (l0.length : Int) 0 (l0.length : Int)
theorem slices_BinarySearch_int_int.mono_l : ∀ k, (∀ y0 y1 y2 y3 y4, LeO (slices_BinarySearch_int_int.l0 k y0 y1 y2 y3 y4) (slices_BinarySearch_int_int.l0 (k + 1) y0 y1 y2 y3 y4))
  | 0 => fun _ _ _ _ _ r h => by simp [slices_BinarySearch_int_int.l0] at h
  | k + 1 => by
    have ih0 := slices_BinarySearch_int_int.mono_l k
    · intro y0 y1 y2 y3 y4
      unfold slices_BinarySearch_int_int.l0
      repeat' first
      | (with_reducible exact ih0 _ _ _ _ _)
      | (with_reducible exact LeO.refl _)
      | (with_reducible exact LeO.none _)
      | (with_reducible refine LeO.ite ?_ ?_)
      | (with_reducible refine LeO.bind ?_ (fun _ => ?_))
      | exact ih0 _ _ _ _ _
      | exact LeO.none _
      | refine LeO.ite ?_ ?_
      | refine LeO.bind ?_ (fun _ => ?_)
theorem slices_BinarySearch_int_int.mono : ∀ a0 a1 k, LeO (slices_BinarySearch_int_int.f k a0 a1) (slices_BinarySearch_int_int.f (k + 1) a0 a1) := by
  intro a0 a1 k
  have ih0 := slices_BinarySearch_int_int.mono_l k
  unfold slices_BinarySearch_int_int.f
  repeat' first
      | (with_reducible exact ih0 _ _ _ _ _)
      | (with_reducible exact LeO.refl _)
      | (with_reducible exact LeO.none _)
      | (with_reducible refine LeO.ite ?_ ?_)
      | (with_reducible refine LeO.bind ?_ (fun _ => ?_))
      | exact ih0 _ _ _ _ _
      | exact LeO.none _
      | refine LeO.ite ?_ ?_
      | refine LeO.bind ?_ (fun _ => ?_)
set_option maxHeartbeats 8000000 in
set_option maxRecDepth 100000 in
theorem slices_BinarySearch_int_int.calls (k : Nat) (A0 : Option Addr) (c0 : Nat) (l0 : List Int) (a1 : Int) (r1 : Int) (r2 : Bool) (w : World) (hr0 : Kd.C (Kd.int .i64) w A0 l0.length l0) (hc0 : l0.length ≤ c0) (h : slices_BinarySearch_int_int.f k l0 a1 = some (r1, r2)) :
    Calls Try.prog 50 #[.slice A0 l0.length c0, .int .i64 a1] w fun e w' => e = .returned (.tuple #[.int .i64 r1, .bool r2]) ∧ Drawn0 w w' := by
  have HR0 := Aside0.mk hr0
  have HC0 := Aside0.mk hc0
  clear hr0 hc0
  have H : (slices_BinarySearch_int_int.l0 k l0 a1 (l0.length : Int) 0 (l0.length : Int)) = some (r1, r2) := h
  clear h
  have H' := Aside0.mk H
  clear H
  go_enter Try.func50, Try.ntmps50
  go_wp2
  go_loopg [7, 8] k (fun kq v7 v8 w' => ∃ (x7_1 : Int) (x8_1 : Int), v7 = .int .i64 x7_1 ∧ v8 = .int .i64 x8_1 ∧ Aside0 (slices_BinarySearch_int_int.l0 kq l0 a1 (l0.length : Int) x7_1 x8_1 = some (r1, r2)) ∧ Aside0 (kq ≤ k) ∧ Drawn0 w w')
  case atStart => exact ⟨(0), ((l0.length : Int)), (by first | rfl | (simp; done) | (simp [*]; done)), (by first | rfl | (simp; done) | (simp [*]; done)), H', ⟨Nat.le_refl _⟩, by repeat (first | exact Drawn0.refl _ | apply Drawn0.step)⟩
  case round =>
    clear H'
    try clear p2
    obtain ⟨x7_1, x8_1, rfl, rfl, HA, HK1, ⟨m1, rfl⟩⟩ := hrel
    cases gk with
    | zero => exact absurd HA.out (by simp [slices_BinarySearch_int_int.l0])
    | succ k1 =>
      have H := HA.out
      clear HA
      simp only [slices_BinarySearch_int_int.l0] at H
      by_cases c3 : x7_1 < x8_1
      · rw [if_pos c3] at H
        have c3b0 : decide (x7_1 < x8_1) = true := decide_eq_true c3
        clear c3
        obtain ⟨ji4, hji4⟩ : ∃ j_ : Int, (wrap64 ((IntKind.u64.wrap (wrap64 (x7_1 + x8_1))) / 2)) = j_ := ⟨_, rfl⟩
        replace H : (if 0 ≤ (ji4) then (if (ji4) < (l0.length : Int) then ((cmp_Less_int.f (rd l0 (ji4)) a1).bind fun t104 => (if t104 = true then (slices_BinarySearch_int_int.l0 k1 l0 a1 (l0.length : Int) (wrap64 ((ji4) + 1)) x8_1) else (slices_BinarySearch_int_int.l0 k1 l0 a1 (l0.length : Int) x7_1 ji4))) else (none)) else (none)) = some (r1, r2) := by first | (rw [hji4] at H; exact H) | (simp only [hji4] at H ⊢; exact H)
        have hji4w : (IntKind.i64.wrap ((IntKind.u64.wrap (wrap64 (x7_1 + x8_1))) / 2)) = ji4 := (i64_w _).trans hji4
        by_cases c5 : 0 ≤ (ji4)
        · rw [if_pos c5] at H
          have c5b0 : decide (0 ≤ (ji4)) = true := decide_eq_true c5
          clear c5
          by_cases c6 : (ji4) < (l0.length : Int)
          · rw [if_pos c6] at H
            have c6b0 : decide ((ji4) < (l0.length : Int)) = true := decide_eq_true c6
            clear c6
            replace H := Option.bind_eq_some_iff.mp H
            obtain ⟨t104, A70, H⟩ := H
            replace H : (if t104 = true then (slices_BinarySearch_int_int.l0 k1 l0 a1 (l0.length : Int) (wrap64 ((ji4) + 1)) x8_1) else (slices_BinarySearch_int_int.l0 k1 l0 a1 (l0.length : Int) x7_1 ji4)) = some (r1, r2) := H
            have A7 := Aside0.mk A70
            clear A70
            by_cases c8 : t104 = true
            · subst c8
              have H1 : (slices_BinarySearch_int_int.l0 k1 l0 a1 (l0.length : Int) (wrap64 ((ji4) + 1)) x8_1) = some (r1, r2) := by rw [if_pos rfl] at H; exact H
              clear H
              have H := H1
              clear H1
              have H' := Aside0.mk H
              clear H
              have p103 : 0 ≤ ((ji4) : Int) := of_decide_eq_true (by first | (with_reducible assumption) | assumption)
              have q103 : (ji4) < (l0.length : Int) := of_decide_eq_true (by first | (with_reducible assumption) | assumption)
              obtain ⟨ad103, e103, hx103_0⟩ := Kd.at_int HR0.out (ji4) p103 q103
              cases e103
              replace p103 := eq_true p103
              replace q103 := eq_true q103
              go_wp2_with (first | ((with_reducible refine gate_callee (f := 53) rfl ?_); refine goesL_ (some 27) rfl rfl Try.func53 (by kernel_rfl) rfl #[.int .i64 (rd l0 (ji4)), .int .i64 a1] rfl (by (try simp only [List.map_toArray, List.map_cons, List.map_nil]); first | done | (simp only [hji4]; rfl) | rfl | (simp only [List.length_drop, List.length_take]; rfl)) ?_; (with_reducible refine (cmp_Less_int.calls (rd l0 (ji4)) a1 true _ A7.out).mono ?_); rintro e w' ⟨rfl, ⟨nd, rfl⟩⟩; refine ⟨_, rfl, ?_⟩))
              go_roundg k1
              case measure => have := HK1.out; omega
              case rel => exact ⟨(wrap64 ((ji4) + 1)), (x8_1), (by first | rfl | (simp; done) | (simp only [← hji4] <;> (first | rfl | simp)) | (simp [*]; done)), (by first | rfl | (simp; done) | (simp [*]; done)), H', ⟨by have := HK1.out; omega⟩, by repeat (first | exact Drawn0.refl _ | apply Drawn0.step)⟩
            · replace c8 := Bool.eq_false_iff.mpr c8
              subst c8
              have H1 : (slices_BinarySearch_int_int.l0 k1 l0 a1 (l0.length : Int) x7_1 ji4) = some (r1, r2) := by rw [if_neg (show ¬ (false = true) by decide)] at H; exact H
              clear H
              have H := H1
              clear H1
              have H' := Aside0.mk H
              clear H
              have p103 : 0 ≤ ((ji4) : Int) := of_decide_eq_true (by first | (with_reducible assumption) | assumption)
              have q103 : (ji4) < (l0.length : Int) := of_decide_eq_true (by first | (with_reducible assumption) | assumption)
              obtain ⟨ad103, e103, hx103_0⟩ := Kd.at_int HR0.out (ji4) p103 q103
              cases e103
              replace p103 := eq_true p103
              replace q103 := eq_true q103
              go_wp2_with (first | ((with_reducible refine gate_callee (f := 53) rfl ?_); refine goesL_ (some 27) rfl rfl Try.func53 (by kernel_rfl) rfl #[.int .i64 (rd l0 (ji4)), .int .i64 a1] rfl (by (try simp only [List.map_toArray, List.map_cons, List.map_nil]); first | done | (simp only [hji4]; rfl) | rfl | (simp only [List.length_drop, List.length_take]; rfl)) ?_; (with_reducible refine (cmp_Less_int.calls (rd l0 (ji4)) a1 false _ A7.out).mono ?_); rintro e w' ⟨rfl, ⟨nd, rfl⟩⟩; refine ⟨_, rfl, ?_⟩))
              go_roundg k1
              case measure => have := HK1.out; omega
              case rel => exact ⟨(x7_1), (ji4), (by first | rfl | (simp; done) | (simp [*]; done)), (by first | rfl | (simp; done) | (simp only [← hji4] <;> (first | rfl | simp)) | (simp [*]; done)), H', ⟨by have := HK1.out; omega⟩, by repeat (first | exact Drawn0.refl _ | apply Drawn0.step)⟩
          · rw [if_neg c6] at H
            exact absurd H (by simp)
        · rw [if_neg c5] at H
          exact absurd H (by simp)
      · rw [if_neg c3] at H
        have c3b0 : decide (x7_1 < x8_1) = false := decide_eq_false c3
        clear c3
        by_cases c9 : x7_1 < (l0.length : Int)
        · rw [if_pos c9] at H
          have c9b0 : decide (x7_1 < (l0.length : Int)) = true := decide_eq_true c9
          clear c9
          by_cases c10 : 0 ≤ x7_1
          · rw [if_pos c10] at H
            have c10b0 : decide (0 ≤ x7_1) = true := decide_eq_true c10
            clear c10
            by_cases c11 : x7_1 < (l0.length : Int)
            · rw [if_pos c11] at H
              have c11b0 : decide (x7_1 < (l0.length : Int)) = true := decide_eq_true c11
              clear c11
              by_cases c12 : (rd l0 x7_1) = a1
              · rw [if_pos c12] at H
                have c12b0 : ((rd l0 x7_1) == a1) = true := beq_iff_eq.mpr c12
                have c12b1 : ((rd l0 x7_1) != a1) = false := bne_eq_false_iff_eq.mpr c12
                clear c12
                simp only [Option.some.injEq, Prod.mk.injEq] at H
                obtain ⟨rfl, rfl⟩ := H
                have p105 : 0 ≤ (x7_1 : Int) := of_decide_eq_true (by first | (with_reducible assumption) | assumption)
                have q105 : x7_1 < (l0.length : Int) := of_decide_eq_true (by first | (with_reducible assumption) | assumption)
                obtain ⟨ad105, e105, hx105_0⟩ := Kd.at_int HR0.out x7_1 p105 q105
                cases e105
                replace p105 := eq_true p105
                replace q105 := eq_true q105
                go_wp2
                go_ret2
                exact ⟨by first | rfl | (simp; done) | (simp [*]; done), by repeat (first | exact Drawn0.refl _ | apply Drawn0.step)⟩
              · rw [if_neg c12] at H
                have c12b0 : ((rd l0 x7_1) == a1) = false := beq_eq_false_iff_ne.mpr c12
                have c12b1 : ((rd l0 x7_1) != a1) = true := bne_iff_ne.mpr c12
                replace H := Option.bind_eq_some_iff.mp H
                obtain ⟨t107, A130, H⟩ := H
                replace H : (if t107 = true then ((slices_isNaN_int.f a1).bind fun t108 => (some (x7_1, t108))) else (some (x7_1, false))) = some (r1, r2) := H
                have A13 := Aside0.mk A130
                clear A130
                by_cases c14 : t107 = true
                · subst c14
                  have H1 : ((slices_isNaN_int.f a1).bind fun t108 => (some (x7_1, t108))) = some (r1, r2) := by rw [if_pos rfl] at H; exact H
                  clear H
                  have H := H1
                  clear H1
                  replace H := Option.bind_eq_some_iff.mp H
                  obtain ⟨t108, A150, H⟩ := H
                  replace H : (some (x7_1, t108)) = some (r1, r2) := H
                  have A15 := Aside0.mk A150
                  clear A150
                  simp only [Option.some.injEq, Prod.mk.injEq] at H
                  obtain ⟨rfl, rfl⟩ := H
                  have p105 : 0 ≤ (x7_1 : Int) := of_decide_eq_true (by first | (with_reducible assumption) | assumption)
                  have q105 : x7_1 < (l0.length : Int) := of_decide_eq_true (by first | (with_reducible assumption) | assumption)
                  obtain ⟨ad105, e105, hx105_0⟩ := Kd.at_int HR0.out x7_1 p105 q105
                  cases e105
                  replace p105 := eq_true p105
                  replace q105 := eq_true q105
                  have p106 : 0 ≤ (x7_1 : Int) := of_decide_eq_true (by first | (with_reducible assumption) | assumption)
                  have q106 : x7_1 < (l0.length : Int) := of_decide_eq_true (by first | (with_reducible assumption) | assumption)
                  obtain ⟨ad106, e106, hx106_0⟩ := Kd.at_int HR0.out x7_1 p106 q106
                  obtain rfl : ad105 = ad106 := (by injection e106)
                  replace p106 := eq_true p106
                  replace q106 := eq_true q106
                  go_wp2_with (first | (go_at_call 54; (with_reducible refine (slices_isNaN_int.calls (rd l0 x7_1) true _ A13.out).mono ?_); rintro e w' ⟨rfl, ⟨nd, rfl⟩⟩) | (go_at_call 54; (with_reducible refine (slices_isNaN_int.calls a1 t108 _ A15.out).mono ?_); rintro e w' ⟨rfl, ⟨nd, rfl⟩⟩))
                  go_ret2
                  exact ⟨by first | rfl | (simp; done) | (simp [*]; done), by repeat (first | exact Drawn0.refl _ | apply Drawn0.step)⟩
                · replace c14 := Bool.eq_false_iff.mpr c14
                  subst c14
                  have H1 : (some (x7_1, false)) = some (r1, r2) := by rw [if_neg (show ¬ (false = true) by decide)] at H; exact H
                  clear H
                  have H := H1
                  clear H1
                  simp only [Option.some.injEq, Prod.mk.injEq] at H
                  obtain ⟨rfl, rfl⟩ := H
                  have p105 : 0 ≤ (x7_1 : Int) := of_decide_eq_true (by first | (with_reducible assumption) | assumption)
                  have q105 : x7_1 < (l0.length : Int) := of_decide_eq_true (by first | (with_reducible assumption) | assumption)
                  obtain ⟨ad105, e105, hx105_0⟩ := Kd.at_int HR0.out x7_1 p105 q105
                  cases e105
                  replace p105 := eq_true p105
                  replace q105 := eq_true q105
                  have p106 : 0 ≤ (x7_1 : Int) := of_decide_eq_true (by first | (with_reducible assumption) | assumption)
                  have q106 : x7_1 < (l0.length : Int) := of_decide_eq_true (by first | (with_reducible assumption) | assumption)
                  obtain ⟨ad106, e106, hx106_0⟩ := Kd.at_int HR0.out x7_1 p106 q106
                  obtain rfl : ad105 = ad106 := (by injection e106)
                  replace p106 := eq_true p106
                  replace q106 := eq_true q106
                  go_wp2_with (first | (go_at_call 54; (with_reducible refine (slices_isNaN_int.calls (rd l0 x7_1) false _ A13.out).mono ?_); rintro e w' ⟨rfl, ⟨nd, rfl⟩⟩))
                  go_ret2
                  exact ⟨by first | rfl | (simp; done) | (simp [*]; done), by repeat (first | exact Drawn0.refl _ | apply Drawn0.step)⟩
            · rw [if_neg c11] at H
              exact absurd H (by simp)
          · rw [if_neg c10] at H
            exact absurd H (by simp)
        · rw [if_neg c9] at H
          have c9b0 : decide (x7_1 < (l0.length : Int)) = false := decide_eq_false c9
          clear c9
          simp only [Option.some.injEq, Prod.mk.injEq] at H
          obtain ⟨rfl, rfl⟩ := H
          go_wp2
          go_ret2
          exact ⟨by first | rfl | (simp; done) | (simp [*]; done), by repeat (first | exact Drawn0.refl _ | apply Drawn0.step)⟩

/-! ### size_Class: function 37 -/
/-- The sizes of classes. -/
def szL : List Int := [16, 32, 48, 64, 80, 96, 112, 128, 192, 256, 384, 512, 768, 1024]
theorem sz_sizes (w : World) : Calls Try.prog 49 #[] w fun e w' => e = .returned (.agg #[.int .i64 16, .int .i64 32, .int .i64 48, .int .i64 64, .int .i64 80, .int .i64 96, .int .i64 112, .int .i64 128, .int .i64 192, .int .i64 256, .int .i64 384, .int .i64 512, .int .i64 768, .int .i64 1024]) ∧ Below w.heap.size w w' := by
  go_enter Try.func49, Try.ntmps49
  go_wp2
  exact bodyPost_ret (v := .agg #[.int .i64 16, .int .i64 32, .int .i64 48, .int .i64 64, .int .i64 80, .int .i64 96, .int .i64 112, .int .i64 128, .int .i64 192, .int .i64 256, .int .i64 384, .int .i64 512, .int .i64 768, .int .i64 1024]) (by simp [results, Try.results49, go_sem]) rfl ⟨rfl, (Below.refl _ _).alloc (Nat.le_refl _) _⟩
/-- A row of 14 that has just been laid. -/
theorem sz_row (w : World) : Kd.C (Kd.int .i64) (w.alloc (.cells #[.int .i64 16, .int .i64 32, .int .i64 48, .int .i64 64, .int .i64 80, .int .i64 96, .int .i64 112, .int .i64 128, .int .i64 192, .int .i64 256, .int .i64 384, .int .i64 512, .int .i64 768, .int .i64 1024] 69)) (some ⟨w.heap.size, 0, none⟩) szL.length szL := by
  refine Kd.C_of_reads (d := (0 : Int)) (h1 := fun _ => rfl) ⟨rfl, by decide, fun _ => ⟨_, rfl, fun j hj => ?_⟩⟩
  have hb := blk_new w (.cells #[.int .i64 16, .int .i64 32, .int .i64 48, .int .i64 64, .int .i64 80, .int .i64 96, .int .i64 112, .int .i64 128, .int .i64 192, .int .i64 256, .int .i64 384, .int .i64 512, .int .i64 768, .int .i64 1024] 69)
  have hc := blk_cell hb j
  have e : (⟨w.heap.size, 0, none⟩ : Addr).add j = ⟨w.heap.size, j, none⟩ := by simp [Addr.add]; exact fun h => h.symm
  rw [e, hc]
  simp only [szL, List.length_cons, List.length_nil] at hj
  have : j = 0 ∨ j = 1 ∨ j = 2 ∨ j = 3 ∨ j = 4 ∨ j = 5 ∨ j = 6 ∨ j = 7 ∨ j = 8 ∨ j = 9 ∨ j = 10 ∨ j = 11 ∨ j = 12 ∨ j = 13 := by omega
  rcases this with h | h | h | h | h | h | h | h | h | h | h | h | h | h <;> subst h <;> rfl
def size_Class.f (a0 : Int) : Option (Int) := if a0 < 0 then some (-1) else if 65536 < a0 then some (-1) else (slices_BinarySearch_int_int.f 20 szL a0).bind fun b => some b.1
theorem size_Class.calls (a0 : Int) (r : Int) (w : World) (h : size_Class.f a0 = some r) :
    Calls Try.prog 37 #[.int .i64 a0] w fun e w' => e = .returned (.int .i64 r) ∧ Below w.heap.size w w' := by
  unfold size_Class.f at h
  by_cases h0 : a0 < 0
  · rw [if_pos h0] at h
    obtain rfl := Option.some.inj h
    go_enter Try.func37, Try.ntmps37
    go_wp2
    go_ret
    exact ⟨by simp, Below.refl _ _⟩
  rw [if_neg h0] at h
  by_cases h1 : 65536 < a0
  · rw [if_pos h1] at h
    obtain rfl := Option.some.inj h
    go_enter Try.func37, Try.ntmps37
    go_wp2
    go_ret
    exact ⟨by simp, Below.refl _ _⟩
  rw [if_neg h1] at h
  obtain ⟨⟨b1, b2⟩, hb, h⟩ := Option.bind_eq_some_iff.mp h
  obtain rfl := Option.some.inj h
  have HBS := Aside0.mk hb
  clear hb h
  go_enter Try.func37, Try.ntmps37
  go_wp2_with (first | (go_at_call 49; with_reducible refine (sz_sizes _).mono ?_; rintro e w1 ⟨rfl, hb1⟩) | (go_at_call 50; refine (slices_BinarySearch_int_int.calls 20 _ 14 szL a0 b1 b2 _ (sz_row w1) (by decide) HBS.out).mono ?_; rintro e w2 ⟨rfl, ⟨m, rfl⟩⟩))
  go_ret
  exact ⟨by simp, by repeat (first | exact hb1 | refine pw_below_drewN ?_ _ | apply below_alloc)⟩

/-! ### size_Round: function 35 -/
def size_Round.f (a0 : Int) : Option (Int × Bool) := if a0 < 0 then some (0, false) else if 65536 < a0 then some (0, false) else (size_Class.f a0).bind fun c => if c < 14 then (if 0 ≤ c then some (rd szL c, true) else none) else some ((a0 + 256 - 1) / 256 * 256, true)
theorem size_Round.calls (a0 : Int) (r1 : Int) (r2 : Bool) (w : World) (h : size_Round.f a0 = some (r1, r2)) :
    Calls Try.prog 35 #[.int .i64 a0] w fun e w' => e = .returned (.tuple #[.int .i64 r1, .bool r2]) ∧ Below w.heap.size w w' := by
  unfold size_Round.f at h
  by_cases h0 : a0 < 0
  · rw [if_pos h0] at h
    obtain ⟨rfl, rfl⟩ := Prod.mk.inj (Option.some.inj h)
    go_enter Try.func35, Try.ntmps35
    go_wp2
    go_ret2
    exact ⟨by simp, Below.refl _ _⟩
  rw [if_neg h0] at h
  by_cases h1 : 65536 < a0
  · rw [if_pos h1] at h
    obtain ⟨rfl, rfl⟩ := Prod.mk.inj (Option.some.inj h)
    go_enter Try.func35, Try.ntmps35
    go_wp2
    go_ret2
    exact ⟨by simp, Below.refl _ _⟩
  rw [if_neg h1] at h
  obtain ⟨c, hc, h⟩ := Option.bind_eq_some_iff.mp h
  have HC := Aside0.mk hc
  clear hc
  by_cases h2 : c < 14
  · rw [if_pos h2] at h
    by_cases h3 : 0 ≤ c
    · rw [if_pos h3] at h
      obtain ⟨hr1, rfl⟩ := Prod.mk.inj (Option.some.inj h)
      clear h
      go_enter Try.func35, Try.ntmps35
      have hcell : ∀ w1 w2 : World, Below (w1.alloc (.cells #[.int .i64 16, .int .i64 32, .int .i64 48, .int .i64 64, .int .i64 80, .int .i64 96, .int .i64 112, .int .i64 128, .int .i64 192, .int .i64 256, .int .i64 384, .int .i64 512, .int .i64 768, .int .i64 1024] 69)).heap.size (w1.alloc (.cells #[.int .i64 16, .int .i64 32, .int .i64 48, .int .i64 64, .int .i64 80, .int .i64 96, .int .i64 112, .int .i64 128, .int .i64 192, .int .i64 256, .int .i64 384, .int .i64 512, .int .i64 768, .int .i64 1024] 69)) w2 → w2.cell? ⟨w1.heap.size, c.toNat, none⟩ = some (.int .i64 r1) := by
        intro w1 w2 hb
        have hk := (blk_cell (blk_new w1 (.cells #[.int .i64 16, .int .i64 32, .int .i64 48, .int .i64 64, .int .i64 80, .int .i64 96, .int .i64 112, .int .i64 128, .int .i64 192, .int .i64 256, .int .i64 384, .int .i64 512, .int .i64 768, .int .i64 1024] 69)) c.toNat)
        rw [hb.cell (p := ⟨w1.heap.size, c.toNat, none⟩) (blk_lt (blk_new w1 _)), hk, ← hr1]
        have : c = 0 ∨ c = 1 ∨ c = 2 ∨ c = 3 ∨ c = 4 ∨ c = 5 ∨ c = 6 ∨ c = 7 ∨ c = 8 ∨ c = 9 ∨ c = 10 ∨ c = 11 ∨ c = 12 ∨ c = 13 := by omega
        rcases this with h | h | h | h | h | h | h | h | h | h | h | h | h | h <;> subst h <;> rfl
      go_wp2_with (first | (go_at_call 49; with_reducible refine (sz_sizes _).mono ?_; rintro e w1 ⟨rfl, hb1⟩) | (go_at_call 37; refine (size_Class.calls a0 c _ HC.out).mono ?_; rintro e w2 ⟨rfl, hb2⟩; have hcl := hcell w1 w2 hb2))
      go_ret2
      exact ⟨by simp, by repeat (first | exact hb1 | refine below_step ?_ (by assumption) | apply below_alloc)⟩
    · rw [if_neg h3] at h; cases h
  · rw [if_neg h2] at h
    obtain ⟨rfl, rfl⟩ := Prod.mk.inj (Option.some.inj h)
    clear h
    go_enter Try.func35, Try.ntmps35
    go_wp2_with (first | (go_at_call 49; with_reducible refine (sz_sizes _).mono ?_; rintro e w1 ⟨rfl, hb1⟩) | (go_at_call 37; refine (size_Class.calls a0 c _ HC.out).mono ?_; rintro e w2 ⟨rfl, hb2⟩))
    go_ret2
    exact ⟨by simp, by repeat (first | exact hb1 | refine below_step ?_ (by assumption) | apply below_alloc)⟩

-- NOT PRINTED: function 51 (slices_Clone_int_int)

/-! ### size_Sizes: function 40 -/
theorem sz_clone (g : Nat) (w : World) (hr : Kd.C (Kd.int .i64) w (some ⟨g, 0, none⟩) szL.length szL) : Calls Try.prog 51 #[.slice (some ⟨g, 0, none⟩) 14 14] w fun e w' => ∃ v0_ : Value, e = .returned (v0_) ∧ Kd.R (Kd.int .i64) 3 w' w.heap.size (fun _ => True) v0_ szL ∧ Below w.heap.size w w' := by
  have HR := Aside0.mk hr
  have heq : ∀ w : World, (Go.binOp .eql 52 (.slice (some ⟨g, 0, none⟩) 14 14) (.slice none 0 0)).run Try.prog w = .ok (.bool false) w := fun w => by rfl
  clear hr
  go_enter Try.func51, Try.ntmps51
  go_wp2_with (first | ((with_reducible refine gate_dst (N := 5) rfl ?_); refine Kd.R_lit (Kd.int .i64) (w0 := w) w.heap.size 3 rfl (N := 5) rfl (xs := ([] : List Int)) (inner := []) (ok := fun _ => True) (okp := fun _ => True) ?hr ?hp (fun _ h => h) trivial (Below.refl _ _) (Nat.le_refl _) (by decide) ?_; (case hr => first | (go_simp; done) | (go_simp; rfl)); (case hp => exact Reps.none _ _); intro v1 w1 hR hB hG hN; have HO := Aside0.mk hR; have HB := Aside0.mk hB; clear hR hB hG hN) | ((with_reducible refine gate_builtin (b := .append) (xs := #[.tmp 5, .tmp 6]) rfl ?_); at_builtin; refine Kd.R_append_rows (Kd.int .i64) (w0 := w) w.heap.size rfl (.tmp 5) (.tmp 6) 52 3 (.int .i64 0) 8 rfl Try.underlying52 info3 rfl (by decide) (by omega) v1 [] szL _ _ _ (fun _ => True) (fun _ => False) rfl rfl ?aO ?aR (fun _ _ h => h) (fun _ h => h.elim) ?aF ?aB ?aS ?aL ?_; (case aR => exact Kd.C_below HR.out HB.out); (case aO => exact HO.out); (case aF => exact fun _ _ => trivial); (case aB => exact HB.out); (case aS => exact HB.out.size); (case aL => decide); intro v2 w2 hR2 hB2 hG2 hN2))
  go_ret
  exact ⟨_, rfl, hR2, hB2⟩
def size_Sizes.f : Option (List Int) := some szL
theorem size_Sizes.calls (r : List Int) (w : World) (h : size_Sizes.f = some r) :
    Calls Try.prog 40 #[] w fun e w' => ∃ v0_ : Value, e = .returned (v0_) ∧ Kd.R (Kd.int .i64) 3 w' w.heap.size (fun _ => True) v0_ r ∧ Below w.heap.size w w' := by
  obtain rfl := Option.some.inj h
  go_enter Try.func40, Try.ntmps40
  go_wp2_with (first | (go_at_call 49; with_reducible refine (sz_sizes _).mono ?_; rintro e w1 ⟨rfl, hb1⟩) | (go_at_call 51; refine (sz_clone w1.heap.size _ (sz_row w1)).mono ?_; rintro e w2 ⟨v2, rfl, hR, hb2⟩; have HR := Aside0.mk (Kd.R_lower hR (below_size (w := w) (below_alloc hb1 _))); have HB := Aside0.mk (below_step (below_alloc hb1 _) hb2); clear hR hb2))
  go_ret
  exact ⟨_, rfl, HR.out, HB.out⟩

/-! ### seizinlaw11_head: function 34 -/
def seizinlaw11_head.f  : Option (Bool) := (size_Round.f 129).bind fun bt109 => ((size_Round.f 1025).bind fun bt111 => ((size_Round.f 65537).bind fun bt113 => ((size_Round.f 0).bind fun bt115 => (if bt109.1 = 192 then (if bt109.2 = true then (if bt111.1 = 1280 then (if bt111.2 = true then (if bt113.2 = true then (some false) else (if bt115.1 = 16 then (if bt115.2 = true then ((size_Class.f 129).bind fun t117 => (if t117 = 8 then ((size_Class.f 1025).bind fun t118 => (if t118 = 14 then ((size_Class.f (-1)).bind fun t119 => (if t119 = (-1) then ((size_Sizes.f).bind fun t120 => (some ((t120.length : Int) == 14))) else (some false))) else (some false))) else (some false))) else (some false)) else (some false))) else (some false)) else (some false)) else (some false)) else (some false)))))
set_option maxHeartbeats 8000000 in
set_option maxRecDepth 100000 in
theorem seizinlaw11_head.calls  (r : Bool) (w : World) (h : seizinlaw11_head.f  = some r) :
    Calls Try.prog 34 #[] w fun e w' => e = .returned (.bool r) ∧ Below w.heap.size w w' := by
  have HB := Aside0.mk (Below.refl w.heap.size w)
  have hr_ : r = true := by
    have h0 : seizinlaw11_head.f = some true := by kernel_rfl
    rw [h0] at h; exact (Option.some.inj h).symm
  have H : ((size_Round.f 129).bind fun bt109 => ((size_Round.f 1025).bind fun bt111 => ((size_Round.f 65537).bind fun bt113 => ((size_Round.f 0).bind fun bt115 => (if bt109.1 = 192 then (if bt109.2 = true then (if bt111.1 = 1280 then (if bt111.2 = true then (if bt113.2 = true then (some false) else (if bt115.1 = 16 then (if bt115.2 = true then ((size_Class.f 129).bind fun t117 => (if t117 = 8 then ((size_Class.f 1025).bind fun t118 => (if t118 = 14 then ((size_Class.f (-1)).bind fun t119 => (if t119 = (-1) then ((size_Sizes.f).bind fun t120 => (some ((t120.length : Int) == 14))) else (some false))) else (some false))) else (some false))) else (some false)) else (some false))) else (some false)) else (some false)) else (some false)) else (some false)))))) = some r := h
  clear h
  replace H := Option.bind_eq_some_iff.mp H
  obtain ⟨⟨t109, t110⟩, A10, H⟩ := H
  replace H : ((size_Round.f 1025).bind fun bt111 => ((size_Round.f 65537).bind fun bt113 => ((size_Round.f 0).bind fun bt115 => (if t109 = 192 then (if t110 = true then (if bt111.1 = 1280 then (if bt111.2 = true then (if bt113.2 = true then (some false) else (if bt115.1 = 16 then (if bt115.2 = true then ((size_Class.f 129).bind fun t117 => (if t117 = 8 then ((size_Class.f 1025).bind fun t118 => (if t118 = 14 then ((size_Class.f (-1)).bind fun t119 => (if t119 = (-1) then ((size_Sizes.f).bind fun t120 => (some ((t120.length : Int) == 14))) else (some false))) else (some false))) else (some false))) else (some false)) else (some false))) else (some false)) else (some false)) else (some false)) else (some false))))) = some r := H
  have A1 := Aside0.mk A10
  clear A10
  replace H := Option.bind_eq_some_iff.mp H
  obtain ⟨⟨t111, t112⟩, A20, H⟩ := H
  replace H : ((size_Round.f 65537).bind fun bt113 => ((size_Round.f 0).bind fun bt115 => (if t109 = 192 then (if t110 = true then (if t111 = 1280 then (if t112 = true then (if bt113.2 = true then (some false) else (if bt115.1 = 16 then (if bt115.2 = true then ((size_Class.f 129).bind fun t117 => (if t117 = 8 then ((size_Class.f 1025).bind fun t118 => (if t118 = 14 then ((size_Class.f (-1)).bind fun t119 => (if t119 = (-1) then ((size_Sizes.f).bind fun t120 => (some ((t120.length : Int) == 14))) else (some false))) else (some false))) else (some false))) else (some false)) else (some false))) else (some false)) else (some false)) else (some false)) else (some false)))) = some r := H
  have A2 := Aside0.mk A20
  clear A20
  replace H := Option.bind_eq_some_iff.mp H
  obtain ⟨⟨t113, t114⟩, A30, H⟩ := H
  replace H : ((size_Round.f 0).bind fun bt115 => (if t109 = 192 then (if t110 = true then (if t111 = 1280 then (if t112 = true then (if t114 = true then (some false) else (if bt115.1 = 16 then (if bt115.2 = true then ((size_Class.f 129).bind fun t117 => (if t117 = 8 then ((size_Class.f 1025).bind fun t118 => (if t118 = 14 then ((size_Class.f (-1)).bind fun t119 => (if t119 = (-1) then ((size_Sizes.f).bind fun t120 => (some ((t120.length : Int) == 14))) else (some false))) else (some false))) else (some false))) else (some false)) else (some false))) else (some false)) else (some false)) else (some false)) else (some false))) = some r := H
  have A3 := Aside0.mk A30
  clear A30
  replace H := Option.bind_eq_some_iff.mp H
  obtain ⟨⟨t115, t116⟩, A40, H⟩ := H
  replace H : (if t109 = 192 then (if t110 = true then (if t111 = 1280 then (if t112 = true then (if t114 = true then (some false) else (if t115 = 16 then (if t116 = true then ((size_Class.f 129).bind fun t117 => (if t117 = 8 then ((size_Class.f 1025).bind fun t118 => (if t118 = 14 then ((size_Class.f (-1)).bind fun t119 => (if t119 = (-1) then ((size_Sizes.f).bind fun t120 => (some ((t120.length : Int) == 14))) else (some false))) else (some false))) else (some false))) else (some false)) else (some false))) else (some false)) else (some false)) else (some false)) else (some false)) = some r := H
  have A4 := Aside0.mk A40
  clear A40
  by_cases c5 : t109 = 192
  · rw [if_pos c5] at H
    have c5b0 : (t109 == 192) = true := beq_iff_eq.mpr c5
    have c5b1 : (t109 != 192) = false := bne_eq_false_iff_eq.mpr c5
    clear c5
    by_cases c6 : t110 = true
    · subst c6
      have H1 : (if t111 = 1280 then (if t112 = true then (if t114 = true then (some false) else (if t115 = 16 then (if t116 = true then ((size_Class.f 129).bind fun t117 => (if t117 = 8 then ((size_Class.f 1025).bind fun t118 => (if t118 = 14 then ((size_Class.f (-1)).bind fun t119 => (if t119 = (-1) then ((size_Sizes.f).bind fun t120 => (some ((t120.length : Int) == 14))) else (some false))) else (some false))) else (some false))) else (some false)) else (some false))) else (some false)) else (some false)) = some r := by rw [if_pos rfl] at H; exact H
      clear H
      have H := H1
      clear H1
      by_cases c7 : t111 = 1280
      · rw [if_pos c7] at H
        have c7b0 : (t111 == 1280) = true := beq_iff_eq.mpr c7
        have c7b1 : (t111 != 1280) = false := bne_eq_false_iff_eq.mpr c7
        clear c7
        by_cases c8 : t112 = true
        · subst c8
          have H1 : (if t114 = true then (some false) else (if t115 = 16 then (if t116 = true then ((size_Class.f 129).bind fun t117 => (if t117 = 8 then ((size_Class.f 1025).bind fun t118 => (if t118 = 14 then ((size_Class.f (-1)).bind fun t119 => (if t119 = (-1) then ((size_Sizes.f).bind fun t120 => (some ((t120.length : Int) == 14))) else (some false))) else (some false))) else (some false))) else (some false)) else (some false))) = some r := by rw [if_pos rfl] at H; exact H
          clear H
          have H := H1
          clear H1
          by_cases c9 : t114 = true
          · subst c9
            have H1 : (some false) = some r := by rw [if_pos rfl] at H; exact H
            clear H
            have H := H1
            clear H1
            exact absurd ((Option.some.inj H).trans hr_) (by decide)
          · replace c9 := Bool.eq_false_iff.mpr c9
            subst c9
            have H1 : (if t115 = 16 then (if t116 = true then ((size_Class.f 129).bind fun t117 => (if t117 = 8 then ((size_Class.f 1025).bind fun t118 => (if t118 = 14 then ((size_Class.f (-1)).bind fun t119 => (if t119 = (-1) then ((size_Sizes.f).bind fun t120 => (some ((t120.length : Int) == 14))) else (some false))) else (some false))) else (some false))) else (some false)) else (some false)) = some r := by rw [if_neg (show ¬ (false = true) by decide)] at H; exact H
            clear H
            have H := H1
            clear H1
            by_cases c10 : t115 = 16
            · rw [if_pos c10] at H
              have c10b0 : (t115 == 16) = true := beq_iff_eq.mpr c10
              have c10b1 : (t115 != 16) = false := bne_eq_false_iff_eq.mpr c10
              clear c10
              by_cases c11 : t116 = true
              · subst c11
                have H1 : ((size_Class.f 129).bind fun t117 => (if t117 = 8 then ((size_Class.f 1025).bind fun t118 => (if t118 = 14 then ((size_Class.f (-1)).bind fun t119 => (if t119 = (-1) then ((size_Sizes.f).bind fun t120 => (some ((t120.length : Int) == 14))) else (some false))) else (some false))) else (some false))) = some r := by rw [if_pos rfl] at H; exact H
                clear H
                have H := H1
                clear H1
                replace H := Option.bind_eq_some_iff.mp H
                obtain ⟨t117, A120, H⟩ := H
                replace H : (if t117 = 8 then ((size_Class.f 1025).bind fun t118 => (if t118 = 14 then ((size_Class.f (-1)).bind fun t119 => (if t119 = (-1) then ((size_Sizes.f).bind fun t120 => (some ((t120.length : Int) == 14))) else (some false))) else (some false))) else (some false)) = some r := H
                have A12 := Aside0.mk A120
                clear A120
                by_cases c13 : t117 = 8
                · rw [if_pos c13] at H
                  have c13b0 : (t117 == 8) = true := beq_iff_eq.mpr c13
                  have c13b1 : (t117 != 8) = false := bne_eq_false_iff_eq.mpr c13
                  clear c13
                  replace H := Option.bind_eq_some_iff.mp H
                  obtain ⟨t118, A140, H⟩ := H
                  replace H : (if t118 = 14 then ((size_Class.f (-1)).bind fun t119 => (if t119 = (-1) then ((size_Sizes.f).bind fun t120 => (some ((t120.length : Int) == 14))) else (some false))) else (some false)) = some r := H
                  have A14 := Aside0.mk A140
                  clear A140
                  by_cases c15 : t118 = 14
                  · rw [if_pos c15] at H
                    have c15b0 : (t118 == 14) = true := beq_iff_eq.mpr c15
                    have c15b1 : (t118 != 14) = false := bne_eq_false_iff_eq.mpr c15
                    clear c15
                    replace H := Option.bind_eq_some_iff.mp H
                    obtain ⟨t119, A160, H⟩ := H
                    replace H : (if t119 = (-1) then ((size_Sizes.f).bind fun t120 => (some ((t120.length : Int) == 14))) else (some false)) = some r := H
                    have A16 := Aside0.mk A160
                    clear A160
                    by_cases c17 : t119 = (-1)
                    · rw [if_pos c17] at H
                      have c17b0 : (t119 == (-1)) = true := beq_iff_eq.mpr c17
                      have c17b1 : (t119 != (-1)) = false := bne_eq_false_iff_eq.mpr c17
                      clear c17
                      replace H := Option.bind_eq_some_iff.mp H
                      obtain ⟨t120, A180, H⟩ := H
                      replace H : (some ((t120.length : Int) == 14)) = some r := H
                      have A18 := Aside0.mk A180
                      clear A180
                      clear hr_
                      obtain rfl := Option.some.inj H
                      go_enter Try.func34, Try.ntmps34
                      go_wp2_with (first | ((with_reducible refine gate_callee (f := 35) rfl ?_); refine goesL_ (some 10) rfl rfl Try.func35 (by kernel_rfl) rfl #[.int .i64 129] rfl (by (try simp only [List.map_toArray, List.map_cons, List.map_nil]); first | done | rfl | (simp only [List.length_drop, List.length_take]; rfl)) ?_; (with_reducible refine (size_Round.calls 129 t109 true _ A1.out).mono ?_); rintro e w19 ⟨rfl, hb⟩; refine ⟨_, rfl, ?_⟩; have n0_ := Aside0.mk (below_step (by repeat (first | (with_reducible first | exact HB.out | apply below_alloc | apply pw_below_drewN | apply below_drew1) | exact HB.out)) hb); clear HB; have HB := n0_; clear n0_; (try clear hb); (try clear hb2); (try clear hk); (try clear hi)) | ((with_reducible refine gate_callee (f := 35) rfl ?_); refine goesL_ (some 14) rfl rfl Try.func35 (by kernel_rfl) rfl #[.int .i64 1025] rfl (by (try simp only [List.map_toArray, List.map_cons, List.map_nil]); first | done | rfl | (simp only [List.length_drop, List.length_take]; rfl)) ?_; (with_reducible refine (size_Round.calls 1025 t111 true _ A2.out).mono ?_); rintro e w20 ⟨rfl, hb⟩; refine ⟨_, rfl, ?_⟩; have n0_ := Aside0.mk (below_step (by repeat (first | (with_reducible first | exact HB.out | apply below_alloc | apply pw_below_drewN | apply below_drew1) | exact HB.out)) hb); clear HB; have HB := n0_; clear n0_; (try clear hb); (try clear hb2); (try clear hk); (try clear hi)) | ((with_reducible refine gate_callee (f := 35) rfl ?_); refine goesL_ (some 18) rfl rfl Try.func35 (by kernel_rfl) rfl #[.int .i64 65537] rfl (by (try simp only [List.map_toArray, List.map_cons, List.map_nil]); first | done | rfl | (simp only [List.length_drop, List.length_take]; rfl)) ?_; (with_reducible refine (size_Round.calls 65537 t113 false _ A3.out).mono ?_); rintro e w21 ⟨rfl, hb⟩; refine ⟨_, rfl, ?_⟩; have n0_ := Aside0.mk (below_step (by repeat (first | (with_reducible first | exact HB.out | apply below_alloc | apply pw_below_drewN | apply below_drew1) | exact HB.out)) hb); clear HB; have HB := n0_; clear n0_; (try clear hb); (try clear hb2); (try clear hk); (try clear hi)) | ((with_reducible refine gate_callee (f := 35) rfl ?_); refine goesL_ (some 22) rfl rfl Try.func35 (by kernel_rfl) rfl #[.int .i64 0] rfl (by (try simp only [List.map_toArray, List.map_cons, List.map_nil]); first | done | rfl | (simp only [List.length_drop, List.length_take]; rfl)) ?_; (with_reducible refine (size_Round.calls 0 t115 true _ A4.out).mono ?_); rintro e w22 ⟨rfl, hb⟩; refine ⟨_, rfl, ?_⟩; have n0_ := Aside0.mk (below_step (by repeat (first | (with_reducible first | exact HB.out | apply below_alloc | apply pw_below_drewN | apply below_drew1) | exact HB.out)) hb); clear HB; have HB := n0_; clear n0_; (try clear hb); (try clear hb2); (try clear hk); (try clear hi)) | (go_at_call 37; (with_reducible refine (size_Class.calls 129 t117 _ A12.out).mono ?_); rintro e w23 ⟨rfl, hb⟩; have n0_ := Aside0.mk (below_step (by repeat (first | (with_reducible first | exact HB.out | apply below_alloc | apply pw_below_drewN | apply below_drew1) | exact HB.out)) hb); clear HB; have HB := n0_; clear n0_; (try clear hb); (try clear hb2); (try clear hk); (try clear hi)) | (go_at_call 37; (with_reducible refine (size_Class.calls 1025 t118 _ A14.out).mono ?_); rintro e w24 ⟨rfl, hb⟩; have n0_ := Aside0.mk (below_step (by repeat (first | (with_reducible first | exact HB.out | apply below_alloc | apply pw_below_drewN | apply below_drew1) | exact HB.out)) hb); clear HB; have HB := n0_; clear n0_; (try clear hb); (try clear hb2); (try clear hk); (try clear hi)) | (go_at_call 37; (with_reducible refine (size_Class.calls (-1) t119 _ A16.out).mono ?_); rintro e w25 ⟨rfl, hb⟩; have n0_ := Aside0.mk (below_step (by repeat (first | (with_reducible first | exact HB.out | apply below_alloc | apply pw_below_drewN | apply below_drew1) | exact HB.out)) hb); clear HB; have HB := n0_; clear n0_; (try clear hb); (try clear hb2); (try clear hk); (try clear hi)) | (go_at_call 40; (with_reducible refine (size_Sizes.calls  t120 _ A18.out).mono ?_); rintro e w26 ⟨v121, rfl, ho0, hb⟩; have n0_ := Aside0.mk (Kd.R_lower ho0 (below_size (by repeat (first | (with_reducible first | exact HB.out | apply below_alloc | apply pw_below_drewN | apply below_drew1) | exact HB.out)))); have n1_ := Aside0.mk (below_step (by repeat (first | (with_reducible first | exact HB.out | apply below_alloc | apply pw_below_drewN | apply below_drew1) | exact HB.out)) hb); clear HB; have HO122 := n0_; have HB := n1_; clear n0_ n1_; (try clear hb); (try clear hb2); (try clear hk); (try clear hi); (try clear ho0); obtain ⟨Ao27, co27, eo27⟩ := Kd.R_slice HO122.out; subst eo27))
                      go_ret
                      exact ⟨by first | rfl | (simp [errW_none, errW_some] <;> rfl) | (simp [*, errW_none, errW_some] <;> rfl), by repeat (first | (with_reducible first | exact HB.out | apply below_alloc | apply pw_below_drewN | apply below_drew1) | exact HB.out)⟩
                    · rw [if_neg c17] at H
                      have c17b0 : (t119 == (-1)) = false := beq_eq_false_iff_ne.mpr c17
                      have c17b1 : (t119 != (-1)) = true := bne_iff_ne.mpr c17
                      exact absurd ((Option.some.inj H).trans hr_) (by decide)
                  · rw [if_neg c15] at H
                    have c15b0 : (t118 == 14) = false := beq_eq_false_iff_ne.mpr c15
                    have c15b1 : (t118 != 14) = true := bne_iff_ne.mpr c15
                    exact absurd ((Option.some.inj H).trans hr_) (by decide)
                · rw [if_neg c13] at H
                  have c13b0 : (t117 == 8) = false := beq_eq_false_iff_ne.mpr c13
                  have c13b1 : (t117 != 8) = true := bne_iff_ne.mpr c13
                  exact absurd ((Option.some.inj H).trans hr_) (by decide)
              · replace c11 := Bool.eq_false_iff.mpr c11
                subst c11
                have H1 : (some false) = some r := by rw [if_neg (show ¬ (false = true) by decide)] at H; exact H
                clear H
                have H := H1
                clear H1
                exact absurd ((Option.some.inj H).trans hr_) (by decide)
            · rw [if_neg c10] at H
              have c10b0 : (t115 == 16) = false := beq_eq_false_iff_ne.mpr c10
              have c10b1 : (t115 != 16) = true := bne_iff_ne.mpr c10
              exact absurd ((Option.some.inj H).trans hr_) (by decide)
        · replace c8 := Bool.eq_false_iff.mpr c8
          subst c8
          have H1 : (some false) = some r := by rw [if_neg (show ¬ (false = true) by decide)] at H; exact H
          clear H
          have H := H1
          clear H1
          exact absurd ((Option.some.inj H).trans hr_) (by decide)
      · rw [if_neg c7] at H
        have c7b0 : (t111 == 1280) = false := beq_eq_false_iff_ne.mpr c7
        have c7b1 : (t111 != 1280) = true := bne_iff_ne.mpr c7
        exact absurd ((Option.some.inj H).trans hr_) (by decide)
    · replace c6 := Bool.eq_false_iff.mpr c6
      subst c6
      have H1 : (some false) = some r := by rw [if_neg (show ¬ (false = true) by decide)] at H; exact H
      clear H
      have H := H1
      clear H1
      exact absurd ((Option.some.inj H).trans hr_) (by decide)
  · rw [if_neg c5] at H
    have c5b0 : (t109 == 192) = false := beq_eq_false_iff_ne.mpr c5
    have c5b1 : (t109 != 192) = true := bne_iff_ne.mpr c5
    exact absurd ((Option.some.inj H).trans hr_) (by decide)

/-! ### seizinref11_Sizes: function 41 -/
def seizinref11_Sizes.f  : Option (List Int) := some (([16, 32, 48, 64, 80, 96, 112, 128, 192, 256, 384, 512, 768, 1024] : List Int))
set_option maxHeartbeats 8000000 in
set_option maxRecDepth 100000 in
theorem seizinref11_Sizes.calls  (r : List Int) (w : World) (h : seizinref11_Sizes.f  = some r) :
    Calls Try.prog 41 #[] w fun e w' => ∃ v0_ : Value, e = .returned (v0_) ∧ Kd.R (Kd.int .i64) 3 w' w.heap.size (fun _ => True) v0_ r ∧ Below w.heap.size w w' := by
  have HB := Aside0.mk (Below.refl w.heap.size w)
  have H : (some (([16, 32, 48, 64, 80, 96, 112, 128, 192, 256, 384, 512, 768, 1024] : List Int))) = some r := h
  clear h
  obtain ⟨y123, hy123⟩ : ∃ y_ : List Int, y_ = (([16, 32, 48, 64, 80, 96, 112, 128, 192, 256, 384, 512, 768, 1024] : List Int)) := ⟨_, rfl⟩
  replace H : (some y123) = some r := by first | (rw [hy123]; with_reducible exact H) | (have H2_ := (Option.bind_some _ _).symm.trans H; rw [hy123]; with_reducible exact H2_) | (have H2_ := (Option.bind_some _ _).symm.trans H; with_reducible exact H2_) | with_reducible exact H | (rw [hy123]; exact H) | exact H
  have Ny123 := Aside0.mk hy123
  clear hy123
  obtain rfl := Option.some.inj H
  go_enter Try.func41, Try.ntmps41
  go_wp2_with (first | ((with_reducible refine gate_dst (N := 1) rfl ?_); refine Kd.R_lit (Kd.int .i64) _ 3 ?hg (N := 1) ?hd (xs := ([16, 32, 48, 64, 80, 96, 112, 128, 192, 256, 384, 512, 768, 1024] : List Int)) (inner := [.int .i64 16, .int .i64 32, .int .i64 48, .int .i64 64, .int .i64 80, .int .i64 96, .int .i64 112, .int .i64 128, .int .i64 192, .int .i64 256, .int .i64 384, .int .i64 512, .int .i64 768, .int .i64 1024]) (ok := fun _ => True) (okp := fun _ => True) ?hr ?hp (fun _ hk => hk) trivial (Below.refl _ _) (Nat.le_refl _) (by simp) ?_; (case hd => rfl); (case hg => rfl); (case hr => first | (go_simp; done) | (go_simp; rfl)); (case hp => exact (Reps.one (show Kd.M (Kd.int .i64) _ _ _ 16 [.int .i64 16] from rfl) (Reps.one (show Kd.M (Kd.int .i64) _ _ _ 32 [.int .i64 32] from rfl) (Reps.one (show Kd.M (Kd.int .i64) _ _ _ 48 [.int .i64 48] from rfl) (Reps.one (show Kd.M (Kd.int .i64) _ _ _ 64 [.int .i64 64] from rfl) (Reps.one (show Kd.M (Kd.int .i64) _ _ _ 80 [.int .i64 80] from rfl) (Reps.one (show Kd.M (Kd.int .i64) _ _ _ 96 [.int .i64 96] from rfl) (Reps.one (show Kd.M (Kd.int .i64) _ _ _ 112 [.int .i64 112] from rfl) (Reps.one (show Kd.M (Kd.int .i64) _ _ _ 128 [.int .i64 128] from rfl) (Reps.one (show Kd.M (Kd.int .i64) _ _ _ 192 [.int .i64 192] from rfl) (Reps.one (show Kd.M (Kd.int .i64) _ _ _ 256 [.int .i64 256] from rfl) (Reps.one (show Kd.M (Kd.int .i64) _ _ _ 384 [.int .i64 384] from rfl) (Reps.one (show Kd.M (Kd.int .i64) _ _ _ 512 [.int .i64 512] from rfl) (Reps.one (show Kd.M (Kd.int .i64) _ _ _ 768 [.int .i64 768] from rfl) (Reps.one (show Kd.M (Kd.int .i64) _ _ _ 1024 [.int .i64 1024] from rfl) (Reps.none _ _)))))))))))))))); intro v124 w1 ho2 hb hg_ hnew_; clear hg_ hnew_; (first | rw [← Ny123.out] at ho2 | (simp only [Int.reduceToNat] at ho2; rw [← Ny123.out] at ho2)); have n0_ := Aside0.mk (Kd.R_lower ho2 (below_size (by repeat (first | (with_reducible first | exact HB.out | apply below_alloc | apply pw_below_drewN | apply below_drew1) | exact HB.out)))); have n1_ := Aside0.mk (below_step (by repeat (first | (with_reducible first | exact HB.out | apply below_alloc | apply pw_below_drewN | apply below_drew1) | exact HB.out)) hb); clear HB; have HO125 := n0_; have HB := n1_; clear n0_ n1_; clear hb ho2))
  go_ret
  exact ⟨_, by first | rfl | (simp [errW_none, errW_some] <;> rfl) | (simp [*, errW_none, errW_some] <;> rfl), by (with_reducible repeat (first | apply Kd.R_alloc | apply Kd.R_drewN | apply Kd.R_drew)); exact HO125.out, by repeat (first | (with_reducible first | exact HB.out | apply below_alloc | apply pw_below_drewN | apply below_drew1) | exact HB.out)⟩

/-! ### seizinref11_Round: function 36 -/
mutual
def seizinref11_Round.j0 : Nat → Int → Bool → Option (Int × Bool)
  | 0, _, _ => none
  | k + 1, x0, x12 => if x12 = true then (some (0, false)) else ((seizinref11_Sizes.f).bind fun t126 => (seizinref11_Round.l0 k x0 t126 0))
def seizinref11_Round.l0 : Nat → Int → List Int → Int → Option (Int × Bool)
  | 0, _, _, _ => none
  | k + 1, x0, x4, x5 => if x5 < (x4.length : Int) then (if 0 ≤ x5 then (if (rd x4 x5) ≥ x0 then (some (rd x4 x5, true)) else (seizinref11_Round.l0 k x0 x4 (wrap64 (x5 + 1)))) else (none)) else (seizinref11_Round.l1 k x0 1280)
def seizinref11_Round.l1 : Nat → Int → Int → Option (Int × Bool)
  | 0, _, _ => none
  | k + 1, x0, x6 => if x6 < x0 then (seizinref11_Round.l1 k x0 (wrap64 (x6 + 256))) else (some (x6, true))
end
def seizinref11_Round.f (k : Nat) (a0 : Int) : Option (Int × Bool) := if a0 < 0 then (seizinref11_Round.j0 k a0 true) else (seizinref11_Round.j0 k a0 (decide (a0 > 65536)))
theorem seizinref11_Round.mono_l : ∀ k, (∀ y0 y1, LeO (seizinref11_Round.j0 k y0 y1) (seizinref11_Round.j0 (k + 1) y0 y1)) ∧ (∀ y0 y1 y2, LeO (seizinref11_Round.l0 k y0 y1 y2) (seizinref11_Round.l0 (k + 1) y0 y1 y2)) ∧ (∀ y0 y1, LeO (seizinref11_Round.l1 k y0 y1) (seizinref11_Round.l1 (k + 1) y0 y1))
  | 0 => ⟨fun _ _ r h => by simp [seizinref11_Round.j0] at h, fun _ _ _ r h => by simp [seizinref11_Round.l0] at h, fun _ _ r h => by simp [seizinref11_Round.l1] at h⟩
  | k + 1 => by
    obtain ⟨ih0, ih1, ih2⟩ := seizinref11_Round.mono_l k
    refine ⟨?_, ?_, ?_⟩
    · intro y0 y1
      unfold seizinref11_Round.j0
      repeat' first
      | (with_reducible exact ih0 _ _)
      | (with_reducible exact ih1 _ _ _)
      | (with_reducible exact ih2 _ _)
      | (with_reducible exact LeO.refl _)
      | (with_reducible exact LeO.none _)
      | (with_reducible refine LeO.ite ?_ ?_)
      | (with_reducible refine LeO.bind ?_ (fun _ => ?_))
      | exact ih0 _ _
      | exact ih1 _ _ _
      | exact ih2 _ _
      | exact LeO.none _
      | refine LeO.ite ?_ ?_
      | refine LeO.bind ?_ (fun _ => ?_)
    · intro y0 y1 y2
      unfold seizinref11_Round.l0
      repeat' first
      | (with_reducible exact ih0 _ _)
      | (with_reducible exact ih1 _ _ _)
      | (with_reducible exact ih2 _ _)
      | (with_reducible exact LeO.refl _)
      | (with_reducible exact LeO.none _)
      | (with_reducible refine LeO.ite ?_ ?_)
      | (with_reducible refine LeO.bind ?_ (fun _ => ?_))
      | exact ih0 _ _
      | exact ih1 _ _ _
      | exact ih2 _ _
      | exact LeO.none _
      | refine LeO.ite ?_ ?_
      | refine LeO.bind ?_ (fun _ => ?_)
    · intro y0 y1
      unfold seizinref11_Round.l1
      repeat' first
      | (with_reducible exact ih0 _ _)
      | (with_reducible exact ih1 _ _ _)
      | (with_reducible exact ih2 _ _)
      | (with_reducible exact LeO.refl _)
      | (with_reducible exact LeO.none _)
      | (with_reducible refine LeO.ite ?_ ?_)
      | (with_reducible refine LeO.bind ?_ (fun _ => ?_))
      | exact ih0 _ _
      | exact ih1 _ _ _
      | exact ih2 _ _
      | exact LeO.none _
      | refine LeO.ite ?_ ?_
      | refine LeO.bind ?_ (fun _ => ?_)
theorem seizinref11_Round.mono : ∀ a0 k, LeO (seizinref11_Round.f k a0) (seizinref11_Round.f (k + 1) a0) := by
  intro a0 k
  obtain ⟨ih0, ih1, ih2⟩ := seizinref11_Round.mono_l k
  unfold seizinref11_Round.f
  repeat' first
      | (with_reducible exact ih0 _ _)
      | (with_reducible exact ih1 _ _ _)
      | (with_reducible exact ih2 _ _)
      | (with_reducible exact LeO.refl _)
      | (with_reducible exact LeO.none _)
      | (with_reducible refine LeO.ite ?_ ?_)
      | (with_reducible refine LeO.bind ?_ (fun _ => ?_))
      | exact ih0 _ _
      | exact ih1 _ _ _
      | exact ih2 _ _
      | exact LeO.none _
      | refine LeO.ite ?_ ?_
      | refine LeO.bind ?_ (fun _ => ?_)
set_option maxHeartbeats 8000000 in
set_option maxRecDepth 100000 in
theorem seizinref11_Round.calls (k : Nat) (a0 : Int) (r1 : Int) (r2 : Bool) (w : World) (h : seizinref11_Round.f k a0 = some (r1, r2)) :
    Calls Try.prog 36 #[.int .i64 a0] w fun e w' => e = .returned (.tuple #[.int .i64 r1, .bool r2]) ∧ Below w.heap.size w w' := by
  have HB := Aside0.mk (Below.refl w.heap.size w)
  have H : (if a0 < 0 then (seizinref11_Round.j0 k a0 true) else (seizinref11_Round.j0 k a0 (decide (a0 > 65536)))) = some (r1, r2) := h
  clear h
  have HC2 := Aside0.mk H
  clear H
  go_enter Try.func36, Try.ntmps36
  go_upto_region 1 with (fail)
  go_cut [12] (fun v12 wc => ∃ (kq : Nat) (x12_1 : Bool), v12 = .bool x12_1 ∧ Aside0 (seizinref11_Round.j0 kq a0 x12_1 = some (r1, r2)) ∧ Aside0 (kq ≤ k) ∧ Aside0 (Below w.heap.size w wc))
  case first =>
    have H := HC2.out
    clear HC2
    by_cases c3 : a0 < 0
    · rw [if_pos c3] at H
      have c3b0 : decide (a0 < 0) = true := decide_eq_true c3
      clear c3
      (first | rw [c3b0] | (simp only [i64_w, i32_w]; rw [c3b0]) | skip)
      have H' := Aside0.mk H
      clear H
      go_wp2
      go_meet
      case rel => exact ⟨_, (true), (by first | rfl | (simp; done) | (simp [*]; done)), H', ⟨by first | omega | exact Nat.le_refl _⟩, ⟨by repeat (first | (with_reducible first | exact HB.out | apply below_alloc | apply pw_below_drewN | apply below_drew1) | exact HB.out)⟩⟩
    · rw [if_neg c3] at H
      have c3b0 : decide (a0 < 0) = false := decide_eq_false c3
      clear c3
      (first | rw [c3b0] | (simp only [i64_w, i32_w]; rw [c3b0]) | skip)
      have H' := Aside0.mk H
      clear H
      go_wp2
      go_meet
      case rel => exact ⟨_, (decide (a0 > 65536)), (by first | rfl | (simp; done) | (simp [*]; done)), H', ⟨by first | omega | exact Nat.le_refl _⟩, ⟨by repeat (first | (with_reducible first | exact HB.out | apply below_alloc | apply pw_below_drewN | apply below_drew1) | exact HB.out)⟩⟩
  case rest =>
    clear HC2
    try clear p2
    try clear c3
    try clear c3b0
    obtain ⟨kq, x12_1, rfl, HA, HJ1, HB⟩ := hcut
    cases kq with
    | zero => exact absurd HA.out (by simp [seizinref11_Round.j0])
    | succ kj1 =>
      have H := HA.out
      clear HA
      simp only [seizinref11_Round.j0] at H
      by_cases c4 : x12_1 = true
      · subst c4
        have H1 : (some (0, false)) = some (r1, r2) := by rw [if_pos rfl] at H; exact H
        clear H
        have H := H1
        clear H1
        simp only [Option.some.injEq, Prod.mk.injEq] at H
        obtain ⟨rfl, rfl⟩ := H
        go_wp2
        go_ret2
        exact ⟨by first | rfl | (simp [errW_none, errW_some] <;> rfl) | (simp [*, errW_none, errW_some] <;> rfl), by repeat (first | (with_reducible first | exact HB.out | apply below_alloc | apply pw_below_drewN | apply below_drew1) | exact HB.out)⟩
      · replace c4 := Bool.eq_false_iff.mpr c4
        subst c4
        have H1 : ((seizinref11_Sizes.f).bind fun t126 => (seizinref11_Round.l0 kj1 a0 t126 0)) = some (r1, r2) := by rw [if_neg (show ¬ (false = true) by decide)] at H; exact H
        clear H
        have H := H1
        clear H1
        replace H := Option.bind_eq_some_iff.mp H
        obtain ⟨t126, A50, H⟩ := H
        replace H : (seizinref11_Round.l0 kj1 a0 t126 0) = some (r1, r2) := H
        have A5 := Aside0.mk A50
        clear A50
        have H' := Aside0.mk H
        clear H
        go_wp2_with (first | ((with_reducible refine gate_callee (f := 41) rfl ?_); refine goesL_ (some 13) rfl rfl Try.func41 (by kernel_rfl) rfl #[] rfl (by (try simp only [List.map_toArray, List.map_cons, List.map_nil]); first | done | rfl | (simp only [List.length_drop, List.length_take]; rfl)) ?_; (with_reducible refine (seizinref11_Sizes.calls  t126 _ A5.out).mono ?_); rintro e w6 ⟨v127, rfl, ho0, hb⟩; refine ⟨_, rfl, ?_⟩; have n0_ := Aside0.mk (Kd.R_lower ho0 (below_size (by repeat (first | (with_reducible first | exact HB.out | apply below_alloc | apply pw_below_drewN | apply below_drew1) | exact HB.out)))); have n1_ := Aside0.mk (below_step (by repeat (first | (with_reducible first | exact HB.out | apply below_alloc | apply pw_below_drewN | apply below_drew1) | exact HB.out)) hb); clear HB; have HO128 := n0_; have HB := n1_; clear n0_ n1_; (try clear hb); (try clear hb2); (try clear hk); (try clear hi); (try clear ho0)))
        go_loopg [5] kj1 (fun kq v5 w' => ∃ (x5_2 : Int), v5 = .int .i64 x5_2 ∧ Aside0 (seizinref11_Round.l0 kq a0 t126 x5_2 = some (r1, r2)) ∧ Aside0 (kq ≤ kj1) ∧ Aside0 (Kd.R (Kd.int .i64) 3 w' w.heap.size (fun _ => True) v127 t126) ∧ Aside0 (Below w.heap.size w w'))
        case atStart => exact ⟨(0), (by first | rfl | (simp; done) | (simp [*]; done)), H', ⟨Nat.le_refl _⟩, ⟨by (with_reducible repeat (first | apply Kd.R_alloc | apply Kd.R_drewN | apply Kd.R_drew)); exact HO128.out⟩, ⟨by repeat (first | (with_reducible first | exact HB.out | apply below_alloc | apply pw_below_drewN | apply below_drew1) | exact HB.out)⟩⟩
        case round =>
          clear H'
          try clear p2
          try clear c3
          try clear c3b0
          try clear c4
          try clear p2
          obtain ⟨x5_2, rfl, HA, HK2, HO_4, HB⟩ := hrel
          cases gk with
          | zero => exact absurd HA.out (by simp [seizinref11_Round.l0])
          | succ k2 =>
            have H := HA.out
            clear HA
            simp only [seizinref11_Round.l0] at H
            by_cases c7 : x5_2 < (t126.length : Int)
            · rw [if_pos c7] at H
              have c7b0 : decide (x5_2 < (t126.length : Int)) = true := decide_eq_true c7
              clear c7
              by_cases c8 : 0 ≤ x5_2
              · rw [if_pos c8] at H
                have c8b0 : decide (0 ≤ x5_2) = true := decide_eq_true c8
                clear c8
                by_cases c9 : (rd t126 x5_2) ≥ a0
                · rw [if_pos c9] at H
                  have c9b0 : decide (a0 ≤ (rd t126 x5_2)) = true := decide_eq_true c9
                  clear c9
                  simp only [Option.some.injEq, Prod.mk.injEq] at H
                  obtain ⟨rfl, rfl⟩ := H
                  obtain ⟨Ao10, co10, eo10⟩ := Kd.R_slice HO_4.out
                  subst eo10
                  have p129 : 0 ≤ (x5_2 : Int) := of_decide_eq_true (by first | (with_reducible assumption) | assumption)
                  have q129 : x5_2 < (t126.length : Int) := of_decide_eq_true (by first | (with_reducible assumption) | assumption)
                  obtain ⟨ad129, e129, hx129_0⟩ := Kd.at_int (Kd.R_reads' HO_4.out).2.2 x5_2 p129 q129
                  cases e129
                  replace p129 := eq_true p129
                  replace q129 := eq_true q129
                  have p130 : 0 ≤ (x5_2 : Int) := of_decide_eq_true (by first | (with_reducible assumption) | assumption)
                  have q130 : x5_2 < (t126.length : Int) := of_decide_eq_true (by first | (with_reducible assumption) | assumption)
                  obtain ⟨ad130, e130, hx130_0⟩ := Kd.at_int (Kd.R_reads' HO_4.out).2.2 x5_2 p130 q130
                  obtain rfl : ad129 = ad130 := (by injection e130)
                  replace p130 := eq_true p130
                  replace q130 := eq_true q130
                  go_wp2
                  go_ret2
                  exact ⟨by first | rfl | (simp [errW_none, errW_some] <;> rfl) | (simp [*, errW_none, errW_some] <;> rfl), by repeat (first | (with_reducible first | exact HB.out | apply below_alloc | apply pw_below_drewN | apply below_drew1) | exact HB.out)⟩
                · rw [if_neg c9] at H
                  have c9b0 : decide (a0 ≤ (rd t126 x5_2)) = false := decide_eq_false c9
                  clear c9
                  have H' := Aside0.mk H
                  clear H
                  obtain ⟨Ao11, co11, eo11⟩ := Kd.R_slice HO_4.out
                  subst eo11
                  have p129 : 0 ≤ (x5_2 : Int) := of_decide_eq_true (by first | (with_reducible assumption) | assumption)
                  have q129 : x5_2 < (t126.length : Int) := of_decide_eq_true (by first | (with_reducible assumption) | assumption)
                  obtain ⟨ad129, e129, hx129_0⟩ := Kd.at_int (Kd.R_reads' HO_4.out).2.2 x5_2 p129 q129
                  cases e129
                  replace p129 := eq_true p129
                  replace q129 := eq_true q129
                  go_wp2
                  go_roundg k2
                  case measure => have := HJ1.out; have := HK2.out; omega
                  case rel => exact ⟨(wrap64 (x5_2 + 1)), (by first | rfl | (simp; done) | (simp [*]; done)), H', ⟨by have := HJ1.out; have := HK2.out; omega⟩, ⟨by (with_reducible repeat (first | apply Kd.R_alloc | apply Kd.R_drewN | apply Kd.R_drew)); exact HO_4.out⟩, ⟨by repeat (first | (with_reducible first | exact HB.out | apply below_alloc | apply pw_below_drewN | apply below_drew1) | exact HB.out)⟩⟩
              · rw [if_neg c8] at H
                exact absurd H (by simp)
            · rw [if_neg c7] at H
              have c7b0 : decide (x5_2 < (t126.length : Int)) = false := decide_eq_false c7
              clear c7
              have H' := Aside0.mk H
              clear H
              obtain ⟨Ao12, co12, eo12⟩ := Kd.R_slice HO_4.out
              subst eo12
              go_wp2
              go_loopg [6] k2 (fun kq v6 w' => ∃ (x6_3 : Int), v6 = .int .i64 x6_3 ∧ Aside0 (seizinref11_Round.l1 kq a0 x6_3 = some (r1, r2)) ∧ Aside0 (kq ≤ k2) ∧ Aside0 (Below w.heap.size w w'))
              case atStart => exact ⟨(1280), (by first | rfl | (simp; done) | (simp [*]; done)), H', ⟨Nat.le_refl _⟩, ⟨by repeat (first | (with_reducible first | exact HB.out | apply below_alloc | apply pw_below_drewN | apply below_drew1) | exact HB.out)⟩⟩
              case round =>
                clear H'
                try clear p1
                try clear q1
                try clear hx1
                try clear p2
                try clear c3
                try clear c3b0
                try clear c4
                try clear p6
                try clear c7
                try clear c7b0
                try clear c8
                try clear c8b0
                try clear c9
                try clear c9b0
                try clear p12
                try clear q12
                try clear hx12
                try clear hx129_0
                try clear hx130_0
                try clear p129
                try clear p130
                try clear p2
                try clear q129
                try clear q130
                obtain ⟨x6_3, rfl, HA, HK3, HB⟩ := hrel
                cases gk with
                | zero => exact absurd HA.out (by simp [seizinref11_Round.l1])
                | succ k3 =>
                  have H := HA.out
                  clear HA
                  simp only [seizinref11_Round.l1] at H
                  by_cases c13 : x6_3 < a0
                  · rw [if_pos c13] at H
                    have c13b0 : decide (x6_3 < a0) = true := decide_eq_true c13
                    clear c13
                    have H' := Aside0.mk H
                    clear H
                    go_wp2
                    go_roundg k3
                    case measure => have := HJ1.out; have := HK2.out; have := HK3.out; omega
                    case rel => exact ⟨(wrap64 (x6_3 + 256)), (by first | rfl | (simp; done) | (simp [*]; done)), H', ⟨by have := HJ1.out; have := HK2.out; have := HK3.out; omega⟩, ⟨by repeat (first | (with_reducible first | exact HB.out | apply below_alloc | apply pw_below_drewN | apply below_drew1) | exact HB.out)⟩⟩
                  · rw [if_neg c13] at H
                    have c13b0 : decide (x6_3 < a0) = false := decide_eq_false c13
                    clear c13
                    simp only [Option.some.injEq, Prod.mk.injEq] at H
                    obtain ⟨rfl, rfl⟩ := H
                    go_wp2
                    go_ret2
                    exact ⟨by first | rfl | (simp [errW_none, errW_some] <;> rfl) | (simp [*, errW_none, errW_some] <;> rfl), by repeat (first | (with_reducible first | exact HB.out | apply below_alloc | apply pw_below_drewN | apply below_drew1) | exact HB.out)⟩

end Go.Proofs.Ytldgecnmmklldaa.PSz
