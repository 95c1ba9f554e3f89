-- written by a changed copy of the kit's print program, for this claim
import Derived.Test.YtldgecnmmklldaaPSzx0
import Derived.Test.YtldgecnmmklldaaPSzx1
namespace Go.Proofs.Ytldgecnmmklldaa.PSz
open Go.RowKit Go.Proofs.YtldgecnmmklldaaW.PrintWords Go.Proofs.YtldgecnmmklldaaW.PrintLast Go.Proofs.YtldgecnmmklldaaW.PrintMore
attribute [local go_sem] max2_int min2_int max_two min_two max_three min_three max_four min_four   -- for this text's walks alone
set_option linter.unusedVariables false
set_option linter.unusedSimpArgs false

/-! ### seizinlaw11_SizeSums: function 12 -/
def seizinlaw11_SizeSums.f (a0 : Int) (a1 : Int) : Option (Bool) := (seizinlaw11_head.f).bind fun t189 => ((size_Round.f (wrap64 (a0))).bind fun bt190 => ((size_Round.f (wrap64 (a1))).bind fun bt192 => ((size_Round.f (wrap64 ((wrap64 (a0)) + (wrap64 (a1))))).bind fun bt194 => (if bt190.2 = true then (if bt192.2 = true then (if (bt194.2 != (decide ((wrap64 ((wrap64 (a0)) + (wrap64 (a1)))) ≤ 65536))) = true then (some false) else (if t189 = true then (if bt194.2 = true then (if bt194.1 ≤ (wrap64 ((wrap64 (bt190.1 + bt192.1)) + 256)) then (if bt194.1 ≥ (wrap64 ((wrap64 (a0)) + (wrap64 (a1)))) then (some (decide (bt194.1 ≥ (wrap64 (bt190.1 - 256))))) else (some false)) else (some false)) else (some true)) else (some false))) else (some false)) else (some false)))))
set_option maxHeartbeats 8000000 in
set_option maxRecDepth 100000 in
theorem seizinlaw11_SizeSums.calls (a0 : Int) (a1 : Int) (r : Bool) (w : World) (h : seizinlaw11_SizeSums.f a0 a1 = some r) (hr_ : r = true) :
    Calls Try.prog 12 #[.int .u16 a0, .int .u16 a1] w fun e w' => e = .returned (.bool r) ∧ Below w.heap.size w w' := by
  have HB := Aside0.mk (Below.refl w.heap.size w)
  have H : ((seizinlaw11_head.f).bind fun t189 => ((size_Round.f (wrap64 (a0))).bind fun bt190 => ((size_Round.f (wrap64 (a1))).bind fun bt192 => ((size_Round.f (wrap64 ((wrap64 (a0)) + (wrap64 (a1))))).bind fun bt194 => (if bt190.2 = true then (if bt192.2 = true then (if (bt194.2 != (decide ((wrap64 ((wrap64 (a0)) + (wrap64 (a1)))) ≤ 65536))) = true then (some false) else (if t189 = true then (if bt194.2 = true then (if bt194.1 ≤ (wrap64 ((wrap64 (bt190.1 + bt192.1)) + 256)) then (if bt194.1 ≥ (wrap64 ((wrap64 (a0)) + (wrap64 (a1)))) then (some (decide (bt194.1 ≥ (wrap64 (bt190.1 - 256))))) else (some false)) else (some false)) else (some true)) else (some false))) else (some false)) else (some false)))))) = some r := h
  clear h
  replace H := Option.bind_eq_some_iff.mp H
  obtain ⟨t189, A30, H⟩ := H
  replace H : ((size_Round.f (wrap64 (a0))).bind fun bt190 => ((size_Round.f (wrap64 (a1))).bind fun bt192 => ((size_Round.f (wrap64 ((wrap64 (a0)) + (wrap64 (a1))))).bind fun bt194 => (if bt190.2 = true then (if bt192.2 = true then (if (bt194.2 != (decide ((wrap64 ((wrap64 (a0)) + (wrap64 (a1)))) ≤ 65536))) = true then (some false) else (if t189 = true then (if bt194.2 = true then (if bt194.1 ≤ (wrap64 ((wrap64 (bt190.1 + bt192.1)) + 256)) then (if bt194.1 ≥ (wrap64 ((wrap64 (a0)) + (wrap64 (a1)))) then (some (decide (bt194.1 ≥ (wrap64 (bt190.1 - 256))))) else (some false)) else (some false)) else (some true)) else (some false))) else (some false)) else (some false))))) = some r := H
  have A3 := Aside0.mk A30
  clear A30
  replace H := Option.bind_eq_some_iff.mp H
  obtain ⟨⟨t190, t191⟩, A40, H⟩ := H
  replace H : ((size_Round.f (wrap64 (a1))).bind fun bt192 => ((size_Round.f (wrap64 ((wrap64 (a0)) + (wrap64 (a1))))).bind fun bt194 => (if t191 = true then (if bt192.2 = true then (if (bt194.2 != (decide ((wrap64 ((wrap64 (a0)) + (wrap64 (a1)))) ≤ 65536))) = true then (some false) else (if t189 = true then (if bt194.2 = true then (if bt194.1 ≤ (wrap64 ((wrap64 (t190 + bt192.1)) + 256)) then (if bt194.1 ≥ (wrap64 ((wrap64 (a0)) + (wrap64 (a1)))) then (some (decide (bt194.1 ≥ (wrap64 (t190 - 256))))) else (some false)) else (some false)) else (some true)) else (some false))) else (some false)) else (some false)))) = some r := H
  have A4 := Aside0.mk A40
  clear A40
  replace H := Option.bind_eq_some_iff.mp H
  obtain ⟨⟨t192, t193⟩, A50, H⟩ := H
  replace H : ((size_Round.f (wrap64 ((wrap64 (a0)) + (wrap64 (a1))))).bind fun bt194 => (if t191 = true then (if t193 = true then (if (bt194.2 != (decide ((wrap64 ((wrap64 (a0)) + (wrap64 (a1)))) ≤ 65536))) = true then (some false) else (if t189 = true then (if bt194.2 = true then (if bt194.1 ≤ (wrap64 ((wrap64 (t190 + t192)) + 256)) then (if bt194.1 ≥ (wrap64 ((wrap64 (a0)) + (wrap64 (a1)))) then (some (decide (bt194.1 ≥ (wrap64 (t190 - 256))))) else (some false)) else (some false)) else (some true)) else (some false))) else (some false)) else (some false))) = some r := H
  have A5 := Aside0.mk A50
  clear A50
  replace H := Option.bind_eq_some_iff.mp H
  obtain ⟨⟨t194, t195⟩, A60, H⟩ := H
  replace H : (if t191 = true then (if t193 = true then (if (t195 != (decide ((wrap64 ((wrap64 (a0)) + (wrap64 (a1)))) ≤ 65536))) = true then (some false) else (if t189 = true then (if t195 = true then (if t194 ≤ (wrap64 ((wrap64 (t190 + t192)) + 256)) then (if t194 ≥ (wrap64 ((wrap64 (a0)) + (wrap64 (a1)))) then (some (decide (t194 ≥ (wrap64 (t190 - 256))))) else (some false)) else (some false)) else (some true)) else (some false))) else (some false)) else (some false)) = some r := H
  have A6 := Aside0.mk A60
  clear A60
  by_cases c7 : t191 = true
  · subst c7
    have H1 : (if t193 = true then (if (t195 != (decide ((wrap64 ((wrap64 (a0)) + (wrap64 (a1)))) ≤ 65536))) = true then (some false) else (if t189 = true then (if t195 = true then (if t194 ≤ (wrap64 ((wrap64 (t190 + t192)) + 256)) then (if t194 ≥ (wrap64 ((wrap64 (a0)) + (wrap64 (a1)))) then (some (decide (t194 ≥ (wrap64 (t190 - 256))))) else (some false)) else (some false)) else (some true)) else (some false))) else (some false)) = some r := by rw [if_pos rfl] at H; exact H
    clear H
    have H := H1
    clear H1
    by_cases c8 : t193 = true
    · subst c8
      have H1 : (if (t195 != (decide ((wrap64 ((wrap64 (a0)) + (wrap64 (a1)))) ≤ 65536))) = true then (some false) else (if t189 = true then (if t195 = true then (if t194 ≤ (wrap64 ((wrap64 (t190 + t192)) + 256)) then (if t194 ≥ (wrap64 ((wrap64 (a0)) + (wrap64 (a1)))) then (some (decide (t194 ≥ (wrap64 (t190 - 256))))) else (some false)) else (some false)) else (some true)) else (some false))) = some r := by rw [if_pos rfl] at H; exact H
      clear H
      have H := H1
      clear H1
      by_cases c9 : (t195 != (decide ((wrap64 ((wrap64 (a0)) + (wrap64 (a1)))) ≤ 65536))) = true
      · rw [if_pos c9] at H
        have c9b0 : (t195 != (decide ((wrap64 ((wrap64 (a0)) + (wrap64 (a1)))) ≤ 65536))) = true := c9
        (try (have c9b1 : decide (t195 = (decide ((wrap64 ((wrap64 (a0)) + (wrap64 (a1)))) ≤ 65536))) = false := by simpa using c9))
        (try (have c9b2 : (t195 == (decide ((wrap64 ((wrap64 (a0)) + (wrap64 (a1)))) ≤ 65536))) = false := by simpa using c9))
        (try (have c9b3 : ¬ (t195 = (decide ((wrap64 ((wrap64 (a0)) + (wrap64 (a1)))) ≤ 65536))) := by simpa using c9))
        clear c9
        exact absurd ((Option.some.inj H).trans hr_) (by decide)
      · rw [if_neg c9] at H
        have c9b0 : (t195 != (decide ((wrap64 ((wrap64 (a0)) + (wrap64 (a1)))) ≤ 65536))) = false := by simpa using c9
        (try (have c9b1 : decide (t195 = (decide ((wrap64 ((wrap64 (a0)) + (wrap64 (a1)))) ≤ 65536))) = true := by simpa using c9))
        (try (have c9b2 : (t195 == (decide ((wrap64 ((wrap64 (a0)) + (wrap64 (a1)))) ≤ 65536))) = true := by simpa using c9))
        clear c9
        by_cases c10 : t189 = true
        · subst c10
          have H1 : (if t195 = true then (if t194 ≤ (wrap64 ((wrap64 (t190 + t192)) + 256)) then (if t194 ≥ (wrap64 ((wrap64 (a0)) + (wrap64 (a1)))) then (some (decide (t194 ≥ (wrap64 (t190 - 256))))) else (some false)) else (some false)) else (some true)) = some r := by rw [if_pos rfl] at H; exact H
          clear H
          have H := H1
          clear H1
          by_cases c11 : t195 = true
          · subst c11
            have H1 : (if t194 ≤ (wrap64 ((wrap64 (t190 + t192)) + 256)) then (if t194 ≥ (wrap64 ((wrap64 (a0)) + (wrap64 (a1)))) then (some (decide (t194 ≥ (wrap64 (t190 - 256))))) else (some false)) else (some false)) = some r := by rw [if_pos rfl] at H; exact H
            clear H
            have H := H1
            clear H1
            by_cases c12 : t194 ≤ (wrap64 ((wrap64 (t190 + t192)) + 256))
            · rw [if_pos c12] at H
              have c12b0 : decide (t194 ≤ (wrap64 ((wrap64 (t190 + t192)) + 256))) = true := decide_eq_true c12
              clear c12
              by_cases c13 : t194 ≥ (wrap64 ((wrap64 (a0)) + (wrap64 (a1))))
              · rw [if_pos c13] at H
                have c13b0 : decide ((wrap64 ((wrap64 (a0)) + (wrap64 (a1)))) ≤ t194) = true := decide_eq_true c13
                clear c13
                clear hr_
                obtain rfl := Option.some.inj H
                go_enter Try.func12, Try.ntmps12
                go_wp2_with (first | ((with_reducible refine gate_callee (f := 34) rfl ?_); refine goesL_ (some 13) rfl rfl Try.func34 (by kernel_rfl) rfl #[] rfl (by (try simp only [List.map_toArray, List.map_cons, List.map_nil]); first | done | rfl | (simp only [List.length_drop, List.length_take]; rfl)) ?_; (with_reducible refine (seizinlaw11_head.calls  true _ A3.out).mono ?_); rintro e w14 ⟨rfl, hb⟩; refine ⟨_, rfl, ?_⟩; have n0_ := Aside0.mk (below_step (by repeat (first | (with_reducible first | exact HB.out | apply below_alloc | apply pw_below_drewN | apply below_drew1) | exact HB.out)) hb); clear HB; have HB := n0_; clear n0_; (try clear hb); (try clear hb2); (try clear hk); (try clear hi)) | ((with_reducible refine gate_callee (f := 35) rfl ?_); refine goesL_ (some 22) rfl rfl Try.func35 (by kernel_rfl) rfl #[.int .i64 (wrap64 (a0))] rfl (by (try simp only [List.map_toArray, List.map_cons, List.map_nil]); first | done | rfl | (simp only [List.length_drop, List.length_take]; rfl)) ?_; (with_reducible refine (size_Round.calls (wrap64 (a0)) t190 true _ A4.out).mono ?_); rintro e w15 ⟨rfl, hb⟩; refine ⟨_, rfl, ?_⟩; have n0_ := Aside0.mk (below_step (by repeat (first | (with_reducible first | exact HB.out | apply below_alloc | apply pw_below_drewN | apply below_drew1) | exact HB.out)) hb); clear HB; have HB := n0_; clear n0_; (try clear hb); (try clear hb2); (try clear hk); (try clear hi)) | ((with_reducible refine gate_callee (f := 35) rfl ?_); refine goesL_ (some 28) rfl rfl Try.func35 (by kernel_rfl) rfl #[.int .i64 (wrap64 (a1))] rfl (by (try simp only [List.map_toArray, List.map_cons, List.map_nil]); first | done | rfl | (simp only [List.length_drop, List.length_take]; rfl)) ?_; (with_reducible refine (size_Round.calls (wrap64 (a1)) t192 true _ A5.out).mono ?_); rintro e w16 ⟨rfl, hb⟩; refine ⟨_, rfl, ?_⟩; have n0_ := Aside0.mk (below_step (by repeat (first | (with_reducible first | exact HB.out | apply below_alloc | apply pw_below_drewN | apply below_drew1) | exact HB.out)) hb); clear HB; have HB := n0_; clear n0_; (try clear hb); (try clear hb2); (try clear hk); (try clear hi)) | ((with_reducible refine gate_callee (f := 35) rfl ?_); refine goesL_ (some 33) rfl rfl Try.func35 (by kernel_rfl) rfl #[.int .i64 (wrap64 ((wrap64 (a0)) + (wrap64 (a1))))] rfl (by (try simp only [List.map_toArray, List.map_cons, List.map_nil]); first | done | rfl | (simp only [List.length_drop, List.length_take]; rfl)) ?_; (with_reducible refine (size_Round.calls (wrap64 ((wrap64 (a0)) + (wrap64 (a1)))) t194 true _ A6.out).mono ?_); rintro e w17 ⟨rfl, hb⟩; refine ⟨_, rfl, ?_⟩; have n0_ := Aside0.mk (below_step (by repeat (first | (with_reducible first | exact HB.out | apply below_alloc | apply pw_below_drewN | apply below_drew1) | exact HB.out)) hb); clear HB; have HB := n0_; clear n0_; (try clear hb); (try clear hb2); (try clear hk); (try clear hi)))
                go_ret
                exact ⟨by first | rfl | (simp [errW_none, errW_some] <;> rfl) | (simp [*, errW_none, errW_some] <;> rfl), by repeat (first | (with_reducible first | exact HB.out | apply below_alloc | apply pw_below_drewN | apply below_drew1) | exact HB.out)⟩
              · rw [if_neg c13] at H
                have c13b0 : decide ((wrap64 ((wrap64 (a0)) + (wrap64 (a1)))) ≤ t194) = false := decide_eq_false c13
                clear c13
                exact absurd ((Option.some.inj H).trans hr_) (by decide)
            · rw [if_neg c12] at H
              have c12b0 : decide (t194 ≤ (wrap64 ((wrap64 (t190 + t192)) + 256))) = false := decide_eq_false c12
              clear c12
              exact absurd ((Option.some.inj H).trans hr_) (by decide)
          · replace c11 := Bool.eq_false_iff.mpr c11
            subst c11
            have H1 : (some true) = some r := by rw [if_neg (show ¬ (false = true) by decide)] at H; exact H
            clear H
            have H := H1
            clear H1
            clear hr_
            obtain rfl := Option.some.inj H
            go_enter Try.func12, Try.ntmps12
            go_wp2_with (first | ((with_reducible refine gate_callee (f := 34) rfl ?_); refine goesL_ (some 13) rfl rfl Try.func34 (by kernel_rfl) rfl #[] rfl (by (try simp only [List.map_toArray, List.map_cons, List.map_nil]); first | done | rfl | (simp only [List.length_drop, List.length_take]; rfl)) ?_; (with_reducible refine (seizinlaw11_head.calls  true _ A3.out).mono ?_); rintro e w18 ⟨rfl, hb⟩; refine ⟨_, rfl, ?_⟩; have n0_ := Aside0.mk (below_step (by repeat (first | (with_reducible first | exact HB.out | apply below_alloc | apply pw_below_drewN | apply below_drew1) | exact HB.out)) hb); clear HB; have HB := n0_; clear n0_; (try clear hb); (try clear hb2); (try clear hk); (try clear hi)) | ((with_reducible refine gate_callee (f := 35) rfl ?_); refine goesL_ (some 22) rfl rfl Try.func35 (by kernel_rfl) rfl #[.int .i64 (wrap64 (a0))] rfl (by (try simp only [List.map_toArray, List.map_cons, List.map_nil]); first | done | rfl | (simp only [List.length_drop, List.length_take]; rfl)) ?_; (with_reducible refine (size_Round.calls (wrap64 (a0)) t190 true _ A4.out).mono ?_); rintro e w19 ⟨rfl, hb⟩; refine ⟨_, rfl, ?_⟩; have n0_ := Aside0.mk (below_step (by repeat (first | (with_reducible first | exact HB.out | apply below_alloc | apply pw_below_drewN | apply below_drew1) | exact HB.out)) hb); clear HB; have HB := n0_; clear n0_; (try clear hb); (try clear hb2); (try clear hk); (try clear hi)) | ((with_reducible refine gate_callee (f := 35) rfl ?_); refine goesL_ (some 28) rfl rfl Try.func35 (by kernel_rfl) rfl #[.int .i64 (wrap64 (a1))] rfl (by (try simp only [List.map_toArray, List.map_cons, List.map_nil]); first | done | rfl | (simp only [List.length_drop, List.length_take]; rfl)) ?_; (with_reducible refine (size_Round.calls (wrap64 (a1)) t192 true _ A5.out).mono ?_); rintro e w20 ⟨rfl, hb⟩; refine ⟨_, rfl, ?_⟩; have n0_ := Aside0.mk (below_step (by repeat (first | (with_reducible first | exact HB.out | apply below_alloc | apply pw_below_drewN | apply below_drew1) | exact HB.out)) hb); clear HB; have HB := n0_; clear n0_; (try clear hb); (try clear hb2); (try clear hk); (try clear hi)) | ((with_reducible refine gate_callee (f := 35) rfl ?_); refine goesL_ (some 33) rfl rfl Try.func35 (by kernel_rfl) rfl #[.int .i64 (wrap64 ((wrap64 (a0)) + (wrap64 (a1))))] rfl (by (try simp only [List.map_toArray, List.map_cons, List.map_nil]); first | done | rfl | (simp only [List.length_drop, List.length_take]; rfl)) ?_; (with_reducible refine (size_Round.calls (wrap64 ((wrap64 (a0)) + (wrap64 (a1)))) t194 false _ A6.out).mono ?_); rintro e w21 ⟨rfl, hb⟩; refine ⟨_, rfl, ?_⟩; have n0_ := Aside0.mk (below_step (by repeat (first | (with_reducible first | exact HB.out | apply below_alloc | apply pw_below_drewN | apply below_drew1) | exact HB.out)) hb); clear HB; have HB := n0_; clear n0_; (try clear hb); (try clear hb2); (try clear hk); (try clear hi)))
            go_ret
            exact ⟨by first | rfl | (simp [errW_none, errW_some] <;> rfl) | (simp [*, errW_none, errW_some] <;> rfl), by repeat (first | (with_reducible first | exact HB.out | apply below_alloc | apply pw_below_drewN | apply below_drew1) | exact HB.out)⟩
        · replace c10 := Bool.eq_false_iff.mpr c10
          subst c10
          have H1 : (some false) = some r := by rw [if_neg (show ¬ (false = true) by decide)] at H; exact H
          clear H
          have H := H1
          clear H1
          exact absurd ((Option.some.inj H).trans hr_) (by decide)
    · replace c8 := Bool.eq_false_iff.mpr c8
      subst c8
      have H1 : (some false) = some r := by rw [if_neg (show ¬ (false = true) by decide)] at H; exact H
      clear H
      have H := H1
      clear H1
      exact absurd ((Option.some.inj H).trans hr_) (by decide)
  · replace c7 := Bool.eq_false_iff.mpr c7
    subst c7
    have H1 : (some false) = some r := by rw [if_neg (show ¬ (false = true) by decide)] at H; exact H
    clear H
    have H := H1
    clear H1
    exact absurd ((Option.some.inj H).trans hr_) (by decide)

/-- THE ONE PURE STATEMENT of seizinlaw11_SizeSums: yours. -/
def seizinlaw11_SizeSums.Pure : Prop := ∀ (a0 : Int) (a1 : Int), (Lit.int .u16 a0).wf = true → (Lit.int .u16 a1).wf = true → seizinlaw11_SizeSums.f a0 a1 = some true
theorem seizinlaw11_SizeSums.walk (P : seizinlaw11_SizeSums.Pure) (a0 : Int) (a1 : Int) (w : World) (w0 : (Lit.int .u16 a0).wf = true) (w1 : (Lit.int .u16 a1).wf = true) :
    Calls Try.prog 12 #[.int .u16 a0, .int .u16 a1] w fun e w' => e = .returned (.bool true) ∧ Below w.heap.size w w' := by
  have h := P a0 a1 w0 w1
  refine (seizinlaw11_SizeSums.calls a0 a1 true w h rfl).mono ?_
  rintro e w' ⟨rfl, hd⟩
  exact ⟨rfl, hd⟩

end Go.Proofs.Ytldgecnmmklldaa.PSz
