-- written by a changed copy of the kit's print program, for this claim
import Derived.Test.YtgkmacgckoifaaaPDrx0
import Derived.Test.YtgkmacgckoifaaaPDrx3
import Derived.Test.YtgkmacgckoifaaaPDrx4
import Derived.Test.YtgkmacgckoifaaaPDrx8
namespace Go.Proofs.Ytgkmacgckoifaaa.PDr
open Go.RowKit Go.Proofs.YtgkmacgckoifaaaW.PrintWords Go.Proofs.YtgkmacgckoifaaaW.PrintLast Go.Proofs.YtgkmacgckoifaaaW.PrintMore
attribute [local go_sem] max2_int min2_int max_two min_two max_three min_three max_four min_four   -- for this text's walks alone
set_option linter.unusedVariables false
set_option linter.unusedSimpArgs false

abbrev m9_0 : Array Bool := #[false, false, false, false, false, false, false, false, false, false, false, false, false, false, false, false, false, false, false]
abbrev m9_1 : Array Bool := #[false, false, false, true, false, false, false, false, false, false, false, false, false, false, false, false, false, false, false]
abbrev m9_2 : Array Bool := #[false, false, false, true, false, false, false, true, false, false, false, false, false, false, false, false, false, false, false]
abbrev m9_3 : Array Bool := #[true, false, false, true, false, false, false, true, false, false, false, false, false, false, false, false, false, false, false]
abbrev m9_4 : Array Bool := #[true, false, true, true, false, false, false, true, false, false, false, false, false, false, false, false, false, false, false]
abbrev m9_5 : Array Bool := #[true, false, true, true, false, true, false, true, false, false, false, false, false, false, false, false, false, false, false]
abbrev m9_6 : Array Bool := #[true, false, true, true, false, true, false, true, true, false, false, false, false, false, false, false, false, false, false]
abbrev m9_7 : Array Bool := #[true, false, true, true, false, true, false, true, true, true, false, false, false, false, false, false, false, false, false]
abbrev m9_8 : Array Bool := #[true, true, true, true, false, true, false, true, true, true, false, false, false, false, false, false, false, false, false]
abbrev m9_9 : Array Bool := #[true, true, true, true, true, true, false, true, true, true, false, false, false, false, false, false, false, false, false]
abbrev m9_10 : Array Bool := #[true, true, true, true, true, true, true, true, true, true, false, false, false, false, false, false, false, false, false]
abbrev m9_11 : Array Bool := #[true, true, true, true, true, true, true, true, true, true, true, false, false, false, false, false, false, false, false]
abbrev m9_12 : Array Bool := #[true, true, true, true, true, true, true, true, true, true, true, true, false, false, false, false, false, false, false]
abbrev m9_13 : Array Bool := #[true, true, true, true, true, true, true, true, true, true, true, true, true, false, false, false, false, false, false]
abbrev m9_14 : Array Bool := #[true, true, true, true, true, true, true, true, true, true, true, true, true, true, false, false, false, false, false]
abbrev m9_15 : Array Bool := #[true, true, true, true, true, true, true, true, true, true, true, true, true, true, true, false, false, false, false]
abbrev m9_16 : Array Bool := #[true, true, true, true, true, true, true, true, true, true, true, true, true, true, true, true, false, false, false]
abbrev m9_17 : Array Bool := #[true, true, true, true, true, true, true, true, true, true, true, true, true, true, true, true, true, false, false]
abbrev m9_18 : Array Bool := #[true, true, true, true, true, true, true, true, true, true, true, true, true, true, true, true, true, true, false]
abbrev m9_19 : Array Bool := #[true, true, true, true, true, true, true, true, true, true, true, true, true, true, true, true, true, true, true]
/-! ### derive_authority: function 44 -/
def derive_authority.f (a0_0 : Bool) (a0_1 : Int) (a0_2 : Int) (a0_3 : Int) (a0_4 : Int) (a0_5 : Int) (a1 : Int) : Option ((List (S46))) := (derive_used.f a0_0 a0_1 a0_2 a0_3 a0_4 a0_5).bind fun t156 => ((derive_has.f a0_0 a0_1 a0_2 a0_3 a0_4 a0_5 a1).bind fun bt159 => ((derive_spans.f a0_0 a0_1 a0_2 a0_3 a0_4 a0_5 1).bind fun bt161 => (if a0_3 ≥ 2 then ((some (([(⟨bt159.1, bt159.2⟩ : S46), (⟨bt161.1, bt161.2⟩ : S46), (⟨decide (a0_3 ≤ 255), 45⟩ : S46)] : List (S46)) : List (S46))).bind fun y163 => (if t156.length + y163.length < 8796093022208 then (some (t156 ++ y163)) else (none))) else ((some (([(⟨bt159.1, bt159.2⟩ : S46), (⟨bt161.1, bt161.2⟩ : S46), (⟨false, 45⟩ : S46)] : List (S46)) : List (S46))).bind fun y169 => (if t156.length + y169.length < 8796093022208 then (some (t156 ++ y169)) else (none))))))
def derive_authority.T1 : Bool × List (List Nat × List Nat) := (true, [([], []), ([0], [0]), ([], []), ([], []), ([2, 3, 1], [2, 3]), ([], []), ([5, 4], [5]), ([], []), ([7], [7]), ([8], [8]), ([9, 6], [9]), ([10], [10]), ([11, 10], [10, 11]), ([12, 10], [10, 12]), ([10, 13], [10, 13]), ([14], [14]), ([4, 6, 15], [4, 6, 15]), ([1, 16, 10], [1, 16]), ([17, 17, 0, 1, 2, 3, 4, 5, 6, 7, 8, 9, 10, 11, 12, 13, 14, 15, 16, 17], [17])])
def derive_authority.B1 : List Nat := [0, 1, 0, 0, 15, 0, 63, 0, 128, 384, 1023, 2047, 4095, 8191, 16383, 32767, 65535, 131071, 262143]
theorem derive_authority.tab1 : rtab .any (opsOf Try.f44 1) = derive_authority.T1 := by kernel_rfl
theorem derive_authority.bits1 : waitsOk derive_authority.T1.2 derive_authority.B1 = true := by kernel_rfl
set_option maxHeartbeats 8000000 in
set_option maxRecDepth 100000 in
theorem derive_authority.calls (a0_0 : Bool) (a0_1 : Int) (a0_2 : Int) (a0_3 : Int) (a0_4 : Int) (a0_5 : Int) (a1 : Int) (r : List (S46)) (w : World) (h : derive_authority.f a0_0 a0_1 a0_2 a0_3 a0_4 a0_5 a1 = some r) :
  Calls Try.prog 44 #[.agg #[.bool a0_0, .int .i64 a0_1, .int .i64 a0_2, .int .i64 a0_3, .int .i64 a0_4, .int .i64 a0_5], .int .i64 a1] w fun e w' => ∃ v0_ : Value, e = .returned (v0_) ∧ Kd.R k46 46 w' w.heap.size (fun _ => True) v0_ r ∧ Below w.heap.size w w' := by
 have hu23 := Try.underlying23
 have hu46 := Try.underlying46
 have HB := Aside0.mk (Below.refl w.heap.size w)
 have H : ((derive_used.f a0_0 a0_1 a0_2 a0_3 a0_4 a0_5).bind fun t156 => ((derive_has.f a0_0 a0_1 a0_2 a0_3 a0_4 a0_5 a1).bind fun bt159 => ((derive_spans.f a0_0 a0_1 a0_2 a0_3 a0_4 a0_5 1).bind fun bt161 => (if a0_3 ≥ 2 then ((some (([(⟨bt159.1, bt159.2⟩ : S46), (⟨bt161.1, bt161.2⟩ : S46), (⟨decide (a0_3 ≤ 255), 45⟩ : S46)] : List (S46)) : List (S46))).bind fun y163 => (if t156.length + y163.length < 8796093022208 then (some (t156 ++ y163)) else (none))) else ((some (([(⟨bt159.1, bt159.2⟩ : S46), (⟨bt161.1, bt161.2⟩ : S46), (⟨false, 45⟩ : S46)] : List (S46)) : List (S46))).bind fun y169 => (if t156.length + y169.length < 8796093022208 then (some (t156 ++ y169)) else (none))))))) = some r := h
 clear h
 replace H := Option.bind_eq_some_iff.mp H
 obtain ⟨t156, A30, H⟩ := H
 replace H : ((derive_has.f a0_0 a0_1 a0_2 a0_3 a0_4 a0_5 a1).bind fun bt159 => ((derive_spans.f a0_0 a0_1 a0_2 a0_3 a0_4 a0_5 1).bind fun bt161 => (if a0_3 ≥ 2 then ((some (([(⟨bt159.1, bt159.2⟩ : S46), (⟨bt161.1, bt161.2⟩ : S46), (⟨decide (a0_3 ≤ 255), 45⟩ : S46)] : List (S46)) : List (S46))).bind fun y163 => (if t156.length + y163.length < 8796093022208 then (some (t156 ++ y163)) else (none))) else ((some (([(⟨bt159.1, bt159.2⟩ : S46), (⟨bt161.1, bt161.2⟩ : S46), (⟨false, 45⟩ : S46)] : List (S46)) : List (S46))).bind fun y169 => (if t156.length + y169.length < 8796093022208 then (some (t156 ++ y169)) else (none)))))) = some r := H
 have A3 := Aside0.mk A30
 clear A30
 replace H := Option.bind_eq_some_iff.mp H
 obtain ⟨⟨t159, t160⟩, A40, H⟩ := H
 replace H : ((derive_spans.f a0_0 a0_1 a0_2 a0_3 a0_4 a0_5 1).bind fun bt161 => (if a0_3 ≥ 2 then ((some (([(⟨t159, t160⟩ : S46), (⟨bt161.1, bt161.2⟩ : S46), (⟨decide (a0_3 ≤ 255), 45⟩ : S46)] : List (S46)) : List (S46))).bind fun y163 => (if t156.length + y163.length < 8796093022208 then (some (t156 ++ y163)) else (none))) else ((some (([(⟨t159, t160⟩ : S46), (⟨bt161.1, bt161.2⟩ : S46), (⟨false, 45⟩ : S46)] : List (S46)) : List (S46))).bind fun y169 => (if t156.length + y169.length < 8796093022208 then (some (t156 ++ y169)) else (none))))) = some r := H
 have A4 := Aside0.mk A40
 clear A40
 replace H := Option.bind_eq_some_iff.mp H
 obtain ⟨⟨t161, t162⟩, A50, H⟩ := H
 replace H : (if a0_3 ≥ 2 then ((some (([(⟨t159, t160⟩ : S46), (⟨t161, t162⟩ : S46), (⟨decide (a0_3 ≤ 255), 45⟩ : S46)] : List (S46)) : List (S46))).bind fun y163 => (if t156.length + y163.length < 8796093022208 then (some (t156 ++ y163)) else (none))) else ((some (([(⟨t159, t160⟩ : S46), (⟨t161, t162⟩ : S46), (⟨false, 45⟩ : S46)] : List (S46)) : List (S46))).bind fun y169 => (if t156.length + y169.length < 8796093022208 then (some (t156 ++ y169)) else (none)))) = some r := H
 have A5 := Aside0.mk A50
 clear A50
 by_cases c6 : a0_3 ≥ 2
 ·rw [if_pos c6] at H
  have c6b0 : decide (2 ≤ a0_3) = true := decide_eq_true c6
  clear c6
  obtain ⟨y163, hy163⟩ : ∃ y_ : List (S46), y_ = (([(⟨t159, t160⟩ : S46), (⟨t161, t162⟩ : S46), (⟨decide (a0_3 ≤ 255), 45⟩ : S46)] : List (S46))) := ⟨_, rfl⟩
  replace H : (if t156.length + y163.length < 8796093022208 then (some (t156 ++ y163)) else (none)) = some r := by first | (rw [hy163]; with_reducible exact H) | (have H2_ := (Option.bind_some _ _).symm.trans H; rw [hy163]; with_reducible exact H2_) | (have H2_ := (Option.bind_some _ _).symm.trans H; with_reducible exact H2_) | with_reducible exact H | (rw [hy163]; exact H) | exact H
  have Ny163 := Aside0.mk hy163
  clear hy163
  by_cases c7 : t156.length + y163.length < 8796093022208
  ·rw [if_pos c7] at H
   have LMc7 := Aside0.mk c7
   clear c7
   obtain ⟨y166, hy166⟩ : ∃ y_ : List (S46), y_ = (t156 ++ y163) := ⟨_, rfl⟩
   replace H : (some y166) = some r := by first | (rw [hy166]; with_reducible exact H) | (have H2_ := (Option.bind_some _ _).symm.trans H; rw [hy166]; with_reducible exact H2_) | (have H2_ := (Option.bind_some _ _).symm.trans H; with_reducible exact H2_) | with_reducible exact H | (rw [hy166]; exact H) | exact H
   have Ny166 := Aside0.mk hy166
   clear hy166
   obtain rfl := Option.some.inj H
   go_enter Try.func44, Try.ntmps44
   try go_wp2_with (first | ((with_reducible refine gate_dst (N := 2) rfl ?_); refine box_event ?hg (N := 2) ?hd (cs := #[.bool a0_0, .int .i64 a0_1, .int .i64 a0_2, .int .i64 a0_3, .int .i64 a0_4, .int .i64 a0_5]) (t := 23) ?hr ?_; (case hd => rfl); (case hg => rfl); (case hr => first | (go_simp; done) | (go_simp; rfl)); intro gb155 hg w8 hbox hb; have n0_ := q2_ HB hb; have n1_ := Aside0.mk (hbox); have n2_ := q11_ HB hg; have n3_ := q11_ HB hg; clear HB; have HB := n0_; have BK155 := n1_; have GW155 := n2_; have GE155 := n3_; clear n0_ n1_ n2_ n3_; clear hb hbox hg))
   have n0_ := Aside0.mk (blk_drew BK155.out)
   have n1_ := Aside0.mk (below_drew1 HB.out)
   clear BK155
   clear HB
   have BK155 := n0_
   have HB := n1_
   clear n0_ n1_
   refine start_ (n := 19) (S := fun w' => w'.cell? ⟨gb155, 0, none⟩ = some (.bool a0_0) ∧ w'.cell? ⟨gb155, 1, none⟩ = some (.int .i64 a0_1) ∧ w'.cell? ⟨gb155, 2, none⟩ = some (.int .i64 a0_2) ∧ w'.cell? ⟨gb155, 3, none⟩ = some (.int .i64 a0_3) ∧ w'.cell? ⟨gb155, 4, none⟩ = some (.int .i64 a0_4) ∧ w'.cell? ⟨gb155, 5, none⟩ = some (.int .i64 a0_5)) (ds := []) m9_0 (by kernel_rfl) rfl rfl ⟨q7_ BK155 0 rfl, q7_ BK155 1 rfl, q7_ BK155 2 rfl, q7_ BK155 3 rfl, q7_ BK155 4 rfl, q7_ BK155 5 rfl⟩ (fun hHeld => ?_); refine with_tabW derive_authority.tab1 derive_authority.bits1 (fun HT_ HW_ => ?_)
   generalize w8.drew = w9 at BK155 HB hHeld ⊢
   refine pure_ (i := 3) (N := some 8) (v := ?_) (a' := ?_) m9_1 rfl rfl (any_of HT_.out (by kernel_rfl)) (fun _ _ _ h => h) (Or.inl ⟨by rfl, ?_⟩) ?_ ?_
   rotate_left
   ·intro w'
    go_simp
    with_reducible rfl
   rotate_left
   ·simp only [Act.put, q4_, q5_, q6_, i64_w, i32_w]
    rfl
   refine pure_ (i := 7) (N := some 12) (v := ?_) (a' := ?_) m9_2 rfl rfl (any_of HT_.out (by kernel_rfl)) (fun _ _ _ h => h) (Or.inl ⟨by rfl, ?_⟩) ?_ ?_
   rotate_left
   ·intro w'
    go_simp
    with_reducible rfl
   rotate_left
   ·simp only [Act.put, q4_, q5_, q6_, i64_w, i32_w]
    rfl
   refine take_ (i := 0) (N := some 5) (v := ?_) (a' := ?_) m9_3 rfl rfl (take_ofW HT_.out HW_.out (by kernel_rfl)) (fun _ _ _ h => h) (Or.inl ⟨by rfl, ?_⟩) hHeld ?_ ?_
   rotate_left
   ·rintro w' ⟨s0, s1, s2, s3, s4, s5⟩
    go_simp
    with_reducible rfl
   rotate_left
   ·simp only [Act.put, q4_, q5_, q6_, i64_w, i32_w]
    rfl
   refine take_ (i := 2) (N := some 7) (v := ?_) (a' := ?_) m9_4 rfl rfl (take_ofW HT_.out HW_.out (by kernel_rfl)) (fun _ _ _ h => h) (Or.inl ⟨by rfl, ?_⟩) hHeld ?_ ?_
   rotate_left
   ·rintro w' ⟨s0, s1, s2, s3, s4, s5⟩
    go_simp
    with_reducible rfl
   rotate_left
   ·simp only [Act.put, q4_, q5_, q6_, i64_w, i32_w]
    rfl
   refine take_ (i := 5) (N := some 10) (v := ?_) (a' := ?_) m9_5 rfl rfl (take_ofW HT_.out HW_.out (by kernel_rfl)) (fun _ _ _ h => h) (Or.inl ⟨by rfl, ?_⟩) hHeld ?_ ?_
   rotate_left
   ·rintro w' ⟨s0, s1, s2, s3, s4, s5⟩
    go_simp
    with_reducible rfl
   rotate_left
   ·simp only [Act.put, q4_, q5_, q6_, i64_w, i32_w]
    rfl
   refine take_ (i := 8) (N := some 13) (v := ?_) (a' := ?_) m9_6 rfl rfl (take_ofW HT_.out HW_.out (by kernel_rfl)) (fun _ _ _ h => h) (Or.inl ⟨by rfl, ?_⟩) hHeld ?_ ?_
   rotate_left
   ·rintro w' ⟨s0, s1, s2, s3, s4, s5⟩
    go_simp
    with_reducible rfl
   rotate_left
   ·simp only [Act.put, q4_, q5_, q6_, i64_w, i32_w]
    rfl
   refine pure_ (i := 9) (N := some 14) (v := ?_) (a' := ?_) m9_7 rfl rfl (any_of HT_.out (by kernel_rfl)) (fun _ _ _ h => h) (Or.inl ⟨by rfl, ?_⟩) ?_ ?_
   rotate_left
   ·intro w'
    go_simp
    with_reducible rfl
   rotate_left
   ·simp only [Act.put, q4_, q5_, q6_, i64_w, i32_w]
    rfl
   refine one_ (i := 1) (N := some 6) m9_8 rfl rfl (one_of HT_.out (by kernel_rfl)) (by decide) (fun K hK => ?_)
   refine goes_ Try.func32 (by kernel_rfl) rfl #[.agg #[.bool a0_0, .int .i64 a0_1, .int .i64 a0_2, .int .i64 a0_3, .int .i64 a0_4, .int .i64 a0_5]] (by rfl) rfl rfl (by (try simp only [List.map_toArray, List.map_cons, List.map_nil]); first | done | rfl | (simp only [List.length_drop, List.length_take]; rfl)) ?_
   with_reducible refine (derive_used.calls a0_0 a0_1 a0_2 a0_3 a0_4 a0_5 t156 _ A3.out).mono ?_
   rintro e w10 ⟨v157, rfl, ho0, hb⟩
   refine ⟨_, rfl, ?_⟩
   have n0_ := Aside0.mk (Kd.R_lower ho0 (below_size (by repeat (first | (with_reducible first | exact HB.out | apply below_alloc | apply pw_below_drewN | apply below_drew1 | refine below_set ?_ GE155.out) | exact HB.out))))
   have n1_ := q1_ BK155 hb
   have n2_ := q2_ HB hb
   clear BK155
   clear HB
   have HO158 := n0_
   have BK155 := n1_
   have HB := n2_
   clear n0_ n1_ n2_
   (try clear hb)
   (try clear hb2)
   (try clear hk)
   (try clear hi)
   (try clear ho0)
   refine hK.out _ _ ⟨q7_ BK155 0 rfl, q7_ BK155 1 rfl, q7_ BK155 2 rfl, q7_ BK155 3 rfl, q7_ BK155 4 rfl, q7_ BK155 5 rfl⟩ (fun hHeld => ?_)
   clear hK K
   refine norm_ (a' := ?_) ?_ ?_
   rotate_left
   ·show Act.put _ (some 6) _ = _
    simp only [Act.put, q4_, q5_, q6_, i64_w, i32_w]
    rfl
   refine one_ (i := 4) (N := some 9) m9_9 rfl rfl (one_of HT_.out (by kernel_rfl)) (by decide) (fun K hK => ?_)
   refine goes_ Try.func50 (by kernel_rfl) rfl #[.agg #[.bool a0_0, .int .i64 a0_1, .int .i64 a0_2, .int .i64 a0_3, .int .i64 a0_4, .int .i64 a0_5], .int .i64 a1] (by rfl) rfl rfl (by (try simp only [List.map_toArray, List.map_cons, List.map_nil]); first | done | rfl | (simp only [List.length_drop, List.length_take]; rfl)) ?_
   with_reducible refine (derive_has.calls a0_0 a0_1 a0_2 a0_3 a0_4 a0_5 a1 t159 t160 _ A4.out).mono ?_
   rintro e w11 ⟨rfl, hb⟩
   refine ⟨_, rfl, ?_⟩
   have n0_ := Aside0.mk (Kd.R_below (by (with_reducible repeat (first | apply Kd.R_alloc | apply Kd.R_drewN | apply Kd.R_drew)); exact HO158.out) hb)
   have n1_ := q1_ BK155 hb
   have n2_ := q2_ HB hb
   clear HO158
   clear BK155
   clear HB
   have HO158 := n0_
   have BK155 := n1_
   have HB := n2_
   clear n0_ n1_ n2_
   (try clear hb)
   (try clear hb2)
   (try clear hk)
   (try clear hi)
   refine hK.out _ _ ⟨q7_ BK155 0 rfl, q7_ BK155 1 rfl, q7_ BK155 2 rfl, q7_ BK155 3 rfl, q7_ BK155 4 rfl, q7_ BK155 5 rfl⟩ (fun hHeld => ?_)
   clear hK K
   refine norm_ (a' := ?_) ?_ ?_
   rotate_left
   ·show Act.put _ (some 9) _ = _
    simp only [Act.put, q4_, q5_, q6_, i64_w, i32_w]
    rfl
   refine one_ (i := 6) (N := some 11) m9_10 rfl rfl (one_of HT_.out (by kernel_rfl)) (by decide) (fun K hK => ?_)
   refine goes_ Try.func33 (by kernel_rfl) rfl #[.agg #[.bool a0_0, .int .i64 a0_1, .int .i64 a0_2, .int .i64 a0_3, .int .i64 a0_4, .int .i64 a0_5], .int .i64 1] (by rfl) rfl rfl (by (try simp only [List.map_toArray, List.map_cons, List.map_nil]); first | done | rfl | (simp only [List.length_drop, List.length_take]; rfl)) ?_
   with_reducible refine (derive_spans.calls a0_0 a0_1 a0_2 a0_3 a0_4 a0_5 1 t161 t162 _ A5.out).mono ?_
   rintro e w12 ⟨rfl, hb⟩
   refine ⟨_, rfl, ?_⟩
   have n0_ := Aside0.mk (Kd.R_below (by (with_reducible repeat (first | apply Kd.R_alloc | apply Kd.R_drewN | apply Kd.R_drew)); exact HO158.out) hb)
   have n1_ := q1_ BK155 hb
   have n2_ := q2_ HB hb
   clear HO158
   clear BK155
   clear HB
   have HO158 := n0_
   have BK155 := n1_
   have HB := n2_
   clear n0_ n1_ n2_
   (try clear hb)
   (try clear hb2)
   (try clear hk)
   (try clear hi)
   refine hK.out _ _ ⟨q7_ BK155 0 rfl, q7_ BK155 1 rfl, q7_ BK155 2 rfl, q7_ BK155 3 rfl, q7_ BK155 4 rfl, q7_ BK155 5 rfl⟩ (fun hHeld => ?_)
   clear hK K
   refine norm_ (a' := ?_) ?_ ?_
   rotate_left
   ·show Act.put _ (some 11) _ = _
    simp only [Act.put, q4_, q5_, q6_, i64_w, i32_w]
    rfl
   refine pure_ (i := 10) (N := some 15) (v := ?_) (a' := ?_) m9_11 rfl rfl (any_of HT_.out (by kernel_rfl)) (fun _ _ _ h => h) (Or.inl ⟨by rfl, ?_⟩) ?_ ?_
   rotate_left
   ·intro w'
    go_simp
    with_reducible rfl
   rotate_left
   ·simp only [Act.put, q4_, q5_, q6_, i64_w, i32_w]
    rfl
   refine pure_ (i := 11) (N := some 16) (v := ?_) (a' := ?_) m9_12 rfl rfl (any_of HT_.out (by kernel_rfl)) (fun _ _ _ h => h) (Or.inl ⟨by rfl, ?_⟩) ?_ ?_
   rotate_left
   ·intro w'
    go_simp
    with_reducible rfl
   rotate_left
   ·simp only [Act.put, q4_, q5_, q6_, i64_w, i32_w]
    rfl
   refine take_ (i := 12) (N := some 17) (v := ?_) (a' := ?_) m9_13 rfl rfl (take_ofW HT_.out HW_.out (by kernel_rfl)) (fun _ _ _ h => h) (Or.inl ⟨by rfl, ?_⟩) hHeld ?_ ?_
   rotate_left
   ·rintro w' ⟨s0, s1, s2, s3, s4, s5⟩
    go_simp
    with_reducible rfl
   rotate_left
   ·simp only [Act.put, q4_, q5_, q6_, i64_w, i32_w]
    rfl
   refine pure_ (i := 13) (N := some 18) (v := ?_) (a' := ?_) m9_14 rfl rfl (any_of HT_.out (by kernel_rfl)) (fun _ _ _ h => h) (Or.inl ⟨by rfl, ?_⟩) ?_ ?_
   rotate_left
   ·intro w'
    go_simp
    with_reducible rfl
   rotate_left
   ·simp only [Act.put, q4_, q5_, q6_, i64_w, i32_w]
    rfl
   refine pure_ (i := 14) (N := some 19) (v := ?_) (a' := ?_) m9_15 rfl rfl (any_of HT_.out (by kernel_rfl)) (fun _ _ _ h => h) (Or.inl ⟨by rfl, ?_⟩) ?_ ?_
   rotate_left
   ·intro w'
    go_simp
    with_reducible rfl
   rotate_left
   ·simp only [Act.put, q4_, q5_, q6_, i64_w, i32_w]
    rfl
   refine pure_ (i := 15) (N := some 20) (v := ?_) (a' := ?_) m9_16 rfl rfl (any_of HT_.out (by kernel_rfl)) (fun _ _ _ h => h) (Or.inl ⟨by rfl, ?_⟩) ?_ ?_
   rotate_left
   ·intro w'
    go_simp
    with_reducible rfl
   rotate_left
   ·simp only [Act.put, q4_, q5_, q6_, i64_w, i32_w]
    rfl
   refine one_ (i := 16) (N := some 21) m9_17 rfl rfl (one_of HT_.out (by kernel_rfl)) (by decide) (fun K hK => ?_)
   refine Kd.R_lit_step k46 _ 46 ?hg (N := 21) ?hd (xs := ([(⟨t159, t160⟩ : S46), (⟨t161, t162⟩ : S46), (⟨decide (a0_3 ≤ 255), 45⟩ : S46)] : List (S46))) (inner := [.bool t159, .int .i64 t160, .bool t161, .int .i64 t162, .bool (decide (a0_3 ≤ 255)), .int .i64 45]) (ok := fun _ => True) (okp := fun _ => True) ?hr ?hp (fun _ hk => hk) trivial (Below.refl _ _) (Nat.le_refl _) (by simp) ?_; (case hd => rfl); (case hg => rfl); (case hr => first | (go_simp; done) | (go_simp; rfl)); (case hp => exact (Reps.c2 (show Kd.M k46 _ _ _ (⟨t159, t160⟩ : S46) [.bool t159, .int .i64 t160] from (k46_mkM _ _ _ (⟨t159, t160⟩ : S46) )) (Reps.c2 (show Kd.M k46 _ _ _ (⟨t161, t162⟩ : S46) [.bool t161, .int .i64 t162] from (k46_mkM _ _ _ (⟨t161, t162⟩ : S46) )) (Reps.c2 (show Kd.M k46 _ _ _ (⟨decide (a0_3 ≤ 255), 45⟩ : S46) [.bool (decide (a0_3 ≤ 255)), .int .i64 45] from (k46_mkM _ _ _ (⟨decide (a0_3 ≤ 255), 45⟩ : S46) )) (Reps.none _ _)))))
   intro v164 w13 ho14 hb hg_ hnew_
   clear hg_ hnew_
   (first | rw [← Ny163.out] at ho14 | (simp only [Int.reduceToNat] at ho14; rw [← Ny163.out] at ho14))
   have n0_ := Aside0.mk (Kd.R_elder' (by (with_reducible repeat (first | apply Kd.R_alloc | apply Kd.R_drewN | apply Kd.R_drew)); exact HO158.out) (Kd.R_base ho14) hb)
   have n1_ := Aside0.mk (Kd.R_lower (Kd.R_new' ho14 (Kd.R_lt (by (with_reducible repeat (first | apply Kd.R_alloc | apply Kd.R_drewN | apply Kd.R_drew)); exact HO158.out))) (below_size (by repeat (first | (with_reducible first | exact HB.out | apply below_alloc | apply pw_below_drewN | apply below_drew1 | refine below_set ?_ GE155.out) | exact HB.out))))
   have n2_ := q1_ BK155 hb
   have n3_ := q2_ HB hb
   clear HO158
   clear BK155
   clear HB
   have HO158 := n0_
   have HO165 := n1_
   have BK155 := n2_
   have HB := n3_
   clear n0_ n1_ n2_ n3_
   clear hb ho14
   obtain ⟨Ao16, co16, eo16⟩ := Kd.R_slice HO165.out
   (first | subst eo16 | (injection eo16 with f1_ f2_ f3_; have f4_ := f1_.symm; have f5_ := f3_.symm; clear f1_ f2_ f3_; subst f4_; subst f5_))
   refine hK.out _ _ ⟨q7_ BK155 0 rfl, q7_ BK155 1 rfl, q7_ BK155 2 rfl, q7_ BK155 3 rfl, q7_ BK155 4 rfl, q7_ BK155 5 rfl⟩ (fun hHeld => ?_)
   clear hK K
   refine norm_ (a' := ?_) ?_ ?_
   rotate_left
   ·show Act.put _ (some 21) _ = _
    simp only [Act.put, q4_, q5_, q6_, i64_w, i32_w]
    rfl
   refine one_ (i := 17) (N := some 22) m9_18 rfl rfl (one_of HT_.out (by kernel_rfl)) (by decide) (fun K hK => ?_)
   refine Kd.R_append_rows_step k46 (w0 := w) w.heap.size (by rfl) (.tmp 6) (.tmp 21) 43 46 (.agg #[(.bool false), (.int .i64 0)]) 16 rfl Try.underlying43 info46 rfl (by decide) (by omega) v157 t156 y163 _ _ _ (fun k_ => some k_ ≠ (.slice Ao16 y163.length co16 : Value).ownBlock) (fun _ => False) rfl rfl ?aO ?aR (fun _ _ h => h) (fun _ h => h.elim) ?aF ?aB ?aS ?aL ?_
   (case aR => repeat (first | exact (Kd.R_reads' HO165.out).2.2 | (with_reducible refine Kd.C_alloc ?_ _) | (with_reducible refine Kd.C_drewN ?_ _) | (with_reducible refine Kd.C_drew ?_)))
   (case aB => exact (by repeat (first | (with_reducible first | exact HB.out | apply below_alloc | apply pw_below_drewN | apply below_drew1 | refine below_set ?_ GE155.out) | exact HB.out)))
   (case aF => exact (fun k_ hk => Kd.fresh' (Kd.R_lt (by (with_reducible repeat (first | apply Kd.R_alloc | apply Kd.R_drewN | apply Kd.R_drew)); exact HO165.out)) k_ hk))
   (case aO => exact (by (with_reducible repeat (first | apply Kd.R_alloc | apply Kd.R_drewN | apply Kd.R_drew)); exact Kd.R_mono HO158.out (fun _ hk => hk.2)))
   (case aS => exact (below_size (by repeat (first | (with_reducible first | exact HB.out | apply below_alloc | apply pw_below_drewN | apply below_drew1 | refine below_set ?_ GE155.out) | exact HB.out))))
   (case aL => have := LMc7.out; omega)
   intro v167 w15 ho hb hg hat
   rw [← Ny166.out] at ho
   have n0_ := Aside0.mk (blk_grown (g := gb155) (o := .cells #[.bool a0_0, .int .i64 a0_1, .int .i64 a0_2, .int .i64 a0_3, .int .i64 a0_4, .int .i64 a0_5] 23 (0, 0)) (q3_ BK155).out hg (Kd.R_ne HO158.out BK155.out (by decide)))
   have n1_ := Aside0.mk (Kd.R_after (ok := (fun _ => True)) (by (with_reducible repeat (first | apply Kd.R_alloc | apply Kd.R_drewN | apply Kd.R_drew)); exact HO165.out) hg hat)
   have n2_ := Aside0.mk (hb)
   have n3_ := Aside0.mk (ho)
   clear BK155
   clear HO165
   clear HB
   clear HO158
   have BK155 := n0_
   have HO165 := n1_
   have HB := n2_
   have HO168 := n3_
   clear n0_ n1_ n2_ n3_
   clear ho hb hg hat
   refine hK.out _ _ ⟨q7_ BK155 0 rfl, q7_ BK155 1 rfl, q7_ BK155 2 rfl, q7_ BK155 3 rfl, q7_ BK155 4 rfl, q7_ BK155 5 rfl⟩ (fun hHeld => ?_)
   clear hK K
   refine norm_ (a' := ?_) ?_ ?_
   rotate_left
   ·show Act.put _ (some 22) _ = _
    simp only [Act.put, q4_, q5_, q6_, i64_w, i32_w]
    rfl
   refine pure_ (i := 18) (N := some 4) (v := ?_) (a' := ?_) m9_19 rfl rfl (any_of HT_.out (by kernel_rfl)) (fun _ _ _ h => h) (Or.inl ⟨by rfl, ?_⟩) ?_ ?_
   rotate_left
   ·intro w'
    go_simp
    with_reducible rfl
   rotate_left
   ·simp only [Act.put, q4_, q5_, q6_, i64_w, i32_w]
    rfl
   refine done_ (done_of HT_.out (by kernel_rfl)) ?_
   try go_wp2
   go_ret
   exact ⟨_, by first | rfl | (simp [errW_none, errW_some] <;> rfl) | (simp [*, errW_none, errW_some] <;> rfl), by (with_reducible repeat (first | apply Kd.R_alloc | apply Kd.R_drewN | apply Kd.R_drew)); exact Kd.R_mono HO168.out (fun _ hk => trivial), by repeat (first | (with_reducible first | exact HB.out | apply below_alloc | apply pw_below_drewN | apply below_drew1 | refine below_set ?_ GE155.out) | exact HB.out)⟩
  ·rw [if_neg c7] at H
   exact absurd H (by simp)
 ·rw [if_neg c6] at H
  have c6b0 : decide (2 ≤ a0_3) = false := decide_eq_false c6
  clear c6
  obtain ⟨y169, hy169⟩ : ∃ y_ : List (S46), y_ = (([(⟨t159, t160⟩ : S46), (⟨t161, t162⟩ : S46), (⟨false, 45⟩ : S46)] : List (S46))) := ⟨_, rfl⟩
  replace H : (if t156.length + y169.length < 8796093022208 then (some (t156 ++ y169)) else (none)) = some r := by first | (rw [hy169]; with_reducible exact H) | (have H2_ := (Option.bind_some _ _).symm.trans H; rw [hy169]; with_reducible exact H2_) | (have H2_ := (Option.bind_some _ _).symm.trans H; with_reducible exact H2_) | with_reducible exact H | (rw [hy169]; exact H) | exact H
  have Ny169 := Aside0.mk hy169
  clear hy169
  by_cases c17 : t156.length + y169.length < 8796093022208
  ·rw [if_pos c17] at H
   have LMc17 := Aside0.mk c17
   clear c17
   obtain ⟨y172, hy172⟩ : ∃ y_ : List (S46), y_ = (t156 ++ y169) := ⟨_, rfl⟩
   replace H : (some y172) = some r := by first | (rw [hy172]; with_reducible exact H) | (have H2_ := (Option.bind_some _ _).symm.trans H; rw [hy172]; with_reducible exact H2_) | (have H2_ := (Option.bind_some _ _).symm.trans H; with_reducible exact H2_) | with_reducible exact H | (rw [hy172]; exact H) | exact H
   have Ny172 := Aside0.mk hy172
   clear hy172
   obtain rfl := Option.some.inj H
   go_enter Try.func44, Try.ntmps44
   try go_wp2_with (first | ((with_reducible refine gate_dst (N := 2) rfl ?_); refine box_event ?hg (N := 2) ?hd (cs := #[.bool a0_0, .int .i64 a0_1, .int .i64 a0_2, .int .i64 a0_3, .int .i64 a0_4, .int .i64 a0_5]) (t := 23) ?hr ?_; (case hd => rfl); (case hg => rfl); (case hr => first | (go_simp; done) | (go_simp; rfl)); intro gb155 hg w18 hbox hb; have n0_ := q2_ HB hb; have n1_ := Aside0.mk (hbox); have n2_ := q11_ HB hg; have n3_ := q11_ HB hg; clear HB; have HB := n0_; have BK155 := n1_; have GW155 := n2_; have GE155 := n3_; clear n0_ n1_ n2_ n3_; clear hb hbox hg))
   have n0_ := Aside0.mk (blk_drew BK155.out)
   have n1_ := Aside0.mk (below_drew1 HB.out)
   clear BK155
   clear HB
   have BK155 := n0_
   have HB := n1_
   clear n0_ n1_
   refine start_ (n := 19) (S := fun w' => w'.cell? ⟨gb155, 0, none⟩ = some (.bool a0_0) ∧ w'.cell? ⟨gb155, 1, none⟩ = some (.int .i64 a0_1) ∧ w'.cell? ⟨gb155, 2, none⟩ = some (.int .i64 a0_2) ∧ w'.cell? ⟨gb155, 3, none⟩ = some (.int .i64 a0_3) ∧ w'.cell? ⟨gb155, 4, none⟩ = some (.int .i64 a0_4) ∧ w'.cell? ⟨gb155, 5, none⟩ = some (.int .i64 a0_5)) (ds := []) m9_0 (by kernel_rfl) rfl rfl ⟨q7_ BK155 0 rfl, q7_ BK155 1 rfl, q7_ BK155 2 rfl, q7_ BK155 3 rfl, q7_ BK155 4 rfl, q7_ BK155 5 rfl⟩ (fun hHeld => ?_); refine with_tabW derive_authority.tab1 derive_authority.bits1 (fun HT_ HW_ => ?_)
   generalize w18.drew = w19 at BK155 HB hHeld ⊢
   refine pure_ (i := 3) (N := some 8) (v := ?_) (a' := ?_) m9_1 rfl rfl (any_of HT_.out (by kernel_rfl)) (fun _ _ _ h => h) (Or.inl ⟨by rfl, ?_⟩) ?_ ?_
   rotate_left
   ·intro w'
    go_simp
    with_reducible rfl
   rotate_left
   ·simp only [Act.put, q4_, q5_, q6_, i64_w, i32_w]
    rfl
   refine pure_ (i := 7) (N := some 12) (v := ?_) (a' := ?_) m9_2 rfl rfl (any_of HT_.out (by kernel_rfl)) (fun _ _ _ h => h) (Or.inl ⟨by rfl, ?_⟩) ?_ ?_
   rotate_left
   ·intro w'
    go_simp
    with_reducible rfl
   rotate_left
   ·simp only [Act.put, q4_, q5_, q6_, i64_w, i32_w]
    rfl
   refine take_ (i := 0) (N := some 5) (v := ?_) (a' := ?_) m9_3 rfl rfl (take_ofW HT_.out HW_.out (by kernel_rfl)) (fun _ _ _ h => h) (Or.inl ⟨by rfl, ?_⟩) hHeld ?_ ?_
   rotate_left
   ·rintro w' ⟨s0, s1, s2, s3, s4, s5⟩
    go_simp
    with_reducible rfl
   rotate_left
   ·simp only [Act.put, q4_, q5_, q6_, i64_w, i32_w]
    rfl
   refine take_ (i := 2) (N := some 7) (v := ?_) (a' := ?_) m9_4 rfl rfl (take_ofW HT_.out HW_.out (by kernel_rfl)) (fun _ _ _ h => h) (Or.inl ⟨by rfl, ?_⟩) hHeld ?_ ?_
   rotate_left
   ·rintro w' ⟨s0, s1, s2, s3, s4, s5⟩
    go_simp
    with_reducible rfl
   rotate_left
   ·simp only [Act.put, q4_, q5_, q6_, i64_w, i32_w]
    rfl
   refine take_ (i := 5) (N := some 10) (v := ?_) (a' := ?_) m9_5 rfl rfl (take_ofW HT_.out HW_.out (by kernel_rfl)) (fun _ _ _ h => h) (Or.inl ⟨by rfl, ?_⟩) hHeld ?_ ?_
   rotate_left
   ·rintro w' ⟨s0, s1, s2, s3, s4, s5⟩
    go_simp
    with_reducible rfl
   rotate_left
   ·simp only [Act.put, q4_, q5_, q6_, i64_w, i32_w]
    rfl
   refine take_ (i := 8) (N := some 13) (v := ?_) (a' := ?_) m9_6 rfl rfl (take_ofW HT_.out HW_.out (by kernel_rfl)) (fun _ _ _ h => h) (Or.inl ⟨by rfl, ?_⟩) hHeld ?_ ?_
   rotate_left
   ·rintro w' ⟨s0, s1, s2, s3, s4, s5⟩
    go_simp
    with_reducible rfl
   rotate_left
   ·simp only [Act.put, q4_, q5_, q6_, i64_w, i32_w]
    rfl
   refine pure_ (i := 9) (N := some 14) (v := ?_) (a' := ?_) m9_7 rfl rfl (any_of HT_.out (by kernel_rfl)) (fun _ _ _ h => h) (Or.inl ⟨by rfl, ?_⟩) ?_ ?_
   rotate_left
   ·intro w'
    go_simp
    with_reducible rfl
   rotate_left
   ·simp only [Act.put, q4_, q5_, q6_, i64_w, i32_w]
    rfl
   refine one_ (i := 1) (N := some 6) m9_8 rfl rfl (one_of HT_.out (by kernel_rfl)) (by decide) (fun K hK => ?_)
   refine goes_ Try.func32 (by kernel_rfl) rfl #[.agg #[.bool a0_0, .int .i64 a0_1, .int .i64 a0_2, .int .i64 a0_3, .int .i64 a0_4, .int .i64 a0_5]] (by rfl) rfl rfl (by (try simp only [List.map_toArray, List.map_cons, List.map_nil]); first | done | rfl | (simp only [List.length_drop, List.length_take]; rfl)) ?_
   with_reducible refine (derive_used.calls a0_0 a0_1 a0_2 a0_3 a0_4 a0_5 t156 _ A3.out).mono ?_
   rintro e w20 ⟨v157, rfl, ho0, hb⟩
   refine ⟨_, rfl, ?_⟩
   have n0_ := Aside0.mk (Kd.R_lower ho0 (below_size (by repeat (first | (with_reducible first | exact HB.out | apply below_alloc | apply pw_below_drewN | apply below_drew1 | refine below_set ?_ GE155.out) | exact HB.out))))
   have n1_ := q1_ BK155 hb
   have n2_ := q2_ HB hb
   clear BK155
   clear HB
   have HO158 := n0_
   have BK155 := n1_
   have HB := n2_
   clear n0_ n1_ n2_
   (try clear hb)
   (try clear hb2)
   (try clear hk)
   (try clear hi)
   (try clear ho0)
   refine hK.out _ _ ⟨q7_ BK155 0 rfl, q7_ BK155 1 rfl, q7_ BK155 2 rfl, q7_ BK155 3 rfl, q7_ BK155 4 rfl, q7_ BK155 5 rfl⟩ (fun hHeld => ?_)
   clear hK K
   refine norm_ (a' := ?_) ?_ ?_
   rotate_left
   ·show Act.put _ (some 6) _ = _
    simp only [Act.put, q4_, q5_, q6_, i64_w, i32_w]
    rfl
   refine one_ (i := 4) (N := some 9) m9_9 rfl rfl (one_of HT_.out (by kernel_rfl)) (by decide) (fun K hK => ?_)
   refine goes_ Try.func50 (by kernel_rfl) rfl #[.agg #[.bool a0_0, .int .i64 a0_1, .int .i64 a0_2, .int .i64 a0_3, .int .i64 a0_4, .int .i64 a0_5], .int .i64 a1] (by rfl) rfl rfl (by (try simp only [List.map_toArray, List.map_cons, List.map_nil]); first | done | rfl | (simp only [List.length_drop, List.length_take]; rfl)) ?_
   with_reducible refine (derive_has.calls a0_0 a0_1 a0_2 a0_3 a0_4 a0_5 a1 t159 t160 _ A4.out).mono ?_
   rintro e w21 ⟨rfl, hb⟩
   refine ⟨_, rfl, ?_⟩
   have n0_ := Aside0.mk (Kd.R_below (by (with_reducible repeat (first | apply Kd.R_alloc | apply Kd.R_drewN | apply Kd.R_drew)); exact HO158.out) hb)
   have n1_ := q1_ BK155 hb
   have n2_ := q2_ HB hb
   clear HO158
   clear BK155
   clear HB
   have HO158 := n0_
   have BK155 := n1_
   have HB := n2_
   clear n0_ n1_ n2_
   (try clear hb)
   (try clear hb2)
   (try clear hk)
   (try clear hi)
   refine hK.out _ _ ⟨q7_ BK155 0 rfl, q7_ BK155 1 rfl, q7_ BK155 2 rfl, q7_ BK155 3 rfl, q7_ BK155 4 rfl, q7_ BK155 5 rfl⟩ (fun hHeld => ?_)
   clear hK K
   refine norm_ (a' := ?_) ?_ ?_
   rotate_left
   ·show Act.put _ (some 9) _ = _
    simp only [Act.put, q4_, q5_, q6_, i64_w, i32_w]
    rfl
   refine one_ (i := 6) (N := some 11) m9_10 rfl rfl (one_of HT_.out (by kernel_rfl)) (by decide) (fun K hK => ?_)
   refine goes_ Try.func33 (by kernel_rfl) rfl #[.agg #[.bool a0_0, .int .i64 a0_1, .int .i64 a0_2, .int .i64 a0_3, .int .i64 a0_4, .int .i64 a0_5], .int .i64 1] (by rfl) rfl rfl (by (try simp only [List.map_toArray, List.map_cons, List.map_nil]); first | done | rfl | (simp only [List.length_drop, List.length_take]; rfl)) ?_
   with_reducible refine (derive_spans.calls a0_0 a0_1 a0_2 a0_3 a0_4 a0_5 1 t161 t162 _ A5.out).mono ?_
   rintro e w22 ⟨rfl, hb⟩
   refine ⟨_, rfl, ?_⟩
   have n0_ := Aside0.mk (Kd.R_below (by (with_reducible repeat (first | apply Kd.R_alloc | apply Kd.R_drewN | apply Kd.R_drew)); exact HO158.out) hb)
   have n1_ := q1_ BK155 hb
   have n2_ := q2_ HB hb
   clear HO158
   clear BK155
   clear HB
   have HO158 := n0_
   have BK155 := n1_
   have HB := n2_
   clear n0_ n1_ n2_
   (try clear hb)
   (try clear hb2)
   (try clear hk)
   (try clear hi)
   refine hK.out _ _ ⟨q7_ BK155 0 rfl, q7_ BK155 1 rfl, q7_ BK155 2 rfl, q7_ BK155 3 rfl, q7_ BK155 4 rfl, q7_ BK155 5 rfl⟩ (fun hHeld => ?_)
   clear hK K
   refine norm_ (a' := ?_) ?_ ?_
   rotate_left
   ·show Act.put _ (some 11) _ = _
    simp only [Act.put, q4_, q5_, q6_, i64_w, i32_w]
    rfl
   refine pure_ (i := 10) (N := some 15) (v := ?_) (a' := ?_) m9_11 rfl rfl (any_of HT_.out (by kernel_rfl)) (fun _ _ _ h => h) (Or.inl ⟨by rfl, ?_⟩) ?_ ?_
   rotate_left
   ·intro w'
    go_simp
    with_reducible rfl
   rotate_left
   ·simp only [Act.put, q4_, q5_, q6_, i64_w, i32_w]
    rfl
   refine pure_ (i := 11) (N := some 16) (v := undef) (a' := ?_) m9_12 rfl rfl (any_of HT_.out (by kernel_rfl)) (fun _ _ _ h => h) (Or.inr ⟨by rfl, rfl⟩) ?_ ?_
   rotate_left
   ·simp only [Act.put, q4_, q5_, q6_, i64_w, i32_w]
    rfl
   refine pure_ (i := 12) (N := some 17) (v := undef) (a' := ?_) m9_13 rfl rfl (any_of HT_.out (by kernel_rfl)) (fun _ _ _ h => h) (Or.inr ⟨by rfl, rfl⟩) ?_ ?_
   rotate_left
   ·simp only [Act.put, q4_, q5_, q6_, i64_w, i32_w]
    rfl
   refine pure_ (i := 13) (N := some 18) (v := undef) (a' := ?_) m9_14 rfl rfl (any_of HT_.out (by kernel_rfl)) (fun _ _ _ h => h) (Or.inr ⟨by rfl, rfl⟩) ?_ ?_
   rotate_left
   ·simp only [Act.put, q4_, q5_, q6_, i64_w, i32_w]
    rfl
   refine pure_ (i := 14) (N := some 19) (v := ?_) (a' := ?_) m9_15 rfl rfl (any_of HT_.out (by kernel_rfl)) (fun _ _ _ h => h) (Or.inl ⟨by rfl, ?_⟩) ?_ ?_
   rotate_left
   ·intro w'
    go_simp
    with_reducible rfl
   rotate_left
   ·simp only [Act.put, q4_, q5_, q6_, i64_w, i32_w]
    rfl
   refine pure_ (i := 15) (N := some 20) (v := ?_) (a' := ?_) m9_16 rfl rfl (any_of HT_.out (by kernel_rfl)) (fun _ _ _ h => h) (Or.inl ⟨by rfl, ?_⟩) ?_ ?_
   rotate_left
   ·intro w'
    go_simp
    with_reducible rfl
   rotate_left
   ·simp only [Act.put, q4_, q5_, q6_, i64_w, i32_w]
    rfl
   refine one_ (i := 16) (N := some 21) m9_17 rfl rfl (one_of HT_.out (by kernel_rfl)) (by decide) (fun K hK => ?_)
   refine Kd.R_lit_step k46 _ 46 ?hg (N := 21) ?hd (xs := ([(⟨t159, t160⟩ : S46), (⟨t161, t162⟩ : S46), (⟨false, 45⟩ : S46)] : List (S46))) (inner := [.bool t159, .int .i64 t160, .bool t161, .int .i64 t162, .bool false, .int .i64 45]) (ok := fun _ => True) (okp := fun _ => True) ?hr ?hp (fun _ hk => hk) trivial (Below.refl _ _) (Nat.le_refl _) (by simp) ?_; (case hd => rfl); (case hg => rfl); (case hr => first | (go_simp; done) | (go_simp; rfl)); (case hp => exact (Reps.c2 (show Kd.M k46 _ _ _ (⟨t159, t160⟩ : S46) [.bool t159, .int .i64 t160] from (k46_mkM _ _ _ (⟨t159, t160⟩ : S46) )) (Reps.c2 (show Kd.M k46 _ _ _ (⟨t161, t162⟩ : S46) [.bool t161, .int .i64 t162] from (k46_mkM _ _ _ (⟨t161, t162⟩ : S46) )) (Reps.c2 (show Kd.M k46 _ _ _ (⟨false, 45⟩ : S46) [.bool false, .int .i64 45] from (k46_mkM _ _ _ (⟨false, 45⟩ : S46) )) (Reps.none _ _)))))
   intro v170 w23 ho24 hb hg_ hnew_
   clear hg_ hnew_
   (first | rw [← Ny169.out] at ho24 | (simp only [Int.reduceToNat] at ho24; rw [← Ny169.out] at ho24))
   have n0_ := Aside0.mk (Kd.R_elder' (by (with_reducible repeat (first | apply Kd.R_alloc | apply Kd.R_drewN | apply Kd.R_drew)); exact HO158.out) (Kd.R_base ho24) hb)
   have n1_ := Aside0.mk (Kd.R_lower (Kd.R_new' ho24 (Kd.R_lt (by (with_reducible repeat (first | apply Kd.R_alloc | apply Kd.R_drewN | apply Kd.R_drew)); exact HO158.out))) (below_size (by repeat (first | (with_reducible first | exact HB.out | apply below_alloc | apply pw_below_drewN | apply below_drew1 | refine below_set ?_ GE155.out) | exact HB.out))))
   have n2_ := q1_ BK155 hb
   have n3_ := q2_ HB hb
   clear HO158
   clear BK155
   clear HB
   have HO158 := n0_
   have HO171 := n1_
   have BK155 := n2_
   have HB := n3_
   clear n0_ n1_ n2_ n3_
   clear hb ho24
   obtain ⟨Ao26, co26, eo26⟩ := Kd.R_slice HO171.out
   (first | subst eo26 | (injection eo26 with f1_ f2_ f3_; have f4_ := f1_.symm; have f5_ := f3_.symm; clear f1_ f2_ f3_; subst f4_; subst f5_))
   refine hK.out _ _ ⟨q7_ BK155 0 rfl, q7_ BK155 1 rfl, q7_ BK155 2 rfl, q7_ BK155 3 rfl, q7_ BK155 4 rfl, q7_ BK155 5 rfl⟩ (fun hHeld => ?_)
   clear hK K
   refine norm_ (a' := ?_) ?_ ?_
   rotate_left
   ·show Act.put _ (some 21) _ = _
    simp only [Act.put, q4_, q5_, q6_, i64_w, i32_w]
    rfl
   refine one_ (i := 17) (N := some 22) m9_18 rfl rfl (one_of HT_.out (by kernel_rfl)) (by decide) (fun K hK => ?_)
   refine Kd.R_append_rows_step k46 (w0 := w) w.heap.size (by rfl) (.tmp 6) (.tmp 21) 43 46 (.agg #[(.bool false), (.int .i64 0)]) 16 rfl Try.underlying43 info46 rfl (by decide) (by omega) v157 t156 y169 _ _ _ (fun k_ => some k_ ≠ (.slice Ao26 y169.length co26 : Value).ownBlock) (fun _ => False) rfl rfl ?aO ?aR (fun _ _ h => h) (fun _ h => h.elim) ?aF ?aB ?aS ?aL ?_
   (case aR => repeat (first | exact (Kd.R_reads' HO171.out).2.2 | (with_reducible refine Kd.C_alloc ?_ _) | (with_reducible refine Kd.C_drewN ?_ _) | (with_reducible refine Kd.C_drew ?_)))
   (case aB => exact (by repeat (first | (with_reducible first | exact HB.out | apply below_alloc | apply pw_below_drewN | apply below_drew1 | refine below_set ?_ GE155.out) | exact HB.out)))
   (case aF => exact (fun k_ hk => Kd.fresh' (Kd.R_lt (by (with_reducible repeat (first | apply Kd.R_alloc | apply Kd.R_drewN | apply Kd.R_drew)); exact HO171.out)) k_ hk))
   (case aO => exact (by (with_reducible repeat (first | apply Kd.R_alloc | apply Kd.R_drewN | apply Kd.R_drew)); exact Kd.R_mono HO158.out (fun _ hk => hk.2)))
   (case aS => exact (below_size (by repeat (first | (with_reducible first | exact HB.out | apply below_alloc | apply pw_below_drewN | apply below_drew1 | refine below_set ?_ GE155.out) | exact HB.out))))
   (case aL => have := LMc17.out; omega)
   intro v173 w25 ho hb hg hat
   rw [← Ny172.out] at ho
   have n0_ := Aside0.mk (blk_grown (g := gb155) (o := .cells #[.bool a0_0, .int .i64 a0_1, .int .i64 a0_2, .int .i64 a0_3, .int .i64 a0_4, .int .i64 a0_5] 23 (0, 0)) (q3_ BK155).out hg (Kd.R_ne HO158.out BK155.out (by decide)))
   have n1_ := Aside0.mk (Kd.R_after (ok := (fun _ => True)) (by (with_reducible repeat (first | apply Kd.R_alloc | apply Kd.R_drewN | apply Kd.R_drew)); exact HO171.out) hg hat)
   have n2_ := Aside0.mk (hb)
   have n3_ := Aside0.mk (ho)
   clear BK155
   clear HO171
   clear HB
   clear HO158
   have BK155 := n0_
   have HO171 := n1_
   have HB := n2_
   have HO174 := n3_
   clear n0_ n1_ n2_ n3_
   clear ho hb hg hat
   refine hK.out _ _ ⟨q7_ BK155 0 rfl, q7_ BK155 1 rfl, q7_ BK155 2 rfl, q7_ BK155 3 rfl, q7_ BK155 4 rfl, q7_ BK155 5 rfl⟩ (fun hHeld => ?_)
   clear hK K
   refine norm_ (a' := ?_) ?_ ?_
   rotate_left
   ·show Act.put _ (some 22) _ = _
    simp only [Act.put, q4_, q5_, q6_, i64_w, i32_w]
    rfl
   refine pure_ (i := 18) (N := some 4) (v := ?_) (a' := ?_) m9_19 rfl rfl (any_of HT_.out (by kernel_rfl)) (fun _ _ _ h => h) (Or.inl ⟨by rfl, ?_⟩) ?_ ?_
   rotate_left
   ·intro w'
    go_simp
    with_reducible rfl
   rotate_left
   ·simp only [Act.put, q4_, q5_, q6_, i64_w, i32_w]
    rfl
   refine done_ (done_of HT_.out (by kernel_rfl)) ?_
   try go_wp2
   go_ret
   exact ⟨_, by first | rfl | (simp [errW_none, errW_some] <;> rfl) | (simp [*, errW_none, errW_some] <;> rfl), by (with_reducible repeat (first | apply Kd.R_alloc | apply Kd.R_drewN | apply Kd.R_drew)); exact Kd.R_mono HO174.out (fun _ hk => trivial), by repeat (first | (with_reducible first | exact HB.out | apply below_alloc | apply pw_below_drewN | apply below_drew1 | refine below_set ?_ GE155.out) | exact HB.out)⟩
  ·rw [if_neg c17] at H
   exact absurd H (by simp)

end Go.Proofs.Ytgkmacgckoifaaa.PDr
-- shorter
