-- written by a changed copy of the kit's print program, for this claim
import Derived.Test.YtgkmacgckoifaaaPDrx0
import Derived.Test.YtgkmacgckoifaaaPDrx2
import Derived.Test.YtgkmacgckoifaaaPDrx8
namespace Go.Proofs.Ytgkmacgckoifaaa.PDr
open Go.RowKit Go.Proofs.YtgkmacgckoifaaaW.PrintWords Go.Proofs.YtgkmacgckoifaaaW.PrintLast Go.Proofs.YtgkmacgckoifaaaW.PrintMore
attribute [local go_sem] max2_int min2_int max_two min_two max_three min_three max_four min_four   -- for this text's walks alone
set_option linter.unusedVariables false
set_option linter.unusedSimpArgs false

abbrev m13_0 : Array Bool := #[false, false, false, false, false, false, false, false, false, false, false, false, false, false, false]
abbrev m13_1 : Array Bool := #[true, false, false, false, false, false, false, false, false, false, false, false, false, false, false]
abbrev m13_2 : Array Bool := #[true, false, false, true, false, false, false, false, false, false, false, false, false, false, false]
abbrev m13_3 : Array Bool := #[true, true, false, true, false, false, false, false, false, false, false, false, false, false, false]
abbrev m13_4 : Array Bool := #[true, true, true, true, false, false, false, false, false, false, false, false, false, false, false]
abbrev m13_5 : Array Bool := #[true, true, true, true, true, false, false, false, false, false, false, false, false, false, false]
abbrev m13_6 : Array Bool := #[true, true, true, true, true, true, false, false, false, false, false, false, false, false, false]
abbrev m13_7 : Array Bool := #[true, true, true, true, true, true, true, false, false, false, false, false, false, false, false]
abbrev m13_8 : Array Bool := #[true, true, true, true, true, true, true, true, false, false, false, false, false, false, false]
abbrev m13_9 : Array Bool := #[true, true, true, true, true, true, true, true, true, false, false, false, false, false, false]
abbrev m13_10 : Array Bool := #[true, true, true, true, true, true, true, true, true, false, true, false, false, false, false]
abbrev m13_11 : Array Bool := #[true, true, true, true, true, true, true, true, true, true, true, false, false, false, false]
abbrev m13_12 : Array Bool := #[true, true, true, true, true, true, true, true, true, true, true, true, false, false, false]
abbrev m13_13 : Array Bool := #[true, true, true, true, true, true, true, true, true, true, true, true, true, false, false]
abbrev m13_14 : Array Bool := #[true, true, true, true, true, true, true, true, true, true, true, true, true, true, false]
abbrev m13_15 : Array Bool := #[true, true, true, true, true, true, true, true, true, true, true, true, true, true, true]
abbrev m13_16 : Array Bool := #[true, true, true, true, true, true, true, true, true, true, false, false, false, false, false]
/-! ### cap_Under: function 53 -/
def cap_Under.f (a0_0 : Bool) (a0_1 : Int) (a0_2 : Int) (a0_3 : Int) (a0_4 : Int) (a0_5 : Int) (a1_0 : Bool) (a1_1 : Int) (a1_2 : Int) (a1_3 : Int) (a1_4 : Int) (a1_5 : Int) : Option (Bool) := (cap_of.f a1_0 a1_1 a1_2 a1_3 a1_4 a1_5).bind fun bt177 => ((cap_of.f a0_0 a0_1 a0_2 a0_3 a0_4 a0_5).bind fun bt185 => ((cap_span_has.f bt177.1 bt177.2.1 bt185.1 bt185.2.1).bind fun t193 => (if t193 = true then ((perm_Has.f a1_4 a0_4).bind fun t194 => (some t194)) else (some false))))
def cap_Under.T1 : Bool × List (List Nat × List Nat) := (true, [([], []), ([0], [0]), ([1], [1]), ([], []), ([3, 1], [3]), ([4], [4]), ([2, 5, 4], [2, 5]), ([6, 6], [6]), ([7], [7]), ([8, 7], [7, 8]), ([7], [7]), ([10, 7], [7, 10]), ([9, 11, 7, 7], [7, 9, 11]), ([7, 12], [7, 12]), ([13, 12, 0, 1, 2, 3, 4, 5, 6, 7, 8, 9, 10, 11, 12, 13], [13])])
def cap_Under.B1 : List Nat := [0, 1, 3, 0, 11, 27, 63, 127, 255, 511, 255, 1279, 4095, 8191, 16383]
theorem cap_Under.tab1 : rtab .any (opsOf Try.f53 1) = cap_Under.T1 := by kernel_rfl
theorem cap_Under.bits1 : waitsOk cap_Under.T1.2 cap_Under.B1 = true := by kernel_rfl
set_option maxHeartbeats 8000000 in
set_option maxRecDepth 100000 in
theorem cap_Under.calls (a0_0 : Bool) (a0_1 : Int) (a0_2 : Int) (a0_3 : Int) (a0_4 : Int) (a0_5 : Int) (a1_0 : Bool) (a1_1 : Int) (a1_2 : Int) (a1_3 : Int) (a1_4 : Int) (a1_5 : Int) (r : Bool) (w : World) (h : cap_Under.f a0_0 a0_1 a0_2 a0_3 a0_4 a0_5 a1_0 a1_1 a1_2 a1_3 a1_4 a1_5 = some r) :
  Calls Try.prog 53 #[.agg #[.bool a0_0, .int .i64 a0_1, .int .i64 a0_2, .int .i64 a0_3, .int .i64 a0_4, .int .i64 a0_5], .agg #[.bool a1_0, .int .i64 a1_1, .int .i64 a1_2, .int .i64 a1_3, .int .i64 a1_4, .int .i64 a1_5]] w fun e w' => e = .returned (.bool r) ∧ Below w.heap.size w w' := by
 have hu23 := Try.underlying23
 have hfl62_0 : ∀ (v0 v1 v2 v3 v4 v5 v6 v7 : Value) (W : World), (Instr.field 62 (.agg #[v0, v1, v2, v3, v4, v5, v6, v7]) 0).run Try.prog W = .ok (.agg #[v0, v1]) W := fun _ _ _ _ _ _ _ _ _ => by kernel_rfl
 have HB := Aside0.mk (Below.refl w.heap.size w)
 have H : ((cap_of.f a1_0 a1_1 a1_2 a1_3 a1_4 a1_5).bind fun bt177 => ((cap_of.f a0_0 a0_1 a0_2 a0_3 a0_4 a0_5).bind fun bt185 => ((cap_span_has.f bt177.1 bt177.2.1 bt185.1 bt185.2.1).bind fun t193 => (if t193 = true then ((perm_Has.f a1_4 a0_4).bind fun t194 => (some t194)) else (some false))))) = some r := h
 clear h
 replace H := Option.bind_eq_some_iff.mp H
 obtain ⟨⟨t177, t178, t179, t180, t181, t182, t183, t184⟩, A30, H⟩ := H
 replace H : ((cap_of.f a0_0 a0_1 a0_2 a0_3 a0_4 a0_5).bind fun bt185 => ((cap_span_has.f t177 t178 bt185.1 bt185.2.1).bind fun t193 => (if t193 = true then ((perm_Has.f a1_4 a0_4).bind fun t194 => (some t194)) else (some false)))) = some r := H
 have A3 := Aside0.mk A30
 clear A30
 replace H := Option.bind_eq_some_iff.mp H
 obtain ⟨⟨t185, t186, t187, t188, t189, t190, t191, t192⟩, A40, H⟩ := H
 replace H : ((cap_span_has.f t177 t178 t185 t186).bind fun t193 => (if t193 = true then ((perm_Has.f a1_4 a0_4).bind fun t194 => (some t194)) else (some false))) = some r := H
 have A4 := Aside0.mk A40
 clear A40
 replace H := Option.bind_eq_some_iff.mp H
 obtain ⟨t193, A50, H⟩ := H
 replace H : (if t193 = true then ((perm_Has.f a1_4 a0_4).bind fun t194 => (some t194)) else (some false)) = some r := H
 have A5 := Aside0.mk A50
 clear A50
 by_cases c6 : t193 = true
 ·subst c6
  have H1 : ((perm_Has.f a1_4 a0_4).bind fun t194 => (some t194)) = some r := by rw [if_pos rfl] at H; exact H
  clear H
  have H := H1
  clear H1
  replace H := Option.bind_eq_some_iff.mp H
  obtain ⟨t194, A70, H⟩ := H
  replace H : (some t194) = some r := H
  have A7 := Aside0.mk A70
  clear A70
  obtain rfl := Option.some.inj H
  go_enter Try.func53, Try.ntmps53
  try go_wp2_with (first | ((with_reducible refine gate_dst (N := 2) rfl ?_); refine box_event ?hg (N := 2) ?hd (cs := #[.bool a0_0, .int .i64 a0_1, .int .i64 a0_2, .int .i64 a0_3, .int .i64 a0_4, .int .i64 a0_5]) (t := 23) ?hr ?_; (case hd => rfl); (case hg => rfl); (case hr => first | (go_simp; done) | (go_simp; rfl)); intro gb175 hg w8 hbox hb; have n0_ := q2_ HB hb; have n1_ := Aside0.mk (hbox); have n2_ := q11_ HB hg; have n3_ := q11_ HB hg; clear HB; have HB := n0_; have BK175 := n1_; have GW175 := n2_; have GE175 := n3_; clear n0_ n1_ n2_ n3_; clear hb hbox hg) | ((with_reducible refine gate_dst (N := 3) rfl ?_); refine box_event ?hg (N := 3) ?hd (cs := #[.bool a1_0, .int .i64 a1_1, .int .i64 a1_2, .int .i64 a1_3, .int .i64 a1_4, .int .i64 a1_5]) (t := 23) ?hr ?_; (case hd => rfl); (case hg => rfl); (case hr => first | (go_simp; done) | (go_simp; rfl)); intro gb176 hg w9 hbox hb; have n0_ := q1_ BK175 hb; have n1_ := q2_ HB hb; have n2_ := Aside0.mk (hbox); have n3_ := q11_ HB hg; have n4_ := q11_ HB hg; have n5_ := q12_ BK175 hg; have n6_ := q13_ BK175 hg; clear BK175; clear HB; have BK175 := n0_; have HB := n1_; have BK176 := n2_; have GW176 := n3_; have GE176 := n4_; have NB175_176 := n5_; have NB176_175 := n6_; clear n0_ n1_ n2_ n3_ n4_ n5_ n6_; clear hb hbox hg))
  have n0_ := Aside0.mk (blk_drew BK175.out)
  have n1_ := Aside0.mk (blk_drew BK176.out)
  have n2_ := Aside0.mk (below_drew1 HB.out)
  clear BK175
  clear BK176
  clear HB
  have BK175 := n0_
  have BK176 := n1_
  have HB := n2_
  clear n0_ n1_ n2_
  refine start_ (n := 15) (S := fun w' => w'.cell? ⟨gb176, 0, none⟩ = some (.bool a1_0) ∧ w'.cell? ⟨gb176, 1, none⟩ = some (.int .i64 a1_1) ∧ w'.cell? ⟨gb176, 2, none⟩ = some (.int .i64 a1_2) ∧ w'.cell? ⟨gb176, 3, none⟩ = some (.int .i64 a1_3) ∧ w'.cell? ⟨gb176, 4, none⟩ = some (.int .i64 a1_4) ∧ w'.cell? ⟨gb176, 5, none⟩ = some (.int .i64 a1_5) ∧ w'.cell? ⟨gb175, 0, none⟩ = some (.bool a0_0) ∧ w'.cell? ⟨gb175, 1, none⟩ = some (.int .i64 a0_1) ∧ w'.cell? ⟨gb175, 2, none⟩ = some (.int .i64 a0_2) ∧ w'.cell? ⟨gb175, 3, none⟩ = some (.int .i64 a0_3) ∧ w'.cell? ⟨gb175, 4, none⟩ = some (.int .i64 a0_4) ∧ w'.cell? ⟨gb175, 5, none⟩ = some (.int .i64 a0_5)) (ds := []) m13_0 (by kernel_rfl) rfl rfl ⟨q7_ BK176 0 rfl, q7_ BK176 1 rfl, q7_ BK176 2 rfl, q7_ BK176 3 rfl, q7_ BK176 4 rfl, q7_ BK176 5 rfl, q7_ BK175 0 rfl, q7_ BK175 1 rfl, q7_ BK175 2 rfl, q7_ BK175 3 rfl, q7_ BK175 4 rfl, q7_ BK175 5 rfl⟩ (fun hHeld => ?_); refine with_tabW cap_Under.tab1 cap_Under.bits1 (fun HT_ HW_ => ?_)
  generalize w9.drew = w10 at BK175 BK176 HB hHeld ⊢
  refine take_ (i := 0) (N := some 5) (v := ?_) (a' := ?_) m13_1 rfl rfl (take_ofW HT_.out HW_.out (by kernel_rfl)) (fun _ _ _ h => h) (Or.inl ⟨by rfl, ?_⟩) hHeld ?_ ?_
  rotate_left
  ·rintro w' ⟨s0, s1, s2, s3, s4, s5, s6, s7, s8, s9, s10, s11⟩
   go_simp
   with_reducible rfl
  rotate_left
  ·simp only [Act.put, q4_, q5_, q6_, i64_w, i32_w]
   rfl
  refine take_ (i := 3) (N := some 8) (v := ?_) (a' := ?_) m13_2 rfl rfl (take_ofW HT_.out HW_.out (by kernel_rfl)) (fun _ _ _ h => h) (Or.inl ⟨by rfl, ?_⟩) hHeld ?_ ?_
  rotate_left
  ·rintro w' ⟨s0, s1, s2, s3, s4, s5, s6, s7, s8, s9, s10, s11⟩
   go_simp
   with_reducible rfl
  rotate_left
  ·simp only [Act.put, q4_, q5_, q6_, i64_w, i32_w]
   rfl
  refine one_ (i := 1) (N := some 6) m13_3 rfl rfl (one_of HT_.out (by kernel_rfl)) (by decide) (fun K hK => ?_)
  refine goes_ Try.func60 (by kernel_rfl) rfl #[.agg #[.bool a1_0, .int .i64 a1_1, .int .i64 a1_2, .int .i64 a1_3, .int .i64 a1_4, .int .i64 a1_5]] (by rfl) rfl rfl (by (try simp only [List.map_toArray, List.map_cons, List.map_nil]); first | done | rfl | (simp only [List.length_drop, List.length_take]; rfl)) ?_
  with_reducible refine (cap_of.calls a1_0 a1_1 a1_2 a1_3 a1_4 a1_5 t177 t178 t179 t180 t181 t182 t183 t184 _ A3.out).mono ?_
  rintro e w11 ⟨rfl, hb⟩
  refine ⟨_, rfl, ?_⟩
  have n0_ := q1_ BK175 hb
  have n1_ := q1_ BK176 hb
  have n2_ := q2_ HB hb
  clear BK175
  clear BK176
  clear HB
  have BK175 := n0_
  have BK176 := n1_
  have HB := n2_
  clear n0_ n1_ n2_
  (try clear hb)
  (try clear hb2)
  (try clear hk)
  (try clear hi)
  refine hK.out _ _ ⟨q7_ BK176 0 rfl, q7_ BK176 1 rfl, q7_ BK176 2 rfl, q7_ BK176 3 rfl, q7_ BK176 4 rfl, q7_ BK176 5 rfl, q7_ BK175 0 rfl, q7_ BK175 1 rfl, q7_ BK175 2 rfl, q7_ BK175 3 rfl, q7_ BK175 4 rfl, q7_ BK175 5 rfl⟩ (fun hHeld => ?_)
  clear hK K
  refine norm_ (a' := ?_) ?_ ?_
  rotate_left
  ·show Act.put _ (some 6) _ = _
   simp only [Act.put, q4_, q5_, q6_, i64_w, i32_w]
   rfl
  refine pure_ (i := 2) (N := some 7) (v := ?_) (a' := ?_) m13_4 rfl rfl (any_of HT_.out (by kernel_rfl)) (fun _ _ _ h => h) (Or.inl ⟨by rfl, ?_⟩) ?_ ?_
  rotate_left
  ·intro w'
   go_simp
   with_reducible rfl
  rotate_left
  ·simp only [Act.put, q4_, q5_, q6_, i64_w, i32_w]
   rfl
  refine one_ (i := 4) (N := some 9) m13_5 rfl rfl (one_of HT_.out (by kernel_rfl)) (by decide) (fun K hK => ?_)
  refine goes_ Try.func60 (by kernel_rfl) rfl #[.agg #[.bool a0_0, .int .i64 a0_1, .int .i64 a0_2, .int .i64 a0_3, .int .i64 a0_4, .int .i64 a0_5]] (by rfl) rfl rfl (by (try simp only [List.map_toArray, List.map_cons, List.map_nil]); first | done | rfl | (simp only [List.length_drop, List.length_take]; rfl)) ?_
  with_reducible refine (cap_of.calls a0_0 a0_1 a0_2 a0_3 a0_4 a0_5 t185 t186 t187 t188 t189 t190 t191 t192 _ A4.out).mono ?_
  rintro e w12 ⟨rfl, hb⟩
  refine ⟨_, rfl, ?_⟩
  have n0_ := q1_ BK175 hb
  have n1_ := q1_ BK176 hb
  have n2_ := q2_ HB hb
  clear BK175
  clear BK176
  clear HB
  have BK175 := n0_
  have BK176 := n1_
  have HB := n2_
  clear n0_ n1_ n2_
  (try clear hb)
  (try clear hb2)
  (try clear hk)
  (try clear hi)
  refine hK.out _ _ ⟨q7_ BK176 0 rfl, q7_ BK176 1 rfl, q7_ BK176 2 rfl, q7_ BK176 3 rfl, q7_ BK176 4 rfl, q7_ BK176 5 rfl, q7_ BK175 0 rfl, q7_ BK175 1 rfl, q7_ BK175 2 rfl, q7_ BK175 3 rfl, q7_ BK175 4 rfl, q7_ BK175 5 rfl⟩ (fun hHeld => ?_)
  clear hK K
  refine norm_ (a' := ?_) ?_ ?_
  rotate_left
  ·show Act.put _ (some 9) _ = _
   simp only [Act.put, q4_, q5_, q6_, i64_w, i32_w]
   rfl
  refine pure_ (i := 5) (N := some 10) (v := ?_) (a' := ?_) m13_6 rfl rfl (any_of HT_.out (by kernel_rfl)) (fun _ _ _ h => h) (Or.inl ⟨by rfl, ?_⟩) ?_ ?_
  rotate_left
  ·intro w'
   go_simp
   with_reducible rfl
  rotate_left
  ·simp only [Act.put, q4_, q5_, q6_, i64_w, i32_w]
   rfl
  refine one_ (i := 6) (N := some 11) m13_7 rfl rfl (one_of HT_.out (by kernel_rfl)) (by decide) (fun K hK => ?_)
  refine goes_ Try.func61 (by kernel_rfl) rfl #[.agg #[.int .i64 t177, .int .i64 t178], .agg #[.int .i64 t185, .int .i64 t186]] (by rfl) rfl rfl (by (try simp only [List.map_toArray, List.map_cons, List.map_nil]); first | done | rfl | (simp only [List.length_drop, List.length_take]; rfl)) ?_
  with_reducible refine (cap_span_has.calls t177 t178 t185 t186 true _ A5.out).mono ?_
  rintro e w13 ⟨rfl, hb⟩
  refine ⟨_, rfl, ?_⟩
  have n0_ := q1_ BK175 hb
  have n1_ := q1_ BK176 hb
  have n2_ := q2_ HB hb
  clear BK175
  clear BK176
  clear HB
  have BK175 := n0_
  have BK176 := n1_
  have HB := n2_
  clear n0_ n1_ n2_
  (try clear hb)
  (try clear hb2)
  (try clear hk)
  (try clear hi)
  refine hK.out _ _ ⟨q7_ BK176 0 rfl, q7_ BK176 1 rfl, q7_ BK176 2 rfl, q7_ BK176 3 rfl, q7_ BK176 4 rfl, q7_ BK176 5 rfl, q7_ BK175 0 rfl, q7_ BK175 1 rfl, q7_ BK175 2 rfl, q7_ BK175 3 rfl, q7_ BK175 4 rfl, q7_ BK175 5 rfl⟩ (fun hHeld => ?_)
  clear hK K
  refine norm_ (a' := ?_) ?_ ?_
  rotate_left
  ·show Act.put _ (some 11) _ = _
   simp only [Act.put, q4_, q5_, q6_, i64_w, i32_w]
   rfl
  refine pure_ (i := 7) (N := some 12) (v := ?_) (a' := ?_) m13_8 rfl rfl (any_of HT_.out (by kernel_rfl)) (fun _ _ _ h => h) (Or.inl ⟨by rfl, ?_⟩) ?_ ?_
  rotate_left
  ·intro w'
   go_simp
   with_reducible rfl
  rotate_left
  ·simp only [Act.put, q4_, q5_, q6_, i64_w, i32_w]
   rfl
  refine pure_ (i := 8) (N := some 13) (v := ?_) (a' := ?_) m13_9 rfl rfl (any_of HT_.out (by kernel_rfl)) (fun _ _ _ h => h) (Or.inl ⟨by rfl, ?_⟩) ?_ ?_
  rotate_left
  ·intro w'
   go_simp
   with_reducible rfl
  rotate_left
  ·simp only [Act.put, q4_, q5_, q6_, i64_w, i32_w]
   rfl
  refine pure_ (i := 10) (N := some 15) (v := ?_) (a' := ?_) m13_10 rfl rfl (any_of HT_.out (by kernel_rfl)) (fun _ _ _ h => h) (Or.inl ⟨by rfl, ?_⟩) ?_ ?_
  rotate_left
  ·intro w'
   go_simp
   with_reducible rfl
  rotate_left
  ·simp only [Act.put, q4_, q5_, q6_, i64_w, i32_w]
   rfl
  refine take_ (i := 9) (N := some 14) (v := ?_) (a' := ?_) m13_11 rfl rfl (take_ofW HT_.out HW_.out (by kernel_rfl)) (fun _ _ _ h => h) (Or.inl ⟨by rfl, ?_⟩) hHeld ?_ ?_
  rotate_left
  ·rintro w' ⟨s0, s1, s2, s3, s4, s5, s6, s7, s8, s9, s10, s11⟩
   go_simp
   with_reducible rfl
  rotate_left
  ·simp only [Act.put, q4_, q5_, q6_, i64_w, i32_w]
   rfl
  refine take_ (i := 11) (N := some 16) (v := ?_) (a' := ?_) m13_12 rfl rfl (take_ofW HT_.out HW_.out (by kernel_rfl)) (fun _ _ _ h => h) (Or.inl ⟨by rfl, ?_⟩) hHeld ?_ ?_
  rotate_left
  ·rintro w' ⟨s0, s1, s2, s3, s4, s5, s6, s7, s8, s9, s10, s11⟩
   go_simp
   with_reducible rfl
  rotate_left
  ·simp only [Act.put, q4_, q5_, q6_, i64_w, i32_w]
   rfl
  refine one_ (i := 12) (N := some 17) m13_13 rfl rfl (one_of HT_.out (by kernel_rfl)) (by decide) (fun K hK => ?_)
  refine goes_ Try.func58 (by kernel_rfl) rfl #[.int .i64 a1_4, .int .i64 a0_4] (by rfl) rfl rfl (by (try simp only [List.map_toArray, List.map_cons, List.map_nil]); first | done | rfl | (simp only [List.length_drop, List.length_take]; rfl)) ?_
  with_reducible refine (perm_Has.calls a1_4 a0_4 t194 _ A7.out).mono ?_
  rintro e w' ⟨rfl, ⟨nd, rfl⟩⟩
  refine ⟨_, rfl, ?_⟩
  refine hK.out _ _ ⟨q7_ BK176 0 rfl, q7_ BK176 1 rfl, q7_ BK176 2 rfl, q7_ BK176 3 rfl, q7_ BK176 4 rfl, q7_ BK176 5 rfl, q7_ BK175 0 rfl, q7_ BK175 1 rfl, q7_ BK175 2 rfl, q7_ BK175 3 rfl, q7_ BK175 4 rfl, q7_ BK175 5 rfl⟩ (fun hHeld => ?_)
  clear hK K
  refine norm_ (a' := ?_) ?_ ?_
  rotate_left
  ·show Act.put _ (some 17) _ = _
   simp only [Act.put, q4_, q5_, q6_, i64_w, i32_w]
   rfl
  refine pure_ (i := 13) (N := some 18) (v := ?_) (a' := ?_) m13_14 rfl rfl (any_of HT_.out (by kernel_rfl)) (fun _ _ _ h => h) (Or.inl ⟨by rfl, ?_⟩) ?_ ?_
  rotate_left
  ·intro w'
   go_simp
   with_reducible rfl
  rotate_left
  ·simp only [Act.put, q4_, q5_, q6_, i64_w, i32_w]
   rfl
  refine pure_ (i := 14) (N := some 4) (v := ?_) (a' := ?_) m13_15 rfl rfl (any_of HT_.out (by kernel_rfl)) (fun _ _ _ h => h) (Or.inl ⟨by rfl, ?_⟩) ?_ ?_
  rotate_left
  ·intro w'
   go_simp
   with_reducible rfl
  rotate_left
  ·simp only [Act.put, q4_, q5_, q6_, i64_w, i32_w]
   rfl
  refine done_ (done_of HT_.out (by kernel_rfl)) ?_
  try go_wp2
  go_ret
  exact ⟨by first | rfl | (simp [errW_none, errW_some] <;> rfl) | (simp [*, errW_none, errW_some] <;> rfl), by repeat (first | (with_reducible first | exact HB.out | apply below_alloc | apply pw_below_drewN | apply below_drew1 | refine below_set ?_ GE175.out | refine below_set ?_ GE176.out) | exact HB.out)⟩
 ·replace c6 := Bool.eq_false_iff.mpr c6
  subst c6
  have H1 : (some false) = some r := by rw [if_neg (show ¬ (false = true) by decide)] at H; exact H
  clear H
  have H := H1
  clear H1
  obtain rfl := Option.some.inj H
  go_enter Try.func53, Try.ntmps53
  try go_wp2_with (first | ((with_reducible refine gate_dst (N := 2) rfl ?_); refine box_event ?hg (N := 2) ?hd (cs := #[.bool a0_0, .int .i64 a0_1, .int .i64 a0_2, .int .i64 a0_3, .int .i64 a0_4, .int .i64 a0_5]) (t := 23) ?hr ?_; (case hd => rfl); (case hg => rfl); (case hr => first | (go_simp; done) | (go_simp; rfl)); intro gb175 hg w14 hbox hb; have n0_ := q2_ HB hb; have n1_ := Aside0.mk (hbox); have n2_ := q11_ HB hg; have n3_ := q11_ HB hg; clear HB; have HB := n0_; have BK175 := n1_; have GW175 := n2_; have GE175 := n3_; clear n0_ n1_ n2_ n3_; clear hb hbox hg) | ((with_reducible refine gate_dst (N := 3) rfl ?_); refine box_event ?hg (N := 3) ?hd (cs := #[.bool a1_0, .int .i64 a1_1, .int .i64 a1_2, .int .i64 a1_3, .int .i64 a1_4, .int .i64 a1_5]) (t := 23) ?hr ?_; (case hd => rfl); (case hg => rfl); (case hr => first | (go_simp; done) | (go_simp; rfl)); intro gb176 hg w15 hbox hb; have n0_ := q1_ BK175 hb; have n1_ := q2_ HB hb; have n2_ := Aside0.mk (hbox); have n3_ := q11_ HB hg; have n4_ := q11_ HB hg; have n5_ := q12_ BK175 hg; have n6_ := q13_ BK175 hg; clear BK175; clear HB; have BK175 := n0_; have HB := n1_; have BK176 := n2_; have GW176 := n3_; have GE176 := n4_; have NB175_176 := n5_; have NB176_175 := n6_; clear n0_ n1_ n2_ n3_ n4_ n5_ n6_; clear hb hbox hg))
  have n0_ := Aside0.mk (blk_drew BK175.out)
  have n1_ := Aside0.mk (blk_drew BK176.out)
  have n2_ := Aside0.mk (below_drew1 HB.out)
  clear BK175
  clear BK176
  clear HB
  have BK175 := n0_
  have BK176 := n1_
  have HB := n2_
  clear n0_ n1_ n2_
  refine start_ (n := 15) (S := fun w' => w'.cell? ⟨gb176, 0, none⟩ = some (.bool a1_0) ∧ w'.cell? ⟨gb176, 1, none⟩ = some (.int .i64 a1_1) ∧ w'.cell? ⟨gb176, 2, none⟩ = some (.int .i64 a1_2) ∧ w'.cell? ⟨gb176, 3, none⟩ = some (.int .i64 a1_3) ∧ w'.cell? ⟨gb176, 4, none⟩ = some (.int .i64 a1_4) ∧ w'.cell? ⟨gb176, 5, none⟩ = some (.int .i64 a1_5) ∧ w'.cell? ⟨gb175, 0, none⟩ = some (.bool a0_0) ∧ w'.cell? ⟨gb175, 1, none⟩ = some (.int .i64 a0_1) ∧ w'.cell? ⟨gb175, 2, none⟩ = some (.int .i64 a0_2) ∧ w'.cell? ⟨gb175, 3, none⟩ = some (.int .i64 a0_3) ∧ w'.cell? ⟨gb175, 4, none⟩ = some (.int .i64 a0_4) ∧ w'.cell? ⟨gb175, 5, none⟩ = some (.int .i64 a0_5)) (ds := []) m13_0 (by kernel_rfl) rfl rfl ⟨q7_ BK176 0 rfl, q7_ BK176 1 rfl, q7_ BK176 2 rfl, q7_ BK176 3 rfl, q7_ BK176 4 rfl, q7_ BK176 5 rfl, q7_ BK175 0 rfl, q7_ BK175 1 rfl, q7_ BK175 2 rfl, q7_ BK175 3 rfl, q7_ BK175 4 rfl, q7_ BK175 5 rfl⟩ (fun hHeld => ?_); refine with_tabW cap_Under.tab1 cap_Under.bits1 (fun HT_ HW_ => ?_)
  generalize w15.drew = w16 at BK175 BK176 HB hHeld ⊢
  refine take_ (i := 0) (N := some 5) (v := ?_) (a' := ?_) m13_1 rfl rfl (take_ofW HT_.out HW_.out (by kernel_rfl)) (fun _ _ _ h => h) (Or.inl ⟨by rfl, ?_⟩) hHeld ?_ ?_
  rotate_left
  ·rintro w' ⟨s0, s1, s2, s3, s4, s5, s6, s7, s8, s9, s10, s11⟩
   go_simp
   with_reducible rfl
  rotate_left
  ·simp only [Act.put, q4_, q5_, q6_, i64_w, i32_w]
   rfl
  refine take_ (i := 3) (N := some 8) (v := ?_) (a' := ?_) m13_2 rfl rfl (take_ofW HT_.out HW_.out (by kernel_rfl)) (fun _ _ _ h => h) (Or.inl ⟨by rfl, ?_⟩) hHeld ?_ ?_
  rotate_left
  ·rintro w' ⟨s0, s1, s2, s3, s4, s5, s6, s7, s8, s9, s10, s11⟩
   go_simp
   with_reducible rfl
  rotate_left
  ·simp only [Act.put, q4_, q5_, q6_, i64_w, i32_w]
   rfl
  refine one_ (i := 1) (N := some 6) m13_3 rfl rfl (one_of HT_.out (by kernel_rfl)) (by decide) (fun K hK => ?_)
  refine goes_ Try.func60 (by kernel_rfl) rfl #[.agg #[.bool a1_0, .int .i64 a1_1, .int .i64 a1_2, .int .i64 a1_3, .int .i64 a1_4, .int .i64 a1_5]] (by rfl) rfl rfl (by (try simp only [List.map_toArray, List.map_cons, List.map_nil]); first | done | rfl | (simp only [List.length_drop, List.length_take]; rfl)) ?_
  with_reducible refine (cap_of.calls a1_0 a1_1 a1_2 a1_3 a1_4 a1_5 t177 t178 t179 t180 t181 t182 t183 t184 _ A3.out).mono ?_
  rintro e w17 ⟨rfl, hb⟩
  refine ⟨_, rfl, ?_⟩
  have n0_ := q1_ BK175 hb
  have n1_ := q1_ BK176 hb
  have n2_ := q2_ HB hb
  clear BK175
  clear BK176
  clear HB
  have BK175 := n0_
  have BK176 := n1_
  have HB := n2_
  clear n0_ n1_ n2_
  (try clear hb)
  (try clear hb2)
  (try clear hk)
  (try clear hi)
  refine hK.out _ _ ⟨q7_ BK176 0 rfl, q7_ BK176 1 rfl, q7_ BK176 2 rfl, q7_ BK176 3 rfl, q7_ BK176 4 rfl, q7_ BK176 5 rfl, q7_ BK175 0 rfl, q7_ BK175 1 rfl, q7_ BK175 2 rfl, q7_ BK175 3 rfl, q7_ BK175 4 rfl, q7_ BK175 5 rfl⟩ (fun hHeld => ?_)
  clear hK K
  refine norm_ (a' := ?_) ?_ ?_
  rotate_left
  ·show Act.put _ (some 6) _ = _
   simp only [Act.put, q4_, q5_, q6_, i64_w, i32_w]
   rfl
  refine pure_ (i := 2) (N := some 7) (v := ?_) (a' := ?_) m13_4 rfl rfl (any_of HT_.out (by kernel_rfl)) (fun _ _ _ h => h) (Or.inl ⟨by rfl, ?_⟩) ?_ ?_
  rotate_left
  ·intro w'
   go_simp
   with_reducible rfl
  rotate_left
  ·simp only [Act.put, q4_, q5_, q6_, i64_w, i32_w]
   rfl
  refine one_ (i := 4) (N := some 9) m13_5 rfl rfl (one_of HT_.out (by kernel_rfl)) (by decide) (fun K hK => ?_)
  refine goes_ Try.func60 (by kernel_rfl) rfl #[.agg #[.bool a0_0, .int .i64 a0_1, .int .i64 a0_2, .int .i64 a0_3, .int .i64 a0_4, .int .i64 a0_5]] (by rfl) rfl rfl (by (try simp only [List.map_toArray, List.map_cons, List.map_nil]); first | done | rfl | (simp only [List.length_drop, List.length_take]; rfl)) ?_
  with_reducible refine (cap_of.calls a0_0 a0_1 a0_2 a0_3 a0_4 a0_5 t185 t186 t187 t188 t189 t190 t191 t192 _ A4.out).mono ?_
  rintro e w18 ⟨rfl, hb⟩
  refine ⟨_, rfl, ?_⟩
  have n0_ := q1_ BK175 hb
  have n1_ := q1_ BK176 hb
  have n2_ := q2_ HB hb
  clear BK175
  clear BK176
  clear HB
  have BK175 := n0_
  have BK176 := n1_
  have HB := n2_
  clear n0_ n1_ n2_
  (try clear hb)
  (try clear hb2)
  (try clear hk)
  (try clear hi)
  refine hK.out _ _ ⟨q7_ BK176 0 rfl, q7_ BK176 1 rfl, q7_ BK176 2 rfl, q7_ BK176 3 rfl, q7_ BK176 4 rfl, q7_ BK176 5 rfl, q7_ BK175 0 rfl, q7_ BK175 1 rfl, q7_ BK175 2 rfl, q7_ BK175 3 rfl, q7_ BK175 4 rfl, q7_ BK175 5 rfl⟩ (fun hHeld => ?_)
  clear hK K
  refine norm_ (a' := ?_) ?_ ?_
  rotate_left
  ·show Act.put _ (some 9) _ = _
   simp only [Act.put, q4_, q5_, q6_, i64_w, i32_w]
   rfl
  refine pure_ (i := 5) (N := some 10) (v := ?_) (a' := ?_) m13_6 rfl rfl (any_of HT_.out (by kernel_rfl)) (fun _ _ _ h => h) (Or.inl ⟨by rfl, ?_⟩) ?_ ?_
  rotate_left
  ·intro w'
   go_simp
   with_reducible rfl
  rotate_left
  ·simp only [Act.put, q4_, q5_, q6_, i64_w, i32_w]
   rfl
  refine one_ (i := 6) (N := some 11) m13_7 rfl rfl (one_of HT_.out (by kernel_rfl)) (by decide) (fun K hK => ?_)
  refine goes_ Try.func61 (by kernel_rfl) rfl #[.agg #[.int .i64 t177, .int .i64 t178], .agg #[.int .i64 t185, .int .i64 t186]] (by rfl) rfl rfl (by (try simp only [List.map_toArray, List.map_cons, List.map_nil]); first | done | rfl | (simp only [List.length_drop, List.length_take]; rfl)) ?_
  with_reducible refine (cap_span_has.calls t177 t178 t185 t186 false _ A5.out).mono ?_
  rintro e w19 ⟨rfl, hb⟩
  refine ⟨_, rfl, ?_⟩
  have n0_ := q1_ BK175 hb
  have n1_ := q1_ BK176 hb
  have n2_ := q2_ HB hb
  clear BK175
  clear BK176
  clear HB
  have BK175 := n0_
  have BK176 := n1_
  have HB := n2_
  clear n0_ n1_ n2_
  (try clear hb)
  (try clear hb2)
  (try clear hk)
  (try clear hi)
  refine hK.out _ _ ⟨q7_ BK176 0 rfl, q7_ BK176 1 rfl, q7_ BK176 2 rfl, q7_ BK176 3 rfl, q7_ BK176 4 rfl, q7_ BK176 5 rfl, q7_ BK175 0 rfl, q7_ BK175 1 rfl, q7_ BK175 2 rfl, q7_ BK175 3 rfl, q7_ BK175 4 rfl, q7_ BK175 5 rfl⟩ (fun hHeld => ?_)
  clear hK K
  refine norm_ (a' := ?_) ?_ ?_
  rotate_left
  ·show Act.put _ (some 11) _ = _
   simp only [Act.put, q4_, q5_, q6_, i64_w, i32_w]
   rfl
  refine pure_ (i := 7) (N := some 12) (v := ?_) (a' := ?_) m13_8 rfl rfl (any_of HT_.out (by kernel_rfl)) (fun _ _ _ h => h) (Or.inl ⟨by rfl, ?_⟩) ?_ ?_
  rotate_left
  ·intro w'
   go_simp
   with_reducible rfl
  rotate_left
  ·simp only [Act.put, q4_, q5_, q6_, i64_w, i32_w]
   rfl
  refine pure_ (i := 8) (N := some 13) (v := undef) (a' := ?_) m13_9 rfl rfl (any_of HT_.out (by kernel_rfl)) (fun _ _ _ h => h) (Or.inr ⟨by rfl, rfl⟩) ?_ ?_
  rotate_left
  ·simp only [Act.put, q4_, q5_, q6_, i64_w, i32_w]
   rfl
  refine pure_ (i := 9) (N := some 14) (v := undef) (a' := ?_) m13_16 rfl rfl (any_of HT_.out (by kernel_rfl)) (fun _ _ _ h => h) (Or.inr ⟨by rfl, rfl⟩) ?_ ?_
  rotate_left
  ·simp only [Act.put, q4_, q5_, q6_, i64_w, i32_w]
   rfl
  refine pure_ (i := 10) (N := some 15) (v := undef) (a' := ?_) m13_11 rfl rfl (any_of HT_.out (by kernel_rfl)) (fun _ _ _ h => h) (Or.inr ⟨by rfl, rfl⟩) ?_ ?_
  rotate_left
  ·simp only [Act.put, q4_, q5_, q6_, i64_w, i32_w]
   rfl
  refine pure_ (i := 11) (N := some 16) (v := undef) (a' := ?_) m13_12 rfl rfl (any_of HT_.out (by kernel_rfl)) (fun _ _ _ h => h) (Or.inr ⟨by rfl, rfl⟩) ?_ ?_
  rotate_left
  ·simp only [Act.put, q4_, q5_, q6_, i64_w, i32_w]
   rfl
  refine pure_ (i := 12) (N := some 17) (v := undef) (a' := ?_) m13_13 rfl rfl (any_of HT_.out (by kernel_rfl)) (fun _ _ _ h => h) (Or.inr ⟨by rfl, rfl⟩) ?_ ?_
  rotate_left
  ·simp only [Act.put, q4_, q5_, q6_, i64_w, i32_w]
   rfl
  refine pure_ (i := 13) (N := some 18) (v := ?_) (a' := ?_) m13_14 rfl rfl (any_of HT_.out (by kernel_rfl)) (fun _ _ _ h => h) (Or.inl ⟨by rfl, ?_⟩) ?_ ?_
  rotate_left
  ·intro w'
   go_simp
   with_reducible rfl
  rotate_left
  ·simp only [Act.put, q4_, q5_, q6_, i64_w, i32_w]
   rfl
  refine pure_ (i := 14) (N := some 4) (v := ?_) (a' := ?_) m13_15 rfl rfl (any_of HT_.out (by kernel_rfl)) (fun _ _ _ h => h) (Or.inl ⟨by rfl, ?_⟩) ?_ ?_
  rotate_left
  ·intro w'
   go_simp
   with_reducible rfl
  rotate_left
  ·simp only [Act.put, q4_, q5_, q6_, i64_w, i32_w]
   rfl
  refine done_ (done_of HT_.out (by kernel_rfl)) ?_
  try go_wp2
  go_ret
  exact ⟨by first | rfl | (simp [errW_none, errW_some] <;> rfl) | (simp [*, errW_none, errW_some] <;> rfl), by repeat (first | (with_reducible first | exact HB.out | apply below_alloc | apply pw_below_drewN | apply below_drew1 | refine below_set ?_ GE175.out | refine below_set ?_ GE176.out) | exact HB.out)⟩

end Go.Proofs.Ytgkmacgckoifaaa.PDr
-- shorter
