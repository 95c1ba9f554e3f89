-- written by a changed copy of the kit's print program, for this claim
import Derived.Test.YtgkmacgckoifaaaPDrx0
import Derived.Test.YtgkmacgckoifaaaPDrx2
import Derived.Test.YtgkmacgckoifaaaPDrx3
import Derived.Test.YtgkmacgckoifaaaPDrx5
namespace Go.Proofs.Ytgkmacgckoifaaa.PDr
open Go.RowKit Go.Proofs.YtgkmacgckoifaaaW.PrintWords Go.Proofs.YtgkmacgckoifaaaW.PrintLast Go.Proofs.YtgkmacgckoifaaaW.PrintMore
attribute [local go_sem] max2_int min2_int max_two min_two max_three min_three max_four min_four   -- for this text's walks alone
set_option linter.unusedVariables false
set_option linter.unusedSimpArgs false

abbrev m7_0 : Array Bool := #[false, false, false, false, false, false, false, false, false, false, false]
abbrev m7_1 : Array Bool := #[true, false, false, false, false, false, false, false, false, false, false]
abbrev m7_2 : Array Bool := #[true, true, false, false, false, false, false, false, false, false, false]
abbrev m7_3 : Array Bool := #[true, true, true, false, false, false, false, false, false, false, false]
abbrev m7_4 : Array Bool := #[true, true, true, false, true, false, false, false, false, false, false]
abbrev m7_5 : Array Bool := #[true, true, true, true, true, false, false, false, false, false, false]
abbrev m7_6 : Array Bool := #[true, true, true, true, true, true, false, false, false, false, false]
abbrev m7_7 : Array Bool := #[true, true, true, true, true, true, true, false, false, false, false]
abbrev m7_8 : Array Bool := #[true, true, true, true, true, true, true, true, false, false, false]
abbrev m7_9 : Array Bool := #[true, true, true, true, true, true, true, true, true, false, false]
abbrev m7_10 : Array Bool := #[true, true, true, true, true, true, true, true, true, true, false]
abbrev m7_11 : Array Bool := #[true, true, true, true, true, true, true, true, true, true, true]
/-! ### derive_Move: function 15 -/
def derive_Move.f (a0_0 : Bool) (a0_1 : Int) (a0_2 : Int) (a0_3 : Int) (a0_4 : Int) (a0_5 : Int) (a1 : Int) : Option (Bool × Int × Int × Int × Int × Int × Int) := (derive_right.f a0_0 a0_1 a0_2 a0_3 a0_4 a0_5).bind fun ⟨s1, s2⟩ => ((derive_first.f 20 ([(⟨s1, s2⟩ : S46), (⟨!a0_0 || a0_5 == 0, 42⟩ : S46)])).bind fun e => (if e = 0 then some (a0_0, a0_1, a0_2, (Go.bits .and .i64 a1 4294967295), a0_4, a0_5, (0 : Int)) else some (false, (0 : Int), (0 : Int), (0 : Int), (0 : Int), (0 : Int), e)))
def derive_Move.T2 : Bool × List (List Nat × List Nat) := (true, [([], []), ([], []), ([], []), ([2], [2]), ([], []), ([3, 4], [3, 4]), ([0, 1, 5, 3], [0, 1, 5]), ([6], [6]), ([6], [6]), ([7, 6, 0, 1, 2, 3, 4, 5, 6, 7, 8], [7]), ([8, 9, 0, 1, 2, 3, 4, 5, 6, 7, 8, 9], [8])])
def derive_Move.B2 : List Nat := [0, 0, 0, 4, 0, 28, 63, 127, 127, 511, 1023]
theorem derive_Move.tab2 : rtab .any (opsOf Try.f15 2) = derive_Move.T2 := by kernel_rfl
theorem derive_Move.bits2 : waitsOk derive_Move.T2.2 derive_Move.B2 = true := by kernel_rfl
set_option maxHeartbeats 8000000 in
set_option maxRecDepth 100000 in
theorem derive_Move.calls_false (a0_1 : Int) (a0_2 : Int) (a0_3 : Int) (a0_4 : Int) (a0_5 : Int) (a1 : Int) (r1 : Bool) (r2 : Int) (r3 : Int) (r4 : Int) (r5 : Int) (r6 : Int) (r7 : Int) (w : World) (h : derive_Move.f false a0_1 a0_2 a0_3 a0_4 a0_5 a1 = some (r1, r2, r3, r4, r5, r6, r7)) :
  Calls Try.prog 15 #[.agg #[.bool false, .int .i64 a0_1, .int .i64 a0_2, .int .i64 a0_3, .int .i64 a0_4, .int .i64 a0_5], .int .i64 a1] w fun e w' => e = .returned (.tuple #[.agg #[.bool r1, .int .i64 r2, .int .i64 r3, .int .i64 r4, .int .i64 r5, .int .i64 r6], .int .i64 r7]) ∧ Below w.heap.size w w' := by
 have hu23 := Try.underlying23
 have hu46 := Try.underlying46
 have hmf : ∀ (fn : Fn) (first cap : Array Value) (w : World), (Instr.makeFunc fn first cap).run Try.prog w = .ok (.func fn first cap) w := fun _ _ _ _ => rfl
 have HB := Aside0.mk (Below.refl w.heap.size w)
 unfold derive_Move.f at h
 obtain ⟨⟨s1, s2⟩, h0_, h⟩ := Option.bind_eq_some_iff.mp h
 have P0 := Aside0.mk h0_
 clear h0_
 obtain ⟨e, hf_, h⟩ := Option.bind_eq_some_iff.mp h
 replace hf_ : derive_first.f 20 ([(⟨s1, s2⟩ : S46), (⟨true, 42⟩ : S46)] : List S46) = some e := hf_
 obtain ⟨y, e_y⟩ : ∃ y_ : List S46, y_ = ([(⟨s1, s2⟩ : S46), (⟨true, 42⟩ : S46)] : List S46) := ⟨_, rfl⟩
 have L_y := Aside0.mk (show y.length = 2 by rw [e_y]; rfl)
 have E_y := Aside0.mk e_y
 rw [← e_y] at hf_
 clear e_y
 have HF := Aside0.mk hf_
 have HH := Aside0.mk h
 clear hf_ h
 go_enter Try.func15, Try.ntmps15
 go_wp2_with (first | ((with_reducible refine gate_dst (N := 2) rfl ?_); refine box_event ?hg (N := 2) ?hd (cs := #[.bool false, .int .i64 a0_1, .int .i64 a0_2, .int .i64 a0_3, .int .i64 a0_4, .int .i64 a0_5]) (t := 23) ?hr ?_; (case hd => rfl); (case hg => rfl); (case hr => first | (go_simp; done) | (go_simp; rfl)); intro gb0 hg w1 hbox hb; have GX_gb0 := Aside0.mk (show w.heap.size ≤ gb0 from by rw [hg]; exact HB.out.size); have BK_gb0 := Aside0.mk hbox; have nb_ := Aside0.mk (below_step HB.out hb); clear HB; have HB := nb_; clear nb_ hg hbox hb) | ((with_reducible refine gate_dst (N := 3) rfl ?_); refine box_event ?hg (N := 3) ?hd (cs := #[.int .i64 a1]) (t := 3) ?hr ?_; (case hd => rfl); (case hg => rfl); (case hr => first | (go_simp; done) | (go_simp; rfl)); intro gb1 hg w2 hbox hb; have NX_gb0_gb1 := Aside0.mk (show gb0 ≠ gb1 from by rw [hg]; exact Nat.ne_of_lt (blk_lt BK_gb0.out)); have GX_gb1 := Aside0.mk (show w.heap.size ≤ gb1 from by rw [hg]; exact HB.out.size); have n0_ := Aside0.mk (blk_below BK_gb0.out hb); clear BK_gb0; have BK_gb0 := n0_; clear n0_; have BK_gb1 := Aside0.mk hbox; have nb_ := Aside0.mk (below_step HB.out hb); clear HB; have HB := nb_; clear nb_ hg hbox hb) | ((with_reducible refine gate_dst (N := 4) rfl ?_); refine box_event ?hg (N := 4) ?hd (cs := #[.bool false, .int .i64 0, .int .i64 0, .int .i64 0, .int .i64 0, .int .i64 0]) (t := 23) ?hr ?_; (case hd => rfl); (case hg => rfl); (case hr => first | (go_simp; done) | (go_simp; rfl)); intro gR hg w3 hbox hb; have NX_gb0_gR := Aside0.mk (show gb0 ≠ gR from by rw [hg]; exact Nat.ne_of_lt (blk_lt BK_gb0.out)); have NX_gb1_gR := Aside0.mk (show gb1 ≠ gR from by rw [hg]; exact Nat.ne_of_lt (blk_lt BK_gb1.out)); have GX_gR := Aside0.mk (show w.heap.size ≤ gR from by rw [hg]; exact HB.out.size); have n0_ := Aside0.mk (blk_below BK_gb0.out hb); clear BK_gb0; have BK_gb0 := n0_; clear n0_; have n1_ := Aside0.mk (blk_below BK_gb1.out hb); clear BK_gb1; have BK_gb1 := n1_; clear n1_; have BK_gR := Aside0.mk hbox; have nb_ := Aside0.mk (below_step HB.out hb); clear HB; have HB := nb_; clear nb_ hg hbox hb; obtain ⟨c_gb0_0, c_gb0_1, c_gb0_2, c_gb0_3, c_gb0_4, c_gb0_5⟩ := q9_ BK_gb0) | ((with_reducible refine gate_dst (N := 6) rfl ?_); refine box_event ?hg (N := 6) ?hd (cs := #[.bool false, .int .i64 0]) (t := 46) ?hr ?_; (case hd => rfl); (case hg => rfl); (case hr => first | (go_simp; done) | (go_simp; rfl)); intro gl hg w4 hbox hb; have NX_gb0_gl := Aside0.mk (show gb0 ≠ gl from by rw [hg]; exact Nat.ne_of_lt (blk_lt BK_gb0.out)); have NX_gb1_gl := Aside0.mk (show gb1 ≠ gl from by rw [hg]; exact Nat.ne_of_lt (blk_lt BK_gb1.out)); have NX_gR_gl := Aside0.mk (show gR ≠ gl from by rw [hg]; exact Nat.ne_of_lt (blk_lt BK_gR.out)); have GX_gl := Aside0.mk (show w.heap.size ≤ gl from by rw [hg]; exact HB.out.size); have n0_ := Aside0.mk (blk_below BK_gb0.out hb); clear BK_gb0; have BK_gb0 := n0_; clear n0_; have n1_ := Aside0.mk (blk_below BK_gb1.out hb); clear BK_gb1; have BK_gb1 := n1_; clear n1_; have n2_ := Aside0.mk (blk_below BK_gR.out hb); clear BK_gR; have BK_gR := n2_; clear n2_; have BK_gl := Aside0.mk hbox; have nb_ := Aside0.mk (below_step HB.out hb); clear HB; have HB := nb_; clear nb_ hg hbox hb; have fl0 := blk_frozen BK_gl.out 0; have fl1 := blk_frozen BK_gl.out 1; have c_gl_0 : w4.cell? ⟨gl, 0, none⟩ = some (.bool false) := q7_ BK_gl 0 rfl; have c_gl_1 : w4.cell? ⟨gl, 1, none⟩ = some (.int .i64 0) := q7_ BK_gl 1 rfl))
 have n0_ := Aside0.mk (blk_put (cs' := #[.bool true, .int .i64 42]) (blk_put (cs' := #[.bool true, .int .i64 0]) BK_gl.out 0 (.bool true) rfl) 1 (.int .i64 42) rfl)
 have m_ := Aside0.mk (blk_far (blk_far BK_gb0.out NX_gb0_gl.out (p := ⟨gl, 0, none⟩) (.bool true)) NX_gb0_gl.out (p := ⟨gl, 1, none⟩) (.int .i64 42))
 clear BK_gb0
 have BK_gb0 := m_
 clear m_
 have m_ := Aside0.mk (blk_far (blk_far BK_gb1.out NX_gb1_gl.out (p := ⟨gl, 0, none⟩) (.bool true)) NX_gb1_gl.out (p := ⟨gl, 1, none⟩) (.int .i64 42))
 clear BK_gb1
 have BK_gb1 := m_
 clear m_
 have m_ := Aside0.mk (blk_far (blk_far BK_gR.out NX_gR_gl.out (p := ⟨gl, 0, none⟩) (.bool true)) NX_gR_gl.out (p := ⟨gl, 1, none⟩) (.int .i64 42))
 clear BK_gR
 have BK_gR := m_
 clear m_
 have m_ := Aside0.mk (below_set (j := 1) (v := .int .i64 42) (below_set (j := 0) (v := .bool true) HB.out GX_gl.out) GX_gl.out)
 clear HB
 have HB := m_
 clear m_ BK_gl
 have BK_gl := n0_
 clear n0_ fl0 fl1 c_gl_0 c_gl_1 c_gb0_0 c_gb0_1 c_gb0_2 c_gb0_3 c_gb0_4 c_gb0_5
 have n0_ := Aside0.mk (blk_drew BK_gb0.out)
 have n1_ := Aside0.mk (blk_drew BK_gb1.out)
 have n2_ := Aside0.mk (blk_drew BK_gR.out)
 have n3_ := Aside0.mk (blk_drew BK_gl.out)
 have n4_ := Aside0.mk (below_drew1 HB.out)
 clear BK_gb0 BK_gb1 BK_gR BK_gl HB
 have BK_gb0 := n0_
 have BK_gb1 := n1_
 have BK_gR := n2_
 have BK_gl := n3_
 have HB := n4_
 clear n0_ n1_ n2_ n3_ n4_
 refine start_ (n := 11) (S := fun w' => w'.cell? ⟨gb0, 0, none⟩ = some (.bool false) ∧ w'.cell? ⟨gb0, 1, none⟩ = some (.int .i64 a0_1) ∧ w'.cell? ⟨gb0, 2, none⟩ = some (.int .i64 a0_2) ∧ w'.cell? ⟨gb0, 3, none⟩ = some (.int .i64 a0_3) ∧ w'.cell? ⟨gb0, 4, none⟩ = some (.int .i64 a0_4) ∧ w'.cell? ⟨gb0, 5, none⟩ = some (.int .i64 a0_5) ∧ w'.cell? ⟨gb1, 0, none⟩ = some (.int .i64 a1) ∧ w'.cell? ⟨gl, 0, none⟩ = some (.bool true) ∧ w'.cell? ⟨gl, 1, none⟩ = some (.int .i64 42)) (ds := []) m7_0 (by kernel_rfl) rfl rfl ⟨q7_ BK_gb0 0 rfl, q7_ BK_gb0 1 rfl, q7_ BK_gb0 2 rfl, q7_ BK_gb0 3 rfl, q7_ BK_gb0 4 rfl, q7_ BK_gb0 5 rfl, q7_ BK_gb1 0 rfl, q7_ BK_gl 0 rfl, q7_ BK_gl 1 rfl⟩ (fun hHeld => ?_); refine with_tabW derive_Move.tab2 derive_Move.bits2 (fun HT_ HW_ => ?_)
 generalize (World.setCell _ _ _).drew = w5 at BK_gb0 BK_gb1 BK_gR BK_gl HB hHeld ⊢
 refine take_ (i := 0) (N := some 16) (v := ?_) (a' := ?_) m7_1 rfl rfl (take_ofW HT_.out HW_.out (by kernel_rfl)) (fun _ _ _ h => h) (Or.inl ⟨by rfl, ?_⟩) hHeld ?_ ?_
 rotate_left
 ·rintro w' ⟨s0, s1, s2, s3, s4, s5, s6, s7, s8⟩
  go_simp
  with_reducible rfl
 rotate_left
 ·simp only [Act.put, q4_, q5_, q6_, i64_w, i32_w]
  rfl
 refine pure_ (i := 1) (N := some 17) (v := ?_) (a' := ?_) m7_2 rfl rfl (any_of HT_.out (by kernel_rfl)) (fun _ _ _ h => h) (Or.inl ⟨by rfl, ?_⟩) ?_ ?_
 rotate_left
 ·intro w'
  go_simp
  with_reducible rfl
 rotate_left
 ·simp only [Act.put, q4_, q5_, q6_, i64_w, i32_w]
  rfl
 refine take_ (i := 2) (N := some 18) (v := ?_) (a' := ?_) m7_3 rfl rfl (take_ofW HT_.out HW_.out (by kernel_rfl)) (fun _ _ _ h => h) (Or.inl ⟨by rfl, ?_⟩) hHeld ?_ ?_
 rotate_left
 ·rintro w' ⟨s0, s1, s2, s3, s4, s5, s6, s7, s8⟩
  go_simp
  with_reducible rfl
 rotate_left
 ·simp only [Act.put, q4_, q5_, q6_, i64_w, i32_w]
  rfl
 refine take_ (i := 4) (N := some 20) (v := ?_) (a' := ?_) m7_4 rfl rfl (take_ofW HT_.out HW_.out (by kernel_rfl)) (fun _ _ _ h => h) (Or.inl ⟨by rfl, ?_⟩) hHeld ?_ ?_
 rotate_left
 ·rintro w' ⟨s0, s1, s2, s3, s4, s5, s6, s7, s8⟩
  go_simp
  with_reducible rfl
 rotate_left
 ·simp only [Act.put, q4_, q5_, q6_, i64_w, i32_w]
  rfl
 refine one_ (i := 3) (N := some 19) m7_5 rfl rfl (one_of HT_.out (by kernel_rfl)) (by decide) (fun K hK => ?_)
 refine goes_ Try.func41 (by kernel_rfl) rfl #[.agg #[.bool false, .int .i64 a0_1, .int .i64 a0_2, .int .i64 a0_3, .int .i64 a0_4, .int .i64 a0_5]] (by rfl) rfl rfl (by (try simp only [List.map_toArray, List.map_cons, List.map_nil]); first | done | rfl | (simp only [List.length_drop, List.length_take]; rfl)) ?_
 with_reducible refine (derive_right.calls false a0_1 a0_2 a0_3 a0_4 a0_5 s1 s2 _ P0.out).mono ?_
 rintro e_ w6 ⟨rfl, hb⟩
 refine ⟨_, rfl, ?_⟩
 have n0_ := Aside0.mk (blk_below BK_gb0.out hb)
 have n1_ := Aside0.mk (blk_below BK_gb1.out hb)
 have n2_ := Aside0.mk (blk_below BK_gR.out hb)
 have n3_ := Aside0.mk (blk_below BK_gl.out hb)
 have n4_ := Aside0.mk (below_step HB.out hb)
 clear BK_gb0 BK_gb1 BK_gR BK_gl HB
 have BK_gb0 := n0_
 have BK_gb1 := n1_
 have BK_gR := n2_
 have BK_gl := n3_
 have HB := n4_
 clear n0_ n1_ n2_ n3_ n4_
 clear hb
 refine hK.out _ _ ⟨q7_ BK_gb0 0 rfl, q7_ BK_gb0 1 rfl, q7_ BK_gb0 2 rfl, q7_ BK_gb0 3 rfl, q7_ BK_gb0 4 rfl, q7_ BK_gb0 5 rfl, q7_ BK_gb1 0 rfl, q7_ BK_gl 0 rfl, q7_ BK_gl 1 rfl⟩ (fun hHeld => ?_)
 clear hK K
 refine norm_ (a' := ?_) ?_ ?_
 rotate_left
 ·show Act.put _ (some 19) _ = _
  simp only [Act.put, q4_, q5_, q6_, i64_w, i32_w]
  rfl
 refine one_ (i := 5) (N := some 21) m7_6 rfl rfl (one_of HT_.out (by kernel_rfl)) (by decide) (fun K hK => ?_)
 refine Kd.R_lit_step k46 _ 46 ?hg (N := 21) ?hd (xs := ([(⟨s1, s2⟩ : S46), (⟨true, 42⟩ : S46)] : List (S46))) (inner := [.bool s1, .int .i64 s2, .bool true, .int .i64 42]) (ok := fun _ => True) (okp := fun _ => True) ?hr ?hp (fun _ hk => hk) trivial (Below.refl _ _) (Nat.le_refl _) (by simp) ?_; (case hd => rfl); (case hg => rfl); (case hr => first | (go_simp; done) | (go_simp; rfl)); (case hp => exact (Reps.c2 (show Kd.M k46 _ _ _ (⟨s1, s2⟩ : S46) [.bool s1, .int .i64 s2] from (k46_mkM _ _ _ (⟨s1, s2⟩ : S46) )) (Reps.c2 (show Kd.M k46 _ _ _ (⟨true, 42⟩ : S46) [.bool true, .int .i64 42] from (k46_mkM _ _ _ (⟨true, 42⟩ : S46) )) (Reps.none _ _))))
 intro v21 w7 ho hb hg_ hnew_
 clear hg_ hnew_
 rw [← E_y.out] at ho
 have HO_v21 := Aside0.mk (Kd.R_lower ho (HB.out.size))
 have n0_ := Aside0.mk (blk_below BK_gb0.out hb)
 have n1_ := Aside0.mk (blk_below BK_gb1.out hb)
 have n2_ := Aside0.mk (blk_below BK_gR.out hb)
 have n3_ := Aside0.mk (blk_below BK_gl.out hb)
 have n4_ := Aside0.mk (below_step HB.out hb)
 clear BK_gb0 BK_gb1 BK_gR BK_gl HB
 have BK_gb0 := n0_
 have BK_gb1 := n1_
 have BK_gR := n2_
 have BK_gl := n3_
 have HB := n4_
 clear n0_ n1_ n2_ n3_ n4_
 clear ho hb
 obtain ⟨A21, k21, eo_⟩ := Kd.R_slice HO_v21.out
 subst eo_
 refine hK.out _ _ ⟨q7_ BK_gb0 0 rfl, q7_ BK_gb0 1 rfl, q7_ BK_gb0 2 rfl, q7_ BK_gb0 3 rfl, q7_ BK_gb0 4 rfl, q7_ BK_gb0 5 rfl, q7_ BK_gb1 0 rfl, q7_ BK_gl 0 rfl, q7_ BK_gl 1 rfl⟩ (fun hHeld => ?_)
 clear hK K
 refine norm_ (a' := ?_) ?_ ?_
 rotate_left
 ·show Act.put _ (some 21) _ = _
  simp only [Act.put, q4_, q5_, q6_, i64_w, i32_w]
  rfl
 refine one_ (i := 6) (N := some 22) m7_7 rfl rfl (one_of HT_.out (by kernel_rfl)) (by decide) (fun K hK => ?_)
 refine goes_ Try.func30 (by kernel_rfl) rfl #[.agg #[.bool false, .int .i64 a0_1, .int .i64 a0_2, .int .i64 a0_3, .int .i64 a0_4, .int .i64 a0_5], .func (.func 38) #[] #[.pointer (some ⟨gb1, 0, none⟩)], .slice A21 y.length k21] (by rfl) rfl rfl (by (try simp only [List.map_toArray, List.map_cons, List.map_nil]); first | done | rfl | (simp only [List.length_drop, List.length_take]; rfl)) ?_
 with_reducible refine (made_Move _ false a0_1 a0_2 a0_3 a0_4 a0_5 gb1 a1 A21 k21 y e r1 r2 r3 r4 r5 r6 r7 (Kd.R_reads' HO_v21.out).2.2 (Kd.R_reads' HO_v21.out).2.1 HF.out BK_gb1.out HH.out).mono ?_
 rintro q_ w8 ⟨rfl, hb⟩
 refine ⟨_, rfl, ?_⟩
 have n0_ := Aside0.mk (blk_below BK_gb0.out hb)
 have n1_ := Aside0.mk (blk_below BK_gb1.out hb)
 have n2_ := Aside0.mk (blk_below BK_gR.out hb)
 have n3_ := Aside0.mk (blk_below BK_gl.out hb)
 have n4_ := Aside0.mk (Kd.R_below HO_v21.out hb)
 have n5_ := Aside0.mk (below_step HB.out hb)
 clear BK_gb0 BK_gb1 BK_gR BK_gl HO_v21 HB
 have BK_gb0 := n0_
 have BK_gb1 := n1_
 have BK_gR := n2_
 have BK_gl := n3_
 have HO_v21 := n4_
 have HB := n5_
 clear n0_ n1_ n2_ n3_ n4_ n5_
 clear hb
 refine hK.out _ _ ⟨q7_ BK_gb0 0 rfl, q7_ BK_gb0 1 rfl, q7_ BK_gb0 2 rfl, q7_ BK_gb0 3 rfl, q7_ BK_gb0 4 rfl, q7_ BK_gb0 5 rfl, q7_ BK_gb1 0 rfl, q7_ BK_gl 0 rfl, q7_ BK_gl 1 rfl⟩ (fun hHeld => ?_)
 clear hK K
 refine norm_ (a' := ?_) ?_ ?_
 rotate_left
 ·show Act.put _ (some 22) _ = _
  simp only [Act.put, q4_, q5_, q6_, i64_w, i32_w]
  rfl
 refine pure_ (i := 7) (N := some 23) (v := ?_) (a' := ?_) m7_8 rfl rfl (any_of HT_.out (by kernel_rfl)) (fun _ _ _ h => h) (Or.inl ⟨by rfl, ?_⟩) ?_ ?_
 rotate_left
 ·intro w'
  go_simp
  with_reducible rfl
 rotate_left
 ·simp only [Act.put, q4_, q5_, q6_, i64_w, i32_w]
  rfl
 refine pure_ (i := 8) (N := some 24) (v := ?_) (a' := ?_) m7_9 rfl rfl (any_of HT_.out (by kernel_rfl)) (fun _ _ _ h => h) (Or.inl ⟨by rfl, ?_⟩) ?_ ?_
 rotate_left
 ·intro w'
  go_simp
  with_reducible rfl
 rotate_left
 ·simp only [Act.put, q4_, q5_, q6_, i64_w, i32_w]
  rfl
 refine one_ (i := 9) (N := none) m7_10 rfl rfl (one_of HT_.out (by kernel_rfl)) (by decide) (fun K hK => ?_)
 have f0_ := blk_frozen BK_gR.out 0
 have f1_ := blk_frozen BK_gR.out 1
 have f2_ := blk_frozen BK_gR.out 2
 have f3_ := blk_frozen BK_gR.out 3
 have f4_ := blk_frozen BK_gR.out 4
 have f5_ := blk_frozen BK_gR.out 5
 have d0_ : World.cell? _ ⟨gR, 0, none⟩ = some (.bool false) := q7_ BK_gR 0 rfl
 have d1_ : World.cell? _ ⟨gR, 1, none⟩ = some (.int .i64 0) := q7_ BK_gR 1 rfl
 have d2_ : World.cell? _ ⟨gR, 2, none⟩ = some (.int .i64 0) := q7_ BK_gR 2 rfl
 have d3_ : World.cell? _ ⟨gR, 3, none⟩ = some (.int .i64 0) := q7_ BK_gR 3 rfl
 have d4_ : World.cell? _ ⟨gR, 4, none⟩ = some (.int .i64 0) := q7_ BK_gR 4 rfl
 have d5_ : World.cell? _ ⟨gR, 5, none⟩ = some (.int .i64 0) := q7_ BK_gR 5 rfl
 refine skip_ (w1 := ?_) (by rfl) rfl ?_ ?_
 rotate_left
 ·go_simp
  rfl
 clear f0_ f1_ f2_ f3_ f4_ f5_ d0_ d1_ d2_ d3_ d4_ d5_
 have n0_ := Aside0.mk (set6_far (.bool r1) (.int .i64 r2) (.int .i64 r3) (.int .i64 r4) (.int .i64 r5) (.int .i64 r6) NX_gb0_gR.out BK_gb0.out)
 have n1_ := Aside0.mk (set6_far (.bool r1) (.int .i64 r2) (.int .i64 r3) (.int .i64 r4) (.int .i64 r5) (.int .i64 r6) NX_gb1_gR.out BK_gb1.out)
 have n2_ := Aside0.mk (set6_blk (.bool r1) (.int .i64 r2) (.int .i64 r3) (.int .i64 r4) (.int .i64 r5) (.int .i64 r6) BK_gR.out)
 have n3_ := Aside0.mk (set6_far (.bool r1) (.int .i64 r2) (.int .i64 r3) (.int .i64 r4) (.int .i64 r5) (.int .i64 r6) (Ne.symm NX_gR_gl.out) BK_gl.out)
 have n4_ := Aside0.mk (set6_below (.bool r1) (.int .i64 r2) (.int .i64 r3) (.int .i64 r4) (.int .i64 r5) (.int .i64 r6) HB.out GX_gR.out)
 clear BK_gb0 BK_gb1 BK_gR BK_gl HB HO_v21
 have BK_gb0 := n0_
 have BK_gb1 := n1_
 have BK_gR := n2_
 have BK_gl := n3_
 have HB := n4_
 clear n0_ n1_ n2_ n3_ n4_
 refine hK.out _ _ ⟨q7_ BK_gb0 0 rfl, q7_ BK_gb0 1 rfl, q7_ BK_gb0 2 rfl, q7_ BK_gb0 3 rfl, q7_ BK_gb0 4 rfl, q7_ BK_gb0 5 rfl, q7_ BK_gb1 0 rfl, q7_ BK_gl 0 rfl, q7_ BK_gl 1 rfl⟩ (fun hHeld => ?_)
 clear hK K
 refine pure_ (i := 10) (N := some 5) (v := ?_) (a' := ?_) m7_11 rfl rfl (any_of HT_.out (by kernel_rfl)) (fun _ _ _ h => h) (Or.inl ⟨by rfl, ?_⟩) ?_ ?_
 rotate_left
 ·intro w'
  go_simp
  with_reducible rfl
 rotate_left
 ·simp only [Act.put, q4_, q5_, q6_, i64_w, i32_w]
  rfl
 refine done_ (done_of HT_.out (by kernel_rfl)) ?_
 try go_wp2
 refine bodyPost_ret (results_ct rfl _ _ gR 23 #[.bool r1, .int .i64 r2, .int .i64 r3, .int .i64 r4, .int .i64 r5, .int .i64 r6] (0, 0) _ rfl BK_gR.out Try.underlying23 rfl (by kernel_rfl)) rfl ?_
 exact ⟨rfl, HB.out⟩
set_option maxHeartbeats 8000000 in
set_option maxRecDepth 100000 in
theorem derive_Move.calls_true (a0_1 : Int) (a0_2 : Int) (a0_3 : Int) (a0_4 : Int) (a0_5 : Int) (a1 : Int) (r1 : Bool) (r2 : Int) (r3 : Int) (r4 : Int) (r5 : Int) (r6 : Int) (r7 : Int) (w : World) (h : derive_Move.f true a0_1 a0_2 a0_3 a0_4 a0_5 a1 = some (r1, r2, r3, r4, r5, r6, r7)) :
  Calls Try.prog 15 #[.agg #[.bool true, .int .i64 a0_1, .int .i64 a0_2, .int .i64 a0_3, .int .i64 a0_4, .int .i64 a0_5], .int .i64 a1] w fun e w' => e = .returned (.tuple #[.agg #[.bool r1, .int .i64 r2, .int .i64 r3, .int .i64 r4, .int .i64 r5, .int .i64 r6], .int .i64 r7]) ∧ Below w.heap.size w w' := by
 have hu23 := Try.underlying23
 have hu46 := Try.underlying46
 have hmf : ∀ (fn : Fn) (first cap : Array Value) (w : World), (Instr.makeFunc fn first cap).run Try.prog w = .ok (.func fn first cap) w := fun _ _ _ _ => rfl
 have HB := Aside0.mk (Below.refl w.heap.size w)
 unfold derive_Move.f at h
 obtain ⟨⟨s1, s2⟩, h0_, h⟩ := Option.bind_eq_some_iff.mp h
 have P0 := Aside0.mk h0_
 clear h0_
 obtain ⟨e, hf_, h⟩ := Option.bind_eq_some_iff.mp h
 replace hf_ : derive_first.f 20 ([(⟨s1, s2⟩ : S46), (⟨(a0_5 == 0), 42⟩ : S46)] : List S46) = some e := hf_
 obtain ⟨y, e_y⟩ : ∃ y_ : List S46, y_ = ([(⟨s1, s2⟩ : S46), (⟨(a0_5 == 0), 42⟩ : S46)] : List S46) := ⟨_, rfl⟩
 have L_y := Aside0.mk (show y.length = 2 by rw [e_y]; rfl)
 have E_y := Aside0.mk e_y
 rw [← e_y] at hf_
 clear e_y
 have HF := Aside0.mk hf_
 have HH := Aside0.mk h
 clear hf_ h
 go_enter Try.func15, Try.ntmps15
 go_wp2_with (first | ((with_reducible refine gate_dst (N := 2) rfl ?_); refine box_event ?hg (N := 2) ?hd (cs := #[.bool true, .int .i64 a0_1, .int .i64 a0_2, .int .i64 a0_3, .int .i64 a0_4, .int .i64 a0_5]) (t := 23) ?hr ?_; (case hd => rfl); (case hg => rfl); (case hr => first | (go_simp; done) | (go_simp; rfl)); intro gb0 hg w1 hbox hb; have GX_gb0 := Aside0.mk (show w.heap.size ≤ gb0 from by rw [hg]; exact HB.out.size); have BK_gb0 := Aside0.mk hbox; have nb_ := Aside0.mk (below_step HB.out hb); clear HB; have HB := nb_; clear nb_ hg hbox hb) | ((with_reducible refine gate_dst (N := 3) rfl ?_); refine box_event ?hg (N := 3) ?hd (cs := #[.int .i64 a1]) (t := 3) ?hr ?_; (case hd => rfl); (case hg => rfl); (case hr => first | (go_simp; done) | (go_simp; rfl)); intro gb1 hg w2 hbox hb; have NX_gb0_gb1 := Aside0.mk (show gb0 ≠ gb1 from by rw [hg]; exact Nat.ne_of_lt (blk_lt BK_gb0.out)); have GX_gb1 := Aside0.mk (show w.heap.size ≤ gb1 from by rw [hg]; exact HB.out.size); have n0_ := Aside0.mk (blk_below BK_gb0.out hb); clear BK_gb0; have BK_gb0 := n0_; clear n0_; have BK_gb1 := Aside0.mk hbox; have nb_ := Aside0.mk (below_step HB.out hb); clear HB; have HB := nb_; clear nb_ hg hbox hb) | ((with_reducible refine gate_dst (N := 4) rfl ?_); refine box_event ?hg (N := 4) ?hd (cs := #[.bool false, .int .i64 0, .int .i64 0, .int .i64 0, .int .i64 0, .int .i64 0]) (t := 23) ?hr ?_; (case hd => rfl); (case hg => rfl); (case hr => first | (go_simp; done) | (go_simp; rfl)); intro gR hg w3 hbox hb; have NX_gb0_gR := Aside0.mk (show gb0 ≠ gR from by rw [hg]; exact Nat.ne_of_lt (blk_lt BK_gb0.out)); have NX_gb1_gR := Aside0.mk (show gb1 ≠ gR from by rw [hg]; exact Nat.ne_of_lt (blk_lt BK_gb1.out)); have GX_gR := Aside0.mk (show w.heap.size ≤ gR from by rw [hg]; exact HB.out.size); have n0_ := Aside0.mk (blk_below BK_gb0.out hb); clear BK_gb0; have BK_gb0 := n0_; clear n0_; have n1_ := Aside0.mk (blk_below BK_gb1.out hb); clear BK_gb1; have BK_gb1 := n1_; clear n1_; have BK_gR := Aside0.mk hbox; have nb_ := Aside0.mk (below_step HB.out hb); clear HB; have HB := nb_; clear nb_ hg hbox hb; obtain ⟨c_gb0_0, c_gb0_1, c_gb0_2, c_gb0_3, c_gb0_4, c_gb0_5⟩ := q9_ BK_gb0) | ((with_reducible refine gate_dst (N := 6) rfl ?_); refine box_event ?hg (N := 6) ?hd (cs := #[.bool false, .int .i64 0]) (t := 46) ?hr ?_; (case hd => rfl); (case hg => rfl); (case hr => first | (go_simp; done) | (go_simp; rfl)); intro gl hg w4 hbox hb; have NX_gb0_gl := Aside0.mk (show gb0 ≠ gl from by rw [hg]; exact Nat.ne_of_lt (blk_lt BK_gb0.out)); have NX_gb1_gl := Aside0.mk (show gb1 ≠ gl from by rw [hg]; exact Nat.ne_of_lt (blk_lt BK_gb1.out)); have NX_gR_gl := Aside0.mk (show gR ≠ gl from by rw [hg]; exact Nat.ne_of_lt (blk_lt BK_gR.out)); have GX_gl := Aside0.mk (show w.heap.size ≤ gl from by rw [hg]; exact HB.out.size); have n0_ := Aside0.mk (blk_below BK_gb0.out hb); clear BK_gb0; have BK_gb0 := n0_; clear n0_; have n1_ := Aside0.mk (blk_below BK_gb1.out hb); clear BK_gb1; have BK_gb1 := n1_; clear n1_; have n2_ := Aside0.mk (blk_below BK_gR.out hb); clear BK_gR; have BK_gR := n2_; clear n2_; have BK_gl := Aside0.mk hbox; have nb_ := Aside0.mk (below_step HB.out hb); clear HB; have HB := nb_; clear nb_ hg hbox hb; have fl0 := blk_frozen BK_gl.out 0; have fl1 := blk_frozen BK_gl.out 1; have c_gl_0 : w4.cell? ⟨gl, 0, none⟩ = some (.bool false) := q7_ BK_gl 0 rfl; have c_gl_1 : w4.cell? ⟨gl, 1, none⟩ = some (.int .i64 0) := q7_ BK_gl 1 rfl))
 have n0_ := Aside0.mk (blk_put (cs' := #[.bool (a0_5 == 0), .int .i64 42]) (blk_put (cs' := #[.bool (a0_5 == 0), .int .i64 0]) BK_gl.out 0 (.bool (a0_5 == 0)) rfl) 1 (.int .i64 42) rfl)
 have m_ := Aside0.mk (blk_far (blk_far BK_gb0.out NX_gb0_gl.out (p := ⟨gl, 0, none⟩) (.bool (a0_5 == 0))) NX_gb0_gl.out (p := ⟨gl, 1, none⟩) (.int .i64 42))
 clear BK_gb0
 have BK_gb0 := m_
 clear m_
 have m_ := Aside0.mk (blk_far (blk_far BK_gb1.out NX_gb1_gl.out (p := ⟨gl, 0, none⟩) (.bool (a0_5 == 0))) NX_gb1_gl.out (p := ⟨gl, 1, none⟩) (.int .i64 42))
 clear BK_gb1
 have BK_gb1 := m_
 clear m_
 have m_ := Aside0.mk (blk_far (blk_far BK_gR.out NX_gR_gl.out (p := ⟨gl, 0, none⟩) (.bool (a0_5 == 0))) NX_gR_gl.out (p := ⟨gl, 1, none⟩) (.int .i64 42))
 clear BK_gR
 have BK_gR := m_
 clear m_
 have m_ := Aside0.mk (below_set (j := 1) (v := .int .i64 42) (below_set (j := 0) (v := .bool (a0_5 == 0)) HB.out GX_gl.out) GX_gl.out)
 clear HB
 have HB := m_
 clear m_ BK_gl
 have BK_gl := n0_
 clear n0_ fl0 fl1 c_gl_0 c_gl_1 c_gb0_0 c_gb0_1 c_gb0_2 c_gb0_3 c_gb0_4 c_gb0_5
 have n0_ := Aside0.mk (blk_drew BK_gb0.out)
 have n1_ := Aside0.mk (blk_drew BK_gb1.out)
 have n2_ := Aside0.mk (blk_drew BK_gR.out)
 have n3_ := Aside0.mk (blk_drew BK_gl.out)
 have n4_ := Aside0.mk (below_drew1 HB.out)
 clear BK_gb0 BK_gb1 BK_gR BK_gl HB
 have BK_gb0 := n0_
 have BK_gb1 := n1_
 have BK_gR := n2_
 have BK_gl := n3_
 have HB := n4_
 clear n0_ n1_ n2_ n3_ n4_
 refine start_ (n := 11) (S := fun w' => w'.cell? ⟨gb0, 0, none⟩ = some (.bool true) ∧ w'.cell? ⟨gb0, 1, none⟩ = some (.int .i64 a0_1) ∧ w'.cell? ⟨gb0, 2, none⟩ = some (.int .i64 a0_2) ∧ w'.cell? ⟨gb0, 3, none⟩ = some (.int .i64 a0_3) ∧ w'.cell? ⟨gb0, 4, none⟩ = some (.int .i64 a0_4) ∧ w'.cell? ⟨gb0, 5, none⟩ = some (.int .i64 a0_5) ∧ w'.cell? ⟨gb1, 0, none⟩ = some (.int .i64 a1) ∧ w'.cell? ⟨gl, 0, none⟩ = some (.bool (a0_5 == 0)) ∧ w'.cell? ⟨gl, 1, none⟩ = some (.int .i64 42)) (ds := []) m7_0 (by kernel_rfl) rfl rfl ⟨q7_ BK_gb0 0 rfl, q7_ BK_gb0 1 rfl, q7_ BK_gb0 2 rfl, q7_ BK_gb0 3 rfl, q7_ BK_gb0 4 rfl, q7_ BK_gb0 5 rfl, q7_ BK_gb1 0 rfl, q7_ BK_gl 0 rfl, q7_ BK_gl 1 rfl⟩ (fun hHeld => ?_); refine with_tabW derive_Move.tab2 derive_Move.bits2 (fun HT_ HW_ => ?_)
 generalize (World.setCell _ _ _).drew = w5 at BK_gb0 BK_gb1 BK_gR BK_gl HB hHeld ⊢
 refine take_ (i := 0) (N := some 16) (v := ?_) (a' := ?_) m7_1 rfl rfl (take_ofW HT_.out HW_.out (by kernel_rfl)) (fun _ _ _ h => h) (Or.inl ⟨by rfl, ?_⟩) hHeld ?_ ?_
 rotate_left
 ·rintro w' ⟨s0, s1, s2, s3, s4, s5, s6, s7, s8⟩
  go_simp
  with_reducible rfl
 rotate_left
 ·simp only [Act.put, q4_, q5_, q6_, i64_w, i32_w]
  rfl
 refine pure_ (i := 1) (N := some 17) (v := ?_) (a' := ?_) m7_2 rfl rfl (any_of HT_.out (by kernel_rfl)) (fun _ _ _ h => h) (Or.inl ⟨by rfl, ?_⟩) ?_ ?_
 rotate_left
 ·intro w'
  go_simp
  with_reducible rfl
 rotate_left
 ·simp only [Act.put, q4_, q5_, q6_, i64_w, i32_w]
  rfl
 refine take_ (i := 2) (N := some 18) (v := ?_) (a' := ?_) m7_3 rfl rfl (take_ofW HT_.out HW_.out (by kernel_rfl)) (fun _ _ _ h => h) (Or.inl ⟨by rfl, ?_⟩) hHeld ?_ ?_
 rotate_left
 ·rintro w' ⟨s0, s1, s2, s3, s4, s5, s6, s7, s8⟩
  go_simp
  with_reducible rfl
 rotate_left
 ·simp only [Act.put, q4_, q5_, q6_, i64_w, i32_w]
  rfl
 refine take_ (i := 4) (N := some 20) (v := ?_) (a' := ?_) m7_4 rfl rfl (take_ofW HT_.out HW_.out (by kernel_rfl)) (fun _ _ _ h => h) (Or.inl ⟨by rfl, ?_⟩) hHeld ?_ ?_
 rotate_left
 ·rintro w' ⟨s0, s1, s2, s3, s4, s5, s6, s7, s8⟩
  go_simp
  with_reducible rfl
 rotate_left
 ·simp only [Act.put, q4_, q5_, q6_, i64_w, i32_w]
  rfl
 refine one_ (i := 3) (N := some 19) m7_5 rfl rfl (one_of HT_.out (by kernel_rfl)) (by decide) (fun K hK => ?_)
 refine goes_ Try.func41 (by kernel_rfl) rfl #[.agg #[.bool true, .int .i64 a0_1, .int .i64 a0_2, .int .i64 a0_3, .int .i64 a0_4, .int .i64 a0_5]] (by rfl) rfl rfl (by (try simp only [List.map_toArray, List.map_cons, List.map_nil]); first | done | rfl | (simp only [List.length_drop, List.length_take]; rfl)) ?_
 with_reducible refine (derive_right.calls true a0_1 a0_2 a0_3 a0_4 a0_5 s1 s2 _ P0.out).mono ?_
 rintro e_ w6 ⟨rfl, hb⟩
 refine ⟨_, rfl, ?_⟩
 have n0_ := Aside0.mk (blk_below BK_gb0.out hb)
 have n1_ := Aside0.mk (blk_below BK_gb1.out hb)
 have n2_ := Aside0.mk (blk_below BK_gR.out hb)
 have n3_ := Aside0.mk (blk_below BK_gl.out hb)
 have n4_ := Aside0.mk (below_step HB.out hb)
 clear BK_gb0 BK_gb1 BK_gR BK_gl HB
 have BK_gb0 := n0_
 have BK_gb1 := n1_
 have BK_gR := n2_
 have BK_gl := n3_
 have HB := n4_
 clear n0_ n1_ n2_ n3_ n4_
 clear hb
 refine hK.out _ _ ⟨q7_ BK_gb0 0 rfl, q7_ BK_gb0 1 rfl, q7_ BK_gb0 2 rfl, q7_ BK_gb0 3 rfl, q7_ BK_gb0 4 rfl, q7_ BK_gb0 5 rfl, q7_ BK_gb1 0 rfl, q7_ BK_gl 0 rfl, q7_ BK_gl 1 rfl⟩ (fun hHeld => ?_)
 clear hK K
 refine norm_ (a' := ?_) ?_ ?_
 rotate_left
 ·show Act.put _ (some 19) _ = _
  simp only [Act.put, q4_, q5_, q6_, i64_w, i32_w]
  rfl
 refine one_ (i := 5) (N := some 21) m7_6 rfl rfl (one_of HT_.out (by kernel_rfl)) (by decide) (fun K hK => ?_)
 refine Kd.R_lit_step k46 _ 46 ?hg (N := 21) ?hd (xs := ([(⟨s1, s2⟩ : S46), (⟨(a0_5 == 0), 42⟩ : S46)] : List (S46))) (inner := [.bool s1, .int .i64 s2, .bool (a0_5 == 0), .int .i64 42]) (ok := fun _ => True) (okp := fun _ => True) ?hr ?hp (fun _ hk => hk) trivial (Below.refl _ _) (Nat.le_refl _) (by simp) ?_; (case hd => rfl); (case hg => rfl); (case hr => first | (go_simp; done) | (go_simp; rfl)); (case hp => exact (Reps.c2 (show Kd.M k46 _ _ _ (⟨s1, s2⟩ : S46) [.bool s1, .int .i64 s2] from (k46_mkM _ _ _ (⟨s1, s2⟩ : S46) )) (Reps.c2 (show Kd.M k46 _ _ _ (⟨(a0_5 == 0), 42⟩ : S46) [.bool (a0_5 == 0), .int .i64 42] from (k46_mkM _ _ _ (⟨(a0_5 == 0), 42⟩ : S46) )) (Reps.none _ _))))
 intro v21 w7 ho hb hg_ hnew_
 clear hg_ hnew_
 rw [← E_y.out] at ho
 have HO_v21 := Aside0.mk (Kd.R_lower ho (HB.out.size))
 have n0_ := Aside0.mk (blk_below BK_gb0.out hb)
 have n1_ := Aside0.mk (blk_below BK_gb1.out hb)
 have n2_ := Aside0.mk (blk_below BK_gR.out hb)
 have n3_ := Aside0.mk (blk_below BK_gl.out hb)
 have n4_ := Aside0.mk (below_step HB.out hb)
 clear BK_gb0 BK_gb1 BK_gR BK_gl HB
 have BK_gb0 := n0_
 have BK_gb1 := n1_
 have BK_gR := n2_
 have BK_gl := n3_
 have HB := n4_
 clear n0_ n1_ n2_ n3_ n4_
 clear ho hb
 obtain ⟨A21, k21, eo_⟩ := Kd.R_slice HO_v21.out
 subst eo_
 refine hK.out _ _ ⟨q7_ BK_gb0 0 rfl, q7_ BK_gb0 1 rfl, q7_ BK_gb0 2 rfl, q7_ BK_gb0 3 rfl, q7_ BK_gb0 4 rfl, q7_ BK_gb0 5 rfl, q7_ BK_gb1 0 rfl, q7_ BK_gl 0 rfl, q7_ BK_gl 1 rfl⟩ (fun hHeld => ?_)
 clear hK K
 refine norm_ (a' := ?_) ?_ ?_
 rotate_left
 ·show Act.put _ (some 21) _ = _
  simp only [Act.put, q4_, q5_, q6_, i64_w, i32_w]
  rfl
 refine one_ (i := 6) (N := some 22) m7_7 rfl rfl (one_of HT_.out (by kernel_rfl)) (by decide) (fun K hK => ?_)
 refine goes_ Try.func30 (by kernel_rfl) rfl #[.agg #[.bool true, .int .i64 a0_1, .int .i64 a0_2, .int .i64 a0_3, .int .i64 a0_4, .int .i64 a0_5], .func (.func 38) #[] #[.pointer (some ⟨gb1, 0, none⟩)], .slice A21 y.length k21] (by rfl) rfl rfl (by (try simp only [List.map_toArray, List.map_cons, List.map_nil]); first | done | rfl | (simp only [List.length_drop, List.length_take]; rfl)) ?_
 with_reducible refine (made_Move _ true a0_1 a0_2 a0_3 a0_4 a0_5 gb1 a1 A21 k21 y e r1 r2 r3 r4 r5 r6 r7 (Kd.R_reads' HO_v21.out).2.2 (Kd.R_reads' HO_v21.out).2.1 HF.out BK_gb1.out HH.out).mono ?_
 rintro q_ w8 ⟨rfl, hb⟩
 refine ⟨_, rfl, ?_⟩
 have n0_ := Aside0.mk (blk_below BK_gb0.out hb)
 have n1_ := Aside0.mk (blk_below BK_gb1.out hb)
 have n2_ := Aside0.mk (blk_below BK_gR.out hb)
 have n3_ := Aside0.mk (blk_below BK_gl.out hb)
 have n4_ := Aside0.mk (Kd.R_below HO_v21.out hb)
 have n5_ := Aside0.mk (below_step HB.out hb)
 clear BK_gb0 BK_gb1 BK_gR BK_gl HO_v21 HB
 have BK_gb0 := n0_
 have BK_gb1 := n1_
 have BK_gR := n2_
 have BK_gl := n3_
 have HO_v21 := n4_
 have HB := n5_
 clear n0_ n1_ n2_ n3_ n4_ n5_
 clear hb
 refine hK.out _ _ ⟨q7_ BK_gb0 0 rfl, q7_ BK_gb0 1 rfl, q7_ BK_gb0 2 rfl, q7_ BK_gb0 3 rfl, q7_ BK_gb0 4 rfl, q7_ BK_gb0 5 rfl, q7_ BK_gb1 0 rfl, q7_ BK_gl 0 rfl, q7_ BK_gl 1 rfl⟩ (fun hHeld => ?_)
 clear hK K
 refine norm_ (a' := ?_) ?_ ?_
 rotate_left
 ·show Act.put _ (some 22) _ = _
  simp only [Act.put, q4_, q5_, q6_, i64_w, i32_w]
  rfl
 refine pure_ (i := 7) (N := some 23) (v := ?_) (a' := ?_) m7_8 rfl rfl (any_of HT_.out (by kernel_rfl)) (fun _ _ _ h => h) (Or.inl ⟨by rfl, ?_⟩) ?_ ?_
 rotate_left
 ·intro w'
  go_simp
  with_reducible rfl
 rotate_left
 ·simp only [Act.put, q4_, q5_, q6_, i64_w, i32_w]
  rfl
 refine pure_ (i := 8) (N := some 24) (v := ?_) (a' := ?_) m7_9 rfl rfl (any_of HT_.out (by kernel_rfl)) (fun _ _ _ h => h) (Or.inl ⟨by rfl, ?_⟩) ?_ ?_
 rotate_left
 ·intro w'
  go_simp
  with_reducible rfl
 rotate_left
 ·simp only [Act.put, q4_, q5_, q6_, i64_w, i32_w]
  rfl
 refine one_ (i := 9) (N := none) m7_10 rfl rfl (one_of HT_.out (by kernel_rfl)) (by decide) (fun K hK => ?_)
 have f0_ := blk_frozen BK_gR.out 0
 have f1_ := blk_frozen BK_gR.out 1
 have f2_ := blk_frozen BK_gR.out 2
 have f3_ := blk_frozen BK_gR.out 3
 have f4_ := blk_frozen BK_gR.out 4
 have f5_ := blk_frozen BK_gR.out 5
 have d0_ : World.cell? _ ⟨gR, 0, none⟩ = some (.bool false) := q7_ BK_gR 0 rfl
 have d1_ : World.cell? _ ⟨gR, 1, none⟩ = some (.int .i64 0) := q7_ BK_gR 1 rfl
 have d2_ : World.cell? _ ⟨gR, 2, none⟩ = some (.int .i64 0) := q7_ BK_gR 2 rfl
 have d3_ : World.cell? _ ⟨gR, 3, none⟩ = some (.int .i64 0) := q7_ BK_gR 3 rfl
 have d4_ : World.cell? _ ⟨gR, 4, none⟩ = some (.int .i64 0) := q7_ BK_gR 4 rfl
 have d5_ : World.cell? _ ⟨gR, 5, none⟩ = some (.int .i64 0) := q7_ BK_gR 5 rfl
 refine skip_ (w1 := ?_) (by rfl) rfl ?_ ?_
 rotate_left
 ·go_simp
  rfl
 clear f0_ f1_ f2_ f3_ f4_ f5_ d0_ d1_ d2_ d3_ d4_ d5_
 have n0_ := Aside0.mk (set6_far (.bool r1) (.int .i64 r2) (.int .i64 r3) (.int .i64 r4) (.int .i64 r5) (.int .i64 r6) NX_gb0_gR.out BK_gb0.out)
 have n1_ := Aside0.mk (set6_far (.bool r1) (.int .i64 r2) (.int .i64 r3) (.int .i64 r4) (.int .i64 r5) (.int .i64 r6) NX_gb1_gR.out BK_gb1.out)
 have n2_ := Aside0.mk (set6_blk (.bool r1) (.int .i64 r2) (.int .i64 r3) (.int .i64 r4) (.int .i64 r5) (.int .i64 r6) BK_gR.out)
 have n3_ := Aside0.mk (set6_far (.bool r1) (.int .i64 r2) (.int .i64 r3) (.int .i64 r4) (.int .i64 r5) (.int .i64 r6) (Ne.symm NX_gR_gl.out) BK_gl.out)
 have n4_ := Aside0.mk (set6_below (.bool r1) (.int .i64 r2) (.int .i64 r3) (.int .i64 r4) (.int .i64 r5) (.int .i64 r6) HB.out GX_gR.out)
 clear BK_gb0 BK_gb1 BK_gR BK_gl HB HO_v21
 have BK_gb0 := n0_
 have BK_gb1 := n1_
 have BK_gR := n2_
 have BK_gl := n3_
 have HB := n4_
 clear n0_ n1_ n2_ n3_ n4_
 refine hK.out _ _ ⟨q7_ BK_gb0 0 rfl, q7_ BK_gb0 1 rfl, q7_ BK_gb0 2 rfl, q7_ BK_gb0 3 rfl, q7_ BK_gb0 4 rfl, q7_ BK_gb0 5 rfl, q7_ BK_gb1 0 rfl, q7_ BK_gl 0 rfl, q7_ BK_gl 1 rfl⟩ (fun hHeld => ?_)
 clear hK K
 refine pure_ (i := 10) (N := some 5) (v := ?_) (a' := ?_) m7_11 rfl rfl (any_of HT_.out (by kernel_rfl)) (fun _ _ _ h => h) (Or.inl ⟨by rfl, ?_⟩) ?_ ?_
 rotate_left
 ·intro w'
  go_simp
  with_reducible rfl
 rotate_left
 ·simp only [Act.put, q4_, q5_, q6_, i64_w, i32_w]
  rfl
 refine done_ (done_of HT_.out (by kernel_rfl)) ?_
 try go_wp2
 refine bodyPost_ret (results_ct rfl _ _ gR 23 #[.bool r1, .int .i64 r2, .int .i64 r3, .int .i64 r4, .int .i64 r5, .int .i64 r6] (0, 0) _ rfl BK_gR.out Try.underlying23 rfl (by kernel_rfl)) rfl ?_
 exact ⟨rfl, HB.out⟩
theorem derive_Move.calls (a0_0 : Bool) (a0_1 : Int) (a0_2 : Int) (a0_3 : Int) (a0_4 : Int) (a0_5 : Int) (a1 : Int) (r1 : Bool) (r2 : Int) (r3 : Int) (r4 : Int) (r5 : Int) (r6 : Int) (r7 : Int) (w : World) (h : derive_Move.f a0_0 a0_1 a0_2 a0_3 a0_4 a0_5 a1 = some (r1, r2, r3, r4, r5, r6, r7)) :
  Calls Try.prog 15 #[.agg #[.bool a0_0, .int .i64 a0_1, .int .i64 a0_2, .int .i64 a0_3, .int .i64 a0_4, .int .i64 a0_5], .int .i64 a1] w fun e w' => e = .returned (.tuple #[.agg #[.bool r1, .int .i64 r2, .int .i64 r3, .int .i64 r4, .int .i64 r5, .int .i64 r6], .int .i64 r7]) ∧ Below w.heap.size w w' := by
 cases a0_0
 ·exact derive_Move.calls_false _ _ _ _ _ _ _ _ _ _ _ _ _ _ h
 ·exact derive_Move.calls_true _ _ _ _ _ _ _ _ _ _ _ _ _ _ h

end Go.Proofs.Ytgkmacgckoifaaa.PDr
-- shorter
