-- written by a changed copy of the kit's print program, for this claim
import Derived.Test.YtgkmacgckoifaaaPDrx0
import Derived.Test.YtgkmacgckoifaaaPDrx2
import Derived.Test.YtgkmacgckoifaaaPDrx3
import Derived.Test.YtgkmacgckoifaaaPDrx5
import Derived.Test.YtgkmacgckoifaaaPDrx8
import Derived.Test.YtgkmacgckoifaaaPDrx13
namespace Go.Proofs.Ytgkmacgckoifaaa.PDr
open Go.RowKit Go.Proofs.YtgkmacgckoifaaaW.PrintWords Go.Proofs.YtgkmacgckoifaaaW.PrintLast Go.Proofs.YtgkmacgckoifaaaW.PrintMore
attribute [local go_sem] max2_int min2_int max_two min_two max_three min_three max_four min_four   -- for this text's walks alone
set_option linter.unusedVariables false
set_option linter.unusedSimpArgs false

abbrev m14_0 : Array Bool := #[false, false, false, false, false, false, false]
abbrev m14_1 : Array Bool := #[true, false, false, false, false, false, false]
abbrev m14_2 : Array Bool := #[true, false, false, true, false, false, false]
abbrev m14_3 : Array Bool := #[true, true, false, true, false, false, false]
abbrev m14_4 : Array Bool := #[true, true, true, true, false, false, false]
abbrev m14_5 : Array Bool := #[true, true, false, true, true, false, false]
abbrev m14_6 : Array Bool := #[true, true, true, true, true, false, false]
abbrev m14_7 : Array Bool := #[true, true, true, true, true, true, false]
abbrev m14_8 : Array Bool := #[true, true, true, true, true, true, true]
abbrev m14_9 : Array Bool := #[false, false, false, false, false, false, false, false, false, false, false, false, false, false, false, false, false, false, false]
abbrev m14_10 : Array Bool := #[true, false, false, false, false, false, false, false, false, false, false, false, false, false, false, false, false, false, false]
abbrev m14_11 : Array Bool := #[true, true, false, false, false, false, false, false, false, false, false, false, false, false, false, false, false, false, false]
abbrev m14_12 : Array Bool := #[true, true, true, false, false, false, false, false, false, false, false, false, false, false, false, false, false, false, false]
abbrev m14_13 : Array Bool := #[true, true, true, false, true, false, false, false, false, false, false, false, false, false, false, false, false, false, false]
abbrev m14_14 : Array Bool := #[true, true, true, false, true, true, false, false, false, false, false, false, false, false, false, false, false, false, false]
abbrev m14_15 : Array Bool := #[true, true, true, false, true, true, true, false, false, false, false, false, false, false, false, false, false, false, false]
abbrev m14_16 : Array Bool := #[true, true, true, false, true, true, true, false, true, false, false, false, false, false, false, false, false, false, false]
abbrev m14_17 : Array Bool := #[true, true, true, false, true, true, true, false, true, true, false, false, false, false, false, false, false, false, false]
abbrev m14_18 : Array Bool := #[true, true, true, true, true, true, true, false, true, true, false, false, false, false, false, false, false, false, false]
abbrev m14_19 : Array Bool := #[true, true, true, true, true, true, true, true, true, true, false, false, false, false, false, false, false, false, false]
abbrev m14_20 : Array Bool := #[true, true, true, true, true, true, true, true, true, true, true, false, false, false, false, false, false, false, false]
abbrev m14_21 : Array Bool := #[true, true, true, true, true, true, true, true, true, true, true, true, false, false, false, false, false, false, false]
abbrev m14_22 : Array Bool := #[true, true, true, true, true, true, true, true, true, true, true, true, true, false, false, false, false, false, false]
abbrev m14_23 : Array Bool := #[true, true, true, true, true, true, true, true, true, true, true, true, true, true, false, false, false, false, false]
abbrev m14_24 : Array Bool := #[true, true, true, true, true, true, true, true, true, true, true, true, true, true, true, false, false, false, false]
abbrev m14_25 : Array Bool := #[true, true, true, true, true, true, true, true, true, true, true, true, true, true, true, true, false, false, false]
abbrev m14_26 : Array Bool := #[true, true, true, true, true, true, true, true, true, true, true, true, true, true, true, true, true, false, false]
abbrev m14_27 : Array Bool := #[true, true, true, true, true, true, true, true, true, true, true, true, true, true, true, true, true, true, false]
abbrev m14_28 : Array Bool := #[true, true, true, true, true, true, true, true, true, true, true, true, true, true, true, true, true, true, true]
/-! ### derive_Build: function 25 -/
def derive_Build.f (a0_0 : Bool) (a0_1 : Int) (a0_2 : Int) (a0_3 : Int) (a0_4 : Int) (a0_5 : Int) (a1_0 : Bool) (a1_1 : Int) (a1_2 : Int) (a1_3 : Int) (a1_4 : Int) (a1_5 : Int) : Option (Bool × Int × Int × Int × Int × Int × Int) := (derive_right.f a0_0 a0_1 a0_2 a0_3 a0_4 a0_5).bind fun ⟨s1, s2⟩ => ((derive_used.f a1_0 a1_1 a1_2 a1_3 a1_4 a1_5).bind fun u => ((derive_sealed.f a0_0 a0_1 a0_2 a0_3 a0_4 a0_5 false).bind fun ⟨s3, s4⟩ => ((derive_has.f a1_0 a1_1 a1_2 a1_3 a1_4 a1_5 a0_4).bind fun ⟨s5, s6⟩ => ((cap_Under.f a0_0 a0_1 a0_2 a0_3 a0_4 a0_5 a1_0 a1_1 a1_2 a1_3 a1_4 a1_5).bind fun t => ((derive_first.f 20 (([(⟨s1, s2⟩ : S46)] ++ u) ++ [(⟨s3, s4⟩ : S46), (⟨s5, s6⟩ : S46), (⟨t, 43⟩ : S46)])).bind fun e => (if e = 0 then some (true, a0_1, a0_2, a0_3, a0_4, a0_5, (0 : Int)) else some (false, (0 : Int), (0 : Int), (0 : Int), (0 : Int), (0 : Int), e)))))))
def derive_Build.T1 : Bool × List (List Nat × List Nat) := (true, [([], []), ([0], [0]), ([1], [1]), ([], []), ([3, 1], [3]), ([2, 4, 4], [2, 4]), ([5, 5, 0, 1, 2, 3, 4, 5], [5])])
def derive_Build.B1 : List Nat := [0, 1, 3, 0, 11, 31, 63]
theorem derive_Build.tab1 : rtab .any (opsOf Try.f25 1) = derive_Build.T1 := by kernel_rfl
theorem derive_Build.bits1 : waitsOk derive_Build.T1.2 derive_Build.B1 = true := by kernel_rfl
def derive_Build.T2 : Bool × List (List Nat × List Nat) := (true, [([], []), ([], []), ([], []), ([2], [2]), ([], []), ([], []), ([5], [5]), ([4, 6, 3], [4, 6]), ([], []), ([], []), ([8, 9, 7], [8, 9]), ([10], [10]), ([3, 7, 11], [3, 7, 11]), ([1, 12, 10], [1, 12]), ([0, 13, 13], [0, 13]), ([14], [14]), ([14], [14]), ([15, 14, 0, 1, 2, 3, 4, 5, 6, 7, 8, 9, 10, 11, 12, 13, 14, 15, 16], [15]), ([16, 17, 0, 1, 2, 3, 4, 5, 6, 7, 8, 9, 10, 11, 12, 13, 14, 15, 16, 17], [16])])
def derive_Build.B2 : List Nat := [0, 0, 0, 4, 0, 0, 32, 124, 0, 0, 1020, 2044, 4092, 8190, 16383, 32767, 32767, 131071, 262143]
theorem derive_Build.tab2 : rtab .any (opsOf Try.f25 2) = derive_Build.T2 := by kernel_rfl
theorem derive_Build.bits2 : waitsOk derive_Build.T2.2 derive_Build.B2 = true := by kernel_rfl
set_option maxHeartbeats 8000000 in
set_option maxRecDepth 100000 in
theorem derive_Build.calls (a0_0 : Bool) (a0_1 : Int) (a0_2 : Int) (a0_3 : Int) (a0_4 : Int) (a0_5 : Int) (a1_0 : Bool) (a1_1 : Int) (a1_2 : Int) (a1_3 : Int) (a1_4 : Int) (a1_5 : Int) (r1 : Bool) (r2 : Int) (r3 : Int) (r4 : Int) (r5 : Int) (r6 : Int) (r7 : Int) (w : World) (h : derive_Build.f a0_0 a0_1 a0_2 a0_3 a0_4 a0_5 a1_0 a1_1 a1_2 a1_3 a1_4 a1_5 = some (r1, r2, r3, r4, r5, r6, r7)) :
  Calls Try.prog 25 #[.agg #[.bool a0_0, .int .i64 a0_1, .int .i64 a0_2, .int .i64 a0_3, .int .i64 a0_4, .int .i64 a0_5], .agg #[.bool a1_0, .int .i64 a1_1, .int .i64 a1_2, .int .i64 a1_3, .int .i64 a1_4, .int .i64 a1_5]] w fun e w' => e = .returned (.tuple #[.agg #[.bool r1, .int .i64 r2, .int .i64 r3, .int .i64 r4, .int .i64 r5, .int .i64 r6], .int .i64 r7]) ∧ Below w.heap.size w w' := by
 have hu23 := Try.underlying23
 have hu46 := Try.underlying46
 have hmf : ∀ (fn : Fn) (first cap : Array Value) (w : World), (Instr.makeFunc fn first cap).run Try.prog w = .ok (.func fn first cap) w := fun _ _ _ _ => rfl
 have HB := Aside0.mk (Below.refl w.heap.size w)
 unfold derive_Build.f at h
 obtain ⟨⟨s1, s2⟩, h0_, h⟩ := Option.bind_eq_some_iff.mp h
 have P0 := Aside0.mk h0_
 clear h0_
 obtain ⟨u, h1_, h⟩ := Option.bind_eq_some_iff.mp h
 have P1 := Aside0.mk h1_
 clear h1_
 obtain ⟨⟨s3, s4⟩, h2_, h⟩ := Option.bind_eq_some_iff.mp h
 have P2 := Aside0.mk h2_
 clear h2_
 obtain ⟨⟨s5, s6⟩, h3_, h⟩ := Option.bind_eq_some_iff.mp h
 have P3 := Aside0.mk h3_
 clear h3_
 obtain ⟨t, h4_, h⟩ := Option.bind_eq_some_iff.mp h
 have P4 := Aside0.mk h4_
 clear h4_
 obtain ⟨e, hf_, h⟩ := Option.bind_eq_some_iff.mp h
 have L_u := Aside0.mk (used_len P1.out)
 obtain ⟨x, e_x⟩ : ∃ y_ : List S46, y_ = ([(⟨s1, s2⟩ : S46)] : List S46) := ⟨_, rfl⟩
 have L_x := Aside0.mk (show x.length = 1 by rw [e_x]; rfl)
 have E_x := Aside0.mk e_x
 rw [← e_x] at hf_
 clear e_x
 obtain ⟨m, e_m⟩ : ∃ y_ : List S46, y_ = x ++ u := ⟨_, rfl⟩
 have L_m := Aside0.mk (show m.length ≤ 12 by rw [e_m, List.length_append]; have := L_x.out; have := L_u.out; omega)
 have E_m := Aside0.mk e_m
 rw [← e_m] at hf_
 clear e_m
 obtain ⟨x2, e_x2⟩ : ∃ y_ : List S46, y_ = ([(⟨s3, s4⟩ : S46), (⟨s5, s6⟩ : S46), (⟨t, 43⟩ : S46)] : List S46) := ⟨_, rfl⟩
 have L_x2 := Aside0.mk (show x2.length = 3 by rw [e_x2]; rfl)
 have E_x2 := Aside0.mk e_x2
 rw [← e_x2] at hf_
 clear e_x2
 obtain ⟨z, e_z⟩ : ∃ y_ : List S46, y_ = m ++ x2 := ⟨_, rfl⟩
 have L_z := Aside0.mk (show z.length ≤ 20 by rw [e_z, List.length_append]; have := L_m.out; have := L_x2.out; omega)
 have E_z := Aside0.mk e_z
 rw [← e_z] at hf_
 clear e_z
 have HF := Aside0.mk hf_
 have HH := Aside0.mk h
 clear hf_ h
 go_enter Try.func25, Try.ntmps25
 go_wp2_with (first | ((with_reducible refine gate_dst (N := 2) rfl ?_); refine box_event ?hg (N := 2) ?hd (cs := #[.bool a0_0, .int .i64 a0_1, .int .i64 a0_2, .int .i64 a0_3, .int .i64 a0_4, .int .i64 a0_5]) (t := 23) ?hr ?_; (case hd => rfl); (case hg => rfl); (case hr => first | (go_simp; done) | (go_simp; rfl)); intro gb0 hg w1 hbox hb; have GX_gb0 := Aside0.mk (show w.heap.size ≤ gb0 from by rw [hg]; exact HB.out.size); have BK_gb0 := Aside0.mk hbox; have nb_ := Aside0.mk (below_step HB.out hb); clear HB; have HB := nb_; clear nb_ hg hbox hb) | ((with_reducible refine gate_dst (N := 3) rfl ?_); refine box_event ?hg (N := 3) ?hd (cs := #[.bool a1_0, .int .i64 a1_1, .int .i64 a1_2, .int .i64 a1_3, .int .i64 a1_4, .int .i64 a1_5]) (t := 23) ?hr ?_; (case hd => rfl); (case hg => rfl); (case hr => first | (go_simp; done) | (go_simp; rfl)); intro gb1 hg w2 hbox hb; have NX_gb0_gb1 := Aside0.mk (show gb0 ≠ gb1 from by rw [hg]; exact Nat.ne_of_lt (blk_lt BK_gb0.out)); have GX_gb1 := Aside0.mk (show w.heap.size ≤ gb1 from by rw [hg]; exact HB.out.size); have n0_ := Aside0.mk (blk_below BK_gb0.out hb); clear BK_gb0; have BK_gb0 := n0_; clear n0_; have BK_gb1 := Aside0.mk hbox; have nb_ := Aside0.mk (below_step HB.out hb); clear HB; have HB := nb_; clear nb_ hg hbox hb) | ((with_reducible refine gate_dst (N := 4) rfl ?_); refine box_event ?hg (N := 4) ?hd (cs := #[.bool false, .int .i64 0, .int .i64 0, .int .i64 0, .int .i64 0, .int .i64 0]) (t := 23) ?hr ?_; (case hd => rfl); (case hg => rfl); (case hr => first | (go_simp; done) | (go_simp; rfl)); intro gR hg w3 hbox hb; have NX_gb0_gR := Aside0.mk (show gb0 ≠ gR from by rw [hg]; exact Nat.ne_of_lt (blk_lt BK_gb0.out)); have NX_gb1_gR := Aside0.mk (show gb1 ≠ gR from by rw [hg]; exact Nat.ne_of_lt (blk_lt BK_gb1.out)); have GX_gR := Aside0.mk (show w.heap.size ≤ gR from by rw [hg]; exact HB.out.size); have n0_ := Aside0.mk (blk_below BK_gb0.out hb); clear BK_gb0; have BK_gb0 := n0_; clear n0_; have n1_ := Aside0.mk (blk_below BK_gb1.out hb); clear BK_gb1; have BK_gb1 := n1_; clear n1_; have BK_gR := Aside0.mk hbox; have nb_ := Aside0.mk (below_step HB.out hb); clear HB; have HB := nb_; clear nb_ hg hbox hb))
 have n0_ := Aside0.mk (blk_drew BK_gb0.out)
 have n1_ := Aside0.mk (blk_drew BK_gb1.out)
 have n2_ := Aside0.mk (blk_drew BK_gR.out)
 have n3_ := Aside0.mk (below_drew1 HB.out)
 clear BK_gb0 BK_gb1 BK_gR HB
 have BK_gb0 := n0_
 have BK_gb1 := n1_
 have BK_gR := n2_
 have HB := n3_
 clear n0_ n1_ n2_ n3_
 refine start_ (n := 7) (S := fun w' => w'.cell? ⟨gb0, 0, none⟩ = some (.bool a0_0) ∧ w'.cell? ⟨gb0, 1, none⟩ = some (.int .i64 a0_1) ∧ w'.cell? ⟨gb0, 2, none⟩ = some (.int .i64 a0_2) ∧ w'.cell? ⟨gb0, 3, none⟩ = some (.int .i64 a0_3) ∧ w'.cell? ⟨gb0, 4, none⟩ = some (.int .i64 a0_4) ∧ w'.cell? ⟨gb0, 5, none⟩ = some (.int .i64 a0_5) ∧ w'.cell? ⟨gb1, 0, none⟩ = some (.bool a1_0) ∧ w'.cell? ⟨gb1, 1, none⟩ = some (.int .i64 a1_1) ∧ w'.cell? ⟨gb1, 2, none⟩ = some (.int .i64 a1_2) ∧ w'.cell? ⟨gb1, 3, none⟩ = some (.int .i64 a1_3) ∧ w'.cell? ⟨gb1, 4, none⟩ = some (.int .i64 a1_4) ∧ w'.cell? ⟨gb1, 5, none⟩ = some (.int .i64 a1_5)) (ds := []) m14_0 (by kernel_rfl) rfl rfl ⟨q7_ BK_gb0 0 rfl, q7_ BK_gb0 1 rfl, q7_ BK_gb0 2 rfl, q7_ BK_gb0 3 rfl, q7_ BK_gb0 4 rfl, q7_ BK_gb0 5 rfl, q7_ BK_gb1 0 rfl, q7_ BK_gb1 1 rfl, q7_ BK_gb1 2 rfl, q7_ BK_gb1 3 rfl, q7_ BK_gb1 4 rfl, q7_ BK_gb1 5 rfl⟩ (fun hHeld => ?_); refine with_tabW derive_Build.tab1 derive_Build.bits1 (fun HT_ HW_ => ?_)
 generalize w3.drew = w4 at BK_gb0 BK_gb1 BK_gR HB hHeld ⊢
 refine take_ (i := 0) (N := some 7) (v := ?_) (a' := ?_) m14_1 rfl rfl (take_ofW HT_.out HW_.out (by kernel_rfl)) (fun _ _ _ h => h) (Or.inl ⟨by rfl, ?_⟩) hHeld ?_ ?_
 rotate_left
 ·rintro w' ⟨s0, s1, s2, s3, s4, s5, s6, s7, s8, s9, s10, s11⟩
  go_simp
  with_reducible rfl
 rotate_left
 ·simp only [Act.put, q4_, q5_, q6_, i64_w, i32_w]
  rfl
 refine take_ (i := 3) (N := some 10) (v := ?_) (a' := ?_) m14_2 rfl rfl (take_ofW HT_.out HW_.out (by kernel_rfl)) (fun _ _ _ h => h) (Or.inl ⟨by rfl, ?_⟩) hHeld ?_ ?_
 rotate_left
 ·rintro w' ⟨s0, s1, s2, s3, s4, s5, s6, s7, s8, s9, s10, s11⟩
  go_simp
  with_reducible rfl
 rotate_left
 ·simp only [Act.put, q4_, q5_, q6_, i64_w, i32_w]
  rfl
 refine one_ (i := 1) (N := some 8) m14_3 rfl rfl (one_of HT_.out (by kernel_rfl)) (by decide) (fun K hK => ?_)
 refine goes_ Try.func41 (by kernel_rfl) rfl #[.agg #[.bool a0_0, .int .i64 a0_1, .int .i64 a0_2, .int .i64 a0_3, .int .i64 a0_4, .int .i64 a0_5]] (by rfl) rfl rfl (by (try simp only [List.map_toArray, List.map_cons, List.map_nil]); first | done | rfl | (simp only [List.length_drop, List.length_take]; rfl)) ?_
 with_reducible refine (derive_right.calls a0_0 a0_1 a0_2 a0_3 a0_4 a0_5 s1 s2 _ P0.out).mono ?_
 rintro e_ w5 ⟨rfl, hb⟩
 refine ⟨_, rfl, ?_⟩
 have n0_ := Aside0.mk (blk_below BK_gb0.out hb)
 have n1_ := Aside0.mk (blk_below BK_gb1.out hb)
 have n2_ := Aside0.mk (blk_below BK_gR.out hb)
 have n3_ := Aside0.mk (below_step HB.out hb)
 clear BK_gb0 BK_gb1 BK_gR HB
 have BK_gb0 := n0_
 have BK_gb1 := n1_
 have BK_gR := n2_
 have HB := n3_
 clear n0_ n1_ n2_ n3_
 clear hb
 refine hK.out _ _ ⟨q7_ BK_gb0 0 rfl, q7_ BK_gb0 1 rfl, q7_ BK_gb0 2 rfl, q7_ BK_gb0 3 rfl, q7_ BK_gb0 4 rfl, q7_ BK_gb0 5 rfl, q7_ BK_gb1 0 rfl, q7_ BK_gb1 1 rfl, q7_ BK_gb1 2 rfl, q7_ BK_gb1 3 rfl, q7_ BK_gb1 4 rfl, q7_ BK_gb1 5 rfl⟩ (fun hHeld => ?_)
 clear hK K
 refine norm_ (a' := ?_) ?_ ?_
 rotate_left
 ·show Act.put _ (some 8) _ = _
  simp only [Act.put, q4_, q5_, q6_, i64_w, i32_w]
  rfl
 refine two_ (i := 2) (j := 4) (Ni := some 9) (Nj := some 11) m14_4 m14_5 rfl rfl rfl rfl (two_of HT_.out (by kernel_rfl)) (by decide) (by decide) (fun K hK => ?_) (fun K hK => ?_)
 ·refine Kd.R_lit_step k46 _ 46 ?hg (N := 9) ?hd (xs := ([(⟨s1, s2⟩ : S46)] : List (S46))) (inner := [.bool s1, .int .i64 s2]) (ok := fun _ => True) (okp := fun _ => True) ?hr ?hp (fun _ hk => hk) trivial (Below.refl _ _) (Nat.le_refl _) (by simp) ?_; (case hd => rfl); (case hg => rfl); (case hr => first | (go_simp; done) | (go_simp; rfl)); (case hp => exact (Reps.c2 (show Kd.M k46 _ _ _ (⟨s1, s2⟩ : S46) [.bool s1, .int .i64 s2] from (k46_mkM _ _ _ (⟨s1, s2⟩ : S46) )) (Reps.none _ _)))
  intro v9 w6 ho hb hg_ hnew_
  clear hg_ hnew_
  rw [← E_x.out] at ho
  have HO_v9 := Aside0.mk (Kd.R_lower ho (HB.out.size))
  have n0_ := Aside0.mk (blk_below BK_gb0.out hb)
  have n1_ := Aside0.mk (blk_below BK_gb1.out hb)
  have n2_ := Aside0.mk (blk_below BK_gR.out hb)
  have n3_ := Aside0.mk (below_step HB.out hb)
  clear BK_gb0 BK_gb1 BK_gR HB
  have BK_gb0 := n0_
  have BK_gb1 := n1_
  have BK_gR := n2_
  have HB := n3_
  clear n0_ n1_ n2_ n3_
  clear ho hb
  obtain ⟨A9, k9, eo_⟩ := Kd.R_slice HO_v9.out
  subst eo_
  refine hK.out _ _ ⟨q7_ BK_gb0 0 rfl, q7_ BK_gb0 1 rfl, q7_ BK_gb0 2 rfl, q7_ BK_gb0 3 rfl, q7_ BK_gb0 4 rfl, q7_ BK_gb0 5 rfl, q7_ BK_gb1 0 rfl, q7_ BK_gb1 1 rfl, q7_ BK_gb1 2 rfl, q7_ BK_gb1 3 rfl, q7_ BK_gb1 4 rfl, q7_ BK_gb1 5 rfl⟩ (fun hHeld => ?_)
  clear hK K
  refine norm_ (a' := ?_) ?_ ?_
  rotate_left
  ·show Act.put _ (some 9) _ = _
   simp only [Act.put, q4_, q5_, q6_, i64_w, i32_w]
   rfl
  refine one_ (i := 4) (N := some 11) m14_6 rfl rfl (one_of HT_.out (by kernel_rfl)) (by decide) (fun K hK => ?_)
  refine goes_ Try.func32 (by kernel_rfl) rfl #[.agg #[.bool a1_0, .int .i64 a1_1, .int .i64 a1_2, .int .i64 a1_3, .int .i64 a1_4, .int .i64 a1_5]] (by rfl) rfl rfl (by (try simp only [List.map_toArray, List.map_cons, List.map_nil]); first | done | rfl | (simp only [List.length_drop, List.length_take]; rfl)) ?_
  with_reducible refine (derive_used.calls a1_0 a1_1 a1_2 a1_3 a1_4 a1_5 u _ P1.out).mono ?_
  rintro e_ w7 ⟨v11, rfl, ho0, hb⟩
  refine ⟨_, rfl, ?_⟩
  have HO_v11 := Aside0.mk (Kd.R_lower ho0 HB.out.size)
  have n0_ := Aside0.mk (blk_below BK_gb0.out hb)
  have n1_ := Aside0.mk (blk_below BK_gb1.out hb)
  have n2_ := Aside0.mk (blk_below BK_gR.out hb)
  have n3_ := Aside0.mk (Kd.R_below HO_v9.out hb)
  have n4_ := Aside0.mk (below_step HB.out hb)
  clear BK_gb0 BK_gb1 BK_gR HO_v9 HB
  have BK_gb0 := n0_
  have BK_gb1 := n1_
  have BK_gR := n2_
  have HO_v9 := n3_
  have HB := n4_
  clear n0_ n1_ n2_ n3_ n4_
  clear ho0 hb
  obtain ⟨A11, k11, eo_⟩ := Kd.R_slice HO_v11.out
  subst eo_
  refine hK.out _ _ ⟨q7_ BK_gb0 0 rfl, q7_ BK_gb0 1 rfl, q7_ BK_gb0 2 rfl, q7_ BK_gb0 3 rfl, q7_ BK_gb0 4 rfl, q7_ BK_gb0 5 rfl, q7_ BK_gb1 0 rfl, q7_ BK_gb1 1 rfl, q7_ BK_gb1 2 rfl, q7_ BK_gb1 3 rfl, q7_ BK_gb1 4 rfl, q7_ BK_gb1 5 rfl⟩ (fun hHeld => ?_)
  clear hK K
  refine norm_ (a' := ?_) ?_ ?_
  rotate_left
  ·show Act.put _ (some 11) _ = _
   simp only [Act.put, q4_, q5_, q6_, i64_w, i32_w]
   rfl
  refine one_ (i := 5) (N := some 12) m14_7 rfl rfl (one_of HT_.out (by kernel_rfl)) (by decide) (fun K hK => ?_)
  refine Kd.R_append_rows_step k46 (w0 := w) w.heap.size (by rfl) (.tmp 9) (.tmp 11) 43 46 (.agg #[(.bool false), (.int .i64 0)]) 16 rfl Try.underlying43 info46 rfl (by decide) (by omega) (.slice A9 x.length k9) x u _ _ _ (fun _ => True) (fun _ => False) rfl rfl ?aO ?aR (fun _ _ h => h) (fun _ h => h.elim) ?aF ?aB ?aS ?aL ?_
  (case aR => exact (Kd.R_reads' HO_v11.out).2.2)
  (case aB => exact HB.out)
  (case aF => exact fun _ _ => trivial)
  (case aO => exact HO_v9.out)
  (case aS => exact HB.out.size)
  (case aL => have := L_x.out; have := L_u.out; omega)
  intro v12 w8 ho hb hg hat
  rw [← E_m.out] at ho
  have n0_ := Aside0.mk (blk_grown BK_gb0.out hg (Kd.R_ne HO_v9.out BK_gb0.out (by decide)))
  have n1_ := Aside0.mk (blk_grown BK_gb1.out hg (Kd.R_ne HO_v9.out BK_gb1.out (by decide)))
  have n2_ := Aside0.mk (blk_grown BK_gR.out hg (Kd.R_ne HO_v9.out BK_gR.out (by decide)))
  have n3_ := Aside0.mk (hb)
  clear BK_gb0 BK_gb1 BK_gR HB HO_v9 HO_v11
  have BK_gb0 := n0_
  have BK_gb1 := n1_
  have BK_gR := n2_
  have HB := n3_
  clear n0_ n1_ n2_ n3_
  have HO_v12 := Aside0.mk ho
  clear ho hb hg hat
  obtain ⟨A12, k12, eo_⟩ := Kd.R_slice HO_v12.out
  subst eo_
  refine hK.out _ _ ⟨q7_ BK_gb0 0 rfl, q7_ BK_gb0 1 rfl, q7_ BK_gb0 2 rfl, q7_ BK_gb0 3 rfl, q7_ BK_gb0 4 rfl, q7_ BK_gb0 5 rfl, q7_ BK_gb1 0 rfl, q7_ BK_gb1 1 rfl, q7_ BK_gb1 2 rfl, q7_ BK_gb1 3 rfl, q7_ BK_gb1 4 rfl, q7_ BK_gb1 5 rfl⟩ (fun hHeld => ?_)
  clear hK K
  refine norm_ (a' := ?_) ?_ ?_
  rotate_left
  ·show Act.put _ (some 12) _ = _
   simp only [Act.put, q4_, q5_, q6_, i64_w, i32_w]
   rfl
  refine pure_ (i := 6) (N := some 6) (v := ?_) (a' := ?_) m14_8 rfl rfl (any_of HT_.out (by kernel_rfl)) (fun _ _ _ h => h) (Or.inl ⟨by rfl, ?_⟩) ?_ ?_
  rotate_left
  ·intro w'
   go_simp
   with_reducible rfl
  rotate_left
  ·simp only [Act.put, q4_, q5_, q6_, i64_w, i32_w]
   rfl
  refine done_ (done_of HT_.out (by kernel_rfl)) ?_
  try go_wp2
  have n0_ := Aside0.mk (blk_drew BK_gb0.out)
  have n1_ := Aside0.mk (blk_drew BK_gb1.out)
  have n2_ := Aside0.mk (blk_drew BK_gR.out)
  have n3_ := Aside0.mk (Kd.R_drew HO_v12.out)
  have n4_ := Aside0.mk (below_drew1 HB.out)
  clear BK_gb0 BK_gb1 BK_gR HO_v12 HB
  have BK_gb0 := n0_
  have BK_gb1 := n1_
  have BK_gR := n2_
  have HO_v12 := n3_
  have HB := n4_
  clear n0_ n1_ n2_ n3_ n4_
  refine start_ (n := 19) (S := fun w' => w'.cell? ⟨gb0, 0, none⟩ = some (.bool a0_0) ∧ w'.cell? ⟨gb0, 1, none⟩ = some (.int .i64 a0_1) ∧ w'.cell? ⟨gb0, 2, none⟩ = some (.int .i64 a0_2) ∧ w'.cell? ⟨gb0, 3, none⟩ = some (.int .i64 a0_3) ∧ w'.cell? ⟨gb0, 4, none⟩ = some (.int .i64 a0_4) ∧ w'.cell? ⟨gb0, 5, none⟩ = some (.int .i64 a0_5) ∧ w'.cell? ⟨gb1, 0, none⟩ = some (.bool a1_0) ∧ w'.cell? ⟨gb1, 1, none⟩ = some (.int .i64 a1_1) ∧ w'.cell? ⟨gb1, 2, none⟩ = some (.int .i64 a1_2) ∧ w'.cell? ⟨gb1, 3, none⟩ = some (.int .i64 a1_3) ∧ w'.cell? ⟨gb1, 4, none⟩ = some (.int .i64 a1_4) ∧ w'.cell? ⟨gb1, 5, none⟩ = some (.int .i64 a1_5)) (ds := []) m14_9 (by kernel_rfl) rfl rfl ⟨q7_ BK_gb0 0 rfl, q7_ BK_gb0 1 rfl, q7_ BK_gb0 2 rfl, q7_ BK_gb0 3 rfl, q7_ BK_gb0 4 rfl, q7_ BK_gb0 5 rfl, q7_ BK_gb1 0 rfl, q7_ BK_gb1 1 rfl, q7_ BK_gb1 2 rfl, q7_ BK_gb1 3 rfl, q7_ BK_gb1 4 rfl, q7_ BK_gb1 5 rfl⟩ (fun hHeld => ?_); refine with_tabW derive_Build.tab2 derive_Build.bits2 (fun HT_ HW_ => ?_)
  generalize w8.drew = w9 at BK_gb0 BK_gb1 BK_gR HO_v12 HB hHeld ⊢
  refine take_ (i := 0) (N := some 13) (v := ?_) (a' := ?_) m14_10 rfl rfl (take_ofW HT_.out HW_.out (by kernel_rfl)) (fun _ _ _ h => h) (Or.inl ⟨by rfl, ?_⟩) hHeld ?_ ?_
  rotate_left
  ·rintro w' ⟨s0, s1, s2, s3, s4, s5, s6, s7, s8, s9, s10, s11⟩
   go_simp
   with_reducible rfl
  rotate_left
  ·simp only [Act.put, q4_, q5_, q6_, i64_w, i32_w]
   rfl
  refine pure_ (i := 1) (N := some 14) (v := ?_) (a' := ?_) m14_11 rfl rfl (any_of HT_.out (by kernel_rfl)) (fun _ _ _ h => h) (Or.inl ⟨by rfl, ?_⟩) ?_ ?_
  rotate_left
  ·intro w'
   go_simp
   with_reducible rfl
  rotate_left
  ·simp only [Act.put, q4_, q5_, q6_, i64_w, i32_w]
   rfl
  refine take_ (i := 2) (N := some 15) (v := ?_) (a' := ?_) m14_12 rfl rfl (take_ofW HT_.out HW_.out (by kernel_rfl)) (fun _ _ _ h => h) (Or.inl ⟨by rfl, ?_⟩) hHeld ?_ ?_
  rotate_left
  ·rintro w' ⟨s0, s1, s2, s3, s4, s5, s6, s7, s8, s9, s10, s11⟩
   go_simp
   with_reducible rfl
  rotate_left
  ·simp only [Act.put, q4_, q5_, q6_, i64_w, i32_w]
   rfl
  refine take_ (i := 4) (N := some 17) (v := ?_) (a' := ?_) m14_13 rfl rfl (take_ofW HT_.out HW_.out (by kernel_rfl)) (fun _ _ _ h => h) (Or.inl ⟨by rfl, ?_⟩) hHeld ?_ ?_
  rotate_left
  ·rintro w' ⟨s0, s1, s2, s3, s4, s5, s6, s7, s8, s9, s10, s11⟩
   go_simp
   with_reducible rfl
  rotate_left
  ·simp only [Act.put, q4_, q5_, q6_, i64_w, i32_w]
   rfl
  refine pure_ (i := 5) (N := some 18) (v := ?_) (a' := ?_) m14_14 rfl rfl (any_of HT_.out (by kernel_rfl)) (fun _ _ _ h => h) (Or.inl ⟨by rfl, ?_⟩) ?_ ?_
  rotate_left
  ·intro w'
   go_simp
   with_reducible rfl
  rotate_left
  ·simp only [Act.put, q4_, q5_, q6_, i64_w, i32_w]
   rfl
  refine take_ (i := 6) (N := some 19) (v := ?_) (a' := ?_) m14_15 rfl rfl (take_ofW HT_.out HW_.out (by kernel_rfl)) (fun _ _ _ h => h) (Or.inl ⟨by rfl, ?_⟩) hHeld ?_ ?_
  rotate_left
  ·rintro w' ⟨s0, s1, s2, s3, s4, s5, s6, s7, s8, s9, s10, s11⟩
   go_simp
   with_reducible rfl
  rotate_left
  ·simp only [Act.put, q4_, q5_, q6_, i64_w, i32_w]
   rfl
  refine take_ (i := 8) (N := some 21) (v := ?_) (a' := ?_) m14_16 rfl rfl (take_ofW HT_.out HW_.out (by kernel_rfl)) (fun _ _ _ h => h) (Or.inl ⟨by rfl, ?_⟩) hHeld ?_ ?_
  rotate_left
  ·rintro w' ⟨s0, s1, s2, s3, s4, s5, s6, s7, s8, s9, s10, s11⟩
   go_simp
   with_reducible rfl
  rotate_left
  ·simp only [Act.put, q4_, q5_, q6_, i64_w, i32_w]
   rfl
  refine take_ (i := 9) (N := some 22) (v := ?_) (a' := ?_) m14_17 rfl rfl (take_ofW HT_.out HW_.out (by kernel_rfl)) (fun _ _ _ h => h) (Or.inl ⟨by rfl, ?_⟩) hHeld ?_ ?_
  rotate_left
  ·rintro w' ⟨s0, s1, s2, s3, s4, s5, s6, s7, s8, s9, s10, s11⟩
   go_simp
   with_reducible rfl
  rotate_left
  ·simp only [Act.put, q4_, q5_, q6_, i64_w, i32_w]
   rfl
  refine one_ (i := 3) (N := some 16) m14_18 rfl rfl (one_of HT_.out (by kernel_rfl)) (by decide) (fun K hK => ?_)
  refine goes_ Try.func47 (by kernel_rfl) rfl #[.agg #[.bool a0_0, .int .i64 a0_1, .int .i64 a0_2, .int .i64 a0_3, .int .i64 a0_4, .int .i64 a0_5], .bool false] (by rfl) rfl rfl (by (try simp only [List.map_toArray, List.map_cons, List.map_nil]); first | done | rfl | (simp only [List.length_drop, List.length_take]; rfl)) ?_
  with_reducible refine (derive_sealed.calls a0_0 a0_1 a0_2 a0_3 a0_4 a0_5 false s3 s4 _ P2.out).mono ?_
  rintro e_ w10 ⟨rfl, hb⟩
  refine ⟨_, rfl, ?_⟩
  have n0_ := Aside0.mk (blk_below BK_gb0.out hb)
  have n1_ := Aside0.mk (blk_below BK_gb1.out hb)
  have n2_ := Aside0.mk (blk_below BK_gR.out hb)
  have n3_ := Aside0.mk (Kd.R_below HO_v12.out hb)
  have n4_ := Aside0.mk (below_step HB.out hb)
  clear BK_gb0 BK_gb1 BK_gR HO_v12 HB
  have BK_gb0 := n0_
  have BK_gb1 := n1_
  have BK_gR := n2_
  have HO_v12 := n3_
  have HB := n4_
  clear n0_ n1_ n2_ n3_ n4_
  clear hb
  refine hK.out _ _ ⟨q7_ BK_gb0 0 rfl, q7_ BK_gb0 1 rfl, q7_ BK_gb0 2 rfl, q7_ BK_gb0 3 rfl, q7_ BK_gb0 4 rfl, q7_ BK_gb0 5 rfl, q7_ BK_gb1 0 rfl, q7_ BK_gb1 1 rfl, q7_ BK_gb1 2 rfl, q7_ BK_gb1 3 rfl, q7_ BK_gb1 4 rfl, q7_ BK_gb1 5 rfl⟩ (fun hHeld => ?_)
  clear hK K
  refine norm_ (a' := ?_) ?_ ?_
  rotate_left
  ·show Act.put _ (some 16) _ = _
   simp only [Act.put, q4_, q5_, q6_, i64_w, i32_w]
   rfl
  refine one_ (i := 7) (N := some 20) m14_19 rfl rfl (one_of HT_.out (by kernel_rfl)) (by decide) (fun K hK => ?_)
  refine goes_ Try.func50 (by kernel_rfl) rfl #[.agg #[.bool a1_0, .int .i64 a1_1, .int .i64 a1_2, .int .i64 a1_3, .int .i64 a1_4, .int .i64 a1_5], .int .i64 a0_4] (by rfl) rfl rfl (by (try simp only [List.map_toArray, List.map_cons, List.map_nil]); first | done | rfl | (simp only [List.length_drop, List.length_take]; rfl)) ?_
  with_reducible refine (derive_has.calls a1_0 a1_1 a1_2 a1_3 a1_4 a1_5 a0_4 s5 s6 _ P3.out).mono ?_
  rintro e_ w11 ⟨rfl, hb⟩
  refine ⟨_, rfl, ?_⟩
  have n0_ := Aside0.mk (blk_below BK_gb0.out hb)
  have n1_ := Aside0.mk (blk_below BK_gb1.out hb)
  have n2_ := Aside0.mk (blk_below BK_gR.out hb)
  have n3_ := Aside0.mk (Kd.R_below HO_v12.out hb)
  have n4_ := Aside0.mk (below_step HB.out hb)
  clear BK_gb0 BK_gb1 BK_gR HO_v12 HB
  have BK_gb0 := n0_
  have BK_gb1 := n1_
  have BK_gR := n2_
  have HO_v12 := n3_
  have HB := n4_
  clear n0_ n1_ n2_ n3_ n4_
  clear hb
  refine hK.out _ _ ⟨q7_ BK_gb0 0 rfl, q7_ BK_gb0 1 rfl, q7_ BK_gb0 2 rfl, q7_ BK_gb0 3 rfl, q7_ BK_gb0 4 rfl, q7_ BK_gb0 5 rfl, q7_ BK_gb1 0 rfl, q7_ BK_gb1 1 rfl, q7_ BK_gb1 2 rfl, q7_ BK_gb1 3 rfl, q7_ BK_gb1 4 rfl, q7_ BK_gb1 5 rfl⟩ (fun hHeld => ?_)
  clear hK K
  refine norm_ (a' := ?_) ?_ ?_
  rotate_left
  ·show Act.put _ (some 20) _ = _
   simp only [Act.put, q4_, q5_, q6_, i64_w, i32_w]
   rfl
  refine one_ (i := 10) (N := some 23) m14_20 rfl rfl (one_of HT_.out (by kernel_rfl)) (by decide) (fun K hK => ?_)
  refine goes_ Try.func53 (by kernel_rfl) rfl #[.agg #[.bool a0_0, .int .i64 a0_1, .int .i64 a0_2, .int .i64 a0_3, .int .i64 a0_4, .int .i64 a0_5], .agg #[.bool a1_0, .int .i64 a1_1, .int .i64 a1_2, .int .i64 a1_3, .int .i64 a1_4, .int .i64 a1_5]] (by rfl) rfl rfl (by (try simp only [List.map_toArray, List.map_cons, List.map_nil]); first | done | rfl | (simp only [List.length_drop, List.length_take]; rfl)) ?_
  with_reducible refine (cap_Under.calls a0_0 a0_1 a0_2 a0_3 a0_4 a0_5 a1_0 a1_1 a1_2 a1_3 a1_4 a1_5 t _ P4.out).mono ?_
  rintro e_ w12 ⟨rfl, hb⟩
  refine ⟨_, rfl, ?_⟩
  have n0_ := Aside0.mk (blk_below BK_gb0.out hb)
  have n1_ := Aside0.mk (blk_below BK_gb1.out hb)
  have n2_ := Aside0.mk (blk_below BK_gR.out hb)
  have n3_ := Aside0.mk (Kd.R_below HO_v12.out hb)
  have n4_ := Aside0.mk (below_step HB.out hb)
  clear BK_gb0 BK_gb1 BK_gR HO_v12 HB
  have BK_gb0 := n0_
  have BK_gb1 := n1_
  have BK_gR := n2_
  have HO_v12 := n3_
  have HB := n4_
  clear n0_ n1_ n2_ n3_ n4_
  clear hb
  refine hK.out _ _ ⟨q7_ BK_gb0 0 rfl, q7_ BK_gb0 1 rfl, q7_ BK_gb0 2 rfl, q7_ BK_gb0 3 rfl, q7_ BK_gb0 4 rfl, q7_ BK_gb0 5 rfl, q7_ BK_gb1 0 rfl, q7_ BK_gb1 1 rfl, q7_ BK_gb1 2 rfl, q7_ BK_gb1 3 rfl, q7_ BK_gb1 4 rfl, q7_ BK_gb1 5 rfl⟩ (fun hHeld => ?_)
  clear hK K
  refine norm_ (a' := ?_) ?_ ?_
  rotate_left
  ·show Act.put _ (some 23) _ = _
   simp only [Act.put, q4_, q5_, q6_, i64_w, i32_w]
   rfl
  refine pure_ (i := 11) (N := some 24) (v := ?_) (a' := ?_) m14_21 rfl rfl (any_of HT_.out (by kernel_rfl)) (fun _ _ _ h => h) (Or.inl ⟨by rfl, ?_⟩) ?_ ?_
  rotate_left
  ·intro w'
   go_simp
   with_reducible rfl
  rotate_left
  ·simp only [Act.put, q4_, q5_, q6_, i64_w, i32_w]
   rfl
  refine one_ (i := 12) (N := some 25) m14_22 rfl rfl (one_of HT_.out (by kernel_rfl)) (by decide) (fun K hK => ?_)
  refine Kd.R_lit_step k46 _ 46 ?hg (N := 25) ?hd (xs := ([(⟨s3, s4⟩ : S46), (⟨s5, s6⟩ : S46), (⟨t, 43⟩ : S46)] : List (S46))) (inner := [.bool s3, .int .i64 s4, .bool s5, .int .i64 s6, .bool t, .int .i64 43]) (ok := fun _ => True) (okp := fun _ => True) ?hr ?hp (fun _ hk => hk) trivial (Below.refl _ _) (Nat.le_refl _) (by simp) ?_; (case hd => rfl); (case hg => rfl); (case hr => first | (go_simp; done) | (go_simp; rfl)); (case hp => exact (Reps.c2 (show Kd.M k46 _ _ _ (⟨s3, s4⟩ : S46) [.bool s3, .int .i64 s4] from (k46_mkM _ _ _ (⟨s3, s4⟩ : S46) )) (Reps.c2 (show Kd.M k46 _ _ _ (⟨s5, s6⟩ : S46) [.bool s5, .int .i64 s6] from (k46_mkM _ _ _ (⟨s5, s6⟩ : S46) )) (Reps.c2 (show Kd.M k46 _ _ _ (⟨t, 43⟩ : S46) [.bool t, .int .i64 43] from (k46_mkM _ _ _ (⟨t, 43⟩ : S46) )) (Reps.none _ _)))))
  intro v25 w13 ho hb hg_ hnew_
  clear hg_ hnew_
  rw [← E_x2.out] at ho
  have HO_v25 := Aside0.mk (Kd.R_lower ho (HB.out.size))
  have n0_ := Aside0.mk (blk_below BK_gb0.out hb)
  have n1_ := Aside0.mk (blk_below BK_gb1.out hb)
  have n2_ := Aside0.mk (blk_below BK_gR.out hb)
  have n3_ := Aside0.mk (Kd.R_below HO_v12.out hb)
  have n4_ := Aside0.mk (below_step HB.out hb)
  clear BK_gb0 BK_gb1 BK_gR HO_v12 HB
  have BK_gb0 := n0_
  have BK_gb1 := n1_
  have BK_gR := n2_
  have HO_v12 := n3_
  have HB := n4_
  clear n0_ n1_ n2_ n3_ n4_
  clear ho hb
  obtain ⟨A25, k25, eo_⟩ := Kd.R_slice HO_v25.out
  subst eo_
  refine hK.out _ _ ⟨q7_ BK_gb0 0 rfl, q7_ BK_gb0 1 rfl, q7_ BK_gb0 2 rfl, q7_ BK_gb0 3 rfl, q7_ BK_gb0 4 rfl, q7_ BK_gb0 5 rfl, q7_ BK_gb1 0 rfl, q7_ BK_gb1 1 rfl, q7_ BK_gb1 2 rfl, q7_ BK_gb1 3 rfl, q7_ BK_gb1 4 rfl, q7_ BK_gb1 5 rfl⟩ (fun hHeld => ?_)
  clear hK K
  refine norm_ (a' := ?_) ?_ ?_
  rotate_left
  ·show Act.put _ (some 25) _ = _
   simp only [Act.put, q4_, q5_, q6_, i64_w, i32_w]
   rfl
  refine one_ (i := 13) (N := some 26) m14_23 rfl rfl (one_of HT_.out (by kernel_rfl)) (by decide) (fun K hK => ?_)
  refine Kd.R_append_rows_step k46 (w0 := w) w.heap.size (by rfl) (.tmp 14) (.tmp 25) 43 46 (.agg #[(.bool false), (.int .i64 0)]) 16 rfl Try.underlying43 info46 rfl (by decide) (by omega) (.slice A12 m.length k12) m x2 _ _ _ (fun _ => True) (fun _ => False) rfl rfl ?aO ?aR (fun _ _ h => h) (fun _ h => h.elim) ?aF ?aB ?aS ?aL ?_
  (case aR => exact (Kd.R_reads' HO_v25.out).2.2)
  (case aB => exact HB.out)
  (case aF => exact fun _ _ => trivial)
  (case aO => exact HO_v12.out)
  (case aS => exact HB.out.size)
  (case aL => have := L_m.out; have := L_x2.out; omega)
  intro v26 w14 ho hb hg hat
  rw [← E_z.out] at ho
  have n0_ := Aside0.mk (blk_grown BK_gb0.out hg (Kd.R_ne HO_v12.out BK_gb0.out (by decide)))
  have n1_ := Aside0.mk (blk_grown BK_gb1.out hg (Kd.R_ne HO_v12.out BK_gb1.out (by decide)))
  have n2_ := Aside0.mk (blk_grown BK_gR.out hg (Kd.R_ne HO_v12.out BK_gR.out (by decide)))
  have n3_ := Aside0.mk (hb)
  clear BK_gb0 BK_gb1 BK_gR HB HO_v12 HO_v25
  have BK_gb0 := n0_
  have BK_gb1 := n1_
  have BK_gR := n2_
  have HB := n3_
  clear n0_ n1_ n2_ n3_
  have HO_v26 := Aside0.mk ho
  clear ho hb hg hat
  obtain ⟨A26, k26, eo_⟩ := Kd.R_slice HO_v26.out
  subst eo_
  refine hK.out _ _ ⟨q7_ BK_gb0 0 rfl, q7_ BK_gb0 1 rfl, q7_ BK_gb0 2 rfl, q7_ BK_gb0 3 rfl, q7_ BK_gb0 4 rfl, q7_ BK_gb0 5 rfl, q7_ BK_gb1 0 rfl, q7_ BK_gb1 1 rfl, q7_ BK_gb1 2 rfl, q7_ BK_gb1 3 rfl, q7_ BK_gb1 4 rfl, q7_ BK_gb1 5 rfl⟩ (fun hHeld => ?_)
  clear hK K
  refine norm_ (a' := ?_) ?_ ?_
  rotate_left
  ·show Act.put _ (some 26) _ = _
   simp only [Act.put, q4_, q5_, q6_, i64_w, i32_w]
   rfl
  refine one_ (i := 14) (N := some 27) m14_24 rfl rfl (one_of HT_.out (by kernel_rfl)) (by decide) (fun K hK => ?_)
  refine goes_ Try.func30 (by kernel_rfl) rfl #[.agg #[.bool a0_0, .int .i64 a0_1, .int .i64 a0_2, .int .i64 a0_3, .int .i64 a0_4, .int .i64 a0_5], .func (.func 52) #[] #[], .slice A26 z.length k26] (by rfl) rfl rfl (by (try simp only [List.map_toArray, List.map_cons, List.map_nil]); first | done | rfl | (simp only [List.length_drop, List.length_take]; rfl)) ?_
  with_reducible refine (made_Build _ a0_0 a0_1 a0_2 a0_3 a0_4 a0_5 A26 k26 z e r1 r2 r3 r4 r5 r6 r7 (Kd.R_reads' HO_v26.out).2.2 (Kd.R_reads' HO_v26.out).2.1 HF.out HH.out).mono ?_
  rintro q_ w15 ⟨rfl, hb⟩
  refine ⟨_, rfl, ?_⟩
  have n0_ := Aside0.mk (blk_below BK_gb0.out hb)
  have n1_ := Aside0.mk (blk_below BK_gb1.out hb)
  have n2_ := Aside0.mk (blk_below BK_gR.out hb)
  have n3_ := Aside0.mk (Kd.R_below HO_v26.out hb)
  have n4_ := Aside0.mk (below_step HB.out hb)
  clear BK_gb0 BK_gb1 BK_gR HO_v26 HB
  have BK_gb0 := n0_
  have BK_gb1 := n1_
  have BK_gR := n2_
  have HO_v26 := n3_
  have HB := n4_
  clear n0_ n1_ n2_ n3_ n4_
  clear hb
  refine hK.out _ _ ⟨q7_ BK_gb0 0 rfl, q7_ BK_gb0 1 rfl, q7_ BK_gb0 2 rfl, q7_ BK_gb0 3 rfl, q7_ BK_gb0 4 rfl, q7_ BK_gb0 5 rfl, q7_ BK_gb1 0 rfl, q7_ BK_gb1 1 rfl, q7_ BK_gb1 2 rfl, q7_ BK_gb1 3 rfl, q7_ BK_gb1 4 rfl, q7_ BK_gb1 5 rfl⟩ (fun hHeld => ?_)
  clear hK K
  refine norm_ (a' := ?_) ?_ ?_
  rotate_left
  ·show Act.put _ (some 27) _ = _
   simp only [Act.put, q4_, q5_, q6_, i64_w, i32_w]
   rfl
  refine pure_ (i := 15) (N := some 28) (v := ?_) (a' := ?_) m14_25 rfl rfl (any_of HT_.out (by kernel_rfl)) (fun _ _ _ h => h) (Or.inl ⟨by rfl, ?_⟩) ?_ ?_
  rotate_left
  ·intro w'
   go_simp
   with_reducible rfl
  rotate_left
  ·simp only [Act.put, q4_, q5_, q6_, i64_w, i32_w]
   rfl
  refine pure_ (i := 16) (N := some 29) (v := ?_) (a' := ?_) m14_26 rfl rfl (any_of HT_.out (by kernel_rfl)) (fun _ _ _ h => h) (Or.inl ⟨by rfl, ?_⟩) ?_ ?_
  rotate_left
  ·intro w'
   go_simp
   with_reducible rfl
  rotate_left
  ·simp only [Act.put, q4_, q5_, q6_, i64_w, i32_w]
   rfl
  refine one_ (i := 17) (N := none) m14_27 rfl rfl (one_of HT_.out (by kernel_rfl)) (by decide) (fun K hK => ?_)
  have f0_ := blk_frozen BK_gR.out 0
  have f1_ := blk_frozen BK_gR.out 1
  have f2_ := blk_frozen BK_gR.out 2
  have f3_ := blk_frozen BK_gR.out 3
  have f4_ := blk_frozen BK_gR.out 4
  have f5_ := blk_frozen BK_gR.out 5
  have d0_ : World.cell? _ ⟨gR, 0, none⟩ = some (.bool false) := q7_ BK_gR 0 rfl
  have d1_ : World.cell? _ ⟨gR, 1, none⟩ = some (.int .i64 0) := q7_ BK_gR 1 rfl
  have d2_ : World.cell? _ ⟨gR, 2, none⟩ = some (.int .i64 0) := q7_ BK_gR 2 rfl
  have d3_ : World.cell? _ ⟨gR, 3, none⟩ = some (.int .i64 0) := q7_ BK_gR 3 rfl
  have d4_ : World.cell? _ ⟨gR, 4, none⟩ = some (.int .i64 0) := q7_ BK_gR 4 rfl
  have d5_ : World.cell? _ ⟨gR, 5, none⟩ = some (.int .i64 0) := q7_ BK_gR 5 rfl
  refine skip_ (w1 := ?_) (by rfl) rfl ?_ ?_
  rotate_left
  ·go_simp
   rfl
  clear f0_ f1_ f2_ f3_ f4_ f5_ d0_ d1_ d2_ d3_ d4_ d5_
  have n0_ := Aside0.mk (set6_far (.bool r1) (.int .i64 r2) (.int .i64 r3) (.int .i64 r4) (.int .i64 r5) (.int .i64 r6) NX_gb0_gR.out BK_gb0.out)
  have n1_ := Aside0.mk (set6_far (.bool r1) (.int .i64 r2) (.int .i64 r3) (.int .i64 r4) (.int .i64 r5) (.int .i64 r6) NX_gb1_gR.out BK_gb1.out)
  have n2_ := Aside0.mk (set6_blk (.bool r1) (.int .i64 r2) (.int .i64 r3) (.int .i64 r4) (.int .i64 r5) (.int .i64 r6) BK_gR.out)
  have n3_ := Aside0.mk (set6_below (.bool r1) (.int .i64 r2) (.int .i64 r3) (.int .i64 r4) (.int .i64 r5) (.int .i64 r6) HB.out GX_gR.out)
  clear BK_gb0 BK_gb1 BK_gR HB HO_v26
  have BK_gb0 := n0_
  have BK_gb1 := n1_
  have BK_gR := n2_
  have HB := n3_
  clear n0_ n1_ n2_ n3_
  refine hK.out _ _ ⟨q7_ BK_gb0 0 rfl, q7_ BK_gb0 1 rfl, q7_ BK_gb0 2 rfl, q7_ BK_gb0 3 rfl, q7_ BK_gb0 4 rfl, q7_ BK_gb0 5 rfl, q7_ BK_gb1 0 rfl, q7_ BK_gb1 1 rfl, q7_ BK_gb1 2 rfl, q7_ BK_gb1 3 rfl, q7_ BK_gb1 4 rfl, q7_ BK_gb1 5 rfl⟩ (fun hHeld => ?_)
  clear hK K
  refine pure_ (i := 18) (N := some 5) (v := ?_) (a' := ?_) m14_28 rfl rfl (any_of HT_.out (by kernel_rfl)) (fun _ _ _ h => h) (Or.inl ⟨by rfl, ?_⟩) ?_ ?_
  rotate_left
  ·intro w'
   go_simp
   with_reducible rfl
  rotate_left
  ·simp only [Act.put, q4_, q5_, q6_, i64_w, i32_w]
   rfl
  refine done_ (done_of HT_.out (by kernel_rfl)) ?_
  try go_wp2
  refine bodyPost_ret (results_ct rfl _ _ gR 23 #[.bool r1, .int .i64 r2, .int .i64 r3, .int .i64 r4, .int .i64 r5, .int .i64 r6] (0, 0) _ rfl BK_gR.out Try.underlying23 rfl (by kernel_rfl)) rfl ?_
  exact ⟨rfl, HB.out⟩
 ·refine goes_ Try.func32 (by kernel_rfl) rfl #[.agg #[.bool a1_0, .int .i64 a1_1, .int .i64 a1_2, .int .i64 a1_3, .int .i64 a1_4, .int .i64 a1_5]] (by rfl) rfl rfl (by (try simp only [List.map_toArray, List.map_cons, List.map_nil]); first | done | rfl | (simp only [List.length_drop, List.length_take]; rfl)) ?_
  with_reducible refine (derive_used.calls a1_0 a1_1 a1_2 a1_3 a1_4 a1_5 u _ P1.out).mono ?_
  rintro e_ w16 ⟨v11, rfl, ho0, hb⟩
  refine ⟨_, rfl, ?_⟩
  have HO_v11 := Aside0.mk (Kd.R_lower ho0 HB.out.size)
  have n0_ := Aside0.mk (blk_below BK_gb0.out hb)
  have n1_ := Aside0.mk (blk_below BK_gb1.out hb)
  have n2_ := Aside0.mk (blk_below BK_gR.out hb)
  have n3_ := Aside0.mk (below_step HB.out hb)
  clear BK_gb0 BK_gb1 BK_gR HB
  have BK_gb0 := n0_
  have BK_gb1 := n1_
  have BK_gR := n2_
  have HB := n3_
  clear n0_ n1_ n2_ n3_
  clear ho0 hb
  obtain ⟨A11, k11, eo_⟩ := Kd.R_slice HO_v11.out
  subst eo_
  refine hK.out _ _ ⟨q7_ BK_gb0 0 rfl, q7_ BK_gb0 1 rfl, q7_ BK_gb0 2 rfl, q7_ BK_gb0 3 rfl, q7_ BK_gb0 4 rfl, q7_ BK_gb0 5 rfl, q7_ BK_gb1 0 rfl, q7_ BK_gb1 1 rfl, q7_ BK_gb1 2 rfl, q7_ BK_gb1 3 rfl, q7_ BK_gb1 4 rfl, q7_ BK_gb1 5 rfl⟩ (fun hHeld => ?_)
  clear hK K
  refine norm_ (a' := ?_) ?_ ?_
  rotate_left
  ·show Act.put _ (some 11) _ = _
   simp only [Act.put, q4_, q5_, q6_, i64_w, i32_w]
   rfl
  refine one_ (i := 2) (N := some 9) m14_6 rfl rfl (one_of HT_.out (by kernel_rfl)) (by decide) (fun K hK => ?_)
  refine Kd.R_lit_step k46 _ 46 ?hg (N := 9) ?hd (xs := ([(⟨s1, s2⟩ : S46)] : List (S46))) (inner := [.bool s1, .int .i64 s2]) (ok := fun _ => True) (okp := fun _ => True) ?hr ?hp (fun _ hk => hk) trivial (Below.refl _ _) (Nat.le_refl _) (by simp) ?_; (case hd => rfl); (case hg => rfl); (case hr => first | (go_simp; done) | (go_simp; rfl)); (case hp => exact (Reps.c2 (show Kd.M k46 _ _ _ (⟨s1, s2⟩ : S46) [.bool s1, .int .i64 s2] from (k46_mkM _ _ _ (⟨s1, s2⟩ : S46) )) (Reps.none _ _)))
  intro v9 w17 ho hb hg_ hnew_
  clear hg_ hnew_
  rw [← E_x.out] at ho
  have HO_v9 := Aside0.mk (Kd.R_lower ho (HB.out.size))
  have n0_ := Aside0.mk (blk_below BK_gb0.out hb)
  have n1_ := Aside0.mk (blk_below BK_gb1.out hb)
  have n2_ := Aside0.mk (blk_below BK_gR.out hb)
  have n3_ := Aside0.mk (Kd.R_below HO_v11.out hb)
  have n4_ := Aside0.mk (below_step HB.out hb)
  clear BK_gb0 BK_gb1 BK_gR HO_v11 HB
  have BK_gb0 := n0_
  have BK_gb1 := n1_
  have BK_gR := n2_
  have HO_v11 := n3_
  have HB := n4_
  clear n0_ n1_ n2_ n3_ n4_
  clear ho hb
  obtain ⟨A9, k9, eo_⟩ := Kd.R_slice HO_v9.out
  subst eo_
  refine hK.out _ _ ⟨q7_ BK_gb0 0 rfl, q7_ BK_gb0 1 rfl, q7_ BK_gb0 2 rfl, q7_ BK_gb0 3 rfl, q7_ BK_gb0 4 rfl, q7_ BK_gb0 5 rfl, q7_ BK_gb1 0 rfl, q7_ BK_gb1 1 rfl, q7_ BK_gb1 2 rfl, q7_ BK_gb1 3 rfl, q7_ BK_gb1 4 rfl, q7_ BK_gb1 5 rfl⟩ (fun hHeld => ?_)
  clear hK K
  refine norm_ (a' := ?_) ?_ ?_
  rotate_left
  ·show Act.put _ (some 9) _ = _
   simp only [Act.put, q4_, q5_, q6_, i64_w, i32_w]
   rfl
  refine one_ (i := 5) (N := some 12) m14_7 rfl rfl (one_of HT_.out (by kernel_rfl)) (by decide) (fun K hK => ?_)
  refine Kd.R_append_rows_step k46 (w0 := w) w.heap.size (by rfl) (.tmp 9) (.tmp 11) 43 46 (.agg #[(.bool false), (.int .i64 0)]) 16 rfl Try.underlying43 info46 rfl (by decide) (by omega) (.slice A9 x.length k9) x u _ _ _ (fun _ => True) (fun _ => False) rfl rfl ?aO ?aR (fun _ _ h => h) (fun _ h => h.elim) ?aF ?aB ?aS ?aL ?_
  (case aR => exact (Kd.R_reads' HO_v11.out).2.2)
  (case aB => exact HB.out)
  (case aF => exact fun _ _ => trivial)
  (case aO => exact HO_v9.out)
  (case aS => exact HB.out.size)
  (case aL => have := L_x.out; have := L_u.out; omega)
  intro v12 w18 ho hb hg hat
  rw [← E_m.out] at ho
  have n0_ := Aside0.mk (blk_grown BK_gb0.out hg (Kd.R_ne HO_v9.out BK_gb0.out (by decide)))
  have n1_ := Aside0.mk (blk_grown BK_gb1.out hg (Kd.R_ne HO_v9.out BK_gb1.out (by decide)))
  have n2_ := Aside0.mk (blk_grown BK_gR.out hg (Kd.R_ne HO_v9.out BK_gR.out (by decide)))
  have n3_ := Aside0.mk (hb)
  clear BK_gb0 BK_gb1 BK_gR HB HO_v11 HO_v9
  have BK_gb0 := n0_
  have BK_gb1 := n1_
  have BK_gR := n2_
  have HB := n3_
  clear n0_ n1_ n2_ n3_
  have HO_v12 := Aside0.mk ho
  clear ho hb hg hat
  obtain ⟨A12, k12, eo_⟩ := Kd.R_slice HO_v12.out
  subst eo_
  refine hK.out _ _ ⟨q7_ BK_gb0 0 rfl, q7_ BK_gb0 1 rfl, q7_ BK_gb0 2 rfl, q7_ BK_gb0 3 rfl, q7_ BK_gb0 4 rfl, q7_ BK_gb0 5 rfl, q7_ BK_gb1 0 rfl, q7_ BK_gb1 1 rfl, q7_ BK_gb1 2 rfl, q7_ BK_gb1 3 rfl, q7_ BK_gb1 4 rfl, q7_ BK_gb1 5 rfl⟩ (fun hHeld => ?_)
  clear hK K
  refine norm_ (a' := ?_) ?_ ?_
  rotate_left
  ·show Act.put _ (some 12) _ = _
   simp only [Act.put, q4_, q5_, q6_, i64_w, i32_w]
   rfl
  refine pure_ (i := 6) (N := some 6) (v := ?_) (a' := ?_) m14_8 rfl rfl (any_of HT_.out (by kernel_rfl)) (fun _ _ _ h => h) (Or.inl ⟨by rfl, ?_⟩) ?_ ?_
  rotate_left
  ·intro w'
   go_simp
   with_reducible rfl
  rotate_left
  ·simp only [Act.put, q4_, q5_, q6_, i64_w, i32_w]
   rfl
  refine done_ (done_of HT_.out (by kernel_rfl)) ?_
  try go_wp2
  have n0_ := Aside0.mk (blk_drew BK_gb0.out)
  have n1_ := Aside0.mk (blk_drew BK_gb1.out)
  have n2_ := Aside0.mk (blk_drew BK_gR.out)
  have n3_ := Aside0.mk (Kd.R_drew HO_v12.out)
  have n4_ := Aside0.mk (below_drew1 HB.out)
  clear BK_gb0 BK_gb1 BK_gR HO_v12 HB
  have BK_gb0 := n0_
  have BK_gb1 := n1_
  have BK_gR := n2_
  have HO_v12 := n3_
  have HB := n4_
  clear n0_ n1_ n2_ n3_ n4_
  refine start_ (n := 19) (S := fun w' => w'.cell? ⟨gb0, 0, none⟩ = some (.bool a0_0) ∧ w'.cell? ⟨gb0, 1, none⟩ = some (.int .i64 a0_1) ∧ w'.cell? ⟨gb0, 2, none⟩ = some (.int .i64 a0_2) ∧ w'.cell? ⟨gb0, 3, none⟩ = some (.int .i64 a0_3) ∧ w'.cell? ⟨gb0, 4, none⟩ = some (.int .i64 a0_4) ∧ w'.cell? ⟨gb0, 5, none⟩ = some (.int .i64 a0_5) ∧ w'.cell? ⟨gb1, 0, none⟩ = some (.bool a1_0) ∧ w'.cell? ⟨gb1, 1, none⟩ = some (.int .i64 a1_1) ∧ w'.cell? ⟨gb1, 2, none⟩ = some (.int .i64 a1_2) ∧ w'.cell? ⟨gb1, 3, none⟩ = some (.int .i64 a1_3) ∧ w'.cell? ⟨gb1, 4, none⟩ = some (.int .i64 a1_4) ∧ w'.cell? ⟨gb1, 5, none⟩ = some (.int .i64 a1_5)) (ds := []) m14_9 (by kernel_rfl) rfl rfl ⟨q7_ BK_gb0 0 rfl, q7_ BK_gb0 1 rfl, q7_ BK_gb0 2 rfl, q7_ BK_gb0 3 rfl, q7_ BK_gb0 4 rfl, q7_ BK_gb0 5 rfl, q7_ BK_gb1 0 rfl, q7_ BK_gb1 1 rfl, q7_ BK_gb1 2 rfl, q7_ BK_gb1 3 rfl, q7_ BK_gb1 4 rfl, q7_ BK_gb1 5 rfl⟩ (fun hHeld => ?_); refine with_tabW derive_Build.tab2 derive_Build.bits2 (fun HT_ HW_ => ?_)
  generalize w18.drew = w19 at BK_gb0 BK_gb1 BK_gR HO_v12 HB hHeld ⊢
  refine take_ (i := 0) (N := some 13) (v := ?_) (a' := ?_) m14_10 rfl rfl (take_ofW HT_.out HW_.out (by kernel_rfl)) (fun _ _ _ h => h) (Or.inl ⟨by rfl, ?_⟩) hHeld ?_ ?_
  rotate_left
  ·rintro w' ⟨s0, s1, s2, s3, s4, s5, s6, s7, s8, s9, s10, s11⟩
   go_simp
   with_reducible rfl
  rotate_left
  ·simp only [Act.put, q4_, q5_, q6_, i64_w, i32_w]
   rfl
  refine pure_ (i := 1) (N := some 14) (v := ?_) (a' := ?_) m14_11 rfl rfl (any_of HT_.out (by kernel_rfl)) (fun _ _ _ h => h) (Or.inl ⟨by rfl, ?_⟩) ?_ ?_
  rotate_left
  ·intro w'
   go_simp
   with_reducible rfl
  rotate_left
  ·simp only [Act.put, q4_, q5_, q6_, i64_w, i32_w]
   rfl
  refine take_ (i := 2) (N := some 15) (v := ?_) (a' := ?_) m14_12 rfl rfl (take_ofW HT_.out HW_.out (by kernel_rfl)) (fun _ _ _ h => h) (Or.inl ⟨by rfl, ?_⟩) hHeld ?_ ?_
  rotate_left
  ·rintro w' ⟨s0, s1, s2, s3, s4, s5, s6, s7, s8, s9, s10, s11⟩
   go_simp
   with_reducible rfl
  rotate_left
  ·simp only [Act.put, q4_, q5_, q6_, i64_w, i32_w]
   rfl
  refine take_ (i := 4) (N := some 17) (v := ?_) (a' := ?_) m14_13 rfl rfl (take_ofW HT_.out HW_.out (by kernel_rfl)) (fun _ _ _ h => h) (Or.inl ⟨by rfl, ?_⟩) hHeld ?_ ?_
  rotate_left
  ·rintro w' ⟨s0, s1, s2, s3, s4, s5, s6, s7, s8, s9, s10, s11⟩
   go_simp
   with_reducible rfl
  rotate_left
  ·simp only [Act.put, q4_, q5_, q6_, i64_w, i32_w]
   rfl
  refine pure_ (i := 5) (N := some 18) (v := ?_) (a' := ?_) m14_14 rfl rfl (any_of HT_.out (by kernel_rfl)) (fun _ _ _ h => h) (Or.inl ⟨by rfl, ?_⟩) ?_ ?_
  rotate_left
  ·intro w'
   go_simp
   with_reducible rfl
  rotate_left
  ·simp only [Act.put, q4_, q5_, q6_, i64_w, i32_w]
   rfl
  refine take_ (i := 6) (N := some 19) (v := ?_) (a' := ?_) m14_15 rfl rfl (take_ofW HT_.out HW_.out (by kernel_rfl)) (fun _ _ _ h => h) (Or.inl ⟨by rfl, ?_⟩) hHeld ?_ ?_
  rotate_left
  ·rintro w' ⟨s0, s1, s2, s3, s4, s5, s6, s7, s8, s9, s10, s11⟩
   go_simp
   with_reducible rfl
  rotate_left
  ·simp only [Act.put, q4_, q5_, q6_, i64_w, i32_w]
   rfl
  refine take_ (i := 8) (N := some 21) (v := ?_) (a' := ?_) m14_16 rfl rfl (take_ofW HT_.out HW_.out (by kernel_rfl)) (fun _ _ _ h => h) (Or.inl ⟨by rfl, ?_⟩) hHeld ?_ ?_
  rotate_left
  ·rintro w' ⟨s0, s1, s2, s3, s4, s5, s6, s7, s8, s9, s10, s11⟩
   go_simp
   with_reducible rfl
  rotate_left
  ·simp only [Act.put, q4_, q5_, q6_, i64_w, i32_w]
   rfl
  refine take_ (i := 9) (N := some 22) (v := ?_) (a' := ?_) m14_17 rfl rfl (take_ofW HT_.out HW_.out (by kernel_rfl)) (fun _ _ _ h => h) (Or.inl ⟨by rfl, ?_⟩) hHeld ?_ ?_
  rotate_left
  ·rintro w' ⟨s0, s1, s2, s3, s4, s5, s6, s7, s8, s9, s10, s11⟩
   go_simp
   with_reducible rfl
  rotate_left
  ·simp only [Act.put, q4_, q5_, q6_, i64_w, i32_w]
   rfl
  refine one_ (i := 3) (N := some 16) m14_18 rfl rfl (one_of HT_.out (by kernel_rfl)) (by decide) (fun K hK => ?_)
  refine goes_ Try.func47 (by kernel_rfl) rfl #[.agg #[.bool a0_0, .int .i64 a0_1, .int .i64 a0_2, .int .i64 a0_3, .int .i64 a0_4, .int .i64 a0_5], .bool false] (by rfl) rfl rfl (by (try simp only [List.map_toArray, List.map_cons, List.map_nil]); first | done | rfl | (simp only [List.length_drop, List.length_take]; rfl)) ?_
  with_reducible refine (derive_sealed.calls a0_0 a0_1 a0_2 a0_3 a0_4 a0_5 false s3 s4 _ P2.out).mono ?_
  rintro e_ w20 ⟨rfl, hb⟩
  refine ⟨_, rfl, ?_⟩
  have n0_ := Aside0.mk (blk_below BK_gb0.out hb)
  have n1_ := Aside0.mk (blk_below BK_gb1.out hb)
  have n2_ := Aside0.mk (blk_below BK_gR.out hb)
  have n3_ := Aside0.mk (Kd.R_below HO_v12.out hb)
  have n4_ := Aside0.mk (below_step HB.out hb)
  clear BK_gb0 BK_gb1 BK_gR HO_v12 HB
  have BK_gb0 := n0_
  have BK_gb1 := n1_
  have BK_gR := n2_
  have HO_v12 := n3_
  have HB := n4_
  clear n0_ n1_ n2_ n3_ n4_
  clear hb
  refine hK.out _ _ ⟨q7_ BK_gb0 0 rfl, q7_ BK_gb0 1 rfl, q7_ BK_gb0 2 rfl, q7_ BK_gb0 3 rfl, q7_ BK_gb0 4 rfl, q7_ BK_gb0 5 rfl, q7_ BK_gb1 0 rfl, q7_ BK_gb1 1 rfl, q7_ BK_gb1 2 rfl, q7_ BK_gb1 3 rfl, q7_ BK_gb1 4 rfl, q7_ BK_gb1 5 rfl⟩ (fun hHeld => ?_)
  clear hK K
  refine norm_ (a' := ?_) ?_ ?_
  rotate_left
  ·show Act.put _ (some 16) _ = _
   simp only [Act.put, q4_, q5_, q6_, i64_w, i32_w]
   rfl
  refine one_ (i := 7) (N := some 20) m14_19 rfl rfl (one_of HT_.out (by kernel_rfl)) (by decide) (fun K hK => ?_)
  refine goes_ Try.func50 (by kernel_rfl) rfl #[.agg #[.bool a1_0, .int .i64 a1_1, .int .i64 a1_2, .int .i64 a1_3, .int .i64 a1_4, .int .i64 a1_5], .int .i64 a0_4] (by rfl) rfl rfl (by (try simp only [List.map_toArray, List.map_cons, List.map_nil]); first | done | rfl | (simp only [List.length_drop, List.length_take]; rfl)) ?_
  with_reducible refine (derive_has.calls a1_0 a1_1 a1_2 a1_3 a1_4 a1_5 a0_4 s5 s6 _ P3.out).mono ?_
  rintro e_ w21 ⟨rfl, hb⟩
  refine ⟨_, rfl, ?_⟩
  have n0_ := Aside0.mk (blk_below BK_gb0.out hb)
  have n1_ := Aside0.mk (blk_below BK_gb1.out hb)
  have n2_ := Aside0.mk (blk_below BK_gR.out hb)
  have n3_ := Aside0.mk (Kd.R_below HO_v12.out hb)
  have n4_ := Aside0.mk (below_step HB.out hb)
  clear BK_gb0 BK_gb1 BK_gR HO_v12 HB
  have BK_gb0 := n0_
  have BK_gb1 := n1_
  have BK_gR := n2_
  have HO_v12 := n3_
  have HB := n4_
  clear n0_ n1_ n2_ n3_ n4_
  clear hb
  refine hK.out _ _ ⟨q7_ BK_gb0 0 rfl, q7_ BK_gb0 1 rfl, q7_ BK_gb0 2 rfl, q7_ BK_gb0 3 rfl, q7_ BK_gb0 4 rfl, q7_ BK_gb0 5 rfl, q7_ BK_gb1 0 rfl, q7_ BK_gb1 1 rfl, q7_ BK_gb1 2 rfl, q7_ BK_gb1 3 rfl, q7_ BK_gb1 4 rfl, q7_ BK_gb1 5 rfl⟩ (fun hHeld => ?_)
  clear hK K
  refine norm_ (a' := ?_) ?_ ?_
  rotate_left
  ·show Act.put _ (some 20) _ = _
   simp only [Act.put, q4_, q5_, q6_, i64_w, i32_w]
   rfl
  refine one_ (i := 10) (N := some 23) m14_20 rfl rfl (one_of HT_.out (by kernel_rfl)) (by decide) (fun K hK => ?_)
  refine goes_ Try.func53 (by kernel_rfl) rfl #[.agg #[.bool a0_0, .int .i64 a0_1, .int .i64 a0_2, .int .i64 a0_3, .int .i64 a0_4, .int .i64 a0_5], .agg #[.bool a1_0, .int .i64 a1_1, .int .i64 a1_2, .int .i64 a1_3, .int .i64 a1_4, .int .i64 a1_5]] (by rfl) rfl rfl (by (try simp only [List.map_toArray, List.map_cons, List.map_nil]); first | done | rfl | (simp only [List.length_drop, List.length_take]; rfl)) ?_
  with_reducible refine (cap_Under.calls a0_0 a0_1 a0_2 a0_3 a0_4 a0_5 a1_0 a1_1 a1_2 a1_3 a1_4 a1_5 t _ P4.out).mono ?_
  rintro e_ w22 ⟨rfl, hb⟩
  refine ⟨_, rfl, ?_⟩
  have n0_ := Aside0.mk (blk_below BK_gb0.out hb)
  have n1_ := Aside0.mk (blk_below BK_gb1.out hb)
  have n2_ := Aside0.mk (blk_below BK_gR.out hb)
  have n3_ := Aside0.mk (Kd.R_below HO_v12.out hb)
  have n4_ := Aside0.mk (below_step HB.out hb)
  clear BK_gb0 BK_gb1 BK_gR HO_v12 HB
  have BK_gb0 := n0_
  have BK_gb1 := n1_
  have BK_gR := n2_
  have HO_v12 := n3_
  have HB := n4_
  clear n0_ n1_ n2_ n3_ n4_
  clear hb
  refine hK.out _ _ ⟨q7_ BK_gb0 0 rfl, q7_ BK_gb0 1 rfl, q7_ BK_gb0 2 rfl, q7_ BK_gb0 3 rfl, q7_ BK_gb0 4 rfl, q7_ BK_gb0 5 rfl, q7_ BK_gb1 0 rfl, q7_ BK_gb1 1 rfl, q7_ BK_gb1 2 rfl, q7_ BK_gb1 3 rfl, q7_ BK_gb1 4 rfl, q7_ BK_gb1 5 rfl⟩ (fun hHeld => ?_)
  clear hK K
  refine norm_ (a' := ?_) ?_ ?_
  rotate_left
  ·show Act.put _ (some 23) _ = _
   simp only [Act.put, q4_, q5_, q6_, i64_w, i32_w]
   rfl
  refine pure_ (i := 11) (N := some 24) (v := ?_) (a' := ?_) m14_21 rfl rfl (any_of HT_.out (by kernel_rfl)) (fun _ _ _ h => h) (Or.inl ⟨by rfl, ?_⟩) ?_ ?_
  rotate_left
  ·intro w'
   go_simp
   with_reducible rfl
  rotate_left
  ·simp only [Act.put, q4_, q5_, q6_, i64_w, i32_w]
   rfl
  refine one_ (i := 12) (N := some 25) m14_22 rfl rfl (one_of HT_.out (by kernel_rfl)) (by decide) (fun K hK => ?_)
  refine Kd.R_lit_step k46 _ 46 ?hg (N := 25) ?hd (xs := ([(⟨s3, s4⟩ : S46), (⟨s5, s6⟩ : S46), (⟨t, 43⟩ : S46)] : List (S46))) (inner := [.bool s3, .int .i64 s4, .bool s5, .int .i64 s6, .bool t, .int .i64 43]) (ok := fun _ => True) (okp := fun _ => True) ?hr ?hp (fun _ hk => hk) trivial (Below.refl _ _) (Nat.le_refl _) (by simp) ?_; (case hd => rfl); (case hg => rfl); (case hr => first | (go_simp; done) | (go_simp; rfl)); (case hp => exact (Reps.c2 (show Kd.M k46 _ _ _ (⟨s3, s4⟩ : S46) [.bool s3, .int .i64 s4] from (k46_mkM _ _ _ (⟨s3, s4⟩ : S46) )) (Reps.c2 (show Kd.M k46 _ _ _ (⟨s5, s6⟩ : S46) [.bool s5, .int .i64 s6] from (k46_mkM _ _ _ (⟨s5, s6⟩ : S46) )) (Reps.c2 (show Kd.M k46 _ _ _ (⟨t, 43⟩ : S46) [.bool t, .int .i64 43] from (k46_mkM _ _ _ (⟨t, 43⟩ : S46) )) (Reps.none _ _)))))
  intro v25 w23 ho hb hg_ hnew_
  clear hg_ hnew_
  rw [← E_x2.out] at ho
  have HO_v25 := Aside0.mk (Kd.R_lower ho (HB.out.size))
  have n0_ := Aside0.mk (blk_below BK_gb0.out hb)
  have n1_ := Aside0.mk (blk_below BK_gb1.out hb)
  have n2_ := Aside0.mk (blk_below BK_gR.out hb)
  have n3_ := Aside0.mk (Kd.R_below HO_v12.out hb)
  have n4_ := Aside0.mk (below_step HB.out hb)
  clear BK_gb0 BK_gb1 BK_gR HO_v12 HB
  have BK_gb0 := n0_
  have BK_gb1 := n1_
  have BK_gR := n2_
  have HO_v12 := n3_
  have HB := n4_
  clear n0_ n1_ n2_ n3_ n4_
  clear ho hb
  obtain ⟨A25, k25, eo_⟩ := Kd.R_slice HO_v25.out
  subst eo_
  refine hK.out _ _ ⟨q7_ BK_gb0 0 rfl, q7_ BK_gb0 1 rfl, q7_ BK_gb0 2 rfl, q7_ BK_gb0 3 rfl, q7_ BK_gb0 4 rfl, q7_ BK_gb0 5 rfl, q7_ BK_gb1 0 rfl, q7_ BK_gb1 1 rfl, q7_ BK_gb1 2 rfl, q7_ BK_gb1 3 rfl, q7_ BK_gb1 4 rfl, q7_ BK_gb1 5 rfl⟩ (fun hHeld => ?_)
  clear hK K
  refine norm_ (a' := ?_) ?_ ?_
  rotate_left
  ·show Act.put _ (some 25) _ = _
   simp only [Act.put, q4_, q5_, q6_, i64_w, i32_w]
   rfl
  refine one_ (i := 13) (N := some 26) m14_23 rfl rfl (one_of HT_.out (by kernel_rfl)) (by decide) (fun K hK => ?_)
  refine Kd.R_append_rows_step k46 (w0 := w) w.heap.size (by rfl) (.tmp 14) (.tmp 25) 43 46 (.agg #[(.bool false), (.int .i64 0)]) 16 rfl Try.underlying43 info46 rfl (by decide) (by omega) (.slice A12 m.length k12) m x2 _ _ _ (fun _ => True) (fun _ => False) rfl rfl ?aO ?aR (fun _ _ h => h) (fun _ h => h.elim) ?aF ?aB ?aS ?aL ?_
  (case aR => exact (Kd.R_reads' HO_v25.out).2.2)
  (case aB => exact HB.out)
  (case aF => exact fun _ _ => trivial)
  (case aO => exact HO_v12.out)
  (case aS => exact HB.out.size)
  (case aL => have := L_m.out; have := L_x2.out; omega)
  intro v26 w24 ho hb hg hat
  rw [← E_z.out] at ho
  have n0_ := Aside0.mk (blk_grown BK_gb0.out hg (Kd.R_ne HO_v12.out BK_gb0.out (by decide)))
  have n1_ := Aside0.mk (blk_grown BK_gb1.out hg (Kd.R_ne HO_v12.out BK_gb1.out (by decide)))
  have n2_ := Aside0.mk (blk_grown BK_gR.out hg (Kd.R_ne HO_v12.out BK_gR.out (by decide)))
  have n3_ := Aside0.mk (hb)
  clear BK_gb0 BK_gb1 BK_gR HB HO_v12 HO_v25
  have BK_gb0 := n0_
  have BK_gb1 := n1_
  have BK_gR := n2_
  have HB := n3_
  clear n0_ n1_ n2_ n3_
  have HO_v26 := Aside0.mk ho
  clear ho hb hg hat
  obtain ⟨A26, k26, eo_⟩ := Kd.R_slice HO_v26.out
  subst eo_
  refine hK.out _ _ ⟨q7_ BK_gb0 0 rfl, q7_ BK_gb0 1 rfl, q7_ BK_gb0 2 rfl, q7_ BK_gb0 3 rfl, q7_ BK_gb0 4 rfl, q7_ BK_gb0 5 rfl, q7_ BK_gb1 0 rfl, q7_ BK_gb1 1 rfl, q7_ BK_gb1 2 rfl, q7_ BK_gb1 3 rfl, q7_ BK_gb1 4 rfl, q7_ BK_gb1 5 rfl⟩ (fun hHeld => ?_)
  clear hK K
  refine norm_ (a' := ?_) ?_ ?_
  rotate_left
  ·show Act.put _ (some 26) _ = _
   simp only [Act.put, q4_, q5_, q6_, i64_w, i32_w]
   rfl
  refine one_ (i := 14) (N := some 27) m14_24 rfl rfl (one_of HT_.out (by kernel_rfl)) (by decide) (fun K hK => ?_)
  refine goes_ Try.func30 (by kernel_rfl) rfl #[.agg #[.bool a0_0, .int .i64 a0_1, .int .i64 a0_2, .int .i64 a0_3, .int .i64 a0_4, .int .i64 a0_5], .func (.func 52) #[] #[], .slice A26 z.length k26] (by rfl) rfl rfl (by (try simp only [List.map_toArray, List.map_cons, List.map_nil]); first | done | rfl | (simp only [List.length_drop, List.length_take]; rfl)) ?_
  with_reducible refine (made_Build _ a0_0 a0_1 a0_2 a0_3 a0_4 a0_5 A26 k26 z e r1 r2 r3 r4 r5 r6 r7 (Kd.R_reads' HO_v26.out).2.2 (Kd.R_reads' HO_v26.out).2.1 HF.out HH.out).mono ?_
  rintro q_ w25 ⟨rfl, hb⟩
  refine ⟨_, rfl, ?_⟩
  have n0_ := Aside0.mk (blk_below BK_gb0.out hb)
  have n1_ := Aside0.mk (blk_below BK_gb1.out hb)
  have n2_ := Aside0.mk (blk_below BK_gR.out hb)
  have n3_ := Aside0.mk (Kd.R_below HO_v26.out hb)
  have n4_ := Aside0.mk (below_step HB.out hb)
  clear BK_gb0 BK_gb1 BK_gR HO_v26 HB
  have BK_gb0 := n0_
  have BK_gb1 := n1_
  have BK_gR := n2_
  have HO_v26 := n3_
  have HB := n4_
  clear n0_ n1_ n2_ n3_ n4_
  clear hb
  refine hK.out _ _ ⟨q7_ BK_gb0 0 rfl, q7_ BK_gb0 1 rfl, q7_ BK_gb0 2 rfl, q7_ BK_gb0 3 rfl, q7_ BK_gb0 4 rfl, q7_ BK_gb0 5 rfl, q7_ BK_gb1 0 rfl, q7_ BK_gb1 1 rfl, q7_ BK_gb1 2 rfl, q7_ BK_gb1 3 rfl, q7_ BK_gb1 4 rfl, q7_ BK_gb1 5 rfl⟩ (fun hHeld => ?_)
  clear hK K
  refine norm_ (a' := ?_) ?_ ?_
  rotate_left
  ·show Act.put _ (some 27) _ = _
   simp only [Act.put, q4_, q5_, q6_, i64_w, i32_w]
   rfl
  refine pure_ (i := 15) (N := some 28) (v := ?_) (a' := ?_) m14_25 rfl rfl (any_of HT_.out (by kernel_rfl)) (fun _ _ _ h => h) (Or.inl ⟨by rfl, ?_⟩) ?_ ?_
  rotate_left
  ·intro w'
   go_simp
   with_reducible rfl
  rotate_left
  ·simp only [Act.put, q4_, q5_, q6_, i64_w, i32_w]
   rfl
  refine pure_ (i := 16) (N := some 29) (v := ?_) (a' := ?_) m14_26 rfl rfl (any_of HT_.out (by kernel_rfl)) (fun _ _ _ h => h) (Or.inl ⟨by rfl, ?_⟩) ?_ ?_
  rotate_left
  ·intro w'
   go_simp
   with_reducible rfl
  rotate_left
  ·simp only [Act.put, q4_, q5_, q6_, i64_w, i32_w]
   rfl
  refine one_ (i := 17) (N := none) m14_27 rfl rfl (one_of HT_.out (by kernel_rfl)) (by decide) (fun K hK => ?_)
  have f0_ := blk_frozen BK_gR.out 0
  have f1_ := blk_frozen BK_gR.out 1
  have f2_ := blk_frozen BK_gR.out 2
  have f3_ := blk_frozen BK_gR.out 3
  have f4_ := blk_frozen BK_gR.out 4
  have f5_ := blk_frozen BK_gR.out 5
  have d0_ : World.cell? _ ⟨gR, 0, none⟩ = some (.bool false) := q7_ BK_gR 0 rfl
  have d1_ : World.cell? _ ⟨gR, 1, none⟩ = some (.int .i64 0) := q7_ BK_gR 1 rfl
  have d2_ : World.cell? _ ⟨gR, 2, none⟩ = some (.int .i64 0) := q7_ BK_gR 2 rfl
  have d3_ : World.cell? _ ⟨gR, 3, none⟩ = some (.int .i64 0) := q7_ BK_gR 3 rfl
  have d4_ : World.cell? _ ⟨gR, 4, none⟩ = some (.int .i64 0) := q7_ BK_gR 4 rfl
  have d5_ : World.cell? _ ⟨gR, 5, none⟩ = some (.int .i64 0) := q7_ BK_gR 5 rfl
  refine skip_ (w1 := ?_) (by rfl) rfl ?_ ?_
  rotate_left
  ·go_simp
   rfl
  clear f0_ f1_ f2_ f3_ f4_ f5_ d0_ d1_ d2_ d3_ d4_ d5_
  have n0_ := Aside0.mk (set6_far (.bool r1) (.int .i64 r2) (.int .i64 r3) (.int .i64 r4) (.int .i64 r5) (.int .i64 r6) NX_gb0_gR.out BK_gb0.out)
  have n1_ := Aside0.mk (set6_far (.bool r1) (.int .i64 r2) (.int .i64 r3) (.int .i64 r4) (.int .i64 r5) (.int .i64 r6) NX_gb1_gR.out BK_gb1.out)
  have n2_ := Aside0.mk (set6_blk (.bool r1) (.int .i64 r2) (.int .i64 r3) (.int .i64 r4) (.int .i64 r5) (.int .i64 r6) BK_gR.out)
  have n3_ := Aside0.mk (set6_below (.bool r1) (.int .i64 r2) (.int .i64 r3) (.int .i64 r4) (.int .i64 r5) (.int .i64 r6) HB.out GX_gR.out)
  clear BK_gb0 BK_gb1 BK_gR HB HO_v26
  have BK_gb0 := n0_
  have BK_gb1 := n1_
  have BK_gR := n2_
  have HB := n3_
  clear n0_ n1_ n2_ n3_
  refine hK.out _ _ ⟨q7_ BK_gb0 0 rfl, q7_ BK_gb0 1 rfl, q7_ BK_gb0 2 rfl, q7_ BK_gb0 3 rfl, q7_ BK_gb0 4 rfl, q7_ BK_gb0 5 rfl, q7_ BK_gb1 0 rfl, q7_ BK_gb1 1 rfl, q7_ BK_gb1 2 rfl, q7_ BK_gb1 3 rfl, q7_ BK_gb1 4 rfl, q7_ BK_gb1 5 rfl⟩ (fun hHeld => ?_)
  clear hK K
  refine pure_ (i := 18) (N := some 5) (v := ?_) (a' := ?_) m14_28 rfl rfl (any_of HT_.out (by kernel_rfl)) (fun _ _ _ h => h) (Or.inl ⟨by rfl, ?_⟩) ?_ ?_
  rotate_left
  ·intro w'
   go_simp
   with_reducible rfl
  rotate_left
  ·simp only [Act.put, q4_, q5_, q6_, i64_w, i32_w]
   rfl
  refine done_ (done_of HT_.out (by kernel_rfl)) ?_
  try go_wp2
  refine bodyPost_ret (results_ct rfl _ _ gR 23 #[.bool r1, .int .i64 r2, .int .i64 r3, .int .i64 r4, .int .i64 r5, .int .i64 r6] (0, 0) _ rfl BK_gR.out Try.underlying23 rfl (by kernel_rfl)) rfl ?_
  exact ⟨rfl, HB.out⟩

end Go.Proofs.Ytgkmacgckoifaaa.PDr
-- shorter
