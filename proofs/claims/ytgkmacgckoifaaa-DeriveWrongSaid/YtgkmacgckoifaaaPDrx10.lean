-- written by a changed copy of the kit's print program, for this claim
import Derived.Test.YtgkmacgckoifaaaPDrx0
import Derived.Test.YtgkmacgckoifaaaPDrx2
import Derived.Test.YtgkmacgckoifaaaPDrx3
import Derived.Test.YtgkmacgckoifaaaPDrx5
import Derived.Test.YtgkmacgckoifaaaPDrx9
namespace Go.Proofs.Ytgkmacgckoifaaa.PDr
open Go.RowKit Go.Proofs.YtgkmacgckoifaaaW.PrintWords Go.Proofs.YtgkmacgckoifaaaW.PrintLast Go.Proofs.YtgkmacgckoifaaaW.PrintMore
attribute [local go_sem] max2_int min2_int max_two min_two max_three min_three max_four min_four   -- for this text's walks alone
set_option linter.unusedVariables false
set_option linter.unusedSimpArgs false

abbrev m10_0 : Array Bool := #[false, false, false, false, false, false, false, false, false, false, false, false]
abbrev m10_1 : Array Bool := #[true, false, false, false, false, false, false, false, false, false, false, false]
abbrev m10_2 : Array Bool := #[true, true, false, false, false, false, false, false, false, false, false, false]
abbrev m10_3 : Array Bool := #[true, true, true, false, false, false, false, false, false, false, false, false]
abbrev m10_4 : Array Bool := #[true, true, true, false, true, false, false, false, false, false, false, false]
abbrev m10_5 : Array Bool := #[true, true, true, true, true, false, false, false, false, false, false, false]
abbrev m10_6 : Array Bool := #[true, true, true, true, true, true, false, false, false, false, false, false]
abbrev m10_7 : Array Bool := #[true, true, true, true, true, true, true, false, false, false, false, false]
abbrev m10_8 : Array Bool := #[true, true, true, true, true, true, true, true, false, false, false, false]
abbrev m10_9 : Array Bool := #[true, true, true, true, true, true, true, true, true, false, false, false]
abbrev m10_10 : Array Bool := #[true, true, true, true, true, true, true, true, true, true, false, false]
abbrev m10_11 : Array Bool := #[true, true, true, true, true, true, true, true, true, true, true, false]
abbrev m10_12 : Array Bool := #[true, true, true, true, true, true, true, true, true, true, true, true]
/-! ### derive_Seal: function 19 -/
theorem authority_len {a0_0 : Bool} {a0_1 a0_2 a0_3 a0_4 a0_5 p : Int} {r : List S46} (h : derive_authority.f a0_0 a0_1 a0_2 a0_3 a0_4 a0_5 p = some r) : r.length = 6 := by
 unfold derive_authority.f at h
 obtain ⟨u, hu, h⟩ := Option.bind_eq_some_iff.mp h
 obtain ⟨s1, _, h⟩ := Option.bind_eq_some_iff.mp h
 obtain ⟨s2, _, h⟩ := Option.bind_eq_some_iff.mp h
 have := used_len hu
 split at h <;> (simp only [Option.bind_some] at h; split at h <;> first | (cases h; done) | (obtain rfl := Option.some.inj h; simp [this]))
def derive_Seal.f (a0_0 : Bool) (a0_1 : Int) (a0_2 : Int) (a0_3 : Int) (a0_4 : Int) (a0_5 : Int) (a1_0 : Bool) (a1_1 : Int) (a1_2 : Int) (a1_3 : Int) (a1_4 : Int) (a1_5 : Int) : Option (Bool × Int × Int × Int × Int × Int × Int) := (derive_used.f a0_0 a0_1 a0_2 a0_3 a0_4 a0_5).bind fun u => ((derive_authority.f a1_0 a1_1 a1_2 a1_3 a1_4 a1_5 32).bind fun y => ((derive_first.f 20 (u ++ y)).bind fun e => (if e = 0 then some (a0_0, a0_1, a0_2, a0_3, a0_4, a1_3, (0 : Int)) else some (false, (0 : Int), (0 : Int), (0 : Int), (0 : Int), (0 : Int), e))))
def derive_Seal.T1 : Bool × List (List Nat × List Nat) := (true, [([], []), ([], []), ([], []), ([2], [2]), ([], []), ([4, 3], [4]), ([3, 5, 5], [3, 5]), ([0, 1, 6, 6], [0, 1, 6]), ([7], [7]), ([7], [7]), ([8, 7, 0, 1, 2, 3, 4, 5, 6, 7, 8, 9], [8]), ([9, 10, 0, 1, 2, 3, 4, 5, 6, 7, 8, 9, 10], [9])])
def derive_Seal.B1 : List Nat := [0, 0, 0, 4, 0, 28, 60, 127, 255, 255, 1023, 2047]
theorem derive_Seal.tab1 : rtab .any (opsOf Try.f19 1) = derive_Seal.T1 := by kernel_rfl
theorem derive_Seal.bits1 : waitsOk derive_Seal.T1.2 derive_Seal.B1 = true := by kernel_rfl
set_option maxHeartbeats 8000000 in
set_option maxRecDepth 100000 in
theorem derive_Seal.calls (a0_0 : Bool) (a0_1 : Int) (a0_2 : Int) (a0_3 : Int) (a0_4 : Int) (a0_5 : Int) (a1_0 : Bool) (a1_1 : Int) (a1_2 : Int) (a1_3 : Int) (a1_4 : Int) (a1_5 : Int) (r1 : Bool) (r2 : Int) (r3 : Int) (r4 : Int) (r5 : Int) (r6 : Int) (r7 : Int) (w : World) (h : derive_Seal.f a0_0 a0_1 a0_2 a0_3 a0_4 a0_5 a1_0 a1_1 a1_2 a1_3 a1_4 a1_5 = some (r1, r2, r3, r4, r5, r6, r7)) :
  Calls Try.prog 19 #[.agg #[.bool a0_0, .int .i64 a0_1, .int .i64 a0_2, .int .i64 a0_3, .int .i64 a0_4, .int .i64 a0_5], .agg #[.bool a1_0, .int .i64 a1_1, .int .i64 a1_2, .int .i64 a1_3, .int .i64 a1_4, .int .i64 a1_5]] w fun e w' => e = .returned (.tuple #[.agg #[.bool r1, .int .i64 r2, .int .i64 r3, .int .i64 r4, .int .i64 r5, .int .i64 r6], .int .i64 r7]) ∧ Below w.heap.size w w' := by
 have hu23 := Try.underlying23
 have hu46 := Try.underlying46
 have hmf : ∀ (fn : Fn) (first cap : Array Value) (w : World), (Instr.makeFunc fn first cap).run Try.prog w = .ok (.func fn first cap) w := fun _ _ _ _ => rfl
 have HB := Aside0.mk (Below.refl w.heap.size w)
 unfold derive_Seal.f at h
 obtain ⟨u, h0_, h⟩ := Option.bind_eq_some_iff.mp h
 have P0 := Aside0.mk h0_
 clear h0_
 obtain ⟨y, h1_, h⟩ := Option.bind_eq_some_iff.mp h
 have P1 := Aside0.mk h1_
 clear h1_
 obtain ⟨e, hf_, h⟩ := Option.bind_eq_some_iff.mp h
 have L_u := Aside0.mk (used_len P0.out)
 have L_y := Aside0.mk (authority_len P1.out)
 obtain ⟨z, e_z⟩ : ∃ y_ : List S46, y_ = u ++ y := ⟨_, rfl⟩
 have L_z := Aside0.mk (show z.length ≤ 20 by rw [e_z, List.length_append]; have := L_u.out; have := L_y.out; omega)
 have E_z := Aside0.mk e_z
 rw [← e_z] at hf_
 clear e_z
 have HF := Aside0.mk hf_
 have HH := Aside0.mk h
 clear hf_ h
 go_enter Try.func19, Try.ntmps19
 go_wp2_with (first | ((with_reducible refine gate_dst (N := 2) rfl ?_); refine box_event ?hg (N := 2) ?hd (cs := #[.bool a0_0, .int .i64 a0_1, .int .i64 a0_2, .int .i64 a0_3, .int .i64 a0_4, .int .i64 a0_5]) (t := 23) ?hr ?_; (case hd => rfl); (case hg => rfl); (case hr => first | (go_simp; done) | (go_simp; rfl)); intro gb0 hg w1 hbox hb; have GX_gb0 := Aside0.mk (show w.heap.size ≤ gb0 from by rw [hg]; exact HB.out.size); have BK_gb0 := Aside0.mk hbox; have nb_ := Aside0.mk (below_step HB.out hb); clear HB; have HB := nb_; clear nb_ hg hbox hb) | ((with_reducible refine gate_dst (N := 3) rfl ?_); refine box_event ?hg (N := 3) ?hd (cs := #[.bool a1_0, .int .i64 a1_1, .int .i64 a1_2, .int .i64 a1_3, .int .i64 a1_4, .int .i64 a1_5]) (t := 23) ?hr ?_; (case hd => rfl); (case hg => rfl); (case hr => first | (go_simp; done) | (go_simp; rfl)); intro gb1 hg w2 hbox hb; have NX_gb0_gb1 := Aside0.mk (show gb0 ≠ gb1 from by rw [hg]; exact Nat.ne_of_lt (blk_lt BK_gb0.out)); have GX_gb1 := Aside0.mk (show w.heap.size ≤ gb1 from by rw [hg]; exact HB.out.size); have n0_ := Aside0.mk (blk_below BK_gb0.out hb); clear BK_gb0; have BK_gb0 := n0_; clear n0_; have BK_gb1 := Aside0.mk hbox; have nb_ := Aside0.mk (below_step HB.out hb); clear HB; have HB := nb_; clear nb_ hg hbox hb) | ((with_reducible refine gate_dst (N := 4) rfl ?_); refine box_event ?hg (N := 4) ?hd (cs := #[.bool false, .int .i64 0, .int .i64 0, .int .i64 0, .int .i64 0, .int .i64 0]) (t := 23) ?hr ?_; (case hd => rfl); (case hg => rfl); (case hr => first | (go_simp; done) | (go_simp; rfl)); intro gR hg w3 hbox hb; have NX_gb0_gR := Aside0.mk (show gb0 ≠ gR from by rw [hg]; exact Nat.ne_of_lt (blk_lt BK_gb0.out)); have NX_gb1_gR := Aside0.mk (show gb1 ≠ gR from by rw [hg]; exact Nat.ne_of_lt (blk_lt BK_gb1.out)); have GX_gR := Aside0.mk (show w.heap.size ≤ gR from by rw [hg]; exact HB.out.size); have n0_ := Aside0.mk (blk_below BK_gb0.out hb); clear BK_gb0; have BK_gb0 := n0_; clear n0_; have n1_ := Aside0.mk (blk_below BK_gb1.out hb); clear BK_gb1; have BK_gb1 := n1_; clear n1_; have BK_gR := Aside0.mk hbox; have nb_ := Aside0.mk (below_step HB.out hb); clear HB; have HB := nb_; clear nb_ hg hbox hb))
 have n0_ := Aside0.mk (blk_drew BK_gb0.out)
 have n1_ := Aside0.mk (blk_drew BK_gb1.out)
 have n2_ := Aside0.mk (blk_drew BK_gR.out)
 have n3_ := Aside0.mk (below_drew1 HB.out)
 clear BK_gb0 BK_gb1 BK_gR HB
 have BK_gb0 := n0_
 have BK_gb1 := n1_
 have BK_gR := n2_
 have HB := n3_
 clear n0_ n1_ n2_ n3_
 refine start_ (n := 12) (S := fun w' => w'.cell? ⟨gb0, 0, none⟩ = some (.bool a0_0) ∧ w'.cell? ⟨gb0, 1, none⟩ = some (.int .i64 a0_1) ∧ w'.cell? ⟨gb0, 2, none⟩ = some (.int .i64 a0_2) ∧ w'.cell? ⟨gb0, 3, none⟩ = some (.int .i64 a0_3) ∧ w'.cell? ⟨gb0, 4, none⟩ = some (.int .i64 a0_4) ∧ w'.cell? ⟨gb0, 5, none⟩ = some (.int .i64 a0_5) ∧ w'.cell? ⟨gb1, 0, none⟩ = some (.bool a1_0) ∧ w'.cell? ⟨gb1, 1, none⟩ = some (.int .i64 a1_1) ∧ w'.cell? ⟨gb1, 2, none⟩ = some (.int .i64 a1_2) ∧ w'.cell? ⟨gb1, 3, none⟩ = some (.int .i64 a1_3) ∧ w'.cell? ⟨gb1, 4, none⟩ = some (.int .i64 a1_4) ∧ w'.cell? ⟨gb1, 5, none⟩ = some (.int .i64 a1_5)) (ds := []) m10_0 (by kernel_rfl) rfl rfl ⟨q7_ BK_gb0 0 rfl, q7_ BK_gb0 1 rfl, q7_ BK_gb0 2 rfl, q7_ BK_gb0 3 rfl, q7_ BK_gb0 4 rfl, q7_ BK_gb0 5 rfl, q7_ BK_gb1 0 rfl, q7_ BK_gb1 1 rfl, q7_ BK_gb1 2 rfl, q7_ BK_gb1 3 rfl, q7_ BK_gb1 4 rfl, q7_ BK_gb1 5 rfl⟩ (fun hHeld => ?_); refine with_tabW derive_Seal.tab1 derive_Seal.bits1 (fun HT_ HW_ => ?_)
 generalize w3.drew = w4 at BK_gb0 BK_gb1 BK_gR HB hHeld ⊢
 refine take_ (i := 0) (N := some 6) (v := ?_) (a' := ?_) m10_1 rfl rfl (take_ofW HT_.out HW_.out (by kernel_rfl)) (fun _ _ _ h => h) (Or.inl ⟨by rfl, ?_⟩) hHeld ?_ ?_
 rotate_left
 ·rintro w' ⟨s0, s1, s2, s3, s4, s5, s6, s7, s8, s9, s10, s11⟩
  go_simp
  with_reducible rfl
 rotate_left
 ·simp only [Act.put, q4_, q5_, q6_, i64_w, i32_w]
  rfl
 refine pure_ (i := 1) (N := some 7) (v := ?_) (a' := ?_) m10_2 rfl rfl (any_of HT_.out (by kernel_rfl)) (fun _ _ _ h => h) (Or.inl ⟨by rfl, ?_⟩) ?_ ?_
 rotate_left
 ·intro w'
  go_simp
  with_reducible rfl
 rotate_left
 ·simp only [Act.put, q4_, q5_, q6_, i64_w, i32_w]
  rfl
 refine take_ (i := 2) (N := some 8) (v := ?_) (a' := ?_) m10_3 rfl rfl (take_ofW HT_.out HW_.out (by kernel_rfl)) (fun _ _ _ h => h) (Or.inl ⟨by rfl, ?_⟩) hHeld ?_ ?_
 rotate_left
 ·rintro w' ⟨s0, s1, s2, s3, s4, s5, s6, s7, s8, s9, s10, s11⟩
  go_simp
  with_reducible rfl
 rotate_left
 ·simp only [Act.put, q4_, q5_, q6_, i64_w, i32_w]
  rfl
 refine take_ (i := 4) (N := some 10) (v := ?_) (a' := ?_) m10_4 rfl rfl (take_ofW HT_.out HW_.out (by kernel_rfl)) (fun _ _ _ h => h) (Or.inl ⟨by rfl, ?_⟩) hHeld ?_ ?_
 rotate_left
 ·rintro w' ⟨s0, s1, s2, s3, s4, s5, s6, s7, s8, s9, s10, s11⟩
  go_simp
  with_reducible rfl
 rotate_left
 ·simp only [Act.put, q4_, q5_, q6_, i64_w, i32_w]
  rfl
 refine one_ (i := 3) (N := some 9) m10_5 rfl rfl (one_of HT_.out (by kernel_rfl)) (by decide) (fun K hK => ?_)
 refine goes_ Try.func32 (by kernel_rfl) rfl #[.agg #[.bool a0_0, .int .i64 a0_1, .int .i64 a0_2, .int .i64 a0_3, .int .i64 a0_4, .int .i64 a0_5]] (by rfl) rfl rfl (by (try simp only [List.map_toArray, List.map_cons, List.map_nil]); first | done | rfl | (simp only [List.length_drop, List.length_take]; rfl)) ?_
 with_reducible refine (derive_used.calls a0_0 a0_1 a0_2 a0_3 a0_4 a0_5 u _ P0.out).mono ?_
 rintro e_ w5 ⟨v9, rfl, ho0, hb⟩
 refine ⟨_, rfl, ?_⟩
 have HO_v9 := Aside0.mk (Kd.R_lower ho0 HB.out.size)
 have n0_ := Aside0.mk (blk_below BK_gb0.out hb)
 have n1_ := Aside0.mk (blk_below BK_gb1.out hb)
 have n2_ := Aside0.mk (blk_below BK_gR.out hb)
 have n3_ := Aside0.mk (below_step HB.out hb)
 clear BK_gb0 BK_gb1 BK_gR HB
 have BK_gb0 := n0_
 have BK_gb1 := n1_
 have BK_gR := n2_
 have HB := n3_
 clear n0_ n1_ n2_ n3_
 clear ho0 hb
 obtain ⟨A9, k9, eo_⟩ := Kd.R_slice HO_v9.out
 subst eo_
 refine hK.out _ _ ⟨q7_ BK_gb0 0 rfl, q7_ BK_gb0 1 rfl, q7_ BK_gb0 2 rfl, q7_ BK_gb0 3 rfl, q7_ BK_gb0 4 rfl, q7_ BK_gb0 5 rfl, q7_ BK_gb1 0 rfl, q7_ BK_gb1 1 rfl, q7_ BK_gb1 2 rfl, q7_ BK_gb1 3 rfl, q7_ BK_gb1 4 rfl, q7_ BK_gb1 5 rfl⟩ (fun hHeld => ?_)
 clear hK K
 refine norm_ (a' := ?_) ?_ ?_
 rotate_left
 ·show Act.put _ (some 9) _ = _
  simp only [Act.put, q4_, q5_, q6_, i64_w, i32_w]
  rfl
 refine one_ (i := 5) (N := some 11) m10_6 rfl rfl (one_of HT_.out (by kernel_rfl)) (by decide) (fun K hK => ?_)
 refine goes_ Try.func44 (by kernel_rfl) rfl #[.agg #[.bool a1_0, .int .i64 a1_1, .int .i64 a1_2, .int .i64 a1_3, .int .i64 a1_4, .int .i64 a1_5], .int .i64 32] (by rfl) rfl rfl (by (try simp only [List.map_toArray, List.map_cons, List.map_nil]); first | done | rfl | (simp only [List.length_drop, List.length_take]; rfl)) ?_
 with_reducible refine (derive_authority.calls a1_0 a1_1 a1_2 a1_3 a1_4 a1_5 32 y _ P1.out).mono ?_
 rintro e_ w6 ⟨v11, rfl, ho0, hb⟩
 refine ⟨_, rfl, ?_⟩
 have HO_v11 := Aside0.mk (Kd.R_lower ho0 HB.out.size)
 have n0_ := Aside0.mk (blk_below BK_gb0.out hb)
 have n1_ := Aside0.mk (blk_below BK_gb1.out hb)
 have n2_ := Aside0.mk (blk_below BK_gR.out hb)
 have n3_ := Aside0.mk (Kd.R_below HO_v9.out hb)
 have n4_ := Aside0.mk (below_step HB.out hb)
 clear BK_gb0 BK_gb1 BK_gR HO_v9 HB
 have BK_gb0 := n0_
 have BK_gb1 := n1_
 have BK_gR := n2_
 have HO_v9 := n3_
 have HB := n4_
 clear n0_ n1_ n2_ n3_ n4_
 clear ho0 hb
 obtain ⟨A11, k11, eo_⟩ := Kd.R_slice HO_v11.out
 subst eo_
 refine hK.out _ _ ⟨q7_ BK_gb0 0 rfl, q7_ BK_gb0 1 rfl, q7_ BK_gb0 2 rfl, q7_ BK_gb0 3 rfl, q7_ BK_gb0 4 rfl, q7_ BK_gb0 5 rfl, q7_ BK_gb1 0 rfl, q7_ BK_gb1 1 rfl, q7_ BK_gb1 2 rfl, q7_ BK_gb1 3 rfl, q7_ BK_gb1 4 rfl, q7_ BK_gb1 5 rfl⟩ (fun hHeld => ?_)
 clear hK K
 refine norm_ (a' := ?_) ?_ ?_
 rotate_left
 ·show Act.put _ (some 11) _ = _
  simp only [Act.put, q4_, q5_, q6_, i64_w, i32_w]
  rfl
 refine one_ (i := 6) (N := some 12) m10_7 rfl rfl (one_of HT_.out (by kernel_rfl)) (by decide) (fun K hK => ?_)
 refine Kd.R_append_rows_step k46 (w0 := w) w.heap.size (by rfl) (.tmp 9) (.tmp 11) 43 46 (.agg #[(.bool false), (.int .i64 0)]) 16 rfl Try.underlying43 info46 rfl (by decide) (by omega) (.slice A9 u.length k9) u y _ _ _ (fun _ => True) (fun _ => False) rfl rfl ?aO ?aR (fun _ _ h => h) (fun _ h => h.elim) ?aF ?aB ?aS ?aL ?_
 (case aR => exact (Kd.R_reads' HO_v11.out).2.2)
 (case aB => exact HB.out)
 (case aF => exact fun _ _ => trivial)
 (case aO => exact HO_v9.out)
 (case aS => exact HB.out.size)
 (case aL => have := L_u.out; have := L_y.out; omega)
 intro v12 w7 ho hb hg hat
 rw [← E_z.out] at ho
 have n0_ := Aside0.mk (blk_grown BK_gb0.out hg (Kd.R_ne HO_v9.out BK_gb0.out (by decide)))
 have n1_ := Aside0.mk (blk_grown BK_gb1.out hg (Kd.R_ne HO_v9.out BK_gb1.out (by decide)))
 have n2_ := Aside0.mk (blk_grown BK_gR.out hg (Kd.R_ne HO_v9.out BK_gR.out (by decide)))
 have n3_ := Aside0.mk (hb)
 clear BK_gb0 BK_gb1 BK_gR HB HO_v9 HO_v11
 have BK_gb0 := n0_
 have BK_gb1 := n1_
 have BK_gR := n2_
 have HB := n3_
 clear n0_ n1_ n2_ n3_
 have HO_v12 := Aside0.mk ho
 clear ho hb hg hat
 obtain ⟨A12, k12, eo_⟩ := Kd.R_slice HO_v12.out
 subst eo_
 refine hK.out _ _ ⟨q7_ BK_gb0 0 rfl, q7_ BK_gb0 1 rfl, q7_ BK_gb0 2 rfl, q7_ BK_gb0 3 rfl, q7_ BK_gb0 4 rfl, q7_ BK_gb0 5 rfl, q7_ BK_gb1 0 rfl, q7_ BK_gb1 1 rfl, q7_ BK_gb1 2 rfl, q7_ BK_gb1 3 rfl, q7_ BK_gb1 4 rfl, q7_ BK_gb1 5 rfl⟩ (fun hHeld => ?_)
 clear hK K
 refine norm_ (a' := ?_) ?_ ?_
 rotate_left
 ·show Act.put _ (some 12) _ = _
  simp only [Act.put, q4_, q5_, q6_, i64_w, i32_w]
  rfl
 refine one_ (i := 7) (N := some 13) m10_8 rfl rfl (one_of HT_.out (by kernel_rfl)) (by decide) (fun K hK => ?_)
 refine goes_ Try.func30 (by kernel_rfl) rfl #[.agg #[.bool a0_0, .int .i64 a0_1, .int .i64 a0_2, .int .i64 a0_3, .int .i64 a0_4, .int .i64 a0_5], .func (.func 43) #[] #[.pointer (some ⟨gb1, 0, none⟩)], .slice A12 z.length k12] (by rfl) rfl rfl (by (try simp only [List.map_toArray, List.map_cons, List.map_nil]); first | done | rfl | (simp only [List.length_drop, List.length_take]; rfl)) ?_
 with_reducible refine (made_Seal _ a0_0 a0_1 a0_2 a0_3 a0_4 a0_5 gb1 a1_0 a1_1 a1_2 a1_3 a1_4 a1_5 A12 k12 z e r1 r2 r3 r4 r5 r6 r7 (Kd.R_reads' HO_v12.out).2.2 (Kd.R_reads' HO_v12.out).2.1 HF.out BK_gb1.out HH.out).mono ?_
 rintro q_ w8 ⟨rfl, hb⟩
 refine ⟨_, rfl, ?_⟩
 have n0_ := Aside0.mk (blk_below BK_gb0.out hb)
 have n1_ := Aside0.mk (blk_below BK_gb1.out hb)
 have n2_ := Aside0.mk (blk_below BK_gR.out hb)
 have n3_ := Aside0.mk (Kd.R_below HO_v12.out hb)
 have n4_ := Aside0.mk (below_step HB.out hb)
 clear BK_gb0 BK_gb1 BK_gR HO_v12 HB
 have BK_gb0 := n0_
 have BK_gb1 := n1_
 have BK_gR := n2_
 have HO_v12 := n3_
 have HB := n4_
 clear n0_ n1_ n2_ n3_ n4_
 clear hb
 refine hK.out _ _ ⟨q7_ BK_gb0 0 rfl, q7_ BK_gb0 1 rfl, q7_ BK_gb0 2 rfl, q7_ BK_gb0 3 rfl, q7_ BK_gb0 4 rfl, q7_ BK_gb0 5 rfl, q7_ BK_gb1 0 rfl, q7_ BK_gb1 1 rfl, q7_ BK_gb1 2 rfl, q7_ BK_gb1 3 rfl, q7_ BK_gb1 4 rfl, q7_ BK_gb1 5 rfl⟩ (fun hHeld => ?_)
 clear hK K
 refine norm_ (a' := ?_) ?_ ?_
 rotate_left
 ·show Act.put _ (some 13) _ = _
  simp only [Act.put, q4_, q5_, q6_, i64_w, i32_w]
  rfl
 refine pure_ (i := 8) (N := some 14) (v := ?_) (a' := ?_) m10_9 rfl rfl (any_of HT_.out (by kernel_rfl)) (fun _ _ _ h => h) (Or.inl ⟨by rfl, ?_⟩) ?_ ?_
 rotate_left
 ·intro w'
  go_simp
  with_reducible rfl
 rotate_left
 ·simp only [Act.put, q4_, q5_, q6_, i64_w, i32_w]
  rfl
 refine pure_ (i := 9) (N := some 15) (v := ?_) (a' := ?_) m10_10 rfl rfl (any_of HT_.out (by kernel_rfl)) (fun _ _ _ h => h) (Or.inl ⟨by rfl, ?_⟩) ?_ ?_
 rotate_left
 ·intro w'
  go_simp
  with_reducible rfl
 rotate_left
 ·simp only [Act.put, q4_, q5_, q6_, i64_w, i32_w]
  rfl
 refine one_ (i := 10) (N := none) m10_11 rfl rfl (one_of HT_.out (by kernel_rfl)) (by decide) (fun K hK => ?_)
 have f0_ := blk_frozen BK_gR.out 0
 have f1_ := blk_frozen BK_gR.out 1
 have f2_ := blk_frozen BK_gR.out 2
 have f3_ := blk_frozen BK_gR.out 3
 have f4_ := blk_frozen BK_gR.out 4
 have f5_ := blk_frozen BK_gR.out 5
 have d0_ : World.cell? _ ⟨gR, 0, none⟩ = some (.bool false) := q7_ BK_gR 0 rfl
 have d1_ : World.cell? _ ⟨gR, 1, none⟩ = some (.int .i64 0) := q7_ BK_gR 1 rfl
 have d2_ : World.cell? _ ⟨gR, 2, none⟩ = some (.int .i64 0) := q7_ BK_gR 2 rfl
 have d3_ : World.cell? _ ⟨gR, 3, none⟩ = some (.int .i64 0) := q7_ BK_gR 3 rfl
 have d4_ : World.cell? _ ⟨gR, 4, none⟩ = some (.int .i64 0) := q7_ BK_gR 4 rfl
 have d5_ : World.cell? _ ⟨gR, 5, none⟩ = some (.int .i64 0) := q7_ BK_gR 5 rfl
 refine skip_ (w1 := ?_) (by rfl) rfl ?_ ?_
 rotate_left
 ·go_simp
  rfl
 clear f0_ f1_ f2_ f3_ f4_ f5_ d0_ d1_ d2_ d3_ d4_ d5_
 have n0_ := Aside0.mk (set6_far (.bool r1) (.int .i64 r2) (.int .i64 r3) (.int .i64 r4) (.int .i64 r5) (.int .i64 r6) NX_gb0_gR.out BK_gb0.out)
 have n1_ := Aside0.mk (set6_far (.bool r1) (.int .i64 r2) (.int .i64 r3) (.int .i64 r4) (.int .i64 r5) (.int .i64 r6) NX_gb1_gR.out BK_gb1.out)
 have n2_ := Aside0.mk (set6_blk (.bool r1) (.int .i64 r2) (.int .i64 r3) (.int .i64 r4) (.int .i64 r5) (.int .i64 r6) BK_gR.out)
 have n3_ := Aside0.mk (set6_below (.bool r1) (.int .i64 r2) (.int .i64 r3) (.int .i64 r4) (.int .i64 r5) (.int .i64 r6) HB.out GX_gR.out)
 clear BK_gb0 BK_gb1 BK_gR HB HO_v12
 have BK_gb0 := n0_
 have BK_gb1 := n1_
 have BK_gR := n2_
 have HB := n3_
 clear n0_ n1_ n2_ n3_
 refine hK.out _ _ ⟨q7_ BK_gb0 0 rfl, q7_ BK_gb0 1 rfl, q7_ BK_gb0 2 rfl, q7_ BK_gb0 3 rfl, q7_ BK_gb0 4 rfl, q7_ BK_gb0 5 rfl, q7_ BK_gb1 0 rfl, q7_ BK_gb1 1 rfl, q7_ BK_gb1 2 rfl, q7_ BK_gb1 3 rfl, q7_ BK_gb1 4 rfl, q7_ BK_gb1 5 rfl⟩ (fun hHeld => ?_)
 clear hK K
 refine pure_ (i := 11) (N := some 5) (v := ?_) (a' := ?_) m10_12 rfl rfl (any_of HT_.out (by kernel_rfl)) (fun _ _ _ h => h) (Or.inl ⟨by rfl, ?_⟩) ?_ ?_
 rotate_left
 ·intro w'
  go_simp
  with_reducible rfl
 rotate_left
 ·simp only [Act.put, q4_, q5_, q6_, i64_w, i32_w]
  rfl
 refine done_ (done_of HT_.out (by kernel_rfl)) ?_
 try go_wp2
 refine bodyPost_ret (results_ct rfl _ _ gR 23 #[.bool r1, .int .i64 r2, .int .i64 r3, .int .i64 r4, .int .i64 r5, .int .i64 r6] (0, 0) _ rfl BK_gR.out Try.underlying23 rfl (by kernel_rfl)) rfl ?_
 exact ⟨rfl, HB.out⟩

end Go.Proofs.Ytgkmacgckoifaaa.PDr
-- shorter
