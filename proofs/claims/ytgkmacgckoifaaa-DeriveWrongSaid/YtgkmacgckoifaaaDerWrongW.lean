/- The walk of DeriveWrong: each of its ways, along what the functions answer there. -/
import Derived.Test.YtgkmacgckoifaaaDerFactsS
namespace Go.Proofs.Ytgkmacgckoifaaa.PDr
open Go.RowKit Go.Proofs.YtgkmacgckoifaaaW.PrintWords Go.Proofs.YtgkmacgckoifaaaW.PrintLast Go.Proofs.YtgkmacgckoifaaaW.PrintMore
set_option linter.unusedVariables false
set_option linter.unusedSimpArgs false
attribute [local go_sem high] eqA23
section
variable {P : Program} {ops : Array Oper} {rest : List Oper} {o : Oper} {a : Act} {Q : Exit → Act → World → Prop} {W : World}
/-- An operation that is to be done, and leaves the world as it is. -/
theorem guardOn_ {N : Option Tmp} {v : Value} (hw : Region.wanted o (yielded ops a.tmps) = true) (hN : o.dst = N) (hrun : (execOp a.eval o).run P W = .ok (.value v) W) (h : wpList P ops Q rest (a.put N v) W) : wpList P ops Q (o :: rest) a W := by
  subst hN
  refine wpList_step fun K hK => ?_
  rw [if_pos hw]
  unfold Oper.wp
  rw [hrun]
  exact hK _ _ h
/-- A store. -/
theorem put_ {w1 : World} (hw : Region.wanted o (yielded ops a.tmps) = true) (hN : o.dst = none) (hrun : (execOp a.eval o).run P W = .ok .skip w1) (h : wpList P ops Q rest a w1) : wpList P ops Q (o :: rest) a W := by
  refine wpList_step fun K hK => ?_
  rw [if_pos hw]
  unfold Oper.wp
  rw [hrun]
  show K (a.put o.dst undef) w1
  rw [hN]
  exact hK _ _ h
/-- An operation whose guard is off. -/
theorem guardOff_ (h : wpList P ops Q rest (a.put o.dst undef) W) (hw : Region.wanted o (yielded ops a.tmps) = false) : wpList P ops Q (o :: rest) a W := by
  refine wpList_step fun K hK => ?_
  rw [if_neg (by rw [hw]; decide)]
  exact hK _ _ h
end

set_option maxHeartbeats 8000000 in
set_option maxRecDepth 100000 in
theorem deriveWrong_not_true (a0_1 a0_2 a0_3 a0_4 a0_5 : Int) (a1_0 : Bool) (a1_1 a1_2 a1_3 a1_4 a1_5 : Int) (a2 : Int) (w : World) (hr : seizinref02_Right.f true a0_1 a0_2 a0_3 a0_4 a0_5 = some false) :
    Calls Try.prog 8 #[.agg #[.bool true, .int .i64 a0_1, .int .i64 a0_2, .int .i64 a0_3, .int .i64 a0_4, .int .i64 a0_5], .agg #[.bool a1_0, .int .i64 a1_1, .int .i64 a1_2, .int .i64 a1_3, .int .i64 a1_4, .int .i64 a1_5], .int .i64 a2] w fun e w' => e = .returned (.bool true) ∧ Below w.heap.size w w' := by
  have HH := Aside0.mk head_eq
  have HR := Aside0.mk hr
  clear hr
  have hu23 := Try.underlying23
  have HB := Aside0.mk (Below.refl w.heap.size w)
  go_enter Try.func8, Try.ntmps8
  go_wp2_with (first | ((with_reducible refine gate_dst (N := 3) rfl ?_); refine box_event ?hg (N := 3) ?hd (cs := #[.bool true, .int .i64 a0_1, .int .i64 a0_2, .int .i64 a0_3, .int .i64 a0_4, .int .i64 a0_5]) (t := 23) ?hr ?_; (case hd => rfl); (case hg => rfl); (case hr => first | (go_simp; done) | (go_simp; rfl)); intro gc hg w1 hbox hb; have GX_gc := Aside0.mk (show w.heap.size ≤ gc from by rw [hg]; exact (HB.out).size); have n0_ := Aside0.mk (below_step HB.out hb); clear HB; have HB := n0_; clear n0_; have BK_gc := Aside0.mk hbox; clear hg hbox hb; obtain ⟨c_gc_0, c_gc_1, c_gc_2, c_gc_3, c_gc_4, c_gc_5⟩ := q9_ BK_gc) | ((with_reducible refine gate_dst (N := 4) rfl ?_); refine box_event ?hg (N := 4) ?hd (cs := #[.bool a1_0, .int .i64 a1_1, .int .i64 a1_2, .int .i64 a1_3, .int .i64 a1_4, .int .i64 a1_5]) (t := 23) ?hr ?_; (case hd => rfl); (case hg => rfl); (case hr => first | (go_simp; done) | (go_simp; rfl)); intro gb hg w2 hbox hb; have NX_gc_gb := Aside0.mk (show gc ≠ gb from by rw [hg]; exact Nat.ne_of_lt (blk_lt BK_gc.out)); have GX_gb := Aside0.mk (show w.heap.size ≤ gb from by rw [hg]; exact (HB.out).size); have n0_ := Aside0.mk (blk_below BK_gc.out hb); have n1_ := Aside0.mk (below_step HB.out hb); clear HB BK_gc; have BK_gc := n0_; have HB := n1_; clear n0_ n1_; have BK_gb := Aside0.mk hbox; clear hg hbox hb; have nn_gc_gb := NX_gc_gb.out; have nm_gc_gb := Ne.symm NX_gc_gb.out; clear c_gc_0 c_gc_1 c_gc_2 c_gc_3 c_gc_4 c_gc_5; obtain ⟨c_gc_0, c_gc_1, c_gc_2, c_gc_3, c_gc_4, c_gc_5⟩ := q9_ BK_gc; obtain ⟨c_gb_0, c_gb_1, c_gb_2, c_gb_3, c_gb_4, c_gb_5⟩ := q9_ BK_gb) | ((with_reducible refine gate_callee (f := 10) rfl ?_); refine goesL_ (some 21) rfl rfl Try.func10 (by kernel_rfl) rfl #[] rfl (by (try simp only [List.map_toArray, List.map_cons, List.map_nil]); first | done | rfl) ?_; (with_reducible refine (seizinlaw04_head.calls true _ HH.out).mono ?_); rintro e_ w3 ⟨rfl, hb⟩; refine ⟨_, rfl, ?_⟩; have n0_ := Aside0.mk (blk_below BK_gc.out hb); have n1_ := Aside0.mk (blk_below BK_gb.out hb); have n2_ := Aside0.mk (below_step HB.out hb); clear HB BK_gc BK_gb; have BK_gc := n0_; have BK_gb := n1_; have HB := n2_; clear n0_ n1_ n2_; clear hb; clear c_gc_0 c_gc_1 c_gc_2 c_gc_3 c_gc_4 c_gc_5 c_gb_0 c_gb_1 c_gb_2 c_gb_3 c_gb_4 c_gb_5; obtain ⟨c_gc_0, c_gc_1, c_gc_2, c_gc_3, c_gc_4, c_gc_5⟩ := q9_ BK_gc; obtain ⟨c_gb_0, c_gb_1, c_gb_2, c_gb_3, c_gb_4, c_gb_5⟩ := q9_ BK_gb) | ((with_reducible refine gate_callee (f := 27) rfl ?_); refine goesL_ (some 23) rfl rfl Try.func27 (by kernel_rfl) rfl #[.agg #[.bool true, .int .i64 a0_1, .int .i64 a0_2, .int .i64 a0_3, .int .i64 a0_4, .int .i64 a0_5]] rfl (by (try simp only [List.map_toArray, List.map_cons, List.map_nil]); first | done | rfl) ?_; (with_reducible refine (seizinref02_Right.calls true a0_1 a0_2 a0_3 a0_4 a0_5 false _ HR.out).mono ?_); rintro e_ w4 ⟨rfl, hb⟩; refine ⟨_, rfl, ?_⟩; have n0_ := Aside0.mk (blk_below BK_gc.out hb); have n1_ := Aside0.mk (blk_below BK_gb.out hb); have n2_ := Aside0.mk (below_step HB.out hb); clear HB BK_gc BK_gb; have BK_gc := n0_; have BK_gb := n1_; have HB := n2_; clear n0_ n1_ n2_; clear hb; clear c_gc_0 c_gc_1 c_gc_2 c_gc_3 c_gc_4 c_gc_5 c_gb_0 c_gb_1 c_gb_2 c_gb_3 c_gb_4 c_gb_5; obtain ⟨c_gc_0, c_gc_1, c_gc_2, c_gc_3, c_gc_4, c_gc_5⟩ := q9_ BK_gc; obtain ⟨c_gb_0, c_gb_1, c_gb_2, c_gb_3, c_gb_4, c_gb_5⟩ := q9_ BK_gb))
  all_goals go_ret
  all_goals exact ⟨by first | rfl | (simp; done) | (simp [*]; done), HB.out⟩
set_option maxHeartbeats 8000000 in
set_option maxRecDepth 100000 in
theorem deriveWrong_not_false (a0_1 a0_2 a0_3 a0_4 a0_5 : Int) (a1_0 : Bool) (a1_1 a1_2 a1_3 a1_4 a1_5 : Int) (a2 : Int) (w : World) (hr : seizinref02_Right.f false a0_1 a0_2 a0_3 a0_4 a0_5 = some false) :
    Calls Try.prog 8 #[.agg #[.bool false, .int .i64 a0_1, .int .i64 a0_2, .int .i64 a0_3, .int .i64 a0_4, .int .i64 a0_5], .agg #[.bool a1_0, .int .i64 a1_1, .int .i64 a1_2, .int .i64 a1_3, .int .i64 a1_4, .int .i64 a1_5], .int .i64 a2] w fun e w' => e = .returned (.bool true) ∧ Below w.heap.size w w' := by
  have HH := Aside0.mk head_eq
  have HR := Aside0.mk hr
  clear hr
  have hu23 := Try.underlying23
  have HB := Aside0.mk (Below.refl w.heap.size w)
  go_enter Try.func8, Try.ntmps8
  go_wp2_with (first | ((with_reducible refine gate_dst (N := 3) rfl ?_); refine box_event ?hg (N := 3) ?hd (cs := #[.bool false, .int .i64 a0_1, .int .i64 a0_2, .int .i64 a0_3, .int .i64 a0_4, .int .i64 a0_5]) (t := 23) ?hr ?_; (case hd => rfl); (case hg => rfl); (case hr => first | (go_simp; done) | (go_simp; rfl)); intro gc hg w1 hbox hb; have GX_gc := Aside0.mk (show w.heap.size ≤ gc from by rw [hg]; exact (HB.out).size); have n0_ := Aside0.mk (below_step HB.out hb); clear HB; have HB := n0_; clear n0_; have BK_gc := Aside0.mk hbox; clear hg hbox hb; obtain ⟨c_gc_0, c_gc_1, c_gc_2, c_gc_3, c_gc_4, c_gc_5⟩ := q9_ BK_gc) | ((with_reducible refine gate_dst (N := 4) rfl ?_); refine box_event ?hg (N := 4) ?hd (cs := #[.bool a1_0, .int .i64 a1_1, .int .i64 a1_2, .int .i64 a1_3, .int .i64 a1_4, .int .i64 a1_5]) (t := 23) ?hr ?_; (case hd => rfl); (case hg => rfl); (case hr => first | (go_simp; done) | (go_simp; rfl)); intro gb hg w2 hbox hb; have NX_gc_gb := Aside0.mk (show gc ≠ gb from by rw [hg]; exact Nat.ne_of_lt (blk_lt BK_gc.out)); have GX_gb := Aside0.mk (show w.heap.size ≤ gb from by rw [hg]; exact (HB.out).size); have n0_ := Aside0.mk (blk_below BK_gc.out hb); have n1_ := Aside0.mk (below_step HB.out hb); clear HB BK_gc; have BK_gc := n0_; have HB := n1_; clear n0_ n1_; have BK_gb := Aside0.mk hbox; clear hg hbox hb; have nn_gc_gb := NX_gc_gb.out; have nm_gc_gb := Ne.symm NX_gc_gb.out; clear c_gc_0 c_gc_1 c_gc_2 c_gc_3 c_gc_4 c_gc_5; obtain ⟨c_gc_0, c_gc_1, c_gc_2, c_gc_3, c_gc_4, c_gc_5⟩ := q9_ BK_gc; obtain ⟨c_gb_0, c_gb_1, c_gb_2, c_gb_3, c_gb_4, c_gb_5⟩ := q9_ BK_gb) | ((with_reducible refine gate_callee (f := 10) rfl ?_); refine goesL_ (some 21) rfl rfl Try.func10 (by kernel_rfl) rfl #[] rfl (by (try simp only [List.map_toArray, List.map_cons, List.map_nil]); first | done | rfl) ?_; (with_reducible refine (seizinlaw04_head.calls true _ HH.out).mono ?_); rintro e_ w3 ⟨rfl, hb⟩; refine ⟨_, rfl, ?_⟩; have n0_ := Aside0.mk (blk_below BK_gc.out hb); have n1_ := Aside0.mk (blk_below BK_gb.out hb); have n2_ := Aside0.mk (below_step HB.out hb); clear HB BK_gc BK_gb; have BK_gc := n0_; have BK_gb := n1_; have HB := n2_; clear n0_ n1_ n2_; clear hb; clear c_gc_0 c_gc_1 c_gc_2 c_gc_3 c_gc_4 c_gc_5 c_gb_0 c_gb_1 c_gb_2 c_gb_3 c_gb_4 c_gb_5; obtain ⟨c_gc_0, c_gc_1, c_gc_2, c_gc_3, c_gc_4, c_gc_5⟩ := q9_ BK_gc; obtain ⟨c_gb_0, c_gb_1, c_gb_2, c_gb_3, c_gb_4, c_gb_5⟩ := q9_ BK_gb) | ((with_reducible refine gate_callee (f := 27) rfl ?_); refine goesL_ (some 23) rfl rfl Try.func27 (by kernel_rfl) rfl #[.agg #[.bool false, .int .i64 a0_1, .int .i64 a0_2, .int .i64 a0_3, .int .i64 a0_4, .int .i64 a0_5]] rfl (by (try simp only [List.map_toArray, List.map_cons, List.map_nil]); first | done | rfl) ?_; (with_reducible refine (seizinref02_Right.calls false a0_1 a0_2 a0_3 a0_4 a0_5 false _ HR.out).mono ?_); rintro e_ w4 ⟨rfl, hb⟩; refine ⟨_, rfl, ?_⟩; have n0_ := Aside0.mk (blk_below BK_gc.out hb); have n1_ := Aside0.mk (blk_below BK_gb.out hb); have n2_ := Aside0.mk (below_step HB.out hb); clear HB BK_gc BK_gb; have BK_gc := n0_; have BK_gb := n1_; have HB := n2_; clear n0_ n1_ n2_; clear hb; clear c_gc_0 c_gc_1 c_gc_2 c_gc_3 c_gc_4 c_gc_5 c_gb_0 c_gb_1 c_gb_2 c_gb_3 c_gb_4 c_gb_5; obtain ⟨c_gc_0, c_gc_1, c_gc_2, c_gc_3, c_gc_4, c_gc_5⟩ := q9_ BK_gc; obtain ⟨c_gb_0, c_gb_1, c_gb_2, c_gb_3, c_gb_4, c_gb_5⟩ := q9_ BK_gb))
  all_goals go_ret
  all_goals exact ⟨by first | rfl | (simp; done) | (simp [*]; done), HB.out⟩
set_option maxHeartbeats 8000000 in
set_option maxRecDepth 100000 in
theorem deriveWrong_plain (a0_1 a0_2 a0_3 a0_4 a0_5 : Int) (a1_0 : Bool) (a1_1 a1_2 a1_3 a1_4 a1_5 : Int) (a2 : Int) (w : World) (hf : a0_5 = 0) (hr : seizinref02_Right.f true a0_1 a0_2 a0_3 a0_4 a0_5 = some true) :
    Calls Try.prog 8 #[.agg #[.bool true, .int .i64 a0_1, .int .i64 a0_2, .int .i64 a0_3, .int .i64 a0_4, .int .i64 a0_5], .agg #[.bool a1_0, .int .i64 a1_1, .int .i64 a1_2, .int .i64 a1_3, .int .i64 a1_4, .int .i64 a1_5], .int .i64 a2] w fun e w' => e = .returned (.bool true) ∧ Below w.heap.size w w' := by
  have HH := Aside0.mk head_eq
  have HR := Aside0.mk hr
  clear hr
  have hf0 : (a0_5 == 0) = true := beq_iff_eq.mpr hf
  clear hf
  have hu23 := Try.underlying23
  have HB := Aside0.mk (Below.refl w.heap.size w)
  go_enter Try.func8, Try.ntmps8
  go_wp2_with (first | ((with_reducible refine gate_dst (N := 3) rfl ?_); refine box_event ?hg (N := 3) ?hd (cs := #[.bool true, .int .i64 a0_1, .int .i64 a0_2, .int .i64 a0_3, .int .i64 a0_4, .int .i64 a0_5]) (t := 23) ?hr ?_; (case hd => rfl); (case hg => rfl); (case hr => first | (go_simp; done) | (go_simp; rfl)); intro gc hg w1 hbox hb; have GX_gc := Aside0.mk (show w.heap.size ≤ gc from by rw [hg]; exact (HB.out).size); have n0_ := Aside0.mk (below_step HB.out hb); clear HB; have HB := n0_; clear n0_; have BK_gc := Aside0.mk hbox; clear hg hbox hb; obtain ⟨c_gc_0, c_gc_1, c_gc_2, c_gc_3, c_gc_4, c_gc_5⟩ := q9_ BK_gc) | ((with_reducible refine gate_dst (N := 4) rfl ?_); refine box_event ?hg (N := 4) ?hd (cs := #[.bool a1_0, .int .i64 a1_1, .int .i64 a1_2, .int .i64 a1_3, .int .i64 a1_4, .int .i64 a1_5]) (t := 23) ?hr ?_; (case hd => rfl); (case hg => rfl); (case hr => first | (go_simp; done) | (go_simp; rfl)); intro gb hg w2 hbox hb; have NX_gc_gb := Aside0.mk (show gc ≠ gb from by rw [hg]; exact Nat.ne_of_lt (blk_lt BK_gc.out)); have GX_gb := Aside0.mk (show w.heap.size ≤ gb from by rw [hg]; exact (HB.out).size); have n0_ := Aside0.mk (blk_below BK_gc.out hb); have n1_ := Aside0.mk (below_step HB.out hb); clear HB BK_gc; have BK_gc := n0_; have HB := n1_; clear n0_ n1_; have BK_gb := Aside0.mk hbox; clear hg hbox hb; have nn_gc_gb := NX_gc_gb.out; have nm_gc_gb := Ne.symm NX_gc_gb.out; clear c_gc_0 c_gc_1 c_gc_2 c_gc_3 c_gc_4 c_gc_5; obtain ⟨c_gc_0, c_gc_1, c_gc_2, c_gc_3, c_gc_4, c_gc_5⟩ := q9_ BK_gc; obtain ⟨c_gb_0, c_gb_1, c_gb_2, c_gb_3, c_gb_4, c_gb_5⟩ := q9_ BK_gb) | ((with_reducible refine gate_callee (f := 10) rfl ?_); refine goesL_ (some 21) rfl rfl Try.func10 (by kernel_rfl) rfl #[] rfl (by (try simp only [List.map_toArray, List.map_cons, List.map_nil]); first | done | rfl) ?_; (with_reducible refine (seizinlaw04_head.calls true _ HH.out).mono ?_); rintro e_ w3 ⟨rfl, hb⟩; refine ⟨_, rfl, ?_⟩; have n0_ := Aside0.mk (blk_below BK_gc.out hb); have n1_ := Aside0.mk (blk_below BK_gb.out hb); have n2_ := Aside0.mk (below_step HB.out hb); clear HB BK_gc BK_gb; have BK_gc := n0_; have BK_gb := n1_; have HB := n2_; clear n0_ n1_ n2_; clear hb; clear c_gc_0 c_gc_1 c_gc_2 c_gc_3 c_gc_4 c_gc_5 c_gb_0 c_gb_1 c_gb_2 c_gb_3 c_gb_4 c_gb_5; obtain ⟨c_gc_0, c_gc_1, c_gc_2, c_gc_3, c_gc_4, c_gc_5⟩ := q9_ BK_gc; obtain ⟨c_gb_0, c_gb_1, c_gb_2, c_gb_3, c_gb_4, c_gb_5⟩ := q9_ BK_gb) | ((with_reducible refine gate_callee (f := 27) rfl ?_); refine goesL_ (some 23) rfl rfl Try.func27 (by kernel_rfl) rfl #[.agg #[.bool true, .int .i64 a0_1, .int .i64 a0_2, .int .i64 a0_3, .int .i64 a0_4, .int .i64 a0_5]] rfl (by (try simp only [List.map_toArray, List.map_cons, List.map_nil]); first | done | rfl) ?_; (with_reducible refine (seizinref02_Right.calls true a0_1 a0_2 a0_3 a0_4 a0_5 true _ HR.out).mono ?_); rintro e_ w4 ⟨rfl, hb⟩; refine ⟨_, rfl, ?_⟩; have n0_ := Aside0.mk (blk_below BK_gc.out hb); have n1_ := Aside0.mk (blk_below BK_gb.out hb); have n2_ := Aside0.mk (below_step HB.out hb); clear HB BK_gc BK_gb; have BK_gc := n0_; have BK_gb := n1_; have HB := n2_; clear n0_ n1_ n2_; clear hb; clear c_gc_0 c_gc_1 c_gc_2 c_gc_3 c_gc_4 c_gc_5 c_gb_0 c_gb_1 c_gb_2 c_gb_3 c_gb_4 c_gb_5; obtain ⟨c_gc_0, c_gc_1, c_gc_2, c_gc_3, c_gc_4, c_gc_5⟩ := q9_ BK_gc; obtain ⟨c_gb_0, c_gb_1, c_gb_2, c_gb_3, c_gb_4, c_gb_5⟩ := q9_ BK_gb))
  all_goals go_ret
  all_goals exact ⟨by first | rfl | (simp; done) | (simp [*]; done), HB.out⟩
set_option maxHeartbeats 8000000 in
set_option maxRecDepth 100000 in
theorem deriveWrong_clear (a0_1 a0_2 a0_3 a0_4 a0_5 : Int) (a1_0 : Bool) (a1_1 a1_2 a1_3 a1_4 a1_5 : Int) (a2 : Int) (w : World) (x3 : Int) (hr : seizinref02_Right.f false a0_1 a0_2 a0_3 a0_4 a0_5 = some true) (h0 : derive_Bounds.f false a0_1 a0_2 a0_3 a0_4 a0_5 a2 = some (false, 0, 0, 0, 0, 0, 41)) (h1 : derive_Perms.f false a0_1 a0_2 a0_3 a0_4 a0_5 a2 = some (false, 0, 0, 0, 0, 0, 41)) (h2 : derive_Seal.f false a0_1 a0_2 a0_3 a0_4 a0_5 a1_0 a1_1 a1_2 a1_3 a1_4 a1_5 = some (false, 0, 0, 0, 0, 0, 41)) (h3 : derive_Enter.f false a0_1 a0_2 a0_3 a0_4 a0_5 = some (false, 0, 0, 0, 0, 0, 41)) (h4 : derive_Move.f false a0_1 a0_2 a0_3 a0_4 a0_5 a2 = some (false, a0_1, a0_2, x3, a0_4, a0_5, 0)) (h5 : derive_Unseal.f false a0_1 a0_2 a0_3 a0_4 a0_5 a1_0 a1_1 a1_2 a1_3 a1_4 a1_5 = some (false, 0, 0, 0, 0, 0, 41)) :
    Calls Try.prog 8 #[.agg #[.bool false, .int .i64 a0_1, .int .i64 a0_2, .int .i64 a0_3, .int .i64 a0_4, .int .i64 a0_5], .agg #[.bool a1_0, .int .i64 a1_1, .int .i64 a1_2, .int .i64 a1_3, .int .i64 a1_4, .int .i64 a1_5], .int .i64 a2] w fun e w' => e = .returned (.bool true) ∧ Below w.heap.size w w' := by
  have HH := Aside0.mk head_eq
  have HR := Aside0.mk hr
  clear hr
  have H0 := Aside0.mk h0
  have H1 := Aside0.mk h1
  have H2 := Aside0.mk h2
  have H3 := Aside0.mk h3
  have H4 := Aside0.mk h4
  have H5 := Aside0.mk h5
  clear h0 h1 h2 h3 h4 h5
  have hu23 := Try.underlying23
  have HB := Aside0.mk (Below.refl w.heap.size w)
  go_enter Try.func8, Try.ntmps8
  go_wp2_with (first | ((with_reducible refine gate_dst (N := 3) rfl ?_); refine box_event ?hg (N := 3) ?hd (cs := #[.bool false, .int .i64 a0_1, .int .i64 a0_2, .int .i64 a0_3, .int .i64 a0_4, .int .i64 a0_5]) (t := 23) ?hr ?_; (case hd => rfl); (case hg => rfl); (case hr => first | (go_simp; done) | (go_simp; rfl)); intro gc hg w1 hbox hb; have GX_gc := Aside0.mk (show w.heap.size ≤ gc from by rw [hg]; exact (HB.out).size); have n0_ := Aside0.mk (below_step HB.out hb); clear HB; have HB := n0_; clear n0_; have BK_gc := Aside0.mk hbox; clear hg hbox hb; obtain ⟨c_gc_0, c_gc_1, c_gc_2, c_gc_3, c_gc_4, c_gc_5⟩ := q9_ BK_gc) | ((with_reducible refine gate_dst (N := 4) rfl ?_); refine box_event ?hg (N := 4) ?hd (cs := #[.bool a1_0, .int .i64 a1_1, .int .i64 a1_2, .int .i64 a1_3, .int .i64 a1_4, .int .i64 a1_5]) (t := 23) ?hr ?_; (case hd => rfl); (case hg => rfl); (case hr => first | (go_simp; done) | (go_simp; rfl)); intro gb hg w2 hbox hb; have NX_gc_gb := Aside0.mk (show gc ≠ gb from by rw [hg]; exact Nat.ne_of_lt (blk_lt BK_gc.out)); have GX_gb := Aside0.mk (show w.heap.size ≤ gb from by rw [hg]; exact (HB.out).size); have n0_ := Aside0.mk (blk_below BK_gc.out hb); have n1_ := Aside0.mk (below_step HB.out hb); clear HB BK_gc; have BK_gc := n0_; have HB := n1_; clear n0_ n1_; have BK_gb := Aside0.mk hbox; clear hg hbox hb; have nn_gc_gb := NX_gc_gb.out; have nm_gc_gb := Ne.symm NX_gc_gb.out; clear c_gc_0 c_gc_1 c_gc_2 c_gc_3 c_gc_4 c_gc_5; obtain ⟨c_gc_0, c_gc_1, c_gc_2, c_gc_3, c_gc_4, c_gc_5⟩ := q9_ BK_gc; obtain ⟨c_gb_0, c_gb_1, c_gb_2, c_gb_3, c_gb_4, c_gb_5⟩ := q9_ BK_gb) | ((with_reducible refine gate_callee (f := 10) rfl ?_); refine goesL_ (some 21) rfl rfl Try.func10 (by kernel_rfl) rfl #[] rfl (by (try simp only [List.map_toArray, List.map_cons, List.map_nil]); first | done | rfl) ?_; (with_reducible refine (seizinlaw04_head.calls true _ HH.out).mono ?_); rintro e_ w3 ⟨rfl, hb⟩; refine ⟨_, rfl, ?_⟩; have n0_ := Aside0.mk (blk_below BK_gc.out hb); have n1_ := Aside0.mk (blk_below BK_gb.out hb); have n2_ := Aside0.mk (below_step HB.out hb); clear HB BK_gc BK_gb; have BK_gc := n0_; have BK_gb := n1_; have HB := n2_; clear n0_ n1_ n2_; clear hb; clear c_gc_0 c_gc_1 c_gc_2 c_gc_3 c_gc_4 c_gc_5 c_gb_0 c_gb_1 c_gb_2 c_gb_3 c_gb_4 c_gb_5; obtain ⟨c_gc_0, c_gc_1, c_gc_2, c_gc_3, c_gc_4, c_gc_5⟩ := q9_ BK_gc; obtain ⟨c_gb_0, c_gb_1, c_gb_2, c_gb_3, c_gb_4, c_gb_5⟩ := q9_ BK_gb) | ((with_reducible refine gate_callee (f := 27) rfl ?_); refine goesL_ (some 23) rfl rfl Try.func27 (by kernel_rfl) rfl #[.agg #[.bool false, .int .i64 a0_1, .int .i64 a0_2, .int .i64 a0_3, .int .i64 a0_4, .int .i64 a0_5]] rfl (by (try simp only [List.map_toArray, List.map_cons, List.map_nil]); first | done | rfl) ?_; (with_reducible refine (seizinref02_Right.calls false a0_1 a0_2 a0_3 a0_4 a0_5 true _ HR.out).mono ?_); rintro e_ w4 ⟨rfl, hb⟩; refine ⟨_, rfl, ?_⟩; have n0_ := Aside0.mk (blk_below BK_gc.out hb); have n1_ := Aside0.mk (blk_below BK_gb.out hb); have n2_ := Aside0.mk (below_step HB.out hb); clear HB BK_gc BK_gb; have BK_gc := n0_; have BK_gb := n1_; have HB := n2_; clear n0_ n1_ n2_; clear hb; clear c_gc_0 c_gc_1 c_gc_2 c_gc_3 c_gc_4 c_gc_5 c_gb_0 c_gb_1 c_gb_2 c_gb_3 c_gb_4 c_gb_5; obtain ⟨c_gc_0, c_gc_1, c_gc_2, c_gc_3, c_gc_4, c_gc_5⟩ := q9_ BK_gc; obtain ⟨c_gb_0, c_gb_1, c_gb_2, c_gb_3, c_gb_4, c_gb_5⟩ := q9_ BK_gb) | ((with_reducible refine gate_callee (f := 11) rfl ?_); refine goesL_ (some 40) rfl rfl Try.func11 (by kernel_rfl) rfl #[.agg #[.bool false, .int .i64 a0_1, .int .i64 a0_2, .int .i64 a0_3, .int .i64 a0_4, .int .i64 a0_5], .int .i64 a2] rfl (by (try simp only [List.map_toArray, List.map_cons, List.map_nil]); first | done | rfl) ?_; (with_reducible refine (derive_Bounds.calls false a0_1 a0_2 a0_3 a0_4 a0_5 a2 false 0 0 0 0 0 41 _ H0.out).mono ?_); rintro e_ w5 ⟨rfl, hb⟩; refine ⟨_, rfl, ?_⟩; have n0_ := Aside0.mk (blk_below BK_gc.out hb); have n1_ := Aside0.mk (blk_below BK_gb.out hb); have n2_ := Aside0.mk (below_step HB.out hb); clear HB BK_gc BK_gb; have BK_gc := n0_; have BK_gb := n1_; have HB := n2_; clear n0_ n1_ n2_; clear hb; clear c_gc_0 c_gc_1 c_gc_2 c_gc_3 c_gc_4 c_gc_5 c_gb_0 c_gb_1 c_gb_2 c_gb_3 c_gb_4 c_gb_5; obtain ⟨c_gc_0, c_gc_1, c_gc_2, c_gc_3, c_gc_4, c_gc_5⟩ := q9_ BK_gc; obtain ⟨c_gb_0, c_gb_1, c_gb_2, c_gb_3, c_gb_4, c_gb_5⟩ := q9_ BK_gb) | ((with_reducible refine gate_dst (N := 9) rfl ?_); refine box_event ?hg (N := 9) ?hd (cs := #[.bool false, .int .i64 0, .int .i64 0, .int .i64 0, .int .i64 0, .int .i64 0]) (t := 23) ?hr ?_; (case hd => rfl); (case hg => rfl); (case hr => first | (go_simp; done) | (go_simp; rfl)); intro g0 hg w6 hbox hb; have NX_gc_g0 := Aside0.mk (show gc ≠ g0 from by rw [hg]; exact Nat.ne_of_lt (blk_lt BK_gc.out)); have NX_gb_g0 := Aside0.mk (show gb ≠ g0 from by rw [hg]; exact Nat.ne_of_lt (blk_lt BK_gb.out)); have GX_g0 := Aside0.mk (show w.heap.size ≤ g0 from by rw [hg]; exact (HB.out).size); have n0_ := Aside0.mk (blk_below BK_gc.out hb); have n1_ := Aside0.mk (blk_below BK_gb.out hb); have n2_ := Aside0.mk (below_step HB.out hb); clear HB BK_gc BK_gb; have BK_gc := n0_; have BK_gb := n1_; have HB := n2_; clear n0_ n1_ n2_; have BK_g0 := Aside0.mk hbox; clear hg hbox hb; have nn_gc_g0 := NX_gc_g0.out; have nm_gc_g0 := Ne.symm NX_gc_g0.out; have nn_gb_g0 := NX_gb_g0.out; have nm_gb_g0 := Ne.symm NX_gb_g0.out; clear c_gc_0 c_gc_1 c_gc_2 c_gc_3 c_gc_4 c_gc_5 c_gb_0 c_gb_1 c_gb_2 c_gb_3 c_gb_4 c_gb_5; obtain ⟨c_gc_0, c_gc_1, c_gc_2, c_gc_3, c_gc_4, c_gc_5⟩ := q9_ BK_gc; obtain ⟨c_gb_0, c_gb_1, c_gb_2, c_gb_3, c_gb_4, c_gb_5⟩ := q9_ BK_gb; obtain ⟨c_g0_0, c_g0_1, c_g0_2, c_g0_3, c_g0_4, c_g0_5⟩ := q9_ BK_g0; obtain ⟨f_g0_0, f_g0_1, f_g0_2, f_g0_3, f_g0_4, f_g0_5⟩ := q10_ BK_g0) | ((with_reducible refine gate_callee (f := 13) rfl ?_); refine goesL_ (some 46) rfl rfl Try.func13 (by kernel_rfl) rfl #[.agg #[.bool false, .int .i64 a0_1, .int .i64 a0_2, .int .i64 a0_3, .int .i64 a0_4, .int .i64 a0_5], .int .i64 a2] rfl (by (try simp only [List.map_toArray, List.map_cons, List.map_nil]); first | done | rfl) ?_; (with_reducible refine (derive_Perms.calls false a0_1 a0_2 a0_3 a0_4 a0_5 a2 false 0 0 0 0 0 41 _ H1.out).mono ?_); rintro e_ w7 ⟨rfl, hb⟩; refine ⟨_, rfl, ?_⟩; have n0_ := Aside0.mk (blk_below (set6_far _ _ _ _ _ _ NX_gc_g0.out BK_gc.out) hb); have n1_ := Aside0.mk (blk_below (set6_far _ _ _ _ _ _ NX_gb_g0.out BK_gb.out) hb); have n2_ := Aside0.mk (blk_below (set6_blk _ _ _ _ _ _ BK_g0.out) hb); have n3_ := Aside0.mk (below_step (set6_below _ _ _ _ _ _ HB.out GX_g0.out) hb); clear HB BK_gc BK_gb BK_g0; have BK_gc := n0_; have BK_gb := n1_; have BK_g0 := n2_; have HB := n3_; clear n0_ n1_ n2_ n3_; clear hb; clear c_gc_0 c_gc_1 c_gc_2 c_gc_3 c_gc_4 c_gc_5 c_gb_0 c_gb_1 c_gb_2 c_gb_3 c_gb_4 c_gb_5 c_g0_0 c_g0_1 c_g0_2 c_g0_3 c_g0_4 c_g0_5 f_g0_0 f_g0_1 f_g0_2 f_g0_3 f_g0_4 f_g0_5; obtain ⟨c_gc_0, c_gc_1, c_gc_2, c_gc_3, c_gc_4, c_gc_5⟩ := q9_ BK_gc; obtain ⟨c_gb_0, c_gb_1, c_gb_2, c_gb_3, c_gb_4, c_gb_5⟩ := q9_ BK_gb) | ((with_reducible refine gate_dst (N := 11) rfl ?_); refine box_event ?hg (N := 11) ?hd (cs := #[.bool false, .int .i64 0, .int .i64 0, .int .i64 0, .int .i64 0, .int .i64 0]) (t := 23) ?hr ?_; (case hd => rfl); (case hg => rfl); (case hr => first | (go_simp; done) | (go_simp; rfl)); intro g1 hg w8 hbox hb; have NX_gc_g1 := Aside0.mk (show gc ≠ g1 from by rw [hg]; exact Nat.ne_of_lt (blk_lt BK_gc.out)); have NX_gb_g1 := Aside0.mk (show gb ≠ g1 from by rw [hg]; exact Nat.ne_of_lt (blk_lt BK_gb.out)); have NX_g0_g1 := Aside0.mk (show g0 ≠ g1 from by rw [hg]; exact Nat.ne_of_lt (blk_lt BK_g0.out)); have GX_g1 := Aside0.mk (show w.heap.size ≤ g1 from by rw [hg]; exact (HB.out).size); have n0_ := Aside0.mk (blk_below BK_gc.out hb); have n1_ := Aside0.mk (blk_below BK_gb.out hb); have n2_ := Aside0.mk (blk_below BK_g0.out hb); have n3_ := Aside0.mk (below_step HB.out hb); clear HB BK_gc BK_gb BK_g0; have BK_gc := n0_; have BK_gb := n1_; have BK_g0 := n2_; have HB := n3_; clear n0_ n1_ n2_ n3_; have BK_g1 := Aside0.mk hbox; clear hg hbox hb; have nn_gc_g1 := NX_gc_g1.out; have nm_gc_g1 := Ne.symm NX_gc_g1.out; have nn_gb_g1 := NX_gb_g1.out; have nm_gb_g1 := Ne.symm NX_gb_g1.out; clear c_gc_0 c_gc_1 c_gc_2 c_gc_3 c_gc_4 c_gc_5 c_gb_0 c_gb_1 c_gb_2 c_gb_3 c_gb_4 c_gb_5; obtain ⟨c_gc_0, c_gc_1, c_gc_2, c_gc_3, c_gc_4, c_gc_5⟩ := q9_ BK_gc; obtain ⟨c_gb_0, c_gb_1, c_gb_2, c_gb_3, c_gb_4, c_gb_5⟩ := q9_ BK_gb; obtain ⟨c_g1_0, c_g1_1, c_g1_2, c_g1_3, c_g1_4, c_g1_5⟩ := q9_ BK_g1; obtain ⟨f_g1_0, f_g1_1, f_g1_2, f_g1_3, f_g1_4, f_g1_5⟩ := q10_ BK_g1) | ((with_reducible refine gate_callee (f := 19) rfl ?_); refine goesL_ (some 52) rfl rfl Try.func19 (by kernel_rfl) rfl #[.agg #[.bool false, .int .i64 a0_1, .int .i64 a0_2, .int .i64 a0_3, .int .i64 a0_4, .int .i64 a0_5], .agg #[.bool a1_0, .int .i64 a1_1, .int .i64 a1_2, .int .i64 a1_3, .int .i64 a1_4, .int .i64 a1_5]] rfl (by (try simp only [List.map_toArray, List.map_cons, List.map_nil]); first | done | rfl) ?_; (with_reducible refine (derive_Seal.calls false a0_1 a0_2 a0_3 a0_4 a0_5 a1_0 a1_1 a1_2 a1_3 a1_4 a1_5 false 0 0 0 0 0 41 _ H2.out).mono ?_); rintro e_ w9 ⟨rfl, hb⟩; refine ⟨_, rfl, ?_⟩; have n0_ := Aside0.mk (blk_below (set6_far _ _ _ _ _ _ NX_gc_g1.out BK_gc.out) hb); have n1_ := Aside0.mk (blk_below (set6_far _ _ _ _ _ _ NX_gb_g1.out BK_gb.out) hb); have n2_ := Aside0.mk (blk_below (set6_far _ _ _ _ _ _ NX_g0_g1.out BK_g0.out) hb); have n3_ := Aside0.mk (blk_below (set6_blk _ _ _ _ _ _ BK_g1.out) hb); have n4_ := Aside0.mk (below_step (set6_below _ _ _ _ _ _ HB.out GX_g1.out) hb); clear HB BK_gc BK_gb BK_g0 BK_g1; have BK_gc := n0_; have BK_gb := n1_; have BK_g0 := n2_; have BK_g1 := n3_; have HB := n4_; clear n0_ n1_ n2_ n3_ n4_; clear hb; clear c_gc_0 c_gc_1 c_gc_2 c_gc_3 c_gc_4 c_gc_5 c_gb_0 c_gb_1 c_gb_2 c_gb_3 c_gb_4 c_gb_5 c_g1_0 c_g1_1 c_g1_2 c_g1_3 c_g1_4 c_g1_5 f_g1_0 f_g1_1 f_g1_2 f_g1_3 f_g1_4 f_g1_5; obtain ⟨c_gc_0, c_gc_1, c_gc_2, c_gc_3, c_gc_4, c_gc_5⟩ := q9_ BK_gc; obtain ⟨c_gb_0, c_gb_1, c_gb_2, c_gb_3, c_gb_4, c_gb_5⟩ := q9_ BK_gb) | ((with_reducible refine gate_dst (N := 13) rfl ?_); refine box_event ?hg (N := 13) ?hd (cs := #[.bool false, .int .i64 0, .int .i64 0, .int .i64 0, .int .i64 0, .int .i64 0]) (t := 23) ?hr ?_; (case hd => rfl); (case hg => rfl); (case hr => first | (go_simp; done) | (go_simp; rfl)); intro g2 hg w10 hbox hb; have NX_gc_g2 := Aside0.mk (show gc ≠ g2 from by rw [hg]; exact Nat.ne_of_lt (blk_lt BK_gc.out)); have NX_gb_g2 := Aside0.mk (show gb ≠ g2 from by rw [hg]; exact Nat.ne_of_lt (blk_lt BK_gb.out)); have NX_g0_g2 := Aside0.mk (show g0 ≠ g2 from by rw [hg]; exact Nat.ne_of_lt (blk_lt BK_g0.out)); have NX_g1_g2 := Aside0.mk (show g1 ≠ g2 from by rw [hg]; exact Nat.ne_of_lt (blk_lt BK_g1.out)); have GX_g2 := Aside0.mk (show w.heap.size ≤ g2 from by rw [hg]; exact (HB.out).size); have n0_ := Aside0.mk (blk_below BK_gc.out hb); have n1_ := Aside0.mk (blk_below BK_gb.out hb); have n2_ := Aside0.mk (blk_below BK_g0.out hb); have n3_ := Aside0.mk (blk_below BK_g1.out hb); have n4_ := Aside0.mk (below_step HB.out hb); clear HB BK_gc BK_gb BK_g0 BK_g1; have BK_gc := n0_; have BK_gb := n1_; have BK_g0 := n2_; have BK_g1 := n3_; have HB := n4_; clear n0_ n1_ n2_ n3_ n4_; have BK_g2 := Aside0.mk hbox; clear hg hbox hb; have nn_gc_g2 := NX_gc_g2.out; have nm_gc_g2 := Ne.symm NX_gc_g2.out; have nn_gb_g2 := NX_gb_g2.out; have nm_gb_g2 := Ne.symm NX_gb_g2.out; clear c_gc_0 c_gc_1 c_gc_2 c_gc_3 c_gc_4 c_gc_5 c_gb_0 c_gb_1 c_gb_2 c_gb_3 c_gb_4 c_gb_5; obtain ⟨c_gc_0, c_gc_1, c_gc_2, c_gc_3, c_gc_4, c_gc_5⟩ := q9_ BK_gc; obtain ⟨c_gb_0, c_gb_1, c_gb_2, c_gb_3, c_gb_4, c_gb_5⟩ := q9_ BK_gb; obtain ⟨c_g2_0, c_g2_1, c_g2_2, c_g2_3, c_g2_4, c_g2_5⟩ := q9_ BK_g2; obtain ⟨f_g2_0, f_g2_1, f_g2_2, f_g2_3, f_g2_4, f_g2_5⟩ := q10_ BK_g2) | ((with_reducible refine gate_callee (f := 23) rfl ?_); refine goesL_ (some 57) rfl rfl Try.func23 (by kernel_rfl) rfl #[.agg #[.bool false, .int .i64 a0_1, .int .i64 a0_2, .int .i64 a0_3, .int .i64 a0_4, .int .i64 a0_5]] rfl (by (try simp only [List.map_toArray, List.map_cons, List.map_nil]); first | done | rfl) ?_; (with_reducible refine (derive_Enter.calls false a0_1 a0_2 a0_3 a0_4 a0_5 false 0 0 0 0 0 41 _ H3.out).mono ?_); rintro e_ w11 ⟨rfl, hb⟩; refine ⟨_, rfl, ?_⟩; have n0_ := Aside0.mk (blk_below (set6_far _ _ _ _ _ _ NX_gc_g2.out BK_gc.out) hb); have n1_ := Aside0.mk (blk_below (set6_far _ _ _ _ _ _ NX_gb_g2.out BK_gb.out) hb); have n2_ := Aside0.mk (blk_below (set6_far _ _ _ _ _ _ NX_g0_g2.out BK_g0.out) hb); have n3_ := Aside0.mk (blk_below (set6_far _ _ _ _ _ _ NX_g1_g2.out BK_g1.out) hb); have n4_ := Aside0.mk (blk_below (set6_blk _ _ _ _ _ _ BK_g2.out) hb); have n5_ := Aside0.mk (below_step (set6_below _ _ _ _ _ _ HB.out GX_g2.out) hb); clear HB BK_gc BK_gb BK_g0 BK_g1 BK_g2; have BK_gc := n0_; have BK_gb := n1_; have BK_g0 := n2_; have BK_g1 := n3_; have BK_g2 := n4_; have HB := n5_; clear n0_ n1_ n2_ n3_ n4_ n5_; clear hb; clear c_gc_0 c_gc_1 c_gc_2 c_gc_3 c_gc_4 c_gc_5 c_gb_0 c_gb_1 c_gb_2 c_gb_3 c_gb_4 c_gb_5 c_g2_0 c_g2_1 c_g2_2 c_g2_3 c_g2_4 c_g2_5 f_g2_0 f_g2_1 f_g2_2 f_g2_3 f_g2_4 f_g2_5; obtain ⟨c_gc_0, c_gc_1, c_gc_2, c_gc_3, c_gc_4, c_gc_5⟩ := q9_ BK_gc; obtain ⟨c_gb_0, c_gb_1, c_gb_2, c_gb_3, c_gb_4, c_gb_5⟩ := q9_ BK_gb) | ((with_reducible refine gate_dst (N := 15) rfl ?_); refine box_event ?hg (N := 15) ?hd (cs := #[.bool false, .int .i64 0, .int .i64 0, .int .i64 0, .int .i64 0, .int .i64 0]) (t := 23) ?hr ?_; (case hd => rfl); (case hg => rfl); (case hr => first | (go_simp; done) | (go_simp; rfl)); intro g3 hg w12 hbox hb; have NX_gc_g3 := Aside0.mk (show gc ≠ g3 from by rw [hg]; exact Nat.ne_of_lt (blk_lt BK_gc.out)); have NX_gb_g3 := Aside0.mk (show gb ≠ g3 from by rw [hg]; exact Nat.ne_of_lt (blk_lt BK_gb.out)); have NX_g0_g3 := Aside0.mk (show g0 ≠ g3 from by rw [hg]; exact Nat.ne_of_lt (blk_lt BK_g0.out)); have NX_g1_g3 := Aside0.mk (show g1 ≠ g3 from by rw [hg]; exact Nat.ne_of_lt (blk_lt BK_g1.out)); have NX_g2_g3 := Aside0.mk (show g2 ≠ g3 from by rw [hg]; exact Nat.ne_of_lt (blk_lt BK_g2.out)); have GX_g3 := Aside0.mk (show w.heap.size ≤ g3 from by rw [hg]; exact (HB.out).size); have n0_ := Aside0.mk (blk_below BK_gc.out hb); have n1_ := Aside0.mk (blk_below BK_gb.out hb); have n2_ := Aside0.mk (blk_below BK_g0.out hb); have n3_ := Aside0.mk (blk_below BK_g1.out hb); have n4_ := Aside0.mk (blk_below BK_g2.out hb); have n5_ := Aside0.mk (below_step HB.out hb); clear HB BK_gc BK_gb BK_g0 BK_g1 BK_g2; have BK_gc := n0_; have BK_gb := n1_; have BK_g0 := n2_; have BK_g1 := n3_; have BK_g2 := n4_; have HB := n5_; clear n0_ n1_ n2_ n3_ n4_ n5_; have BK_g3 := Aside0.mk hbox; clear hg hbox hb; have nn_gc_g3 := NX_gc_g3.out; have nm_gc_g3 := Ne.symm NX_gc_g3.out; have nn_gb_g3 := NX_gb_g3.out; have nm_gb_g3 := Ne.symm NX_gb_g3.out; clear c_gc_0 c_gc_1 c_gc_2 c_gc_3 c_gc_4 c_gc_5 c_gb_0 c_gb_1 c_gb_2 c_gb_3 c_gb_4 c_gb_5; obtain ⟨c_gc_0, c_gc_1, c_gc_2, c_gc_3, c_gc_4, c_gc_5⟩ := q9_ BK_gc; obtain ⟨c_gb_0, c_gb_1, c_gb_2, c_gb_3, c_gb_4, c_gb_5⟩ := q9_ BK_gb; obtain ⟨c_g3_0, c_g3_1, c_g3_2, c_g3_3, c_g3_4, c_g3_5⟩ := q9_ BK_g3; obtain ⟨f_g3_0, f_g3_1, f_g3_2, f_g3_3, f_g3_4, f_g3_5⟩ := q10_ BK_g3) | ((with_reducible refine gate_callee (f := 15) rfl ?_); refine goesL_ (some 63) rfl rfl Try.func15 (by kernel_rfl) rfl #[.agg #[.bool false, .int .i64 a0_1, .int .i64 a0_2, .int .i64 a0_3, .int .i64 a0_4, .int .i64 a0_5], .int .i64 a2] rfl (by (try simp only [List.map_toArray, List.map_cons, List.map_nil]); first | done | rfl) ?_; (with_reducible refine (derive_Move.calls false a0_1 a0_2 a0_3 a0_4 a0_5 a2 false a0_1 a0_2 x3 a0_4 a0_5 0 _ H4.out).mono ?_); rintro e_ w13 ⟨rfl, hb⟩; refine ⟨_, rfl, ?_⟩; have n0_ := Aside0.mk (blk_below (set6_far _ _ _ _ _ _ NX_gc_g3.out BK_gc.out) hb); have n1_ := Aside0.mk (blk_below (set6_far _ _ _ _ _ _ NX_gb_g3.out BK_gb.out) hb); have n2_ := Aside0.mk (blk_below (set6_far _ _ _ _ _ _ NX_g0_g3.out BK_g0.out) hb); have n3_ := Aside0.mk (blk_below (set6_far _ _ _ _ _ _ NX_g1_g3.out BK_g1.out) hb); have n4_ := Aside0.mk (blk_below (set6_far _ _ _ _ _ _ NX_g2_g3.out BK_g2.out) hb); have n5_ := Aside0.mk (blk_below (set6_blk _ _ _ _ _ _ BK_g3.out) hb); have n6_ := Aside0.mk (below_step (set6_below _ _ _ _ _ _ HB.out GX_g3.out) hb); clear HB BK_gc BK_gb BK_g0 BK_g1 BK_g2 BK_g3; have BK_gc := n0_; have BK_gb := n1_; have BK_g0 := n2_; have BK_g1 := n3_; have BK_g2 := n4_; have BK_g3 := n5_; have HB := n6_; clear n0_ n1_ n2_ n3_ n4_ n5_ n6_; clear hb; clear c_gc_0 c_gc_1 c_gc_2 c_gc_3 c_gc_4 c_gc_5 c_gb_0 c_gb_1 c_gb_2 c_gb_3 c_gb_4 c_gb_5 c_g3_0 c_g3_1 c_g3_2 c_g3_3 c_g3_4 c_g3_5 f_g3_0 f_g3_1 f_g3_2 f_g3_3 f_g3_4 f_g3_5; obtain ⟨c_gc_0, c_gc_1, c_gc_2, c_gc_3, c_gc_4, c_gc_5⟩ := q9_ BK_gc; obtain ⟨c_gb_0, c_gb_1, c_gb_2, c_gb_3, c_gb_4, c_gb_5⟩ := q9_ BK_gb) | ((with_reducible refine gate_dst (N := 17) rfl ?_); refine box_event ?hg (N := 17) ?hd (cs := #[.bool false, .int .i64 0, .int .i64 0, .int .i64 0, .int .i64 0, .int .i64 0]) (t := 23) ?hr ?_; (case hd => rfl); (case hg => rfl); (case hr => first | (go_simp; done) | (go_simp; rfl)); intro g4 hg w14 hbox hb; have NX_gc_g4 := Aside0.mk (show gc ≠ g4 from by rw [hg]; exact Nat.ne_of_lt (blk_lt BK_gc.out)); have NX_gb_g4 := Aside0.mk (show gb ≠ g4 from by rw [hg]; exact Nat.ne_of_lt (blk_lt BK_gb.out)); have NX_g0_g4 := Aside0.mk (show g0 ≠ g4 from by rw [hg]; exact Nat.ne_of_lt (blk_lt BK_g0.out)); have NX_g1_g4 := Aside0.mk (show g1 ≠ g4 from by rw [hg]; exact Nat.ne_of_lt (blk_lt BK_g1.out)); have NX_g2_g4 := Aside0.mk (show g2 ≠ g4 from by rw [hg]; exact Nat.ne_of_lt (blk_lt BK_g2.out)); have NX_g3_g4 := Aside0.mk (show g3 ≠ g4 from by rw [hg]; exact Nat.ne_of_lt (blk_lt BK_g3.out)); have GX_g4 := Aside0.mk (show w.heap.size ≤ g4 from by rw [hg]; exact (HB.out).size); have n0_ := Aside0.mk (blk_below BK_gc.out hb); have n1_ := Aside0.mk (blk_below BK_gb.out hb); have n2_ := Aside0.mk (blk_below BK_g0.out hb); have n3_ := Aside0.mk (blk_below BK_g1.out hb); have n4_ := Aside0.mk (blk_below BK_g2.out hb); have n5_ := Aside0.mk (blk_below BK_g3.out hb); have n6_ := Aside0.mk (below_step HB.out hb); clear HB BK_gc BK_gb BK_g0 BK_g1 BK_g2 BK_g3; have BK_gc := n0_; have BK_gb := n1_; have BK_g0 := n2_; have BK_g1 := n3_; have BK_g2 := n4_; have BK_g3 := n5_; have HB := n6_; clear n0_ n1_ n2_ n3_ n4_ n5_ n6_; have BK_g4 := Aside0.mk hbox; clear hg hbox hb; have nn_gc_g4 := NX_gc_g4.out; have nm_gc_g4 := Ne.symm NX_gc_g4.out; have nn_gb_g4 := NX_gb_g4.out; have nm_gb_g4 := Ne.symm NX_gb_g4.out; clear c_gc_0 c_gc_1 c_gc_2 c_gc_3 c_gc_4 c_gc_5 c_gb_0 c_gb_1 c_gb_2 c_gb_3 c_gb_4 c_gb_5; obtain ⟨c_gc_0, c_gc_1, c_gc_2, c_gc_3, c_gc_4, c_gc_5⟩ := q9_ BK_gc; obtain ⟨c_gb_0, c_gb_1, c_gb_2, c_gb_3, c_gb_4, c_gb_5⟩ := q9_ BK_gb; obtain ⟨c_g4_0, c_g4_1, c_g4_2, c_g4_3, c_g4_4, c_g4_5⟩ := q9_ BK_g4; obtain ⟨f_g4_0, f_g4_1, f_g4_2, f_g4_3, f_g4_4, f_g4_5⟩ := q10_ BK_g4) | ((with_reducible refine gate_callee (f := 21) rfl ?_); refine goesL_ (some 69) rfl rfl Try.func21 (by kernel_rfl) rfl #[.agg #[.bool false, .int .i64 a0_1, .int .i64 a0_2, .int .i64 a0_3, .int .i64 a0_4, .int .i64 a0_5], .agg #[.bool a1_0, .int .i64 a1_1, .int .i64 a1_2, .int .i64 a1_3, .int .i64 a1_4, .int .i64 a1_5]] rfl (by (try simp only [List.map_toArray, List.map_cons, List.map_nil]); first | done | rfl) ?_; (with_reducible refine (derive_Unseal.calls false a0_1 a0_2 a0_3 a0_4 a0_5 a1_0 a1_1 a1_2 a1_3 a1_4 a1_5 false 0 0 0 0 0 41 _ H5.out).mono ?_); rintro e_ w15 ⟨rfl, hb⟩; refine ⟨_, rfl, ?_⟩; have n0_ := Aside0.mk (blk_below (set6_far _ _ _ _ _ _ NX_gc_g4.out BK_gc.out) hb); have n1_ := Aside0.mk (blk_below (set6_far _ _ _ _ _ _ NX_gb_g4.out BK_gb.out) hb); have n2_ := Aside0.mk (blk_below (set6_far _ _ _ _ _ _ NX_g0_g4.out BK_g0.out) hb); have n3_ := Aside0.mk (blk_below (set6_far _ _ _ _ _ _ NX_g1_g4.out BK_g1.out) hb); have n4_ := Aside0.mk (blk_below (set6_far _ _ _ _ _ _ NX_g2_g4.out BK_g2.out) hb); have n5_ := Aside0.mk (blk_below (set6_far _ _ _ _ _ _ NX_g3_g4.out BK_g3.out) hb); have n6_ := Aside0.mk (blk_below (set6_blk _ _ _ _ _ _ BK_g4.out) hb); have n7_ := Aside0.mk (below_step (set6_below _ _ _ _ _ _ HB.out GX_g4.out) hb); clear HB BK_gc BK_gb BK_g0 BK_g1 BK_g2 BK_g3 BK_g4; have BK_gc := n0_; have BK_gb := n1_; have BK_g0 := n2_; have BK_g1 := n3_; have BK_g2 := n4_; have BK_g3 := n5_; have BK_g4 := n6_; have HB := n7_; clear n0_ n1_ n2_ n3_ n4_ n5_ n6_ n7_; clear hb; clear c_gc_0 c_gc_1 c_gc_2 c_gc_3 c_gc_4 c_gc_5 c_gb_0 c_gb_1 c_gb_2 c_gb_3 c_gb_4 c_gb_5 c_g4_0 c_g4_1 c_g4_2 c_g4_3 c_g4_4 c_g4_5 f_g4_0 f_g4_1 f_g4_2 f_g4_3 f_g4_4 f_g4_5; obtain ⟨c_gc_0, c_gc_1, c_gc_2, c_gc_3, c_gc_4, c_gc_5⟩ := q9_ BK_gc; obtain ⟨c_gb_0, c_gb_1, c_gb_2, c_gb_3, c_gb_4, c_gb_5⟩ := q9_ BK_gb; obtain ⟨c_g4_0, c_g4_1, c_g4_2, c_g4_3, c_g4_4, c_g4_5⟩ := q9_ BK_g4) | ((with_reducible refine gate_dst (N := 19) rfl ?_); refine box_event ?hg (N := 19) ?hd (cs := #[.bool false, .int .i64 0, .int .i64 0, .int .i64 0, .int .i64 0, .int .i64 0]) (t := 23) ?hr ?_; (case hd => rfl); (case hg => rfl); (case hr => first | (go_simp; done) | (go_simp; rfl)); intro g5 hg w16 hbox hb; have NX_gc_g5 := Aside0.mk (show gc ≠ g5 from by rw [hg]; exact Nat.ne_of_lt (blk_lt BK_gc.out)); have NX_gb_g5 := Aside0.mk (show gb ≠ g5 from by rw [hg]; exact Nat.ne_of_lt (blk_lt BK_gb.out)); have NX_g0_g5 := Aside0.mk (show g0 ≠ g5 from by rw [hg]; exact Nat.ne_of_lt (blk_lt BK_g0.out)); have NX_g1_g5 := Aside0.mk (show g1 ≠ g5 from by rw [hg]; exact Nat.ne_of_lt (blk_lt BK_g1.out)); have NX_g2_g5 := Aside0.mk (show g2 ≠ g5 from by rw [hg]; exact Nat.ne_of_lt (blk_lt BK_g2.out)); have NX_g3_g5 := Aside0.mk (show g3 ≠ g5 from by rw [hg]; exact Nat.ne_of_lt (blk_lt BK_g3.out)); have NX_g4_g5 := Aside0.mk (show g4 ≠ g5 from by rw [hg]; exact Nat.ne_of_lt (blk_lt BK_g4.out)); have GX_g5 := Aside0.mk (show w.heap.size ≤ g5 from by rw [hg]; exact (HB.out).size); have n0_ := Aside0.mk (blk_below BK_gc.out hb); have n1_ := Aside0.mk (blk_below BK_gb.out hb); have n2_ := Aside0.mk (blk_below BK_g0.out hb); have n3_ := Aside0.mk (blk_below BK_g1.out hb); have n4_ := Aside0.mk (blk_below BK_g2.out hb); have n5_ := Aside0.mk (blk_below BK_g3.out hb); have n6_ := Aside0.mk (blk_below BK_g4.out hb); have n7_ := Aside0.mk (below_step HB.out hb); clear HB BK_gc BK_gb BK_g0 BK_g1 BK_g2 BK_g3 BK_g4; have BK_gc := n0_; have BK_gb := n1_; have BK_g0 := n2_; have BK_g1 := n3_; have BK_g2 := n4_; have BK_g3 := n5_; have BK_g4 := n6_; have HB := n7_; clear n0_ n1_ n2_ n3_ n4_ n5_ n6_ n7_; have BK_g5 := Aside0.mk hbox; clear hg hbox hb; have nn_gc_g5 := NX_gc_g5.out; have nm_gc_g5 := Ne.symm NX_gc_g5.out; have nn_gb_g5 := NX_gb_g5.out; have nm_gb_g5 := Ne.symm NX_gb_g5.out; have nn_g4_g5 := NX_g4_g5.out; have nm_g4_g5 := Ne.symm NX_g4_g5.out; clear c_gc_0 c_gc_1 c_gc_2 c_gc_3 c_gc_4 c_gc_5 c_gb_0 c_gb_1 c_gb_2 c_gb_3 c_gb_4 c_gb_5 c_g4_0 c_g4_1 c_g4_2 c_g4_3 c_g4_4 c_g4_5; obtain ⟨c_gc_0, c_gc_1, c_gc_2, c_gc_3, c_gc_4, c_gc_5⟩ := q9_ BK_gc; obtain ⟨c_gb_0, c_gb_1, c_gb_2, c_gb_3, c_gb_4, c_gb_5⟩ := q9_ BK_gb; obtain ⟨c_g4_0, c_g4_1, c_g4_2, c_g4_3, c_g4_4, c_g4_5⟩ := q9_ BK_g4; obtain ⟨c_g5_0, c_g5_1, c_g5_2, c_g5_3, c_g5_4, c_g5_5⟩ := q9_ BK_g5; obtain ⟨f_g5_0, f_g5_1, f_g5_2, f_g5_3, f_g5_4, f_g5_5⟩ := q10_ BK_g5))
  all_goals go_ret
  all_goals exact ⟨by first | rfl | (simp; done) | (simp [*]; done), (set6_below _ _ _ _ _ _ HB.out GX_g5.out)⟩
set_option maxHeartbeats 8000000 in
set_option maxRecDepth 100000 in
theorem deriveWrong_sealed (a0_1 a0_2 a0_3 a0_4 a0_5 : Int) (a1_0 : Bool) (a1_1 a1_2 a1_3 a1_4 a1_5 : Int) (a2 : Int) (w : World) (z : Int) (hz : z ≠ 0) (hf : a0_5 ≠ 0) (hr : seizinref02_Right.f true a0_1 a0_2 a0_3 a0_4 a0_5 = some true) (h0 : derive_Bounds.f true a0_1 a0_2 a0_3 a0_4 a0_5 a2 = some (false, 0, 0, 0, 0, 0, 42)) (h1 : derive_Perms.f true a0_1 a0_2 a0_3 a0_4 a0_5 a2 = some (false, 0, 0, 0, 0, 0, 42)) (h2 : derive_Seal.f true a0_1 a0_2 a0_3 a0_4 a0_5 a1_0 a1_1 a1_2 a1_3 a1_4 a1_5 = some (false, 0, 0, 0, 0, 0, 42)) (h3 : derive_Enter.f true a0_1 a0_2 a0_3 a0_4 a0_5 = some (false, 0, 0, 0, 0, 0, 42)) (h4 : derive_Move.f true a0_1 a0_2 a0_3 a0_4 a0_5 a2 = some (false, 0, 0, 0, 0, 0, 42)) (h5 : derive_Unseal.f true a0_1 a0_2 a0_3 a0_4 a0_5 a1_0 a1_1 a1_2 a1_3 a1_4 a1_5 = some (false, 0, 0, 0, 0, 0, z)) :
    Calls Try.prog 8 #[.agg #[.bool true, .int .i64 a0_1, .int .i64 a0_2, .int .i64 a0_3, .int .i64 a0_4, .int .i64 a0_5], .agg #[.bool a1_0, .int .i64 a1_1, .int .i64 a1_2, .int .i64 a1_3, .int .i64 a1_4, .int .i64 a1_5], .int .i64 a2] w fun e w' => e = .returned (.bool true) ∧ Below w.heap.size w w' := by
  have HH := Aside0.mk head_eq
  have HR := Aside0.mk hr
  clear hr
  have H0 := Aside0.mk h0
  have H1 := Aside0.mk h1
  have H2 := Aside0.mk h2
  have H3 := Aside0.mk h3
  have H4 := Aside0.mk h4
  have H5 := Aside0.mk h5
  clear h0 h1 h2 h3 h4 h5
  have hf0 : (a0_5 == 0) = false := beq_eq_false_iff_ne.mpr hf
  clear hf
  have hz0 : (z == 0) = false := beq_eq_false_iff_ne.mpr hz
  have hz1 : (z != 0) = true := bne_iff_ne.mpr hz
  clear hz
  have hu23 := Try.underlying23
  have HB := Aside0.mk (Below.refl w.heap.size w)
  go_enter Try.func8, Try.ntmps8
  go_upto_region 13 with (first | ((with_reducible refine gate_dst (N := 3) rfl ?_); refine box_event ?hg (N := 3) ?hd (cs := #[.bool true, .int .i64 a0_1, .int .i64 a0_2, .int .i64 a0_3, .int .i64 a0_4, .int .i64 a0_5]) (t := 23) ?hr ?_; (case hd => rfl); (case hg => rfl); (case hr => first | (go_simp; done) | (go_simp; rfl)); intro gc hg w1 hbox hb; have GX_gc := Aside0.mk (show w.heap.size ≤ gc from by rw [hg]; exact (HB.out).size); have n0_ := Aside0.mk (below_step HB.out hb); clear HB; have HB := n0_; clear n0_; have BK_gc := Aside0.mk hbox; clear hg hbox hb; obtain ⟨c_gc_0, c_gc_1, c_gc_2, c_gc_3, c_gc_4, c_gc_5⟩ := q9_ BK_gc) | ((with_reducible refine gate_dst (N := 4) rfl ?_); refine box_event ?hg (N := 4) ?hd (cs := #[.bool a1_0, .int .i64 a1_1, .int .i64 a1_2, .int .i64 a1_3, .int .i64 a1_4, .int .i64 a1_5]) (t := 23) ?hr ?_; (case hd => rfl); (case hg => rfl); (case hr => first | (go_simp; done) | (go_simp; rfl)); intro gb hg w2 hbox hb; have NX_gc_gb := Aside0.mk (show gc ≠ gb from by rw [hg]; exact Nat.ne_of_lt (blk_lt BK_gc.out)); have GX_gb := Aside0.mk (show w.heap.size ≤ gb from by rw [hg]; exact (HB.out).size); have n0_ := Aside0.mk (blk_below BK_gc.out hb); have n1_ := Aside0.mk (below_step HB.out hb); clear HB BK_gc; have BK_gc := n0_; have HB := n1_; clear n0_ n1_; have BK_gb := Aside0.mk hbox; clear hg hbox hb; have nn_gc_gb := NX_gc_gb.out; have nm_gc_gb := Ne.symm NX_gc_gb.out; clear c_gc_0 c_gc_1 c_gc_2 c_gc_3 c_gc_4 c_gc_5; obtain ⟨c_gc_0, c_gc_1, c_gc_2, c_gc_3, c_gc_4, c_gc_5⟩ := q9_ BK_gc; obtain ⟨c_gb_0, c_gb_1, c_gb_2, c_gb_3, c_gb_4, c_gb_5⟩ := q9_ BK_gb) | ((with_reducible refine gate_callee (f := 10) rfl ?_); refine goesL_ (some 21) rfl rfl Try.func10 (by kernel_rfl) rfl #[] rfl (by (try simp only [List.map_toArray, List.map_cons, List.map_nil]); first | done | rfl) ?_; (with_reducible refine (seizinlaw04_head.calls true _ HH.out).mono ?_); rintro e_ w3 ⟨rfl, hb⟩; refine ⟨_, rfl, ?_⟩; have n0_ := Aside0.mk (blk_below BK_gc.out hb); have n1_ := Aside0.mk (blk_below BK_gb.out hb); have n2_ := Aside0.mk (below_step HB.out hb); clear HB BK_gc BK_gb; have BK_gc := n0_; have BK_gb := n1_; have HB := n2_; clear n0_ n1_ n2_; clear hb; clear c_gc_0 c_gc_1 c_gc_2 c_gc_3 c_gc_4 c_gc_5 c_gb_0 c_gb_1 c_gb_2 c_gb_3 c_gb_4 c_gb_5; obtain ⟨c_gc_0, c_gc_1, c_gc_2, c_gc_3, c_gc_4, c_gc_5⟩ := q9_ BK_gc; obtain ⟨c_gb_0, c_gb_1, c_gb_2, c_gb_3, c_gb_4, c_gb_5⟩ := q9_ BK_gb) | ((with_reducible refine gate_callee (f := 27) rfl ?_); refine goesL_ (some 23) rfl rfl Try.func27 (by kernel_rfl) rfl #[.agg #[.bool true, .int .i64 a0_1, .int .i64 a0_2, .int .i64 a0_3, .int .i64 a0_4, .int .i64 a0_5]] rfl (by (try simp only [List.map_toArray, List.map_cons, List.map_nil]); first | done | rfl) ?_; (with_reducible refine (seizinref02_Right.calls true a0_1 a0_2 a0_3 a0_4 a0_5 true _ HR.out).mono ?_); rintro e_ w4 ⟨rfl, hb⟩; refine ⟨_, rfl, ?_⟩; have n0_ := Aside0.mk (blk_below BK_gc.out hb); have n1_ := Aside0.mk (blk_below BK_gb.out hb); have n2_ := Aside0.mk (below_step HB.out hb); clear HB BK_gc BK_gb; have BK_gc := n0_; have BK_gb := n1_; have HB := n2_; clear n0_ n1_ n2_; clear hb; clear c_gc_0 c_gc_1 c_gc_2 c_gc_3 c_gc_4 c_gc_5 c_gb_0 c_gb_1 c_gb_2 c_gb_3 c_gb_4 c_gb_5; obtain ⟨c_gc_0, c_gc_1, c_gc_2, c_gc_3, c_gc_4, c_gc_5⟩ := q9_ BK_gc; obtain ⟨c_gb_0, c_gb_1, c_gb_2, c_gb_3, c_gb_4, c_gb_5⟩ := q9_ BK_gb) | ((with_reducible refine gate_callee (f := 11) rfl ?_); refine goesL_ (some 40) rfl rfl Try.func11 (by kernel_rfl) rfl #[.agg #[.bool true, .int .i64 a0_1, .int .i64 a0_2, .int .i64 a0_3, .int .i64 a0_4, .int .i64 a0_5], .int .i64 a2] rfl (by (try simp only [List.map_toArray, List.map_cons, List.map_nil]); first | done | rfl) ?_; (with_reducible refine (derive_Bounds.calls true a0_1 a0_2 a0_3 a0_4 a0_5 a2 false 0 0 0 0 0 42 _ H0.out).mono ?_); rintro e_ w5 ⟨rfl, hb⟩; refine ⟨_, rfl, ?_⟩; have n0_ := Aside0.mk (blk_below BK_gc.out hb); have n1_ := Aside0.mk (blk_below BK_gb.out hb); have n2_ := Aside0.mk (below_step HB.out hb); clear HB BK_gc BK_gb; have BK_gc := n0_; have BK_gb := n1_; have HB := n2_; clear n0_ n1_ n2_; clear hb; clear c_gc_0 c_gc_1 c_gc_2 c_gc_3 c_gc_4 c_gc_5 c_gb_0 c_gb_1 c_gb_2 c_gb_3 c_gb_4 c_gb_5; obtain ⟨c_gc_0, c_gc_1, c_gc_2, c_gc_3, c_gc_4, c_gc_5⟩ := q9_ BK_gc; obtain ⟨c_gb_0, c_gb_1, c_gb_2, c_gb_3, c_gb_4, c_gb_5⟩ := q9_ BK_gb) | ((with_reducible refine gate_dst (N := 9) rfl ?_); refine box_event ?hg (N := 9) ?hd (cs := #[.bool false, .int .i64 0, .int .i64 0, .int .i64 0, .int .i64 0, .int .i64 0]) (t := 23) ?hr ?_; (case hd => rfl); (case hg => rfl); (case hr => first | (go_simp; done) | (go_simp; rfl)); intro g0 hg w6 hbox hb; have NX_gc_g0 := Aside0.mk (show gc ≠ g0 from by rw [hg]; exact Nat.ne_of_lt (blk_lt BK_gc.out)); have NX_gb_g0 := Aside0.mk (show gb ≠ g0 from by rw [hg]; exact Nat.ne_of_lt (blk_lt BK_gb.out)); have GX_g0 := Aside0.mk (show w.heap.size ≤ g0 from by rw [hg]; exact (HB.out).size); have n0_ := Aside0.mk (blk_below BK_gc.out hb); have n1_ := Aside0.mk (blk_below BK_gb.out hb); have n2_ := Aside0.mk (below_step HB.out hb); clear HB BK_gc BK_gb; have BK_gc := n0_; have BK_gb := n1_; have HB := n2_; clear n0_ n1_ n2_; have BK_g0 := Aside0.mk hbox; clear hg hbox hb; have nn_gc_g0 := NX_gc_g0.out; have nm_gc_g0 := Ne.symm NX_gc_g0.out; have nn_gb_g0 := NX_gb_g0.out; have nm_gb_g0 := Ne.symm NX_gb_g0.out; clear c_gc_0 c_gc_1 c_gc_2 c_gc_3 c_gc_4 c_gc_5 c_gb_0 c_gb_1 c_gb_2 c_gb_3 c_gb_4 c_gb_5; obtain ⟨c_gc_0, c_gc_1, c_gc_2, c_gc_3, c_gc_4, c_gc_5⟩ := q9_ BK_gc; obtain ⟨c_gb_0, c_gb_1, c_gb_2, c_gb_3, c_gb_4, c_gb_5⟩ := q9_ BK_gb; obtain ⟨c_g0_0, c_g0_1, c_g0_2, c_g0_3, c_g0_4, c_g0_5⟩ := q9_ BK_g0; obtain ⟨f_g0_0, f_g0_1, f_g0_2, f_g0_3, f_g0_4, f_g0_5⟩ := q10_ BK_g0) | ((with_reducible refine gate_callee (f := 13) rfl ?_); refine goesL_ (some 46) rfl rfl Try.func13 (by kernel_rfl) rfl #[.agg #[.bool true, .int .i64 a0_1, .int .i64 a0_2, .int .i64 a0_3, .int .i64 a0_4, .int .i64 a0_5], .int .i64 a2] rfl (by (try simp only [List.map_toArray, List.map_cons, List.map_nil]); first | done | rfl) ?_; (with_reducible refine (derive_Perms.calls true a0_1 a0_2 a0_3 a0_4 a0_5 a2 false 0 0 0 0 0 42 _ H1.out).mono ?_); rintro e_ w7 ⟨rfl, hb⟩; refine ⟨_, rfl, ?_⟩; have n0_ := Aside0.mk (blk_below (set6_far _ _ _ _ _ _ NX_gc_g0.out BK_gc.out) hb); have n1_ := Aside0.mk (blk_below (set6_far _ _ _ _ _ _ NX_gb_g0.out BK_gb.out) hb); have n2_ := Aside0.mk (blk_below (set6_blk _ _ _ _ _ _ BK_g0.out) hb); have n3_ := Aside0.mk (below_step (set6_below _ _ _ _ _ _ HB.out GX_g0.out) hb); clear HB BK_gc BK_gb BK_g0; have BK_gc := n0_; have BK_gb := n1_; have BK_g0 := n2_; have HB := n3_; clear n0_ n1_ n2_ n3_; clear hb; clear c_gc_0 c_gc_1 c_gc_2 c_gc_3 c_gc_4 c_gc_5 c_gb_0 c_gb_1 c_gb_2 c_gb_3 c_gb_4 c_gb_5 c_g0_0 c_g0_1 c_g0_2 c_g0_3 c_g0_4 c_g0_5 f_g0_0 f_g0_1 f_g0_2 f_g0_3 f_g0_4 f_g0_5; obtain ⟨c_gc_0, c_gc_1, c_gc_2, c_gc_3, c_gc_4, c_gc_5⟩ := q9_ BK_gc; obtain ⟨c_gb_0, c_gb_1, c_gb_2, c_gb_3, c_gb_4, c_gb_5⟩ := q9_ BK_gb) | ((with_reducible refine gate_dst (N := 11) rfl ?_); refine box_event ?hg (N := 11) ?hd (cs := #[.bool false, .int .i64 0, .int .i64 0, .int .i64 0, .int .i64 0, .int .i64 0]) (t := 23) ?hr ?_; (case hd => rfl); (case hg => rfl); (case hr => first | (go_simp; done) | (go_simp; rfl)); intro g1 hg w8 hbox hb; have NX_gc_g1 := Aside0.mk (show gc ≠ g1 from by rw [hg]; exact Nat.ne_of_lt (blk_lt BK_gc.out)); have NX_gb_g1 := Aside0.mk (show gb ≠ g1 from by rw [hg]; exact Nat.ne_of_lt (blk_lt BK_gb.out)); have NX_g0_g1 := Aside0.mk (show g0 ≠ g1 from by rw [hg]; exact Nat.ne_of_lt (blk_lt BK_g0.out)); have GX_g1 := Aside0.mk (show w.heap.size ≤ g1 from by rw [hg]; exact (HB.out).size); have n0_ := Aside0.mk (blk_below BK_gc.out hb); have n1_ := Aside0.mk (blk_below BK_gb.out hb); have n2_ := Aside0.mk (blk_below BK_g0.out hb); have n3_ := Aside0.mk (below_step HB.out hb); clear HB BK_gc BK_gb BK_g0; have BK_gc := n0_; have BK_gb := n1_; have BK_g0 := n2_; have HB := n3_; clear n0_ n1_ n2_ n3_; have BK_g1 := Aside0.mk hbox; clear hg hbox hb; have nn_gc_g1 := NX_gc_g1.out; have nm_gc_g1 := Ne.symm NX_gc_g1.out; have nn_gb_g1 := NX_gb_g1.out; have nm_gb_g1 := Ne.symm NX_gb_g1.out; clear c_gc_0 c_gc_1 c_gc_2 c_gc_3 c_gc_4 c_gc_5 c_gb_0 c_gb_1 c_gb_2 c_gb_3 c_gb_4 c_gb_5; obtain ⟨c_gc_0, c_gc_1, c_gc_2, c_gc_3, c_gc_4, c_gc_5⟩ := q9_ BK_gc; obtain ⟨c_gb_0, c_gb_1, c_gb_2, c_gb_3, c_gb_4, c_gb_5⟩ := q9_ BK_gb; obtain ⟨c_g1_0, c_g1_1, c_g1_2, c_g1_3, c_g1_4, c_g1_5⟩ := q9_ BK_g1; obtain ⟨f_g1_0, f_g1_1, f_g1_2, f_g1_3, f_g1_4, f_g1_5⟩ := q10_ BK_g1) | ((with_reducible refine gate_callee (f := 19) rfl ?_); refine goesL_ (some 52) rfl rfl Try.func19 (by kernel_rfl) rfl #[.agg #[.bool true, .int .i64 a0_1, .int .i64 a0_2, .int .i64 a0_3, .int .i64 a0_4, .int .i64 a0_5], .agg #[.bool a1_0, .int .i64 a1_1, .int .i64 a1_2, .int .i64 a1_3, .int .i64 a1_4, .int .i64 a1_5]] rfl (by (try simp only [List.map_toArray, List.map_cons, List.map_nil]); first | done | rfl) ?_; (with_reducible refine (derive_Seal.calls true a0_1 a0_2 a0_3 a0_4 a0_5 a1_0 a1_1 a1_2 a1_3 a1_4 a1_5 false 0 0 0 0 0 42 _ H2.out).mono ?_); rintro e_ w9 ⟨rfl, hb⟩; refine ⟨_, rfl, ?_⟩; have n0_ := Aside0.mk (blk_below (set6_far _ _ _ _ _ _ NX_gc_g1.out BK_gc.out) hb); have n1_ := Aside0.mk (blk_below (set6_far _ _ _ _ _ _ NX_gb_g1.out BK_gb.out) hb); have n2_ := Aside0.mk (blk_below (set6_far _ _ _ _ _ _ NX_g0_g1.out BK_g0.out) hb); have n3_ := Aside0.mk (blk_below (set6_blk _ _ _ _ _ _ BK_g1.out) hb); have n4_ := Aside0.mk (below_step (set6_below _ _ _ _ _ _ HB.out GX_g1.out) hb); clear HB BK_gc BK_gb BK_g0 BK_g1; have BK_gc := n0_; have BK_gb := n1_; have BK_g0 := n2_; have BK_g1 := n3_; have HB := n4_; clear n0_ n1_ n2_ n3_ n4_; clear hb; clear c_gc_0 c_gc_1 c_gc_2 c_gc_3 c_gc_4 c_gc_5 c_gb_0 c_gb_1 c_gb_2 c_gb_3 c_gb_4 c_gb_5 c_g1_0 c_g1_1 c_g1_2 c_g1_3 c_g1_4 c_g1_5 f_g1_0 f_g1_1 f_g1_2 f_g1_3 f_g1_4 f_g1_5; obtain ⟨c_gc_0, c_gc_1, c_gc_2, c_gc_3, c_gc_4, c_gc_5⟩ := q9_ BK_gc; obtain ⟨c_gb_0, c_gb_1, c_gb_2, c_gb_3, c_gb_4, c_gb_5⟩ := q9_ BK_gb) | ((with_reducible refine gate_dst (N := 13) rfl ?_); refine box_event ?hg (N := 13) ?hd (cs := #[.bool false, .int .i64 0, .int .i64 0, .int .i64 0, .int .i64 0, .int .i64 0]) (t := 23) ?hr ?_; (case hd => rfl); (case hg => rfl); (case hr => first | (go_simp; done) | (go_simp; rfl)); intro g2 hg w10 hbox hb; have NX_gc_g2 := Aside0.mk (show gc ≠ g2 from by rw [hg]; exact Nat.ne_of_lt (blk_lt BK_gc.out)); have NX_gb_g2 := Aside0.mk (show gb ≠ g2 from by rw [hg]; exact Nat.ne_of_lt (blk_lt BK_gb.out)); have NX_g0_g2 := Aside0.mk (show g0 ≠ g2 from by rw [hg]; exact Nat.ne_of_lt (blk_lt BK_g0.out)); have NX_g1_g2 := Aside0.mk (show g1 ≠ g2 from by rw [hg]; exact Nat.ne_of_lt (blk_lt BK_g1.out)); have GX_g2 := Aside0.mk (show w.heap.size ≤ g2 from by rw [hg]; exact (HB.out).size); have n0_ := Aside0.mk (blk_below BK_gc.out hb); have n1_ := Aside0.mk (blk_below BK_gb.out hb); have n2_ := Aside0.mk (blk_below BK_g0.out hb); have n3_ := Aside0.mk (blk_below BK_g1.out hb); have n4_ := Aside0.mk (below_step HB.out hb); clear HB BK_gc BK_gb BK_g0 BK_g1; have BK_gc := n0_; have BK_gb := n1_; have BK_g0 := n2_; have BK_g1 := n3_; have HB := n4_; clear n0_ n1_ n2_ n3_ n4_; have BK_g2 := Aside0.mk hbox; clear hg hbox hb; have nn_gc_g2 := NX_gc_g2.out; have nm_gc_g2 := Ne.symm NX_gc_g2.out; have nn_gb_g2 := NX_gb_g2.out; have nm_gb_g2 := Ne.symm NX_gb_g2.out; clear c_gc_0 c_gc_1 c_gc_2 c_gc_3 c_gc_4 c_gc_5 c_gb_0 c_gb_1 c_gb_2 c_gb_3 c_gb_4 c_gb_5; obtain ⟨c_gc_0, c_gc_1, c_gc_2, c_gc_3, c_gc_4, c_gc_5⟩ := q9_ BK_gc; obtain ⟨c_gb_0, c_gb_1, c_gb_2, c_gb_3, c_gb_4, c_gb_5⟩ := q9_ BK_gb; obtain ⟨c_g2_0, c_g2_1, c_g2_2, c_g2_3, c_g2_4, c_g2_5⟩ := q9_ BK_g2; obtain ⟨f_g2_0, f_g2_1, f_g2_2, f_g2_3, f_g2_4, f_g2_5⟩ := q10_ BK_g2) | ((with_reducible refine gate_callee (f := 23) rfl ?_); refine goesL_ (some 57) rfl rfl Try.func23 (by kernel_rfl) rfl #[.agg #[.bool true, .int .i64 a0_1, .int .i64 a0_2, .int .i64 a0_3, .int .i64 a0_4, .int .i64 a0_5]] rfl (by (try simp only [List.map_toArray, List.map_cons, List.map_nil]); first | done | rfl) ?_; (with_reducible refine (derive_Enter.calls true a0_1 a0_2 a0_3 a0_4 a0_5 false 0 0 0 0 0 42 _ H3.out).mono ?_); rintro e_ w11 ⟨rfl, hb⟩; refine ⟨_, rfl, ?_⟩; have n0_ := Aside0.mk (blk_below (set6_far _ _ _ _ _ _ NX_gc_g2.out BK_gc.out) hb); have n1_ := Aside0.mk (blk_below (set6_far _ _ _ _ _ _ NX_gb_g2.out BK_gb.out) hb); have n2_ := Aside0.mk (blk_below (set6_far _ _ _ _ _ _ NX_g0_g2.out BK_g0.out) hb); have n3_ := Aside0.mk (blk_below (set6_far _ _ _ _ _ _ NX_g1_g2.out BK_g1.out) hb); have n4_ := Aside0.mk (blk_below (set6_blk _ _ _ _ _ _ BK_g2.out) hb); have n5_ := Aside0.mk (below_step (set6_below _ _ _ _ _ _ HB.out GX_g2.out) hb); clear HB BK_gc BK_gb BK_g0 BK_g1 BK_g2; have BK_gc := n0_; have BK_gb := n1_; have BK_g0 := n2_; have BK_g1 := n3_; have BK_g2 := n4_; have HB := n5_; clear n0_ n1_ n2_ n3_ n4_ n5_; clear hb; clear c_gc_0 c_gc_1 c_gc_2 c_gc_3 c_gc_4 c_gc_5 c_gb_0 c_gb_1 c_gb_2 c_gb_3 c_gb_4 c_gb_5 c_g2_0 c_g2_1 c_g2_2 c_g2_3 c_g2_4 c_g2_5 f_g2_0 f_g2_1 f_g2_2 f_g2_3 f_g2_4 f_g2_5; obtain ⟨c_gc_0, c_gc_1, c_gc_2, c_gc_3, c_gc_4, c_gc_5⟩ := q9_ BK_gc; obtain ⟨c_gb_0, c_gb_1, c_gb_2, c_gb_3, c_gb_4, c_gb_5⟩ := q9_ BK_gb) | ((with_reducible refine gate_dst (N := 15) rfl ?_); refine box_event ?hg (N := 15) ?hd (cs := #[.bool false, .int .i64 0, .int .i64 0, .int .i64 0, .int .i64 0, .int .i64 0]) (t := 23) ?hr ?_; (case hd => rfl); (case hg => rfl); (case hr => first | (go_simp; done) | (go_simp; rfl)); intro g3 hg w12 hbox hb; have NX_gc_g3 := Aside0.mk (show gc ≠ g3 from by rw [hg]; exact Nat.ne_of_lt (blk_lt BK_gc.out)); have NX_gb_g3 := Aside0.mk (show gb ≠ g3 from by rw [hg]; exact Nat.ne_of_lt (blk_lt BK_gb.out)); have NX_g0_g3 := Aside0.mk (show g0 ≠ g3 from by rw [hg]; exact Nat.ne_of_lt (blk_lt BK_g0.out)); have NX_g1_g3 := Aside0.mk (show g1 ≠ g3 from by rw [hg]; exact Nat.ne_of_lt (blk_lt BK_g1.out)); have NX_g2_g3 := Aside0.mk (show g2 ≠ g3 from by rw [hg]; exact Nat.ne_of_lt (blk_lt BK_g2.out)); have GX_g3 := Aside0.mk (show w.heap.size ≤ g3 from by rw [hg]; exact (HB.out).size); have n0_ := Aside0.mk (blk_below BK_gc.out hb); have n1_ := Aside0.mk (blk_below BK_gb.out hb); have n2_ := Aside0.mk (blk_below BK_g0.out hb); have n3_ := Aside0.mk (blk_below BK_g1.out hb); have n4_ := Aside0.mk (blk_below BK_g2.out hb); have n5_ := Aside0.mk (below_step HB.out hb); clear HB BK_gc BK_gb BK_g0 BK_g1 BK_g2; have BK_gc := n0_; have BK_gb := n1_; have BK_g0 := n2_; have BK_g1 := n3_; have BK_g2 := n4_; have HB := n5_; clear n0_ n1_ n2_ n3_ n4_ n5_; have BK_g3 := Aside0.mk hbox; clear hg hbox hb; have nn_gc_g3 := NX_gc_g3.out; have nm_gc_g3 := Ne.symm NX_gc_g3.out; have nn_gb_g3 := NX_gb_g3.out; have nm_gb_g3 := Ne.symm NX_gb_g3.out; clear c_gc_0 c_gc_1 c_gc_2 c_gc_3 c_gc_4 c_gc_5 c_gb_0 c_gb_1 c_gb_2 c_gb_3 c_gb_4 c_gb_5; obtain ⟨c_gc_0, c_gc_1, c_gc_2, c_gc_3, c_gc_4, c_gc_5⟩ := q9_ BK_gc; obtain ⟨c_gb_0, c_gb_1, c_gb_2, c_gb_3, c_gb_4, c_gb_5⟩ := q9_ BK_gb; obtain ⟨c_g3_0, c_g3_1, c_g3_2, c_g3_3, c_g3_4, c_g3_5⟩ := q9_ BK_g3; obtain ⟨f_g3_0, f_g3_1, f_g3_2, f_g3_3, f_g3_4, f_g3_5⟩ := q10_ BK_g3) | ((with_reducible refine gate_callee (f := 15) rfl ?_); refine goesL_ (some 63) rfl rfl Try.func15 (by kernel_rfl) rfl #[.agg #[.bool true, .int .i64 a0_1, .int .i64 a0_2, .int .i64 a0_3, .int .i64 a0_4, .int .i64 a0_5], .int .i64 a2] rfl (by (try simp only [List.map_toArray, List.map_cons, List.map_nil]); first | done | rfl) ?_; (with_reducible refine (derive_Move.calls true a0_1 a0_2 a0_3 a0_4 a0_5 a2 false 0 0 0 0 0 42 _ H4.out).mono ?_); rintro e_ w13 ⟨rfl, hb⟩; refine ⟨_, rfl, ?_⟩; have n0_ := Aside0.mk (blk_below (set6_far _ _ _ _ _ _ NX_gc_g3.out BK_gc.out) hb); have n1_ := Aside0.mk (blk_below (set6_far _ _ _ _ _ _ NX_gb_g3.out BK_gb.out) hb); have n2_ := Aside0.mk (blk_below (set6_far _ _ _ _ _ _ NX_g0_g3.out BK_g0.out) hb); have n3_ := Aside0.mk (blk_below (set6_far _ _ _ _ _ _ NX_g1_g3.out BK_g1.out) hb); have n4_ := Aside0.mk (blk_below (set6_far _ _ _ _ _ _ NX_g2_g3.out BK_g2.out) hb); have n5_ := Aside0.mk (blk_below (set6_blk _ _ _ _ _ _ BK_g3.out) hb); have n6_ := Aside0.mk (below_step (set6_below _ _ _ _ _ _ HB.out GX_g3.out) hb); clear HB BK_gc BK_gb BK_g0 BK_g1 BK_g2 BK_g3; have BK_gc := n0_; have BK_gb := n1_; have BK_g0 := n2_; have BK_g1 := n3_; have BK_g2 := n4_; have BK_g3 := n5_; have HB := n6_; clear n0_ n1_ n2_ n3_ n4_ n5_ n6_; clear hb; clear c_gc_0 c_gc_1 c_gc_2 c_gc_3 c_gc_4 c_gc_5 c_gb_0 c_gb_1 c_gb_2 c_gb_3 c_gb_4 c_gb_5 c_g3_0 c_g3_1 c_g3_2 c_g3_3 c_g3_4 c_g3_5 f_g3_0 f_g3_1 f_g3_2 f_g3_3 f_g3_4 f_g3_5; obtain ⟨c_gc_0, c_gc_1, c_gc_2, c_gc_3, c_gc_4, c_gc_5⟩ := q9_ BK_gc; obtain ⟨c_gb_0, c_gb_1, c_gb_2, c_gb_3, c_gb_4, c_gb_5⟩ := q9_ BK_gb) | ((with_reducible refine gate_dst (N := 17) rfl ?_); refine box_event ?hg (N := 17) ?hd (cs := #[.bool false, .int .i64 0, .int .i64 0, .int .i64 0, .int .i64 0, .int .i64 0]) (t := 23) ?hr ?_; (case hd => rfl); (case hg => rfl); (case hr => first | (go_simp; done) | (go_simp; rfl)); intro g4 hg w14 hbox hb; have NX_gc_g4 := Aside0.mk (show gc ≠ g4 from by rw [hg]; exact Nat.ne_of_lt (blk_lt BK_gc.out)); have NX_gb_g4 := Aside0.mk (show gb ≠ g4 from by rw [hg]; exact Nat.ne_of_lt (blk_lt BK_gb.out)); have NX_g0_g4 := Aside0.mk (show g0 ≠ g4 from by rw [hg]; exact Nat.ne_of_lt (blk_lt BK_g0.out)); have NX_g1_g4 := Aside0.mk (show g1 ≠ g4 from by rw [hg]; exact Nat.ne_of_lt (blk_lt BK_g1.out)); have NX_g2_g4 := Aside0.mk (show g2 ≠ g4 from by rw [hg]; exact Nat.ne_of_lt (blk_lt BK_g2.out)); have NX_g3_g4 := Aside0.mk (show g3 ≠ g4 from by rw [hg]; exact Nat.ne_of_lt (blk_lt BK_g3.out)); have GX_g4 := Aside0.mk (show w.heap.size ≤ g4 from by rw [hg]; exact (HB.out).size); have n0_ := Aside0.mk (blk_below BK_gc.out hb); have n1_ := Aside0.mk (blk_below BK_gb.out hb); have n2_ := Aside0.mk (blk_below BK_g0.out hb); have n3_ := Aside0.mk (blk_below BK_g1.out hb); have n4_ := Aside0.mk (blk_below BK_g2.out hb); have n5_ := Aside0.mk (blk_below BK_g3.out hb); have n6_ := Aside0.mk (below_step HB.out hb); clear HB BK_gc BK_gb BK_g0 BK_g1 BK_g2 BK_g3; have BK_gc := n0_; have BK_gb := n1_; have BK_g0 := n2_; have BK_g1 := n3_; have BK_g2 := n4_; have BK_g3 := n5_; have HB := n6_; clear n0_ n1_ n2_ n3_ n4_ n5_ n6_; have BK_g4 := Aside0.mk hbox; clear hg hbox hb; have nn_gc_g4 := NX_gc_g4.out; have nm_gc_g4 := Ne.symm NX_gc_g4.out; have nn_gb_g4 := NX_gb_g4.out; have nm_gb_g4 := Ne.symm NX_gb_g4.out; clear c_gc_0 c_gc_1 c_gc_2 c_gc_3 c_gc_4 c_gc_5 c_gb_0 c_gb_1 c_gb_2 c_gb_3 c_gb_4 c_gb_5; obtain ⟨c_gc_0, c_gc_1, c_gc_2, c_gc_3, c_gc_4, c_gc_5⟩ := q9_ BK_gc; obtain ⟨c_gb_0, c_gb_1, c_gb_2, c_gb_3, c_gb_4, c_gb_5⟩ := q9_ BK_gb; obtain ⟨c_g4_0, c_g4_1, c_g4_2, c_g4_3, c_g4_4, c_g4_5⟩ := q9_ BK_g4; obtain ⟨f_g4_0, f_g4_1, f_g4_2, f_g4_3, f_g4_4, f_g4_5⟩ := q10_ BK_g4) | ((with_reducible refine gate_callee (f := 21) rfl ?_); refine goesL_ (some 69) rfl rfl Try.func21 (by kernel_rfl) rfl #[.agg #[.bool true, .int .i64 a0_1, .int .i64 a0_2, .int .i64 a0_3, .int .i64 a0_4, .int .i64 a0_5], .agg #[.bool a1_0, .int .i64 a1_1, .int .i64 a1_2, .int .i64 a1_3, .int .i64 a1_4, .int .i64 a1_5]] rfl (by (try simp only [List.map_toArray, List.map_cons, List.map_nil]); first | done | rfl) ?_; (with_reducible refine (derive_Unseal.calls true a0_1 a0_2 a0_3 a0_4 a0_5 a1_0 a1_1 a1_2 a1_3 a1_4 a1_5 false 0 0 0 0 0 z _ H5.out).mono ?_); rintro e_ w15 ⟨rfl, hb⟩; refine ⟨_, rfl, ?_⟩; have n0_ := Aside0.mk (blk_below (set6_far _ _ _ _ _ _ NX_gc_g4.out BK_gc.out) hb); have n1_ := Aside0.mk (blk_below (set6_far _ _ _ _ _ _ NX_gb_g4.out BK_gb.out) hb); have n2_ := Aside0.mk (blk_below (set6_far _ _ _ _ _ _ NX_g0_g4.out BK_g0.out) hb); have n3_ := Aside0.mk (blk_below (set6_far _ _ _ _ _ _ NX_g1_g4.out BK_g1.out) hb); have n4_ := Aside0.mk (blk_below (set6_far _ _ _ _ _ _ NX_g2_g4.out BK_g2.out) hb); have n5_ := Aside0.mk (blk_below (set6_far _ _ _ _ _ _ NX_g3_g4.out BK_g3.out) hb); have n6_ := Aside0.mk (blk_below (set6_blk _ _ _ _ _ _ BK_g4.out) hb); have n7_ := Aside0.mk (below_step (set6_below _ _ _ _ _ _ HB.out GX_g4.out) hb); clear HB BK_gc BK_gb BK_g0 BK_g1 BK_g2 BK_g3 BK_g4; have BK_gc := n0_; have BK_gb := n1_; have BK_g0 := n2_; have BK_g1 := n3_; have BK_g2 := n4_; have BK_g3 := n5_; have BK_g4 := n6_; have HB := n7_; clear n0_ n1_ n2_ n3_ n4_ n5_ n6_ n7_; clear hb; clear c_gc_0 c_gc_1 c_gc_2 c_gc_3 c_gc_4 c_gc_5 c_gb_0 c_gb_1 c_gb_2 c_gb_3 c_gb_4 c_gb_5 c_g4_0 c_g4_1 c_g4_2 c_g4_3 c_g4_4 c_g4_5 f_g4_0 f_g4_1 f_g4_2 f_g4_3 f_g4_4 f_g4_5; obtain ⟨c_gc_0, c_gc_1, c_gc_2, c_gc_3, c_gc_4, c_gc_5⟩ := q9_ BK_gc; obtain ⟨c_gb_0, c_gb_1, c_gb_2, c_gb_3, c_gb_4, c_gb_5⟩ := q9_ BK_gb; obtain ⟨c_g4_0, c_g4_1, c_g4_2, c_g4_3, c_g4_4, c_g4_5⟩ := q9_ BK_g4) | ((with_reducible refine gate_dst (N := 19) rfl ?_); refine box_event ?hg (N := 19) ?hd (cs := #[.bool false, .int .i64 0, .int .i64 0, .int .i64 0, .int .i64 0, .int .i64 0]) (t := 23) ?hr ?_; (case hd => rfl); (case hg => rfl); (case hr => first | (go_simp; done) | (go_simp; rfl)); intro g5 hg w16 hbox hb; have NX_gc_g5 := Aside0.mk (show gc ≠ g5 from by rw [hg]; exact Nat.ne_of_lt (blk_lt BK_gc.out)); have NX_gb_g5 := Aside0.mk (show gb ≠ g5 from by rw [hg]; exact Nat.ne_of_lt (blk_lt BK_gb.out)); have NX_g0_g5 := Aside0.mk (show g0 ≠ g5 from by rw [hg]; exact Nat.ne_of_lt (blk_lt BK_g0.out)); have NX_g1_g5 := Aside0.mk (show g1 ≠ g5 from by rw [hg]; exact Nat.ne_of_lt (blk_lt BK_g1.out)); have NX_g2_g5 := Aside0.mk (show g2 ≠ g5 from by rw [hg]; exact Nat.ne_of_lt (blk_lt BK_g2.out)); have NX_g3_g5 := Aside0.mk (show g3 ≠ g5 from by rw [hg]; exact Nat.ne_of_lt (blk_lt BK_g3.out)); have NX_g4_g5 := Aside0.mk (show g4 ≠ g5 from by rw [hg]; exact Nat.ne_of_lt (blk_lt BK_g4.out)); have GX_g5 := Aside0.mk (show w.heap.size ≤ g5 from by rw [hg]; exact (HB.out).size); have n0_ := Aside0.mk (blk_below BK_gc.out hb); have n1_ := Aside0.mk (blk_below BK_gb.out hb); have n2_ := Aside0.mk (blk_below BK_g0.out hb); have n3_ := Aside0.mk (blk_below BK_g1.out hb); have n4_ := Aside0.mk (blk_below BK_g2.out hb); have n5_ := Aside0.mk (blk_below BK_g3.out hb); have n6_ := Aside0.mk (blk_below BK_g4.out hb); have n7_ := Aside0.mk (below_step HB.out hb); clear HB BK_gc BK_gb BK_g0 BK_g1 BK_g2 BK_g3 BK_g4; have BK_gc := n0_; have BK_gb := n1_; have BK_g0 := n2_; have BK_g1 := n3_; have BK_g2 := n4_; have BK_g3 := n5_; have BK_g4 := n6_; have HB := n7_; clear n0_ n1_ n2_ n3_ n4_ n5_ n6_ n7_; have BK_g5 := Aside0.mk hbox; clear hg hbox hb; have nn_gc_g5 := NX_gc_g5.out; have nm_gc_g5 := Ne.symm NX_gc_g5.out; have nn_gb_g5 := NX_gb_g5.out; have nm_gb_g5 := Ne.symm NX_gb_g5.out; have nn_g4_g5 := NX_g4_g5.out; have nm_g4_g5 := Ne.symm NX_g4_g5.out; clear c_gc_0 c_gc_1 c_gc_2 c_gc_3 c_gc_4 c_gc_5 c_gb_0 c_gb_1 c_gb_2 c_gb_3 c_gb_4 c_gb_5 c_g4_0 c_g4_1 c_g4_2 c_g4_3 c_g4_4 c_g4_5; obtain ⟨c_gc_0, c_gc_1, c_gc_2, c_gc_3, c_gc_4, c_gc_5⟩ := q9_ BK_gc; obtain ⟨c_gb_0, c_gb_1, c_gb_2, c_gb_3, c_gb_4, c_gb_5⟩ := q9_ BK_gb; obtain ⟨c_g4_0, c_g4_1, c_g4_2, c_g4_3, c_g4_4, c_g4_5⟩ := q9_ BK_g4; obtain ⟨c_g5_0, c_g5_1, c_g5_2, c_g5_3, c_g5_4, c_g5_5⟩ := q9_ BK_g5; obtain ⟨f_g5_0, f_g5_1, f_g5_2, f_g5_3, f_g5_4, f_g5_5⟩ := q10_ BK_g5))
  refine wp_region_list ?_
  simp only [List.toList_toArray, List.append_eq, List.cons_append, List.nil_append]
  refine guardOn_ (N := some 72) (v := ?_) (by rfl) rfl ?_ ?_
  rotate_left
  · go_simp
    with_reducible rfl
  simp only [Act.put, List.setIfInBounds_toArray, List.set_cons_zero, List.set_cons_succ, i64_w, i32_w]
  refine guardOn_ (N := some 73) (v := ?_) (by rfl) rfl ?_ ?_
  rotate_left
  · go_simp
    with_reducible rfl
  simp only [Act.put, List.setIfInBounds_toArray, List.set_cons_zero, List.set_cons_succ, i64_w, i32_w]
  refine guardOn_ (N := some 74) (v := ?_) (by rfl) rfl ?_ ?_
  rotate_left
  · go_simp
    with_reducible rfl
  simp only [Act.put, List.setIfInBounds_toArray, List.set_cons_zero, List.set_cons_succ, i64_w, i32_w]
  refine guardOn_ (N := some 75) (v := ?_) (by rfl) rfl ?_ ?_
  rotate_left
  · go_simp
    with_reducible rfl
  simp only [Act.put, List.setIfInBounds_toArray, List.set_cons_zero, List.set_cons_succ, i64_w, i32_w]
  refine guardOn_ (N := some 76) (v := ?_) (by rfl) rfl ?_ ?_
  rotate_left
  · go_simp
    with_reducible rfl
  simp only [Act.put, List.setIfInBounds_toArray, List.set_cons_zero, List.set_cons_succ, i64_w, i32_w]
  refine guardOn_ (N := some 77) (v := ?_) (by rfl) rfl ?_ ?_
  rotate_left
  · go_simp
    with_reducible rfl
  simp only [Act.put, List.setIfInBounds_toArray, List.set_cons_zero, List.set_cons_succ, i64_w, i32_w]
  refine guardOn_ (N := some 78) (v := ?_) (by rfl) rfl ?_ ?_
  rotate_left
  · go_simp
    with_reducible rfl
  simp only [Act.put, List.setIfInBounds_toArray, List.set_cons_zero, List.set_cons_succ, i64_w, i32_w]
  refine guardOn_ (N := some 79) (v := ?_) (by rfl) rfl ?_ ?_
  rotate_left
  · go_simp
    with_reducible rfl
  simp only [Act.put, List.setIfInBounds_toArray, List.set_cons_zero, List.set_cons_succ, i64_w, i32_w]
  refine guardOn_ (N := some 80) (v := ?_) (by rfl) rfl ?_ ?_
  rotate_left
  · go_simp
    with_reducible rfl
  simp only [Act.put, List.setIfInBounds_toArray, List.set_cons_zero, List.set_cons_succ, i64_w, i32_w]
  refine guardOn_ (N := some 81) (v := ?_) (by rfl) rfl ?_ ?_
  rotate_left
  · go_simp
    with_reducible rfl
  simp only [Act.put, List.setIfInBounds_toArray, List.set_cons_zero, List.set_cons_succ, i64_w, i32_w]
  refine guardOn_ (N := some 82) (v := ?_) (by rfl) rfl ?_ ?_
  rotate_left
  · go_simp
    with_reducible rfl
  simp only [Act.put, List.setIfInBounds_toArray, List.set_cons_zero, List.set_cons_succ, i64_w, i32_w]
  refine guardOn_ (N := some 83) (v := ?_) (by rfl) rfl ?_ ?_
  rotate_left
  · go_simp
    with_reducible rfl
  simp only [Act.put, List.setIfInBounds_toArray, List.set_cons_zero, List.set_cons_succ, i64_w, i32_w]
  refine guardOn_ (N := some 84) (v := ?_) (by rfl) rfl ?_ ?_
  rotate_left
  · go_simp
    with_reducible rfl
  simp only [Act.put, List.setIfInBounds_toArray, List.set_cons_zero, List.set_cons_succ, i64_w, i32_w]
  refine guardOn_ (N := some 85) (v := ?_) (by rfl) rfl ?_ ?_
  rotate_left
  · go_simp
    with_reducible rfl
  simp only [Act.put, List.setIfInBounds_toArray, List.set_cons_zero, List.set_cons_succ, i64_w, i32_w]
  refine guardOn_ (N := some 86) (v := ?_) (by rfl) rfl ?_ ?_
  rotate_left
  · go_simp
    with_reducible rfl
  simp only [Act.put, List.setIfInBounds_toArray, List.set_cons_zero, List.set_cons_succ, i64_w, i32_w]
  refine guardOn_ (N := some 87) (v := ?_) (by rfl) rfl ?_ ?_
  rotate_left
  · go_simp
    with_reducible rfl
  simp only [Act.put, List.setIfInBounds_toArray, List.set_cons_zero, List.set_cons_succ, i64_w, i32_w]
  refine guardOn_ (N := some 88) (v := ?_) (by rfl) rfl ?_ ?_
  rotate_left
  · go_simp
    with_reducible rfl
  simp only [Act.put, List.setIfInBounds_toArray, List.set_cons_zero, List.set_cons_succ, i64_w, i32_w]
  refine guardOn_ (N := some 89) (v := ?_) (by rfl) rfl ?_ ?_
  rotate_left
  · go_simp
    with_reducible rfl
  simp only [Act.put, List.setIfInBounds_toArray, List.set_cons_zero, List.set_cons_succ, i64_w, i32_w]
  refine guardOn_ (N := some 90) (v := ?_) (by rfl) rfl ?_ ?_
  rotate_left
  · go_simp
    with_reducible rfl
  simp only [Act.put, List.setIfInBounds_toArray, List.set_cons_zero, List.set_cons_succ, i64_w, i32_w]
  refine guardOn_ (N := some 91) (v := ?_) (by rfl) rfl ?_ ?_
  rotate_left
  · go_simp
    with_reducible rfl
  simp only [Act.put, List.setIfInBounds_toArray, List.set_cons_zero, List.set_cons_succ, i64_w, i32_w]
  refine guardOn_ (N := some 92) (v := ?_) (by rfl) rfl ?_ ?_
  rotate_left
  · go_simp
    with_reducible rfl
  simp only [Act.put, List.setIfInBounds_toArray, List.set_cons_zero, List.set_cons_succ, i64_w, i32_w]
  refine guardOn_ (N := some 93) (v := ?_) (by rfl) rfl ?_ ?_
  rotate_left
  · go_simp
    with_reducible rfl
  simp only [Act.put, List.setIfInBounds_toArray, List.set_cons_zero, List.set_cons_succ, i64_w, i32_w]
  refine guardOn_ (N := some 94) (v := ?_) (by rfl) rfl ?_ ?_
  rotate_left
  · go_simp
    with_reducible rfl
  simp only [Act.put, List.setIfInBounds_toArray, List.set_cons_zero, List.set_cons_succ, i64_w, i32_w]
  refine guardOn_ (N := some 95) (v := ?_) (by rfl) rfl ?_ ?_
  rotate_left
  · go_simp
    with_reducible rfl
  simp only [Act.put, List.setIfInBounds_toArray, List.set_cons_zero, List.set_cons_succ, i64_w, i32_w]
  refine guardOn_ (N := some 96) (v := ?_) (by rfl) rfl ?_ ?_
  rotate_left
  · go_simp
    with_reducible rfl
  simp only [Act.put, List.setIfInBounds_toArray, List.set_cons_zero, List.set_cons_succ, i64_w, i32_w]
  refine guardOn_ (N := some 97) (v := ?_) (by rfl) rfl ?_ ?_
  rotate_left
  · go_simp
    with_reducible rfl
  simp only [Act.put, List.setIfInBounds_toArray, List.set_cons_zero, List.set_cons_succ, i64_w, i32_w]
  refine guardOn_ (N := some 98) (v := ?_) (by rfl) rfl ?_ ?_
  rotate_left
  · go_simp
    with_reducible rfl
  simp only [Act.put, List.setIfInBounds_toArray, List.set_cons_zero, List.set_cons_succ, i64_w, i32_w]
  refine guardOn_ (N := some 99) (v := ?_) (by rfl) rfl ?_ ?_
  rotate_left
  · go_simp
    with_reducible rfl
  simp only [Act.put, List.setIfInBounds_toArray, List.set_cons_zero, List.set_cons_succ, i64_w, i32_w]
  refine guardOn_ (N := some 100) (v := ?_) (by rfl) rfl ?_ ?_
  rotate_left
  · go_simp
    with_reducible rfl
  simp only [Act.put, List.setIfInBounds_toArray, List.set_cons_zero, List.set_cons_succ, i64_w, i32_w]
  with_reducible refine guardOff_ ?_ ?_
  rotate_left
  · rfl
  simp only [Act.put, List.setIfInBounds_toArray, List.set_cons_zero, List.set_cons_succ, i64_w, i32_w]
  with_reducible refine guardOff_ ?_ ?_
  rotate_left
  · rfl
  simp only [Act.put, List.setIfInBounds_toArray, List.set_cons_zero, List.set_cons_succ, i64_w, i32_w]
  with_reducible refine guardOff_ ?_ ?_
  rotate_left
  · rfl
  simp only [Act.put, List.setIfInBounds_toArray, List.set_cons_zero, List.set_cons_succ, i64_w, i32_w]
  with_reducible refine guardOff_ ?_ ?_
  rotate_left
  · rfl
  simp only [Act.put, List.setIfInBounds_toArray, List.set_cons_zero, List.set_cons_succ, i64_w, i32_w]
  with_reducible refine guardOff_ ?_ ?_
  rotate_left
  · rfl
  simp only [Act.put, List.setIfInBounds_toArray, List.set_cons_zero, List.set_cons_succ, i64_w, i32_w]
  with_reducible refine guardOff_ ?_ ?_
  rotate_left
  · rfl
  simp only [Act.put, List.setIfInBounds_toArray, List.set_cons_zero, List.set_cons_succ, i64_w, i32_w]
  with_reducible refine guardOff_ ?_ ?_
  rotate_left
  · rfl
  simp only [Act.put, List.setIfInBounds_toArray, List.set_cons_zero, List.set_cons_succ, i64_w, i32_w]
  with_reducible refine guardOff_ ?_ ?_
  rotate_left
  · rfl
  simp only [Act.put, List.setIfInBounds_toArray, List.set_cons_zero, List.set_cons_succ, i64_w, i32_w]
  with_reducible refine guardOff_ ?_ ?_
  rotate_left
  · rfl
  simp only [Act.put, List.setIfInBounds_toArray, List.set_cons_zero, List.set_cons_succ, i64_w, i32_w]
  with_reducible refine guardOff_ ?_ ?_
  rotate_left
  · rfl
  simp only [Act.put, List.setIfInBounds_toArray, List.set_cons_zero, List.set_cons_succ, i64_w, i32_w]
  with_reducible refine guardOff_ ?_ ?_
  rotate_left
  · rfl
  simp only [Act.put, List.setIfInBounds_toArray, List.set_cons_zero, List.set_cons_succ, i64_w, i32_w]
  with_reducible refine guardOff_ ?_ ?_
  rotate_left
  · rfl
  simp only [Act.put, List.setIfInBounds_toArray, List.set_cons_zero, List.set_cons_succ, i64_w, i32_w]
  refine guardOn_ (N := some 113) (v := ?_) (by rfl) rfl ?_ ?_
  rotate_left
  · go_simp
    with_reducible rfl
  simp only [Act.put, List.setIfInBounds_toArray, List.set_cons_zero, List.set_cons_succ, i64_w, i32_w]
  refine guardOn_ (N := some 114) (v := ?_) (by rfl) rfl ?_ ?_
  rotate_left
  · go_simp
    with_reducible rfl
  simp only [Act.put, List.setIfInBounds_toArray, List.set_cons_zero, List.set_cons_succ, i64_w, i32_w]
  refine guardOn_ (N := some 115) (v := ?_) (by rfl) rfl ?_ ?_
  rotate_left
  · go_simp
    with_reducible rfl
  simp only [Act.put, List.setIfInBounds_toArray, List.set_cons_zero, List.set_cons_succ, i64_w, i32_w]
  refine guardOn_ (N := some 116) (v := ?_) (by rfl) rfl ?_ ?_
  rotate_left
  · go_simp
    with_reducible rfl
  simp only [Act.put, List.setIfInBounds_toArray, List.set_cons_zero, List.set_cons_succ, i64_w, i32_w]
  refine guardOn_ (N := some 117) (v := ?_) (by rfl) rfl ?_ ?_
  rotate_left
  · go_simp
    with_reducible rfl
  simp only [Act.put, List.setIfInBounds_toArray, List.set_cons_zero, List.set_cons_succ, i64_w, i32_w]
  refine guardOn_ (N := some 118) (v := ?_) (by rfl) rfl ?_ ?_
  rotate_left
  · go_simp
    with_reducible rfl
  simp only [Act.put, List.setIfInBounds_toArray, List.set_cons_zero, List.set_cons_succ, i64_w, i32_w]
  with_reducible refine guardOff_ ?_ ?_
  rotate_left
  · rfl
  simp only [Act.put, List.setIfInBounds_toArray, List.set_cons_zero, List.set_cons_succ, i64_w, i32_w]
  with_reducible refine guardOff_ ?_ ?_
  rotate_left
  · rfl
  simp only [Act.put, List.setIfInBounds_toArray, List.set_cons_zero, List.set_cons_succ, i64_w, i32_w]
  refine guardOn_ (N := some 121) (v := ?_) (by rfl) rfl ?_ ?_
  rotate_left
  · go_simp
    with_reducible rfl
  simp only [Act.put, List.setIfInBounds_toArray, List.set_cons_zero, List.set_cons_succ, i64_w, i32_w]
  refine guardOn_ (N := some 122) (v := ?_) (by rfl) rfl ?_ ?_
  rotate_left
  · go_simp
    with_reducible rfl
  simp only [Act.put, List.setIfInBounds_toArray, List.set_cons_zero, List.set_cons_succ, i64_w, i32_w]
  refine guardOn_ (N := some 123) (v := ?_) (by rfl) rfl ?_ ?_
  rotate_left
  · go_simp
    with_reducible rfl
  simp only [Act.put, List.setIfInBounds_toArray, List.set_cons_zero, List.set_cons_succ, i64_w, i32_w]
  refine guardOn_ (N := some 124) (v := ?_) (by rfl) rfl ?_ ?_
  rotate_left
  · go_simp
    with_reducible rfl
  simp only [Act.put, List.setIfInBounds_toArray, List.set_cons_zero, List.set_cons_succ, i64_w, i32_w]
  refine guardOn_ (N := some 125) (v := ?_) (by rfl) rfl ?_ ?_
  rotate_left
  · go_simp
    with_reducible rfl
  simp only [Act.put, List.setIfInBounds_toArray, List.set_cons_zero, List.set_cons_succ, i64_w, i32_w]
  refine guardOn_ (N := some 126) (v := ?_) (by rfl) rfl ?_ ?_
  rotate_left
  · go_simp
    with_reducible rfl
  simp only [Act.put, List.setIfInBounds_toArray, List.set_cons_zero, List.set_cons_succ, i64_w, i32_w]
  with_reducible refine guardOff_ ?_ ?_
  rotate_left
  · rfl
  simp only [Act.put, List.setIfInBounds_toArray, List.set_cons_zero, List.set_cons_succ, i64_w, i32_w]
  with_reducible refine guardOff_ ?_ ?_
  rotate_left
  · rfl
  simp only [Act.put, List.setIfInBounds_toArray, List.set_cons_zero, List.set_cons_succ, i64_w, i32_w]
  with_reducible refine guardOff_ ?_ ?_
  rotate_left
  · rfl
  simp only [Act.put, List.setIfInBounds_toArray, List.set_cons_zero, List.set_cons_succ, i64_w, i32_w]
  with_reducible refine guardOff_ ?_ ?_
  rotate_left
  · rfl
  simp only [Act.put, List.setIfInBounds_toArray, List.set_cons_zero, List.set_cons_succ, i64_w, i32_w]
  with_reducible refine guardOff_ ?_ ?_
  rotate_left
  · rfl
  simp only [Act.put, List.setIfInBounds_toArray, List.set_cons_zero, List.set_cons_succ, i64_w, i32_w]
  with_reducible refine guardOff_ ?_ ?_
  rotate_left
  · rfl
  simp only [Act.put, List.setIfInBounds_toArray, List.set_cons_zero, List.set_cons_succ, i64_w, i32_w]
  with_reducible refine guardOff_ ?_ ?_
  rotate_left
  · rfl
  simp only [Act.put, List.setIfInBounds_toArray, List.set_cons_zero, List.set_cons_succ, i64_w, i32_w]
  refine guardOn_ (N := some 134) (v := ?_) (by rfl) rfl ?_ ?_
  rotate_left
  · go_simp
    with_reducible rfl
  simp only [Act.put, List.setIfInBounds_toArray, List.set_cons_zero, List.set_cons_succ, i64_w, i32_w]
  refine guardOn_ (N := some 135) (v := ?_) (by rfl) rfl ?_ ?_
  rotate_left
  · go_simp
    with_reducible rfl
  simp only [Act.put, List.setIfInBounds_toArray, List.set_cons_zero, List.set_cons_succ, i64_w, i32_w]
  refine guardOn_ (N := some 6) (v := ?_) (by rfl) rfl ?_ ?_
  rotate_left
  · go_simp
    with_reducible rfl
  simp only [Act.put, List.setIfInBounds_toArray, List.set_cons_zero, List.set_cons_succ, i64_w, i32_w]
  go_wp2
  all_goals go_ret
  all_goals exact ⟨by first | rfl | (simp; done) | (simp [*]; done), (set6_below _ _ _ _ _ _ HB.out GX_g5.out)⟩
set_option maxHeartbeats 8000000 in
set_option maxRecDepth 100000 in
theorem deriveWrong_undone (a0_1 a0_2 a0_3 a0_4 a0_5 : Int) (a1_0 : Bool) (a1_1 a1_2 a1_3 a1_4 a1_5 : Int) (a2 : Int) (w : World) (hf : a0_5 ≠ 0) (hr : seizinref02_Right.f true a0_1 a0_2 a0_3 a0_4 a0_5 = some true) (h0 : derive_Bounds.f true a0_1 a0_2 a0_3 a0_4 a0_5 a2 = some (false, 0, 0, 0, 0, 0, 42)) (h1 : derive_Perms.f true a0_1 a0_2 a0_3 a0_4 a0_5 a2 = some (false, 0, 0, 0, 0, 0, 42)) (h2 : derive_Seal.f true a0_1 a0_2 a0_3 a0_4 a0_5 a1_0 a1_1 a1_2 a1_3 a1_4 a1_5 = some (false, 0, 0, 0, 0, 0, 42)) (h3 : derive_Enter.f true a0_1 a0_2 a0_3 a0_4 a0_5 = some (false, 0, 0, 0, 0, 0, 42)) (h4 : derive_Move.f true a0_1 a0_2 a0_3 a0_4 a0_5 a2 = some (false, 0, 0, 0, 0, 0, 42)) (h5 : derive_Unseal.f true a0_1 a0_2 a0_3 a0_4 a0_5 a1_0 a1_1 a1_2 a1_3 a1_4 a1_5 = some (true, a0_1, a0_2, a0_3, a0_4, 0, 0)) :
    Calls Try.prog 8 #[.agg #[.bool true, .int .i64 a0_1, .int .i64 a0_2, .int .i64 a0_3, .int .i64 a0_4, .int .i64 a0_5], .agg #[.bool a1_0, .int .i64 a1_1, .int .i64 a1_2, .int .i64 a1_3, .int .i64 a1_4, .int .i64 a1_5], .int .i64 a2] w fun e w' => e = .returned (.bool true) ∧ Below w.heap.size w w' := by
  have HH := Aside0.mk head_eq
  have HR := Aside0.mk hr
  clear hr
  have H0 := Aside0.mk h0
  have H1 := Aside0.mk h1
  have H2 := Aside0.mk h2
  have H3 := Aside0.mk h3
  have H4 := Aside0.mk h4
  have H5 := Aside0.mk h5
  clear h0 h1 h2 h3 h4 h5
  have hf0 : (a0_5 == 0) = false := beq_eq_false_iff_ne.mpr hf
  clear hf
  have hu23 := Try.underlying23
  have HB := Aside0.mk (Below.refl w.heap.size w)
  go_enter Try.func8, Try.ntmps8
  go_upto_region 13 with (first | ((with_reducible refine gate_dst (N := 3) rfl ?_); refine box_event ?hg (N := 3) ?hd (cs := #[.bool true, .int .i64 a0_1, .int .i64 a0_2, .int .i64 a0_3, .int .i64 a0_4, .int .i64 a0_5]) (t := 23) ?hr ?_; (case hd => rfl); (case hg => rfl); (case hr => first | (go_simp; done) | (go_simp; rfl)); intro gc hg w1 hbox hb; have GX_gc := Aside0.mk (show w.heap.size ≤ gc from by rw [hg]; exact (HB.out).size); have n0_ := Aside0.mk (below_step HB.out hb); clear HB; have HB := n0_; clear n0_; have BK_gc := Aside0.mk hbox; clear hg hbox hb; obtain ⟨c_gc_0, c_gc_1, c_gc_2, c_gc_3, c_gc_4, c_gc_5⟩ := q9_ BK_gc) | ((with_reducible refine gate_dst (N := 4) rfl ?_); refine box_event ?hg (N := 4) ?hd (cs := #[.bool a1_0, .int .i64 a1_1, .int .i64 a1_2, .int .i64 a1_3, .int .i64 a1_4, .int .i64 a1_5]) (t := 23) ?hr ?_; (case hd => rfl); (case hg => rfl); (case hr => first | (go_simp; done) | (go_simp; rfl)); intro gb hg w2 hbox hb; have NX_gc_gb := Aside0.mk (show gc ≠ gb from by rw [hg]; exact Nat.ne_of_lt (blk_lt BK_gc.out)); have GX_gb := Aside0.mk (show w.heap.size ≤ gb from by rw [hg]; exact (HB.out).size); have n0_ := Aside0.mk (blk_below BK_gc.out hb); have n1_ := Aside0.mk (below_step HB.out hb); clear HB BK_gc; have BK_gc := n0_; have HB := n1_; clear n0_ n1_; have BK_gb := Aside0.mk hbox; clear hg hbox hb; have nn_gc_gb := NX_gc_gb.out; have nm_gc_gb := Ne.symm NX_gc_gb.out; clear c_gc_0 c_gc_1 c_gc_2 c_gc_3 c_gc_4 c_gc_5; obtain ⟨c_gc_0, c_gc_1, c_gc_2, c_gc_3, c_gc_4, c_gc_5⟩ := q9_ BK_gc; obtain ⟨c_gb_0, c_gb_1, c_gb_2, c_gb_3, c_gb_4, c_gb_5⟩ := q9_ BK_gb) | ((with_reducible refine gate_callee (f := 10) rfl ?_); refine goesL_ (some 21) rfl rfl Try.func10 (by kernel_rfl) rfl #[] rfl (by (try simp only [List.map_toArray, List.map_cons, List.map_nil]); first | done | rfl) ?_; (with_reducible refine (seizinlaw04_head.calls true _ HH.out).mono ?_); rintro e_ w3 ⟨rfl, hb⟩; refine ⟨_, rfl, ?_⟩; have n0_ := Aside0.mk (blk_below BK_gc.out hb); have n1_ := Aside0.mk (blk_below BK_gb.out hb); have n2_ := Aside0.mk (below_step HB.out hb); clear HB BK_gc BK_gb; have BK_gc := n0_; have BK_gb := n1_; have HB := n2_; clear n0_ n1_ n2_; clear hb; clear c_gc_0 c_gc_1 c_gc_2 c_gc_3 c_gc_4 c_gc_5 c_gb_0 c_gb_1 c_gb_2 c_gb_3 c_gb_4 c_gb_5; obtain ⟨c_gc_0, c_gc_1, c_gc_2, c_gc_3, c_gc_4, c_gc_5⟩ := q9_ BK_gc; obtain ⟨c_gb_0, c_gb_1, c_gb_2, c_gb_3, c_gb_4, c_gb_5⟩ := q9_ BK_gb) | ((with_reducible refine gate_callee (f := 27) rfl ?_); refine goesL_ (some 23) rfl rfl Try.func27 (by kernel_rfl) rfl #[.agg #[.bool true, .int .i64 a0_1, .int .i64 a0_2, .int .i64 a0_3, .int .i64 a0_4, .int .i64 a0_5]] rfl (by (try simp only [List.map_toArray, List.map_cons, List.map_nil]); first | done | rfl) ?_; (with_reducible refine (seizinref02_Right.calls true a0_1 a0_2 a0_3 a0_4 a0_5 true _ HR.out).mono ?_); rintro e_ w4 ⟨rfl, hb⟩; refine ⟨_, rfl, ?_⟩; have n0_ := Aside0.mk (blk_below BK_gc.out hb); have n1_ := Aside0.mk (blk_below BK_gb.out hb); have n2_ := Aside0.mk (below_step HB.out hb); clear HB BK_gc BK_gb; have BK_gc := n0_; have BK_gb := n1_; have HB := n2_; clear n0_ n1_ n2_; clear hb; clear c_gc_0 c_gc_1 c_gc_2 c_gc_3 c_gc_4 c_gc_5 c_gb_0 c_gb_1 c_gb_2 c_gb_3 c_gb_4 c_gb_5; obtain ⟨c_gc_0, c_gc_1, c_gc_2, c_gc_3, c_gc_4, c_gc_5⟩ := q9_ BK_gc; obtain ⟨c_gb_0, c_gb_1, c_gb_2, c_gb_3, c_gb_4, c_gb_5⟩ := q9_ BK_gb) | ((with_reducible refine gate_callee (f := 11) rfl ?_); refine goesL_ (some 40) rfl rfl Try.func11 (by kernel_rfl) rfl #[.agg #[.bool true, .int .i64 a0_1, .int .i64 a0_2, .int .i64 a0_3, .int .i64 a0_4, .int .i64 a0_5], .int .i64 a2] rfl (by (try simp only [List.map_toArray, List.map_cons, List.map_nil]); first | done | rfl) ?_; (with_reducible refine (derive_Bounds.calls true a0_1 a0_2 a0_3 a0_4 a0_5 a2 false 0 0 0 0 0 42 _ H0.out).mono ?_); rintro e_ w5 ⟨rfl, hb⟩; refine ⟨_, rfl, ?_⟩; have n0_ := Aside0.mk (blk_below BK_gc.out hb); have n1_ := Aside0.mk (blk_below BK_gb.out hb); have n2_ := Aside0.mk (below_step HB.out hb); clear HB BK_gc BK_gb; have BK_gc := n0_; have BK_gb := n1_; have HB := n2_; clear n0_ n1_ n2_; clear hb; clear c_gc_0 c_gc_1 c_gc_2 c_gc_3 c_gc_4 c_gc_5 c_gb_0 c_gb_1 c_gb_2 c_gb_3 c_gb_4 c_gb_5; obtain ⟨c_gc_0, c_gc_1, c_gc_2, c_gc_3, c_gc_4, c_gc_5⟩ := q9_ BK_gc; obtain ⟨c_gb_0, c_gb_1, c_gb_2, c_gb_3, c_gb_4, c_gb_5⟩ := q9_ BK_gb) | ((with_reducible refine gate_dst (N := 9) rfl ?_); refine box_event ?hg (N := 9) ?hd (cs := #[.bool false, .int .i64 0, .int .i64 0, .int .i64 0, .int .i64 0, .int .i64 0]) (t := 23) ?hr ?_; (case hd => rfl); (case hg => rfl); (case hr => first | (go_simp; done) | (go_simp; rfl)); intro g0 hg w6 hbox hb; have NX_gc_g0 := Aside0.mk (show gc ≠ g0 from by rw [hg]; exact Nat.ne_of_lt (blk_lt BK_gc.out)); have NX_gb_g0 := Aside0.mk (show gb ≠ g0 from by rw [hg]; exact Nat.ne_of_lt (blk_lt BK_gb.out)); have GX_g0 := Aside0.mk (show w.heap.size ≤ g0 from by rw [hg]; exact (HB.out).size); have n0_ := Aside0.mk (blk_below BK_gc.out hb); have n1_ := Aside0.mk (blk_below BK_gb.out hb); have n2_ := Aside0.mk (below_step HB.out hb); clear HB BK_gc BK_gb; have BK_gc := n0_; have BK_gb := n1_; have HB := n2_; clear n0_ n1_ n2_; have BK_g0 := Aside0.mk hbox; clear hg hbox hb; have nn_gc_g0 := NX_gc_g0.out; have nm_gc_g0 := Ne.symm NX_gc_g0.out; have nn_gb_g0 := NX_gb_g0.out; have nm_gb_g0 := Ne.symm NX_gb_g0.out; clear c_gc_0 c_gc_1 c_gc_2 c_gc_3 c_gc_4 c_gc_5 c_gb_0 c_gb_1 c_gb_2 c_gb_3 c_gb_4 c_gb_5; obtain ⟨c_gc_0, c_gc_1, c_gc_2, c_gc_3, c_gc_4, c_gc_5⟩ := q9_ BK_gc; obtain ⟨c_gb_0, c_gb_1, c_gb_2, c_gb_3, c_gb_4, c_gb_5⟩ := q9_ BK_gb; obtain ⟨c_g0_0, c_g0_1, c_g0_2, c_g0_3, c_g0_4, c_g0_5⟩ := q9_ BK_g0; obtain ⟨f_g0_0, f_g0_1, f_g0_2, f_g0_3, f_g0_4, f_g0_5⟩ := q10_ BK_g0) | ((with_reducible refine gate_callee (f := 13) rfl ?_); refine goesL_ (some 46) rfl rfl Try.func13 (by kernel_rfl) rfl #[.agg #[.bool true, .int .i64 a0_1, .int .i64 a0_2, .int .i64 a0_3, .int .i64 a0_4, .int .i64 a0_5], .int .i64 a2] rfl (by (try simp only [List.map_toArray, List.map_cons, List.map_nil]); first | done | rfl) ?_; (with_reducible refine (derive_Perms.calls true a0_1 a0_2 a0_3 a0_4 a0_5 a2 false 0 0 0 0 0 42 _ H1.out).mono ?_); rintro e_ w7 ⟨rfl, hb⟩; refine ⟨_, rfl, ?_⟩; have n0_ := Aside0.mk (blk_below (set6_far _ _ _ _ _ _ NX_gc_g0.out BK_gc.out) hb); have n1_ := Aside0.mk (blk_below (set6_far _ _ _ _ _ _ NX_gb_g0.out BK_gb.out) hb); have n2_ := Aside0.mk (blk_below (set6_blk _ _ _ _ _ _ BK_g0.out) hb); have n3_ := Aside0.mk (below_step (set6_below _ _ _ _ _ _ HB.out GX_g0.out) hb); clear HB BK_gc BK_gb BK_g0; have BK_gc := n0_; have BK_gb := n1_; have BK_g0 := n2_; have HB := n3_; clear n0_ n1_ n2_ n3_; clear hb; clear c_gc_0 c_gc_1 c_gc_2 c_gc_3 c_gc_4 c_gc_5 c_gb_0 c_gb_1 c_gb_2 c_gb_3 c_gb_4 c_gb_5 c_g0_0 c_g0_1 c_g0_2 c_g0_3 c_g0_4 c_g0_5 f_g0_0 f_g0_1 f_g0_2 f_g0_3 f_g0_4 f_g0_5; obtain ⟨c_gc_0, c_gc_1, c_gc_2, c_gc_3, c_gc_4, c_gc_5⟩ := q9_ BK_gc; obtain ⟨c_gb_0, c_gb_1, c_gb_2, c_gb_3, c_gb_4, c_gb_5⟩ := q9_ BK_gb) | ((with_reducible refine gate_dst (N := 11) rfl ?_); refine box_event ?hg (N := 11) ?hd (cs := #[.bool false, .int .i64 0, .int .i64 0, .int .i64 0, .int .i64 0, .int .i64 0]) (t := 23) ?hr ?_; (case hd => rfl); (case hg => rfl); (case hr => first | (go_simp; done) | (go_simp; rfl)); intro g1 hg w8 hbox hb; have NX_gc_g1 := Aside0.mk (show gc ≠ g1 from by rw [hg]; exact Nat.ne_of_lt (blk_lt BK_gc.out)); have NX_gb_g1 := Aside0.mk (show gb ≠ g1 from by rw [hg]; exact Nat.ne_of_lt (blk_lt BK_gb.out)); have NX_g0_g1 := Aside0.mk (show g0 ≠ g1 from by rw [hg]; exact Nat.ne_of_lt (blk_lt BK_g0.out)); have GX_g1 := Aside0.mk (show w.heap.size ≤ g1 from by rw [hg]; exact (HB.out).size); have n0_ := Aside0.mk (blk_below BK_gc.out hb); have n1_ := Aside0.mk (blk_below BK_gb.out hb); have n2_ := Aside0.mk (blk_below BK_g0.out hb); have n3_ := Aside0.mk (below_step HB.out hb); clear HB BK_gc BK_gb BK_g0; have BK_gc := n0_; have BK_gb := n1_; have BK_g0 := n2_; have HB := n3_; clear n0_ n1_ n2_ n3_; have BK_g1 := Aside0.mk hbox; clear hg hbox hb; have nn_gc_g1 := NX_gc_g1.out; have nm_gc_g1 := Ne.symm NX_gc_g1.out; have nn_gb_g1 := NX_gb_g1.out; have nm_gb_g1 := Ne.symm NX_gb_g1.out; clear c_gc_0 c_gc_1 c_gc_2 c_gc_3 c_gc_4 c_gc_5 c_gb_0 c_gb_1 c_gb_2 c_gb_3 c_gb_4 c_gb_5; obtain ⟨c_gc_0, c_gc_1, c_gc_2, c_gc_3, c_gc_4, c_gc_5⟩ := q9_ BK_gc; obtain ⟨c_gb_0, c_gb_1, c_gb_2, c_gb_3, c_gb_4, c_gb_5⟩ := q9_ BK_gb; obtain ⟨c_g1_0, c_g1_1, c_g1_2, c_g1_3, c_g1_4, c_g1_5⟩ := q9_ BK_g1; obtain ⟨f_g1_0, f_g1_1, f_g1_2, f_g1_3, f_g1_4, f_g1_5⟩ := q10_ BK_g1) | ((with_reducible refine gate_callee (f := 19) rfl ?_); refine goesL_ (some 52) rfl rfl Try.func19 (by kernel_rfl) rfl #[.agg #[.bool true, .int .i64 a0_1, .int .i64 a0_2, .int .i64 a0_3, .int .i64 a0_4, .int .i64 a0_5], .agg #[.bool a1_0, .int .i64 a1_1, .int .i64 a1_2, .int .i64 a1_3, .int .i64 a1_4, .int .i64 a1_5]] rfl (by (try simp only [List.map_toArray, List.map_cons, List.map_nil]); first | done | rfl) ?_; (with_reducible refine (derive_Seal.calls true a0_1 a0_2 a0_3 a0_4 a0_5 a1_0 a1_1 a1_2 a1_3 a1_4 a1_5 false 0 0 0 0 0 42 _ H2.out).mono ?_); rintro e_ w9 ⟨rfl, hb⟩; refine ⟨_, rfl, ?_⟩; have n0_ := Aside0.mk (blk_below (set6_far _ _ _ _ _ _ NX_gc_g1.out BK_gc.out) hb); have n1_ := Aside0.mk (blk_below (set6_far _ _ _ _ _ _ NX_gb_g1.out BK_gb.out) hb); have n2_ := Aside0.mk (blk_below (set6_far _ _ _ _ _ _ NX_g0_g1.out BK_g0.out) hb); have n3_ := Aside0.mk (blk_below (set6_blk _ _ _ _ _ _ BK_g1.out) hb); have n4_ := Aside0.mk (below_step (set6_below _ _ _ _ _ _ HB.out GX_g1.out) hb); clear HB BK_gc BK_gb BK_g0 BK_g1; have BK_gc := n0_; have BK_gb := n1_; have BK_g0 := n2_; have BK_g1 := n3_; have HB := n4_; clear n0_ n1_ n2_ n3_ n4_; clear hb; clear c_gc_0 c_gc_1 c_gc_2 c_gc_3 c_gc_4 c_gc_5 c_gb_0 c_gb_1 c_gb_2 c_gb_3 c_gb_4 c_gb_5 c_g1_0 c_g1_1 c_g1_2 c_g1_3 c_g1_4 c_g1_5 f_g1_0 f_g1_1 f_g1_2 f_g1_3 f_g1_4 f_g1_5; obtain ⟨c_gc_0, c_gc_1, c_gc_2, c_gc_3, c_gc_4, c_gc_5⟩ := q9_ BK_gc; obtain ⟨c_gb_0, c_gb_1, c_gb_2, c_gb_3, c_gb_4, c_gb_5⟩ := q9_ BK_gb) | ((with_reducible refine gate_dst (N := 13) rfl ?_); refine box_event ?hg (N := 13) ?hd (cs := #[.bool false, .int .i64 0, .int .i64 0, .int .i64 0, .int .i64 0, .int .i64 0]) (t := 23) ?hr ?_; (case hd => rfl); (case hg => rfl); (case hr => first | (go_simp; done) | (go_simp; rfl)); intro g2 hg w10 hbox hb; have NX_gc_g2 := Aside0.mk (show gc ≠ g2 from by rw [hg]; exact Nat.ne_of_lt (blk_lt BK_gc.out)); have NX_gb_g2 := Aside0.mk (show gb ≠ g2 from by rw [hg]; exact Nat.ne_of_lt (blk_lt BK_gb.out)); have NX_g0_g2 := Aside0.mk (show g0 ≠ g2 from by rw [hg]; exact Nat.ne_of_lt (blk_lt BK_g0.out)); have NX_g1_g2 := Aside0.mk (show g1 ≠ g2 from by rw [hg]; exact Nat.ne_of_lt (blk_lt BK_g1.out)); have GX_g2 := Aside0.mk (show w.heap.size ≤ g2 from by rw [hg]; exact (HB.out).size); have n0_ := Aside0.mk (blk_below BK_gc.out hb); have n1_ := Aside0.mk (blk_below BK_gb.out hb); have n2_ := Aside0.mk (blk_below BK_g0.out hb); have n3_ := Aside0.mk (blk_below BK_g1.out hb); have n4_ := Aside0.mk (below_step HB.out hb); clear HB BK_gc BK_gb BK_g0 BK_g1; have BK_gc := n0_; have BK_gb := n1_; have BK_g0 := n2_; have BK_g1 := n3_; have HB := n4_; clear n0_ n1_ n2_ n3_ n4_; have BK_g2 := Aside0.mk hbox; clear hg hbox hb; have nn_gc_g2 := NX_gc_g2.out; have nm_gc_g2 := Ne.symm NX_gc_g2.out; have nn_gb_g2 := NX_gb_g2.out; have nm_gb_g2 := Ne.symm NX_gb_g2.out; clear c_gc_0 c_gc_1 c_gc_2 c_gc_3 c_gc_4 c_gc_5 c_gb_0 c_gb_1 c_gb_2 c_gb_3 c_gb_4 c_gb_5; obtain ⟨c_gc_0, c_gc_1, c_gc_2, c_gc_3, c_gc_4, c_gc_5⟩ := q9_ BK_gc; obtain ⟨c_gb_0, c_gb_1, c_gb_2, c_gb_3, c_gb_4, c_gb_5⟩ := q9_ BK_gb; obtain ⟨c_g2_0, c_g2_1, c_g2_2, c_g2_3, c_g2_4, c_g2_5⟩ := q9_ BK_g2; obtain ⟨f_g2_0, f_g2_1, f_g2_2, f_g2_3, f_g2_4, f_g2_5⟩ := q10_ BK_g2) | ((with_reducible refine gate_callee (f := 23) rfl ?_); refine goesL_ (some 57) rfl rfl Try.func23 (by kernel_rfl) rfl #[.agg #[.bool true, .int .i64 a0_1, .int .i64 a0_2, .int .i64 a0_3, .int .i64 a0_4, .int .i64 a0_5]] rfl (by (try simp only [List.map_toArray, List.map_cons, List.map_nil]); first | done | rfl) ?_; (with_reducible refine (derive_Enter.calls true a0_1 a0_2 a0_3 a0_4 a0_5 false 0 0 0 0 0 42 _ H3.out).mono ?_); rintro e_ w11 ⟨rfl, hb⟩; refine ⟨_, rfl, ?_⟩; have n0_ := Aside0.mk (blk_below (set6_far _ _ _ _ _ _ NX_gc_g2.out BK_gc.out) hb); have n1_ := Aside0.mk (blk_below (set6_far _ _ _ _ _ _ NX_gb_g2.out BK_gb.out) hb); have n2_ := Aside0.mk (blk_below (set6_far _ _ _ _ _ _ NX_g0_g2.out BK_g0.out) hb); have n3_ := Aside0.mk (blk_below (set6_far _ _ _ _ _ _ NX_g1_g2.out BK_g1.out) hb); have n4_ := Aside0.mk (blk_below (set6_blk _ _ _ _ _ _ BK_g2.out) hb); have n5_ := Aside0.mk (below_step (set6_below _ _ _ _ _ _ HB.out GX_g2.out) hb); clear HB BK_gc BK_gb BK_g0 BK_g1 BK_g2; have BK_gc := n0_; have BK_gb := n1_; have BK_g0 := n2_; have BK_g1 := n3_; have BK_g2 := n4_; have HB := n5_; clear n0_ n1_ n2_ n3_ n4_ n5_; clear hb; clear c_gc_0 c_gc_1 c_gc_2 c_gc_3 c_gc_4 c_gc_5 c_gb_0 c_gb_1 c_gb_2 c_gb_3 c_gb_4 c_gb_5 c_g2_0 c_g2_1 c_g2_2 c_g2_3 c_g2_4 c_g2_5 f_g2_0 f_g2_1 f_g2_2 f_g2_3 f_g2_4 f_g2_5; obtain ⟨c_gc_0, c_gc_1, c_gc_2, c_gc_3, c_gc_4, c_gc_5⟩ := q9_ BK_gc; obtain ⟨c_gb_0, c_gb_1, c_gb_2, c_gb_3, c_gb_4, c_gb_5⟩ := q9_ BK_gb) | ((with_reducible refine gate_dst (N := 15) rfl ?_); refine box_event ?hg (N := 15) ?hd (cs := #[.bool false, .int .i64 0, .int .i64 0, .int .i64 0, .int .i64 0, .int .i64 0]) (t := 23) ?hr ?_; (case hd => rfl); (case hg => rfl); (case hr => first | (go_simp; done) | (go_simp; rfl)); intro g3 hg w12 hbox hb; have NX_gc_g3 := Aside0.mk (show gc ≠ g3 from by rw [hg]; exact Nat.ne_of_lt (blk_lt BK_gc.out)); have NX_gb_g3 := Aside0.mk (show gb ≠ g3 from by rw [hg]; exact Nat.ne_of_lt (blk_lt BK_gb.out)); have NX_g0_g3 := Aside0.mk (show g0 ≠ g3 from by rw [hg]; exact Nat.ne_of_lt (blk_lt BK_g0.out)); have NX_g1_g3 := Aside0.mk (show g1 ≠ g3 from by rw [hg]; exact Nat.ne_of_lt (blk_lt BK_g1.out)); have NX_g2_g3 := Aside0.mk (show g2 ≠ g3 from by rw [hg]; exact Nat.ne_of_lt (blk_lt BK_g2.out)); have GX_g3 := Aside0.mk (show w.heap.size ≤ g3 from by rw [hg]; exact (HB.out).size); have n0_ := Aside0.mk (blk_below BK_gc.out hb); have n1_ := Aside0.mk (blk_below BK_gb.out hb); have n2_ := Aside0.mk (blk_below BK_g0.out hb); have n3_ := Aside0.mk (blk_below BK_g1.out hb); have n4_ := Aside0.mk (blk_below BK_g2.out hb); have n5_ := Aside0.mk (below_step HB.out hb); clear HB BK_gc BK_gb BK_g0 BK_g1 BK_g2; have BK_gc := n0_; have BK_gb := n1_; have BK_g0 := n2_; have BK_g1 := n3_; have BK_g2 := n4_; have HB := n5_; clear n0_ n1_ n2_ n3_ n4_ n5_; have BK_g3 := Aside0.mk hbox; clear hg hbox hb; have nn_gc_g3 := NX_gc_g3.out; have nm_gc_g3 := Ne.symm NX_gc_g3.out; have nn_gb_g3 := NX_gb_g3.out; have nm_gb_g3 := Ne.symm NX_gb_g3.out; clear c_gc_0 c_gc_1 c_gc_2 c_gc_3 c_gc_4 c_gc_5 c_gb_0 c_gb_1 c_gb_2 c_gb_3 c_gb_4 c_gb_5; obtain ⟨c_gc_0, c_gc_1, c_gc_2, c_gc_3, c_gc_4, c_gc_5⟩ := q9_ BK_gc; obtain ⟨c_gb_0, c_gb_1, c_gb_2, c_gb_3, c_gb_4, c_gb_5⟩ := q9_ BK_gb; obtain ⟨c_g3_0, c_g3_1, c_g3_2, c_g3_3, c_g3_4, c_g3_5⟩ := q9_ BK_g3; obtain ⟨f_g3_0, f_g3_1, f_g3_2, f_g3_3, f_g3_4, f_g3_5⟩ := q10_ BK_g3) | ((with_reducible refine gate_callee (f := 15) rfl ?_); refine goesL_ (some 63) rfl rfl Try.func15 (by kernel_rfl) rfl #[.agg #[.bool true, .int .i64 a0_1, .int .i64 a0_2, .int .i64 a0_3, .int .i64 a0_4, .int .i64 a0_5], .int .i64 a2] rfl (by (try simp only [List.map_toArray, List.map_cons, List.map_nil]); first | done | rfl) ?_; (with_reducible refine (derive_Move.calls true a0_1 a0_2 a0_3 a0_4 a0_5 a2 false 0 0 0 0 0 42 _ H4.out).mono ?_); rintro e_ w13 ⟨rfl, hb⟩; refine ⟨_, rfl, ?_⟩; have n0_ := Aside0.mk (blk_below (set6_far _ _ _ _ _ _ NX_gc_g3.out BK_gc.out) hb); have n1_ := Aside0.mk (blk_below (set6_far _ _ _ _ _ _ NX_gb_g3.out BK_gb.out) hb); have n2_ := Aside0.mk (blk_below (set6_far _ _ _ _ _ _ NX_g0_g3.out BK_g0.out) hb); have n3_ := Aside0.mk (blk_below (set6_far _ _ _ _ _ _ NX_g1_g3.out BK_g1.out) hb); have n4_ := Aside0.mk (blk_below (set6_far _ _ _ _ _ _ NX_g2_g3.out BK_g2.out) hb); have n5_ := Aside0.mk (blk_below (set6_blk _ _ _ _ _ _ BK_g3.out) hb); have n6_ := Aside0.mk (below_step (set6_below _ _ _ _ _ _ HB.out GX_g3.out) hb); clear HB BK_gc BK_gb BK_g0 BK_g1 BK_g2 BK_g3; have BK_gc := n0_; have BK_gb := n1_; have BK_g0 := n2_; have BK_g1 := n3_; have BK_g2 := n4_; have BK_g3 := n5_; have HB := n6_; clear n0_ n1_ n2_ n3_ n4_ n5_ n6_; clear hb; clear c_gc_0 c_gc_1 c_gc_2 c_gc_3 c_gc_4 c_gc_5 c_gb_0 c_gb_1 c_gb_2 c_gb_3 c_gb_4 c_gb_5 c_g3_0 c_g3_1 c_g3_2 c_g3_3 c_g3_4 c_g3_5 f_g3_0 f_g3_1 f_g3_2 f_g3_3 f_g3_4 f_g3_5; obtain ⟨c_gc_0, c_gc_1, c_gc_2, c_gc_3, c_gc_4, c_gc_5⟩ := q9_ BK_gc; obtain ⟨c_gb_0, c_gb_1, c_gb_2, c_gb_3, c_gb_4, c_gb_5⟩ := q9_ BK_gb) | ((with_reducible refine gate_dst (N := 17) rfl ?_); refine box_event ?hg (N := 17) ?hd (cs := #[.bool false, .int .i64 0, .int .i64 0, .int .i64 0, .int .i64 0, .int .i64 0]) (t := 23) ?hr ?_; (case hd => rfl); (case hg => rfl); (case hr => first | (go_simp; done) | (go_simp; rfl)); intro g4 hg w14 hbox hb; have NX_gc_g4 := Aside0.mk (show gc ≠ g4 from by rw [hg]; exact Nat.ne_of_lt (blk_lt BK_gc.out)); have NX_gb_g4 := Aside0.mk (show gb ≠ g4 from by rw [hg]; exact Nat.ne_of_lt (blk_lt BK_gb.out)); have NX_g0_g4 := Aside0.mk (show g0 ≠ g4 from by rw [hg]; exact Nat.ne_of_lt (blk_lt BK_g0.out)); have NX_g1_g4 := Aside0.mk (show g1 ≠ g4 from by rw [hg]; exact Nat.ne_of_lt (blk_lt BK_g1.out)); have NX_g2_g4 := Aside0.mk (show g2 ≠ g4 from by rw [hg]; exact Nat.ne_of_lt (blk_lt BK_g2.out)); have NX_g3_g4 := Aside0.mk (show g3 ≠ g4 from by rw [hg]; exact Nat.ne_of_lt (blk_lt BK_g3.out)); have GX_g4 := Aside0.mk (show w.heap.size ≤ g4 from by rw [hg]; exact (HB.out).size); have n0_ := Aside0.mk (blk_below BK_gc.out hb); have n1_ := Aside0.mk (blk_below BK_gb.out hb); have n2_ := Aside0.mk (blk_below BK_g0.out hb); have n3_ := Aside0.mk (blk_below BK_g1.out hb); have n4_ := Aside0.mk (blk_below BK_g2.out hb); have n5_ := Aside0.mk (blk_below BK_g3.out hb); have n6_ := Aside0.mk (below_step HB.out hb); clear HB BK_gc BK_gb BK_g0 BK_g1 BK_g2 BK_g3; have BK_gc := n0_; have BK_gb := n1_; have BK_g0 := n2_; have BK_g1 := n3_; have BK_g2 := n4_; have BK_g3 := n5_; have HB := n6_; clear n0_ n1_ n2_ n3_ n4_ n5_ n6_; have BK_g4 := Aside0.mk hbox; clear hg hbox hb; have nn_gc_g4 := NX_gc_g4.out; have nm_gc_g4 := Ne.symm NX_gc_g4.out; have nn_gb_g4 := NX_gb_g4.out; have nm_gb_g4 := Ne.symm NX_gb_g4.out; clear c_gc_0 c_gc_1 c_gc_2 c_gc_3 c_gc_4 c_gc_5 c_gb_0 c_gb_1 c_gb_2 c_gb_3 c_gb_4 c_gb_5; obtain ⟨c_gc_0, c_gc_1, c_gc_2, c_gc_3, c_gc_4, c_gc_5⟩ := q9_ BK_gc; obtain ⟨c_gb_0, c_gb_1, c_gb_2, c_gb_3, c_gb_4, c_gb_5⟩ := q9_ BK_gb; obtain ⟨c_g4_0, c_g4_1, c_g4_2, c_g4_3, c_g4_4, c_g4_5⟩ := q9_ BK_g4; obtain ⟨f_g4_0, f_g4_1, f_g4_2, f_g4_3, f_g4_4, f_g4_5⟩ := q10_ BK_g4) | ((with_reducible refine gate_callee (f := 21) rfl ?_); refine goesL_ (some 69) rfl rfl Try.func21 (by kernel_rfl) rfl #[.agg #[.bool true, .int .i64 a0_1, .int .i64 a0_2, .int .i64 a0_3, .int .i64 a0_4, .int .i64 a0_5], .agg #[.bool a1_0, .int .i64 a1_1, .int .i64 a1_2, .int .i64 a1_3, .int .i64 a1_4, .int .i64 a1_5]] rfl (by (try simp only [List.map_toArray, List.map_cons, List.map_nil]); first | done | rfl) ?_; (with_reducible refine (derive_Unseal.calls true a0_1 a0_2 a0_3 a0_4 a0_5 a1_0 a1_1 a1_2 a1_3 a1_4 a1_5 true a0_1 a0_2 a0_3 a0_4 0 0 _ H5.out).mono ?_); rintro e_ w15 ⟨rfl, hb⟩; refine ⟨_, rfl, ?_⟩; have n0_ := Aside0.mk (blk_below (set6_far _ _ _ _ _ _ NX_gc_g4.out BK_gc.out) hb); have n1_ := Aside0.mk (blk_below (set6_far _ _ _ _ _ _ NX_gb_g4.out BK_gb.out) hb); have n2_ := Aside0.mk (blk_below (set6_far _ _ _ _ _ _ NX_g0_g4.out BK_g0.out) hb); have n3_ := Aside0.mk (blk_below (set6_far _ _ _ _ _ _ NX_g1_g4.out BK_g1.out) hb); have n4_ := Aside0.mk (blk_below (set6_far _ _ _ _ _ _ NX_g2_g4.out BK_g2.out) hb); have n5_ := Aside0.mk (blk_below (set6_far _ _ _ _ _ _ NX_g3_g4.out BK_g3.out) hb); have n6_ := Aside0.mk (blk_below (set6_blk _ _ _ _ _ _ BK_g4.out) hb); have n7_ := Aside0.mk (below_step (set6_below _ _ _ _ _ _ HB.out GX_g4.out) hb); clear HB BK_gc BK_gb BK_g0 BK_g1 BK_g2 BK_g3 BK_g4; have BK_gc := n0_; have BK_gb := n1_; have BK_g0 := n2_; have BK_g1 := n3_; have BK_g2 := n4_; have BK_g3 := n5_; have BK_g4 := n6_; have HB := n7_; clear n0_ n1_ n2_ n3_ n4_ n5_ n6_ n7_; clear hb; clear c_gc_0 c_gc_1 c_gc_2 c_gc_3 c_gc_4 c_gc_5 c_gb_0 c_gb_1 c_gb_2 c_gb_3 c_gb_4 c_gb_5 c_g4_0 c_g4_1 c_g4_2 c_g4_3 c_g4_4 c_g4_5 f_g4_0 f_g4_1 f_g4_2 f_g4_3 f_g4_4 f_g4_5; obtain ⟨c_gc_0, c_gc_1, c_gc_2, c_gc_3, c_gc_4, c_gc_5⟩ := q9_ BK_gc; obtain ⟨c_gb_0, c_gb_1, c_gb_2, c_gb_3, c_gb_4, c_gb_5⟩ := q9_ BK_gb; obtain ⟨c_g4_0, c_g4_1, c_g4_2, c_g4_3, c_g4_4, c_g4_5⟩ := q9_ BK_g4) | ((with_reducible refine gate_dst (N := 19) rfl ?_); refine box_event ?hg (N := 19) ?hd (cs := #[.bool false, .int .i64 0, .int .i64 0, .int .i64 0, .int .i64 0, .int .i64 0]) (t := 23) ?hr ?_; (case hd => rfl); (case hg => rfl); (case hr => first | (go_simp; done) | (go_simp; rfl)); intro g5 hg w16 hbox hb; have NX_gc_g5 := Aside0.mk (show gc ≠ g5 from by rw [hg]; exact Nat.ne_of_lt (blk_lt BK_gc.out)); have NX_gb_g5 := Aside0.mk (show gb ≠ g5 from by rw [hg]; exact Nat.ne_of_lt (blk_lt BK_gb.out)); have NX_g0_g5 := Aside0.mk (show g0 ≠ g5 from by rw [hg]; exact Nat.ne_of_lt (blk_lt BK_g0.out)); have NX_g1_g5 := Aside0.mk (show g1 ≠ g5 from by rw [hg]; exact Nat.ne_of_lt (blk_lt BK_g1.out)); have NX_g2_g5 := Aside0.mk (show g2 ≠ g5 from by rw [hg]; exact Nat.ne_of_lt (blk_lt BK_g2.out)); have NX_g3_g5 := Aside0.mk (show g3 ≠ g5 from by rw [hg]; exact Nat.ne_of_lt (blk_lt BK_g3.out)); have NX_g4_g5 := Aside0.mk (show g4 ≠ g5 from by rw [hg]; exact Nat.ne_of_lt (blk_lt BK_g4.out)); have GX_g5 := Aside0.mk (show w.heap.size ≤ g5 from by rw [hg]; exact (HB.out).size); have n0_ := Aside0.mk (blk_below BK_gc.out hb); have n1_ := Aside0.mk (blk_below BK_gb.out hb); have n2_ := Aside0.mk (blk_below BK_g0.out hb); have n3_ := Aside0.mk (blk_below BK_g1.out hb); have n4_ := Aside0.mk (blk_below BK_g2.out hb); have n5_ := Aside0.mk (blk_below BK_g3.out hb); have n6_ := Aside0.mk (blk_below BK_g4.out hb); have n7_ := Aside0.mk (below_step HB.out hb); clear HB BK_gc BK_gb BK_g0 BK_g1 BK_g2 BK_g3 BK_g4; have BK_gc := n0_; have BK_gb := n1_; have BK_g0 := n2_; have BK_g1 := n3_; have BK_g2 := n4_; have BK_g3 := n5_; have BK_g4 := n6_; have HB := n7_; clear n0_ n1_ n2_ n3_ n4_ n5_ n6_ n7_; have BK_g5 := Aside0.mk hbox; clear hg hbox hb; have nn_gc_g5 := NX_gc_g5.out; have nm_gc_g5 := Ne.symm NX_gc_g5.out; have nn_gb_g5 := NX_gb_g5.out; have nm_gb_g5 := Ne.symm NX_gb_g5.out; have nn_g4_g5 := NX_g4_g5.out; have nm_g4_g5 := Ne.symm NX_g4_g5.out; clear c_gc_0 c_gc_1 c_gc_2 c_gc_3 c_gc_4 c_gc_5 c_gb_0 c_gb_1 c_gb_2 c_gb_3 c_gb_4 c_gb_5 c_g4_0 c_g4_1 c_g4_2 c_g4_3 c_g4_4 c_g4_5; obtain ⟨c_gc_0, c_gc_1, c_gc_2, c_gc_3, c_gc_4, c_gc_5⟩ := q9_ BK_gc; obtain ⟨c_gb_0, c_gb_1, c_gb_2, c_gb_3, c_gb_4, c_gb_5⟩ := q9_ BK_gb; obtain ⟨c_g4_0, c_g4_1, c_g4_2, c_g4_3, c_g4_4, c_g4_5⟩ := q9_ BK_g4; obtain ⟨c_g5_0, c_g5_1, c_g5_2, c_g5_3, c_g5_4, c_g5_5⟩ := q9_ BK_g5; obtain ⟨f_g5_0, f_g5_1, f_g5_2, f_g5_3, f_g5_4, f_g5_5⟩ := q10_ BK_g5))
  refine wp_region_list ?_
  simp only [List.toList_toArray, List.append_eq, List.cons_append, List.nil_append]
  refine guardOn_ (N := some 72) (v := ?_) (by rfl) rfl ?_ ?_
  rotate_left
  · go_simp
    with_reducible rfl
  simp only [Act.put, List.setIfInBounds_toArray, List.set_cons_zero, List.set_cons_succ, i64_w, i32_w]
  refine guardOn_ (N := some 73) (v := ?_) (by rfl) rfl ?_ ?_
  rotate_left
  · go_simp
    with_reducible rfl
  simp only [Act.put, List.setIfInBounds_toArray, List.set_cons_zero, List.set_cons_succ, i64_w, i32_w]
  refine guardOn_ (N := some 74) (v := ?_) (by rfl) rfl ?_ ?_
  rotate_left
  · go_simp
    with_reducible rfl
  simp only [Act.put, List.setIfInBounds_toArray, List.set_cons_zero, List.set_cons_succ, i64_w, i32_w]
  refine guardOn_ (N := some 75) (v := ?_) (by rfl) rfl ?_ ?_
  rotate_left
  · go_simp
    with_reducible rfl
  simp only [Act.put, List.setIfInBounds_toArray, List.set_cons_zero, List.set_cons_succ, i64_w, i32_w]
  refine guardOn_ (N := some 76) (v := ?_) (by rfl) rfl ?_ ?_
  rotate_left
  · go_simp
    with_reducible rfl
  simp only [Act.put, List.setIfInBounds_toArray, List.set_cons_zero, List.set_cons_succ, i64_w, i32_w]
  refine guardOn_ (N := some 77) (v := ?_) (by rfl) rfl ?_ ?_
  rotate_left
  · go_simp
    with_reducible rfl
  simp only [Act.put, List.setIfInBounds_toArray, List.set_cons_zero, List.set_cons_succ, i64_w, i32_w]
  refine guardOn_ (N := some 78) (v := ?_) (by rfl) rfl ?_ ?_
  rotate_left
  · go_simp
    with_reducible rfl
  simp only [Act.put, List.setIfInBounds_toArray, List.set_cons_zero, List.set_cons_succ, i64_w, i32_w]
  refine guardOn_ (N := some 79) (v := ?_) (by rfl) rfl ?_ ?_
  rotate_left
  · go_simp
    with_reducible rfl
  simp only [Act.put, List.setIfInBounds_toArray, List.set_cons_zero, List.set_cons_succ, i64_w, i32_w]
  refine guardOn_ (N := some 80) (v := ?_) (by rfl) rfl ?_ ?_
  rotate_left
  · go_simp
    with_reducible rfl
  simp only [Act.put, List.setIfInBounds_toArray, List.set_cons_zero, List.set_cons_succ, i64_w, i32_w]
  refine guardOn_ (N := some 81) (v := ?_) (by rfl) rfl ?_ ?_
  rotate_left
  · go_simp
    with_reducible rfl
  simp only [Act.put, List.setIfInBounds_toArray, List.set_cons_zero, List.set_cons_succ, i64_w, i32_w]
  refine guardOn_ (N := some 82) (v := ?_) (by rfl) rfl ?_ ?_
  rotate_left
  · go_simp
    with_reducible rfl
  simp only [Act.put, List.setIfInBounds_toArray, List.set_cons_zero, List.set_cons_succ, i64_w, i32_w]
  refine guardOn_ (N := some 83) (v := ?_) (by rfl) rfl ?_ ?_
  rotate_left
  · go_simp
    with_reducible rfl
  simp only [Act.put, List.setIfInBounds_toArray, List.set_cons_zero, List.set_cons_succ, i64_w, i32_w]
  refine guardOn_ (N := some 84) (v := ?_) (by rfl) rfl ?_ ?_
  rotate_left
  · go_simp
    with_reducible rfl
  simp only [Act.put, List.setIfInBounds_toArray, List.set_cons_zero, List.set_cons_succ, i64_w, i32_w]
  refine guardOn_ (N := some 85) (v := ?_) (by rfl) rfl ?_ ?_
  rotate_left
  · go_simp
    with_reducible rfl
  simp only [Act.put, List.setIfInBounds_toArray, List.set_cons_zero, List.set_cons_succ, i64_w, i32_w]
  refine guardOn_ (N := some 86) (v := ?_) (by rfl) rfl ?_ ?_
  rotate_left
  · go_simp
    with_reducible rfl
  simp only [Act.put, List.setIfInBounds_toArray, List.set_cons_zero, List.set_cons_succ, i64_w, i32_w]
  refine guardOn_ (N := some 87) (v := ?_) (by rfl) rfl ?_ ?_
  rotate_left
  · go_simp
    with_reducible rfl
  simp only [Act.put, List.setIfInBounds_toArray, List.set_cons_zero, List.set_cons_succ, i64_w, i32_w]
  refine guardOn_ (N := some 88) (v := ?_) (by rfl) rfl ?_ ?_
  rotate_left
  · go_simp
    with_reducible rfl
  simp only [Act.put, List.setIfInBounds_toArray, List.set_cons_zero, List.set_cons_succ, i64_w, i32_w]
  refine guardOn_ (N := some 89) (v := ?_) (by rfl) rfl ?_ ?_
  rotate_left
  · go_simp
    with_reducible rfl
  simp only [Act.put, List.setIfInBounds_toArray, List.set_cons_zero, List.set_cons_succ, i64_w, i32_w]
  refine guardOn_ (N := some 90) (v := ?_) (by rfl) rfl ?_ ?_
  rotate_left
  · go_simp
    with_reducible rfl
  simp only [Act.put, List.setIfInBounds_toArray, List.set_cons_zero, List.set_cons_succ, i64_w, i32_w]
  refine guardOn_ (N := some 91) (v := ?_) (by rfl) rfl ?_ ?_
  rotate_left
  · go_simp
    with_reducible rfl
  simp only [Act.put, List.setIfInBounds_toArray, List.set_cons_zero, List.set_cons_succ, i64_w, i32_w]
  refine guardOn_ (N := some 92) (v := ?_) (by rfl) rfl ?_ ?_
  rotate_left
  · go_simp
    with_reducible rfl
  simp only [Act.put, List.setIfInBounds_toArray, List.set_cons_zero, List.set_cons_succ, i64_w, i32_w]
  refine guardOn_ (N := some 93) (v := ?_) (by rfl) rfl ?_ ?_
  rotate_left
  · go_simp
    with_reducible rfl
  simp only [Act.put, List.setIfInBounds_toArray, List.set_cons_zero, List.set_cons_succ, i64_w, i32_w]
  refine guardOn_ (N := some 94) (v := ?_) (by rfl) rfl ?_ ?_
  rotate_left
  · go_simp
    with_reducible rfl
  simp only [Act.put, List.setIfInBounds_toArray, List.set_cons_zero, List.set_cons_succ, i64_w, i32_w]
  refine guardOn_ (N := some 95) (v := ?_) (by rfl) rfl ?_ ?_
  rotate_left
  · go_simp
    with_reducible rfl
  simp only [Act.put, List.setIfInBounds_toArray, List.set_cons_zero, List.set_cons_succ, i64_w, i32_w]
  refine guardOn_ (N := some 96) (v := ?_) (by rfl) rfl ?_ ?_
  rotate_left
  · go_simp
    with_reducible rfl
  simp only [Act.put, List.setIfInBounds_toArray, List.set_cons_zero, List.set_cons_succ, i64_w, i32_w]
  refine guardOn_ (N := some 97) (v := ?_) (by rfl) rfl ?_ ?_
  rotate_left
  · go_simp
    with_reducible rfl
  simp only [Act.put, List.setIfInBounds_toArray, List.set_cons_zero, List.set_cons_succ, i64_w, i32_w]
  refine guardOn_ (N := some 98) (v := ?_) (by rfl) rfl ?_ ?_
  rotate_left
  · go_simp
    with_reducible rfl
  simp only [Act.put, List.setIfInBounds_toArray, List.set_cons_zero, List.set_cons_succ, i64_w, i32_w]
  refine guardOn_ (N := some 99) (v := ?_) (by rfl) rfl ?_ ?_
  rotate_left
  · go_simp
    with_reducible rfl
  simp only [Act.put, List.setIfInBounds_toArray, List.set_cons_zero, List.set_cons_succ, i64_w, i32_w]
  refine guardOn_ (N := some 100) (v := ?_) (by rfl) rfl ?_ ?_
  rotate_left
  · go_simp
    with_reducible rfl
  simp only [Act.put, List.setIfInBounds_toArray, List.set_cons_zero, List.set_cons_succ, i64_w, i32_w]
  with_reducible refine guardOff_ ?_ ?_
  rotate_left
  · rfl
  simp only [Act.put, List.setIfInBounds_toArray, List.set_cons_zero, List.set_cons_succ, i64_w, i32_w]
  with_reducible refine guardOff_ ?_ ?_
  rotate_left
  · rfl
  simp only [Act.put, List.setIfInBounds_toArray, List.set_cons_zero, List.set_cons_succ, i64_w, i32_w]
  with_reducible refine guardOff_ ?_ ?_
  rotate_left
  · rfl
  simp only [Act.put, List.setIfInBounds_toArray, List.set_cons_zero, List.set_cons_succ, i64_w, i32_w]
  with_reducible refine guardOff_ ?_ ?_
  rotate_left
  · rfl
  simp only [Act.put, List.setIfInBounds_toArray, List.set_cons_zero, List.set_cons_succ, i64_w, i32_w]
  with_reducible refine guardOff_ ?_ ?_
  rotate_left
  · rfl
  simp only [Act.put, List.setIfInBounds_toArray, List.set_cons_zero, List.set_cons_succ, i64_w, i32_w]
  with_reducible refine guardOff_ ?_ ?_
  rotate_left
  · rfl
  simp only [Act.put, List.setIfInBounds_toArray, List.set_cons_zero, List.set_cons_succ, i64_w, i32_w]
  with_reducible refine guardOff_ ?_ ?_
  rotate_left
  · rfl
  simp only [Act.put, List.setIfInBounds_toArray, List.set_cons_zero, List.set_cons_succ, i64_w, i32_w]
  with_reducible refine guardOff_ ?_ ?_
  rotate_left
  · rfl
  simp only [Act.put, List.setIfInBounds_toArray, List.set_cons_zero, List.set_cons_succ, i64_w, i32_w]
  with_reducible refine guardOff_ ?_ ?_
  rotate_left
  · rfl
  simp only [Act.put, List.setIfInBounds_toArray, List.set_cons_zero, List.set_cons_succ, i64_w, i32_w]
  with_reducible refine guardOff_ ?_ ?_
  rotate_left
  · rfl
  simp only [Act.put, List.setIfInBounds_toArray, List.set_cons_zero, List.set_cons_succ, i64_w, i32_w]
  with_reducible refine guardOff_ ?_ ?_
  rotate_left
  · rfl
  simp only [Act.put, List.setIfInBounds_toArray, List.set_cons_zero, List.set_cons_succ, i64_w, i32_w]
  with_reducible refine guardOff_ ?_ ?_
  rotate_left
  · rfl
  simp only [Act.put, List.setIfInBounds_toArray, List.set_cons_zero, List.set_cons_succ, i64_w, i32_w]
  refine guardOn_ (N := some 113) (v := ?_) (by rfl) rfl ?_ ?_
  rotate_left
  · go_simp
    with_reducible rfl
  simp only [Act.put, List.setIfInBounds_toArray, List.set_cons_zero, List.set_cons_succ, i64_w, i32_w]
  refine guardOn_ (N := some 114) (v := ?_) (by rfl) rfl ?_ ?_
  rotate_left
  · go_simp
    with_reducible rfl
  simp only [Act.put, List.setIfInBounds_toArray, List.set_cons_zero, List.set_cons_succ, i64_w, i32_w]
  refine guardOn_ (N := some 115) (v := ?_) (by rfl) rfl ?_ ?_
  rotate_left
  · go_simp
    with_reducible rfl
  simp only [Act.put, List.setIfInBounds_toArray, List.set_cons_zero, List.set_cons_succ, i64_w, i32_w]
  refine guardOn_ (N := some 116) (v := ?_) (by rfl) rfl ?_ ?_
  rotate_left
  · go_simp
    with_reducible rfl
  simp only [Act.put, List.setIfInBounds_toArray, List.set_cons_zero, List.set_cons_succ, i64_w, i32_w]
  refine guardOn_ (N := some 117) (v := ?_) (by rfl) rfl ?_ ?_
  rotate_left
  · go_simp
    with_reducible rfl
  simp only [Act.put, List.setIfInBounds_toArray, List.set_cons_zero, List.set_cons_succ, i64_w, i32_w]
  refine guardOn_ (N := some 118) (v := ?_) (by rfl) rfl ?_ ?_
  rotate_left
  · go_simp
    with_reducible rfl
  simp only [Act.put, List.setIfInBounds_toArray, List.set_cons_zero, List.set_cons_succ, i64_w, i32_w]
  with_reducible refine guardOff_ ?_ ?_
  rotate_left
  · rfl
  simp only [Act.put, List.setIfInBounds_toArray, List.set_cons_zero, List.set_cons_succ, i64_w, i32_w]
  with_reducible refine guardOff_ ?_ ?_
  rotate_left
  · rfl
  simp only [Act.put, List.setIfInBounds_toArray, List.set_cons_zero, List.set_cons_succ, i64_w, i32_w]
  refine guardOn_ (N := some 121) (v := ?_) (by rfl) rfl ?_ ?_
  rotate_left
  · go_simp
    with_reducible rfl
  simp only [Act.put, List.setIfInBounds_toArray, List.set_cons_zero, List.set_cons_succ, i64_w, i32_w]
  refine guardOn_ (N := some 122) (v := ?_) (by rfl) rfl ?_ ?_
  rotate_left
  · go_simp
    with_reducible rfl
  simp only [Act.put, List.setIfInBounds_toArray, List.set_cons_zero, List.set_cons_succ, i64_w, i32_w]
  refine guardOn_ (N := some 123) (v := ?_) (by rfl) rfl ?_ ?_
  rotate_left
  · go_simp
    with_reducible rfl
  simp only [Act.put, List.setIfInBounds_toArray, List.set_cons_zero, List.set_cons_succ, i64_w, i32_w]
  refine guardOn_ (N := some 124) (v := ?_) (by rfl) rfl ?_ ?_
  rotate_left
  · go_simp
    with_reducible rfl
  simp only [Act.put, List.setIfInBounds_toArray, List.set_cons_zero, List.set_cons_succ, i64_w, i32_w]
  refine guardOn_ (N := some 125) (v := ?_) (by rfl) rfl ?_ ?_
  rotate_left
  · go_simp
    with_reducible rfl
  simp only [Act.put, List.setIfInBounds_toArray, List.set_cons_zero, List.set_cons_succ, i64_w, i32_w]
  refine guardOn_ (N := some 126) (v := ?_) (by rfl) rfl ?_ ?_
  rotate_left
  · go_simp
    with_reducible rfl
  simp only [Act.put, List.setIfInBounds_toArray, List.set_cons_zero, List.set_cons_succ, i64_w, i32_w]
  refine guardOn_ (N := some 127) (v := ?_) (by rfl) rfl ?_ ?_
  rotate_left
  · go_simp
    with_reducible rfl
  simp only [Act.put, List.setIfInBounds_toArray, List.set_cons_zero, List.set_cons_succ, i64_w, i32_w]
  refine guardOn_ (N := some 128) (v := ?_) (by rfl) rfl ?_ ?_
  rotate_left
  · go_simp
    with_reducible rfl
  simp only [Act.put, List.setIfInBounds_toArray, List.set_cons_zero, List.set_cons_succ, i64_w, i32_w]
  refine guardOn_ (N := some 129) (v := ?_) (by rfl) rfl ?_ ?_
  rotate_left
  · go_simp
    with_reducible rfl
  simp only [Act.put, List.setIfInBounds_toArray, List.set_cons_zero, List.set_cons_succ, i64_w, i32_w]
  refine guardOn_ (N := some 130) (v := ?_) (by rfl) rfl ?_ ?_
  rotate_left
  · go_simp
    with_reducible rfl
  simp only [Act.put, List.setIfInBounds_toArray, List.set_cons_zero, List.set_cons_succ, i64_w, i32_w]
  refine guardOn_ (N := some 131) (v := ?_) (by rfl) rfl ?_ ?_
  rotate_left
  · go_simp
    with_reducible rfl
  simp only [Act.put, List.setIfInBounds_toArray, List.set_cons_zero, List.set_cons_succ, i64_w, i32_w]
  refine guardOn_ (N := some 132) (v := ?_) (by rfl) rfl ?_ ?_
  rotate_left
  · go_simp
    with_reducible rfl
  simp only [Act.put, List.setIfInBounds_toArray, List.set_cons_zero, List.set_cons_succ, i64_w, i32_w]
  refine guardOn_ (N := some 133) (v := ?_) (by rfl) rfl ?_ ?_
  rotate_left
  · go_simp
    with_reducible rfl
  simp only [Act.put, List.setIfInBounds_toArray, List.set_cons_zero, List.set_cons_succ, i64_w, i32_w]
  refine guardOn_ (N := some 134) (v := ?_) (by rfl) rfl ?_ ?_
  rotate_left
  · go_simp
    with_reducible rfl
  simp only [Act.put, List.setIfInBounds_toArray, List.set_cons_zero, List.set_cons_succ, i64_w, i32_w]
  refine guardOn_ (N := some 135) (v := ?_) (by rfl) rfl ?_ ?_
  rotate_left
  · go_simp
    with_reducible rfl
  simp only [Act.put, List.setIfInBounds_toArray, List.set_cons_zero, List.set_cons_succ, i64_w, i32_w]
  refine guardOn_ (N := some 6) (v := ?_) (by rfl) rfl ?_ ?_
  rotate_left
  · go_simp
    with_reducible rfl
  simp only [Act.put, List.setIfInBounds_toArray, List.set_cons_zero, List.set_cons_succ, i64_w, i32_w]
  go_wp2
  all_goals go_ret
  all_goals exact ⟨by first | rfl | (simp; done) | (simp [*]; done), (set6_below _ _ _ _ _ _ HB.out GX_g5.out)⟩
theorem used1w {a : Bool} {b c d e f : Int} (h : rightB a b c d e f = true) : usedE a b c d e f = (if a = true then (if f = 0 then 0 else 42) else 41) := by unfold usedE; rw [if_pos h]
theorem deriveWrong (a0_0 : Bool) (a0_1 a0_2 a0_3 a0_4 a0_5 : Int) (a1_0 : Bool) (a1_1 a1_2 a1_3 a1_4 a1_5 : Int) (a2 : Int) (w : World) (w0_1 : I64 a0_1) (w0_2 : I64 a0_2) (w0_3 : I64 a0_3) (w0_4 : I64 a0_4) (w0_5 : I64 a0_5) (w1_1 : I64 a1_1) (w1_2 : I64 a1_2) (w1_3 : I64 a1_3) (w1_4 : I64 a1_4) (w1_5 : I64 a1_5) (w2 : I64 a2) :
    Calls Try.prog 8 #[.agg #[.bool a0_0, .int .i64 a0_1, .int .i64 a0_2, .int .i64 a0_3, .int .i64 a0_4, .int .i64 a0_5], .agg #[.bool a1_0, .int .i64 a1_1, .int .i64 a1_2, .int .i64 a1_3, .int .i64 a1_4, .int .i64 a1_5], .int .i64 a2] w fun e w' => e = .returned (.bool true) ∧ Below w.heap.size w w' := by
  cases hr : rightB a0_0 a0_1 a0_2 a0_3 a0_4 a0_5
  · have q := refRight_eq a0_0 a0_1 a0_2 a0_3 a0_4 a0_5
    rw [hr] at q
    cases a0_0
    · exact deriveWrong_not_false _ _ _ _ _ _ _ _ _ _ _ _ _ q
    · exact deriveWrong_not_true _ _ _ _ _ _ _ _ _ _ _ _ _ q
  have q := refRight_eq a0_0 a0_1 a0_2 a0_3 a0_4 a0_5
  rw [hr] at q
  have hu := used1w hr
  have b0 := Bounds_eq a0_0 a0_1 a0_2 a0_3 a0_4 a0_5 a2 w0_2 w0_4
  have b1 := Perms_eq a0_0 a0_1 a0_2 a0_3 a0_4 a0_5 a2 w0_4 w2
  have b2 := Seal_eq a0_0 a0_1 a0_2 a0_3 a0_4 a0_5 a1_0 a1_1 a1_2 a1_3 a1_4 a1_5 w0_4 w1_2 w1_4
  have b3 := Enter_eq a0_0 a0_1 a0_2 a0_3 a0_4 a0_5 w0_4
  have b4 := Move_eq a0_0 a0_1 a0_2 a0_3 a0_4 a0_5 a2 w0_4
  have b5 := Unseal_eq a0_0 a0_1 a0_2 a0_3 a0_4 a0_5 a1_0 a1_1 a1_2 a1_3 a1_4 a1_5 w0_4 w1_2 w1_4
  unfold boundsR at b0
  unfold permsR at b1
  unfold sealR at b2
  unfold enterR at b3
  unfold moveR at b4
  unfold unsealR at b5
  rw [hu] at b0 b1 b2 b3
  rw [hr] at b4 b5
  unfold zz at b0 b1 b2 b3 b4 b5
  cases a0_0
  · simp only [Bool.false_eq_true, if_false, if_true, show ¬ ((41 : Int) = 0) by omega] at b0 b1 b2 b3 b4 b5
    exact deriveWrong_clear _ _ _ _ _ _ _ _ _ _ _ _ _ _ q b0 b1 b2 b3 b4 b5
  · by_cases hf : a0_5 = 0
    · exact deriveWrong_plain _ _ _ _ _ _ _ _ _ _ _ _ _ hf q
    · simp only [if_true, if_neg hf, show ¬ ((42 : Int) = 0) by omega, if_false] at b0 b1 b2 b3 b4 b5
      by_cases ha : authE a1_0 a1_1 a1_2 a1_3 a1_4 a1_5 64 = 0
      · rw [if_pos ha] at b5
        by_cases hd : a1_3 = a0_5
        · rw [if_pos hd] at b5
          exact deriveWrong_undone _ _ _ _ _ _ _ _ _ _ _ _ _ hf q b0 b1 b2 b3 b4 b5
        · rw [if_neg hd] at b5
          exact deriveWrong_sealed _ _ _ _ _ _ _ _ _ _ _ _ _ 45 (by omega) hf q b0 b1 b2 b3 b4 b5
      · rw [if_neg ha] at b5
        exact deriveWrong_sealed _ _ _ _ _ _ _ _ _ _ _ _ _ _ ha hf q b0 b1 b2 b3 b4 b5
end Go.Proofs.Ytgkmacgckoifaaa.PDr
