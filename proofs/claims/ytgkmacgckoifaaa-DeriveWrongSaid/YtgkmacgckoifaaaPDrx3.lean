-- written by a changed copy of the kit's print program, for this claim
import Derived.Test.YtgkmacgckoifaaaPDrx0
namespace Go.Proofs.Ytgkmacgckoifaaa.PDr
open Go.RowKit Go.Proofs.YtgkmacgckoifaaaW.PrintWords Go.Proofs.YtgkmacgckoifaaaW.PrintLast Go.Proofs.YtgkmacgckoifaaaW.PrintMore
attribute [local go_sem] max2_int min2_int max_two min_two max_three min_three max_four min_four   -- for this text's walks alone
set_option linter.unusedVariables false
set_option linter.unusedSimpArgs false

abbrev m3_0 : Array Bool := #[false, false, false, false, false, false, false, false]
abbrev m3_1 : Array Bool := #[true, false, false, false, false, false, false, false]
abbrev m3_2 : Array Bool := #[true, false, true, false, false, false, false, false]
abbrev m3_3 : Array Bool := #[true, false, true, false, true, false, false, false]
abbrev m3_4 : Array Bool := #[true, true, true, false, true, false, false, false]
abbrev m3_5 : Array Bool := #[true, true, true, true, true, false, false, false]
abbrev m3_6 : Array Bool := #[true, true, true, true, true, true, false, false]
abbrev m3_7 : Array Bool := #[true, true, true, true, true, true, true, false]
abbrev m3_8 : Array Bool := #[true, true, true, true, true, true, true, true]
/-! ### cap_Right: function 57 -/
def gv_permRight (p : Int) : Bool := Go.bits .andNot .i64 p 127 == 0
def gv_spanRight (a b : Int) : Bool := decide (0 ≤ a) && (decide (a ≤ 4294967295) && (decide (0 ≤ b) && decide (b ≤ 4294967295)))
def gv_spanHas (a b c d : Int) : Bool := decide (a ≤ c) && (decide (c ≤ d) && decide (d ≤ b))
def gv_capRight (a : Bool) (b c d e f : Int) : Bool := gv_spanRight b c && (decide (0 ≤ d) && (decide (d ≤ 4294967295) && (gv_permRight e && (decide (0 ≤ f) && (decide (f ≤ 255) && (!a || gv_spanHas 0 16777216 b c))))))
def cap_Right.f (a0_0 : Bool) (a0_1 : Int) (a0_2 : Int) (a0_3 : Int) (a0_4 : Int) (a0_5 : Int) : Option (Bool) := some (gv_capRight a0_0 a0_1 a0_2 a0_3 a0_4 a0_5)
theorem gv_bcell {W w1 : World} (hb : Below W.heap.size W w1) : (∀ b o, b < W.heap.size → w1.cell? ⟨b, o, none⟩ = W.cell? ⟨b, o, none⟩) ∧ (∀ b o, b < W.heap.size → w1.frozen? ⟨b, o, none⟩ = W.frozen? ⟨b, o, none⟩) :=
 ⟨fun b o h => hb.cell (p := ⟨b, o, none⟩) h, fun b o h => hb.frozen (p := ⟨b, o, none⟩) h⟩
theorem gv_bcall {w W w2 : World} (h : Below w.heap.size w W) (hb : Below W.heap.size W w2) : Below w.heap.size w w2 := h.trans (hb.mono h.size)
theorem gv_ret_bool {a b : Bool} (h : a = b) : Ending.returned (.bool a) = Ending.returned (.bool b) := by rw [h]
theorem gv_kle {a b c : Nat} (h : a ≤ b) : a ≤ b + c := by omega
theorem gv_klt {a b c : Nat} (h : a < b) : a < b + c := by omega
theorem gv_permRight_calls (p : Int) (w : World) :
  Calls Try.prog 36 #[.int .i64 p] w fun e w' => e = .returned (.bool (gv_permRight p)) ∧ w = w' := by
 go_enter Try.func36, Try.ntmps36
 go_wp2
 go_ret
 exact ⟨rfl, rfl⟩
theorem gv_capOf (a : Bool) (b c d e f : Int) (w : World) :
  Calls Try.prog 60 #[.agg #[.bool a, .int .i64 b, .int .i64 c, .int .i64 d, .int .i64 e, .int .i64 f]] w fun r w' => r = .returned (.agg #[.int .i64 b, .int .i64 c, .bool a, .int .i64 b, .int .i64 c, .int .i64 d, .int .i64 e, .int .i64 f]) ∧ Below w.heap.size w w' := by
 go_enter Try.func60, Try.ntmps60
 go_wp2
 exact bodyPost_ret (v := .agg #[.int .i64 b, .int .i64 c, .bool a, .int .i64 b, .int .i64 c, .int .i64 d, .int .i64 e, .int .i64 f]) (by simp [results, Try.results60, go_sem]) rfl ⟨rfl, by repeat (first | exact Below.refl _ _ | refine below_alloc ?_ _ | refine gv_bcall ?_ (by assumption))⟩
theorem gv_spanRight_calls (a b : Int) (w : World) :
  Calls Try.prog 62 #[.agg #[.int .i64 a, .int .i64 b]] w fun r w' => r = .returned (.bool (gv_spanRight a b)) ∧ Below w.heap.size w w' := by
 go_enter Try.func62, Try.ntmps62
 go_wp2
 all_goals go_ret
 all_goals exact ⟨gv_ret_bool (by unfold gv_spanRight; rw [Bool.eq_iff_iff]; simp; try omega), by repeat (first | exact Below.refl _ _ | refine below_alloc ?_ _ | refine gv_bcall ?_ (by assumption))⟩
theorem gv_spanHas_calls (a b c d : Int) (w : World) :
  Calls Try.prog 61 #[.agg #[.int .i64 a, .int .i64 b], .agg #[.int .i64 c, .int .i64 d]] w fun r w' => r = .returned (.bool (gv_spanHas a b c d)) ∧ Below w.heap.size w w' := by
 go_enter Try.func61, Try.ntmps61
 go_wp2
 all_goals go_ret
 all_goals exact ⟨gv_ret_bool (by unfold gv_spanHas; rw [Bool.eq_iff_iff]; simp; try omega), by repeat (first | exact Below.refl _ _ | refine below_alloc ?_ _ | refine gv_bcall ?_ (by assumption))⟩
section
attribute [local go_sem] gv_kle gv_klt
set_option maxRecDepth 100000 in
theorem gv_capRight_calls (a : Bool) (b c d e f : Int) (w : World) :
  Calls Try.prog 57 #[.agg #[.bool a, .int .i64 b, .int .i64 c, .int .i64 d, .int .i64 e, .int .i64 f]] w fun r w' => r = .returned (.bool (gv_capRight a b c d e f)) ∧ Below w.heap.size w w' := by
 go_enter Try.func57, Try.ntmps57
 go_wp2_with (first | (go_at_call 36; refine (gv_permRight_calls _ _).mono ?_; rintro e w' ⟨rfl, rfl⟩) | (go_at_call 60; refine (gv_capOf _ _ _ _ _ _ _).mono ?_; rintro e w1 ⟨rfl, hbw1⟩; obtain ⟨hcw1, hfw1⟩ := gv_bcell hbw1; have hzw1 := hbw1.size; (try simp at hzw1); have l_w_w1 : w.heap.size < w1.heap.size := (by omega); have m_w_w1 : w.heap.size ≤ w1.heap.size := (by omega)) | (go_at_call 62; refine (gv_spanRight_calls _ _ _).mono ?_; rintro e w2 ⟨rfl, hbw2⟩; obtain ⟨hcw2, hfw2⟩ := gv_bcell hbw2; have hzw2 := hbw2.size; (try simp at hzw2); have l_w_w2 : w.heap.size < w2.heap.size := (by omega); have m_w_w2 : w.heap.size ≤ w2.heap.size := (by omega); have l_w1_w2 : w1.heap.size < w2.heap.size := (by omega); have m_w1_w2 : w1.heap.size ≤ w2.heap.size := (by omega)) | (go_at_call 61; refine (gv_spanHas_calls _ _ _ _ _).mono ?_; rintro e w3 ⟨rfl, hbw3⟩; obtain ⟨hcw3, hfw3⟩ := gv_bcell hbw3; have hzw3 := hbw3.size; (try simp at hzw3); have l_w_w3 : w.heap.size < w3.heap.size := (by omega); have m_w_w3 : w.heap.size ≤ w3.heap.size := (by omega); have l_w1_w3 : w1.heap.size < w3.heap.size := (by omega); have m_w1_w3 : w1.heap.size ≤ w3.heap.size := (by omega); have l_w2_w3 : w2.heap.size < w3.heap.size := (by omega); have m_w2_w3 : w2.heap.size ≤ w3.heap.size := (by omega)))
 all_goals go_ret
 all_goals refine ⟨gv_ret_bool ?_, by repeat (first | exact Below.refl _ _ | refine below_alloc ?_ _ | refine gv_bcall ?_ (by assumption))⟩
 all_goals (unfold gv_capRight; simp [*]; try omega)
end
theorem cap_Right.calls (a0_0 : Bool) (a0_1 : Int) (a0_2 : Int) (a0_3 : Int) (a0_4 : Int) (a0_5 : Int) (r : Bool) (w : World) (h : cap_Right.f a0_0 a0_1 a0_2 a0_3 a0_4 a0_5 = some r) :
  Calls Try.prog 57 #[.agg #[.bool a0_0, .int .i64 a0_1, .int .i64 a0_2, .int .i64 a0_3, .int .i64 a0_4, .int .i64 a0_5]] w fun e w' => e = .returned (.bool r) ∧ Below w.heap.size w w' := by
 obtain rfl := Option.some.inj h
 exact gv_capRight_calls a0_0 a0_1 a0_2 a0_3 a0_4 a0_5 w


/-! ### derive_right: function 41 -/
def derive_right.f (a0_0 : Bool) (a0_1 : Int) (a0_2 : Int) (a0_3 : Int) (a0_4 : Int) (a0_5 : Int) : Option (Bool × Int) := (cap_Right.f a0_0 a0_1 a0_2 a0_3 a0_4 a0_5).bind fun t129 => (some (t129, 1))
set_option maxHeartbeats 8000000 in
set_option maxRecDepth 100000 in
theorem derive_right.calls (a0_0 : Bool) (a0_1 : Int) (a0_2 : Int) (a0_3 : Int) (a0_4 : Int) (a0_5 : Int) (r1 : Bool) (r2 : Int) (w : World) (h : derive_right.f a0_0 a0_1 a0_2 a0_3 a0_4 a0_5 = some (r1, r2)) :
  Calls Try.prog 41 #[.agg #[.bool a0_0, .int .i64 a0_1, .int .i64 a0_2, .int .i64 a0_3, .int .i64 a0_4, .int .i64 a0_5]] w fun e w' => e = .returned (.agg #[.bool r1, .int .i64 r2]) ∧ Below w.heap.size w w' := by
 have hu23 := Try.underlying23
 have hu46 := Try.underlying46
 have HB := Aside0.mk (Below.refl w.heap.size w)
 have H : ((cap_Right.f a0_0 a0_1 a0_2 a0_3 a0_4 a0_5).bind fun t129 => (some (t129, 1))) = some (r1, r2) := h
 clear h
 replace H := Option.bind_eq_some_iff.mp H
 obtain ⟨t129, A20, H⟩ := H
 replace H : (some (t129, 1)) = some (r1, r2) := H
 have A2 := Aside0.mk A20
 clear A20
 simp only [Option.some.injEq, Prod.mk.injEq] at H
 obtain ⟨rfl, rfl⟩ := H
 go_enter Try.func41, Try.ntmps41
 go_wp2_with (first | ((with_reducible refine gate_dst (N := 1) rfl ?_); refine box_event ?hg (N := 1) ?hd (cs := #[.bool a0_0, .int .i64 a0_1, .int .i64 a0_2, .int .i64 a0_3, .int .i64 a0_4, .int .i64 a0_5]) (t := 23) ?hr ?_; (case hd => rfl); (case hg => rfl); (case hr => first | (go_simp; done) | (go_simp; rfl)); intro gb127 hg w3 hbox hb; have n0_ := q2_ HB hb; have n1_ := Aside0.mk (hbox); have n2_ := q11_ HB hg; have n3_ := q11_ HB hg; clear HB; have HB := n0_; have BK127 := n1_; have GW127 := n2_; have GE127 := n3_; clear n0_ n1_ n2_ n3_; clear hb hbox hg) | ((with_reducible refine gate_dst (N := 2) rfl ?_); refine box_event ?hg (N := 2) ?hd (cs := #[.bool false, .int .i64 0]) (t := 46) ?hr ?_; (case hd => rfl); (case hg => rfl); (case hr => first | (go_simp; done) | (go_simp; rfl)); intro gb128 hg w4 hbox hb; have n0_ := q1_ BK127 hb; have n1_ := q2_ HB hb; have n2_ := Aside0.mk (hbox); have n3_ := q11_ HB hg; have n4_ := q11_ HB hg; have n5_ := q12_ BK127 hg; have n6_ := q13_ BK127 hg; clear BK127; clear HB; have BK127 := n0_; have HB := n1_; have BK128 := n2_; have GW128 := n3_; have GE128 := n4_; have NB127_128 := n5_; have NB128_127 := n6_; clear n0_ n1_ n2_ n3_ n4_ n5_ n6_; clear hb hbox hg; have hnb5 := NB127_128.out; have hnc5 := NB128_127.out; obtain ⟨hcz6_0, hcz6_1, hcz6_2, hcz6_3, hcz6_4, hcz6_5⟩ := q9_ BK127; obtain ⟨hfz6_0, hfz6_1, hfz6_2, hfz6_3, hfz6_4, hfz6_5⟩ := q10_ BK127) | ((with_reducible refine gate_callee (f := 57) rfl ?_); refine goesL_ (some 4) rfl rfl Try.func57 (by kernel_rfl) rfl #[.agg #[.bool a0_0, .int .i64 a0_1, .int .i64 a0_2, .int .i64 a0_3, .int .i64 a0_4, .int .i64 a0_5]] rfl (by (try simp only [List.map_toArray, List.map_cons, List.map_nil]); first | done | rfl | (simp only [List.length_drop, List.length_take]; rfl)) ?_; (with_reducible refine (cap_Right.calls a0_0 a0_1 a0_2 a0_3 a0_4 a0_5 t129 _ A2.out).mono ?_); rintro e w7 ⟨rfl, hb⟩; refine ⟨_, rfl, ?_⟩; have n0_ := q1_ BK127 hb; have n1_ := q1_ BK128 hb; have n2_ := q2_ HB hb; clear BK127; clear BK128; clear HB; have BK127 := n0_; have BK128 := n1_; have HB := n2_; clear n0_ n1_ n2_; (try clear hb); (try clear hb2); (try clear hk); (try clear hi); have hcz8_0 : w7.cell? ⟨gb128, 0, none⟩ = some (.bool false) := q7_ BK128 0 rfl; have hcz8_1 : w7.cell? ⟨gb128, 1, none⟩ = some (.int .i64 0) := q7_ BK128 1 rfl; have hfz8_0 := blk_frozen BK128.out 0; have hfz8_1 := blk_frozen BK128.out 1))
 refine bodyPost_ret (results_cell_row rfl _ _ gb128 46 #[.bool t129, .int .i64 1] (0, 0) _ rfl (by (with_reducible repeat (first | refine blk_drewN ?_ _ | refine blk_drew ?_ | refine blk_alloc ?_ _)); refine blk_put (cs := #[.bool t129, .int .i64 0]) ?_ 1 _ rfl; refine blk_put (cs := #[.bool false, .int .i64 0]) ?_ 0 _ rfl; (with_reducible repeat (first | refine blk_drewN ?_ _ | refine blk_drew ?_ | refine blk_alloc ?_ _)); exact BK128.out) Try.underlying46 rfl (by kernel_rfl)) rfl ?_
 exact ⟨by first | rfl | (simp [errW_none, errW_some] <;> rfl) | (simp [*, errW_none, errW_some] <;> rfl), by repeat (first | (with_reducible first | exact HB.out | apply below_alloc | apply pw_below_drewN | apply below_drew1 | refine below_set ?_ GE127.out | refine below_set ?_ GE128.out) | exact HB.out)⟩

/-! ### derive_tagged: function 46 -/
def derive_tagged.f (a0_0 : Bool) (a0_1 : Int) (a0_2 : Int) (a0_3 : Int) (a0_4 : Int) (a0_5 : Int) : Option (Bool × Int) := some (a0_0, 41)
set_option maxHeartbeats 8000000 in
set_option maxRecDepth 100000 in
theorem derive_tagged.calls (a0_0 : Bool) (a0_1 : Int) (a0_2 : Int) (a0_3 : Int) (a0_4 : Int) (a0_5 : Int) (r1 : Bool) (r2 : Int) (w : World) (h : derive_tagged.f a0_0 a0_1 a0_2 a0_3 a0_4 a0_5 = some (r1, r2)) :
  Calls Try.prog 46 #[.agg #[.bool a0_0, .int .i64 a0_1, .int .i64 a0_2, .int .i64 a0_3, .int .i64 a0_4, .int .i64 a0_5]] w fun e w' => e = .returned (.agg #[.bool r1, .int .i64 r2]) ∧ Below w.heap.size w w' := by
 have hu23 := Try.underlying23
 have hu46 := Try.underlying46
 have HB := Aside0.mk (Below.refl w.heap.size w)
 have H : (some (a0_0, 41)) = some (r1, r2) := h
 clear h
 simp only [Option.some.injEq, Prod.mk.injEq] at H
 obtain ⟨rfl, rfl⟩ := H
 go_enter Try.func46, Try.ntmps46
 go_wp2_with (first | ((with_reducible refine gate_dst (N := 1) rfl ?_); refine box_event ?hg (N := 1) ?hd (cs := #[.bool a0_0, .int .i64 a0_1, .int .i64 a0_2, .int .i64 a0_3, .int .i64 a0_4, .int .i64 a0_5]) (t := 23) ?hr ?_; (case hd => rfl); (case hg => rfl); (case hr => first | (go_simp; done) | (go_simp; rfl)); intro gb130 hg w2 hbox hb; have n0_ := q2_ HB hb; have n1_ := Aside0.mk (hbox); have n2_ := q11_ HB hg; have n3_ := q11_ HB hg; clear HB; have HB := n0_; have BK130 := n1_; have GW130 := n2_; have GE130 := n3_; clear n0_ n1_ n2_ n3_; clear hb hbox hg) | ((with_reducible refine gate_dst (N := 2) rfl ?_); refine box_event ?hg (N := 2) ?hd (cs := #[.bool false, .int .i64 0]) (t := 46) ?hr ?_; (case hd => rfl); (case hg => rfl); (case hr => first | (go_simp; done) | (go_simp; rfl)); intro gb131 hg w3 hbox hb; have n0_ := q1_ BK130 hb; have n1_ := q2_ HB hb; have n2_ := Aside0.mk (hbox); have n3_ := q11_ HB hg; have n4_ := q11_ HB hg; have n5_ := q12_ BK130 hg; have n6_ := q13_ BK130 hg; clear BK130; clear HB; have BK130 := n0_; have HB := n1_; have BK131 := n2_; have GW131 := n3_; have GE131 := n4_; have NB130_131 := n5_; have NB131_130 := n6_; clear n0_ n1_ n2_ n3_ n4_ n5_ n6_; clear hb hbox hg; have hnb4 := NB130_131.out; have hnc4 := NB131_130.out; obtain ⟨hcz5_0, hcz5_1, hcz5_2, hcz5_3, hcz5_4, hcz5_5⟩ := q9_ BK130; obtain ⟨hfz5_0, hfz5_1, hfz5_2, hfz5_3, hfz5_4, hfz5_5⟩ := q10_ BK130; have hcz6_0 : w3.cell? ⟨gb131, 0, none⟩ = some (.bool false) := q7_ BK131 0 rfl; have hcz6_1 : w3.cell? ⟨gb131, 1, none⟩ = some (.int .i64 0) := q7_ BK131 1 rfl; have hfz6_0 := blk_frozen BK131.out 0; have hfz6_1 := blk_frozen BK131.out 1))
 refine bodyPost_ret (results_cell_row rfl _ _ gb131 46 #[.bool a0_0, .int .i64 41] (0, 0) _ rfl (by (with_reducible repeat (first | refine blk_drewN ?_ _ | refine blk_drew ?_ | refine blk_alloc ?_ _)); refine blk_put (cs := #[.bool a0_0, .int .i64 0]) ?_ 1 _ rfl; refine blk_put (cs := #[.bool false, .int .i64 0]) ?_ 0 _ rfl; (with_reducible repeat (first | refine blk_drewN ?_ _ | refine blk_drew ?_ | refine blk_alloc ?_ _)); exact BK131.out) Try.underlying46 rfl (by kernel_rfl)) rfl ?_
 exact ⟨by first | rfl | (simp [errW_none, errW_some] <;> rfl) | (simp [*, errW_none, errW_some] <;> rfl), by repeat (first | (with_reducible first | exact HB.out | apply below_alloc | apply pw_below_drewN | apply below_drew1 | refine below_set ?_ GE130.out | refine below_set ?_ GE131.out) | exact HB.out)⟩

/-! ### derive_sealed: function 47 -/
def derive_sealed.f (a0_0 : Bool) (a0_1 : Int) (a0_2 : Int) (a0_3 : Int) (a0_4 : Int) (a0_5 : Int) (a1 : Bool) : Option (Bool × Int) := some (((a0_5 != 0) == a1), 42)
set_option maxHeartbeats 8000000 in
set_option maxRecDepth 100000 in
theorem derive_sealed.calls (a0_0 : Bool) (a0_1 : Int) (a0_2 : Int) (a0_3 : Int) (a0_4 : Int) (a0_5 : Int) (a1 : Bool) (r1 : Bool) (r2 : Int) (w : World) (h : derive_sealed.f a0_0 a0_1 a0_2 a0_3 a0_4 a0_5 a1 = some (r1, r2)) :
  Calls Try.prog 47 #[.agg #[.bool a0_0, .int .i64 a0_1, .int .i64 a0_2, .int .i64 a0_3, .int .i64 a0_4, .int .i64 a0_5], .bool a1] w fun e w' => e = .returned (.agg #[.bool r1, .int .i64 r2]) ∧ Below w.heap.size w w' := by
 have hu23 := Try.underlying23
 have hu46 := Try.underlying46
 have HB := Aside0.mk (Below.refl w.heap.size w)
 have H : (some (((a0_5 != 0) == a1), 42)) = some (r1, r2) := h
 clear h
 simp only [Option.some.injEq, Prod.mk.injEq] at H
 obtain ⟨rfl, rfl⟩ := H
 go_enter Try.func47, Try.ntmps47
 go_wp2_with (first | ((with_reducible refine gate_dst (N := 2) rfl ?_); refine box_event ?hg (N := 2) ?hd (cs := #[.bool a0_0, .int .i64 a0_1, .int .i64 a0_2, .int .i64 a0_3, .int .i64 a0_4, .int .i64 a0_5]) (t := 23) ?hr ?_; (case hd => rfl); (case hg => rfl); (case hr => first | (go_simp; done) | (go_simp; rfl)); intro gb132 hg w3 hbox hb; have n0_ := q2_ HB hb; have n1_ := Aside0.mk (hbox); have n2_ := q11_ HB hg; have n3_ := q11_ HB hg; clear HB; have HB := n0_; have BK132 := n1_; have GW132 := n2_; have GE132 := n3_; clear n0_ n1_ n2_ n3_; clear hb hbox hg) | ((with_reducible refine gate_dst (N := 4) rfl ?_); refine box_event ?hg (N := 4) ?hd (cs := #[.bool false, .int .i64 0]) (t := 46) ?hr ?_; (case hd => rfl); (case hg => rfl); (case hr => first | (go_simp; done) | (go_simp; rfl)); intro gb133 hg w4 hbox hb; have n0_ := q1_ BK132 hb; have n1_ := q2_ HB hb; have n2_ := Aside0.mk (hbox); have n3_ := q11_ HB hg; have n4_ := q11_ HB hg; have n5_ := q12_ BK132 hg; have n6_ := q13_ BK132 hg; clear BK132; clear HB; have BK132 := n0_; have HB := n1_; have BK133 := n2_; have GW133 := n3_; have GE133 := n4_; have NB132_133 := n5_; have NB133_132 := n6_; clear n0_ n1_ n2_ n3_ n4_ n5_ n6_; clear hb hbox hg; have hnb5 := NB132_133.out; have hnc5 := NB133_132.out; obtain ⟨hcz6_0, hcz6_1, hcz6_2, hcz6_3, hcz6_4, hcz6_5⟩ := q9_ BK132; obtain ⟨hfz6_0, hfz6_1, hfz6_2, hfz6_3, hfz6_4, hfz6_5⟩ := q10_ BK132; have hcz7_0 : w4.cell? ⟨gb133, 0, none⟩ = some (.bool false) := q7_ BK133 0 rfl; have hcz7_1 : w4.cell? ⟨gb133, 1, none⟩ = some (.int .i64 0) := q7_ BK133 1 rfl; have hfz7_0 := blk_frozen BK133.out 0; have hfz7_1 := blk_frozen BK133.out 1))
 refine bodyPost_ret (results_cell_row rfl _ _ gb133 46 #[.bool ((a0_5 != 0) == a1), .int .i64 42] (0, 0) _ rfl (by (with_reducible repeat (first | refine blk_drewN ?_ _ | refine blk_drew ?_ | refine blk_alloc ?_ _)); refine blk_put (cs := #[.bool ((a0_5 != 0) == a1), .int .i64 0]) ?_ 1 _ rfl; refine blk_put (cs := #[.bool false, .int .i64 0]) ?_ 0 _ rfl; (with_reducible repeat (first | refine blk_drewN ?_ _ | refine blk_drew ?_ | refine blk_alloc ?_ _)); exact BK133.out) Try.underlying46 rfl (by kernel_rfl)) rfl ?_
 exact ⟨by first | rfl | (simp [errW_none, errW_some] <;> rfl) | (simp [*, errW_none, errW_some] <;> rfl), by repeat (first | (with_reducible first | exact HB.out | apply below_alloc | apply pw_below_drewN | apply below_drew1 | refine below_set ?_ GE132.out | refine below_set ?_ GE133.out) | exact HB.out)⟩

/-! ### derive_used: function 32 -/
def derive_used.f (a0_0 : Bool) (a0_1 : Int) (a0_2 : Int) (a0_3 : Int) (a0_4 : Int) (a0_5 : Int) : Option ((List (S46))) := (derive_right.f a0_0 a0_1 a0_2 a0_3 a0_4 a0_5).bind fun bt135 => ((derive_tagged.f a0_0 a0_1 a0_2 a0_3 a0_4 a0_5).bind fun bt137 => ((derive_sealed.f a0_0 a0_1 a0_2 a0_3 a0_4 a0_5 false).bind fun bt139 => (some (([(⟨bt135.1, bt135.2⟩ : S46), (⟨bt137.1, bt137.2⟩ : S46), (⟨bt139.1, bt139.2⟩ : S46)] : List (S46))))))
def derive_used.T1 : Bool × List (List Nat × List Nat) := (true, [([], []), ([0], [0]), ([], []), ([2, 1], [2]), ([], []), ([4, 3], [4]), ([1, 3, 5], [1, 3, 5]), ([6, 5, 0, 1, 2, 3, 4, 5, 6], [6])])
def derive_used.B1 : List Nat := [0, 1, 0, 7, 0, 31, 63, 127]
theorem derive_used.tab1 : rtab .any (opsOf Try.f32 1) = derive_used.T1 := by kernel_rfl
theorem derive_used.bits1 : waitsOk derive_used.T1.2 derive_used.B1 = true := by kernel_rfl
set_option maxHeartbeats 8000000 in
set_option maxRecDepth 100000 in
theorem derive_used.calls (a0_0 : Bool) (a0_1 : Int) (a0_2 : Int) (a0_3 : Int) (a0_4 : Int) (a0_5 : Int) (r : List (S46)) (w : World) (h : derive_used.f a0_0 a0_1 a0_2 a0_3 a0_4 a0_5 = some r) :
  Calls Try.prog 32 #[.agg #[.bool a0_0, .int .i64 a0_1, .int .i64 a0_2, .int .i64 a0_3, .int .i64 a0_4, .int .i64 a0_5]] w fun e w' => ∃ v0_ : Value, e = .returned (v0_) ∧ Kd.R k46 46 w' w.heap.size (fun _ => True) v0_ r ∧ Below w.heap.size w w' := by
 have hu23 := Try.underlying23
 have HB := Aside0.mk (Below.refl w.heap.size w)
 have H : ((derive_right.f a0_0 a0_1 a0_2 a0_3 a0_4 a0_5).bind fun bt135 => ((derive_tagged.f a0_0 a0_1 a0_2 a0_3 a0_4 a0_5).bind fun bt137 => ((derive_sealed.f a0_0 a0_1 a0_2 a0_3 a0_4 a0_5 false).bind fun bt139 => (some (([(⟨bt135.1, bt135.2⟩ : S46), (⟨bt137.1, bt137.2⟩ : S46), (⟨bt139.1, bt139.2⟩ : S46)] : List (S46))))))) = some r := h
 clear h
 replace H := Option.bind_eq_some_iff.mp H
 obtain ⟨⟨t135, t136⟩, A20, H⟩ := H
 replace H : ((derive_tagged.f a0_0 a0_1 a0_2 a0_3 a0_4 a0_5).bind fun bt137 => ((derive_sealed.f a0_0 a0_1 a0_2 a0_3 a0_4 a0_5 false).bind fun bt139 => (some (([(⟨t135, t136⟩ : S46), (⟨bt137.1, bt137.2⟩ : S46), (⟨bt139.1, bt139.2⟩ : S46)] : List (S46)))))) = some r := H
 have A2 := Aside0.mk A20
 clear A20
 replace H := Option.bind_eq_some_iff.mp H
 obtain ⟨⟨t137, t138⟩, A30, H⟩ := H
 replace H : ((derive_sealed.f a0_0 a0_1 a0_2 a0_3 a0_4 a0_5 false).bind fun bt139 => (some (([(⟨t135, t136⟩ : S46), (⟨t137, t138⟩ : S46), (⟨bt139.1, bt139.2⟩ : S46)] : List (S46))))) = some r := H
 have A3 := Aside0.mk A30
 clear A30
 replace H := Option.bind_eq_some_iff.mp H
 obtain ⟨⟨t139, t140⟩, A40, H⟩ := H
 replace H : (some (([(⟨t135, t136⟩ : S46), (⟨t137, t138⟩ : S46), (⟨t139, t140⟩ : S46)] : List (S46)))) = some r := H
 have A4 := Aside0.mk A40
 clear A40
 obtain ⟨y141, hy141⟩ : ∃ y_ : List (S46), y_ = (([(⟨t135, t136⟩ : S46), (⟨t137, t138⟩ : S46), (⟨t139, t140⟩ : S46)] : List (S46))) := ⟨_, rfl⟩
 replace H : (some y141) = some r := by first | (rw [hy141]; with_reducible exact H) | (have H2_ := (Option.bind_some _ _).symm.trans H; rw [hy141]; with_reducible exact H2_) | (have H2_ := (Option.bind_some _ _).symm.trans H; with_reducible exact H2_) | with_reducible exact H | (rw [hy141]; exact H) | exact H
 have Ny141 := Aside0.mk hy141
 clear hy141
 obtain rfl := Option.some.inj H
 go_enter Try.func32, Try.ntmps32
 try go_wp2_with (first | ((with_reducible refine gate_dst (N := 1) rfl ?_); refine box_event ?hg (N := 1) ?hd (cs := #[.bool a0_0, .int .i64 a0_1, .int .i64 a0_2, .int .i64 a0_3, .int .i64 a0_4, .int .i64 a0_5]) (t := 23) ?hr ?_; (case hd => rfl); (case hg => rfl); (case hr => first | (go_simp; done) | (go_simp; rfl)); intro gb134 hg w5 hbox hb; have n0_ := q2_ HB hb; have n1_ := Aside0.mk (hbox); have n2_ := q11_ HB hg; have n3_ := q11_ HB hg; clear HB; have HB := n0_; have BK134 := n1_; have GW134 := n2_; have GE134 := n3_; clear n0_ n1_ n2_ n3_; clear hb hbox hg))
 have n0_ := Aside0.mk (blk_drew BK134.out)
 have n1_ := Aside0.mk (below_drew1 HB.out)
 clear BK134
 clear HB
 have BK134 := n0_
 have HB := n1_
 clear n0_ n1_
 refine start_ (n := 8) (S := fun w' => w'.cell? ⟨gb134, 0, none⟩ = some (.bool a0_0) ∧ w'.cell? ⟨gb134, 1, none⟩ = some (.int .i64 a0_1) ∧ w'.cell? ⟨gb134, 2, none⟩ = some (.int .i64 a0_2) ∧ w'.cell? ⟨gb134, 3, none⟩ = some (.int .i64 a0_3) ∧ w'.cell? ⟨gb134, 4, none⟩ = some (.int .i64 a0_4) ∧ w'.cell? ⟨gb134, 5, none⟩ = some (.int .i64 a0_5)) (ds := []) m3_0 (by kernel_rfl) rfl rfl ⟨q7_ BK134 0 rfl, q7_ BK134 1 rfl, q7_ BK134 2 rfl, q7_ BK134 3 rfl, q7_ BK134 4 rfl, q7_ BK134 5 rfl⟩ (fun hHeld => ?_); refine with_tabW derive_used.tab1 derive_used.bits1 (fun HT_ HW_ => ?_)
 generalize w5.drew = w6 at BK134 HB hHeld ⊢
 refine take_ (i := 0) (N := some 3) (v := ?_) (a' := ?_) m3_1 rfl rfl (take_ofW HT_.out HW_.out (by kernel_rfl)) (fun _ _ _ h => h) (Or.inl ⟨by rfl, ?_⟩) hHeld ?_ ?_
 rotate_left
 ·rintro w' ⟨s0, s1, s2, s3, s4, s5⟩
  go_simp
  with_reducible rfl
 rotate_left
 ·simp only [Act.put, q4_, q5_, q6_, i64_w, i32_w]
  rfl
 refine take_ (i := 2) (N := some 5) (v := ?_) (a' := ?_) m3_2 rfl rfl (take_ofW HT_.out HW_.out (by kernel_rfl)) (fun _ _ _ h => h) (Or.inl ⟨by rfl, ?_⟩) hHeld ?_ ?_
 rotate_left
 ·rintro w' ⟨s0, s1, s2, s3, s4, s5⟩
  go_simp
  with_reducible rfl
 rotate_left
 ·simp only [Act.put, q4_, q5_, q6_, i64_w, i32_w]
  rfl
 refine take_ (i := 4) (N := some 7) (v := ?_) (a' := ?_) m3_3 rfl rfl (take_ofW HT_.out HW_.out (by kernel_rfl)) (fun _ _ _ h => h) (Or.inl ⟨by rfl, ?_⟩) hHeld ?_ ?_
 rotate_left
 ·rintro w' ⟨s0, s1, s2, s3, s4, s5⟩
  go_simp
  with_reducible rfl
 rotate_left
 ·simp only [Act.put, q4_, q5_, q6_, i64_w, i32_w]
  rfl
 refine one_ (i := 1) (N := some 4) m3_4 rfl rfl (one_of HT_.out (by kernel_rfl)) (by decide) (fun K hK => ?_)
 refine goes_ Try.func41 (by kernel_rfl) rfl #[.agg #[.bool a0_0, .int .i64 a0_1, .int .i64 a0_2, .int .i64 a0_3, .int .i64 a0_4, .int .i64 a0_5]] (by rfl) rfl rfl (by (try simp only [List.map_toArray, List.map_cons, List.map_nil]); first | done | rfl | (simp only [List.length_drop, List.length_take]; rfl)) ?_
 with_reducible refine (derive_right.calls a0_0 a0_1 a0_2 a0_3 a0_4 a0_5 t135 t136 _ A2.out).mono ?_
 rintro e w7 ⟨rfl, hb⟩
 refine ⟨_, rfl, ?_⟩
 have n0_ := q1_ BK134 hb
 have n1_ := q2_ HB hb
 clear BK134
 clear HB
 have BK134 := n0_
 have HB := n1_
 clear n0_ n1_
 (try clear hb)
 (try clear hb2)
 (try clear hk)
 (try clear hi)
 refine hK.out _ _ ⟨q7_ BK134 0 rfl, q7_ BK134 1 rfl, q7_ BK134 2 rfl, q7_ BK134 3 rfl, q7_ BK134 4 rfl, q7_ BK134 5 rfl⟩ (fun hHeld => ?_)
 clear hK K
 refine norm_ (a' := ?_) ?_ ?_
 rotate_left
 ·show Act.put _ (some 4) _ = _
  simp only [Act.put, q4_, q5_, q6_, i64_w, i32_w]
  rfl
 refine one_ (i := 3) (N := some 6) m3_5 rfl rfl (one_of HT_.out (by kernel_rfl)) (by decide) (fun K hK => ?_)
 refine goes_ Try.func46 (by kernel_rfl) rfl #[.agg #[.bool a0_0, .int .i64 a0_1, .int .i64 a0_2, .int .i64 a0_3, .int .i64 a0_4, .int .i64 a0_5]] (by rfl) rfl rfl (by (try simp only [List.map_toArray, List.map_cons, List.map_nil]); first | done | rfl | (simp only [List.length_drop, List.length_take]; rfl)) ?_
 with_reducible refine (derive_tagged.calls a0_0 a0_1 a0_2 a0_3 a0_4 a0_5 t137 t138 _ A3.out).mono ?_
 rintro e w8 ⟨rfl, hb⟩
 refine ⟨_, rfl, ?_⟩
 have n0_ := q1_ BK134 hb
 have n1_ := q2_ HB hb
 clear BK134
 clear HB
 have BK134 := n0_
 have HB := n1_
 clear n0_ n1_
 (try clear hb)
 (try clear hb2)
 (try clear hk)
 (try clear hi)
 refine hK.out _ _ ⟨q7_ BK134 0 rfl, q7_ BK134 1 rfl, q7_ BK134 2 rfl, q7_ BK134 3 rfl, q7_ BK134 4 rfl, q7_ BK134 5 rfl⟩ (fun hHeld => ?_)
 clear hK K
 refine norm_ (a' := ?_) ?_ ?_
 rotate_left
 ·show Act.put _ (some 6) _ = _
  simp only [Act.put, q4_, q5_, q6_, i64_w, i32_w]
  rfl
 refine one_ (i := 5) (N := some 8) m3_6 rfl rfl (one_of HT_.out (by kernel_rfl)) (by decide) (fun K hK => ?_)
 refine goes_ Try.func47 (by kernel_rfl) rfl #[.agg #[.bool a0_0, .int .i64 a0_1, .int .i64 a0_2, .int .i64 a0_3, .int .i64 a0_4, .int .i64 a0_5], .bool false] (by rfl) rfl rfl (by (try simp only [List.map_toArray, List.map_cons, List.map_nil]); first | done | rfl | (simp only [List.length_drop, List.length_take]; rfl)) ?_
 with_reducible refine (derive_sealed.calls a0_0 a0_1 a0_2 a0_3 a0_4 a0_5 false t139 t140 _ A4.out).mono ?_
 rintro e w9 ⟨rfl, hb⟩
 refine ⟨_, rfl, ?_⟩
 have n0_ := q1_ BK134 hb
 have n1_ := q2_ HB hb
 clear BK134
 clear HB
 have BK134 := n0_
 have HB := n1_
 clear n0_ n1_
 (try clear hb)
 (try clear hb2)
 (try clear hk)
 (try clear hi)
 refine hK.out _ _ ⟨q7_ BK134 0 rfl, q7_ BK134 1 rfl, q7_ BK134 2 rfl, q7_ BK134 3 rfl, q7_ BK134 4 rfl, q7_ BK134 5 rfl⟩ (fun hHeld => ?_)
 clear hK K
 refine norm_ (a' := ?_) ?_ ?_
 rotate_left
 ·show Act.put _ (some 8) _ = _
  simp only [Act.put, q4_, q5_, q6_, i64_w, i32_w]
  rfl
 refine one_ (i := 6) (N := some 9) m3_7 rfl rfl (one_of HT_.out (by kernel_rfl)) (by decide) (fun K hK => ?_)
 refine Kd.R_lit_step k46 _ 46 ?hg (N := 9) ?hd (xs := ([(⟨t135, t136⟩ : S46), (⟨t137, t138⟩ : S46), (⟨t139, t140⟩ : S46)] : List (S46))) (inner := [.bool t135, .int .i64 t136, .bool t137, .int .i64 t138, .bool t139, .int .i64 t140]) (ok := fun _ => True) (okp := fun _ => True) ?hr ?hp (fun _ hk => hk) trivial (Below.refl _ _) (Nat.le_refl _) (by simp) ?_; (case hd => rfl); (case hg => rfl); (case hr => first | (go_simp; done) | (go_simp; rfl)); (case hp => exact (Reps.c2 (show Kd.M k46 _ _ _ (⟨t135, t136⟩ : S46) [.bool t135, .int .i64 t136] from (k46_mkM _ _ _ (⟨t135, t136⟩ : S46) )) (Reps.c2 (show Kd.M k46 _ _ _ (⟨t137, t138⟩ : S46) [.bool t137, .int .i64 t138] from (k46_mkM _ _ _ (⟨t137, t138⟩ : S46) )) (Reps.c2 (show Kd.M k46 _ _ _ (⟨t139, t140⟩ : S46) [.bool t139, .int .i64 t140] from (k46_mkM _ _ _ (⟨t139, t140⟩ : S46) )) (Reps.none _ _)))))
 intro v142 w10 ho11 hb hg_ hnew_
 clear hg_ hnew_
 (first | rw [← Ny141.out] at ho11 | (simp only [Int.reduceToNat] at ho11; rw [← Ny141.out] at ho11))
 have n0_ := Aside0.mk (Kd.R_lower ho11 (below_size (by repeat (first | (with_reducible first | exact HB.out | apply below_alloc | apply pw_below_drewN | apply below_drew1 | refine below_set ?_ GE134.out) | exact HB.out))))
 have n1_ := q1_ BK134 hb
 have n2_ := q2_ HB hb
 clear BK134
 clear HB
 have HO143 := n0_
 have BK134 := n1_
 have HB := n2_
 clear n0_ n1_ n2_
 clear hb ho11
 refine hK.out _ _ ⟨q7_ BK134 0 rfl, q7_ BK134 1 rfl, q7_ BK134 2 rfl, q7_ BK134 3 rfl, q7_ BK134 4 rfl, q7_ BK134 5 rfl⟩ (fun hHeld => ?_)
 clear hK K
 refine norm_ (a' := ?_) ?_ ?_
 rotate_left
 ·show Act.put _ (some 9) _ = _
  simp only [Act.put, q4_, q5_, q6_, i64_w, i32_w]
  rfl
 refine pure_ (i := 7) (N := some 2) (v := ?_) (a' := ?_) m3_8 rfl rfl (any_of HT_.out (by kernel_rfl)) (fun _ _ _ h => h) (Or.inl ⟨by rfl, ?_⟩) ?_ ?_
 rotate_left
 ·intro w'
  go_simp
  with_reducible rfl
 rotate_left
 ·simp only [Act.put, q4_, q5_, q6_, i64_w, i32_w]
  rfl
 refine done_ (done_of HT_.out (by kernel_rfl)) ?_
 try go_wp2
 go_ret
 exact ⟨_, by first | rfl | (simp [errW_none, errW_some] <;> rfl) | (simp [*, errW_none, errW_some] <;> rfl), by (with_reducible repeat (first | apply Kd.R_alloc | apply Kd.R_drewN | apply Kd.R_drew)); exact HO143.out, by repeat (first | (with_reducible first | exact HB.out | apply below_alloc | apply pw_below_drewN | apply below_drew1 | refine below_set ?_ GE134.out) | exact HB.out)⟩

end Go.Proofs.Ytgkmacgckoifaaa.PDr
-- shorter
