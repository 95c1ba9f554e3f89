-- written by a changed copy of the kit's print program, for this claim
import Derived.Test.YtgkmacgckoifaaaPDrx0
import Derived.Test.YtgkmacgckoifaaaPDrx5
import Derived.Test.YtgkmacgckoifaaaPDrx6
import Derived.Test.YtgkmacgckoifaaaPDrx15
namespace Go.Proofs.Ytgkmacgckoifaaa.PDr
open Go.RowKit Go.Proofs.YtgkmacgckoifaaaW.PrintWords Go.Proofs.YtgkmacgckoifaaaW.PrintLast Go.Proofs.YtgkmacgckoifaaaW.PrintMore
attribute [local go_sem] max2_int min2_int max_two min_two max_three min_three max_four min_four   -- for this text's walks alone
set_option linter.unusedVariables false
set_option linter.unusedSimpArgs false

/-! ### seizinlaw04_DeriveTwice: function 7 -/
def seizinlaw04_DeriveTwice.j0 : Nat → Int → Int → Bool → Bool → Bool → Int → Int → Int → Int → Int → Bool → Int → Int → Int → Int → Int → Option (Bool)
 | 0, _, _, _, _, _, _, _, _, _, _, _, _, _, _, _, _ => none
 | k + 1, x3, x4, x11, x64, x538000, x538001, x538002, x538003, x538004, x538005, x547000, x547001, x547002, x547003, x547004, x547005 => if x64 = true then (some false) else ((derive_Perms.f x547000 x547001 x547002 x547003 x547004 x547005 (wrap64 (Go.bits .and .u8 x3 127))).bind fun bt555 => ((derive_Perms.f bt555.1 bt555.2.1 bt555.2.2.1 bt555.2.2.2.1 bt555.2.2.2.2.1 bt555.2.2.2.2.2.1 (wrap64 (Go.bits .and .u8 x4 127))).bind fun bt563 => (if x11 = true then (if bt555.2.2.2.2.2.2 = 0 then (if bt563.2.2.2.2.2.2 = 0 then (if bt563.2.2.2.2.1 = (Go.bits .and .i64 (Go.bits .and .i64 (Go.bits .and .i64 x538004 (wrap64 (x3))) (wrap64 (x4))) 127) then (some (bt563.2.1 == x547001)) else (some false)) else (some false)) else (some false)) else (some false))))
def seizinlaw04_DeriveTwice.f (k : Nat) (a0_0 : Bool) (a0_1 : Int) (a0_2 : Int) (a0_3 : Int) (a0_4 : Int) (a0_5 : Int) (a1 : Int) (a2 : Int) (a3 : Int) (a4 : Int) : Option (Bool) := (seizinlaw04_head.f).bind fun t538 => ((derive_Bounds.f a0_0 a0_1 a0_2 a0_3 a0_4 a0_5 (wrap64 (a1))).bind fun bt539 => (if bt539.2.2.2.2.2.2 = 0 then ((derive_Bounds.f bt539.1 bt539.2.1 bt539.2.2.1 bt539.2.2.2.1 bt539.2.2.2.2.1 bt539.2.2.2.2.2.1 (wrap64 (a2))).bind fun bt547 => (if ((bt547.2.2.2.2.2.2 == 0) != (decide (a2 ≤ a1))) = true then (seizinlaw04_DeriveTwice.j0 k a3 a4 t538 true a0_0 a0_1 a0_2 a0_3 a0_4 a0_5 bt539.1 bt539.2.1 bt539.2.2.1 bt539.2.2.2.1 bt539.2.2.2.2.1 bt539.2.2.2.2.2.1) else (if bt547.2.2.2.2.2.2 = 0 then (if bt547.2.1 = a0_3 then (seizinlaw04_DeriveTwice.j0 k a3 a4 t538 (bt547.2.2.1 != (wrap64 (a0_3 + (wrap64 (a2))))) a0_0 a0_1 a0_2 a0_3 a0_4 a0_5 bt539.1 bt539.2.1 bt539.2.2.1 bt539.2.2.2.1 bt539.2.2.2.2.1 bt539.2.2.2.2.2.1) else (seizinlaw04_DeriveTwice.j0 k a3 a4 t538 true a0_0 a0_1 a0_2 a0_3 a0_4 a0_5 bt539.1 bt539.2.1 bt539.2.2.1 bt539.2.2.2.1 bt539.2.2.2.2.1 bt539.2.2.2.2.2.1)) else (seizinlaw04_DeriveTwice.j0 k a3 a4 t538 false a0_0 a0_1 a0_2 a0_3 a0_4 a0_5 bt539.1 bt539.2.1 bt539.2.2.1 bt539.2.2.2.1 bt539.2.2.2.2.1 bt539.2.2.2.2.2.1)))) else (some t538)))
theorem seizinlaw04_DeriveTwice.mono_l : ∀ k, (∀ y0 y1 y2 y3 y4 y5 y6 y7 y8 y9 y10 y11 y12 y13 y14 y15, LeO (seizinlaw04_DeriveTwice.j0 k y0 y1 y2 y3 y4 y5 y6 y7 y8 y9 y10 y11 y12 y13 y14 y15) (seizinlaw04_DeriveTwice.j0 (k + 1) y0 y1 y2 y3 y4 y5 y6 y7 y8 y9 y10 y11 y12 y13 y14 y15))
 | 0 => fun _ _ _ _ _ _ _ _ _ _ _ _ _ _ _ _ r h => by simp [seizinlaw04_DeriveTwice.j0] at h
 | k + 1 => by
  have ih0 := seizinlaw04_DeriveTwice.mono_l k
  ·intro y0 y1 y2 y3 y4 y5 y6 y7 y8 y9 y10 y11 y12 y13 y14 y15
   unfold seizinlaw04_DeriveTwice.j0
   repeat' first
   | (with_reducible exact ih0 _ _ _ _ _ _ _ _ _ _ _ _ _ _ _ _)
   | (with_reducible exact LeO.refl _)
   | (with_reducible exact LeO.none _)
   | (with_reducible refine LeO.ite ?_ ?_)
   | (with_reducible refine LeO.bind ?_ (fun _ => ?_))
   | exact ih0 _ _ _ _ _ _ _ _ _ _ _ _ _ _ _ _
   | exact LeO.none _
   | refine LeO.ite ?_ ?_
   | refine LeO.bind ?_ (fun _ => ?_)
theorem seizinlaw04_DeriveTwice.mono : ∀ a0 a1 a2 a3 a4 a5 a6 a7 a8 a9 k, LeO (seizinlaw04_DeriveTwice.f k a0 a1 a2 a3 a4 a5 a6 a7 a8 a9) (seizinlaw04_DeriveTwice.f (k + 1) a0 a1 a2 a3 a4 a5 a6 a7 a8 a9) := by
 intro a0 a1 a2 a3 a4 a5 a6 a7 a8 a9 k
 have ih0 := seizinlaw04_DeriveTwice.mono_l k
 unfold seizinlaw04_DeriveTwice.f
 repeat' first
   | (with_reducible exact ih0 _ _ _ _ _ _ _ _ _ _ _ _ _ _ _ _)
   | (with_reducible exact LeO.refl _)
   | (with_reducible exact LeO.none _)
   | (with_reducible refine LeO.ite ?_ ?_)
   | (with_reducible refine LeO.bind ?_ (fun _ => ?_))
   | exact ih0 _ _ _ _ _ _ _ _ _ _ _ _ _ _ _ _
   | exact LeO.none _
   | refine LeO.ite ?_ ?_
   | refine LeO.bind ?_ (fun _ => ?_)
set_option maxHeartbeats 8000000 in
set_option maxRecDepth 100000 in
theorem seizinlaw04_DeriveTwice.calls (k : Nat) (a0_0 : Bool) (a0_1 : Int) (a0_2 : Int) (a0_3 : Int) (a0_4 : Int) (a0_5 : Int) (a1 : Int) (a2 : Int) (a3 : Int) (a4 : Int) (r : Bool) (w : World) (h : seizinlaw04_DeriveTwice.f k a0_0 a0_1 a0_2 a0_3 a0_4 a0_5 a1 a2 a3 a4 = some r) (hr_ : r = true) :
  Calls Try.prog 7 #[.agg #[.bool a0_0, .int .i64 a0_1, .int .i64 a0_2, .int .i64 a0_3, .int .i64 a0_4, .int .i64 a0_5], .int .u16 a1, .int .u16 a2, .int .u8 a3, .int .u8 a4] w fun e w' => e = .returned (.bool r) ∧ Below w.heap.size w w' := by
 have hu23 := Try.underlying23
 have HB := Aside0.mk (Below.refl w.heap.size w)
 have H : ((seizinlaw04_head.f).bind fun t538 => ((derive_Bounds.f a0_0 a0_1 a0_2 a0_3 a0_4 a0_5 (wrap64 (a1))).bind fun bt539 => (if bt539.2.2.2.2.2.2 = 0 then ((derive_Bounds.f bt539.1 bt539.2.1 bt539.2.2.1 bt539.2.2.2.1 bt539.2.2.2.2.1 bt539.2.2.2.2.2.1 (wrap64 (a2))).bind fun bt547 => (if ((bt547.2.2.2.2.2.2 == 0) != (decide (a2 ≤ a1))) = true then (seizinlaw04_DeriveTwice.j0 k a3 a4 t538 true a0_0 a0_1 a0_2 a0_3 a0_4 a0_5 bt539.1 bt539.2.1 bt539.2.2.1 bt539.2.2.2.1 bt539.2.2.2.2.1 bt539.2.2.2.2.2.1) else (if bt547.2.2.2.2.2.2 = 0 then (if bt547.2.1 = a0_3 then (seizinlaw04_DeriveTwice.j0 k a3 a4 t538 (bt547.2.2.1 != (wrap64 (a0_3 + (wrap64 (a2))))) a0_0 a0_1 a0_2 a0_3 a0_4 a0_5 bt539.1 bt539.2.1 bt539.2.2.1 bt539.2.2.2.1 bt539.2.2.2.2.1 bt539.2.2.2.2.2.1) else (seizinlaw04_DeriveTwice.j0 k a3 a4 t538 true a0_0 a0_1 a0_2 a0_3 a0_4 a0_5 bt539.1 bt539.2.1 bt539.2.2.1 bt539.2.2.2.1 bt539.2.2.2.2.1 bt539.2.2.2.2.2.1)) else (seizinlaw04_DeriveTwice.j0 k a3 a4 t538 false a0_0 a0_1 a0_2 a0_3 a0_4 a0_5 bt539.1 bt539.2.1 bt539.2.2.1 bt539.2.2.2.1 bt539.2.2.2.2.1 bt539.2.2.2.2.2.1)))) else (some t538)))) = some r := h
 clear h
 replace H := Option.bind_eq_some_iff.mp H
 obtain ⟨t538, A60, H⟩ := H
 replace H : ((derive_Bounds.f a0_0 a0_1 a0_2 a0_3 a0_4 a0_5 (wrap64 (a1))).bind fun bt539 => (if bt539.2.2.2.2.2.2 = 0 then ((derive_Bounds.f bt539.1 bt539.2.1 bt539.2.2.1 bt539.2.2.2.1 bt539.2.2.2.2.1 bt539.2.2.2.2.2.1 (wrap64 (a2))).bind fun bt547 => (if ((bt547.2.2.2.2.2.2 == 0) != (decide (a2 ≤ a1))) = true then (seizinlaw04_DeriveTwice.j0 k a3 a4 t538 true a0_0 a0_1 a0_2 a0_3 a0_4 a0_5 bt539.1 bt539.2.1 bt539.2.2.1 bt539.2.2.2.1 bt539.2.2.2.2.1 bt539.2.2.2.2.2.1) else (if bt547.2.2.2.2.2.2 = 0 then (if bt547.2.1 = a0_3 then (seizinlaw04_DeriveTwice.j0 k a3 a4 t538 (bt547.2.2.1 != (wrap64 (a0_3 + (wrap64 (a2))))) a0_0 a0_1 a0_2 a0_3 a0_4 a0_5 bt539.1 bt539.2.1 bt539.2.2.1 bt539.2.2.2.1 bt539.2.2.2.2.1 bt539.2.2.2.2.2.1) else (seizinlaw04_DeriveTwice.j0 k a3 a4 t538 true a0_0 a0_1 a0_2 a0_3 a0_4 a0_5 bt539.1 bt539.2.1 bt539.2.2.1 bt539.2.2.2.1 bt539.2.2.2.2.1 bt539.2.2.2.2.2.1)) else (seizinlaw04_DeriveTwice.j0 k a3 a4 t538 false a0_0 a0_1 a0_2 a0_3 a0_4 a0_5 bt539.1 bt539.2.1 bt539.2.2.1 bt539.2.2.2.1 bt539.2.2.2.2.1 bt539.2.2.2.2.2.1)))) else (some t538))) = some r := H
 have A6 := Aside0.mk A60
 clear A60
 replace H := Option.bind_eq_some_iff.mp H
 obtain ⟨⟨t539, t540, t541, t542, t543, t544, t545⟩, A70, H⟩ := H
 replace H : (if t545 = 0 then ((derive_Bounds.f t539 t540 t541 t542 t543 t544 (wrap64 (a2))).bind fun bt547 => (if ((bt547.2.2.2.2.2.2 == 0) != (decide (a2 ≤ a1))) = true then (seizinlaw04_DeriveTwice.j0 k a3 a4 t538 true a0_0 a0_1 a0_2 a0_3 a0_4 a0_5 t539 t540 t541 t542 t543 t544) else (if bt547.2.2.2.2.2.2 = 0 then (if bt547.2.1 = a0_3 then (seizinlaw04_DeriveTwice.j0 k a3 a4 t538 (bt547.2.2.1 != (wrap64 (a0_3 + (wrap64 (a2))))) a0_0 a0_1 a0_2 a0_3 a0_4 a0_5 t539 t540 t541 t542 t543 t544) else (seizinlaw04_DeriveTwice.j0 k a3 a4 t538 true a0_0 a0_1 a0_2 a0_3 a0_4 a0_5 t539 t540 t541 t542 t543 t544)) else (seizinlaw04_DeriveTwice.j0 k a3 a4 t538 false a0_0 a0_1 a0_2 a0_3 a0_4 a0_5 t539 t540 t541 t542 t543 t544)))) else (some t538)) = some r := H
 have A7 := Aside0.mk A70
 clear A70
 by_cases c8 : t545 = 0
 ·rw [if_pos c8] at H
  have c8b0 : (t545 == 0) = true := beq_iff_eq.mpr c8
  have c8b1 : (t545 != 0) = false := bne_eq_false_iff_eq.mpr c8
  clear c8
  replace H := Option.bind_eq_some_iff.mp H
  obtain ⟨⟨t547, t548, t549, t550, t551, t552, t553⟩, A90, H⟩ := H
  replace H : (if ((t553 == 0) != (decide (a2 ≤ a1))) = true then (seizinlaw04_DeriveTwice.j0 k a3 a4 t538 true a0_0 a0_1 a0_2 a0_3 a0_4 a0_5 t539 t540 t541 t542 t543 t544) else (if t553 = 0 then (if t548 = a0_3 then (seizinlaw04_DeriveTwice.j0 k a3 a4 t538 (t549 != (wrap64 (a0_3 + (wrap64 (a2))))) a0_0 a0_1 a0_2 a0_3 a0_4 a0_5 t539 t540 t541 t542 t543 t544) else (seizinlaw04_DeriveTwice.j0 k a3 a4 t538 true a0_0 a0_1 a0_2 a0_3 a0_4 a0_5 t539 t540 t541 t542 t543 t544)) else (seizinlaw04_DeriveTwice.j0 k a3 a4 t538 false a0_0 a0_1 a0_2 a0_3 a0_4 a0_5 t539 t540 t541 t542 t543 t544))) = some r := H
  have A9 := Aside0.mk A90
  clear A90
  have HC10 := Aside0.mk H
  clear H
  go_enter Try.func7, Try.ntmps7
  go_upto_region 6 with (first | ((with_reducible refine gate_dst (N := 5) rfl ?_); refine box_event ?hg (N := 5) ?hd (cs := #[.bool a0_0, .int .i64 a0_1, .int .i64 a0_2, .int .i64 a0_3, .int .i64 a0_4, .int .i64 a0_5]) (t := 23) ?hr ?_; (case hd => rfl); (case hg => rfl); (case hr => first | (go_simp; done) | (go_simp; rfl)); intro gb537 hg w11 hbox hb; have n0_ := q2_ HB hb; have n1_ := Aside0.mk (hbox); have n2_ := q11_ HB hg; have n3_ := q11_ HB hg; clear HB; have HB := n0_; have BK537 := n1_; have GW537 := n2_; have GE537 := n3_; clear n0_ n1_ n2_ n3_; clear hb hbox hg) | ((with_reducible refine gate_callee (f := 10) rfl ?_); refine goesL_ (some 20) rfl rfl Try.func10 (by kernel_rfl) rfl #[] rfl (by (try simp only [List.map_toArray, List.map_cons, List.map_nil]); first | done | rfl | (simp only [List.length_drop, List.length_take]; rfl)) ?_; (with_reducible refine (seizinlaw04_head.calls  t538 _ A6.out).mono ?_); rintro e w12 ⟨rfl, hb⟩; refine ⟨_, rfl, ?_⟩; have n0_ := q1_ BK537 hb; have n1_ := q2_ HB hb; clear BK537; clear HB; have BK537 := n0_; have HB := n1_; clear n0_ n1_; (try clear hb); (try clear hb2); (try clear hk); (try clear hi); obtain ⟨hcz13_0, hcz13_1, hcz13_2, hcz13_3, hcz13_4, hcz13_5⟩ := q9_ BK537; obtain ⟨hfz13_0, hfz13_1, hfz13_2, hfz13_3, hfz13_4, hfz13_5⟩ := q10_ BK537) | ((with_reducible refine gate_callee (f := 11) rfl ?_); refine goesL_ (some 25) rfl rfl Try.func11 (by kernel_rfl) rfl #[.agg #[.bool a0_0, .int .i64 a0_1, .int .i64 a0_2, .int .i64 a0_3, .int .i64 a0_4, .int .i64 a0_5], .int .i64 (wrap64 (a1))] rfl (by (try simp only [List.map_toArray, List.map_cons, List.map_nil]); first | done | rfl | (simp only [List.length_drop, List.length_take]; rfl)) ?_; (with_reducible refine (derive_Bounds.calls a0_0 a0_1 a0_2 a0_3 a0_4 a0_5 (wrap64 (a1)) t539 t540 t541 t542 t543 t544 t545 _ A7.out).mono ?_); rintro e w14 ⟨rfl, hb⟩; refine ⟨_, rfl, ?_⟩; have n0_ := q1_ BK537 hb; have n1_ := q2_ HB hb; clear BK537; clear HB; have BK537 := n0_; have HB := n1_; clear n0_ n1_; (try clear hb); (try clear hb2); (try clear hk); (try clear hi)) | ((with_reducible refine gate_dst (N := 12) rfl ?_); refine box_event ?hg (N := 12) ?hd (cs := #[.bool false, .int .i64 0, .int .i64 0, .int .i64 0, .int .i64 0, .int .i64 0]) (t := 23) ?hr ?_; (case hd => rfl); (case hg => rfl); (case hr => first | (go_simp; done) | (go_simp; rfl)); intro gb546 hg w15 hbox hb; have n0_ := q1_ BK537 hb; have n1_ := q2_ HB hb; have n2_ := Aside0.mk (hbox); have n3_ := q11_ HB hg; have n4_ := q11_ HB hg; have n5_ := q12_ BK537 hg; have n6_ := q13_ BK537 hg; clear BK537; clear HB; have BK537 := n0_; have HB := n1_; have BK546 := n2_; have GW546 := n3_; have GE546 := n4_; have NB537_546 := n5_; have NB546_537 := n6_; clear n0_ n1_ n2_ n3_ n4_ n5_ n6_; clear hb hbox hg; have hnb16 := NB546_537.out; have hnc16 := NB537_546.out; obtain ⟨hcz17_0, hcz17_1, hcz17_2, hcz17_3, hcz17_4, hcz17_5⟩ := q9_ BK546; obtain ⟨hfz17_0, hfz17_1, hfz17_2, hfz17_3, hfz17_4, hfz17_5⟩ := q10_ BK546) | ((with_reducible refine gate_callee (f := 11) rfl ?_); refine goesL_ (some 35) rfl rfl Try.func11 (by kernel_rfl) rfl #[.agg #[.bool t539, .int .i64 t540, .int .i64 t541, .int .i64 t542, .int .i64 t543, .int .i64 t544], .int .i64 (wrap64 (a2))] rfl (by (try simp only [List.map_toArray, List.map_cons, List.map_nil]); first | done | rfl | (simp only [List.length_drop, List.length_take]; rfl)) ?_; (with_reducible refine (derive_Bounds.calls t539 t540 t541 t542 t543 t544 (wrap64 (a2)) t547 t548 t549 t550 t551 t552 t553 _ A9.out).mono ?_); rintro e w18 ⟨rfl, hb⟩; refine ⟨_, rfl, ?_⟩; have n0_ := Aside0.mk (blk_below (g := gb537) (o := .cells #[.bool a0_0, .int .i64 a0_1, .int .i64 a0_2, .int .i64 a0_3, .int .i64 a0_4, .int .i64 a0_5] 23 (0, 0)) (by (with_reducible repeat (first | refine blk_drewN ?_ _ | refine blk_drew ?_ | refine blk_alloc ?_ _)); refine blk_far ?_ NB537_546.out _; (with_reducible repeat (first | refine blk_drewN ?_ _ | refine blk_drew ?_ | refine blk_alloc ?_ _)); refine blk_far ?_ NB537_546.out _; (with_reducible repeat (first | refine blk_drewN ?_ _ | refine blk_drew ?_ | refine blk_alloc ?_ _)); refine blk_far ?_ NB537_546.out _; (with_reducible repeat (first | refine blk_drewN ?_ _ | refine blk_drew ?_ | refine blk_alloc ?_ _)); refine blk_far ?_ NB537_546.out _; (with_reducible repeat (first | refine blk_drewN ?_ _ | refine blk_drew ?_ | refine blk_alloc ?_ _)); refine blk_far ?_ NB537_546.out _; (with_reducible repeat (first | refine blk_drewN ?_ _ | refine blk_drew ?_ | refine blk_alloc ?_ _)); refine blk_far ?_ NB537_546.out _; (with_reducible repeat (first | refine blk_drewN ?_ _ | refine blk_drew ?_ | refine blk_alloc ?_ _)); exact BK537.out) hb); have n1_ := Aside0.mk (blk_below (g := gb546) (o := .cells #[.bool t539, .int .i64 t540, .int .i64 t541, .int .i64 t542, .int .i64 t543, .int .i64 t544] 23 (0, 0)) (by (with_reducible repeat (first | refine blk_drewN ?_ _ | refine blk_drew ?_ | refine blk_alloc ?_ _)); refine blk_put (cs := #[.bool t539, .int .i64 t540, .int .i64 t541, .int .i64 t542, .int .i64 t543, .int .i64 0]) ?_ 5 _ rfl; refine blk_put (cs := #[.bool t539, .int .i64 t540, .int .i64 t541, .int .i64 t542, .int .i64 0, .int .i64 0]) ?_ 4 _ rfl; refine blk_put (cs := #[.bool t539, .int .i64 t540, .int .i64 t541, .int .i64 0, .int .i64 0, .int .i64 0]) ?_ 3 _ rfl; refine blk_put (cs := #[.bool t539, .int .i64 t540, .int .i64 0, .int .i64 0, .int .i64 0, .int .i64 0]) ?_ 2 _ rfl; refine blk_put (cs := #[.bool t539, .int .i64 0, .int .i64 0, .int .i64 0, .int .i64 0, .int .i64 0]) ?_ 1 _ rfl; refine blk_put (cs := #[.bool false, .int .i64 0, .int .i64 0, .int .i64 0, .int .i64 0, .int .i64 0]) ?_ 0 _ rfl; (with_reducible repeat (first | refine blk_drewN ?_ _ | refine blk_drew ?_ | refine blk_alloc ?_ _)); exact BK546.out) hb); have n2_ := q2_ HB hb; clear BK537; clear BK546; clear HB; have BK537 := n0_; have BK546 := n1_; have HB := n2_; clear n0_ n1_ n2_; (try clear hb); (try clear hb2); (try clear hk); (try clear hi)) | ((with_reducible refine gate_dst (N := 14) rfl ?_); refine box_event ?hg (N := 14) ?hd (cs := #[.bool false, .int .i64 0, .int .i64 0, .int .i64 0, .int .i64 0, .int .i64 0]) (t := 23) ?hr ?_; (case hd => rfl); (case hg => rfl); (case hr => first | (go_simp; done) | (go_simp; rfl)); intro gb554 hg w19 hbox hb; have n0_ := q1_ BK537 hb; have n1_ := q1_ BK546 hb; have n2_ := q2_ HB hb; have n3_ := Aside0.mk (hbox); have n4_ := q11_ HB hg; have n5_ := q11_ HB hg; have n6_ := q12_ BK537 hg; have n7_ := q13_ BK537 hg; have n8_ := q12_ BK546 hg; have n9_ := q13_ BK546 hg; clear BK537; clear BK546; clear HB; have BK537 := n0_; have BK546 := n1_; have HB := n2_; have BK554 := n3_; have GW554 := n4_; have GE554 := n5_; have NB537_554 := n6_; have NB554_537 := n7_; have NB546_554 := n8_; have NB554_546 := n9_; clear n0_ n1_ n2_ n3_ n4_ n5_ n6_ n7_ n8_ n9_; clear hb hbox hg; have hnb20 := NB554_537.out; have hnc20 := NB537_554.out; have hnb21 := NB554_546.out; have hnc21 := NB546_554.out; obtain ⟨hcz22_0, hcz22_1, hcz22_2, hcz22_3, hcz22_4, hcz22_5⟩ := q9_ BK554; obtain ⟨hfz22_0, hfz22_1, hfz22_2, hfz22_3, hfz22_4, hfz22_5⟩ := q10_ BK554))
  (try simp only [Act.put, q4_, q5_, q6_])
  go_cut [64] (fun v64 wc => ∃ (kq : Nat) (x64_9 : Bool), v64 = .bool x64_9 ∧ Aside0 (seizinlaw04_DeriveTwice.j0 kq a3 a4 t538 x64_9 a0_0 a0_1 a0_2 a0_3 a0_4 a0_5 t539 t540 t541 t542 t543 t544 = some r) ∧ Aside0 (kq ≤ k) ∧ Aside0 (wc.heap[gb537]? = some (.cells #[.bool a0_0, .int .i64 a0_1, .int .i64 a0_2, .int .i64 a0_3, .int .i64 a0_4, .int .i64 a0_5] 23 (0, 0))) ∧ Aside0 (wc.heap[gb546]? = some (.cells #[.bool t539, .int .i64 t540, .int .i64 t541, .int .i64 t542, .int .i64 t543, .int .i64 t544] 23 (0, 0))) ∧ Aside0 (wc.heap[gb554]? = some (.cells #[.bool t547, .int .i64 t548, .int .i64 t549, .int .i64 t550, .int .i64 t551, .int .i64 t552] 23 (0, 0))) ∧ Aside0 (Below w.heap.size w wc))
  case first =>
   have H := HC10.out
   clear HC10
   by_cases c23 : ((t553 == 0) != (decide (a2 ≤ a1))) = true
   ·rw [if_pos c23] at H
    have c23b0 : ((t553 == 0) != (decide (a2 ≤ a1))) = true := c23
    (try (have c23b1 : decide ((t553 == 0) = (decide (a2 ≤ a1))) = false := by simpa using c23))
    (try (have c23b2 : ((t553 == 0) == (decide (a2 ≤ a1))) = false := by simpa using c23))
    (try (have c23b3 : ¬ ((t553 == 0) = (decide (a2 ≤ a1))) := by simpa using c23))
    clear c23
    (first | rw [c23b0] | (simp only [i64_w, i32_w]; rw [c23b0]) | skip)
    have H' := Aside0.mk H
    clear H
    go_wp2
    go_meet
    case rel => exact ⟨_, (true), (by first | rfl | (simp; done) | (simp [*]; done)), H', ⟨by first | omega | exact Nat.le_refl _⟩, ⟨by (with_reducible repeat (first | refine blk_drewN ?_ _ | refine blk_drew ?_ | refine blk_alloc ?_ _)); refine blk_far ?_ NB537_554.out _; (with_reducible repeat (first | refine blk_drewN ?_ _ | refine blk_drew ?_ | refine blk_alloc ?_ _)); refine blk_far ?_ NB537_554.out _; (with_reducible repeat (first | refine blk_drewN ?_ _ | refine blk_drew ?_ | refine blk_alloc ?_ _)); refine blk_far ?_ NB537_554.out _; (with_reducible repeat (first | refine blk_drewN ?_ _ | refine blk_drew ?_ | refine blk_alloc ?_ _)); refine blk_far ?_ NB537_554.out _; (with_reducible repeat (first | refine blk_drewN ?_ _ | refine blk_drew ?_ | refine blk_alloc ?_ _)); refine blk_far ?_ NB537_554.out _; (with_reducible repeat (first | refine blk_drewN ?_ _ | refine blk_drew ?_ | refine blk_alloc ?_ _)); refine blk_far ?_ NB537_554.out _; (with_reducible repeat (first | refine blk_drewN ?_ _ | refine blk_drew ?_ | refine blk_alloc ?_ _)); exact BK537.out⟩, ⟨by (with_reducible repeat (first | refine blk_drewN ?_ _ | refine blk_drew ?_ | refine blk_alloc ?_ _)); refine blk_far ?_ NB546_554.out _; (with_reducible repeat (first | refine blk_drewN ?_ _ | refine blk_drew ?_ | refine blk_alloc ?_ _)); refine blk_far ?_ NB546_554.out _; (with_reducible repeat (first | refine blk_drewN ?_ _ | refine blk_drew ?_ | refine blk_alloc ?_ _)); refine blk_far ?_ NB546_554.out _; (with_reducible repeat (first | refine blk_drewN ?_ _ | refine blk_drew ?_ | refine blk_alloc ?_ _)); refine blk_far ?_ NB546_554.out _; (with_reducible repeat (first | refine blk_drewN ?_ _ | refine blk_drew ?_ | refine blk_alloc ?_ _)); refine blk_far ?_ NB546_554.out _; (with_reducible repeat (first | refine blk_drewN ?_ _ | refine blk_drew ?_ | refine blk_alloc ?_ _)); refine blk_far ?_ NB546_554.out _; (with_reducible repeat (first | refine blk_drewN ?_ _ | refine blk_drew ?_ | refine blk_alloc ?_ _)); exact BK546.out⟩, ⟨by (with_reducible repeat (first | refine blk_drewN ?_ _ | refine blk_drew ?_ | refine blk_alloc ?_ _)); refine blk_put (cs := #[.bool t547, .int .i64 t548, .int .i64 t549, .int .i64 t550, .int .i64 t551, .int .i64 0]) ?_ 5 _ rfl; refine blk_put (cs := #[.bool t547, .int .i64 t548, .int .i64 t549, .int .i64 t550, .int .i64 0, .int .i64 0]) ?_ 4 _ rfl; refine blk_put (cs := #[.bool t547, .int .i64 t548, .int .i64 t549, .int .i64 0, .int .i64 0, .int .i64 0]) ?_ 3 _ rfl; refine blk_put (cs := #[.bool t547, .int .i64 t548, .int .i64 0, .int .i64 0, .int .i64 0, .int .i64 0]) ?_ 2 _ rfl; refine blk_put (cs := #[.bool t547, .int .i64 0, .int .i64 0, .int .i64 0, .int .i64 0, .int .i64 0]) ?_ 1 _ rfl; refine blk_put (cs := #[.bool false, .int .i64 0, .int .i64 0, .int .i64 0, .int .i64 0, .int .i64 0]) ?_ 0 _ rfl; (with_reducible repeat (first | refine blk_drewN ?_ _ | refine blk_drew ?_ | refine blk_alloc ?_ _)); exact BK554.out⟩, ⟨by repeat (first | (with_reducible first | exact HB.out | apply below_alloc | apply pw_below_drewN | apply below_drew1 | refine below_set ?_ GE537.out | refine below_set ?_ GE546.out | refine below_set ?_ GE554.out) | exact HB.out)⟩⟩
   ·rw [if_neg c23] at H
    have c23b0 : ((t553 == 0) != (decide (a2 ≤ a1))) = false := by simpa using c23
    (try (have c23b1 : decide ((t553 == 0) = (decide (a2 ≤ a1))) = true := by simpa using c23))
    (try (have c23b2 : ((t553 == 0) == (decide (a2 ≤ a1))) = true := by simpa using c23))
    clear c23
    (first | rw [c23b0] | (simp only [i64_w, i32_w]; rw [c23b0]) | skip)
    by_cases c24 : t553 = 0
    ·rw [if_pos c24] at H
     have c24b0 : (t553 == 0) = true := beq_iff_eq.mpr c24
     have c24b1 : (t553 != 0) = false := bne_eq_false_iff_eq.mpr c24
     clear c24
     have c23d : a2 ≤ a1 := by simpa [c24b0] using c23b2
     by_cases c25 : t548 = a0_3
     ·rw [if_pos c25] at H
      have c25b0 : (t548 == a0_3) = true := beq_iff_eq.mpr c25
      have c25b1 : (t548 != a0_3) = false := bne_eq_false_iff_eq.mpr c25
      clear c25
      have H' := Aside0.mk H
      clear H
      have hnb26 := NB554_537.out
      have hnc26 := NB537_554.out
      have hnb27 := NB554_546.out
      have hnc27 := NB546_554.out
      obtain ⟨hcz28_0, hcz28_1, hcz28_2, hcz28_3, hcz28_4, hcz28_5⟩ := q9_ BK554
      obtain ⟨hfz28_0, hfz28_1, hfz28_2, hfz28_3, hfz28_4, hfz28_5⟩ := q10_ BK554
      have hnb29 := NB537_546.out
      have hnc29 := NB546_537.out
      obtain ⟨hcz30_0, hcz30_1, hcz30_2, hcz30_3, hcz30_4, hcz30_5⟩ := q9_ BK537
      obtain ⟨hfz30_0, hfz30_1, hfz30_2, hfz30_3, hfz30_4, hfz30_5⟩ := q10_ BK537
      go_wp2
      go_meet
      case rel => exact ⟨_, ((t549 != (wrap64 (a0_3 + (wrap64 (a2)))))), (by first | rfl | (simp; done) | (simp [*]; done)), H', ⟨by first | omega | exact Nat.le_refl _⟩, ⟨by (with_reducible repeat (first | refine blk_drewN ?_ _ | refine blk_drew ?_ | refine blk_alloc ?_ _)); refine blk_far ?_ NB537_554.out _; (with_reducible repeat (first | refine blk_drewN ?_ _ | refine blk_drew ?_ | refine blk_alloc ?_ _)); refine blk_far ?_ NB537_554.out _; (with_reducible repeat (first | refine blk_drewN ?_ _ | refine blk_drew ?_ | refine blk_alloc ?_ _)); refine blk_far ?_ NB537_554.out _; (with_reducible repeat (first | refine blk_drewN ?_ _ | refine blk_drew ?_ | refine blk_alloc ?_ _)); refine blk_far ?_ NB537_554.out _; (with_reducible repeat (first | refine blk_drewN ?_ _ | refine blk_drew ?_ | refine blk_alloc ?_ _)); refine blk_far ?_ NB537_554.out _; (with_reducible repeat (first | refine blk_drewN ?_ _ | refine blk_drew ?_ | refine blk_alloc ?_ _)); refine blk_far ?_ NB537_554.out _; (with_reducible repeat (first | refine blk_drewN ?_ _ | refine blk_drew ?_ | refine blk_alloc ?_ _)); exact BK537.out⟩, ⟨by (with_reducible repeat (first | refine blk_drewN ?_ _ | refine blk_drew ?_ | refine blk_alloc ?_ _)); refine blk_far ?_ NB546_554.out _; (with_reducible repeat (first | refine blk_drewN ?_ _ | refine blk_drew ?_ | refine blk_alloc ?_ _)); refine blk_far ?_ NB546_554.out _; (with_reducible repeat (first | refine blk_drewN ?_ _ | refine blk_drew ?_ | refine blk_alloc ?_ _)); refine blk_far ?_ NB546_554.out _; (with_reducible repeat (first | refine blk_drewN ?_ _ | refine blk_drew ?_ | refine blk_alloc ?_ _)); refine blk_far ?_ NB546_554.out _; (with_reducible repeat (first | refine blk_drewN ?_ _ | refine blk_drew ?_ | refine blk_alloc ?_ _)); refine blk_far ?_ NB546_554.out _; (with_reducible repeat (first | refine blk_drewN ?_ _ | refine blk_drew ?_ | refine blk_alloc ?_ _)); refine blk_far ?_ NB546_554.out _; (with_reducible repeat (first | refine blk_drewN ?_ _ | refine blk_drew ?_ | refine blk_alloc ?_ _)); exact BK546.out⟩, ⟨by (with_reducible repeat (first | refine blk_drewN ?_ _ | refine blk_drew ?_ | refine blk_alloc ?_ _)); refine blk_put (cs := #[.bool t547, .int .i64 t548, .int .i64 t549, .int .i64 t550, .int .i64 t551, .int .i64 0]) ?_ 5 _ rfl; refine blk_put (cs := #[.bool t547, .int .i64 t548, .int .i64 t549, .int .i64 t550, .int .i64 0, .int .i64 0]) ?_ 4 _ rfl; refine blk_put (cs := #[.bool t547, .int .i64 t548, .int .i64 t549, .int .i64 0, .int .i64 0, .int .i64 0]) ?_ 3 _ rfl; refine blk_put (cs := #[.bool t547, .int .i64 t548, .int .i64 0, .int .i64 0, .int .i64 0, .int .i64 0]) ?_ 2 _ rfl; refine blk_put (cs := #[.bool t547, .int .i64 0, .int .i64 0, .int .i64 0, .int .i64 0, .int .i64 0]) ?_ 1 _ rfl; refine blk_put (cs := #[.bool false, .int .i64 0, .int .i64 0, .int .i64 0, .int .i64 0, .int .i64 0]) ?_ 0 _ rfl; (with_reducible repeat (first | refine blk_drewN ?_ _ | refine blk_drew ?_ | refine blk_alloc ?_ _)); exact BK554.out⟩, ⟨by repeat (first | (with_reducible first | exact HB.out | apply below_alloc | apply pw_below_drewN | apply below_drew1 | refine below_set ?_ GE537.out | refine below_set ?_ GE546.out | refine below_set ?_ GE554.out) | exact HB.out)⟩⟩
     ·rw [if_neg c25] at H
      have c25b0 : (t548 == a0_3) = false := beq_eq_false_iff_ne.mpr c25
      have c25b1 : (t548 != a0_3) = true := bne_iff_ne.mpr c25
      have H' := Aside0.mk H
      clear H
      have hnb31 := NB554_537.out
      have hnc31 := NB537_554.out
      have hnb32 := NB554_546.out
      have hnc32 := NB546_554.out
      obtain ⟨hcz33_0, hcz33_1, hcz33_2, hcz33_3, hcz33_4, hcz33_5⟩ := q9_ BK554
      obtain ⟨hfz33_0, hfz33_1, hfz33_2, hfz33_3, hfz33_4, hfz33_5⟩ := q10_ BK554
      have hnb34 := NB537_546.out
      have hnc34 := NB546_537.out
      obtain ⟨hcz35_0, hcz35_1, hcz35_2, hcz35_3, hcz35_4, hcz35_5⟩ := q9_ BK537
      obtain ⟨hfz35_0, hfz35_1, hfz35_2, hfz35_3, hfz35_4, hfz35_5⟩ := q10_ BK537
      go_wp2
      go_meet
      case rel => exact ⟨_, (true), (by first | rfl | (simp; done) | (simp [*]; done)), H', ⟨by first | omega | exact Nat.le_refl _⟩, ⟨by (with_reducible repeat (first | refine blk_drewN ?_ _ | refine blk_drew ?_ | refine blk_alloc ?_ _)); refine blk_far ?_ NB537_554.out _; (with_reducible repeat (first | refine blk_drewN ?_ _ | refine blk_drew ?_ | refine blk_alloc ?_ _)); refine blk_far ?_ NB537_554.out _; (with_reducible repeat (first | refine blk_drewN ?_ _ | refine blk_drew ?_ | refine blk_alloc ?_ _)); refine blk_far ?_ NB537_554.out _; (with_reducible repeat (first | refine blk_drewN ?_ _ | refine blk_drew ?_ | refine blk_alloc ?_ _)); refine blk_far ?_ NB537_554.out _; (with_reducible repeat (first | refine blk_drewN ?_ _ | refine blk_drew ?_ | refine blk_alloc ?_ _)); refine blk_far ?_ NB537_554.out _; (with_reducible repeat (first | refine blk_drewN ?_ _ | refine blk_drew ?_ | refine blk_alloc ?_ _)); refine blk_far ?_ NB537_554.out _; (with_reducible repeat (first | refine blk_drewN ?_ _ | refine blk_drew ?_ | refine blk_alloc ?_ _)); exact BK537.out⟩, ⟨by (with_reducible repeat (first | refine blk_drewN ?_ _ | refine blk_drew ?_ | refine blk_alloc ?_ _)); refine blk_far ?_ NB546_554.out _; (with_reducible repeat (first | refine blk_drewN ?_ _ | refine blk_drew ?_ | refine blk_alloc ?_ _)); refine blk_far ?_ NB546_554.out _; (with_reducible repeat (first | refine blk_drewN ?_ _ | refine blk_drew ?_ | refine blk_alloc ?_ _)); refine blk_far ?_ NB546_554.out _; (with_reducible repeat (first | refine blk_drewN ?_ _ | refine blk_drew ?_ | refine blk_alloc ?_ _)); refine blk_far ?_ NB546_554.out _; (with_reducible repeat (first | refine blk_drewN ?_ _ | refine blk_drew ?_ | refine blk_alloc ?_ _)); refine blk_far ?_ NB546_554.out _; (with_reducible repeat (first | refine blk_drewN ?_ _ | refine blk_drew ?_ | refine blk_alloc ?_ _)); refine blk_far ?_ NB546_554.out _; (with_reducible repeat (first | refine blk_drewN ?_ _ | refine blk_drew ?_ | refine blk_alloc ?_ _)); exact BK546.out⟩, ⟨by (with_reducible repeat (first | refine blk_drewN ?_ _ | refine blk_drew ?_ | refine blk_alloc ?_ _)); refine blk_put (cs := #[.bool t547, .int .i64 t548, .int .i64 t549, .int .i64 t550, .int .i64 t551, .int .i64 0]) ?_ 5 _ rfl; refine blk_put (cs := #[.bool t547, .int .i64 t548, .int .i64 t549, .int .i64 t550, .int .i64 0, .int .i64 0]) ?_ 4 _ rfl; refine blk_put (cs := #[.bool t547, .int .i64 t548, .int .i64 t549, .int .i64 0, .int .i64 0, .int .i64 0]) ?_ 3 _ rfl; refine blk_put (cs := #[.bool t547, .int .i64 t548, .int .i64 0, .int .i64 0, .int .i64 0, .int .i64 0]) ?_ 2 _ rfl; refine blk_put (cs := #[.bool t547, .int .i64 0, .int .i64 0, .int .i64 0, .int .i64 0, .int .i64 0]) ?_ 1 _ rfl; refine blk_put (cs := #[.bool false, .int .i64 0, .int .i64 0, .int .i64 0, .int .i64 0, .int .i64 0]) ?_ 0 _ rfl; (with_reducible repeat (first | refine blk_drewN ?_ _ | refine blk_drew ?_ | refine blk_alloc ?_ _)); exact BK554.out⟩, ⟨by repeat (first | (with_reducible first | exact HB.out | apply below_alloc | apply pw_below_drewN | apply below_drew1 | refine below_set ?_ GE537.out | refine below_set ?_ GE546.out | refine below_set ?_ GE554.out) | exact HB.out)⟩⟩
    ·rw [if_neg c24] at H
     have c24b0 : (t553 == 0) = false := beq_eq_false_iff_ne.mpr c24
     have c24b1 : (t553 != 0) = true := bne_iff_ne.mpr c24
     have c23d : a1 < a2 := by simpa [c24b0] using c23b2
     have H' := Aside0.mk H
     clear H
     go_wp2
     go_meet
     case rel => exact ⟨_, (false), (by first | rfl | (simp; done) | (simp [*]; done)), H', ⟨by first | omega | exact Nat.le_refl _⟩, ⟨by (with_reducible repeat (first | refine blk_drewN ?_ _ | refine blk_drew ?_ | refine blk_alloc ?_ _)); refine blk_far ?_ NB537_554.out _; (with_reducible repeat (first | refine blk_drewN ?_ _ | refine blk_drew ?_ | refine blk_alloc ?_ _)); refine blk_far ?_ NB537_554.out _; (with_reducible repeat (first | refine blk_drewN ?_ _ | refine blk_drew ?_ | refine blk_alloc ?_ _)); refine blk_far ?_ NB537_554.out _; (with_reducible repeat (first | refine blk_drewN ?_ _ | refine blk_drew ?_ | refine blk_alloc ?_ _)); refine blk_far ?_ NB537_554.out _; (with_reducible repeat (first | refine blk_drewN ?_ _ | refine blk_drew ?_ | refine blk_alloc ?_ _)); refine blk_far ?_ NB537_554.out _; (with_reducible repeat (first | refine blk_drewN ?_ _ | refine blk_drew ?_ | refine blk_alloc ?_ _)); refine blk_far ?_ NB537_554.out _; (with_reducible repeat (first | refine blk_drewN ?_ _ | refine blk_drew ?_ | refine blk_alloc ?_ _)); exact BK537.out⟩, ⟨by (with_reducible repeat (first | refine blk_drewN ?_ _ | refine blk_drew ?_ | refine blk_alloc ?_ _)); refine blk_far ?_ NB546_554.out _; (with_reducible repeat (first | refine blk_drewN ?_ _ | refine blk_drew ?_ | refine blk_alloc ?_ _)); refine blk_far ?_ NB546_554.out _; (with_reducible repeat (first | refine blk_drewN ?_ _ | refine blk_drew ?_ | refine blk_alloc ?_ _)); refine blk_far ?_ NB546_554.out _; (with_reducible repeat (first | refine blk_drewN ?_ _ | refine blk_drew ?_ | refine blk_alloc ?_ _)); refine blk_far ?_ NB546_554.out _; (with_reducible repeat (first | refine blk_drewN ?_ _ | refine blk_drew ?_ | refine blk_alloc ?_ _)); refine blk_far ?_ NB546_554.out _; (with_reducible repeat (first | refine blk_drewN ?_ _ | refine blk_drew ?_ | refine blk_alloc ?_ _)); refine blk_far ?_ NB546_554.out _; (with_reducible repeat (first | refine blk_drewN ?_ _ | refine blk_drew ?_ | refine blk_alloc ?_ _)); exact BK546.out⟩, ⟨by (with_reducible repeat (first | refine blk_drewN ?_ _ | refine blk_drew ?_ | refine blk_alloc ?_ _)); refine blk_put (cs := #[.bool t547, .int .i64 t548, .int .i64 t549, .int .i64 t550, .int .i64 t551, .int .i64 0]) ?_ 5 _ rfl; refine blk_put (cs := #[.bool t547, .int .i64 t548, .int .i64 t549, .int .i64 t550, .int .i64 0, .int .i64 0]) ?_ 4 _ rfl; refine blk_put (cs := #[.bool t547, .int .i64 t548, .int .i64 t549, .int .i64 0, .int .i64 0, .int .i64 0]) ?_ 3 _ rfl; refine blk_put (cs := #[.bool t547, .int .i64 t548, .int .i64 0, .int .i64 0, .int .i64 0, .int .i64 0]) ?_ 2 _ rfl; refine blk_put (cs := #[.bool t547, .int .i64 0, .int .i64 0, .int .i64 0, .int .i64 0, .int .i64 0]) ?_ 1 _ rfl; refine blk_put (cs := #[.bool false, .int .i64 0, .int .i64 0, .int .i64 0, .int .i64 0, .int .i64 0]) ?_ 0 _ rfl; (with_reducible repeat (first | refine blk_drewN ?_ _ | refine blk_drew ?_ | refine blk_alloc ?_ _)); exact BK554.out⟩, ⟨by repeat (first | (with_reducible first | exact HB.out | apply below_alloc | apply pw_below_drewN | apply below_drew1 | refine below_set ?_ GE537.out | refine below_set ?_ GE546.out | refine below_set ?_ GE554.out) | exact HB.out)⟩⟩
  case rest =>
   clear HC10
   try clear c1
   try clear c2
   try clear p2
   try clear c3
   try clear p6
   try clear c7
   try clear c8
   try clear c8b0
   try clear c8b1
   try clear c10
   try clear c11
   try clear c16
   try clear c20
   try clear c21
   try clear c23
   try clear c23b0
   try clear c23b1
   try clear c23b2
   try clear c24
   try clear c24b0
   try clear c24b1
   try clear c25
   try clear c25b0
   try clear c25b1
   try clear c26
   try clear c27
   try clear c29
   try clear c31
   try clear c32
   try clear c34
   try clear hcz13_0
   try clear hcz13_1
   try clear hcz13_2
   try clear hcz13_3
   try clear hcz13_4
   try clear hcz13_5
   try clear hcz17_0
   try clear hcz17_1
   try clear hcz17_2
   try clear hcz17_3
   try clear hcz17_4
   try clear hcz17_5
   try clear hcz22_0
   try clear hcz22_1
   try clear hcz22_2
   try clear hcz22_3
   try clear hcz22_4
   try clear hcz22_5
   try clear hcz28_0
   try clear hcz28_1
   try clear hcz28_2
   try clear hcz28_3
   try clear hcz28_4
   try clear hcz28_5
   try clear hcz30_0
   try clear hcz30_1
   try clear hcz30_2
   try clear hcz30_3
   try clear hcz30_4
   try clear hcz30_5
   try clear hcz33_0
   try clear hcz33_1
   try clear hcz33_2
   try clear hcz33_3
   try clear hcz33_4
   try clear hcz33_5
   try clear hcz35_0
   try clear hcz35_1
   try clear hcz35_2
   try clear hcz35_3
   try clear hcz35_4
   try clear hcz35_5
   try clear hfz13_0
   try clear hfz13_1
   try clear hfz13_2
   try clear hfz13_3
   try clear hfz13_4
   try clear hfz13_5
   try clear hfz17_0
   try clear hfz17_1
   try clear hfz17_2
   try clear hfz17_3
   try clear hfz17_4
   try clear hfz17_5
   try clear hfz22_0
   try clear hfz22_1
   try clear hfz22_2
   try clear hfz22_3
   try clear hfz22_4
   try clear hfz22_5
   try clear hfz28_0
   try clear hfz28_1
   try clear hfz28_2
   try clear hfz28_3
   try clear hfz28_4
   try clear hfz28_5
   try clear hfz30_0
   try clear hfz30_1
   try clear hfz30_2
   try clear hfz30_3
   try clear hfz30_4
   try clear hfz30_5
   try clear hfz33_0
   try clear hfz33_1
   try clear hfz33_2
   try clear hfz33_3
   try clear hfz33_4
   try clear hfz33_5
   try clear hfz35_0
   try clear hfz35_1
   try clear hfz35_2
   try clear hfz35_3
   try clear hfz35_4
   try clear hfz35_5
   obtain ⟨kq, x64_9, rfl, HA, HJ9, BK537, BK546, BK554, HB⟩ := hcut
   cases kq with
   | zero => exact absurd HA.out (by simp [seizinlaw04_DeriveTwice.j0])
   | succ kj9 =>
    have H := HA.out
    clear HA
    simp only [seizinlaw04_DeriveTwice.j0] at H
    by_cases c36 : x64_9 = true
    ·subst c36
     have H1 : (some false) = some r := by rw [if_pos rfl] at H; exact H
     clear H
     have H := H1
     clear H1
     exact absurd ((Option.some.inj H).trans hr_) (by decide)
    ·replace c36 := Bool.eq_false_iff.mpr c36
     subst c36
     have H1 : ((derive_Perms.f t539 t540 t541 t542 t543 t544 (wrap64 (Go.bits .and .u8 a3 127))).bind fun bt555 => ((derive_Perms.f bt555.1 bt555.2.1 bt555.2.2.1 bt555.2.2.2.1 bt555.2.2.2.2.1 bt555.2.2.2.2.2.1 (wrap64 (Go.bits .and .u8 a4 127))).bind fun bt563 => (if t538 = true then (if bt555.2.2.2.2.2.2 = 0 then (if bt563.2.2.2.2.2.2 = 0 then (if bt563.2.2.2.2.1 = (Go.bits .and .i64 (Go.bits .and .i64 (Go.bits .and .i64 a0_4 (wrap64 (a3))) (wrap64 (a4))) 127) then (some (bt563.2.1 == t540)) else (some false)) else (some false)) else (some false)) else (some false)))) = some r := by rw [if_neg (show ¬ (false = true) by decide)] at H; exact H
     clear H
     have H := H1
     clear H1
     replace H := Option.bind_eq_some_iff.mp H
     obtain ⟨⟨t555, t556, t557, t558, t559, t560, t561⟩, A370, H⟩ := H
     replace H : ((derive_Perms.f t555 t556 t557 t558 t559 t560 (wrap64 (Go.bits .and .u8 a4 127))).bind fun bt563 => (if t538 = true then (if t561 = 0 then (if bt563.2.2.2.2.2.2 = 0 then (if bt563.2.2.2.2.1 = (Go.bits .and .i64 (Go.bits .and .i64 (Go.bits .and .i64 a0_4 (wrap64 (a3))) (wrap64 (a4))) 127) then (some (bt563.2.1 == t540)) else (some false)) else (some false)) else (some false)) else (some false))) = some r := H
     have A37 := Aside0.mk A370
     clear A370
     replace H := Option.bind_eq_some_iff.mp H
     obtain ⟨⟨t563, t564, t565, t566, t567, t568, t569⟩, A380, H⟩ := H
     replace H : (if t538 = true then (if t561 = 0 then (if t569 = 0 then (if t567 = (Go.bits .and .i64 (Go.bits .and .i64 (Go.bits .and .i64 a0_4 (wrap64 (a3))) (wrap64 (a4))) 127) then (some (t564 == t540)) else (some false)) else (some false)) else (some false)) else (some false)) = some r := H
     have A38 := Aside0.mk A380
     clear A380
     by_cases c39 : t538 = true
     ·subst c39
      have H1 : (if t561 = 0 then (if t569 = 0 then (if t567 = (Go.bits .and .i64 (Go.bits .and .i64 (Go.bits .and .i64 a0_4 (wrap64 (a3))) (wrap64 (a4))) 127) then (some (t564 == t540)) else (some false)) else (some false)) else (some false)) = some r := by rw [if_pos rfl] at H; exact H
      clear H
      have H := H1
      clear H1
      by_cases c40 : t561 = 0
      ·rw [if_pos c40] at H
       have c40b0 : (t561 == 0) = true := beq_iff_eq.mpr c40
       have c40b1 : (t561 != 0) = false := bne_eq_false_iff_eq.mpr c40
       clear c40
       by_cases c41 : t569 = 0
       ·rw [if_pos c41] at H
        have c41b0 : (t569 == 0) = true := beq_iff_eq.mpr c41
        have c41b1 : (t569 != 0) = false := bne_eq_false_iff_eq.mpr c41
        clear c41
        by_cases c42 : t567 = (Go.bits .and .i64 (Go.bits .and .i64 (Go.bits .and .i64 a0_4 (wrap64 (a3))) (wrap64 (a4))) 127)
        ·rw [if_pos c42] at H
         have c42b0 : (t567 == (Go.bits .and .i64 (Go.bits .and .i64 (Go.bits .and .i64 a0_4 (wrap64 (a3))) (wrap64 (a4))) 127)) = true := beq_iff_eq.mpr c42
         have c42b1 : (t567 != (Go.bits .and .i64 (Go.bits .and .i64 (Go.bits .and .i64 a0_4 (wrap64 (a3))) (wrap64 (a4))) 127)) = false := bne_eq_false_iff_eq.mpr c42
         clear c42
         clear hr_
         obtain rfl := Option.some.inj H
         have hnb43 := NB546_537.out
         have hnc43 := NB537_546.out
         have hnb44 := NB546_554.out
         have hnc44 := NB554_546.out
         obtain ⟨hcz45_0, hcz45_1, hcz45_2, hcz45_3, hcz45_4, hcz45_5⟩ := q9_ BK546
         obtain ⟨hfz45_0, hfz45_1, hfz45_2, hfz45_3, hfz45_4, hfz45_5⟩ := q10_ BK546
         go_wp2_with (first | ((with_reducible refine gate_callee (f := 13) rfl ?_); refine goesL_ (some 70) rfl rfl Try.func13 (by kernel_rfl) rfl #[.agg #[.bool t539, .int .i64 t540, .int .i64 t541, .int .i64 t542, .int .i64 t543, .int .i64 t544], .int .i64 (wrap64 (Go.bits .and .u8 a3 127))] rfl (by (try simp only [List.map_toArray, List.map_cons, List.map_nil]); first | done | rfl | (simp only [List.length_drop, List.length_take]; rfl)) ?_; (with_reducible refine (derive_Perms.calls t539 t540 t541 t542 t543 t544 (wrap64 (Go.bits .and .u8 a3 127)) t555 t556 t557 t558 t559 t560 t561 _ A37.out).mono ?_); rintro e w46 ⟨rfl, hb⟩; refine ⟨_, rfl, ?_⟩; have n0_ := q1_ BK537 hb; have n1_ := q1_ BK546 hb; have n2_ := q1_ BK554 hb; have n3_ := q2_ HB hb; clear BK537; clear BK546; clear BK554; clear HB; have BK537 := n0_; have BK546 := n1_; have BK554 := n2_; have HB := n3_; clear n0_ n1_ n2_ n3_; (try clear hb); (try clear hb2); (try clear hk); (try clear hi)) | ((with_reducible refine gate_dst (N := 16) rfl ?_); refine box_event ?hg (N := 16) ?hd (cs := #[.bool false, .int .i64 0, .int .i64 0, .int .i64 0, .int .i64 0, .int .i64 0]) (t := 23) ?hr ?_; (case hd => rfl); (case hg => rfl); (case hr => first | (go_simp; done) | (go_simp; rfl)); intro gb562 hg w47 hbox hb; have n0_ := q1_ BK537 hb; have n1_ := q1_ BK546 hb; have n2_ := q1_ BK554 hb; have n3_ := q2_ HB hb; have n4_ := Aside0.mk (hbox); have n5_ := q11_ HB hg; have n6_ := q11_ HB hg; have n7_ := q12_ BK537 hg; have n8_ := q13_ BK537 hg; have n9_ := q12_ BK546 hg; have n10_ := q13_ BK546 hg; have n11_ := q12_ BK554 hg; have n12_ := q13_ BK554 hg; clear BK537; clear BK546; clear BK554; clear HB; have BK537 := n0_; have BK546 := n1_; have BK554 := n2_; have HB := n3_; have BK562 := n4_; have GW562 := n5_; have GE562 := n6_; have NB537_562 := n7_; have NB562_537 := n8_; have NB546_562 := n9_; have NB562_546 := n10_; have NB554_562 := n11_; have NB562_554 := n12_; clear n0_ n1_ n2_ n3_ n4_ n5_ n6_ n7_ n8_ n9_ n10_ n11_ n12_; clear hb hbox hg; have hnb48 := NB562_537.out; have hnc48 := NB537_562.out; have hnb49 := NB562_546.out; have hnc49 := NB546_562.out; have hnb50 := NB562_554.out; have hnc50 := NB554_562.out; obtain ⟨hcz51_0, hcz51_1, hcz51_2, hcz51_3, hcz51_4, hcz51_5⟩ := q9_ BK562; obtain ⟨hfz51_0, hfz51_1, hfz51_2, hfz51_3, hfz51_4, hfz51_5⟩ := q10_ BK562) | ((with_reducible refine gate_callee (f := 13) rfl ?_); refine goesL_ (some 78) rfl rfl Try.func13 (by kernel_rfl) rfl #[.agg #[.bool t555, .int .i64 t556, .int .i64 t557, .int .i64 t558, .int .i64 t559, .int .i64 t560], .int .i64 (wrap64 (Go.bits .and .u8 a4 127))] rfl (by (try simp only [List.map_toArray, List.map_cons, List.map_nil]); first | done | rfl | (simp only [List.length_drop, List.length_take]; rfl)) ?_; (with_reducible refine (derive_Perms.calls t555 t556 t557 t558 t559 t560 (wrap64 (Go.bits .and .u8 a4 127)) t563 t564 t565 t566 t567 t568 t569 _ A38.out).mono ?_); rintro e w52 ⟨rfl, hb⟩; refine ⟨_, rfl, ?_⟩; have n0_ := Aside0.mk (blk_below (g := gb537) (o := .cells #[.bool a0_0, .int .i64 a0_1, .int .i64 a0_2, .int .i64 a0_3, .int .i64 a0_4, .int .i64 a0_5] 23 (0, 0)) (by (with_reducible repeat (first | refine blk_drewN ?_ _ | refine blk_drew ?_ | refine blk_alloc ?_ _)); refine blk_far ?_ NB537_562.out _; (with_reducible repeat (first | refine blk_drewN ?_ _ | refine blk_drew ?_ | refine blk_alloc ?_ _)); refine blk_far ?_ NB537_562.out _; (with_reducible repeat (first | refine blk_drewN ?_ _ | refine blk_drew ?_ | refine blk_alloc ?_ _)); refine blk_far ?_ NB537_562.out _; (with_reducible repeat (first | refine blk_drewN ?_ _ | refine blk_drew ?_ | refine blk_alloc ?_ _)); refine blk_far ?_ NB537_562.out _; (with_reducible repeat (first | refine blk_drewN ?_ _ | refine blk_drew ?_ | refine blk_alloc ?_ _)); refine blk_far ?_ NB537_562.out _; (with_reducible repeat (first | refine blk_drewN ?_ _ | refine blk_drew ?_ | refine blk_alloc ?_ _)); refine blk_far ?_ NB537_562.out _; (with_reducible repeat (first | refine blk_drewN ?_ _ | refine blk_drew ?_ | refine blk_alloc ?_ _)); exact BK537.out) hb); have n1_ := Aside0.mk (blk_below (g := gb546) (o := .cells #[.bool t539, .int .i64 t540, .int .i64 t541, .int .i64 t542, .int .i64 t543, .int .i64 t544] 23 (0, 0)) (by (with_reducible repeat (first | refine blk_drewN ?_ _ | refine blk_drew ?_ | refine blk_alloc ?_ _)); refine blk_far ?_ NB546_562.out _; (with_reducible repeat (first | refine blk_drewN ?_ _ | refine blk_drew ?_ | refine blk_alloc ?_ _)); refine blk_far ?_ NB546_562.out _; (with_reducible repeat (first | refine blk_drewN ?_ _ | refine blk_drew ?_ | refine blk_alloc ?_ _)); refine blk_far ?_ NB546_562.out _; (with_reducible repeat (first | refine blk_drewN ?_ _ | refine blk_drew ?_ | refine blk_alloc ?_ _)); refine blk_far ?_ NB546_562.out _; (with_reducible repeat (first | refine blk_drewN ?_ _ | refine blk_drew ?_ | refine blk_alloc ?_ _)); refine blk_far ?_ NB546_562.out _; (with_reducible repeat (first | refine blk_drewN ?_ _ | refine blk_drew ?_ | refine blk_alloc ?_ _)); refine blk_far ?_ NB546_562.out _; (with_reducible repeat (first | refine blk_drewN ?_ _ | refine blk_drew ?_ | refine blk_alloc ?_ _)); exact BK546.out) hb); have n2_ := Aside0.mk (blk_below (g := gb554) (o := .cells #[.bool t547, .int .i64 t548, .int .i64 t549, .int .i64 t550, .int .i64 t551, .int .i64 t552] 23 (0, 0)) (by (with_reducible repeat (first | refine blk_drewN ?_ _ | refine blk_drew ?_ | refine blk_alloc ?_ _)); refine blk_far ?_ NB554_562.out _; (with_reducible repeat (first | refine blk_drewN ?_ _ | refine blk_drew ?_ | refine blk_alloc ?_ _)); refine blk_far ?_ NB554_562.out _; (with_reducible repeat (first | refine blk_drewN ?_ _ | refine blk_drew ?_ | refine blk_alloc ?_ _)); refine blk_far ?_ NB554_562.out _; (with_reducible repeat (first | refine blk_drewN ?_ _ | refine blk_drew ?_ | refine blk_alloc ?_ _)); refine blk_far ?_ NB554_562.out _; (with_reducible repeat (first | refine blk_drewN ?_ _ | refine blk_drew ?_ | refine blk_alloc ?_ _)); refine blk_far ?_ NB554_562.out _; (with_reducible repeat (first | refine blk_drewN ?_ _ | refine blk_drew ?_ | refine blk_alloc ?_ _)); refine blk_far ?_ NB554_562.out _; (with_reducible repeat (first | refine blk_drewN ?_ _ | refine blk_drew ?_ | refine blk_alloc ?_ _)); exact BK554.out) hb); have n3_ := Aside0.mk (blk_below (g := gb562) (o := .cells #[.bool t555, .int .i64 t556, .int .i64 t557, .int .i64 t558, .int .i64 t559, .int .i64 t560] 23 (0, 0)) (by (with_reducible repeat (first | refine blk_drewN ?_ _ | refine blk_drew ?_ | refine blk_alloc ?_ _)); refine blk_put (cs := #[.bool t555, .int .i64 t556, .int .i64 t557, .int .i64 t558, .int .i64 t559, .int .i64 0]) ?_ 5 _ rfl; refine blk_put (cs := #[.bool t555, .int .i64 t556, .int .i64 t557, .int .i64 t558, .int .i64 0, .int .i64 0]) ?_ 4 _ rfl; refine blk_put (cs := #[.bool t555, .int .i64 t556, .int .i64 t557, .int .i64 0, .int .i64 0, .int .i64 0]) ?_ 3 _ rfl; refine blk_put (cs := #[.bool t555, .int .i64 t556, .int .i64 0, .int .i64 0, .int .i64 0, .int .i64 0]) ?_ 2 _ rfl; refine blk_put (cs := #[.bool t555, .int .i64 0, .int .i64 0, .int .i64 0, .int .i64 0, .int .i64 0]) ?_ 1 _ rfl; refine blk_put (cs := #[.bool false, .int .i64 0, .int .i64 0, .int .i64 0, .int .i64 0, .int .i64 0]) ?_ 0 _ rfl; (with_reducible repeat (first | refine blk_drewN ?_ _ | refine blk_drew ?_ | refine blk_alloc ?_ _)); exact BK562.out) hb); have n4_ := q2_ HB hb; clear BK537; clear BK546; clear BK554; clear BK562; clear HB; have BK537 := n0_; have BK546 := n1_; have BK554 := n2_; have BK562 := n3_; have HB := n4_; clear n0_ n1_ n2_ n3_ n4_; (try clear hb); (try clear hb2); (try clear hk); (try clear hi)) | ((with_reducible refine gate_dst (N := 18) rfl ?_); refine box_event ?hg (N := 18) ?hd (cs := #[.bool false, .int .i64 0, .int .i64 0, .int .i64 0, .int .i64 0, .int .i64 0]) (t := 23) ?hr ?_; (case hd => rfl); (case hg => rfl); (case hr => first | (go_simp; done) | (go_simp; rfl)); intro gb570 hg w53 hbox hb; have n0_ := q1_ BK537 hb; have n1_ := q1_ BK546 hb; have n2_ := q1_ BK554 hb; have n3_ := q1_ BK562 hb; have n4_ := q2_ HB hb; have n5_ := Aside0.mk (hbox); have n6_ := q11_ HB hg; have n7_ := q11_ HB hg; have n8_ := q12_ BK537 hg; have n9_ := q13_ BK537 hg; have n10_ := q12_ BK546 hg; have n11_ := q13_ BK546 hg; have n12_ := q12_ BK554 hg; have n13_ := q13_ BK554 hg; have n14_ := q12_ BK562 hg; have n15_ := q13_ BK562 hg; clear BK537; clear BK546; clear BK554; clear BK562; clear HB; have BK537 := n0_; have BK546 := n1_; have BK554 := n2_; have BK562 := n3_; have HB := n4_; have BK570 := n5_; have GW570 := n6_; have GE570 := n7_; have NB537_570 := n8_; have NB570_537 := n9_; have NB546_570 := n10_; have NB570_546 := n11_; have NB554_570 := n12_; have NB570_554 := n13_; have NB562_570 := n14_; have NB570_562 := n15_; clear n0_ n1_ n2_ n3_ n4_ n5_ n6_ n7_ n8_ n9_ n10_ n11_ n12_ n13_ n14_ n15_; clear hb hbox hg; have hnb54 := NB570_537.out; have hnc54 := NB537_570.out; have hnb55 := NB570_546.out; have hnc55 := NB546_570.out; have hnb56 := NB570_554.out; have hnc56 := NB554_570.out; have hnb57 := NB570_562.out; have hnc57 := NB562_570.out; obtain ⟨hcz58_0, hcz58_1, hcz58_2, hcz58_3, hcz58_4, hcz58_5⟩ := q9_ BK570; obtain ⟨hfz58_0, hfz58_1, hfz58_2, hfz58_3, hfz58_4, hfz58_5⟩ := q10_ BK570; have hnb59 := NB537_554.out; have hnc59 := NB554_537.out; obtain ⟨hcz60_0, hcz60_1, hcz60_2, hcz60_3, hcz60_4, hcz60_5⟩ := q9_ BK537; obtain ⟨hfz60_0, hfz60_1, hfz60_2, hfz60_3, hfz60_4, hfz60_5⟩ := q10_ BK537; obtain ⟨hcz61_0, hcz61_1, hcz61_2, hcz61_3, hcz61_4, hcz61_5⟩ := q9_ BK546; obtain ⟨hfz61_0, hfz61_1, hfz61_2, hfz61_3, hfz61_4, hfz61_5⟩ := q10_ BK546))
         go_ret
         exact ⟨by first | rfl | (simp [errW_none, errW_some] <;> rfl) | (simp [*, errW_none, errW_some] <;> rfl), by repeat (first | (with_reducible first | exact HB.out | apply below_alloc | apply pw_below_drewN | apply below_drew1 | refine below_set ?_ GE537.out | refine below_set ?_ GE546.out | refine below_set ?_ GE554.out | refine below_set ?_ GE562.out | refine below_set ?_ GE570.out) | exact HB.out)⟩
        ·rw [if_neg c42] at H
         have c42b0 : (t567 == (Go.bits .and .i64 (Go.bits .and .i64 (Go.bits .and .i64 a0_4 (wrap64 (a3))) (wrap64 (a4))) 127)) = false := beq_eq_false_iff_ne.mpr c42
         have c42b1 : (t567 != (Go.bits .and .i64 (Go.bits .and .i64 (Go.bits .and .i64 a0_4 (wrap64 (a3))) (wrap64 (a4))) 127)) = true := bne_iff_ne.mpr c42
         exact absurd ((Option.some.inj H).trans hr_) (by decide)
       ·rw [if_neg c41] at H
        have c41b0 : (t569 == 0) = false := beq_eq_false_iff_ne.mpr c41
        have c41b1 : (t569 != 0) = true := bne_iff_ne.mpr c41
        exact absurd ((Option.some.inj H).trans hr_) (by decide)
      ·rw [if_neg c40] at H
       have c40b0 : (t561 == 0) = false := beq_eq_false_iff_ne.mpr c40
       have c40b1 : (t561 != 0) = true := bne_iff_ne.mpr c40
       exact absurd ((Option.some.inj H).trans hr_) (by decide)
     ·replace c39 := Bool.eq_false_iff.mpr c39
      subst c39
      have H1 : (some false) = some r := by rw [if_neg (show ¬ (false = true) by decide)] at H; exact H
      clear H
      have H := H1
      clear H1
      exact absurd ((Option.some.inj H).trans hr_) (by decide)
 ·rw [if_neg c8] at H
  have c8b0 : (t545 == 0) = false := beq_eq_false_iff_ne.mpr c8
  have c8b1 : (t545 != 0) = true := bne_iff_ne.mpr c8
  clear hr_
  obtain rfl := Option.some.inj H
  go_enter Try.func7, Try.ntmps7
  go_wp2_with (first | ((with_reducible refine gate_dst (N := 5) rfl ?_); refine box_event ?hg (N := 5) ?hd (cs := #[.bool a0_0, .int .i64 a0_1, .int .i64 a0_2, .int .i64 a0_3, .int .i64 a0_4, .int .i64 a0_5]) (t := 23) ?hr ?_; (case hd => rfl); (case hg => rfl); (case hr => first | (go_simp; done) | (go_simp; rfl)); intro gb537 hg w62 hbox hb; have n0_ := q2_ HB hb; have n1_ := Aside0.mk (hbox); have n2_ := q11_ HB hg; have n3_ := q11_ HB hg; clear HB; have HB := n0_; have BK537 := n1_; have GW537 := n2_; have GE537 := n3_; clear n0_ n1_ n2_ n3_; clear hb hbox hg) | ((with_reducible refine gate_callee (f := 10) rfl ?_); refine goesL_ (some 20) rfl rfl Try.func10 (by kernel_rfl) rfl #[] rfl (by (try simp only [List.map_toArray, List.map_cons, List.map_nil]); first | done | rfl | (simp only [List.length_drop, List.length_take]; rfl)) ?_; (with_reducible refine (seizinlaw04_head.calls  t538 _ A6.out).mono ?_); rintro e w63 ⟨rfl, hb⟩; refine ⟨_, rfl, ?_⟩; have n0_ := q1_ BK537 hb; have n1_ := q2_ HB hb; clear BK537; clear HB; have BK537 := n0_; have HB := n1_; clear n0_ n1_; (try clear hb); (try clear hb2); (try clear hk); (try clear hi); obtain ⟨hcz64_0, hcz64_1, hcz64_2, hcz64_3, hcz64_4, hcz64_5⟩ := q9_ BK537; obtain ⟨hfz64_0, hfz64_1, hfz64_2, hfz64_3, hfz64_4, hfz64_5⟩ := q10_ BK537) | ((with_reducible refine gate_callee (f := 11) rfl ?_); refine goesL_ (some 25) rfl rfl Try.func11 (by kernel_rfl) rfl #[.agg #[.bool a0_0, .int .i64 a0_1, .int .i64 a0_2, .int .i64 a0_3, .int .i64 a0_4, .int .i64 a0_5], .int .i64 (wrap64 (a1))] rfl (by (try simp only [List.map_toArray, List.map_cons, List.map_nil]); first | done | rfl | (simp only [List.length_drop, List.length_take]; rfl)) ?_; (with_reducible refine (derive_Bounds.calls a0_0 a0_1 a0_2 a0_3 a0_4 a0_5 (wrap64 (a1)) t539 t540 t541 t542 t543 t544 t545 _ A7.out).mono ?_); rintro e w65 ⟨rfl, hb⟩; refine ⟨_, rfl, ?_⟩; have n0_ := q1_ BK537 hb; have n1_ := q2_ HB hb; clear BK537; clear HB; have BK537 := n0_; have HB := n1_; clear n0_ n1_; (try clear hb); (try clear hb2); (try clear hk); (try clear hi)) | ((with_reducible refine gate_dst (N := 12) rfl ?_); refine box_event ?hg (N := 12) ?hd (cs := #[.bool false, .int .i64 0, .int .i64 0, .int .i64 0, .int .i64 0, .int .i64 0]) (t := 23) ?hr ?_; (case hd => rfl); (case hg => rfl); (case hr => first | (go_simp; done) | (go_simp; rfl)); intro gb546 hg w66 hbox hb; have n0_ := q1_ BK537 hb; have n1_ := q2_ HB hb; have n2_ := Aside0.mk (hbox); have n3_ := q11_ HB hg; have n4_ := q11_ HB hg; have n5_ := q12_ BK537 hg; have n6_ := q13_ BK537 hg; clear BK537; clear HB; have BK537 := n0_; have HB := n1_; have BK546 := n2_; have GW546 := n3_; have GE546 := n4_; have NB537_546 := n5_; have NB546_537 := n6_; clear n0_ n1_ n2_ n3_ n4_ n5_ n6_; clear hb hbox hg; have hnb67 := NB546_537.out; have hnc67 := NB537_546.out; obtain ⟨hcz68_0, hcz68_1, hcz68_2, hcz68_3, hcz68_4, hcz68_5⟩ := q9_ BK546; obtain ⟨hfz68_0, hfz68_1, hfz68_2, hfz68_3, hfz68_4, hfz68_5⟩ := q10_ BK546))
  go_ret
  exact ⟨by first | rfl | (simp [errW_none, errW_some] <;> rfl) | (simp [*, errW_none, errW_some] <;> rfl), by repeat (first | (with_reducible first | exact HB.out | apply below_alloc | apply pw_below_drewN | apply below_drew1 | refine below_set ?_ GE537.out | refine below_set ?_ GE546.out) | exact HB.out)⟩

end Go.Proofs.Ytgkmacgckoifaaa.PDr
-- shorter
