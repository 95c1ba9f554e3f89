-- written by a changed copy of the kit's print program, for this claim
import Derived.Test.YtgilagbfgbgplaaPCapx0
import Derived.Test.YtgilagbfgbgplaaPCapx2
namespace Go.Proofs.Ytgilagbfgbgplaa.PCap
open Go.RowKit Go.Proofs.YtgilagbfgbgplaaW.PrintWords Go.Proofs.YtgilagbfgbgplaaW.PrintLast Go.Proofs.YtgilagbfgbgplaaW.PrintMore
attribute [local go_sem] max2_int min2_int max_two min_two max_three min_three max_four min_four   -- for this text's walks alone
set_option linter.unusedVariables false
set_option linter.unusedSimpArgs false

/-! ### seizinlaw02_CapIn: function 12 -/
mutual
def seizinlaw02_CapIn.j0 : Nat → Int → Int → Bool → Bool → Bool → Int → Int → Int → Int → Int → Option (Bool)
  | 0, _, _, _, _, _, _, _, _, _, _ => none
  | k + 1, x1, x2, x7, x20, x373000, x373001, x373002, x373003, x373004, x373005 => if x20 = true then (some x7) else (if (wrap64 ((wrap64 (x373001 - 20)) + (Int.tmod (wrap64 (x1)) 64))) ≥ 0 then (if (wrap64 ((wrap64 (x373001 - 20)) + (Int.tmod (wrap64 (x1)) 64))) ≥ x373001 then (seizinlaw02_CapIn.j1 k x7 (wrap64 ((wrap64 (x373001 - 20)) + (Int.tmod (wrap64 (x1)) 64))) (Int.tmod (wrap64 (x2)) 64) (decide ((wrap64 ((wrap64 (x373001 - 20)) + (Int.tmod (wrap64 (x1)) 64))) ≤ x373002)) x373000 x373001 x373002 x373003 x373004 x373005) else (seizinlaw02_CapIn.j1 k x7 (wrap64 ((wrap64 (x373001 - 20)) + (Int.tmod (wrap64 (x1)) 64))) (Int.tmod (wrap64 (x2)) 64) false x373000 x373001 x373002 x373003 x373004 x373005)) else (seizinlaw02_CapIn.j1 k x7 (wrap64 ((wrap64 (x373001 - 20)) + (Int.tmod (wrap64 (x1)) 64))) (Int.tmod (wrap64 (x2)) 64) false x373000 x373001 x373002 x373003 x373004 x373005))
def seizinlaw02_CapIn.j1 : Nat → Bool → Int → Int → Bool → Bool → Int → Int → Int → Int → Int → Option (Bool)
  | 0, _, _, _, _, _, _, _, _, _, _ => none
  | k + 1, x7, x8, x9, x10, x373000, x373001, x373002, x373003, x373004, x373005 => seizinlaw02_CapIn.l0 k x7 x8 x9 x10 0 x373000 x373001 x373002 x373003 x373004 x373005
def seizinlaw02_CapIn.l0 : Nat → Bool → Int → Int → Bool → Int → Bool → Int → Int → Int → Int → Int → Option (Bool)
  | 0, _, _, _, _, _, _, _, _, _, _, _ => none
  | k + 1, x7, x8, x9, x10, x11, x373000, x373001, x373002, x373003, x373004, x373005 => if x11 < x9 then (if x10 = true then (if (wrap64 (x8 + x11)) ≥ x373001 then (seizinlaw02_CapIn.l0 k x7 x8 x9 (decide ((wrap64 (x8 + x11)) < x373002)) (wrap64 (x11 + 1)) x373000 x373001 x373002 x373003 x373004 x373005) else (seizinlaw02_CapIn.l0 k x7 x8 x9 false (wrap64 (x11 + 1)) x373000 x373001 x373002 x373003 x373004 x373005)) else (seizinlaw02_CapIn.l0 k x7 x8 x9 false (wrap64 (x11 + 1)) x373000 x373001 x373002 x373003 x373004 x373005)) else (if x7 = true then ((cap_In.f x373000 x373001 x373002 x373003 x373004 x373005 x8 x9).bind fun t375 => (some (t375 == x10))) else (some false))
end
def seizinlaw02_CapIn.f (k : Nat) (a0_0 : Bool) (a0_1 : Int) (a0_2 : Int) (a0_3 : Int) (a0_4 : Int) (a0_5 : Int) (a1 : Int) (a2 : Int) : Option (Bool) := (seizinlaw02_head.f).bind fun t373 => ((cap_Right.f a0_0 a0_1 a0_2 a0_3 a0_4 a0_5).bind fun t374 => (if t374 = true then (seizinlaw02_CapIn.j0 k a1 a2 t373 (!a0_0) a0_0 a0_1 a0_2 a0_3 a0_4 a0_5) else (seizinlaw02_CapIn.j0 k a1 a2 t373 true a0_0 a0_1 a0_2 a0_3 a0_4 a0_5)))
theorem seizinlaw02_CapIn.mono_l : ∀ k, (∀ y0 y1 y2 y3 y4 y5 y6 y7 y8 y9, LeO (seizinlaw02_CapIn.j0 k y0 y1 y2 y3 y4 y5 y6 y7 y8 y9) (seizinlaw02_CapIn.j0 (k + 1) y0 y1 y2 y3 y4 y5 y6 y7 y8 y9)) ∧ (∀ y0 y1 y2 y3 y4 y5 y6 y7 y8 y9, LeO (seizinlaw02_CapIn.j1 k y0 y1 y2 y3 y4 y5 y6 y7 y8 y9) (seizinlaw02_CapIn.j1 (k + 1) y0 y1 y2 y3 y4 y5 y6 y7 y8 y9)) ∧ (∀ y0 y1 y2 y3 y4 y5 y6 y7 y8 y9 y10, LeO (seizinlaw02_CapIn.l0 k y0 y1 y2 y3 y4 y5 y6 y7 y8 y9 y10) (seizinlaw02_CapIn.l0 (k + 1) y0 y1 y2 y3 y4 y5 y6 y7 y8 y9 y10))
  | 0 => ⟨fun _ _ _ _ _ _ _ _ _ _ r h => by simp [seizinlaw02_CapIn.j0] at h, fun _ _ _ _ _ _ _ _ _ _ r h => by simp [seizinlaw02_CapIn.j1] at h, fun _ _ _ _ _ _ _ _ _ _ _ r h => by simp [seizinlaw02_CapIn.l0] at h⟩
  | k + 1 => by
    obtain ⟨ih0, ih1, ih2⟩ := seizinlaw02_CapIn.mono_l k
    refine ⟨?_, ?_, ?_⟩
    · intro y0 y1 y2 y3 y4 y5 y6 y7 y8 y9
      unfold seizinlaw02_CapIn.j0
      repeat' first
      | (with_reducible exact ih0 _ _ _ _ _ _ _ _ _ _)
      | (with_reducible exact ih1 _ _ _ _ _ _ _ _ _ _)
      | (with_reducible exact ih2 _ _ _ _ _ _ _ _ _ _ _)
      | (with_reducible exact LeO.refl _)
      | (with_reducible exact LeO.none _)
      | (with_reducible refine LeO.ite ?_ ?_)
      | (with_reducible refine LeO.bind ?_ (fun _ => ?_))
      | exact ih0 _ _ _ _ _ _ _ _ _ _
      | exact ih1 _ _ _ _ _ _ _ _ _ _
      | exact ih2 _ _ _ _ _ _ _ _ _ _ _
      | exact LeO.none _
      | refine LeO.ite ?_ ?_
      | refine LeO.bind ?_ (fun _ => ?_)
    · intro y0 y1 y2 y3 y4 y5 y6 y7 y8 y9
      unfold seizinlaw02_CapIn.j1
      repeat' first
      | (with_reducible exact ih0 _ _ _ _ _ _ _ _ _ _)
      | (with_reducible exact ih1 _ _ _ _ _ _ _ _ _ _)
      | (with_reducible exact ih2 _ _ _ _ _ _ _ _ _ _ _)
      | (with_reducible exact LeO.refl _)
      | (with_reducible exact LeO.none _)
      | (with_reducible refine LeO.ite ?_ ?_)
      | (with_reducible refine LeO.bind ?_ (fun _ => ?_))
      | exact ih0 _ _ _ _ _ _ _ _ _ _
      | exact ih1 _ _ _ _ _ _ _ _ _ _
      | exact ih2 _ _ _ _ _ _ _ _ _ _ _
      | exact LeO.none _
      | refine LeO.ite ?_ ?_
      | refine LeO.bind ?_ (fun _ => ?_)
    · intro y0 y1 y2 y3 y4 y5 y6 y7 y8 y9 y10
      unfold seizinlaw02_CapIn.l0
      repeat' first
      | (with_reducible exact ih0 _ _ _ _ _ _ _ _ _ _)
      | (with_reducible exact ih1 _ _ _ _ _ _ _ _ _ _)
      | (with_reducible exact ih2 _ _ _ _ _ _ _ _ _ _ _)
      | (with_reducible exact LeO.refl _)
      | (with_reducible exact LeO.none _)
      | (with_reducible refine LeO.ite ?_ ?_)
      | (with_reducible refine LeO.bind ?_ (fun _ => ?_))
      | exact ih0 _ _ _ _ _ _ _ _ _ _
      | exact ih1 _ _ _ _ _ _ _ _ _ _
      | exact ih2 _ _ _ _ _ _ _ _ _ _ _
      | exact LeO.none _
      | refine LeO.ite ?_ ?_
      | refine LeO.bind ?_ (fun _ => ?_)
theorem seizinlaw02_CapIn.mono : ∀ a0 a1 a2 a3 a4 a5 a6 a7 k, LeO (seizinlaw02_CapIn.f k a0 a1 a2 a3 a4 a5 a6 a7) (seizinlaw02_CapIn.f (k + 1) a0 a1 a2 a3 a4 a5 a6 a7) := by
  intro a0 a1 a2 a3 a4 a5 a6 a7 k
  obtain ⟨ih0, ih1, ih2⟩ := seizinlaw02_CapIn.mono_l k
  unfold seizinlaw02_CapIn.f
  repeat' first
      | (with_reducible exact ih0 _ _ _ _ _ _ _ _ _ _)
      | (with_reducible exact ih1 _ _ _ _ _ _ _ _ _ _)
      | (with_reducible exact ih2 _ _ _ _ _ _ _ _ _ _ _)
      | (with_reducible exact LeO.refl _)
      | (with_reducible exact LeO.none _)
      | (with_reducible refine LeO.ite ?_ ?_)
      | (with_reducible refine LeO.bind ?_ (fun _ => ?_))
      | exact ih0 _ _ _ _ _ _ _ _ _ _
      | exact ih1 _ _ _ _ _ _ _ _ _ _
      | exact ih2 _ _ _ _ _ _ _ _ _ _ _
      | exact LeO.none _
      | refine LeO.ite ?_ ?_
      | refine LeO.bind ?_ (fun _ => ?_)
set_option maxHeartbeats 8000000 in
set_option maxRecDepth 100000 in
theorem seizinlaw02_CapIn.calls (k : Nat) (a0_0 : Bool) (a0_1 : Int) (a0_2 : Int) (a0_3 : Int) (a0_4 : Int) (a0_5 : Int) (a1 : Int) (a2 : Int) (r : Bool) (w : World) (h : seizinlaw02_CapIn.f k a0_0 a0_1 a0_2 a0_3 a0_4 a0_5 a1 a2 = some r) (hr_ : r = true) :
    Calls Try.prog 12 #[.agg #[.bool a0_0, .int .i64 a0_1, .int .i64 a0_2, .int .i64 a0_3, .int .i64 a0_4, .int .i64 a0_5], .int .u16 a1, .int .u8 a2] w fun e w' => e = .returned (.bool r) ∧ Below w.heap.size w w' := by
  have hu39 := Try.underlying39
  have HB := Aside0.mk (Below.refl w.heap.size w)
  have H : ((seizinlaw02_head.f).bind fun t373 => ((cap_Right.f a0_0 a0_1 a0_2 a0_3 a0_4 a0_5).bind fun t374 => (if t374 = true then (seizinlaw02_CapIn.j0 k a1 a2 t373 (!a0_0) a0_0 a0_1 a0_2 a0_3 a0_4 a0_5) else (seizinlaw02_CapIn.j0 k a1 a2 t373 true a0_0 a0_1 a0_2 a0_3 a0_4 a0_5)))) = some r := h
  clear h
  replace H := Option.bind_eq_some_iff.mp H
  obtain ⟨t373, A40, H⟩ := H
  replace H : ((cap_Right.f a0_0 a0_1 a0_2 a0_3 a0_4 a0_5).bind fun t374 => (if t374 = true then (seizinlaw02_CapIn.j0 k a1 a2 t373 (!a0_0) a0_0 a0_1 a0_2 a0_3 a0_4 a0_5) else (seizinlaw02_CapIn.j0 k a1 a2 t373 true a0_0 a0_1 a0_2 a0_3 a0_4 a0_5))) = some r := H
  have A4 := Aside0.mk A40
  clear A40
  have HC5 := Aside0.mk H
  clear H
  go_enter Try.func12, Try.ntmps12
  go_upto_region 2 with (first | ((with_reducible refine gate_dst (N := 3) rfl ?_); refine box_event ?hg (N := 3) ?hd (cs := #[.bool a0_0, .int .i64 a0_1, .int .i64 a0_2, .int .i64 a0_3, .int .i64 a0_4, .int .i64 a0_5]) (t := 39) ?hr ?_; (case hd => rfl); (case hg => rfl); (case hr => first | (go_simp; done) | (go_simp; rfl)); intro gb372 hg w6 hbox hb; have n0_ := Aside0.mk (below_step (by repeat (first | (with_reducible first | exact HB.out | apply below_alloc | apply pw_below_drewN | apply below_drew1) | exact HB.out)) hb); have n1_ := Aside0.mk (hbox); have n2_ := Aside0.mk ((by rw [hg]; exact (below_size (by repeat (first | (with_reducible first | exact HB.out | apply below_alloc | apply pw_below_drewN | apply below_drew1) | exact HB.out))) : w.heap.size ≤ gb372)); have n3_ := Aside0.mk ((by rw [hg]; exact (below_size (by repeat (first | (with_reducible first | exact HB.out | apply below_alloc | apply pw_below_drewN | apply below_drew1) | exact HB.out))) : w.heap.size ≤ gb372)); clear HB; have HB := n0_; have BK372 := n1_; have GW372 := n2_; have GE372 := n3_; clear n0_ n1_ n2_ n3_; clear hb hbox hg) | ((with_reducible refine gate_callee (f := 30) rfl ?_); refine goesL_ (some 12) rfl rfl Try.func30 (by kernel_rfl) rfl #[] rfl (by (try simp only [List.map_toArray, List.map_cons, List.map_nil]); first | done | rfl | (simp only [List.length_drop, List.length_take]; rfl)) ?_; (with_reducible refine (seizinlaw02_head.calls  t373 _ A4.out).mono ?_); rintro e w7 ⟨rfl, hb⟩; refine ⟨_, rfl, ?_⟩; have n0_ := Aside0.mk (blk_below (g := gb372) (o := .cells #[.bool a0_0, .int .i64 a0_1, .int .i64 a0_2, .int .i64 a0_3, .int .i64 a0_4, .int .i64 a0_5] 39 (0, 0)) (by (with_reducible repeat (first | refine blk_drewN ?_ _ | refine blk_drew ?_ | refine blk_alloc ?_ _)); exact BK372.out) hb); have n1_ := Aside0.mk (below_step (by repeat (first | (with_reducible first | exact HB.out | apply below_alloc | apply pw_below_drewN | apply below_drew1 | refine below_set ?_ GE372.out) | exact HB.out)) hb); clear BK372; clear HB; have BK372 := n0_; have HB := n1_; clear n0_ n1_; (try clear hb); (try clear hb2); (try clear hk); (try clear hi)))
  (try simp only [Act.put, List.setIfInBounds_toArray, List.set_cons_zero, List.set_cons_succ])
  go_cut [20] (fun v20 wc => ∃ (kq : Nat) (x20_4 : Bool), v20 = .bool x20_4 ∧ Aside0 (seizinlaw02_CapIn.j0 kq a1 a2 t373 x20_4 a0_0 a0_1 a0_2 a0_3 a0_4 a0_5 = some r) ∧ Aside0 (kq ≤ k) ∧ Aside0 (wc.heap[gb372]? = some (.cells #[.bool a0_0, .int .i64 a0_1, .int .i64 a0_2, .int .i64 a0_3, .int .i64 a0_4, .int .i64 a0_5] 39 (0, 0))) ∧ Aside0 (Below w.heap.size w wc))
  case first =>
    have H := HC5.out
    clear HC5
    replace H := Option.bind_eq_some_iff.mp H
    obtain ⟨t374, A80, H⟩ := H
    replace H : (if t374 = true then (seizinlaw02_CapIn.j0 k a1 a2 t373 (!a0_0) a0_0 a0_1 a0_2 a0_3 a0_4 a0_5) else (seizinlaw02_CapIn.j0 k a1 a2 t373 true a0_0 a0_1 a0_2 a0_3 a0_4 a0_5)) = some r := H
    have A8 := Aside0.mk A80
    clear A80
    by_cases c9 : t374 = true
    · subst c9
      have H1 : (seizinlaw02_CapIn.j0 k a1 a2 t373 (!a0_0) a0_0 a0_1 a0_2 a0_3 a0_4 a0_5) = some r := by rw [if_pos rfl] at H; exact H
      clear H
      have H := H1
      clear H1
      have H' := Aside0.mk H
      clear H
      have hcz10_0 : w7.cell? ⟨gb372, 0, none⟩ = some (.bool a0_0) := (blk_cell BK372.out 0).trans rfl
      have hcz10_1 : w7.cell? ⟨gb372, 1, none⟩ = some (.int .i64 a0_1) := (blk_cell BK372.out 1).trans rfl
      have hcz10_2 : w7.cell? ⟨gb372, 2, none⟩ = some (.int .i64 a0_2) := (blk_cell BK372.out 2).trans rfl
      have hcz10_3 : w7.cell? ⟨gb372, 3, none⟩ = some (.int .i64 a0_3) := (blk_cell BK372.out 3).trans rfl
      have hcz10_4 : w7.cell? ⟨gb372, 4, none⟩ = some (.int .i64 a0_4) := (blk_cell BK372.out 4).trans rfl
      have hcz10_5 : w7.cell? ⟨gb372, 5, none⟩ = some (.int .i64 a0_5) := (blk_cell BK372.out 5).trans rfl
      have hfz10_0 := blk_frozen BK372.out 0
      have hfz10_1 := blk_frozen BK372.out 1
      have hfz10_2 := blk_frozen BK372.out 2
      have hfz10_3 := blk_frozen BK372.out 3
      have hfz10_4 := blk_frozen BK372.out 4
      have hfz10_5 := blk_frozen BK372.out 5
      go_wp2_with (first | ((with_reducible refine gate_callee (f := 31) rfl ?_); refine goesL_ (some 14) rfl rfl Try.func31 (by kernel_rfl) rfl #[.agg #[.bool a0_0, .int .i64 a0_1, .int .i64 a0_2, .int .i64 a0_3, .int .i64 a0_4, .int .i64 a0_5]] rfl (by (try simp only [List.map_toArray, List.map_cons, List.map_nil]); first | done | rfl | (simp only [List.length_drop, List.length_take]; rfl)) ?_; (with_reducible refine (cap_Right.calls a0_0 a0_1 a0_2 a0_3 a0_4 a0_5 true _ A8.out).mono ?_); rintro e w11 ⟨rfl, hb⟩; refine ⟨_, rfl, ?_⟩; have n0_ := Aside0.mk (blk_below (g := gb372) (o := .cells #[.bool a0_0, .int .i64 a0_1, .int .i64 a0_2, .int .i64 a0_3, .int .i64 a0_4, .int .i64 a0_5] 39 (0, 0)) (by (with_reducible repeat (first | refine blk_drewN ?_ _ | refine blk_drew ?_ | refine blk_alloc ?_ _)); exact BK372.out) hb); have n1_ := Aside0.mk (below_step (by repeat (first | (with_reducible first | exact HB.out | apply below_alloc | apply pw_below_drewN | apply below_drew1 | refine below_set ?_ GE372.out) | exact HB.out)) hb); clear BK372; clear HB; have BK372 := n0_; have HB := n1_; clear n0_ n1_; (try clear hb); (try clear hb2); (try clear hk); (try clear hi); have hcz12_0 : w11.cell? ⟨gb372, 0, none⟩ = some (.bool a0_0) := (blk_cell BK372.out 0).trans rfl; have hcz12_1 : w11.cell? ⟨gb372, 1, none⟩ = some (.int .i64 a0_1) := (blk_cell BK372.out 1).trans rfl; have hcz12_2 : w11.cell? ⟨gb372, 2, none⟩ = some (.int .i64 a0_2) := (blk_cell BK372.out 2).trans rfl; have hcz12_3 : w11.cell? ⟨gb372, 3, none⟩ = some (.int .i64 a0_3) := (blk_cell BK372.out 3).trans rfl; have hcz12_4 : w11.cell? ⟨gb372, 4, none⟩ = some (.int .i64 a0_4) := (blk_cell BK372.out 4).trans rfl; have hcz12_5 : w11.cell? ⟨gb372, 5, none⟩ = some (.int .i64 a0_5) := (blk_cell BK372.out 5).trans rfl; have hfz12_0 := blk_frozen BK372.out 0; have hfz12_1 := blk_frozen BK372.out 1; have hfz12_2 := blk_frozen BK372.out 2; have hfz12_3 := blk_frozen BK372.out 3; have hfz12_4 := blk_frozen BK372.out 4; have hfz12_5 := blk_frozen BK372.out 5))
      go_meet
      case rel => exact ⟨_, (!a0_0), (by first | rfl | (simp; done) | (simp [*]; done)), H', ⟨by first | omega | exact Nat.le_refl _⟩, ⟨by (with_reducible repeat (first | refine blk_drewN ?_ _ | refine blk_drew ?_ | refine blk_alloc ?_ _)); exact BK372.out⟩, ⟨by repeat (first | (with_reducible first | exact HB.out | apply below_alloc | apply pw_below_drewN | apply below_drew1 | refine below_set ?_ GE372.out) | exact HB.out)⟩⟩
    · replace c9 := Bool.eq_false_iff.mpr c9
      subst c9
      have H1 : (seizinlaw02_CapIn.j0 k a1 a2 t373 true a0_0 a0_1 a0_2 a0_3 a0_4 a0_5) = some r := by rw [if_neg (show ¬ (false = true) by decide)] at H; exact H
      clear H
      have H := H1
      clear H1
      have H' := Aside0.mk H
      clear H
      have hcz13_0 : w7.cell? ⟨gb372, 0, none⟩ = some (.bool a0_0) := (blk_cell BK372.out 0).trans rfl
      have hcz13_1 : w7.cell? ⟨gb372, 1, none⟩ = some (.int .i64 a0_1) := (blk_cell BK372.out 1).trans rfl
      have hcz13_2 : w7.cell? ⟨gb372, 2, none⟩ = some (.int .i64 a0_2) := (blk_cell BK372.out 2).trans rfl
      have hcz13_3 : w7.cell? ⟨gb372, 3, none⟩ = some (.int .i64 a0_3) := (blk_cell BK372.out 3).trans rfl
      have hcz13_4 : w7.cell? ⟨gb372, 4, none⟩ = some (.int .i64 a0_4) := (blk_cell BK372.out 4).trans rfl
      have hcz13_5 : w7.cell? ⟨gb372, 5, none⟩ = some (.int .i64 a0_5) := (blk_cell BK372.out 5).trans rfl
      have hfz13_0 := blk_frozen BK372.out 0
      have hfz13_1 := blk_frozen BK372.out 1
      have hfz13_2 := blk_frozen BK372.out 2
      have hfz13_3 := blk_frozen BK372.out 3
      have hfz13_4 := blk_frozen BK372.out 4
      have hfz13_5 := blk_frozen BK372.out 5
      go_wp2_with (first | ((with_reducible refine gate_callee (f := 31) rfl ?_); refine goesL_ (some 14) rfl rfl Try.func31 (by kernel_rfl) rfl #[.agg #[.bool a0_0, .int .i64 a0_1, .int .i64 a0_2, .int .i64 a0_3, .int .i64 a0_4, .int .i64 a0_5]] rfl (by (try simp only [List.map_toArray, List.map_cons, List.map_nil]); first | done | rfl | (simp only [List.length_drop, List.length_take]; rfl)) ?_; (with_reducible refine (cap_Right.calls a0_0 a0_1 a0_2 a0_3 a0_4 a0_5 false _ A8.out).mono ?_); rintro e w14 ⟨rfl, hb⟩; refine ⟨_, rfl, ?_⟩; have n0_ := Aside0.mk (blk_below (g := gb372) (o := .cells #[.bool a0_0, .int .i64 a0_1, .int .i64 a0_2, .int .i64 a0_3, .int .i64 a0_4, .int .i64 a0_5] 39 (0, 0)) (by (with_reducible repeat (first | refine blk_drewN ?_ _ | refine blk_drew ?_ | refine blk_alloc ?_ _)); exact BK372.out) hb); have n1_ := Aside0.mk (below_step (by repeat (first | (with_reducible first | exact HB.out | apply below_alloc | apply pw_below_drewN | apply below_drew1 | refine below_set ?_ GE372.out) | exact HB.out)) hb); clear BK372; clear HB; have BK372 := n0_; have HB := n1_; clear n0_ n1_; (try clear hb); (try clear hb2); (try clear hk); (try clear hi)))
      go_meet
      case rel => exact ⟨_, (true), (by first | rfl | (simp; done) | (simp [*]; done)), H', ⟨by first | omega | exact Nat.le_refl _⟩, ⟨by (with_reducible repeat (first | refine blk_drewN ?_ _ | refine blk_drew ?_ | refine blk_alloc ?_ _)); exact BK372.out⟩, ⟨by repeat (first | (with_reducible first | exact HB.out | apply below_alloc | apply pw_below_drewN | apply below_drew1 | refine below_set ?_ GE372.out) | exact HB.out)⟩⟩
  case rest =>
    clear HC5
    try clear c1
    try clear p2
    try clear c3
    try clear c9
    try clear c12
    try clear hcz10_0
    try clear hcz10_1
    try clear hcz10_2
    try clear hcz10_3
    try clear hcz10_4
    try clear hcz10_5
    try clear hcz12_0
    try clear hcz12_1
    try clear hcz12_2
    try clear hcz12_3
    try clear hcz12_4
    try clear hcz12_5
    try clear hcz13_0
    try clear hcz13_1
    try clear hcz13_2
    try clear hcz13_3
    try clear hcz13_4
    try clear hcz13_5
    try clear hfz10_0
    try clear hfz10_1
    try clear hfz10_2
    try clear hfz10_3
    try clear hfz10_4
    try clear hfz10_5
    try clear hfz12_0
    try clear hfz12_1
    try clear hfz12_2
    try clear hfz12_3
    try clear hfz12_4
    try clear hfz12_5
    try clear hfz13_0
    try clear hfz13_1
    try clear hfz13_2
    try clear hfz13_3
    try clear hfz13_4
    try clear hfz13_5
    obtain ⟨kq, x20_4, rfl, HA, HJ4, BK372, HB⟩ := hcut
    cases kq with
    | zero => exact absurd HA.out (by simp [seizinlaw02_CapIn.j0])
    | succ kj4 =>
      have H := HA.out
      clear HA
      simp only [seizinlaw02_CapIn.j0] at H
      by_cases c15 : x20_4 = true
      · subst c15
        have H1 : (some t373) = some r := by rw [if_pos rfl] at H; exact H
        clear H
        have H := H1
        clear H1
        clear hr_
        obtain rfl := Option.some.inj H
        go_wp2
        go_ret
        exact ⟨by first | rfl | (simp [errW_none, errW_some] <;> rfl) | (simp [*, errW_none, errW_some] <;> rfl), by repeat (first | (with_reducible first | exact HB.out | apply below_alloc | apply pw_below_drewN | apply below_drew1 | refine below_set ?_ GE372.out) | exact HB.out)⟩
      · replace c15 := Bool.eq_false_iff.mpr c15
        subst c15
        have H1 : (if (wrap64 ((wrap64 (a0_1 - 20)) + (Int.tmod (wrap64 (a1)) 64))) ≥ 0 then (if (wrap64 ((wrap64 (a0_1 - 20)) + (Int.tmod (wrap64 (a1)) 64))) ≥ a0_1 then (seizinlaw02_CapIn.j1 kj4 t373 (wrap64 ((wrap64 (a0_1 - 20)) + (Int.tmod (wrap64 (a1)) 64))) (Int.tmod (wrap64 (a2)) 64) (decide ((wrap64 ((wrap64 (a0_1 - 20)) + (Int.tmod (wrap64 (a1)) 64))) ≤ a0_2)) a0_0 a0_1 a0_2 a0_3 a0_4 a0_5) else (seizinlaw02_CapIn.j1 kj4 t373 (wrap64 ((wrap64 (a0_1 - 20)) + (Int.tmod (wrap64 (a1)) 64))) (Int.tmod (wrap64 (a2)) 64) false a0_0 a0_1 a0_2 a0_3 a0_4 a0_5)) else (seizinlaw02_CapIn.j1 kj4 t373 (wrap64 ((wrap64 (a0_1 - 20)) + (Int.tmod (wrap64 (a1)) 64))) (Int.tmod (wrap64 (a2)) 64) false a0_0 a0_1 a0_2 a0_3 a0_4 a0_5)) = some r := by rw [if_neg (show ¬ (false = true) by decide)] at H; exact H
        clear H
        have H := H1
        clear H1
        have HC16 := Aside0.mk H
        clear H
        have hcz17_0 : wc.cell? ⟨gb372, 0, none⟩ = some (.bool a0_0) := (blk_cell BK372.out 0).trans rfl
        have hcz17_1 : wc.cell? ⟨gb372, 1, none⟩ = some (.int .i64 a0_1) := (blk_cell BK372.out 1).trans rfl
        have hcz17_2 : wc.cell? ⟨gb372, 2, none⟩ = some (.int .i64 a0_2) := (blk_cell BK372.out 2).trans rfl
        have hcz17_3 : wc.cell? ⟨gb372, 3, none⟩ = some (.int .i64 a0_3) := (blk_cell BK372.out 3).trans rfl
        have hcz17_4 : wc.cell? ⟨gb372, 4, none⟩ = some (.int .i64 a0_4) := (blk_cell BK372.out 4).trans rfl
        have hcz17_5 : wc.cell? ⟨gb372, 5, none⟩ = some (.int .i64 a0_5) := (blk_cell BK372.out 5).trans rfl
        have hfz17_0 := blk_frozen BK372.out 0
        have hfz17_1 := blk_frozen BK372.out 1
        have hfz17_2 := blk_frozen BK372.out 2
        have hfz17_3 := blk_frozen BK372.out 3
        have hfz17_4 := blk_frozen BK372.out 4
        have hfz17_5 := blk_frozen BK372.out 5
        go_upto_region 6 with (fail)
        go_cut [10] (fun v10 wc => ∃ (kq : Nat) (x10_15 : Bool), v10 = .bool x10_15 ∧ Aside0 (seizinlaw02_CapIn.j1 kq t373 (wrap64 ((wrap64 (a0_1 - 20)) + (Int.tmod (wrap64 (a1)) 64))) (Int.tmod (wrap64 (a2)) 64) x10_15 a0_0 a0_1 a0_2 a0_3 a0_4 a0_5 = some r) ∧ Aside0 (kq ≤ kj4) ∧ Aside0 (wc.heap[gb372]? = some (.cells #[.bool a0_0, .int .i64 a0_1, .int .i64 a0_2, .int .i64 a0_3, .int .i64 a0_4, .int .i64 a0_5] 39 (0, 0))) ∧ Aside0 (Below w.heap.size w wc))
        case first =>
          have H := HC16.out
          clear HC16
          by_cases c18 : (wrap64 ((wrap64 (a0_1 - 20)) + (Int.tmod (wrap64 (a1)) 64))) ≥ 0
          · rw [if_pos c18] at H
            have c18b0 : decide (0 ≤ (wrap64 ((wrap64 (a0_1 - 20)) + (Int.tmod (wrap64 (a1)) 64)))) = true := decide_eq_true c18
            clear c18
            (first | rw [c18b0] | (simp only [i64_w, i32_w]; rw [c18b0]) | skip)
            by_cases c19 : (wrap64 ((wrap64 (a0_1 - 20)) + (Int.tmod (wrap64 (a1)) 64))) ≥ a0_1
            · rw [if_pos c19] at H
              have c19b0 : decide (a0_1 ≤ (wrap64 ((wrap64 (a0_1 - 20)) + (Int.tmod (wrap64 (a1)) 64)))) = true := decide_eq_true c19
              clear c19
              have H' := Aside0.mk H
              clear H
              have hcz20_0 : wc.cell? ⟨gb372, 0, none⟩ = some (.bool a0_0) := (blk_cell BK372.out 0).trans rfl
              have hcz20_1 : wc.cell? ⟨gb372, 1, none⟩ = some (.int .i64 a0_1) := (blk_cell BK372.out 1).trans rfl
              have hcz20_2 : wc.cell? ⟨gb372, 2, none⟩ = some (.int .i64 a0_2) := (blk_cell BK372.out 2).trans rfl
              have hcz20_3 : wc.cell? ⟨gb372, 3, none⟩ = some (.int .i64 a0_3) := (blk_cell BK372.out 3).trans rfl
              have hcz20_4 : wc.cell? ⟨gb372, 4, none⟩ = some (.int .i64 a0_4) := (blk_cell BK372.out 4).trans rfl
              have hcz20_5 : wc.cell? ⟨gb372, 5, none⟩ = some (.int .i64 a0_5) := (blk_cell BK372.out 5).trans rfl
              have hfz20_0 := blk_frozen BK372.out 0
              have hfz20_1 := blk_frozen BK372.out 1
              have hfz20_2 := blk_frozen BK372.out 2
              have hfz20_3 := blk_frozen BK372.out 3
              have hfz20_4 := blk_frozen BK372.out 4
              have hfz20_5 := blk_frozen BK372.out 5
              go_wp2
              go_meet
              case rel => exact ⟨_, (decide ((wrap64 ((wrap64 (a0_1 - 20)) + (Int.tmod (wrap64 (a1)) 64))) ≤ a0_2)), (by first | rfl | (simp; done) | (simp [*]; done)), H', ⟨by have := HJ4.out; first | omega | exact Nat.le_refl _⟩, ⟨by (with_reducible repeat (first | refine blk_drewN ?_ _ | refine blk_drew ?_ | refine blk_alloc ?_ _)); exact BK372.out⟩, ⟨by repeat (first | (with_reducible first | exact HB.out | apply below_alloc | apply pw_below_drewN | apply below_drew1 | refine below_set ?_ GE372.out) | exact HB.out)⟩⟩
            · rw [if_neg c19] at H
              have c19b0 : decide (a0_1 ≤ (wrap64 ((wrap64 (a0_1 - 20)) + (Int.tmod (wrap64 (a1)) 64)))) = false := decide_eq_false c19
              clear c19
              have H' := Aside0.mk H
              clear H
              have hcz21_0 : wc.cell? ⟨gb372, 0, none⟩ = some (.bool a0_0) := (blk_cell BK372.out 0).trans rfl
              have hcz21_1 : wc.cell? ⟨gb372, 1, none⟩ = some (.int .i64 a0_1) := (blk_cell BK372.out 1).trans rfl
              have hcz21_2 : wc.cell? ⟨gb372, 2, none⟩ = some (.int .i64 a0_2) := (blk_cell BK372.out 2).trans rfl
              have hcz21_3 : wc.cell? ⟨gb372, 3, none⟩ = some (.int .i64 a0_3) := (blk_cell BK372.out 3).trans rfl
              have hcz21_4 : wc.cell? ⟨gb372, 4, none⟩ = some (.int .i64 a0_4) := (blk_cell BK372.out 4).trans rfl
              have hcz21_5 : wc.cell? ⟨gb372, 5, none⟩ = some (.int .i64 a0_5) := (blk_cell BK372.out 5).trans rfl
              have hfz21_0 := blk_frozen BK372.out 0
              have hfz21_1 := blk_frozen BK372.out 1
              have hfz21_2 := blk_frozen BK372.out 2
              have hfz21_3 := blk_frozen BK372.out 3
              have hfz21_4 := blk_frozen BK372.out 4
              have hfz21_5 := blk_frozen BK372.out 5
              go_wp2
              go_meet
              case rel => exact ⟨_, (false), (by first | rfl | (simp; done) | (simp [*]; done)), H', ⟨by have := HJ4.out; first | omega | exact Nat.le_refl _⟩, ⟨by (with_reducible repeat (first | refine blk_drewN ?_ _ | refine blk_drew ?_ | refine blk_alloc ?_ _)); exact BK372.out⟩, ⟨by repeat (first | (with_reducible first | exact HB.out | apply below_alloc | apply pw_below_drewN | apply below_drew1 | refine below_set ?_ GE372.out) | exact HB.out)⟩⟩
          · rw [if_neg c18] at H
            have c18b0 : decide (0 ≤ (wrap64 ((wrap64 (a0_1 - 20)) + (Int.tmod (wrap64 (a1)) 64)))) = false := decide_eq_false c18
            clear c18
            (first | rw [c18b0] | (simp only [i64_w, i32_w]; rw [c18b0]) | skip)
            have H' := Aside0.mk H
            clear H
            go_wp2
            go_meet
            case rel => exact ⟨_, (false), (by first | rfl | (simp; done) | (simp [*]; done)), H', ⟨by have := HJ4.out; first | omega | exact Nat.le_refl _⟩, ⟨by (with_reducible repeat (first | refine blk_drewN ?_ _ | refine blk_drew ?_ | refine blk_alloc ?_ _)); exact BK372.out⟩, ⟨by repeat (first | (with_reducible first | exact HB.out | apply below_alloc | apply pw_below_drewN | apply below_drew1 | refine below_set ?_ GE372.out) | exact HB.out)⟩⟩
        case rest =>
          clear HC16
          try clear c1
          try clear p2
          try clear c3
          try clear p6
          try clear c9
          try clear c12
          try clear c15
          try clear c18
          try clear c18b0
          try clear c19
          try clear c19b0
          try clear hcz10_0
          try clear hcz10_1
          try clear hcz10_2
          try clear hcz10_3
          try clear hcz10_4
          try clear hcz10_5
          try clear hcz12_0
          try clear hcz12_1
          try clear hcz12_2
          try clear hcz12_3
          try clear hcz12_4
          try clear hcz12_5
          try clear hcz13_0
          try clear hcz13_1
          try clear hcz13_2
          try clear hcz13_3
          try clear hcz13_4
          try clear hcz13_5
          try clear hcz17_0
          try clear hcz17_1
          try clear hcz17_2
          try clear hcz17_3
          try clear hcz17_4
          try clear hcz17_5
          try clear hcz20_0
          try clear hcz20_1
          try clear hcz20_2
          try clear hcz20_3
          try clear hcz20_4
          try clear hcz20_5
          try clear hcz21_0
          try clear hcz21_1
          try clear hcz21_2
          try clear hcz21_3
          try clear hcz21_4
          try clear hcz21_5
          try clear hfz10_0
          try clear hfz10_1
          try clear hfz10_2
          try clear hfz10_3
          try clear hfz10_4
          try clear hfz10_5
          try clear hfz12_0
          try clear hfz12_1
          try clear hfz12_2
          try clear hfz12_3
          try clear hfz12_4
          try clear hfz12_5
          try clear hfz13_0
          try clear hfz13_1
          try clear hfz13_2
          try clear hfz13_3
          try clear hfz13_4
          try clear hfz13_5
          try clear hfz17_0
          try clear hfz17_1
          try clear hfz17_2
          try clear hfz17_3
          try clear hfz17_4
          try clear hfz17_5
          try clear hfz20_0
          try clear hfz20_1
          try clear hfz20_2
          try clear hfz20_3
          try clear hfz20_4
          try clear hfz20_5
          try clear hfz21_0
          try clear hfz21_1
          try clear hfz21_2
          try clear hfz21_3
          try clear hfz21_4
          try clear hfz21_5
          try clear p2
          obtain ⟨kq, x10_15, rfl, HA, HJ15, BK372, HB⟩ := hcut
          cases kq with
          | zero => exact absurd HA.out (by simp [seizinlaw02_CapIn.j1])
          | succ kj15 =>
            have H := HA.out
            clear HA
            simp only [seizinlaw02_CapIn.j1] at H
            have H' := Aside0.mk H
            clear H
            go_wp2
            go_loopg [10, 11] kj15 (fun kq v10 v11 w' => ∃ (x10_3 : Bool) (x11_3 : Int), v10 = .bool x10_3 ∧ v11 = .int .i64 x11_3 ∧ Aside0 (seizinlaw02_CapIn.l0 kq t373 (wrap64 ((wrap64 (a0_1 - 20)) + (Int.tmod (wrap64 (a1)) 64))) (Int.tmod (wrap64 (a2)) 64) x10_3 x11_3 a0_0 a0_1 a0_2 a0_3 a0_4 a0_5 = some r) ∧ Aside0 (kq ≤ kj15) ∧ Aside0 (w'.heap[gb372]? = some (.cells #[.bool a0_0, .int .i64 a0_1, .int .i64 a0_2, .int .i64 a0_3, .int .i64 a0_4, .int .i64 a0_5] 39 (0, 0))) ∧ Aside0 (Below w.heap.size w w'))
            case atStart => exact ⟨(x10_15), (0), (by first | rfl | (simp; done) | (simp [*]; done)), (by first | rfl | (simp; done) | (simp [*]; done)), H', ⟨Nat.le_refl _⟩, ⟨by (with_reducible repeat (first | refine blk_drewN ?_ _ | refine blk_drew ?_ | refine blk_alloc ?_ _)); exact BK372.out⟩, ⟨by repeat (first | (with_reducible first | exact HB.out | apply below_alloc | apply pw_below_drewN | apply below_drew1 | refine below_set ?_ GE372.out) | exact HB.out)⟩⟩
            case round =>
              clear H'
              try clear c1
              try clear p2
              try clear c3
              try clear p6
              try clear c9
              try clear c12
              try clear c15
              try clear c18
              try clear c18b0
              try clear c19
              try clear c19b0
              try clear hcz10_0
              try clear hcz10_1
              try clear hcz10_2
              try clear hcz10_3
              try clear hcz10_4
              try clear hcz10_5
              try clear hcz12_0
              try clear hcz12_1
              try clear hcz12_2
              try clear hcz12_3
              try clear hcz12_4
              try clear hcz12_5
              try clear hcz13_0
              try clear hcz13_1
              try clear hcz13_2
              try clear hcz13_3
              try clear hcz13_4
              try clear hcz13_5
              try clear hcz17_0
              try clear hcz17_1
              try clear hcz17_2
              try clear hcz17_3
              try clear hcz17_4
              try clear hcz17_5
              try clear hcz20_0
              try clear hcz20_1
              try clear hcz20_2
              try clear hcz20_3
              try clear hcz20_4
              try clear hcz20_5
              try clear hcz21_0
              try clear hcz21_1
              try clear hcz21_2
              try clear hcz21_3
              try clear hcz21_4
              try clear hcz21_5
              try clear hfz10_0
              try clear hfz10_1
              try clear hfz10_2
              try clear hfz10_3
              try clear hfz10_4
              try clear hfz10_5
              try clear hfz12_0
              try clear hfz12_1
              try clear hfz12_2
              try clear hfz12_3
              try clear hfz12_4
              try clear hfz12_5
              try clear hfz13_0
              try clear hfz13_1
              try clear hfz13_2
              try clear hfz13_3
              try clear hfz13_4
              try clear hfz13_5
              try clear hfz17_0
              try clear hfz17_1
              try clear hfz17_2
              try clear hfz17_3
              try clear hfz17_4
              try clear hfz17_5
              try clear hfz20_0
              try clear hfz20_1
              try clear hfz20_2
              try clear hfz20_3
              try clear hfz20_4
              try clear hfz20_5
              try clear hfz21_0
              try clear hfz21_1
              try clear hfz21_2
              try clear hfz21_3
              try clear hfz21_4
              try clear hfz21_5
              try clear p2
              try clear p6
              obtain ⟨x10_3, x11_3, rfl, rfl, HA, HK3, BK372, HB⟩ := hrel
              cases gk with
              | zero => exact absurd HA.out (by simp [seizinlaw02_CapIn.l0])
              | succ k3 =>
                have H := HA.out
                clear HA
                simp only [seizinlaw02_CapIn.l0] at H
                by_cases c22 : x11_3 < (Int.tmod (wrap64 (a2)) 64)
                · rw [if_pos c22] at H
                  have c22b0 : decide (x11_3 < (Int.tmod (wrap64 (a2)) 64)) = true := decide_eq_true c22
                  clear c22
                  by_cases c23 : x10_3 = true
                  · subst c23
                    have H1 : (if (wrap64 ((wrap64 ((wrap64 (a0_1 - 20)) + (Int.tmod (wrap64 (a1)) 64))) + x11_3)) ≥ a0_1 then (seizinlaw02_CapIn.l0 k3 t373 (wrap64 ((wrap64 (a0_1 - 20)) + (Int.tmod (wrap64 (a1)) 64))) (Int.tmod (wrap64 (a2)) 64) (decide ((wrap64 ((wrap64 ((wrap64 (a0_1 - 20)) + (Int.tmod (wrap64 (a1)) 64))) + x11_3)) < a0_2)) (wrap64 (x11_3 + 1)) a0_0 a0_1 a0_2 a0_3 a0_4 a0_5) else (seizinlaw02_CapIn.l0 k3 t373 (wrap64 ((wrap64 (a0_1 - 20)) + (Int.tmod (wrap64 (a1)) 64))) (Int.tmod (wrap64 (a2)) 64) false (wrap64 (x11_3 + 1)) a0_0 a0_1 a0_2 a0_3 a0_4 a0_5)) = some r := by rw [if_pos rfl] at H; exact H
                    clear H
                    have H := H1
                    clear H1
                    by_cases c24 : (wrap64 ((wrap64 ((wrap64 (a0_1 - 20)) + (Int.tmod (wrap64 (a1)) 64))) + x11_3)) ≥ a0_1
                    · rw [if_pos c24] at H
                      have c24b0 : decide (a0_1 ≤ (wrap64 ((wrap64 ((wrap64 (a0_1 - 20)) + (Int.tmod (wrap64 (a1)) 64))) + x11_3))) = true := decide_eq_true c24
                      clear c24
                      have H' := Aside0.mk H
                      clear H
                      have hcz25_0 : wr.cell? ⟨gb372, 0, none⟩ = some (.bool a0_0) := (blk_cell BK372.out 0).trans rfl
                      have hcz25_1 : wr.cell? ⟨gb372, 1, none⟩ = some (.int .i64 a0_1) := (blk_cell BK372.out 1).trans rfl
                      have hcz25_2 : wr.cell? ⟨gb372, 2, none⟩ = some (.int .i64 a0_2) := (blk_cell BK372.out 2).trans rfl
                      have hcz25_3 : wr.cell? ⟨gb372, 3, none⟩ = some (.int .i64 a0_3) := (blk_cell BK372.out 3).trans rfl
                      have hcz25_4 : wr.cell? ⟨gb372, 4, none⟩ = some (.int .i64 a0_4) := (blk_cell BK372.out 4).trans rfl
                      have hcz25_5 : wr.cell? ⟨gb372, 5, none⟩ = some (.int .i64 a0_5) := (blk_cell BK372.out 5).trans rfl
                      have hfz25_0 := blk_frozen BK372.out 0
                      have hfz25_1 := blk_frozen BK372.out 1
                      have hfz25_2 := blk_frozen BK372.out 2
                      have hfz25_3 := blk_frozen BK372.out 3
                      have hfz25_4 := blk_frozen BK372.out 4
                      have hfz25_5 := blk_frozen BK372.out 5
                      go_wp2
                      go_roundg k3
                      case measure => have := HJ4.out; have := HJ15.out; have := HK3.out; omega
                      case rel => exact ⟨(decide ((wrap64 ((wrap64 ((wrap64 (a0_1 - 20)) + (Int.tmod (wrap64 (a1)) 64))) + x11_3)) < a0_2)), (wrap64 (x11_3 + 1)), (by first | rfl | (simp; done) | (simp [*]; done)), (by first | rfl | (simp; done) | (simp [*]; done)), H', ⟨by have := HJ4.out; have := HJ15.out; have := HK3.out; omega⟩, ⟨by (with_reducible repeat (first | refine blk_drewN ?_ _ | refine blk_drew ?_ | refine blk_alloc ?_ _)); exact BK372.out⟩, ⟨by repeat (first | (with_reducible first | exact HB.out | apply below_alloc | apply pw_below_drewN | apply below_drew1 | refine below_set ?_ GE372.out) | exact HB.out)⟩⟩
                    · rw [if_neg c24] at H
                      have c24b0 : decide (a0_1 ≤ (wrap64 ((wrap64 ((wrap64 (a0_1 - 20)) + (Int.tmod (wrap64 (a1)) 64))) + x11_3))) = false := decide_eq_false c24
                      clear c24
                      have H' := Aside0.mk H
                      clear H
                      have hcz26_0 : wr.cell? ⟨gb372, 0, none⟩ = some (.bool a0_0) := (blk_cell BK372.out 0).trans rfl
                      have hcz26_1 : wr.cell? ⟨gb372, 1, none⟩ = some (.int .i64 a0_1) := (blk_cell BK372.out 1).trans rfl
                      have hcz26_2 : wr.cell? ⟨gb372, 2, none⟩ = some (.int .i64 a0_2) := (blk_cell BK372.out 2).trans rfl
                      have hcz26_3 : wr.cell? ⟨gb372, 3, none⟩ = some (.int .i64 a0_3) := (blk_cell BK372.out 3).trans rfl
                      have hcz26_4 : wr.cell? ⟨gb372, 4, none⟩ = some (.int .i64 a0_4) := (blk_cell BK372.out 4).trans rfl
                      have hcz26_5 : wr.cell? ⟨gb372, 5, none⟩ = some (.int .i64 a0_5) := (blk_cell BK372.out 5).trans rfl
                      have hfz26_0 := blk_frozen BK372.out 0
                      have hfz26_1 := blk_frozen BK372.out 1
                      have hfz26_2 := blk_frozen BK372.out 2
                      have hfz26_3 := blk_frozen BK372.out 3
                      have hfz26_4 := blk_frozen BK372.out 4
                      have hfz26_5 := blk_frozen BK372.out 5
                      go_wp2
                      go_roundg k3
                      case measure => have := HJ4.out; have := HJ15.out; have := HK3.out; omega
                      case rel => exact ⟨(false), (wrap64 (x11_3 + 1)), (by first | rfl | (simp; done) | (simp [*]; done)), (by first | rfl | (simp; done) | (simp [*]; done)), H', ⟨by have := HJ4.out; have := HJ15.out; have := HK3.out; omega⟩, ⟨by (with_reducible repeat (first | refine blk_drewN ?_ _ | refine blk_drew ?_ | refine blk_alloc ?_ _)); exact BK372.out⟩, ⟨by repeat (first | (with_reducible first | exact HB.out | apply below_alloc | apply pw_below_drewN | apply below_drew1 | refine below_set ?_ GE372.out) | exact HB.out)⟩⟩
                  · replace c23 := Bool.eq_false_iff.mpr c23
                    subst c23
                    have H1 : (seizinlaw02_CapIn.l0 k3 t373 (wrap64 ((wrap64 (a0_1 - 20)) + (Int.tmod (wrap64 (a1)) 64))) (Int.tmod (wrap64 (a2)) 64) false (wrap64 (x11_3 + 1)) a0_0 a0_1 a0_2 a0_3 a0_4 a0_5) = some r := by rw [if_neg (show ¬ (false = true) by decide)] at H; exact H
                    clear H
                    have H := H1
                    clear H1
                    have H' := Aside0.mk H
                    clear H
                    go_wp2
                    go_roundg k3
                    case measure => have := HJ4.out; have := HJ15.out; have := HK3.out; omega
                    case rel => exact ⟨(false), (wrap64 (x11_3 + 1)), (by first | rfl | (simp; done) | (simp [*]; done)), (by first | rfl | (simp; done) | (simp [*]; done)), H', ⟨by have := HJ4.out; have := HJ15.out; have := HK3.out; omega⟩, ⟨by (with_reducible repeat (first | refine blk_drewN ?_ _ | refine blk_drew ?_ | refine blk_alloc ?_ _)); exact BK372.out⟩, ⟨by repeat (first | (with_reducible first | exact HB.out | apply below_alloc | apply pw_below_drewN | apply below_drew1 | refine below_set ?_ GE372.out) | exact HB.out)⟩⟩
                · rw [if_neg c22] at H
                  have c22b0 : decide (x11_3 < (Int.tmod (wrap64 (a2)) 64)) = false := decide_eq_false c22
                  clear c22
                  by_cases c27 : t373 = true
                  · subst c27
                    have H1 : ((cap_In.f a0_0 a0_1 a0_2 a0_3 a0_4 a0_5 (wrap64 ((wrap64 (a0_1 - 20)) + (Int.tmod (wrap64 (a1)) 64))) (Int.tmod (wrap64 (a2)) 64)).bind fun t375 => (some (t375 == x10_3))) = some r := by rw [if_pos rfl] at H; exact H
                    clear H
                    have H := H1
                    clear H1
                    replace H := Option.bind_eq_some_iff.mp H
                    obtain ⟨t375, A280, H⟩ := H
                    replace H : (some (t375 == x10_3)) = some r := H
                    have A28 := Aside0.mk A280
                    clear A280
                    clear hr_
                    obtain rfl := Option.some.inj H
                    have hcz29_0 : wr.cell? ⟨gb372, 0, none⟩ = some (.bool a0_0) := (blk_cell BK372.out 0).trans rfl
                    have hcz29_1 : wr.cell? ⟨gb372, 1, none⟩ = some (.int .i64 a0_1) := (blk_cell BK372.out 1).trans rfl
                    have hcz29_2 : wr.cell? ⟨gb372, 2, none⟩ = some (.int .i64 a0_2) := (blk_cell BK372.out 2).trans rfl
                    have hcz29_3 : wr.cell? ⟨gb372, 3, none⟩ = some (.int .i64 a0_3) := (blk_cell BK372.out 3).trans rfl
                    have hcz29_4 : wr.cell? ⟨gb372, 4, none⟩ = some (.int .i64 a0_4) := (blk_cell BK372.out 4).trans rfl
                    have hcz29_5 : wr.cell? ⟨gb372, 5, none⟩ = some (.int .i64 a0_5) := (blk_cell BK372.out 5).trans rfl
                    have hfz29_0 := blk_frozen BK372.out 0
                    have hfz29_1 := blk_frozen BK372.out 1
                    have hfz29_2 := blk_frozen BK372.out 2
                    have hfz29_3 := blk_frozen BK372.out 3
                    have hfz29_4 := blk_frozen BK372.out 4
                    have hfz29_5 := blk_frozen BK372.out 5
                    go_wp2_with (first | (go_at_call 39; (with_reducible refine (cap_In.calls a0_0 a0_1 a0_2 a0_3 a0_4 a0_5 (wrap64 ((wrap64 (a0_1 - 20)) + (Int.tmod (wrap64 (a1)) 64))) (Int.tmod (wrap64 (a2)) 64) t375 _ A28.out).mono ?_); rintro e w30 ⟨rfl, hb⟩; have n0_ := Aside0.mk (blk_below (g := gb372) (o := .cells #[.bool a0_0, .int .i64 a0_1, .int .i64 a0_2, .int .i64 a0_3, .int .i64 a0_4, .int .i64 a0_5] 39 (0, 0)) (by (with_reducible repeat (first | refine blk_drewN ?_ _ | refine blk_drew ?_ | refine blk_alloc ?_ _)); exact BK372.out) hb); have n1_ := Aside0.mk (below_step (by repeat (first | (with_reducible first | exact HB.out | apply below_alloc | apply pw_below_drewN | apply below_drew1 | refine below_set ?_ GE372.out) | exact HB.out)) hb); clear BK372; clear HB; have BK372 := n0_; have HB := n1_; clear n0_ n1_; (try clear hb); (try clear hb2); (try clear hk); (try clear hi)))
                    go_ret
                    exact ⟨by first | rfl | (simp [errW_none, errW_some] <;> rfl) | (simp [*, errW_none, errW_some] <;> rfl), by repeat (first | (with_reducible first | exact HB.out | apply below_alloc | apply pw_below_drewN | apply below_drew1 | refine below_set ?_ GE372.out) | exact HB.out)⟩
                  · replace c27 := Bool.eq_false_iff.mpr c27
                    subst c27
                    have H1 : (some false) = some r := by rw [if_neg (show ¬ (false = true) by decide)] at H; exact H
                    clear H
                    have H := H1
                    clear H1
                    exact absurd ((Option.some.inj H).trans hr_) (by decide)

end Go.Proofs.Ytgilagbfgbgplaa.PCap
