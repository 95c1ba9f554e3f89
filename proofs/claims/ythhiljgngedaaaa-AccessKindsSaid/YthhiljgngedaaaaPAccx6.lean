-- written by a changed copy of the kit's print program, for this claim
import Derived.Test.YthhiljgngedaaaaPAccx0
import Derived.Test.YthhiljgngedaaaaPAccx3
import Derived.Test.YthhiljgngedaaaaPAccx5
namespace Go.Proofs.Ythhiljgngedaaaa.PAcc
open Go.RowKit Go.Proofs.YthhiljgngedaaaaW.PrintWords Go.Proofs.YthhiljgngedaaaaW.PrintLast Go.Proofs.YthhiljgngedaaaaW.PrintMore
attribute [local go_sem] max2_int min2_int max_two min_two max_three min_three max_four min_four   -- for this text's walks alone
set_option linter.unusedVariables false
set_option linter.unusedSimpArgs false

/-! ### seizinlaw05_AccessKinds: function 9 -/
mutual
def seizinlaw05_AccessKinds.j0 : Nat → Int → Int → Bool → Bool → Bool → Int → Int → Int → Int → Int → Option (Bool)
  | 0, _, _, _, _, _, _, _, _, _, _ => none
  | k + 1, x1, x2, x7, x50, x295000, x295001, x295002, x295003, x295004, x295005 => if x50 = true then (some false) else ((access_Store.f k x295000 x295001 x295002 x295003 x295004 x295005 x1 x2).bind fun bt300 => ((seizinref05_Store.f k x295000 x295001 x295002 x295003 x295004 x295005 x1 x2).bind fun bt302 => ((access_Fetch.f k x295000 x295001 x295002 x295003 x295004 x295005).bind fun bt304 => ((seizinref05_Fetch.f k x295000 x295001 x295002 x295003 x295004 x295005).bind fun bt306 => (if bt300.1 = bt302.1 then (if bt300.2 = bt302.2 then (if bt304.1 = bt306.1 then (seizinlaw05_AccessKinds.j1 k x1 x7 (bt304.2 != bt306.2) x295000 x295001 x295002 x295003 x295004 x295005) else (seizinlaw05_AccessKinds.j1 k x1 x7 true x295000 x295001 x295002 x295003 x295004 x295005)) else (seizinlaw05_AccessKinds.j1 k x1 x7 true x295000 x295001 x295002 x295003 x295004 x295005)) else (seizinlaw05_AccessKinds.j1 k x1 x7 true x295000 x295001 x295002 x295003 x295004 x295005))))))
def seizinlaw05_AccessKinds.j1 : Nat → Int → Bool → Bool → Bool → Int → Int → Int → Int → Int → Option (Bool)
  | 0, _, _, _, _, _, _, _, _, _ => none
  | k + 1, x1, x7, x92, x295000, x295001, x295002, x295003, x295004, x295005 => if x92 = true then (some false) else ((access_LoadCap.f k x295000 x295001 x295002 x295003 x295004 x295005 x1).bind fun bt308 => ((seizinref05_LoadCap.f k x295000 x295001 x295002 x295003 x295004 x295005 x1).bind fun bt310 => ((access_StoreCap.f k x295000 x295001 x295002 x295003 x295004 x295005 x1).bind fun bt312 => ((seizinref05_StoreCap.f k x295000 x295001 x295002 x295003 x295004 x295005 x1).bind fun bt314 => (if x7 = true then (if bt308.1 = bt310.1 then (if bt308.2 = bt310.2 then (if bt312.1 = bt314.1 then (some (bt312.2 == bt314.2)) else (some false)) else (some false)) else (some false)) else (some false))))))
end
def seizinlaw05_AccessKinds.f (k : Nat) (a0_0 : Bool) (a0_1 : Int) (a0_2 : Int) (a0_3 : Int) (a0_4 : Int) (a0_5 : Int) (a1 : Int) (a2 : Int) : Option (Bool) := (seizinlaw05_head.f k).bind fun t295 => ((access_Load.f k a0_0 a0_1 a0_2 a0_3 a0_4 a0_5 a1 a2).bind fun bt296 => ((seizinref05_Load.f k a0_0 a0_1 a0_2 a0_3 a0_4 a0_5 a1 a2).bind fun bt298 => (if bt296.1 = bt298.1 then (seizinlaw05_AccessKinds.j0 k a1 a2 t295 (bt296.2 != bt298.2) a0_0 a0_1 a0_2 a0_3 a0_4 a0_5) else (seizinlaw05_AccessKinds.j0 k a1 a2 t295 true a0_0 a0_1 a0_2 a0_3 a0_4 a0_5))))
theorem seizinlaw05_AccessKinds.mono_l : ∀ k, (∀ y0 y1 y2 y3 y4 y5 y6 y7 y8 y9, LeO (seizinlaw05_AccessKinds.j0 k y0 y1 y2 y3 y4 y5 y6 y7 y8 y9) (seizinlaw05_AccessKinds.j0 (k + 1) y0 y1 y2 y3 y4 y5 y6 y7 y8 y9)) ∧ (∀ y0 y1 y2 y3 y4 y5 y6 y7 y8, LeO (seizinlaw05_AccessKinds.j1 k y0 y1 y2 y3 y4 y5 y6 y7 y8) (seizinlaw05_AccessKinds.j1 (k + 1) y0 y1 y2 y3 y4 y5 y6 y7 y8))
  | 0 => ⟨fun _ _ _ _ _ _ _ _ _ _ r h => by simp [seizinlaw05_AccessKinds.j0] at h, fun _ _ _ _ _ _ _ _ _ r h => by simp [seizinlaw05_AccessKinds.j1] at h⟩
  | k + 1 => by
    obtain ⟨ih0, ih1⟩ := seizinlaw05_AccessKinds.mono_l k
    refine ⟨?_, ?_⟩
    · intro y0 y1 y2 y3 y4 y5 y6 y7 y8 y9
      unfold seizinlaw05_AccessKinds.j0
      repeat' first
      | (with_reducible exact ih0 _ _ _ _ _ _ _ _ _ _)
      | (with_reducible exact ih1 _ _ _ _ _ _ _ _ _)
      | (with_reducible exact access_Fetch.mono _ _ _ _ _ _ _)
      | (with_reducible exact access_Load.mono _ _ _ _ _ _ _ _ _)
      | (with_reducible exact access_LoadCap.mono _ _ _ _ _ _ _ _)
      | (with_reducible exact access_Store.mono _ _ _ _ _ _ _ _ _)
      | (with_reducible exact access_StoreCap.mono _ _ _ _ _ _ _ _)
      | (with_reducible exact seizinlaw05_head.mono _)
      | (with_reducible exact seizinref05_Fetch.mono _ _ _ _ _ _ _)
      | (with_reducible exact seizinref05_Load.mono _ _ _ _ _ _ _ _ _)
      | (with_reducible exact seizinref05_LoadCap.mono _ _ _ _ _ _ _ _)
      | (with_reducible exact seizinref05_Store.mono _ _ _ _ _ _ _ _ _)
      | (with_reducible exact seizinref05_StoreCap.mono _ _ _ _ _ _ _ _)
      | (with_reducible exact LeO.refl _)
      | (with_reducible exact LeO.none _)
      | (with_reducible refine LeO.ite ?_ ?_)
      | (with_reducible refine LeO.bind ?_ (fun _ => ?_))
      | exact ih0 _ _ _ _ _ _ _ _ _ _
      | exact ih1 _ _ _ _ _ _ _ _ _
      | exact access_Fetch.mono _ _ _ _ _ _ _
      | exact access_Load.mono _ _ _ _ _ _ _ _ _
      | exact access_LoadCap.mono _ _ _ _ _ _ _ _
      | exact access_Store.mono _ _ _ _ _ _ _ _ _
      | exact access_StoreCap.mono _ _ _ _ _ _ _ _
      | exact seizinlaw05_head.mono _
      | exact seizinref05_Fetch.mono _ _ _ _ _ _ _
      | exact seizinref05_Load.mono _ _ _ _ _ _ _ _ _
      | exact seizinref05_LoadCap.mono _ _ _ _ _ _ _ _
      | exact seizinref05_Store.mono _ _ _ _ _ _ _ _ _
      | exact seizinref05_StoreCap.mono _ _ _ _ _ _ _ _
      | exact LeO.none _
      | refine LeO.ite ?_ ?_
      | refine LeO.bind ?_ (fun _ => ?_)
    · intro y0 y1 y2 y3 y4 y5 y6 y7 y8
      unfold seizinlaw05_AccessKinds.j1
      repeat' first
      | (with_reducible exact ih0 _ _ _ _ _ _ _ _ _ _)
      | (with_reducible exact ih1 _ _ _ _ _ _ _ _ _)
      | (with_reducible exact access_Fetch.mono _ _ _ _ _ _ _)
      | (with_reducible exact access_Load.mono _ _ _ _ _ _ _ _ _)
      | (with_reducible exact access_LoadCap.mono _ _ _ _ _ _ _ _)
      | (with_reducible exact access_Store.mono _ _ _ _ _ _ _ _ _)
      | (with_reducible exact access_StoreCap.mono _ _ _ _ _ _ _ _)
      | (with_reducible exact seizinlaw05_head.mono _)
      | (with_reducible exact seizinref05_Fetch.mono _ _ _ _ _ _ _)
      | (with_reducible exact seizinref05_Load.mono _ _ _ _ _ _ _ _ _)
      | (with_reducible exact seizinref05_LoadCap.mono _ _ _ _ _ _ _ _)
      | (with_reducible exact seizinref05_Store.mono _ _ _ _ _ _ _ _ _)
      | (with_reducible exact seizinref05_StoreCap.mono _ _ _ _ _ _ _ _)
      | (with_reducible exact LeO.refl _)
      | (with_reducible exact LeO.none _)
      | (with_reducible refine LeO.ite ?_ ?_)
      | (with_reducible refine LeO.bind ?_ (fun _ => ?_))
      | exact ih0 _ _ _ _ _ _ _ _ _ _
      | exact ih1 _ _ _ _ _ _ _ _ _
      | exact access_Fetch.mono _ _ _ _ _ _ _
      | exact access_Load.mono _ _ _ _ _ _ _ _ _
      | exact access_LoadCap.mono _ _ _ _ _ _ _ _
      | exact access_Store.mono _ _ _ _ _ _ _ _ _
      | exact access_StoreCap.mono _ _ _ _ _ _ _ _
      | exact seizinlaw05_head.mono _
      | exact seizinref05_Fetch.mono _ _ _ _ _ _ _
      | exact seizinref05_Load.mono _ _ _ _ _ _ _ _ _
      | exact seizinref05_LoadCap.mono _ _ _ _ _ _ _ _
      | exact seizinref05_Store.mono _ _ _ _ _ _ _ _ _
      | exact seizinref05_StoreCap.mono _ _ _ _ _ _ _ _
      | exact LeO.none _
      | refine LeO.ite ?_ ?_
      | refine LeO.bind ?_ (fun _ => ?_)
theorem seizinlaw05_AccessKinds.mono : ∀ a0 a1 a2 a3 a4 a5 a6 a7 k, LeO (seizinlaw05_AccessKinds.f k a0 a1 a2 a3 a4 a5 a6 a7) (seizinlaw05_AccessKinds.f (k + 1) a0 a1 a2 a3 a4 a5 a6 a7) := by
  intro a0 a1 a2 a3 a4 a5 a6 a7 k
  obtain ⟨ih0, ih1⟩ := seizinlaw05_AccessKinds.mono_l k
  unfold seizinlaw05_AccessKinds.f
  repeat' first
      | (with_reducible exact ih0 _ _ _ _ _ _ _ _ _ _)
      | (with_reducible exact ih1 _ _ _ _ _ _ _ _ _)
      | (with_reducible exact access_Fetch.mono _ _ _ _ _ _ _)
      | (with_reducible exact access_Load.mono _ _ _ _ _ _ _ _ _)
      | (with_reducible exact access_LoadCap.mono _ _ _ _ _ _ _ _)
      | (with_reducible exact access_Store.mono _ _ _ _ _ _ _ _ _)
      | (with_reducible exact access_StoreCap.mono _ _ _ _ _ _ _ _)
      | (with_reducible exact seizinlaw05_head.mono _)
      | (with_reducible exact seizinref05_Fetch.mono _ _ _ _ _ _ _)
      | (with_reducible exact seizinref05_Load.mono _ _ _ _ _ _ _ _ _)
      | (with_reducible exact seizinref05_LoadCap.mono _ _ _ _ _ _ _ _)
      | (with_reducible exact seizinref05_Store.mono _ _ _ _ _ _ _ _ _)
      | (with_reducible exact seizinref05_StoreCap.mono _ _ _ _ _ _ _ _)
      | (with_reducible exact LeO.refl _)
      | (with_reducible exact LeO.none _)
      | (with_reducible refine LeO.ite ?_ ?_)
      | (with_reducible refine LeO.bind ?_ (fun _ => ?_))
      | exact ih0 _ _ _ _ _ _ _ _ _ _
      | exact ih1 _ _ _ _ _ _ _ _ _
      | exact access_Fetch.mono _ _ _ _ _ _ _
      | exact access_Load.mono _ _ _ _ _ _ _ _ _
      | exact access_LoadCap.mono _ _ _ _ _ _ _ _
      | exact access_Store.mono _ _ _ _ _ _ _ _ _
      | exact access_StoreCap.mono _ _ _ _ _ _ _ _
      | exact seizinlaw05_head.mono _
      | exact seizinref05_Fetch.mono _ _ _ _ _ _ _
      | exact seizinref05_Load.mono _ _ _ _ _ _ _ _ _
      | exact seizinref05_LoadCap.mono _ _ _ _ _ _ _ _
      | exact seizinref05_Store.mono _ _ _ _ _ _ _ _ _
      | exact seizinref05_StoreCap.mono _ _ _ _ _ _ _ _
      | exact LeO.none _
      | refine LeO.ite ?_ ?_
      | refine LeO.bind ?_ (fun _ => ?_)
set_option maxHeartbeats 8000000 in
set_option maxRecDepth 100000 in
theorem seizinlaw05_AccessKinds.calls (k : Nat) (a0_0 : Bool) (a0_1 : Int) (a0_2 : Int) (a0_3 : Int) (a0_4 : Int) (a0_5 : Int) (a1 : Int) (a2 : Int) (r : Bool) (w : World) (h : seizinlaw05_AccessKinds.f k a0_0 a0_1 a0_2 a0_3 a0_4 a0_5 a1 a2 = some r) (hr_ : r = true) :
    Calls Try.prog 9 #[.agg #[.bool a0_0, .int .i64 a0_1, .int .i64 a0_2, .int .i64 a0_3, .int .i64 a0_4, .int .i64 a0_5], .int .i64 a1, .int .i64 a2] w fun e w' => e = .returned (.bool r) ∧ Below w.heap.size w w' := by
  have hu23 := Try.underlying23
  have HB := Aside0.mk (Below.refl w.heap.size w)
  have H : ((seizinlaw05_head.f k).bind fun t295 => ((access_Load.f k a0_0 a0_1 a0_2 a0_3 a0_4 a0_5 a1 a2).bind fun bt296 => ((seizinref05_Load.f k a0_0 a0_1 a0_2 a0_3 a0_4 a0_5 a1 a2).bind fun bt298 => (if bt296.1 = bt298.1 then (seizinlaw05_AccessKinds.j0 k a1 a2 t295 (bt296.2 != bt298.2) a0_0 a0_1 a0_2 a0_3 a0_4 a0_5) else (seizinlaw05_AccessKinds.j0 k a1 a2 t295 true a0_0 a0_1 a0_2 a0_3 a0_4 a0_5))))) = some r := h
  clear h
  replace H := Option.bind_eq_some_iff.mp H
  obtain ⟨t295, A40, H⟩ := H
  replace H : ((access_Load.f k a0_0 a0_1 a0_2 a0_3 a0_4 a0_5 a1 a2).bind fun bt296 => ((seizinref05_Load.f k a0_0 a0_1 a0_2 a0_3 a0_4 a0_5 a1 a2).bind fun bt298 => (if bt296.1 = bt298.1 then (seizinlaw05_AccessKinds.j0 k a1 a2 t295 (bt296.2 != bt298.2) a0_0 a0_1 a0_2 a0_3 a0_4 a0_5) else (seizinlaw05_AccessKinds.j0 k a1 a2 t295 true a0_0 a0_1 a0_2 a0_3 a0_4 a0_5)))) = some r := H
  have A4 := Aside0.mk A40
  clear A40
  replace H := Option.bind_eq_some_iff.mp H
  obtain ⟨⟨t296, t297⟩, A50, H⟩ := H
  replace H : ((seizinref05_Load.f k a0_0 a0_1 a0_2 a0_3 a0_4 a0_5 a1 a2).bind fun bt298 => (if t296 = bt298.1 then (seizinlaw05_AccessKinds.j0 k a1 a2 t295 (t297 != bt298.2) a0_0 a0_1 a0_2 a0_3 a0_4 a0_5) else (seizinlaw05_AccessKinds.j0 k a1 a2 t295 true a0_0 a0_1 a0_2 a0_3 a0_4 a0_5))) = some r := H
  have A5 := Aside0.mk A50
  clear A50
  replace H := Option.bind_eq_some_iff.mp H
  obtain ⟨⟨t298, t299⟩, A60, H⟩ := H
  replace H : (if t296 = t298 then (seizinlaw05_AccessKinds.j0 k a1 a2 t295 (t297 != t299) a0_0 a0_1 a0_2 a0_3 a0_4 a0_5) else (seizinlaw05_AccessKinds.j0 k a1 a2 t295 true a0_0 a0_1 a0_2 a0_3 a0_4 a0_5)) = some r := H
  have A6 := Aside0.mk A60
  clear A60
  have HC7 := Aside0.mk H
  clear H
  go_enter Try.func9, Try.ntmps9
  go_upto_region 4 with (first | ((with_reducible refine gate_dst (N := 3) rfl ?_); refine box_event ?hg (N := 3) ?hd (cs := #[.bool a0_0, .int .i64 a0_1, .int .i64 a0_2, .int .i64 a0_3, .int .i64 a0_4, .int .i64 a0_5]) (t := 23) ?hr ?_; (case hd => rfl); (case hg => rfl); (case hr => first | (go_simp; done) | (go_simp; rfl)); intro gb294 hg w8 hbox hb; have n0_ := Aside0.mk (below_step (by repeat (first | (with_reducible first | exact HB.out | apply below_alloc | apply pw_below_drewN | apply below_drew1) | exact HB.out)) hb); have n1_ := Aside0.mk (hbox); have n2_ := Aside0.mk ((by rw [hg]; exact (below_size (by repeat (first | (with_reducible first | exact HB.out | apply below_alloc | apply pw_below_drewN | apply below_drew1) | exact HB.out))) : w.heap.size ≤ gb294)); have n3_ := Aside0.mk ((by rw [hg]; exact (below_size (by repeat (first | (with_reducible first | exact HB.out | apply below_alloc | apply pw_below_drewN | apply below_drew1) | exact HB.out))) : w.heap.size ≤ gb294)); clear HB; have HB := n0_; have BK294 := n1_; have GW294 := n2_; have GE294 := n3_; clear n0_ n1_ n2_ n3_; clear hb hbox hg) | ((with_reducible refine gate_callee (f := 10) rfl ?_); refine goesL_ (some 28) rfl rfl Try.func10 (by kernel_rfl) rfl #[] rfl (by (try simp only [List.map_toArray, List.map_cons, List.map_nil]); first | done | rfl | (simp only [List.length_drop, List.length_take]; rfl)) ?_; (with_reducible refine (seizinlaw05_head.calls k  t295 _ A4.out).mono ?_); rintro e w9 ⟨rfl, hb⟩; refine ⟨_, rfl, ?_⟩; have n0_ := Aside0.mk (blk_below (g := gb294) (o := .cells #[.bool a0_0, .int .i64 a0_1, .int .i64 a0_2, .int .i64 a0_3, .int .i64 a0_4, .int .i64 a0_5] 23 (0, 0)) (by (with_reducible repeat (first | refine blk_drewN ?_ _ | refine blk_drew ?_ | refine blk_alloc ?_ _)); exact BK294.out) hb); have n1_ := Aside0.mk (below_step (by repeat (first | (with_reducible first | exact HB.out | apply below_alloc | apply pw_below_drewN | apply below_drew1 | refine below_set ?_ GE294.out) | exact HB.out)) hb); clear BK294; clear HB; have BK294 := n0_; have HB := n1_; clear n0_ n1_; (try clear hb); (try clear hb2); (try clear hk); (try clear hi); have hcz10_0 : w9.cell? ⟨gb294, 0, none⟩ = some (.bool a0_0) := (blk_cell BK294.out 0).trans rfl; have hcz10_1 : w9.cell? ⟨gb294, 1, none⟩ = some (.int .i64 a0_1) := (blk_cell BK294.out 1).trans rfl; have hcz10_2 : w9.cell? ⟨gb294, 2, none⟩ = some (.int .i64 a0_2) := (blk_cell BK294.out 2).trans rfl; have hcz10_3 : w9.cell? ⟨gb294, 3, none⟩ = some (.int .i64 a0_3) := (blk_cell BK294.out 3).trans rfl; have hcz10_4 : w9.cell? ⟨gb294, 4, none⟩ = some (.int .i64 a0_4) := (blk_cell BK294.out 4).trans rfl; have hcz10_5 : w9.cell? ⟨gb294, 5, none⟩ = some (.int .i64 a0_5) := (blk_cell BK294.out 5).trans rfl; have hfz10_0 := blk_frozen BK294.out 0; have hfz10_1 := blk_frozen BK294.out 1; have hfz10_2 := blk_frozen BK294.out 2; have hfz10_3 := blk_frozen BK294.out 3; have hfz10_4 := blk_frozen BK294.out 4; have hfz10_5 := blk_frozen BK294.out 5) | ((with_reducible refine gate_callee (f := 18) rfl ?_); refine goesL_ (some 33) rfl rfl Try.func18 (by kernel_rfl) rfl #[.agg #[.bool a0_0, .int .i64 a0_1, .int .i64 a0_2, .int .i64 a0_3, .int .i64 a0_4, .int .i64 a0_5], .int .i64 a1, .int .i64 a2] rfl (by (try simp only [List.map_toArray, List.map_cons, List.map_nil]); first | done | rfl | (simp only [List.length_drop, List.length_take]; rfl)) ?_; (with_reducible refine (access_Load.calls k a0_0 a0_1 a0_2 a0_3 a0_4 a0_5 a1 a2 t296 t297 _ A5.out).mono ?_); rintro e w11 ⟨rfl, hb⟩; refine ⟨_, rfl, ?_⟩; have n0_ := Aside0.mk (blk_below (g := gb294) (o := .cells #[.bool a0_0, .int .i64 a0_1, .int .i64 a0_2, .int .i64 a0_3, .int .i64 a0_4, .int .i64 a0_5] 23 (0, 0)) (by (with_reducible repeat (first | refine blk_drewN ?_ _ | refine blk_drew ?_ | refine blk_alloc ?_ _)); exact BK294.out) hb); have n1_ := Aside0.mk (below_step (by repeat (first | (with_reducible first | exact HB.out | apply below_alloc | apply pw_below_drewN | apply below_drew1 | refine below_set ?_ GE294.out) | exact HB.out)) hb); clear BK294; clear HB; have BK294 := n0_; have HB := n1_; clear n0_ n1_; (try clear hb); (try clear hb2); (try clear hk); (try clear hi); have hcz12_0 : w11.cell? ⟨gb294, 0, none⟩ = some (.bool a0_0) := (blk_cell BK294.out 0).trans rfl; have hcz12_1 : w11.cell? ⟨gb294, 1, none⟩ = some (.int .i64 a0_1) := (blk_cell BK294.out 1).trans rfl; have hcz12_2 : w11.cell? ⟨gb294, 2, none⟩ = some (.int .i64 a0_2) := (blk_cell BK294.out 2).trans rfl; have hcz12_3 : w11.cell? ⟨gb294, 3, none⟩ = some (.int .i64 a0_3) := (blk_cell BK294.out 3).trans rfl; have hcz12_4 : w11.cell? ⟨gb294, 4, none⟩ = some (.int .i64 a0_4) := (blk_cell BK294.out 4).trans rfl; have hcz12_5 : w11.cell? ⟨gb294, 5, none⟩ = some (.int .i64 a0_5) := (blk_cell BK294.out 5).trans rfl; have hfz12_0 := blk_frozen BK294.out 0; have hfz12_1 := blk_frozen BK294.out 1; have hfz12_2 := blk_frozen BK294.out 2; have hfz12_3 := blk_frozen BK294.out 3; have hfz12_4 := blk_frozen BK294.out 4; have hfz12_5 := blk_frozen BK294.out 5) | ((with_reducible refine gate_callee (f := 19) rfl ?_); refine goesL_ (some 40) rfl rfl Try.func19 (by kernel_rfl) rfl #[.agg #[.bool a0_0, .int .i64 a0_1, .int .i64 a0_2, .int .i64 a0_3, .int .i64 a0_4, .int .i64 a0_5], .int .i64 a1, .int .i64 a2] rfl (by (try simp only [List.map_toArray, List.map_cons, List.map_nil]); first | done | rfl | (simp only [List.length_drop, List.length_take]; rfl)) ?_; (with_reducible refine (seizinref05_Load.calls k a0_0 a0_1 a0_2 a0_3 a0_4 a0_5 a1 a2 t298 t299 _ A6.out).mono ?_); rintro e w13 ⟨rfl, hb⟩; refine ⟨_, rfl, ?_⟩; have n0_ := Aside0.mk (blk_below (g := gb294) (o := .cells #[.bool a0_0, .int .i64 a0_1, .int .i64 a0_2, .int .i64 a0_3, .int .i64 a0_4, .int .i64 a0_5] 23 (0, 0)) (by (with_reducible repeat (first | refine blk_drewN ?_ _ | refine blk_drew ?_ | refine blk_alloc ?_ _)); exact BK294.out) hb); have n1_ := Aside0.mk (below_step (by repeat (first | (with_reducible first | exact HB.out | apply below_alloc | apply pw_below_drewN | apply below_drew1 | refine below_set ?_ GE294.out) | exact HB.out)) hb); clear BK294; clear HB; have BK294 := n0_; have HB := n1_; clear n0_ n1_; (try clear hb); (try clear hb2); (try clear hk); (try clear hi)))
  (try simp only [Act.put, List.setIfInBounds_toArray, List.set_cons_zero, List.set_cons_succ])
  go_cut [50] (fun v50 wc => ∃ (kq : Nat) (x50_6 : Bool), v50 = .bool x50_6 ∧ Aside0 (seizinlaw05_AccessKinds.j0 kq a1 a2 t295 x50_6 a0_0 a0_1 a0_2 a0_3 a0_4 a0_5 = some r) ∧ Aside0 (kq ≤ k) ∧ Aside0 (wc.heap[gb294]? = some (.cells #[.bool a0_0, .int .i64 a0_1, .int .i64 a0_2, .int .i64 a0_3, .int .i64 a0_4, .int .i64 a0_5] 23 (0, 0))) ∧ Aside0 (Below w.heap.size w wc))
  case first =>
    have H := HC7.out
    clear HC7
    by_cases c14 : t296 = t298
    · rw [if_pos c14] at H
      have c14b0 : (t296 == t298) = true := beq_iff_eq.mpr c14
      have c14b1 : (t296 != t298) = false := bne_eq_false_iff_eq.mpr c14
      clear c14
      (first | rw [c14b0] | (simp only [i64_w, i32_w]; rw [c14b0]) | skip)
      have H' := Aside0.mk H
      clear H
      go_wp2
      go_meet
      case rel => exact ⟨_, ((t297 != t299)), (by first | rfl | (simp; done) | (simp [*]; done)), H', ⟨by first | omega | exact Nat.le_refl _⟩, ⟨by (with_reducible repeat (first | refine blk_drewN ?_ _ | refine blk_drew ?_ | refine blk_alloc ?_ _)); exact BK294.out⟩, ⟨by repeat (first | (with_reducible first | exact HB.out | apply below_alloc | apply pw_below_drewN | apply below_drew1 | refine below_set ?_ GE294.out) | exact HB.out)⟩⟩
    · rw [if_neg c14] at H
      have c14b0 : (t296 == t298) = false := beq_eq_false_iff_ne.mpr c14
      have c14b1 : (t296 != t298) = true := bne_iff_ne.mpr c14
      (first | rw [c14b0] | (simp only [i64_w, i32_w]; rw [c14b0]) | skip)
      have H' := Aside0.mk H
      clear H
      go_wp2
      go_meet
      case rel => exact ⟨_, (true), (by first | rfl | (simp; done) | (simp [*]; done)), H', ⟨by first | omega | exact Nat.le_refl _⟩, ⟨by (with_reducible repeat (first | refine blk_drewN ?_ _ | refine blk_drew ?_ | refine blk_alloc ?_ _)); exact BK294.out⟩, ⟨by repeat (first | (with_reducible first | exact HB.out | apply below_alloc | apply pw_below_drewN | apply below_drew1 | refine below_set ?_ GE294.out) | exact HB.out)⟩⟩
  case rest =>
    clear HC7
    try clear c1
    try clear p2
    try clear c9
    try clear c10
    try clear c14
    try clear c14b0
    try clear c14b1
    try clear hcz10_0
    try clear hcz10_1
    try clear hcz10_2
    try clear hcz10_3
    try clear hcz10_4
    try clear hcz10_5
    try clear hcz12_0
    try clear hcz12_1
    try clear hcz12_2
    try clear hcz12_3
    try clear hcz12_4
    try clear hcz12_5
    try clear hfz10_0
    try clear hfz10_1
    try clear hfz10_2
    try clear hfz10_3
    try clear hfz10_4
    try clear hfz10_5
    try clear hfz12_0
    try clear hfz12_1
    try clear hfz12_2
    try clear hfz12_3
    try clear hfz12_4
    try clear hfz12_5
    obtain ⟨kq, x50_6, rfl, HA, HJ6, BK294, HB⟩ := hcut
    cases kq with
    | zero => exact absurd HA.out (by simp [seizinlaw05_AccessKinds.j0])
    | succ kj6 =>
      have H := HA.out
      clear HA
      simp only [seizinlaw05_AccessKinds.j0] at H
      by_cases c15 : x50_6 = true
      · subst c15
        have H1 : (some false) = some r := by rw [if_pos rfl] at H; exact H
        clear H
        have H := H1
        clear H1
        exact absurd ((Option.some.inj H).trans hr_) (by decide)
      · replace c15 := Bool.eq_false_iff.mpr c15
        subst c15
        have H1 : ((access_Store.f kj6 a0_0 a0_1 a0_2 a0_3 a0_4 a0_5 a1 a2).bind fun bt300 => ((seizinref05_Store.f kj6 a0_0 a0_1 a0_2 a0_3 a0_4 a0_5 a1 a2).bind fun bt302 => ((access_Fetch.f kj6 a0_0 a0_1 a0_2 a0_3 a0_4 a0_5).bind fun bt304 => ((seizinref05_Fetch.f kj6 a0_0 a0_1 a0_2 a0_3 a0_4 a0_5).bind fun bt306 => (if bt300.1 = bt302.1 then (if bt300.2 = bt302.2 then (if bt304.1 = bt306.1 then (seizinlaw05_AccessKinds.j1 kj6 a1 t295 (bt304.2 != bt306.2) a0_0 a0_1 a0_2 a0_3 a0_4 a0_5) else (seizinlaw05_AccessKinds.j1 kj6 a1 t295 true a0_0 a0_1 a0_2 a0_3 a0_4 a0_5)) else (seizinlaw05_AccessKinds.j1 kj6 a1 t295 true a0_0 a0_1 a0_2 a0_3 a0_4 a0_5)) else (seizinlaw05_AccessKinds.j1 kj6 a1 t295 true a0_0 a0_1 a0_2 a0_3 a0_4 a0_5)))))) = some r := by rw [if_neg (show ¬ (false = true) by decide)] at H; exact H
        clear H
        have H := H1
        clear H1
        replace H := Option.bind_eq_some_iff.mp H
        obtain ⟨⟨t300, t301⟩, A160, H⟩ := H
        replace H : ((seizinref05_Store.f kj6 a0_0 a0_1 a0_2 a0_3 a0_4 a0_5 a1 a2).bind fun bt302 => ((access_Fetch.f kj6 a0_0 a0_1 a0_2 a0_3 a0_4 a0_5).bind fun bt304 => ((seizinref05_Fetch.f kj6 a0_0 a0_1 a0_2 a0_3 a0_4 a0_5).bind fun bt306 => (if t300 = bt302.1 then (if t301 = bt302.2 then (if bt304.1 = bt306.1 then (seizinlaw05_AccessKinds.j1 kj6 a1 t295 (bt304.2 != bt306.2) a0_0 a0_1 a0_2 a0_3 a0_4 a0_5) else (seizinlaw05_AccessKinds.j1 kj6 a1 t295 true a0_0 a0_1 a0_2 a0_3 a0_4 a0_5)) else (seizinlaw05_AccessKinds.j1 kj6 a1 t295 true a0_0 a0_1 a0_2 a0_3 a0_4 a0_5)) else (seizinlaw05_AccessKinds.j1 kj6 a1 t295 true a0_0 a0_1 a0_2 a0_3 a0_4 a0_5))))) = some r := H
        have A16 := Aside0.mk A160
        clear A160
        replace H := Option.bind_eq_some_iff.mp H
        obtain ⟨⟨t302, t303⟩, A170, H⟩ := H
        replace H : ((access_Fetch.f kj6 a0_0 a0_1 a0_2 a0_3 a0_4 a0_5).bind fun bt304 => ((seizinref05_Fetch.f kj6 a0_0 a0_1 a0_2 a0_3 a0_4 a0_5).bind fun bt306 => (if t300 = t302 then (if t301 = t303 then (if bt304.1 = bt306.1 then (seizinlaw05_AccessKinds.j1 kj6 a1 t295 (bt304.2 != bt306.2) a0_0 a0_1 a0_2 a0_3 a0_4 a0_5) else (seizinlaw05_AccessKinds.j1 kj6 a1 t295 true a0_0 a0_1 a0_2 a0_3 a0_4 a0_5)) else (seizinlaw05_AccessKinds.j1 kj6 a1 t295 true a0_0 a0_1 a0_2 a0_3 a0_4 a0_5)) else (seizinlaw05_AccessKinds.j1 kj6 a1 t295 true a0_0 a0_1 a0_2 a0_3 a0_4 a0_5)))) = some r := H
        have A17 := Aside0.mk A170
        clear A170
        replace H := Option.bind_eq_some_iff.mp H
        obtain ⟨⟨t304, t305⟩, A180, H⟩ := H
        replace H : ((seizinref05_Fetch.f kj6 a0_0 a0_1 a0_2 a0_3 a0_4 a0_5).bind fun bt306 => (if t300 = t302 then (if t301 = t303 then (if t304 = bt306.1 then (seizinlaw05_AccessKinds.j1 kj6 a1 t295 (t305 != bt306.2) a0_0 a0_1 a0_2 a0_3 a0_4 a0_5) else (seizinlaw05_AccessKinds.j1 kj6 a1 t295 true a0_0 a0_1 a0_2 a0_3 a0_4 a0_5)) else (seizinlaw05_AccessKinds.j1 kj6 a1 t295 true a0_0 a0_1 a0_2 a0_3 a0_4 a0_5)) else (seizinlaw05_AccessKinds.j1 kj6 a1 t295 true a0_0 a0_1 a0_2 a0_3 a0_4 a0_5))) = some r := H
        have A18 := Aside0.mk A180
        clear A180
        replace H := Option.bind_eq_some_iff.mp H
        obtain ⟨⟨t306, t307⟩, A190, H⟩ := H
        replace H : (if t300 = t302 then (if t301 = t303 then (if t304 = t306 then (seizinlaw05_AccessKinds.j1 kj6 a1 t295 (t305 != t307) a0_0 a0_1 a0_2 a0_3 a0_4 a0_5) else (seizinlaw05_AccessKinds.j1 kj6 a1 t295 true a0_0 a0_1 a0_2 a0_3 a0_4 a0_5)) else (seizinlaw05_AccessKinds.j1 kj6 a1 t295 true a0_0 a0_1 a0_2 a0_3 a0_4 a0_5)) else (seizinlaw05_AccessKinds.j1 kj6 a1 t295 true a0_0 a0_1 a0_2 a0_3 a0_4 a0_5)) = some r := H
        have A19 := Aside0.mk A190
        clear A190
        have HC20 := Aside0.mk H
        clear H
        have hcz21_0 : wc.cell? ⟨gb294, 0, none⟩ = some (.bool a0_0) := (blk_cell BK294.out 0).trans rfl
        have hcz21_1 : wc.cell? ⟨gb294, 1, none⟩ = some (.int .i64 a0_1) := (blk_cell BK294.out 1).trans rfl
        have hcz21_2 : wc.cell? ⟨gb294, 2, none⟩ = some (.int .i64 a0_2) := (blk_cell BK294.out 2).trans rfl
        have hcz21_3 : wc.cell? ⟨gb294, 3, none⟩ = some (.int .i64 a0_3) := (blk_cell BK294.out 3).trans rfl
        have hcz21_4 : wc.cell? ⟨gb294, 4, none⟩ = some (.int .i64 a0_4) := (blk_cell BK294.out 4).trans rfl
        have hcz21_5 : wc.cell? ⟨gb294, 5, none⟩ = some (.int .i64 a0_5) := (blk_cell BK294.out 5).trans rfl
        have hfz21_0 := blk_frozen BK294.out 0
        have hfz21_1 := blk_frozen BK294.out 1
        have hfz21_2 := blk_frozen BK294.out 2
        have hfz21_3 := blk_frozen BK294.out 3
        have hfz21_4 := blk_frozen BK294.out 4
        have hfz21_5 := blk_frozen BK294.out 5
        go_upto_region 10 with (first | ((with_reducible refine gate_callee (f := 20) rfl ?_); refine goesL_ (some 55) rfl rfl Try.func20 (by kernel_rfl) rfl #[.agg #[.bool a0_0, .int .i64 a0_1, .int .i64 a0_2, .int .i64 a0_3, .int .i64 a0_4, .int .i64 a0_5], .int .i64 a1, .int .i64 a2] rfl (by (try simp only [List.map_toArray, List.map_cons, List.map_nil]); first | done | rfl | (simp only [List.length_drop, List.length_take]; rfl)) ?_; (with_reducible refine (access_Store.calls kj6 a0_0 a0_1 a0_2 a0_3 a0_4 a0_5 a1 a2 t300 t301 _ A16.out).mono ?_); rintro e w22 ⟨rfl, hb⟩; refine ⟨_, rfl, ?_⟩; have n0_ := Aside0.mk (blk_below (g := gb294) (o := .cells #[.bool a0_0, .int .i64 a0_1, .int .i64 a0_2, .int .i64 a0_3, .int .i64 a0_4, .int .i64 a0_5] 23 (0, 0)) (by (with_reducible repeat (first | refine blk_drewN ?_ _ | refine blk_drew ?_ | refine blk_alloc ?_ _)); exact BK294.out) hb); have n1_ := Aside0.mk (below_step (by repeat (first | (with_reducible first | exact HB.out | apply below_alloc | apply pw_below_drewN | apply below_drew1 | refine below_set ?_ GE294.out) | exact HB.out)) hb); clear BK294; clear HB; have BK294 := n0_; have HB := n1_; clear n0_ n1_; (try clear hb); (try clear hb2); (try clear hk); (try clear hi); have hcz23_0 : w22.cell? ⟨gb294, 0, none⟩ = some (.bool a0_0) := (blk_cell BK294.out 0).trans rfl; have hcz23_1 : w22.cell? ⟨gb294, 1, none⟩ = some (.int .i64 a0_1) := (blk_cell BK294.out 1).trans rfl; have hcz23_2 : w22.cell? ⟨gb294, 2, none⟩ = some (.int .i64 a0_2) := (blk_cell BK294.out 2).trans rfl; have hcz23_3 : w22.cell? ⟨gb294, 3, none⟩ = some (.int .i64 a0_3) := (blk_cell BK294.out 3).trans rfl; have hcz23_4 : w22.cell? ⟨gb294, 4, none⟩ = some (.int .i64 a0_4) := (blk_cell BK294.out 4).trans rfl; have hcz23_5 : w22.cell? ⟨gb294, 5, none⟩ = some (.int .i64 a0_5) := (blk_cell BK294.out 5).trans rfl; have hfz23_0 := blk_frozen BK294.out 0; have hfz23_1 := blk_frozen BK294.out 1; have hfz23_2 := blk_frozen BK294.out 2; have hfz23_3 := blk_frozen BK294.out 3; have hfz23_4 := blk_frozen BK294.out 4; have hfz23_5 := blk_frozen BK294.out 5) | ((with_reducible refine gate_callee (f := 21) rfl ?_); refine goesL_ (some 62) rfl rfl Try.func21 (by kernel_rfl) rfl #[.agg #[.bool a0_0, .int .i64 a0_1, .int .i64 a0_2, .int .i64 a0_3, .int .i64 a0_4, .int .i64 a0_5], .int .i64 a1, .int .i64 a2] rfl (by (try simp only [List.map_toArray, List.map_cons, List.map_nil]); first | done | rfl | (simp only [List.length_drop, List.length_take]; rfl)) ?_; (with_reducible refine (seizinref05_Store.calls kj6 a0_0 a0_1 a0_2 a0_3 a0_4 a0_5 a1 a2 t302 t303 _ A17.out).mono ?_); rintro e w24 ⟨rfl, hb⟩; refine ⟨_, rfl, ?_⟩; have n0_ := Aside0.mk (blk_below (g := gb294) (o := .cells #[.bool a0_0, .int .i64 a0_1, .int .i64 a0_2, .int .i64 a0_3, .int .i64 a0_4, .int .i64 a0_5] 23 (0, 0)) (by (with_reducible repeat (first | refine blk_drewN ?_ _ | refine blk_drew ?_ | refine blk_alloc ?_ _)); exact BK294.out) hb); have n1_ := Aside0.mk (below_step (by repeat (first | (with_reducible first | exact HB.out | apply below_alloc | apply pw_below_drewN | apply below_drew1 | refine below_set ?_ GE294.out) | exact HB.out)) hb); clear BK294; clear HB; have BK294 := n0_; have HB := n1_; clear n0_ n1_; (try clear hb); (try clear hb2); (try clear hk); (try clear hi); have hcz25_0 : w24.cell? ⟨gb294, 0, none⟩ = some (.bool a0_0) := (blk_cell BK294.out 0).trans rfl; have hcz25_1 : w24.cell? ⟨gb294, 1, none⟩ = some (.int .i64 a0_1) := (blk_cell BK294.out 1).trans rfl; have hcz25_2 : w24.cell? ⟨gb294, 2, none⟩ = some (.int .i64 a0_2) := (blk_cell BK294.out 2).trans rfl; have hcz25_3 : w24.cell? ⟨gb294, 3, none⟩ = some (.int .i64 a0_3) := (blk_cell BK294.out 3).trans rfl; have hcz25_4 : w24.cell? ⟨gb294, 4, none⟩ = some (.int .i64 a0_4) := (blk_cell BK294.out 4).trans rfl; have hcz25_5 : w24.cell? ⟨gb294, 5, none⟩ = some (.int .i64 a0_5) := (blk_cell BK294.out 5).trans rfl; have hfz25_0 := blk_frozen BK294.out 0; have hfz25_1 := blk_frozen BK294.out 1; have hfz25_2 := blk_frozen BK294.out 2; have hfz25_3 := blk_frozen BK294.out 3; have hfz25_4 := blk_frozen BK294.out 4; have hfz25_5 := blk_frozen BK294.out 5) | ((with_reducible refine gate_callee (f := 22) rfl ?_); refine goesL_ (some 67) rfl rfl Try.func22 (by kernel_rfl) rfl #[.agg #[.bool a0_0, .int .i64 a0_1, .int .i64 a0_2, .int .i64 a0_3, .int .i64 a0_4, .int .i64 a0_5]] rfl (by (try simp only [List.map_toArray, List.map_cons, List.map_nil]); first | done | rfl | (simp only [List.length_drop, List.length_take]; rfl)) ?_; (with_reducible refine (access_Fetch.calls kj6 a0_0 a0_1 a0_2 a0_3 a0_4 a0_5 t304 t305 _ A18.out).mono ?_); rintro e w26 ⟨rfl, hb⟩; refine ⟨_, rfl, ?_⟩; have n0_ := Aside0.mk (blk_below (g := gb294) (o := .cells #[.bool a0_0, .int .i64 a0_1, .int .i64 a0_2, .int .i64 a0_3, .int .i64 a0_4, .int .i64 a0_5] 23 (0, 0)) (by (with_reducible repeat (first | refine blk_drewN ?_ _ | refine blk_drew ?_ | refine blk_alloc ?_ _)); exact BK294.out) hb); have n1_ := Aside0.mk (below_step (by repeat (first | (with_reducible first | exact HB.out | apply below_alloc | apply pw_below_drewN | apply below_drew1 | refine below_set ?_ GE294.out) | exact HB.out)) hb); clear BK294; clear HB; have BK294 := n0_; have HB := n1_; clear n0_ n1_; (try clear hb); (try clear hb2); (try clear hk); (try clear hi); have hcz27_0 : w26.cell? ⟨gb294, 0, none⟩ = some (.bool a0_0) := (blk_cell BK294.out 0).trans rfl; have hcz27_1 : w26.cell? ⟨gb294, 1, none⟩ = some (.int .i64 a0_1) := (blk_cell BK294.out 1).trans rfl; have hcz27_2 : w26.cell? ⟨gb294, 2, none⟩ = some (.int .i64 a0_2) := (blk_cell BK294.out 2).trans rfl; have hcz27_3 : w26.cell? ⟨gb294, 3, none⟩ = some (.int .i64 a0_3) := (blk_cell BK294.out 3).trans rfl; have hcz27_4 : w26.cell? ⟨gb294, 4, none⟩ = some (.int .i64 a0_4) := (blk_cell BK294.out 4).trans rfl; have hcz27_5 : w26.cell? ⟨gb294, 5, none⟩ = some (.int .i64 a0_5) := (blk_cell BK294.out 5).trans rfl; have hfz27_0 := blk_frozen BK294.out 0; have hfz27_1 := blk_frozen BK294.out 1; have hfz27_2 := blk_frozen BK294.out 2; have hfz27_3 := blk_frozen BK294.out 3; have hfz27_4 := blk_frozen BK294.out 4; have hfz27_5 := blk_frozen BK294.out 5) | ((with_reducible refine gate_callee (f := 23) rfl ?_); refine goesL_ (some 72) rfl rfl Try.func23 (by kernel_rfl) rfl #[.agg #[.bool a0_0, .int .i64 a0_1, .int .i64 a0_2, .int .i64 a0_3, .int .i64 a0_4, .int .i64 a0_5]] rfl (by (try simp only [List.map_toArray, List.map_cons, List.map_nil]); first | done | rfl | (simp only [List.length_drop, List.length_take]; rfl)) ?_; (with_reducible refine (seizinref05_Fetch.calls kj6 a0_0 a0_1 a0_2 a0_3 a0_4 a0_5 t306 t307 _ A19.out).mono ?_); rintro e w28 ⟨rfl, hb⟩; refine ⟨_, rfl, ?_⟩; have n0_ := Aside0.mk (blk_below (g := gb294) (o := .cells #[.bool a0_0, .int .i64 a0_1, .int .i64 a0_2, .int .i64 a0_3, .int .i64 a0_4, .int .i64 a0_5] 23 (0, 0)) (by (with_reducible repeat (first | refine blk_drewN ?_ _ | refine blk_drew ?_ | refine blk_alloc ?_ _)); exact BK294.out) hb); have n1_ := Aside0.mk (below_step (by repeat (first | (with_reducible first | exact HB.out | apply below_alloc | apply pw_below_drewN | apply below_drew1 | refine below_set ?_ GE294.out) | exact HB.out)) hb); clear BK294; clear HB; have BK294 := n0_; have HB := n1_; clear n0_ n1_; (try clear hb); (try clear hb2); (try clear hk); (try clear hi)))
        (try simp only [Act.put, List.setIfInBounds_toArray, List.set_cons_zero, List.set_cons_succ])
        go_cut [92] (fun v92 wc => ∃ (kq : Nat) (x92_19 : Bool), v92 = .bool x92_19 ∧ Aside0 (seizinlaw05_AccessKinds.j1 kq a1 t295 x92_19 a0_0 a0_1 a0_2 a0_3 a0_4 a0_5 = some r) ∧ Aside0 (kq ≤ kj6) ∧ Aside0 (wc.heap[gb294]? = some (.cells #[.bool a0_0, .int .i64 a0_1, .int .i64 a0_2, .int .i64 a0_3, .int .i64 a0_4, .int .i64 a0_5] 23 (0, 0))) ∧ Aside0 (Below w.heap.size w wc))
        case first =>
          have H := HC20.out
          clear HC20
          by_cases c29 : t300 = t302
          · rw [if_pos c29] at H
            have c29b0 : (t300 == t302) = true := beq_iff_eq.mpr c29
            have c29b1 : (t300 != t302) = false := bne_eq_false_iff_eq.mpr c29
            clear c29
            (first | rw [c29b0] | (simp only [i64_w, i32_w]; rw [c29b0]) | skip)
            by_cases c30 : t301 = t303
            · rw [if_pos c30] at H
              have c30b0 : (t301 == t303) = true := beq_iff_eq.mpr c30
              have c30b1 : (t301 != t303) = false := bne_eq_false_iff_eq.mpr c30
              clear c30
              by_cases c31 : t304 = t306
              · rw [if_pos c31] at H
                have c31b0 : (t304 == t306) = true := beq_iff_eq.mpr c31
                have c31b1 : (t304 != t306) = false := bne_eq_false_iff_eq.mpr c31
                clear c31
                have H' := Aside0.mk H
                clear H
                go_wp2
                go_meet
                case rel => exact ⟨_, ((t305 != t307)), (by first | rfl | (simp; done) | (simp [*]; done)), H', ⟨by have := HJ6.out; first | omega | exact Nat.le_refl _⟩, ⟨by (with_reducible repeat (first | refine blk_drewN ?_ _ | refine blk_drew ?_ | refine blk_alloc ?_ _)); exact BK294.out⟩, ⟨by repeat (first | (with_reducible first | exact HB.out | apply below_alloc | apply pw_below_drewN | apply below_drew1 | refine below_set ?_ GE294.out) | exact HB.out)⟩⟩
              · rw [if_neg c31] at H
                have c31b0 : (t304 == t306) = false := beq_eq_false_iff_ne.mpr c31
                have c31b1 : (t304 != t306) = true := bne_iff_ne.mpr c31
                have H' := Aside0.mk H
                clear H
                go_wp2
                go_meet
                case rel => exact ⟨_, (true), (by first | rfl | (simp; done) | (simp [*]; done)), H', ⟨by have := HJ6.out; first | omega | exact Nat.le_refl _⟩, ⟨by (with_reducible repeat (first | refine blk_drewN ?_ _ | refine blk_drew ?_ | refine blk_alloc ?_ _)); exact BK294.out⟩, ⟨by repeat (first | (with_reducible first | exact HB.out | apply below_alloc | apply pw_below_drewN | apply below_drew1 | refine below_set ?_ GE294.out) | exact HB.out)⟩⟩
            · rw [if_neg c30] at H
              have c30b0 : (t301 == t303) = false := beq_eq_false_iff_ne.mpr c30
              have c30b1 : (t301 != t303) = true := bne_iff_ne.mpr c30
              have H' := Aside0.mk H
              clear H
              go_wp2
              go_meet
              case rel => exact ⟨_, (true), (by first | rfl | (simp; done) | (simp [*]; done)), H', ⟨by have := HJ6.out; first | omega | exact Nat.le_refl _⟩, ⟨by (with_reducible repeat (first | refine blk_drewN ?_ _ | refine blk_drew ?_ | refine blk_alloc ?_ _)); exact BK294.out⟩, ⟨by repeat (first | (with_reducible first | exact HB.out | apply below_alloc | apply pw_below_drewN | apply below_drew1 | refine below_set ?_ GE294.out) | exact HB.out)⟩⟩
          · rw [if_neg c29] at H
            have c29b0 : (t300 == t302) = false := beq_eq_false_iff_ne.mpr c29
            have c29b1 : (t300 != t302) = true := bne_iff_ne.mpr c29
            (first | rw [c29b0] | (simp only [i64_w, i32_w]; rw [c29b0]) | skip)
            have H' := Aside0.mk H
            clear H
            go_wp2
            go_meet
            case rel => exact ⟨_, (true), (by first | rfl | (simp; done) | (simp [*]; done)), H', ⟨by have := HJ6.out; first | omega | exact Nat.le_refl _⟩, ⟨by (with_reducible repeat (first | refine blk_drewN ?_ _ | refine blk_drew ?_ | refine blk_alloc ?_ _)); exact BK294.out⟩, ⟨by repeat (first | (with_reducible first | exact HB.out | apply below_alloc | apply pw_below_drewN | apply below_drew1 | refine below_set ?_ GE294.out) | exact HB.out)⟩⟩
        case rest =>
          clear HC20
          try clear c1
          try clear c2
          try clear p2
          try clear c3
          try clear c9
          try clear c10
          try clear c14
          try clear c14b0
          try clear c14b1
          try clear c15
          try clear c18
          try clear c19
          try clear c20
          try clear c21
          try clear c22
          try clear c23
          try clear c29
          try clear c29b0
          try clear c29b1
          try clear c30
          try clear c30b0
          try clear c30b1
          try clear c31
          try clear c31b0
          try clear c31b1
          try clear hcz10_0
          try clear hcz10_1
          try clear hcz10_2
          try clear hcz10_3
          try clear hcz10_4
          try clear hcz10_5
          try clear hcz12_0
          try clear hcz12_1
          try clear hcz12_2
          try clear hcz12_3
          try clear hcz12_4
          try clear hcz12_5
          try clear hcz21_0
          try clear hcz21_1
          try clear hcz21_2
          try clear hcz21_3
          try clear hcz21_4
          try clear hcz21_5
          try clear hcz23_0
          try clear hcz23_1
          try clear hcz23_2
          try clear hcz23_3
          try clear hcz23_4
          try clear hcz23_5
          try clear hcz25_0
          try clear hcz25_1
          try clear hcz25_2
          try clear hcz25_3
          try clear hcz25_4
          try clear hcz25_5
          try clear hcz27_0
          try clear hcz27_1
          try clear hcz27_2
          try clear hcz27_3
          try clear hcz27_4
          try clear hcz27_5
          try clear hfz10_0
          try clear hfz10_1
          try clear hfz10_2
          try clear hfz10_3
          try clear hfz10_4
          try clear hfz10_5
          try clear hfz12_0
          try clear hfz12_1
          try clear hfz12_2
          try clear hfz12_3
          try clear hfz12_4
          try clear hfz12_5
          try clear hfz21_0
          try clear hfz21_1
          try clear hfz21_2
          try clear hfz21_3
          try clear hfz21_4
          try clear hfz21_5
          try clear hfz23_0
          try clear hfz23_1
          try clear hfz23_2
          try clear hfz23_3
          try clear hfz23_4
          try clear hfz23_5
          try clear hfz25_0
          try clear hfz25_1
          try clear hfz25_2
          try clear hfz25_3
          try clear hfz25_4
          try clear hfz25_5
          try clear hfz27_0
          try clear hfz27_1
          try clear hfz27_2
          try clear hfz27_3
          try clear hfz27_4
          try clear hfz27_5
          try clear p2
          obtain ⟨kq, x92_19, rfl, HA, HJ19, BK294, HB⟩ := hcut
          cases kq with
          | zero => exact absurd HA.out (by simp [seizinlaw05_AccessKinds.j1])
          | succ kj19 =>
            have H := HA.out
            clear HA
            simp only [seizinlaw05_AccessKinds.j1] at H
            by_cases c32 : x92_19 = true
            · subst c32
              have H1 : (some false) = some r := by rw [if_pos rfl] at H; exact H
              clear H
              have H := H1
              clear H1
              exact absurd ((Option.some.inj H).trans hr_) (by decide)
            · replace c32 := Bool.eq_false_iff.mpr c32
              subst c32
              have H1 : ((access_LoadCap.f kj19 a0_0 a0_1 a0_2 a0_3 a0_4 a0_5 a1).bind fun bt308 => ((seizinref05_LoadCap.f kj19 a0_0 a0_1 a0_2 a0_3 a0_4 a0_5 a1).bind fun bt310 => ((access_StoreCap.f kj19 a0_0 a0_1 a0_2 a0_3 a0_4 a0_5 a1).bind fun bt312 => ((seizinref05_StoreCap.f kj19 a0_0 a0_1 a0_2 a0_3 a0_4 a0_5 a1).bind fun bt314 => (if t295 = true then (if bt308.1 = bt310.1 then (if bt308.2 = bt310.2 then (if bt312.1 = bt314.1 then (some (bt312.2 == bt314.2)) else (some false)) else (some false)) else (some false)) else (some false)))))) = some r := by rw [if_neg (show ¬ (false = true) by decide)] at H; exact H
              clear H
              have H := H1
              clear H1
              replace H := Option.bind_eq_some_iff.mp H
              obtain ⟨⟨t308, t309⟩, A330, H⟩ := H
              replace H : ((seizinref05_LoadCap.f kj19 a0_0 a0_1 a0_2 a0_3 a0_4 a0_5 a1).bind fun bt310 => ((access_StoreCap.f kj19 a0_0 a0_1 a0_2 a0_3 a0_4 a0_5 a1).bind fun bt312 => ((seizinref05_StoreCap.f kj19 a0_0 a0_1 a0_2 a0_3 a0_4 a0_5 a1).bind fun bt314 => (if t295 = true then (if t308 = bt310.1 then (if t309 = bt310.2 then (if bt312.1 = bt314.1 then (some (bt312.2 == bt314.2)) else (some false)) else (some false)) else (some false)) else (some false))))) = some r := H
              have A33 := Aside0.mk A330
              clear A330
              replace H := Option.bind_eq_some_iff.mp H
              obtain ⟨⟨t310, t311⟩, A340, H⟩ := H
              replace H : ((access_StoreCap.f kj19 a0_0 a0_1 a0_2 a0_3 a0_4 a0_5 a1).bind fun bt312 => ((seizinref05_StoreCap.f kj19 a0_0 a0_1 a0_2 a0_3 a0_4 a0_5 a1).bind fun bt314 => (if t295 = true then (if t308 = t310 then (if t309 = t311 then (if bt312.1 = bt314.1 then (some (bt312.2 == bt314.2)) else (some false)) else (some false)) else (some false)) else (some false)))) = some r := H
              have A34 := Aside0.mk A340
              clear A340
              replace H := Option.bind_eq_some_iff.mp H
              obtain ⟨⟨t312, t313⟩, A350, H⟩ := H
              replace H : ((seizinref05_StoreCap.f kj19 a0_0 a0_1 a0_2 a0_3 a0_4 a0_5 a1).bind fun bt314 => (if t295 = true then (if t308 = t310 then (if t309 = t311 then (if t312 = bt314.1 then (some (t313 == bt314.2)) else (some false)) else (some false)) else (some false)) else (some false))) = some r := H
              have A35 := Aside0.mk A350
              clear A350
              replace H := Option.bind_eq_some_iff.mp H
              obtain ⟨⟨t314, t315⟩, A360, H⟩ := H
              replace H : (if t295 = true then (if t308 = t310 then (if t309 = t311 then (if t312 = t314 then (some (t313 == t315)) else (some false)) else (some false)) else (some false)) else (some false)) = some r := H
              have A36 := Aside0.mk A360
              clear A360
              by_cases c37 : t295 = true
              · subst c37
                have H1 : (if t308 = t310 then (if t309 = t311 then (if t312 = t314 then (some (t313 == t315)) else (some false)) else (some false)) else (some false)) = some r := by rw [if_pos rfl] at H; exact H
                clear H
                have H := H1
                clear H1
                by_cases c38 : t308 = t310
                · rw [if_pos c38] at H
                  have c38b0 : (t308 == t310) = true := beq_iff_eq.mpr c38
                  have c38b1 : (t308 != t310) = false := bne_eq_false_iff_eq.mpr c38
                  clear c38
                  by_cases c39 : t309 = t311
                  · rw [if_pos c39] at H
                    have c39b0 : (t309 == t311) = true := beq_iff_eq.mpr c39
                    have c39b1 : (t309 != t311) = false := bne_eq_false_iff_eq.mpr c39
                    clear c39
                    by_cases c40 : t312 = t314
                    · rw [if_pos c40] at H
                      have c40b0 : (t312 == t314) = true := beq_iff_eq.mpr c40
                      have c40b1 : (t312 != t314) = false := bne_eq_false_iff_eq.mpr c40
                      clear c40
                      clear hr_
                      obtain rfl := Option.some.inj H
                      have hcz41_0 : wc.cell? ⟨gb294, 0, none⟩ = some (.bool a0_0) := (blk_cell BK294.out 0).trans rfl
                      have hcz41_1 : wc.cell? ⟨gb294, 1, none⟩ = some (.int .i64 a0_1) := (blk_cell BK294.out 1).trans rfl
                      have hcz41_2 : wc.cell? ⟨gb294, 2, none⟩ = some (.int .i64 a0_2) := (blk_cell BK294.out 2).trans rfl
                      have hcz41_3 : wc.cell? ⟨gb294, 3, none⟩ = some (.int .i64 a0_3) := (blk_cell BK294.out 3).trans rfl
                      have hcz41_4 : wc.cell? ⟨gb294, 4, none⟩ = some (.int .i64 a0_4) := (blk_cell BK294.out 4).trans rfl
                      have hcz41_5 : wc.cell? ⟨gb294, 5, none⟩ = some (.int .i64 a0_5) := (blk_cell BK294.out 5).trans rfl
                      have hfz41_0 := blk_frozen BK294.out 0
                      have hfz41_1 := blk_frozen BK294.out 1
                      have hfz41_2 := blk_frozen BK294.out 2
                      have hfz41_3 := blk_frozen BK294.out 3
                      have hfz41_4 := blk_frozen BK294.out 4
                      have hfz41_5 := blk_frozen BK294.out 5
                      go_wp2_with (first | ((with_reducible refine gate_callee (f := 24) rfl ?_); refine goesL_ (some 96) rfl rfl Try.func24 (by kernel_rfl) rfl #[.agg #[.bool a0_0, .int .i64 a0_1, .int .i64 a0_2, .int .i64 a0_3, .int .i64 a0_4, .int .i64 a0_5], .int .i64 a1] rfl (by (try simp only [List.map_toArray, List.map_cons, List.map_nil]); first | done | rfl | (simp only [List.length_drop, List.length_take]; rfl)) ?_; (with_reducible refine (access_LoadCap.calls kj19 a0_0 a0_1 a0_2 a0_3 a0_4 a0_5 a1 t308 t309 _ A33.out).mono ?_); rintro e w42 ⟨rfl, hb⟩; refine ⟨_, rfl, ?_⟩; have n0_ := Aside0.mk (blk_below (g := gb294) (o := .cells #[.bool a0_0, .int .i64 a0_1, .int .i64 a0_2, .int .i64 a0_3, .int .i64 a0_4, .int .i64 a0_5] 23 (0, 0)) (by (with_reducible repeat (first | refine blk_drewN ?_ _ | refine blk_drew ?_ | refine blk_alloc ?_ _)); exact BK294.out) hb); have n1_ := Aside0.mk (below_step (by repeat (first | (with_reducible first | exact HB.out | apply below_alloc | apply pw_below_drewN | apply below_drew1 | refine below_set ?_ GE294.out) | exact HB.out)) hb); clear BK294; clear HB; have BK294 := n0_; have HB := n1_; clear n0_ n1_; (try clear hb); (try clear hb2); (try clear hk); (try clear hi); have hcz43_0 : w42.cell? ⟨gb294, 0, none⟩ = some (.bool a0_0) := (blk_cell BK294.out 0).trans rfl; have hcz43_1 : w42.cell? ⟨gb294, 1, none⟩ = some (.int .i64 a0_1) := (blk_cell BK294.out 1).trans rfl; have hcz43_2 : w42.cell? ⟨gb294, 2, none⟩ = some (.int .i64 a0_2) := (blk_cell BK294.out 2).trans rfl; have hcz43_3 : w42.cell? ⟨gb294, 3, none⟩ = some (.int .i64 a0_3) := (blk_cell BK294.out 3).trans rfl; have hcz43_4 : w42.cell? ⟨gb294, 4, none⟩ = some (.int .i64 a0_4) := (blk_cell BK294.out 4).trans rfl; have hcz43_5 : w42.cell? ⟨gb294, 5, none⟩ = some (.int .i64 a0_5) := (blk_cell BK294.out 5).trans rfl; have hfz43_0 := blk_frozen BK294.out 0; have hfz43_1 := blk_frozen BK294.out 1; have hfz43_2 := blk_frozen BK294.out 2; have hfz43_3 := blk_frozen BK294.out 3; have hfz43_4 := blk_frozen BK294.out 4; have hfz43_5 := blk_frozen BK294.out 5) | ((with_reducible refine gate_callee (f := 25) rfl ?_); refine goesL_ (some 102) rfl rfl Try.func25 (by kernel_rfl) rfl #[.agg #[.bool a0_0, .int .i64 a0_1, .int .i64 a0_2, .int .i64 a0_3, .int .i64 a0_4, .int .i64 a0_5], .int .i64 a1] rfl (by (try simp only [List.map_toArray, List.map_cons, List.map_nil]); first | done | rfl | (simp only [List.length_drop, List.length_take]; rfl)) ?_; (with_reducible refine (seizinref05_LoadCap.calls kj19 a0_0 a0_1 a0_2 a0_3 a0_4 a0_5 a1 t310 t311 _ A34.out).mono ?_); rintro e w44 ⟨rfl, hb⟩; refine ⟨_, rfl, ?_⟩; have n0_ := Aside0.mk (blk_below (g := gb294) (o := .cells #[.bool a0_0, .int .i64 a0_1, .int .i64 a0_2, .int .i64 a0_3, .int .i64 a0_4, .int .i64 a0_5] 23 (0, 0)) (by (with_reducible repeat (first | refine blk_drewN ?_ _ | refine blk_drew ?_ | refine blk_alloc ?_ _)); exact BK294.out) hb); have n1_ := Aside0.mk (below_step (by repeat (first | (with_reducible first | exact HB.out | apply below_alloc | apply pw_below_drewN | apply below_drew1 | refine below_set ?_ GE294.out) | exact HB.out)) hb); clear BK294; clear HB; have BK294 := n0_; have HB := n1_; clear n0_ n1_; (try clear hb); (try clear hb2); (try clear hk); (try clear hi); have hcz45_0 : w44.cell? ⟨gb294, 0, none⟩ = some (.bool a0_0) := (blk_cell BK294.out 0).trans rfl; have hcz45_1 : w44.cell? ⟨gb294, 1, none⟩ = some (.int .i64 a0_1) := (blk_cell BK294.out 1).trans rfl; have hcz45_2 : w44.cell? ⟨gb294, 2, none⟩ = some (.int .i64 a0_2) := (blk_cell BK294.out 2).trans rfl; have hcz45_3 : w44.cell? ⟨gb294, 3, none⟩ = some (.int .i64 a0_3) := (blk_cell BK294.out 3).trans rfl; have hcz45_4 : w44.cell? ⟨gb294, 4, none⟩ = some (.int .i64 a0_4) := (blk_cell BK294.out 4).trans rfl; have hcz45_5 : w44.cell? ⟨gb294, 5, none⟩ = some (.int .i64 a0_5) := (blk_cell BK294.out 5).trans rfl; have hfz45_0 := blk_frozen BK294.out 0; have hfz45_1 := blk_frozen BK294.out 1; have hfz45_2 := blk_frozen BK294.out 2; have hfz45_3 := blk_frozen BK294.out 3; have hfz45_4 := blk_frozen BK294.out 4; have hfz45_5 := blk_frozen BK294.out 5) | ((with_reducible refine gate_callee (f := 26) rfl ?_); refine goesL_ (some 108) rfl rfl Try.func26 (by kernel_rfl) rfl #[.agg #[.bool a0_0, .int .i64 a0_1, .int .i64 a0_2, .int .i64 a0_3, .int .i64 a0_4, .int .i64 a0_5], .int .i64 a1] rfl (by (try simp only [List.map_toArray, List.map_cons, List.map_nil]); first | done | rfl | (simp only [List.length_drop, List.length_take]; rfl)) ?_; (with_reducible refine (access_StoreCap.calls kj19 a0_0 a0_1 a0_2 a0_3 a0_4 a0_5 a1 t312 t313 _ A35.out).mono ?_); rintro e w46 ⟨rfl, hb⟩; refine ⟨_, rfl, ?_⟩; have n0_ := Aside0.mk (blk_below (g := gb294) (o := .cells #[.bool a0_0, .int .i64 a0_1, .int .i64 a0_2, .int .i64 a0_3, .int .i64 a0_4, .int .i64 a0_5] 23 (0, 0)) (by (with_reducible repeat (first | refine blk_drewN ?_ _ | refine blk_drew ?_ | refine blk_alloc ?_ _)); exact BK294.out) hb); have n1_ := Aside0.mk (below_step (by repeat (first | (with_reducible first | exact HB.out | apply below_alloc | apply pw_below_drewN | apply below_drew1 | refine below_set ?_ GE294.out) | exact HB.out)) hb); clear BK294; clear HB; have BK294 := n0_; have HB := n1_; clear n0_ n1_; (try clear hb); (try clear hb2); (try clear hk); (try clear hi); have hcz47_0 : w46.cell? ⟨gb294, 0, none⟩ = some (.bool a0_0) := (blk_cell BK294.out 0).trans rfl; have hcz47_1 : w46.cell? ⟨gb294, 1, none⟩ = some (.int .i64 a0_1) := (blk_cell BK294.out 1).trans rfl; have hcz47_2 : w46.cell? ⟨gb294, 2, none⟩ = some (.int .i64 a0_2) := (blk_cell BK294.out 2).trans rfl; have hcz47_3 : w46.cell? ⟨gb294, 3, none⟩ = some (.int .i64 a0_3) := (blk_cell BK294.out 3).trans rfl; have hcz47_4 : w46.cell? ⟨gb294, 4, none⟩ = some (.int .i64 a0_4) := (blk_cell BK294.out 4).trans rfl; have hcz47_5 : w46.cell? ⟨gb294, 5, none⟩ = some (.int .i64 a0_5) := (blk_cell BK294.out 5).trans rfl; have hfz47_0 := blk_frozen BK294.out 0; have hfz47_1 := blk_frozen BK294.out 1; have hfz47_2 := blk_frozen BK294.out 2; have hfz47_3 := blk_frozen BK294.out 3; have hfz47_4 := blk_frozen BK294.out 4; have hfz47_5 := blk_frozen BK294.out 5) | ((with_reducible refine gate_callee (f := 27) rfl ?_); refine goesL_ (some 114) rfl rfl Try.func27 (by kernel_rfl) rfl #[.agg #[.bool a0_0, .int .i64 a0_1, .int .i64 a0_2, .int .i64 a0_3, .int .i64 a0_4, .int .i64 a0_5], .int .i64 a1] rfl (by (try simp only [List.map_toArray, List.map_cons, List.map_nil]); first | done | rfl | (simp only [List.length_drop, List.length_take]; rfl)) ?_; (with_reducible refine (seizinref05_StoreCap.calls kj19 a0_0 a0_1 a0_2 a0_3 a0_4 a0_5 a1 t314 t315 _ A36.out).mono ?_); rintro e w48 ⟨rfl, hb⟩; refine ⟨_, rfl, ?_⟩; have n0_ := Aside0.mk (blk_below (g := gb294) (o := .cells #[.bool a0_0, .int .i64 a0_1, .int .i64 a0_2, .int .i64 a0_3, .int .i64 a0_4, .int .i64 a0_5] 23 (0, 0)) (by (with_reducible repeat (first | refine blk_drewN ?_ _ | refine blk_drew ?_ | refine blk_alloc ?_ _)); exact BK294.out) hb); have n1_ := Aside0.mk (below_step (by repeat (first | (with_reducible first | exact HB.out | apply below_alloc | apply pw_below_drewN | apply below_drew1 | refine below_set ?_ GE294.out) | exact HB.out)) hb); clear BK294; clear HB; have BK294 := n0_; have HB := n1_; clear n0_ n1_; (try clear hb); (try clear hb2); (try clear hk); (try clear hi)))
                      go_ret
                      exact ⟨by first | rfl | (simp [errW_none, errW_some] <;> rfl) | (simp [*, errW_none, errW_some] <;> rfl), by repeat (first | (with_reducible first | exact HB.out | apply below_alloc | apply pw_below_drewN | apply below_drew1 | refine below_set ?_ GE294.out) | exact HB.out)⟩
                    · rw [if_neg c40] at H
                      have c40b0 : (t312 == t314) = false := beq_eq_false_iff_ne.mpr c40
                      have c40b1 : (t312 != t314) = true := bne_iff_ne.mpr c40
                      exact absurd ((Option.some.inj H).trans hr_) (by decide)
                  · rw [if_neg c39] at H
                    have c39b0 : (t309 == t311) = false := beq_eq_false_iff_ne.mpr c39
                    have c39b1 : (t309 != t311) = true := bne_iff_ne.mpr c39
                    exact absurd ((Option.some.inj H).trans hr_) (by decide)
                · rw [if_neg c38] at H
                  have c38b0 : (t308 == t310) = false := beq_eq_false_iff_ne.mpr c38
                  have c38b1 : (t308 != t310) = true := bne_iff_ne.mpr c38
                  exact absurd ((Option.some.inj H).trans hr_) (by decide)
              · replace c37 := Bool.eq_false_iff.mpr c37
                subst c37
                have H1 : (some false) = some r := by rw [if_neg (show ¬ (false = true) by decide)] at H; exact H
                clear H
                have H := H1
                clear H1
                exact absurd ((Option.some.inj H).trans hr_) (by decide)

end Go.Proofs.Ythhiljgngedaaaa.PAcc
