-- written by a changed copy of the kit's print program, for this claim
import Derived.Test.YthhiljgngedaaaaPAccx0
import Derived.Test.YthhiljgngedaaaaPAccx1
import Derived.Test.YthhiljgngedaaaaPAccx2
import Derived.Test.YthhiljgngedaaaaPAccx3
namespace Go.Proofs.Ythhiljgngedaaaa.PAcc
open Go.RowKit Go.Proofs.YthhiljgngedaaaaW.PrintWords Go.Proofs.YthhiljgngedaaaaW.PrintLast Go.Proofs.YthhiljgngedaaaaW.PrintMore
attribute [local go_sem] max2_int min2_int max_two min_two max_three min_three max_four min_four   -- for this text's walks alone
set_option linter.unusedVariables false
set_option linter.unusedSimpArgs false

attribute [local go_sem high] eqA23
theorem q1_ {g : Nat} {o : Obj} {w0 W w2 : World} (_B : Aside0 (w0.heap[g]? = some o)) (hb : Below W.heap.size W w2) (m : W.heap[g]? = some o := by (with_reducible repeat (first | refine blk_drewN ?_ _ | refine blk_drew ?_ | refine blk_alloc ?_ _)); exact Aside0.out (by assumption)) : Aside0 (w2.heap[g]? = some o) := ⟨blk_below m hb⟩
theorem q2_ {w w0 W w2 : World} (_B : Aside0 (Below w.heap.size w w0)) (hb : Below W.heap.size W w2) (m : Below w.heap.size w W := by repeat (first | (with_reducible first | exact Aside0.out (by assumption) | apply below_alloc | apply pw_below_drewN | apply below_drew1 | refine below_set ?_ (Aside0.out (by assumption))) | exact Aside0.out (by assumption))) : Aside0 (Below w.heap.size w w2) := ⟨below_step m hb⟩
theorem q3_ {g : Nat} {o : Obj} {w0 W : World} (_B : Aside0 (w0.heap[g]? = some o)) (m : W.heap[g]? = some o := by (with_reducible repeat (first | refine blk_drewN ?_ _ | refine blk_drew ?_ | refine blk_alloc ?_ _)); exact Aside0.out (by assumption)) : Aside0 (W.heap[g]? = some o) := ⟨m⟩
theorem q4_ {α : Type} (l : List α) (i : Nat) (a : α) : l.toArray.setIfInBounds i a = (l.set i a).toArray := List.setIfInBounds_toArray _ _ _
theorem q5_ {α : Type} (b : α) (l : List α) (a : α) : (b :: l).set 0 a = a :: l := rfl
theorem q6_ {α : Type} (b : α) (l : List α) (i : Nat) (a : α) : (b :: l).set (i + 1) a = b :: l.set i a := rfl
theorem q7_ {w : World} {g : Nat} {t : TypeId} {cs : Array Value} (h : Aside0 (w.heap[g]? = some (.cells cs t (0, 0)))) (i : Nat) {v : Value} (hv : cs[i]? = some v) : w.cell? ⟨g, i, none⟩ = some v := (blk_cell h.out i).trans hv
theorem q8_ {W : World} {g g' i j : Nat} {u : Value} (h : Aside0 (g ≠ g')) : (W.setCell ⟨g', j, none⟩ u).cell? ⟨g, i, none⟩ = W.cell? ⟨g, i, none⟩ := cell_far (p := ⟨g', j, none⟩) h.out u
abbrev m0_ : Array Bool := #[false, false, false, false, false, false, false, false, false, false, false, false, false]
abbrev m1_ : Array Bool := #[false, true, false, false, false, false, false, false, false, false, false, false, false]
abbrev m2_ : Array Bool := #[false, true, true, false, false, false, false, false, false, false, false, false, false]
abbrev m3_ : Array Bool := #[false, true, true, true, false, false, false, false, false, false, false, false, false]
abbrev m4_ : Array Bool := #[true, true, true, true, false, false, false, false, false, false, false, false, false]
abbrev m5_ : Array Bool := #[true, true, true, true, true, false, false, false, false, false, false, false, false]
abbrev m6_ : Array Bool := #[true, true, true, true, true, true, false, false, false, false, false, false, false]
abbrev m7_ : Array Bool := #[true, true, true, true, true, true, true, true, true, true, true, false, false]
abbrev m8_ : Array Bool := #[true, true, true, true, true, true, true, false, false, false, false, false, false]
abbrev m9_ : Array Bool := #[true, true, true, true, true, true, false, false, false, false, true, false, false]
abbrev m10_ : Array Bool := #[true, true, true, true, true, true, true, true, false, false, false, false, false]
abbrev m11_ : Array Bool := #[true, true, true, true, true, true, true, true, true, false, false, false, false]
abbrev m12_ : Array Bool := #[true, true, true, true, true, true, true, true, true, true, false, false, false]
abbrev m13_ : Array Bool := #[true, true, true, true, true, true, true, false, false, false, true, false, false]
abbrev m14_ : Array Bool := #[true, true, true, true, true, true, true, true, false, false, true, false, false]
abbrev m15_ : Array Bool := #[true, true, true, true, true, true, true, true, true, false, true, false, false]
abbrev m16_ : Array Bool := #[true, true, true, true, true, true, true, true, true, true, true, true, false]
abbrev m17_ : Array Bool := #[true, true, true, true, true, true, true, true, true, true, true, true, true]
abbrev m18_ : Array Bool := #[false, false, false, false, false, false, false, false, false, false, false, false, false, false]
abbrev m19_ : Array Bool := #[false, true, false, false, false, false, false, false, false, false, false, false, false, false]
abbrev m20_ : Array Bool := #[false, true, true, false, false, false, false, false, false, false, false, false, false, false]
abbrev m21_ : Array Bool := #[false, true, true, true, false, false, false, false, false, false, false, false, false, false]
abbrev m22_ : Array Bool := #[true, true, true, true, false, false, false, false, false, false, false, false, false, false]
abbrev m23_ : Array Bool := #[true, true, true, true, true, false, false, false, false, false, false, false, false, false]
abbrev m24_ : Array Bool := #[true, true, true, true, true, true, false, false, false, false, false, false, false, false]
abbrev m25_ : Array Bool := #[true, true, true, true, true, true, true, false, false, false, false, false, false, false]
abbrev m26_ : Array Bool := #[true, true, true, true, true, true, true, true, true, true, true, true, false, false]
abbrev m27_ : Array Bool := #[true, true, true, true, true, true, true, true, false, false, false, false, false, false]
abbrev m28_ : Array Bool := #[true, true, true, true, true, true, true, false, false, false, false, true, false, false]
abbrev m29_ : Array Bool := #[true, true, true, true, true, true, true, true, true, false, false, false, false, false]
abbrev m30_ : Array Bool := #[true, true, true, true, true, true, true, true, true, true, false, false, false, false]
abbrev m31_ : Array Bool := #[true, true, true, true, true, true, true, true, true, true, true, false, false, false]
abbrev m32_ : Array Bool := #[true, true, true, true, true, true, true, true, false, false, false, true, false, false]
abbrev m33_ : Array Bool := #[true, true, true, true, true, true, true, true, true, false, false, true, false, false]
abbrev m34_ : Array Bool := #[true, true, true, true, true, true, true, true, true, true, false, true, false, false]
abbrev m35_ : Array Bool := #[true, true, true, true, true, true, true, true, true, true, true, true, true, false]
abbrev m36_ : Array Bool := #[true, true, true, true, true, true, true, true, true, true, true, true, true, true]
/-! ### seizinlaw05_AccessSteps: function 6 -/
def seizinlaw05_AccessSteps.l0 : Nat → List Int → Bool → Int → Bool → Int → Int → Int → Int → Int → Bool → Int → Int → Int → Int → Int → Option (Bool)
 | 0, _, _, _, _, _, _, _, _, _, _, _, _, _, _, _ => none
 | k + 1, x1, x5, x7, x203000, x203001, x203002, x203003, x203004, x203005, x205000, x205001, x205002, x205003, x205004, x205005 => if x7 < (x1.length : Int) then (if 0 ≤ x7 then ((access_Step.f x205000 x205001 x205002 x205003 x205004 x205005 (wrap64 (rd x1 x7))).bind fun bt206 => (if bt206.2.2.2.2.2.2 = true then ((access_Step.f bt206.1 bt206.2.1 bt206.2.2.1 bt206.2.2.2.1 bt206.2.2.2.2.1 bt206.2.2.2.2.2.1 (wrap64 (-(wrap64 (rd x1 x7))))).bind fun bt215 => (if bt206.2.2.2.1 < x203001 then (some false) else (if bt206.2.2.2.1 > x203002 then (some false) else (if bt215.2.2.2.2.2.2 = true then (if (!(bt215.1 == x205000) || (!(bt215.2.1 == x205001) || (!(bt215.2.2.1 == x205002) || (!(bt215.2.2.2.1 == x205003) || (!(bt215.2.2.2.2.1 == x205004) || (!(bt215.2.2.2.2.2.1 == x205005))))))) = true then (some false) else (seizinlaw05_AccessSteps.l0 k x1 x5 (wrap64 (x7 + 1)) x203000 x203001 x203002 x203003 x203004 x203005 bt206.1 bt206.2.1 bt206.2.2.1 bt206.2.2.2.1 bt206.2.2.2.2.1 bt206.2.2.2.2.2.1)) else (if x205003 ≥ x203001 then (if x205003 ≤ x203002 then (some false) else (seizinlaw05_AccessSteps.l0 k x1 x5 (wrap64 (x7 + 1)) x203000 x203001 x203002 x203003 x203004 x203005 bt206.1 bt206.2.1 bt206.2.2.1 bt206.2.2.2.1 bt206.2.2.2.2.1 bt206.2.2.2.2.2.1)) else (seizinlaw05_AccessSteps.l0 k x1 x5 (wrap64 (x7 + 1)) x203000 x203001 x203002 x203003 x203004 x203005 bt206.1 bt206.2.1 bt206.2.2.1 bt206.2.2.2.1 bt206.2.2.2.2.1 bt206.2.2.2.2.2.1)))))) else (seizinlaw05_AccessSteps.l0 k x1 x5 (wrap64 (x7 + 1)) x203000 x203001 x203002 x203003 x203004 x203005 x205000 x205001 x205002 x205003 x205004 x205005))) else (none)) else (if x5 = true then (some (x205000 == x203000 && (x205001 == x203001 && (x205002 == x203002 && (x205004 == x203004 && (x205005 == x203005)))))) else (some false))
def seizinlaw05_AccessSteps.f (k : Nat) (a0_0 : Bool) (a0_1 : Int) (a0_2 : Int) (a0_3 : Int) (a0_4 : Int) (a0_5 : Int) (l1 : List Int) : Option (Bool) := (seizinlaw05_head.f k).bind fun t203 => (if (l1.length : Int) > 500 then (some t203) else (seizinlaw05_AccessSteps.l0 k l1 t203 0 a0_0 a0_1 a0_2 a0_3 a0_4 a0_5 a0_0 a0_1 a0_2 a0_3 a0_4 a0_5))
theorem seizinlaw05_AccessSteps.mono_l : ∀ k, (∀ y0 y1 y2 y3 y4 y5 y6 y7 y8 y9 y10 y11 y12 y13 y14, LeO (seizinlaw05_AccessSteps.l0 k y0 y1 y2 y3 y4 y5 y6 y7 y8 y9 y10 y11 y12 y13 y14) (seizinlaw05_AccessSteps.l0 (k + 1) y0 y1 y2 y3 y4 y5 y6 y7 y8 y9 y10 y11 y12 y13 y14))
 | 0 => fun _ _ _ _ _ _ _ _ _ _ _ _ _ _ _ r h => by simp [seizinlaw05_AccessSteps.l0] at h
 | k + 1 => by
  have ih0 := seizinlaw05_AccessSteps.mono_l k
  ·intro y0 y1 y2 y3 y4 y5 y6 y7 y8 y9 y10 y11 y12 y13 y14
   unfold seizinlaw05_AccessSteps.l0
   repeat' first
   | (with_reducible exact ih0 _ _ _ _ _ _ _ _ _ _ _ _ _ _ _)
   | (with_reducible exact seizinlaw05_head.mono _)
   | (with_reducible exact LeO.refl _)
   | (with_reducible exact LeO.none _)
   | (with_reducible refine LeO.ite ?_ ?_)
   | (with_reducible refine LeO.bind ?_ (fun _ => ?_))
   | exact ih0 _ _ _ _ _ _ _ _ _ _ _ _ _ _ _
   | exact seizinlaw05_head.mono _
   | exact LeO.none _
   | refine LeO.ite ?_ ?_
   | refine LeO.bind ?_ (fun _ => ?_)
theorem seizinlaw05_AccessSteps.mono : ∀ a0 a1 a2 a3 a4 a5 a6 k, LeO (seizinlaw05_AccessSteps.f k a0 a1 a2 a3 a4 a5 a6) (seizinlaw05_AccessSteps.f (k + 1) a0 a1 a2 a3 a4 a5 a6) := by
 intro a0 a1 a2 a3 a4 a5 a6 k
 have ih0 := seizinlaw05_AccessSteps.mono_l k
 unfold seizinlaw05_AccessSteps.f
 repeat' first
   | (with_reducible exact ih0 _ _ _ _ _ _ _ _ _ _ _ _ _ _ _)
   | (with_reducible exact seizinlaw05_head.mono _)
   | (with_reducible exact LeO.refl _)
   | (with_reducible exact LeO.none _)
   | (with_reducible refine LeO.ite ?_ ?_)
   | (with_reducible refine LeO.bind ?_ (fun _ => ?_))
   | exact ih0 _ _ _ _ _ _ _ _ _ _ _ _ _ _ _
   | exact seizinlaw05_head.mono _
   | exact LeO.none _
   | refine LeO.ite ?_ ?_
   | refine LeO.bind ?_ (fun _ => ?_)
def seizinlaw05_AccessSteps.T8 : Bool × List (List Nat × List Nat) := (true, [([], []), ([], []), ([], []), ([1, 2], [1, 2]), ([3], [3]), ([4], [4]), ([0, 5], [0, 5]), ([6], [6]), ([7], [7]), ([7], [7]), ([], []), ([10, 8, 6, 0, 1, 2, 3, 4, 5, 6, 7, 8, 10], [8, 10]), ([9, 11, 0, 1, 2, 3, 4, 5, 6, 7, 8, 9, 10, 11], [9])])
def seizinlaw05_AccessSteps.B8 : List Nat := [0, 0, 0, 6, 14, 30, 63, 127, 255, 255, 0, 1535, 4095]
theorem seizinlaw05_AccessSteps.tab8 : rtab .any (opsOf Try.f6 8) = seizinlaw05_AccessSteps.T8 := by kernel_rfl
theorem seizinlaw05_AccessSteps.bits8 : waitsOk seizinlaw05_AccessSteps.T8.2 seizinlaw05_AccessSteps.B8 = true := by kernel_rfl
def seizinlaw05_AccessSteps.T10 : Bool × List (List Nat × List Nat) := (true, [([], []), ([], []), ([], []), ([1, 2], [1, 2]), ([3], [3]), ([4], [4]), ([5], [5]), ([0, 6], [0, 6]), ([7], [7]), ([8], [8]), ([8], [8]), ([], []), ([11, 9, 7, 0, 1, 2, 3, 4, 5, 6, 7, 8, 9, 11], [9, 11]), ([10, 12, 0, 1, 2, 3, 4, 5, 6, 7, 8, 9, 10, 11, 12], [10])])
def seizinlaw05_AccessSteps.B10 : List Nat := [0, 0, 0, 6, 14, 30, 62, 127, 255, 511, 511, 0, 3071, 8191]
theorem seizinlaw05_AccessSteps.tab10 : rtab .any (opsOf Try.f6 10) = seizinlaw05_AccessSteps.T10 := by kernel_rfl
theorem seizinlaw05_AccessSteps.bits10 : waitsOk seizinlaw05_AccessSteps.T10.2 seizinlaw05_AccessSteps.B10 = true := by kernel_rfl
set_option maxHeartbeats 8000000 in
set_option maxRecDepth 100000 in
theorem seizinlaw05_AccessSteps.calls (k : Nat) (a0_0 : Bool) (a0_1 : Int) (a0_2 : Int) (a0_3 : Int) (a0_4 : Int) (a0_5 : Int) (A1 : Option Addr) (c1 : Nat) (l1 : List Int) (r : Bool) (w : World) (hr1 : Kd.C (Kd.int .i16) w A1 l1.length l1) (hc1 : l1.length ≤ c1) (h : seizinlaw05_AccessSteps.f k a0_0 a0_1 a0_2 a0_3 a0_4 a0_5 l1 = some r) (hr_ : r = true) :
  Calls Try.prog 6 #[.agg #[.bool a0_0, .int .i64 a0_1, .int .i64 a0_2, .int .i64 a0_3, .int .i64 a0_4, .int .i64 a0_5], .slice A1 l1.length c1] w fun e w' => e = .returned (.bool r) ∧ Below w.heap.size w w' := by
 have hu23 := Try.underlying23
 have HR1 := Aside0.mk hr1
 have HC1 := Aside0.mk hc1
 clear hr1 hc1
 have HB := Aside0.mk (Below.refl w.heap.size w)
 have H : ((seizinlaw05_head.f k).bind fun t203 => (if (l1.length : Int) > 500 then (some t203) else (seizinlaw05_AccessSteps.l0 k l1 t203 0 a0_0 a0_1 a0_2 a0_3 a0_4 a0_5 a0_0 a0_1 a0_2 a0_3 a0_4 a0_5))) = some r := h
 clear h
 replace H := Option.bind_eq_some_iff.mp H
 obtain ⟨t203, A30, H⟩ := H
 replace H : (if (l1.length : Int) > 500 then (some t203) else (seizinlaw05_AccessSteps.l0 k l1 t203 0 a0_0 a0_1 a0_2 a0_3 a0_4 a0_5 a0_0 a0_1 a0_2 a0_3 a0_4 a0_5)) = some r := H
 have A3 := Aside0.mk A30
 clear A30
 by_cases c4 : (l1.length : Int) > 500
 ·rw [if_pos c4] at H
  have c4b0 : decide (500 < (l1.length : Int)) = true := decide_eq_true c4
  have c4b1 : decide (500 < l1.length) = true := decide_eq_true (by omega)
  clear c4
  clear hr_
  obtain rfl := Option.some.inj H
  go_enter Try.func6, Try.ntmps6
  go_wp2_with (first | ((with_reducible refine gate_dst (N := 2) rfl ?_); refine box_event ?hg (N := 2) ?hd (cs := #[.bool a0_0, .int .i64 a0_1, .int .i64 a0_2, .int .i64 a0_3, .int .i64 a0_4, .int .i64 a0_5]) (t := 23) ?hr ?_; (case hd => rfl); (case hg => rfl); (case hr => first | (go_simp; done) | (go_simp; rfl)); intro gb202 hg w5 hbox hb; have n0_ := q2_ HB hb; have n1_ := Aside0.mk (hbox); have n2_ := Aside0.mk ((by rw [hg]; exact (below_size (by repeat (first | (with_reducible first | exact HB.out | apply below_alloc | apply pw_below_drewN | apply below_drew1) | exact HB.out))) : w.heap.size ≤ gb202)); have n3_ := Aside0.mk ((by rw [hg]; exact (below_size (by repeat (first | (with_reducible first | exact HB.out | apply below_alloc | apply pw_below_drewN | apply below_drew1) | exact HB.out))) : w.heap.size ≤ gb202)); clear HB; have HB := n0_; have BK202 := n1_; have GW202 := n2_; have GE202 := n3_; clear n0_ n1_ n2_ n3_; clear hb hbox hg) | ((with_reducible refine gate_callee (f := 10) rfl ?_); refine goesL_ (some 12) rfl rfl Try.func10 (by kernel_rfl) rfl #[] rfl (by (try simp only [List.map_toArray, List.map_cons, List.map_nil]); first | done | rfl | (simp only [List.length_drop, List.length_take]; rfl)) ?_; (with_reducible refine (seizinlaw05_head.calls k  t203 _ A3.out).mono ?_); rintro e w6 ⟨rfl, hb⟩; refine ⟨_, rfl, ?_⟩; have n0_ := q1_ BK202 hb; have n1_ := q2_ HB hb; clear BK202; clear HB; have BK202 := n0_; have HB := n1_; clear n0_ n1_; (try clear hb); (try clear hb2); (try clear hk); (try clear hi)))
  go_ret
  exact ⟨by first | rfl | (simp [errW_none, errW_some] <;> rfl) | (simp [*, errW_none, errW_some] <;> rfl), by repeat (first | (with_reducible first | exact HB.out | apply below_alloc | apply pw_below_drewN | apply below_drew1 | refine below_set ?_ GE202.out) | exact HB.out)⟩
 ·rw [if_neg c4] at H
  have c4b0 : decide (500 < (l1.length : Int)) = false := decide_eq_false c4
  have c4b1 : decide (500 < l1.length) = false := decide_eq_false (by omega)
  clear c4
  have H' := Aside0.mk H
  clear H
  go_enter Try.func6, Try.ntmps6
  go_wp2_with (first | ((with_reducible refine gate_dst (N := 2) rfl ?_); refine box_event ?hg (N := 2) ?hd (cs := #[.bool a0_0, .int .i64 a0_1, .int .i64 a0_2, .int .i64 a0_3, .int .i64 a0_4, .int .i64 a0_5]) (t := 23) ?hr ?_; (case hd => rfl); (case hg => rfl); (case hr => first | (go_simp; done) | (go_simp; rfl)); intro gb202 hg w7 hbox hb; have n0_ := q2_ HB hb; have n1_ := Aside0.mk (hbox); have n2_ := Aside0.mk ((by rw [hg]; exact (below_size (by repeat (first | (with_reducible first | exact HB.out | apply below_alloc | apply pw_below_drewN | apply below_drew1) | exact HB.out))) : w.heap.size ≤ gb202)); have n3_ := Aside0.mk ((by rw [hg]; exact (below_size (by repeat (first | (with_reducible first | exact HB.out | apply below_alloc | apply pw_below_drewN | apply below_drew1) | exact HB.out))) : w.heap.size ≤ gb202)); clear HB; have HB := n0_; have BK202 := n1_; have GW202 := n2_; have GE202 := n3_; clear n0_ n1_ n2_ n3_; clear hb hbox hg) | ((with_reducible refine gate_callee (f := 10) rfl ?_); refine goesL_ (some 12) rfl rfl Try.func10 (by kernel_rfl) rfl #[] rfl (by (try simp only [List.map_toArray, List.map_cons, List.map_nil]); first | done | rfl | (simp only [List.length_drop, List.length_take]; rfl)) ?_; (with_reducible refine (seizinlaw05_head.calls k  t203 _ A3.out).mono ?_); rintro e w8 ⟨rfl, hb⟩; refine ⟨_, rfl, ?_⟩; have n0_ := q1_ BK202 hb; have n1_ := q2_ HB hb; clear BK202; clear HB; have BK202 := n0_; have HB := n1_; clear n0_ n1_; (try clear hb); (try clear hb2); (try clear hk); (try clear hi); have hcz9_0 : w8.cell? ⟨gb202, 0, none⟩ = some (.bool a0_0) := q7_ BK202 0 rfl; have hcz9_1 : w8.cell? ⟨gb202, 1, none⟩ = some (.int .i64 a0_1) := q7_ BK202 1 rfl; have hcz9_2 : w8.cell? ⟨gb202, 2, none⟩ = some (.int .i64 a0_2) := q7_ BK202 2 rfl; have hcz9_3 : w8.cell? ⟨gb202, 3, none⟩ = some (.int .i64 a0_3) := q7_ BK202 3 rfl; have hcz9_4 : w8.cell? ⟨gb202, 4, none⟩ = some (.int .i64 a0_4) := q7_ BK202 4 rfl; have hcz9_5 : w8.cell? ⟨gb202, 5, none⟩ = some (.int .i64 a0_5) := q7_ BK202 5 rfl; have hfz9_0 := blk_frozen BK202.out 0; have hfz9_1 := blk_frozen BK202.out 1; have hfz9_2 := blk_frozen BK202.out 2; have hfz9_3 := blk_frozen BK202.out 3; have hfz9_4 := blk_frozen BK202.out 4; have hfz9_5 := blk_frozen BK202.out 5) | ((with_reducible refine gate_dst (N := 6) rfl ?_); refine box_event ?hg (N := 6) ?hd (cs := #[.bool false, .int .i64 0, .int .i64 0, .int .i64 0, .int .i64 0, .int .i64 0]) (t := 23) ?hr ?_; (case hd => rfl); (case hg => rfl); (case hr => first | (go_simp; done) | (go_simp; rfl)); intro gb204 hg w10 hbox hb; have n0_ := q1_ BK202 hb; have n1_ := q2_ HB hb; have n2_ := Aside0.mk (hbox); have n3_ := Aside0.mk ((by rw [hg]; exact (below_size (by repeat (first | (with_reducible first | exact HB.out | apply below_alloc | apply pw_below_drewN | apply below_drew1 | refine below_set ?_ GE202.out) | exact HB.out))) : w.heap.size ≤ gb204)); have n4_ := Aside0.mk ((by rw [hg]; exact (below_size (by repeat (first | (with_reducible first | exact HB.out | apply below_alloc | apply pw_below_drewN | apply below_drew1 | refine below_set ?_ GE202.out) | exact HB.out))) : w.heap.size ≤ gb204)); have n5_ := Aside0.mk ((by rw [hg]; exact Nat.ne_of_lt (blk_lt (g := gb202) (o := .cells #[.bool a0_0, .int .i64 a0_1, .int .i64 a0_2, .int .i64 a0_3, .int .i64 a0_4, .int .i64 a0_5] 23 (0, 0)) (q3_ BK202).out) : gb202 ≠ gb204)); have n6_ := Aside0.mk ((by rw [hg]; exact Nat.ne_of_gt (blk_lt (g := gb202) (o := .cells #[.bool a0_0, .int .i64 a0_1, .int .i64 a0_2, .int .i64 a0_3, .int .i64 a0_4, .int .i64 a0_5] 23 (0, 0)) (q3_ BK202).out) : gb204 ≠ gb202)); clear BK202; clear HB; have BK202 := n0_; have HB := n1_; have BK204 := n2_; have GW204 := n3_; have GE204 := n4_; have NB202_204 := n5_; have NB204_202 := n6_; clear n0_ n1_ n2_ n3_ n4_ n5_ n6_; clear hb hbox hg; have hnb11 := NB204_202.out; have hnc11 := NB202_204.out; have hcz12_0 : w10.cell? ⟨gb204, 0, none⟩ = some (.bool false) := q7_ BK204 0 rfl; have hcz12_1 : w10.cell? ⟨gb204, 1, none⟩ = some (.int .i64 0) := q7_ BK204 1 rfl; have hcz12_2 : w10.cell? ⟨gb204, 2, none⟩ = some (.int .i64 0) := q7_ BK204 2 rfl; have hcz12_3 : w10.cell? ⟨gb204, 3, none⟩ = some (.int .i64 0) := q7_ BK204 3 rfl; have hcz12_4 : w10.cell? ⟨gb204, 4, none⟩ = some (.int .i64 0) := q7_ BK204 4 rfl; have hcz12_5 : w10.cell? ⟨gb204, 5, none⟩ = some (.int .i64 0) := q7_ BK204 5 rfl; have hfz12_0 := blk_frozen BK204.out 0; have hfz12_1 := blk_frozen BK204.out 1; have hfz12_2 := blk_frozen BK204.out 2; have hfz12_3 := blk_frozen BK204.out 3; have hfz12_4 := blk_frozen BK204.out 4; have hfz12_5 := blk_frozen BK204.out 5))
  go_loopg [7] k (fun kq v7 w' => ∃ (x7_1 : Int) (x205000_1 : Bool) (x205001_1 : Int) (x205002_1 : Int) (x205003_1 : Int) (x205004_1 : Int) (x205005_1 : Int), v7 = .int .i64 x7_1 ∧ Aside0 (seizinlaw05_AccessSteps.l0 kq l1 t203 x7_1 a0_0 a0_1 a0_2 a0_3 a0_4 a0_5 x205000_1 x205001_1 x205002_1 x205003_1 x205004_1 x205005_1 = some r) ∧ Aside0 (kq ≤ k) ∧ Aside0 (w'.heap[gb202]? = some (.cells #[.bool a0_0, .int .i64 a0_1, .int .i64 a0_2, .int .i64 a0_3, .int .i64 a0_4, .int .i64 a0_5] 23 (0, 0))) ∧ Aside0 (w'.heap[gb204]? = some (.cells #[.bool x205000_1, .int .i64 x205001_1, .int .i64 x205002_1, .int .i64 x205003_1, .int .i64 x205004_1, .int .i64 x205005_1] 23 (0, 0))) ∧ Aside0 (Below w.heap.size w w'))
  case atStart => exact ⟨(0), (a0_0), (a0_1), (a0_2), (a0_3), (a0_4), (a0_5), (by first | rfl | (simp; done) | (simp [*]; done)), H', ⟨Nat.le_refl _⟩, ⟨by (with_reducible repeat (first | refine blk_drewN ?_ _ | refine blk_drew ?_ | refine blk_alloc ?_ _)); refine blk_far ?_ NB202_204.out _; (with_reducible repeat (first | refine blk_drewN ?_ _ | refine blk_drew ?_ | refine blk_alloc ?_ _)); refine blk_far ?_ NB202_204.out _; (with_reducible repeat (first | refine blk_drewN ?_ _ | refine blk_drew ?_ | refine blk_alloc ?_ _)); refine blk_far ?_ NB202_204.out _; (with_reducible repeat (first | refine blk_drewN ?_ _ | refine blk_drew ?_ | refine blk_alloc ?_ _)); refine blk_far ?_ NB202_204.out _; (with_reducible repeat (first | refine blk_drewN ?_ _ | refine blk_drew ?_ | refine blk_alloc ?_ _)); refine blk_far ?_ NB202_204.out _; (with_reducible repeat (first | refine blk_drewN ?_ _ | refine blk_drew ?_ | refine blk_alloc ?_ _)); refine blk_far ?_ NB202_204.out _; (with_reducible repeat (first | refine blk_drewN ?_ _ | refine blk_drew ?_ | refine blk_alloc ?_ _)); exact BK202.out⟩, ⟨by (with_reducible repeat (first | refine blk_drewN ?_ _ | refine blk_drew ?_ | refine blk_alloc ?_ _)); refine blk_put (cs := #[.bool a0_0, .int .i64 a0_1, .int .i64 a0_2, .int .i64 a0_3, .int .i64 a0_4, .int .i64 0]) ?_ 5 _ rfl; (with_reducible repeat (first | refine blk_drewN ?_ _ | refine blk_drew ?_ | refine blk_alloc ?_ _)); refine blk_put (cs := #[.bool a0_0, .int .i64 a0_1, .int .i64 a0_2, .int .i64 a0_3, .int .i64 0, .int .i64 0]) ?_ 4 _ rfl; (with_reducible repeat (first | refine blk_drewN ?_ _ | refine blk_drew ?_ | refine blk_alloc ?_ _)); refine blk_put (cs := #[.bool a0_0, .int .i64 a0_1, .int .i64 a0_2, .int .i64 0, .int .i64 0, .int .i64 0]) ?_ 3 _ rfl; (with_reducible repeat (first | refine blk_drewN ?_ _ | refine blk_drew ?_ | refine blk_alloc ?_ _)); refine blk_put (cs := #[.bool a0_0, .int .i64 a0_1, .int .i64 0, .int .i64 0, .int .i64 0, .int .i64 0]) ?_ 2 _ rfl; (with_reducible repeat (first | refine blk_drewN ?_ _ | refine blk_drew ?_ | refine blk_alloc ?_ _)); refine blk_put (cs := #[.bool a0_0, .int .i64 0, .int .i64 0, .int .i64 0, .int .i64 0, .int .i64 0]) ?_ 1 _ rfl; (with_reducible repeat (first | refine blk_drewN ?_ _ | refine blk_drew ?_ | refine blk_alloc ?_ _)); refine blk_put (cs := #[.bool false, .int .i64 0, .int .i64 0, .int .i64 0, .int .i64 0, .int .i64 0]) ?_ 0 _ rfl; (with_reducible repeat (first | refine blk_drewN ?_ _ | refine blk_drew ?_ | refine blk_alloc ?_ _)); exact BK204.out⟩, ⟨by repeat (first | (with_reducible first | exact HB.out | apply below_alloc | apply pw_below_drewN | apply below_drew1 | refine below_set ?_ GE202.out | refine below_set ?_ GE204.out) | exact HB.out)⟩⟩
  case round =>
   clear H'
   try clear c1
   try clear p2
   try clear c4
   try clear c4b0
   try clear c4b1
   try clear c6
   try clear c10
   try clear c11
   try clear hcz12_0
   try clear hcz12_1
   try clear hcz12_2
   try clear hcz12_3
   try clear hcz12_4
   try clear hcz12_5
   try clear hcz9_0
   try clear hcz9_1
   try clear hcz9_2
   try clear hcz9_3
   try clear hcz9_4
   try clear hcz9_5
   try clear hfz12_0
   try clear hfz12_1
   try clear hfz12_2
   try clear hfz12_3
   try clear hfz12_4
   try clear hfz12_5
   try clear hfz9_0
   try clear hfz9_1
   try clear hfz9_2
   try clear hfz9_3
   try clear hfz9_4
   try clear hfz9_5
   obtain ⟨x7_1, x205000_1, x205001_1, x205002_1, x205003_1, x205004_1, x205005_1, rfl, HA, HK1, BK202, BK204, HB⟩ := hrel
   cases gk with
   | zero => exact absurd HA.out (by simp [seizinlaw05_AccessSteps.l0])
   | succ k1 =>
    have H := HA.out
    clear HA
    simp only [seizinlaw05_AccessSteps.l0] at H
    by_cases c13 : x7_1 < (l1.length : Int)
    ·rw [if_pos c13] at H
     have c13b0 : decide (x7_1 < (l1.length : Int)) = true := decide_eq_true c13
     clear c13
     by_cases c14 : 0 ≤ x7_1
     ·rw [if_pos c14] at H
      have c14b0 : decide (0 ≤ x7_1) = true := decide_eq_true c14
      clear c14
      replace H := Option.bind_eq_some_iff.mp H
      obtain ⟨⟨t206, t207, t208, t209, t210, t211, t212⟩, A150, H⟩ := H
      replace H : (if t212 = true then ((access_Step.f t206 t207 t208 t209 t210 t211 (wrap64 (-(wrap64 (rd l1 x7_1))))).bind fun bt215 => (if t209 < a0_1 then (some false) else (if t209 > a0_2 then (some false) else (if bt215.2.2.2.2.2.2 = true then (if (!(bt215.1 == x205000_1) || (!(bt215.2.1 == x205001_1) || (!(bt215.2.2.1 == x205002_1) || (!(bt215.2.2.2.1 == x205003_1) || (!(bt215.2.2.2.2.1 == x205004_1) || (!(bt215.2.2.2.2.2.1 == x205005_1))))))) = true then (some false) else (seizinlaw05_AccessSteps.l0 k1 l1 t203 (wrap64 (x7_1 + 1)) a0_0 a0_1 a0_2 a0_3 a0_4 a0_5 t206 t207 t208 t209 t210 t211)) else (if x205003_1 ≥ a0_1 then (if x205003_1 ≤ a0_2 then (some false) else (seizinlaw05_AccessSteps.l0 k1 l1 t203 (wrap64 (x7_1 + 1)) a0_0 a0_1 a0_2 a0_3 a0_4 a0_5 t206 t207 t208 t209 t210 t211)) else (seizinlaw05_AccessSteps.l0 k1 l1 t203 (wrap64 (x7_1 + 1)) a0_0 a0_1 a0_2 a0_3 a0_4 a0_5 t206 t207 t208 t209 t210 t211)))))) else (seizinlaw05_AccessSteps.l0 k1 l1 t203 (wrap64 (x7_1 + 1)) a0_0 a0_1 a0_2 a0_3 a0_4 a0_5 x205000_1 x205001_1 x205002_1 x205003_1 x205004_1 x205005_1)) = some r := H
      have A15 := Aside0.mk A150
      clear A150
      by_cases c16 : t212 = true
      ·subst c16
       have H1 : ((access_Step.f t206 t207 t208 t209 t210 t211 (wrap64 (-(wrap64 (rd l1 x7_1))))).bind fun bt215 => (if t209 < a0_1 then (some false) else (if t209 > a0_2 then (some false) else (if bt215.2.2.2.2.2.2 = true then (if (!(bt215.1 == x205000_1) || (!(bt215.2.1 == x205001_1) || (!(bt215.2.2.1 == x205002_1) || (!(bt215.2.2.2.1 == x205003_1) || (!(bt215.2.2.2.2.1 == x205004_1) || (!(bt215.2.2.2.2.2.1 == x205005_1))))))) = true then (some false) else (seizinlaw05_AccessSteps.l0 k1 l1 t203 (wrap64 (x7_1 + 1)) a0_0 a0_1 a0_2 a0_3 a0_4 a0_5 t206 t207 t208 t209 t210 t211)) else (if x205003_1 ≥ a0_1 then (if x205003_1 ≤ a0_2 then (some false) else (seizinlaw05_AccessSteps.l0 k1 l1 t203 (wrap64 (x7_1 + 1)) a0_0 a0_1 a0_2 a0_3 a0_4 a0_5 t206 t207 t208 t209 t210 t211)) else (seizinlaw05_AccessSteps.l0 k1 l1 t203 (wrap64 (x7_1 + 1)) a0_0 a0_1 a0_2 a0_3 a0_4 a0_5 t206 t207 t208 t209 t210 t211)))))) = some r := by rw [if_pos rfl] at H; exact H
       clear H
       have H := H1
       clear H1
       replace H := Option.bind_eq_some_iff.mp H
       obtain ⟨⟨t215, t216, t217, t218, t219, t220, t221⟩, A170, H⟩ := H
       replace H : (if t209 < a0_1 then (some false) else (if t209 > a0_2 then (some false) else (if t221 = true then (if (!(t215 == x205000_1) || (!(t216 == x205001_1) || (!(t217 == x205002_1) || (!(t218 == x205003_1) || (!(t219 == x205004_1) || (!(t220 == x205005_1))))))) = true then (some false) else (seizinlaw05_AccessSteps.l0 k1 l1 t203 (wrap64 (x7_1 + 1)) a0_0 a0_1 a0_2 a0_3 a0_4 a0_5 t206 t207 t208 t209 t210 t211)) else (if x205003_1 ≥ a0_1 then (if x205003_1 ≤ a0_2 then (some false) else (seizinlaw05_AccessSteps.l0 k1 l1 t203 (wrap64 (x7_1 + 1)) a0_0 a0_1 a0_2 a0_3 a0_4 a0_5 t206 t207 t208 t209 t210 t211)) else (seizinlaw05_AccessSteps.l0 k1 l1 t203 (wrap64 (x7_1 + 1)) a0_0 a0_1 a0_2 a0_3 a0_4 a0_5 t206 t207 t208 t209 t210 t211))))) = some r := H
       have A17 := Aside0.mk A170
       clear A170
       by_cases c18 : t209 < a0_1
       ·rw [if_pos c18] at H
        have c18b0 : decide (t209 < a0_1) = true := decide_eq_true c18
        clear c18
        exact absurd ((Option.some.inj H).trans hr_) (by decide)
       ·rw [if_neg c18] at H
        have c18b0 : decide (t209 < a0_1) = false := decide_eq_false c18
        clear c18
        by_cases c19 : t209 > a0_2
        ·rw [if_pos c19] at H
         have c19b0 : decide (a0_2 < t209) = true := decide_eq_true c19
         clear c19
         exact absurd ((Option.some.inj H).trans hr_) (by decide)
        ·rw [if_neg c19] at H
         have c19b0 : decide (a0_2 < t209) = false := decide_eq_false c19
         clear c19
         by_cases c20 : t221 = true
         ·subst c20
          have H1 : (if (!(t215 == x205000_1) || (!(t216 == x205001_1) || (!(t217 == x205002_1) || (!(t218 == x205003_1) || (!(t219 == x205004_1) || (!(t220 == x205005_1))))))) = true then (some false) else (seizinlaw05_AccessSteps.l0 k1 l1 t203 (wrap64 (x7_1 + 1)) a0_0 a0_1 a0_2 a0_3 a0_4 a0_5 t206 t207 t208 t209 t210 t211)) = some r := by rw [if_pos rfl] at H; exact H
          clear H
          have H := H1
          clear H1
          by_cases c21 : (!(t215 == x205000_1) || (!(t216 == x205001_1) || (!(t217 == x205002_1) || (!(t218 == x205003_1) || (!(t219 == x205004_1) || (!(t220 == x205005_1))))))) = true
          ·rw [if_pos c21] at H
           have c21b0 : (!(t215 == x205000_1) || (!(t216 == x205001_1) || (!(t217 == x205002_1) || (!(t218 == x205003_1) || (!(t219 == x205004_1) || (!(t220 == x205005_1))))))) = true := c21
           clear c21
           exact absurd ((Option.some.inj H).trans hr_) (by decide)
          ·rw [if_neg c21] at H
           have c21b0 : (!(t215 == x205000_1) || (!(t216 == x205001_1) || (!(t217 == x205002_1) || (!(t218 == x205003_1) || (!(t219 == x205004_1) || (!(t220 == x205005_1))))))) = false := by simpa using c21
           clear c21
           have H' := Aside0.mk H
           clear H
           try go_wp2
           have n0_ := Aside0.mk (blk_drew BK202.out)
           have n1_ := Aside0.mk (blk_drew BK204.out)
           have n2_ := Aside0.mk (below_drew1 HB.out)
           clear BK202
           clear BK204
           clear HB
           have BK202 := n0_
           have BK204 := n1_
           have HB := n2_
           clear n0_ n1_ n2_
           have p205 : 0 ≤ (x7_1 : Int) := of_decide_eq_true (by first | (with_reducible assumption) | assumption)
           have q205 : x7_1 < (l1.length : Int) := of_decide_eq_true (by first | (with_reducible assumption) | assumption)
           obtain ⟨ad205, e205, hx205_0⟩ := Kd.at_int HR1.out x7_1 p205 q205
           have hw205_0 := hx205_0
           cases e205
           replace hx205_0 := (HB.out.cell (World.block_lt_of_cell? w _ hx205_0)).trans hx205_0
           replace p205 := eq_true p205
           replace q205 := eq_true q205
           refine start_ (n := 13) (S := fun w' => w'.cell? ⟨gb204, 0, none⟩ = some (.bool x205000_1) ∧ w'.cell? ⟨gb204, 1, none⟩ = some (.int .i64 x205001_1) ∧ w'.cell? ⟨gb204, 2, none⟩ = some (.int .i64 x205002_1) ∧ w'.cell? ⟨gb204, 3, none⟩ = some (.int .i64 x205003_1) ∧ w'.cell? ⟨gb204, 4, none⟩ = some (.int .i64 x205004_1) ∧ w'.cell? ⟨gb204, 5, none⟩ = some (.int .i64 x205005_1) ∧ w'.cell? (ad205.add (x7_1).toNat) = some (.int .i16 (rd l1 x7_1))) (ds := []) m0_ (by kernel_rfl) rfl rfl ⟨q7_ BK204 0 rfl, q7_ BK204 1 rfl, q7_ BK204 2 rfl, q7_ BK204 3 rfl, q7_ BK204 4 rfl, q7_ BK204 5 rfl, ((HB.out.cell (World.block_lt_of_cell? w _ hw205_0)).trans hw205_0)⟩ (fun hHeld => ?_); refine with_tabW seizinlaw05_AccessSteps.tab8 seizinlaw05_AccessSteps.bits8 (fun HT_ HW_ => ?_)
           generalize wr.drew = w22 at BK202 BK204 HB hx205_0 hHeld ⊢
           refine pure_ (i := 1) (N := some 26) (v := ?_) (a' := ?_) m1_ rfl rfl (any_of HT_.out (by kernel_rfl)) (fun _ _ _ h => h) (Or.inl ⟨by rfl, ?_⟩) ?_ ?_
           rotate_left
           ·intro w'
            go_simp
            with_reducible rfl
           rotate_left
           ·simp only [Act.put, q4_, q5_, q6_, i64_w, i32_w]
            rfl
           refine pure_ (i := 2) (N := some 27) (v := ?_) (a' := ?_) m2_ rfl rfl (any_of HT_.out (by kernel_rfl)) (fun _ _ _ h => h) (Or.inl ⟨by rfl, ?_⟩) ?_ ?_
           rotate_left
           ·intro w'
            go_simp
            with_reducible rfl
           rotate_left
           ·simp only [Act.put, q4_, q5_, q6_, i64_w, i32_w]
            rfl
           refine pure_ (i := 3) (N := some 28) (v := ?_) (a' := ?_) m3_ rfl rfl (any_of HT_.out (by kernel_rfl)) (fun _ _ _ h => h) (Or.inl ⟨by rfl, ?_⟩) ?_ ?_
           rotate_left
           ·intro w'
            go_simp
            with_reducible rfl
           rotate_left
           ·simp only [Act.put, q4_, q5_, q6_, i64_w, i32_w]
            rfl
           refine take_ (i := 0) (N := some 25) (v := ?_) (a' := ?_) m4_ rfl rfl (take_ofW HT_.out HW_.out (by kernel_rfl)) (fun _ _ _ h => h) (Or.inl ⟨by rfl, ?_⟩) hHeld ?_ ?_
           rotate_left
           ·rintro w' ⟨s0, s1, s2, s3, s4, s5, s6⟩
            go_simp
            with_reducible rfl
           rotate_left
           ·simp only [Act.put, q4_, q5_, q6_, i64_w, i32_w]
            rfl
           refine take_ (i := 4) (N := some 29) (v := ?_) (a' := ?_) m5_ rfl rfl (take_ofW HT_.out HW_.out (by kernel_rfl)) (fun _ _ _ h => h) (Or.inl ⟨by rfl, ?_⟩) hHeld ?_ ?_
           rotate_left
           ·rintro w' ⟨s0, s1, s2, s3, s4, s5, s6⟩
            go_simp
            with_reducible rfl
           rotate_left
           ·simp only [Act.put, q4_, q5_, q6_, i64_w, i32_w]
            rfl
           refine pure_ (i := 5) (N := some 30) (v := ?_) (a' := ?_) m6_ rfl rfl (any_of HT_.out (by kernel_rfl)) (fun _ _ _ h => h) (Or.inl ⟨by rfl, ?_⟩) ?_ ?_
           rotate_left
           ·intro w'
            go_simp
            with_reducible rfl
           rotate_left
           ·simp only [Act.put, q4_, q5_, q6_, i64_w, i32_w]
            rfl
           refine join_ (σ := Nat) 2 m7_ (fun s_ => [(31, .tuple #[.agg #[.bool t206, .int .i64 t207, .int .i64 t208, .int .i64 t209, .int .i64 t210, .int .i64 t211], .bool true]), (8, .pointer (some ⟨s_, 0, none⟩)), (24, .tuple #[.agg #[.bool t206, .int .i64 t207, .int .i64 t208, .int .i64 t209, .int .i64 t210, .int .i64 t211], .bool true]), (32, .agg #[.bool t206, .int .i64 t207, .int .i64 t208, .int .i64 t209, .int .i64 t210, .int .i64 t211]), (33, .bool true)]) (fun s_ w' => (w'.cell? ⟨gb204, 0, none⟩ = some (.bool x205000_1) ∧ w'.cell? ⟨gb204, 1, none⟩ = some (.int .i64 x205001_1) ∧ w'.cell? ⟨gb204, 2, none⟩ = some (.int .i64 x205002_1) ∧ w'.cell? ⟨gb204, 3, none⟩ = some (.int .i64 x205003_1) ∧ w'.cell? ⟨gb204, 4, none⟩ = some (.int .i64 x205004_1) ∧ w'.cell? ⟨gb204, 5, none⟩ = some (.int .i64 x205005_1) ∧ w'.cell? (ad205.add (x7_1).toNat) = some (.int .i16 (rd l1 x7_1))) ∧ (w'.heap[gb202]? = some (.cells #[.bool a0_0, .int .i64 a0_1, .int .i64 a0_2, .int .i64 a0_3, .int .i64 a0_4, .int .i64 a0_5] 23 (0, 0))) ∧ (w'.heap[gb204]? = some (.cells #[.bool x205000_1, .int .i64 x205001_1, .int .i64 x205002_1, .int .i64 x205003_1, .int .i64 x205004_1, .int .i64 x205005_1] 23 (0, 0))) ∧ (w'.heap[s_]? = some (.cells #[.bool false, .int .i64 0, .int .i64 0, .int .i64 0, .int .i64 0, .int .i64 0] 23 (0, 0))) ∧ (w.heap.size ≤ s_) ∧ (w.heap.size ≤ s_) ∧ (gb202 ≠ s_) ∧ (s_ ≠ gb202) ∧ (gb204 ≠ s_) ∧ (s_ ≠ gb204) ∧ (Below w.heap.size w w')) ?_ ?_
           rotate_left
           ·intro hCont
            refine two_ (i := 6) (j := 10) (Ni := some 31) (Nj := some 8) m8_ m9_ rfl rfl rfl rfl (two_of HT_.out (by kernel_rfl)) (by decide) (by decide) (fun K hK => ?_) (fun K hK => ?_)
            ·skip
             refine goes_ Try.func13 (by kernel_rfl) rfl #[.agg #[.bool x205000_1, .int .i64 x205001_1, .int .i64 x205002_1, .int .i64 x205003_1, .int .i64 x205004_1, .int .i64 x205005_1], .int .i64 (wrap64 (rd l1 x7_1))] (by rfl) rfl rfl (by (try simp only [List.map_toArray, List.map_cons, List.map_nil]); first | done | rfl | (simp only [List.length_drop, List.length_take]; rfl)) ?_
             with_reducible refine (access_Step.calls x205000_1 x205001_1 x205002_1 x205003_1 x205004_1 x205005_1 (wrap64 (rd l1 x7_1)) t206 t207 t208 t209 t210 t211 true _ A15.out).mono ?_
             rintro e w23 ⟨rfl, hb⟩
             refine ⟨_, rfl, ?_⟩
             have n0_ := q1_ BK202 hb
             have n1_ := q1_ BK204 hb
             have n2_ := q2_ HB hb
             clear BK202
             clear BK204
             clear HB
             have BK202 := n0_
             have BK204 := n1_
             have HB := n2_
             clear n0_ n1_ n2_
             (try clear hb)
             (try clear hb2)
             (try clear hk)
             (try clear hi)
             refine hK.out _ _ ⟨q7_ BK204 0 rfl, q7_ BK204 1 rfl, q7_ BK204 2 rfl, q7_ BK204 3 rfl, q7_ BK204 4 rfl, q7_ BK204 5 rfl, ((HB.out.cell (World.block_lt_of_cell? w _ hw205_0)).trans hw205_0)⟩ (fun hHeld => ?_)
             clear hK K
             refine norm_ (a' := ?_) ?_ ?_
             rotate_left
             ·show Act.put _ (some 31) _ = _
              simp only [Act.put, q4_, q5_, q6_, i64_w, i32_w]
              rfl
             refine pure_ (i := 7) (N := some 24) (v := ?_) (a' := ?_) m10_ rfl rfl (any_of HT_.out (by kernel_rfl)) (fun _ _ _ h => h) (Or.inl ⟨by rfl, ?_⟩) ?_ ?_
             rotate_left
             ·intro w'
              go_simp
              with_reducible rfl
             rotate_left
             ·simp only [Act.put, q4_, q5_, q6_, i64_w, i32_w]
              rfl
             refine pure_ (i := 8) (N := some 32) (v := ?_) (a' := ?_) m11_ rfl rfl (any_of HT_.out (by kernel_rfl)) (fun _ _ _ h => h) (Or.inl ⟨by rfl, ?_⟩) ?_ ?_
             rotate_left
             ·intro w'
              go_simp
              with_reducible rfl
             rotate_left
             ·simp only [Act.put, q4_, q5_, q6_, i64_w, i32_w]
              rfl
             refine pure_ (i := 9) (N := some 33) (v := ?_) (a' := ?_) m12_ rfl rfl (any_of HT_.out (by kernel_rfl)) (fun _ _ _ h => h) (Or.inl ⟨by rfl, ?_⟩) ?_ ?_
             rotate_left
             ·intro w'
              go_simp
              with_reducible rfl
             rotate_left
             ·simp only [Act.put, q4_, q5_, q6_, i64_w, i32_w]
              rfl
             refine one_ (i := 10) (N := some 8) m7_ rfl rfl (one_of HT_.out (by kernel_rfl)) (by decide) (fun K hK => ?_)
             refine box_step ?hg (N := 8) ?hd (cs := #[.bool false, .int .i64 0, .int .i64 0, .int .i64 0, .int .i64 0, .int .i64 0]) (t := 23) ?hr ?_; (case hd => rfl); (case hg => rfl); (case hr => first | (go_simp; done) | (go_simp; rfl))
             intro gb213 hg w24 hbox hb
             have n0_ := q1_ BK202 hb
             have n1_ := q1_ BK204 hb
             have n2_ := q2_ HB hb
             have n3_ := Aside0.mk (hbox)
             have n4_ := Aside0.mk ((by rw [hg]; exact (below_size (by repeat (first | (with_reducible first | exact HB.out | apply below_alloc | apply pw_below_drewN | apply below_drew1 | refine below_set ?_ GE202.out | refine below_set ?_ GE204.out) | exact HB.out))) : w.heap.size ≤ gb213))
             have n5_ := Aside0.mk ((by rw [hg]; exact (below_size (by repeat (first | (with_reducible first | exact HB.out | apply below_alloc | apply pw_below_drewN | apply below_drew1 | refine below_set ?_ GE202.out | refine below_set ?_ GE204.out) | exact HB.out))) : w.heap.size ≤ gb213))
             have n6_ := Aside0.mk ((by rw [hg]; exact Nat.ne_of_lt (blk_lt (g := gb202) (o := .cells #[.bool a0_0, .int .i64 a0_1, .int .i64 a0_2, .int .i64 a0_3, .int .i64 a0_4, .int .i64 a0_5] 23 (0, 0)) (q3_ BK202).out) : gb202 ≠ gb213))
             have n7_ := Aside0.mk ((by rw [hg]; exact Nat.ne_of_gt (blk_lt (g := gb202) (o := .cells #[.bool a0_0, .int .i64 a0_1, .int .i64 a0_2, .int .i64 a0_3, .int .i64 a0_4, .int .i64 a0_5] 23 (0, 0)) (q3_ BK202).out) : gb213 ≠ gb202))
             have n8_ := Aside0.mk ((by rw [hg]; exact Nat.ne_of_lt (blk_lt (g := gb204) (o := .cells #[.bool x205000_1, .int .i64 x205001_1, .int .i64 x205002_1, .int .i64 x205003_1, .int .i64 x205004_1, .int .i64 x205005_1] 23 (0, 0)) (q3_ BK204).out) : gb204 ≠ gb213))
             have n9_ := Aside0.mk ((by rw [hg]; exact Nat.ne_of_gt (blk_lt (g := gb204) (o := .cells #[.bool x205000_1, .int .i64 x205001_1, .int .i64 x205002_1, .int .i64 x205003_1, .int .i64 x205004_1, .int .i64 x205005_1] 23 (0, 0)) (q3_ BK204).out) : gb213 ≠ gb204))
             clear BK202
             clear BK204
             clear HB
             have BK202 := n0_
             have BK204 := n1_
             have HB := n2_
             have BK213 := n3_
             have GW213 := n4_
             have GE213 := n5_
             have NB202_213 := n6_
             have NB213_202 := n7_
             have NB204_213 := n8_
             have NB213_204 := n9_
             clear n0_ n1_ n2_ n3_ n4_ n5_ n6_ n7_ n8_ n9_
             clear hb hbox hg
             refine hK.out _ _ ⟨q7_ BK204 0 rfl, q7_ BK204 1 rfl, q7_ BK204 2 rfl, q7_ BK204 3 rfl, q7_ BK204 4 rfl, q7_ BK204 5 rfl, ((HB.out.cell (World.block_lt_of_cell? w _ hw205_0)).trans hw205_0)⟩ (fun hHeld => ?_)
             clear hK K
             refine norm_ (a' := ?_) ?_ ?_
             rotate_left
             ·show Act.put _ (some 8) _ = _
              simp only [Act.put, q4_, q5_, q6_, i64_w, i32_w]
              rfl
             exact norm_ (by simp only [putAll, Act.put, q4_, q5_, q6_]) (hCont (gb213) _ ⟨hHeld, (q3_ BK202).out, (q3_ BK204).out, (q3_ BK213).out, GW213.out, GE213.out, NB202_213.out, NB213_202.out, NB204_213.out, NB213_204.out, (by repeat (first | (with_reducible first | exact HB.out | apply below_alloc | apply pw_below_drewN | apply below_drew1 | refine below_set ?_ GE202.out | refine below_set ?_ GE204.out | refine below_set ?_ GE213.out) | exact HB.out))⟩)
            ·skip
             refine box_step ?hg (N := 8) ?hd (cs := #[.bool false, .int .i64 0, .int .i64 0, .int .i64 0, .int .i64 0, .int .i64 0]) (t := 23) ?hr ?_; (case hd => rfl); (case hg => rfl); (case hr => first | (go_simp; done) | (go_simp; rfl))
             intro gb213 hg w23 hbox hb
             have n0_ := q1_ BK202 hb
             have n1_ := q1_ BK204 hb
             have n2_ := q2_ HB hb
             have n3_ := Aside0.mk (hbox)
             have n4_ := Aside0.mk ((by rw [hg]; exact (below_size (by repeat (first | (with_reducible first | exact HB.out | apply below_alloc | apply pw_below_drewN | apply below_drew1 | refine below_set ?_ GE202.out | refine below_set ?_ GE204.out) | exact HB.out))) : w.heap.size ≤ gb213))
             have n5_ := Aside0.mk ((by rw [hg]; exact (below_size (by repeat (first | (with_reducible first | exact HB.out | apply below_alloc | apply pw_below_drewN | apply below_drew1 | refine below_set ?_ GE202.out | refine below_set ?_ GE204.out) | exact HB.out))) : w.heap.size ≤ gb213))
             have n6_ := Aside0.mk ((by rw [hg]; exact Nat.ne_of_lt (blk_lt (g := gb202) (o := .cells #[.bool a0_0, .int .i64 a0_1, .int .i64 a0_2, .int .i64 a0_3, .int .i64 a0_4, .int .i64 a0_5] 23 (0, 0)) (q3_ BK202).out) : gb202 ≠ gb213))
             have n7_ := Aside0.mk ((by rw [hg]; exact Nat.ne_of_gt (blk_lt (g := gb202) (o := .cells #[.bool a0_0, .int .i64 a0_1, .int .i64 a0_2, .int .i64 a0_3, .int .i64 a0_4, .int .i64 a0_5] 23 (0, 0)) (q3_ BK202).out) : gb213 ≠ gb202))
             have n8_ := Aside0.mk ((by rw [hg]; exact Nat.ne_of_lt (blk_lt (g := gb204) (o := .cells #[.bool x205000_1, .int .i64 x205001_1, .int .i64 x205002_1, .int .i64 x205003_1, .int .i64 x205004_1, .int .i64 x205005_1] 23 (0, 0)) (q3_ BK204).out) : gb204 ≠ gb213))
             have n9_ := Aside0.mk ((by rw [hg]; exact Nat.ne_of_gt (blk_lt (g := gb204) (o := .cells #[.bool x205000_1, .int .i64 x205001_1, .int .i64 x205002_1, .int .i64 x205003_1, .int .i64 x205004_1, .int .i64 x205005_1] 23 (0, 0)) (q3_ BK204).out) : gb213 ≠ gb204))
             clear BK202
             clear BK204
             clear HB
             have BK202 := n0_
             have BK204 := n1_
             have HB := n2_
             have BK213 := n3_
             have GW213 := n4_
             have GE213 := n5_
             have NB202_213 := n6_
             have NB213_202 := n7_
             have NB204_213 := n8_
             have NB213_204 := n9_
             clear n0_ n1_ n2_ n3_ n4_ n5_ n6_ n7_ n8_ n9_
             clear hb hbox hg
             refine hK.out _ _ ⟨q7_ BK204 0 rfl, q7_ BK204 1 rfl, q7_ BK204 2 rfl, q7_ BK204 3 rfl, q7_ BK204 4 rfl, q7_ BK204 5 rfl, ((HB.out.cell (World.block_lt_of_cell? w _ hw205_0)).trans hw205_0)⟩ (fun hHeld => ?_)
             clear hK K
             refine norm_ (a' := ?_) ?_ ?_
             rotate_left
             ·show Act.put _ (some 8) _ = _
              simp only [Act.put, q4_, q5_, q6_, i64_w, i32_w]
              rfl
             refine one_ (i := 6) (N := some 31) m13_ rfl rfl (one_of HT_.out (by kernel_rfl)) (by decide) (fun K hK => ?_)
             refine goes_ Try.func13 (by kernel_rfl) rfl #[.agg #[.bool x205000_1, .int .i64 x205001_1, .int .i64 x205002_1, .int .i64 x205003_1, .int .i64 x205004_1, .int .i64 x205005_1], .int .i64 (wrap64 (rd l1 x7_1))] (by rfl) rfl rfl (by (try simp only [List.map_toArray, List.map_cons, List.map_nil]); first | done | rfl | (simp only [List.length_drop, List.length_take]; rfl)) ?_
             with_reducible refine (access_Step.calls x205000_1 x205001_1 x205002_1 x205003_1 x205004_1 x205005_1 (wrap64 (rd l1 x7_1)) t206 t207 t208 t209 t210 t211 true _ A15.out).mono ?_
             rintro e w24 ⟨rfl, hb⟩
             refine ⟨_, rfl, ?_⟩
             have n0_ := q1_ BK202 hb
             have n1_ := q1_ BK204 hb
             have n2_ := q1_ BK213 hb
             have n3_ := q2_ HB hb
             clear BK202
             clear BK204
             clear BK213
             clear HB
             have BK202 := n0_
             have BK204 := n1_
             have BK213 := n2_
             have HB := n3_
             clear n0_ n1_ n2_ n3_
             (try clear hb)
             (try clear hb2)
             (try clear hk)
             (try clear hi)
             refine hK.out _ _ ⟨q7_ BK204 0 rfl, q7_ BK204 1 rfl, q7_ BK204 2 rfl, q7_ BK204 3 rfl, q7_ BK204 4 rfl, q7_ BK204 5 rfl, ((HB.out.cell (World.block_lt_of_cell? w _ hw205_0)).trans hw205_0)⟩ (fun hHeld => ?_)
             clear hK K
             refine norm_ (a' := ?_) ?_ ?_
             rotate_left
             ·show Act.put _ (some 31) _ = _
              simp only [Act.put, q4_, q5_, q6_, i64_w, i32_w]
              rfl
             refine pure_ (i := 7) (N := some 24) (v := ?_) (a' := ?_) m14_ rfl rfl (any_of HT_.out (by kernel_rfl)) (fun _ _ _ h => h) (Or.inl ⟨by rfl, ?_⟩) ?_ ?_
             rotate_left
             ·intro w'
              go_simp
              with_reducible rfl
             rotate_left
             ·simp only [Act.put, q4_, q5_, q6_, i64_w, i32_w]
              rfl
             refine pure_ (i := 8) (N := some 32) (v := ?_) (a' := ?_) m15_ rfl rfl (any_of HT_.out (by kernel_rfl)) (fun _ _ _ h => h) (Or.inl ⟨by rfl, ?_⟩) ?_ ?_
             rotate_left
             ·intro w'
              go_simp
              with_reducible rfl
             rotate_left
             ·simp only [Act.put, q4_, q5_, q6_, i64_w, i32_w]
              rfl
             refine pure_ (i := 9) (N := some 33) (v := ?_) (a' := ?_) m7_ rfl rfl (any_of HT_.out (by kernel_rfl)) (fun _ _ _ h => h) (Or.inl ⟨by rfl, ?_⟩) ?_ ?_
             rotate_left
             ·intro w'
              go_simp
              with_reducible rfl
             rotate_left
             ·simp only [Act.put, q4_, q5_, q6_, i64_w, i32_w]
              rfl
             exact norm_ (by simp only [putAll, Act.put, q4_, q5_, q6_]) (hCont (gb213) _ ⟨hHeld, (q3_ BK202).out, (q3_ BK204).out, (q3_ BK213).out, GW213.out, GE213.out, NB202_213.out, NB213_202.out, NB204_213.out, NB213_204.out, (by repeat (first | (with_reducible first | exact HB.out | apply below_alloc | apply pw_below_drewN | apply below_drew1 | refine below_set ?_ GE202.out | refine below_set ?_ GE204.out | refine below_set ?_ GE213.out) | exact HB.out))⟩)
           rintro gb213 w25 ⟨hS_, h0_, h1_, h2_, h3_, h4_, h5_, h6_, h7_, h8_, h9_⟩
           have n0_ : Aside0 (w25.heap[gb202]? = some (.cells #[.bool a0_0, .int .i64 a0_1, .int .i64 a0_2, .int .i64 a0_3, .int .i64 a0_4, .int .i64 a0_5] 23 (0, 0))) := ⟨h0_⟩
           have n1_ : Aside0 (w25.heap[gb204]? = some (.cells #[.bool x205000_1, .int .i64 x205001_1, .int .i64 x205002_1, .int .i64 x205003_1, .int .i64 x205004_1, .int .i64 x205005_1] 23 (0, 0))) := ⟨h1_⟩
           have n2_ : Aside0 (w25.heap[gb213]? = some (.cells #[.bool false, .int .i64 0, .int .i64 0, .int .i64 0, .int .i64 0, .int .i64 0] 23 (0, 0))) := ⟨h2_⟩
           have n3_ : Aside0 (w.heap.size ≤ gb213) := ⟨h3_⟩
           have n4_ : Aside0 (w.heap.size ≤ gb213) := ⟨h4_⟩
           have n5_ : Aside0 (gb202 ≠ gb213) := ⟨h5_⟩
           have n6_ : Aside0 (gb213 ≠ gb202) := ⟨h6_⟩
           have n7_ : Aside0 (gb204 ≠ gb213) := ⟨h7_⟩
           have n8_ : Aside0 (gb213 ≠ gb204) := ⟨h8_⟩
           have n9_ : Aside0 (Below w.heap.size w w25) := ⟨h9_⟩
           clear BK202
           clear BK204
           clear HB
           clear h0_ h1_ h2_ h3_ h4_ h5_ h6_ h7_ h8_ h9_
           have BK202 := n0_
           have BK204 := n1_
           have BK213 := n2_
           have GW213 := n3_
           have GE213 := n4_
           have NB202_213 := n5_
           have NB213_202 := n6_
           have NB204_213 := n7_
           have NB213_204 := n8_
           have HB := n9_
           clear n0_ n1_ n2_ n3_ n4_ n5_ n6_ n7_ n8_ n9_
           have hHeld : w25.cell? ⟨gb204, 0, none⟩ = some (.bool x205000_1) ∧ w25.cell? ⟨gb204, 1, none⟩ = some (.int .i64 x205001_1) ∧ w25.cell? ⟨gb204, 2, none⟩ = some (.int .i64 x205002_1) ∧ w25.cell? ⟨gb204, 3, none⟩ = some (.int .i64 x205003_1) ∧ w25.cell? ⟨gb204, 4, none⟩ = some (.int .i64 x205004_1) ∧ w25.cell? ⟨gb204, 5, none⟩ = some (.int .i64 x205005_1) ∧ w25.cell? (ad205.add (x7_1).toNat) = some (.int .i16 (rd l1 x7_1)) := hS_
           refine norm_ (a' := ?_) ?_ ?_
           rotate_left
           ·simp only [putAll, Act.put, q4_, q5_, q6_]
            rfl
           refine one_ (i := 11) (N := none) m16_ rfl rfl (one_of HT_.out (by kernel_rfl)) (by decide) (fun K hK => ?_)
           have hs26 : w25.cell? ⟨gb213, 0, none⟩ = some (.bool false) := q7_ BK213 0 rfl
           have hfs26 := blk_frozen BK213.out 0
           have hns26_0 := NB202_213.out
           have hns26_1 := NB204_213.out
           have hms26_0 := NB213_202.out
           have hms26_1 := NB213_204.out
           have hs27 : w25.cell? ⟨gb213, 1, none⟩ = some (.int .i64 0) := q7_ BK213 1 rfl
           have hfs27 := blk_frozen BK213.out 1
           have hns27_0 := NB202_213.out
           have hns27_1 := NB204_213.out
           have hms27_0 := NB213_202.out
           have hms27_1 := NB213_204.out
           have hs28 : w25.cell? ⟨gb213, 2, none⟩ = some (.int .i64 0) := q7_ BK213 2 rfl
           have hfs28 := blk_frozen BK213.out 2
           have hns28_0 := NB202_213.out
           have hns28_1 := NB204_213.out
           have hms28_0 := NB213_202.out
           have hms28_1 := NB213_204.out
           have hs29 : w25.cell? ⟨gb213, 3, none⟩ = some (.int .i64 0) := q7_ BK213 3 rfl
           have hfs29 := blk_frozen BK213.out 3
           have hns29_0 := NB202_213.out
           have hns29_1 := NB204_213.out
           have hms29_0 := NB213_202.out
           have hms29_1 := NB213_204.out
           have hs30 : w25.cell? ⟨gb213, 4, none⟩ = some (.int .i64 0) := q7_ BK213 4 rfl
           have hfs30 := blk_frozen BK213.out 4
           have hns30_0 := NB202_213.out
           have hns30_1 := NB204_213.out
           have hms30_0 := NB213_202.out
           have hms30_1 := NB213_204.out
           have hs31 : w25.cell? ⟨gb213, 5, none⟩ = some (.int .i64 0) := q7_ BK213 5 rfl
           have hfs31 := blk_frozen BK213.out 5
           have hns31_0 := NB202_213.out
           have hns31_1 := NB204_213.out
           have hms31_0 := NB213_202.out
           have hms31_1 := NB213_204.out
           refine skip_ (w1 := ?_) (by rfl) rfl ?_ ?_
           rotate_left
           ·go_simp
            rfl
           refine hK.out _ _ ⟨((q8_ NB204_213).trans (((q8_ NB204_213).trans (((q8_ NB204_213).trans (((q8_ NB204_213).trans (((q8_ NB204_213).trans (((q8_ NB204_213).trans (hHeld.1)))))))))))), ((q8_ NB204_213).trans (((q8_ NB204_213).trans (((q8_ NB204_213).trans (((q8_ NB204_213).trans (((q8_ NB204_213).trans (((q8_ NB204_213).trans (hHeld.2.1)))))))))))), ((q8_ NB204_213).trans (((q8_ NB204_213).trans (((q8_ NB204_213).trans (((q8_ NB204_213).trans (((q8_ NB204_213).trans (((q8_ NB204_213).trans (hHeld.2.2.1)))))))))))), ((q8_ NB204_213).trans (((q8_ NB204_213).trans (((q8_ NB204_213).trans (((q8_ NB204_213).trans (((q8_ NB204_213).trans (((q8_ NB204_213).trans (hHeld.2.2.2.1)))))))))))), ((q8_ NB204_213).trans (((q8_ NB204_213).trans (((q8_ NB204_213).trans (((q8_ NB204_213).trans (((q8_ NB204_213).trans (((q8_ NB204_213).trans (hHeld.2.2.2.2.1)))))))))))), ((q8_ NB204_213).trans (((q8_ NB204_213).trans (((q8_ NB204_213).trans (((q8_ NB204_213).trans (((q8_ NB204_213).trans (((q8_ NB204_213).trans (hHeld.2.2.2.2.2.1)))))))))))), ((cell_far (p := ⟨gb213, _, none⟩) (by first | exact Nat.ne_of_lt (Nat.lt_of_lt_of_le (by have := World.block_lt_of_cell? _ _ hw205_0; first | rwa [add_block] at this | exact this) GW213.out) | (rw [add_block]; exact Nat.ne_of_lt (Nat.lt_of_lt_of_le (by have := World.block_lt_of_cell? _ _ hw205_0; first | rwa [add_block] at this | exact this) GW213.out)) | (show (Addr.add _ _).block ≠ _; rw [add_block]; exact Nat.ne_of_lt (Nat.lt_of_lt_of_le (by have := World.block_lt_of_cell? _ _ hw205_0; first | rwa [add_block] at this | exact this) GW213.out)) | (dsimp only; exact Nat.ne_of_lt (Nat.lt_of_lt_of_le (by have := World.block_lt_of_cell? _ _ hw205_0; first | rwa [add_block] at this | exact this) GW213.out))) _).trans (((cell_far (p := ⟨gb213, _, none⟩) (by first | exact Nat.ne_of_lt (Nat.lt_of_lt_of_le (by have := World.block_lt_of_cell? _ _ hw205_0; first | rwa [add_block] at this | exact this) GW213.out) | (rw [add_block]; exact Nat.ne_of_lt (Nat.lt_of_lt_of_le (by have := World.block_lt_of_cell? _ _ hw205_0; first | rwa [add_block] at this | exact this) GW213.out)) | (show (Addr.add _ _).block ≠ _; rw [add_block]; exact Nat.ne_of_lt (Nat.lt_of_lt_of_le (by have := World.block_lt_of_cell? _ _ hw205_0; first | rwa [add_block] at this | exact this) GW213.out)) | (dsimp only; exact Nat.ne_of_lt (Nat.lt_of_lt_of_le (by have := World.block_lt_of_cell? _ _ hw205_0; first | rwa [add_block] at this | exact this) GW213.out))) _).trans (((cell_far (p := ⟨gb213, _, none⟩) (by first | exact Nat.ne_of_lt (Nat.lt_of_lt_of_le (by have := World.block_lt_of_cell? _ _ hw205_0; first | rwa [add_block] at this | exact this) GW213.out) | (rw [add_block]; exact Nat.ne_of_lt (Nat.lt_of_lt_of_le (by have := World.block_lt_of_cell? _ _ hw205_0; first | rwa [add_block] at this | exact this) GW213.out)) | (show (Addr.add _ _).block ≠ _; rw [add_block]; exact Nat.ne_of_lt (Nat.lt_of_lt_of_le (by have := World.block_lt_of_cell? _ _ hw205_0; first | rwa [add_block] at this | exact this) GW213.out)) | (dsimp only; exact Nat.ne_of_lt (Nat.lt_of_lt_of_le (by have := World.block_lt_of_cell? _ _ hw205_0; first | rwa [add_block] at this | exact this) GW213.out))) _).trans (((cell_far (p := ⟨gb213, _, none⟩) (by first | exact Nat.ne_of_lt (Nat.lt_of_lt_of_le (by have := World.block_lt_of_cell? _ _ hw205_0; first | rwa [add_block] at this | exact this) GW213.out) | (rw [add_block]; exact Nat.ne_of_lt (Nat.lt_of_lt_of_le (by have := World.block_lt_of_cell? _ _ hw205_0; first | rwa [add_block] at this | exact this) GW213.out)) | (show (Addr.add _ _).block ≠ _; rw [add_block]; exact Nat.ne_of_lt (Nat.lt_of_lt_of_le (by have := World.block_lt_of_cell? _ _ hw205_0; first | rwa [add_block] at this | exact this) GW213.out)) | (dsimp only; exact Nat.ne_of_lt (Nat.lt_of_lt_of_le (by have := World.block_lt_of_cell? _ _ hw205_0; first | rwa [add_block] at this | exact this) GW213.out))) _).trans (((cell_far (p := ⟨gb213, _, none⟩) (by first | exact Nat.ne_of_lt (Nat.lt_of_lt_of_le (by have := World.block_lt_of_cell? _ _ hw205_0; first | rwa [add_block] at this | exact this) GW213.out) | (rw [add_block]; exact Nat.ne_of_lt (Nat.lt_of_lt_of_le (by have := World.block_lt_of_cell? _ _ hw205_0; first | rwa [add_block] at this | exact this) GW213.out)) | (show (Addr.add _ _).block ≠ _; rw [add_block]; exact Nat.ne_of_lt (Nat.lt_of_lt_of_le (by have := World.block_lt_of_cell? _ _ hw205_0; first | rwa [add_block] at this | exact this) GW213.out)) | (dsimp only; exact Nat.ne_of_lt (Nat.lt_of_lt_of_le (by have := World.block_lt_of_cell? _ _ hw205_0; first | rwa [add_block] at this | exact this) GW213.out))) _).trans (((cell_far (p := ⟨gb213, _, none⟩) (by first | exact Nat.ne_of_lt (Nat.lt_of_lt_of_le (by have := World.block_lt_of_cell? _ _ hw205_0; first | rwa [add_block] at this | exact this) GW213.out) | (rw [add_block]; exact Nat.ne_of_lt (Nat.lt_of_lt_of_le (by have := World.block_lt_of_cell? _ _ hw205_0; first | rwa [add_block] at this | exact this) GW213.out)) | (show (Addr.add _ _).block ≠ _; rw [add_block]; exact Nat.ne_of_lt (Nat.lt_of_lt_of_le (by have := World.block_lt_of_cell? _ _ hw205_0; first | rwa [add_block] at this | exact this) GW213.out)) | (dsimp only; exact Nat.ne_of_lt (Nat.lt_of_lt_of_le (by have := World.block_lt_of_cell? _ _ hw205_0; first | rwa [add_block] at this | exact this) GW213.out))) _).trans (hHeld.2.2.2.2.2.2))))))))))))⟩ (fun hHeld => ?_)
           clear hK K
           refine pure_ (i := 12) (N := some 9) (v := ?_) (a' := ?_) m17_ rfl rfl (any_of HT_.out (by kernel_rfl)) (fun _ _ _ h => h) (Or.inl ⟨by rfl, ?_⟩) ?_ ?_
           rotate_left
           ·intro w'
            go_simp
            with_reducible rfl
           rotate_left
           ·simp only [Act.put, q4_, q5_, q6_, i64_w, i32_w]
            rfl
           refine done_ (done_of HT_.out (by kernel_rfl)) ?_
           try go_wp2
           have n0_ : Aside0 (((((((w25.setCell ⟨gb213, 0, none⟩ (.bool t206)).setCell ⟨gb213, 1, none⟩ (.int .i64 t207)).setCell ⟨gb213, 2, none⟩ (.int .i64 t208)).setCell ⟨gb213, 3, none⟩ (.int .i64 t209)).setCell ⟨gb213, 4, none⟩ (.int .i64 t210)).setCell ⟨gb213, 5, none⟩ (.int .i64 t211)).heap[gb202]? = some (.cells #[.bool a0_0, .int .i64 a0_1, .int .i64 a0_2, .int .i64 a0_3, .int .i64 a0_4, .int .i64 a0_5] 23 (0, 0))) := ⟨by (with_reducible repeat (first | refine blk_drewN ?_ _ | refine blk_drew ?_ | refine blk_alloc ?_ _)); refine blk_far ?_ NB202_213.out _; (with_reducible repeat (first | refine blk_drewN ?_ _ | refine blk_drew ?_ | refine blk_alloc ?_ _)); refine blk_far ?_ NB202_213.out _; (with_reducible repeat (first | refine blk_drewN ?_ _ | refine blk_drew ?_ | refine blk_alloc ?_ _)); refine blk_far ?_ NB202_213.out _; (with_reducible repeat (first | refine blk_drewN ?_ _ | refine blk_drew ?_ | refine blk_alloc ?_ _)); refine blk_far ?_ NB202_213.out _; (with_reducible repeat (first | refine blk_drewN ?_ _ | refine blk_drew ?_ | refine blk_alloc ?_ _)); refine blk_far ?_ NB202_213.out _; (with_reducible repeat (first | refine blk_drewN ?_ _ | refine blk_drew ?_ | refine blk_alloc ?_ _)); refine blk_far ?_ NB202_213.out _; (with_reducible repeat (first | refine blk_drewN ?_ _ | refine blk_drew ?_ | refine blk_alloc ?_ _)); exact BK202.out⟩
           have n1_ : Aside0 (((((((w25.setCell ⟨gb213, 0, none⟩ (.bool t206)).setCell ⟨gb213, 1, none⟩ (.int .i64 t207)).setCell ⟨gb213, 2, none⟩ (.int .i64 t208)).setCell ⟨gb213, 3, none⟩ (.int .i64 t209)).setCell ⟨gb213, 4, none⟩ (.int .i64 t210)).setCell ⟨gb213, 5, none⟩ (.int .i64 t211)).heap[gb204]? = some (.cells #[.bool x205000_1, .int .i64 x205001_1, .int .i64 x205002_1, .int .i64 x205003_1, .int .i64 x205004_1, .int .i64 x205005_1] 23 (0, 0))) := ⟨by (with_reducible repeat (first | refine blk_drewN ?_ _ | refine blk_drew ?_ | refine blk_alloc ?_ _)); refine blk_far ?_ NB204_213.out _; (with_reducible repeat (first | refine blk_drewN ?_ _ | refine blk_drew ?_ | refine blk_alloc ?_ _)); refine blk_far ?_ NB204_213.out _; (with_reducible repeat (first | refine blk_drewN ?_ _ | refine blk_drew ?_ | refine blk_alloc ?_ _)); refine blk_far ?_ NB204_213.out _; (with_reducible repeat (first | refine blk_drewN ?_ _ | refine blk_drew ?_ | refine blk_alloc ?_ _)); refine blk_far ?_ NB204_213.out _; (with_reducible repeat (first | refine blk_drewN ?_ _ | refine blk_drew ?_ | refine blk_alloc ?_ _)); refine blk_far ?_ NB204_213.out _; (with_reducible repeat (first | refine blk_drewN ?_ _ | refine blk_drew ?_ | refine blk_alloc ?_ _)); refine blk_far ?_ NB204_213.out _; (with_reducible repeat (first | refine blk_drewN ?_ _ | refine blk_drew ?_ | refine blk_alloc ?_ _)); exact BK204.out⟩
           have n2_ : Aside0 (((((((w25.setCell ⟨gb213, 0, none⟩ (.bool t206)).setCell ⟨gb213, 1, none⟩ (.int .i64 t207)).setCell ⟨gb213, 2, none⟩ (.int .i64 t208)).setCell ⟨gb213, 3, none⟩ (.int .i64 t209)).setCell ⟨gb213, 4, none⟩ (.int .i64 t210)).setCell ⟨gb213, 5, none⟩ (.int .i64 t211)).heap[gb213]? = some (.cells #[.bool t206, .int .i64 t207, .int .i64 t208, .int .i64 t209, .int .i64 t210, .int .i64 t211] 23 (0, 0))) := ⟨by (with_reducible repeat (first | refine blk_drewN ?_ _ | refine blk_drew ?_ | refine blk_alloc ?_ _)); refine blk_put (cs := #[.bool t206, .int .i64 t207, .int .i64 t208, .int .i64 t209, .int .i64 t210, .int .i64 0]) ?_ 5 _ rfl; (with_reducible repeat (first | refine blk_drewN ?_ _ | refine blk_drew ?_ | refine blk_alloc ?_ _)); refine blk_put (cs := #[.bool t206, .int .i64 t207, .int .i64 t208, .int .i64 t209, .int .i64 0, .int .i64 0]) ?_ 4 _ rfl; (with_reducible repeat (first | refine blk_drewN ?_ _ | refine blk_drew ?_ | refine blk_alloc ?_ _)); refine blk_put (cs := #[.bool t206, .int .i64 t207, .int .i64 t208, .int .i64 0, .int .i64 0, .int .i64 0]) ?_ 3 _ rfl; (with_reducible repeat (first | refine blk_drewN ?_ _ | refine blk_drew ?_ | refine blk_alloc ?_ _)); refine blk_put (cs := #[.bool t206, .int .i64 t207, .int .i64 0, .int .i64 0, .int .i64 0, .int .i64 0]) ?_ 2 _ rfl; (with_reducible repeat (first | refine blk_drewN ?_ _ | refine blk_drew ?_ | refine blk_alloc ?_ _)); refine blk_put (cs := #[.bool t206, .int .i64 0, .int .i64 0, .int .i64 0, .int .i64 0, .int .i64 0]) ?_ 1 _ rfl; (with_reducible repeat (first | refine blk_drewN ?_ _ | refine blk_drew ?_ | refine blk_alloc ?_ _)); refine blk_put (cs := #[.bool false, .int .i64 0, .int .i64 0, .int .i64 0, .int .i64 0, .int .i64 0]) ?_ 0 _ rfl; (with_reducible repeat (first | refine blk_drewN ?_ _ | refine blk_drew ?_ | refine blk_alloc ?_ _)); exact BK213.out⟩
           have n3_ : Aside0 (Below w.heap.size w ((((((w25.setCell ⟨gb213, 0, none⟩ (.bool t206)).setCell ⟨gb213, 1, none⟩ (.int .i64 t207)).setCell ⟨gb213, 2, none⟩ (.int .i64 t208)).setCell ⟨gb213, 3, none⟩ (.int .i64 t209)).setCell ⟨gb213, 4, none⟩ (.int .i64 t210)).setCell ⟨gb213, 5, none⟩ (.int .i64 t211))) := ⟨by repeat (first | (with_reducible first | exact HB.out | apply below_alloc | apply pw_below_drewN | apply below_drew1 | refine below_set ?_ GE202.out | refine below_set ?_ GE204.out | refine below_set ?_ GE213.out) | exact HB.out)⟩
           (try clear BK202)
           (try clear BK204)
           (try clear BK213)
           (try clear HB)
           generalize ((((((w25.setCell ⟨gb213, 0, none⟩ (.bool t206)).setCell ⟨gb213, 1, none⟩ (.int .i64 t207)).setCell ⟨gb213, 2, none⟩ (.int .i64 t208)).setCell ⟨gb213, 3, none⟩ (.int .i64 t209)).setCell ⟨gb213, 4, none⟩ (.int .i64 t210)).setCell ⟨gb213, 5, none⟩ (.int .i64 t211)) = w32 at n0_ n1_ n2_ n3_ ⊢
           have BK202 := n0_
           have BK204 := n1_
           have BK213 := n2_
           have HB := n3_
           clear n0_ n1_ n2_ n3_
           have n0_ := Aside0.mk (blk_drew BK202.out)
           have n1_ := Aside0.mk (blk_drew BK204.out)
           have n2_ := Aside0.mk (blk_drew BK213.out)
           have n3_ := Aside0.mk (below_drew1 HB.out)
           clear BK202
           clear BK204
           clear BK213
           clear HB
           have BK202 := n0_
           have BK204 := n1_
           have BK213 := n2_
           have HB := n3_
           clear n0_ n1_ n2_ n3_
           have p214 : 0 ≤ (x7_1 : Int) := of_decide_eq_true (by first | (with_reducible assumption) | assumption)
           have q214 : x7_1 < (l1.length : Int) := of_decide_eq_true (by first | (with_reducible assumption) | assumption)
           obtain ⟨ad214, e214, hx214_0⟩ := Kd.at_int HR1.out x7_1 p214 q214
           have hw214_0 := hx214_0
           obtain rfl : ad205 = ad214 := (by injection e214)
           replace hx214_0 := (HB.out.cell (World.block_lt_of_cell? w _ hx214_0)).trans hx214_0
           replace p214 := eq_true p214
           replace q214 := eq_true q214
           refine start_ (n := 14) (S := fun w' => w'.cell? ⟨gb213, 0, none⟩ = some (.bool t206) ∧ w'.cell? ⟨gb213, 1, none⟩ = some (.int .i64 t207) ∧ w'.cell? ⟨gb213, 2, none⟩ = some (.int .i64 t208) ∧ w'.cell? ⟨gb213, 3, none⟩ = some (.int .i64 t209) ∧ w'.cell? ⟨gb213, 4, none⟩ = some (.int .i64 t210) ∧ w'.cell? ⟨gb213, 5, none⟩ = some (.int .i64 t211) ∧ w'.cell? (ad205.add (x7_1).toNat) = some (.int .i16 (rd l1 x7_1))) (ds := []) m18_ (by kernel_rfl) rfl rfl ⟨q7_ BK213 0 rfl, q7_ BK213 1 rfl, q7_ BK213 2 rfl, q7_ BK213 3 rfl, q7_ BK213 4 rfl, q7_ BK213 5 rfl, ((HB.out.cell (World.block_lt_of_cell? w _ hw214_0)).trans hw214_0)⟩ (fun hHeld => ?_); refine with_tabW seizinlaw05_AccessSteps.tab10 seizinlaw05_AccessSteps.bits10 (fun HT_ HW_ => ?_)
           generalize w32.drew = w33 at BK202 BK204 BK213 HB hx214_0 hHeld ⊢
           refine pure_ (i := 1) (N := some 38) (v := ?_) (a' := ?_) m19_ rfl rfl (any_of HT_.out (by kernel_rfl)) (fun _ _ _ h => h) (Or.inl ⟨by rfl, ?_⟩) ?_ ?_
           rotate_left
           ·intro w'
            go_simp
            with_reducible rfl
           rotate_left
           ·simp only [Act.put, q4_, q5_, q6_, i64_w, i32_w]
            rfl
           refine pure_ (i := 2) (N := some 39) (v := ?_) (a' := ?_) m20_ rfl rfl (any_of HT_.out (by kernel_rfl)) (fun _ _ _ h => h) (Or.inl ⟨by rfl, ?_⟩) ?_ ?_
           rotate_left
           ·intro w'
            go_simp
            with_reducible rfl
           rotate_left
           ·simp only [Act.put, q4_, q5_, q6_, i64_w, i32_w]
            rfl
           refine pure_ (i := 3) (N := some 40) (v := ?_) (a' := ?_) m21_ rfl rfl (any_of HT_.out (by kernel_rfl)) (fun _ _ _ h => h) (Or.inl ⟨by rfl, ?_⟩) ?_ ?_
           rotate_left
           ·intro w'
            go_simp
            with_reducible rfl
           rotate_left
           ·simp only [Act.put, q4_, q5_, q6_, i64_w, i32_w]
            rfl
           refine take_ (i := 0) (N := some 37) (v := ?_) (a' := ?_) m22_ rfl rfl (take_ofW HT_.out HW_.out (by kernel_rfl)) (fun _ _ _ h => h) (Or.inl ⟨by rfl, ?_⟩) hHeld ?_ ?_
           rotate_left
           ·rintro w' ⟨s0, s1, s2, s3, s4, s5, s6⟩
            go_simp
            with_reducible rfl
           rotate_left
           ·simp only [Act.put, q4_, q5_, q6_, i64_w, i32_w]
            rfl
           refine take_ (i := 4) (N := some 41) (v := ?_) (a' := ?_) m23_ rfl rfl (take_ofW HT_.out HW_.out (by kernel_rfl)) (fun _ _ _ h => h) (Or.inl ⟨by rfl, ?_⟩) hHeld ?_ ?_
           rotate_left
           ·rintro w' ⟨s0, s1, s2, s3, s4, s5, s6⟩
            go_simp
            with_reducible rfl
           rotate_left
           ·simp only [Act.put, q4_, q5_, q6_, i64_w, i32_w]
            rfl
           refine pure_ (i := 5) (N := some 42) (v := ?_) (a' := ?_) m24_ rfl rfl (any_of HT_.out (by kernel_rfl)) (fun _ _ _ h => h) (Or.inl ⟨by rfl, ?_⟩) ?_ ?_
           rotate_left
           ·intro w'
            go_simp
            with_reducible rfl
           rotate_left
           ·simp only [Act.put, q4_, q5_, q6_, i64_w, i32_w]
            rfl
           refine pure_ (i := 6) (N := some 43) (v := ?_) (a' := ?_) m25_ rfl rfl (any_of HT_.out (by kernel_rfl)) (fun _ _ _ h => h) (Or.inl ⟨by rfl, ?_⟩) ?_ ?_
           rotate_left
           ·intro w'
            go_simp
            with_reducible rfl
           rotate_left
           ·simp only [Act.put, q4_, q5_, q6_, i64_w, i32_w]
            rfl
           refine join_ (σ := Nat) 2 m26_ (fun s_ => [(44, .tuple #[.agg #[.bool t215, .int .i64 t216, .int .i64 t217, .int .i64 t218, .int .i64 t219, .int .i64 t220], .bool true]), (10, .pointer (some ⟨s_, 0, none⟩)), (36, .tuple #[.agg #[.bool t215, .int .i64 t216, .int .i64 t217, .int .i64 t218, .int .i64 t219, .int .i64 t220], .bool true]), (45, .agg #[.bool t215, .int .i64 t216, .int .i64 t217, .int .i64 t218, .int .i64 t219, .int .i64 t220]), (46, .bool true)]) (fun s_ w' => (w'.cell? ⟨gb213, 0, none⟩ = some (.bool t206) ∧ w'.cell? ⟨gb213, 1, none⟩ = some (.int .i64 t207) ∧ w'.cell? ⟨gb213, 2, none⟩ = some (.int .i64 t208) ∧ w'.cell? ⟨gb213, 3, none⟩ = some (.int .i64 t209) ∧ w'.cell? ⟨gb213, 4, none⟩ = some (.int .i64 t210) ∧ w'.cell? ⟨gb213, 5, none⟩ = some (.int .i64 t211) ∧ w'.cell? (ad205.add (x7_1).toNat) = some (.int .i16 (rd l1 x7_1))) ∧ (w'.heap[gb202]? = some (.cells #[.bool a0_0, .int .i64 a0_1, .int .i64 a0_2, .int .i64 a0_3, .int .i64 a0_4, .int .i64 a0_5] 23 (0, 0))) ∧ (w'.heap[gb204]? = some (.cells #[.bool x205000_1, .int .i64 x205001_1, .int .i64 x205002_1, .int .i64 x205003_1, .int .i64 x205004_1, .int .i64 x205005_1] 23 (0, 0))) ∧ (w'.heap[gb213]? = some (.cells #[.bool t206, .int .i64 t207, .int .i64 t208, .int .i64 t209, .int .i64 t210, .int .i64 t211] 23 (0, 0))) ∧ (w'.heap[s_]? = some (.cells #[.bool false, .int .i64 0, .int .i64 0, .int .i64 0, .int .i64 0, .int .i64 0] 23 (0, 0))) ∧ (w.heap.size ≤ s_) ∧ (w.heap.size ≤ s_) ∧ (gb202 ≠ s_) ∧ (s_ ≠ gb202) ∧ (gb204 ≠ s_) ∧ (s_ ≠ gb204) ∧ (gb213 ≠ s_) ∧ (s_ ≠ gb213) ∧ (Below w.heap.size w w')) ?_ ?_
           rotate_left
           ·intro hCont
            refine two_ (i := 7) (j := 11) (Ni := some 44) (Nj := some 10) m27_ m28_ rfl rfl rfl rfl (two_of HT_.out (by kernel_rfl)) (by decide) (by decide) (fun K hK => ?_) (fun K hK => ?_)
            ·skip
             refine goes_ Try.func13 (by kernel_rfl) rfl #[.agg #[.bool t206, .int .i64 t207, .int .i64 t208, .int .i64 t209, .int .i64 t210, .int .i64 t211], .int .i64 (wrap64 (-(wrap64 (rd l1 x7_1))))] (by rfl) rfl rfl (by (try simp only [List.map_toArray, List.map_cons, List.map_nil]); first | done | rfl | (simp only [List.length_drop, List.length_take]; rfl)) ?_
             with_reducible refine (access_Step.calls t206 t207 t208 t209 t210 t211 (wrap64 (-(wrap64 (rd l1 x7_1)))) t215 t216 t217 t218 t219 t220 true _ A17.out).mono ?_
             rintro e w34 ⟨rfl, hb⟩
             refine ⟨_, rfl, ?_⟩
             have n0_ := q1_ BK202 hb
             have n1_ := q1_ BK204 hb
             have n2_ := q1_ BK213 hb
             have n3_ := q2_ HB hb
             clear BK202
             clear BK204
             clear BK213
             clear HB
             have BK202 := n0_
             have BK204 := n1_
             have BK213 := n2_
             have HB := n3_
             clear n0_ n1_ n2_ n3_
             (try clear hb)
             (try clear hb2)
             (try clear hk)
             (try clear hi)
             refine hK.out _ _ ⟨q7_ BK213 0 rfl, q7_ BK213 1 rfl, q7_ BK213 2 rfl, q7_ BK213 3 rfl, q7_ BK213 4 rfl, q7_ BK213 5 rfl, ((HB.out.cell (World.block_lt_of_cell? w _ hw214_0)).trans hw214_0)⟩ (fun hHeld => ?_)
             clear hK K
             refine norm_ (a' := ?_) ?_ ?_
             rotate_left
             ·show Act.put _ (some 44) _ = _
              simp only [Act.put, q4_, q5_, q6_, i64_w, i32_w]
              rfl
             refine pure_ (i := 8) (N := some 36) (v := ?_) (a' := ?_) m29_ rfl rfl (any_of HT_.out (by kernel_rfl)) (fun _ _ _ h => h) (Or.inl ⟨by rfl, ?_⟩) ?_ ?_
             rotate_left
             ·intro w'
              go_simp
              with_reducible rfl
             rotate_left
             ·simp only [Act.put, q4_, q5_, q6_, i64_w, i32_w]
              rfl
             refine pure_ (i := 9) (N := some 45) (v := ?_) (a' := ?_) m30_ rfl rfl (any_of HT_.out (by kernel_rfl)) (fun _ _ _ h => h) (Or.inl ⟨by rfl, ?_⟩) ?_ ?_
             rotate_left
             ·intro w'
              go_simp
              with_reducible rfl
             rotate_left
             ·simp only [Act.put, q4_, q5_, q6_, i64_w, i32_w]
              rfl
             refine pure_ (i := 10) (N := some 46) (v := ?_) (a' := ?_) m31_ rfl rfl (any_of HT_.out (by kernel_rfl)) (fun _ _ _ h => h) (Or.inl ⟨by rfl, ?_⟩) ?_ ?_
             rotate_left
             ·intro w'
              go_simp
              with_reducible rfl
             rotate_left
             ·simp only [Act.put, q4_, q5_, q6_, i64_w, i32_w]
              rfl
             refine one_ (i := 11) (N := some 10) m26_ rfl rfl (one_of HT_.out (by kernel_rfl)) (by decide) (fun K hK => ?_)
             refine box_step ?hg (N := 10) ?hd (cs := #[.bool false, .int .i64 0, .int .i64 0, .int .i64 0, .int .i64 0, .int .i64 0]) (t := 23) ?hr ?_; (case hd => rfl); (case hg => rfl); (case hr => first | (go_simp; done) | (go_simp; rfl))
             intro gb222 hg w35 hbox hb
             have n0_ := q1_ BK202 hb
             have n1_ := q1_ BK204 hb
             have n2_ := q1_ BK213 hb
             have n3_ := q2_ HB hb
             have n4_ := Aside0.mk (hbox)
             have n5_ := Aside0.mk ((by rw [hg]; exact (below_size (by repeat (first | (with_reducible first | exact HB.out | apply below_alloc | apply pw_below_drewN | apply below_drew1 | refine below_set ?_ GE202.out | refine below_set ?_ GE204.out | refine below_set ?_ GE213.out) | exact HB.out))) : w.heap.size ≤ gb222))
             have n6_ := Aside0.mk ((by rw [hg]; exact (below_size (by repeat (first | (with_reducible first | exact HB.out | apply below_alloc | apply pw_below_drewN | apply below_drew1 | refine below_set ?_ GE202.out | refine below_set ?_ GE204.out | refine below_set ?_ GE213.out) | exact HB.out))) : w.heap.size ≤ gb222))
             have n7_ := Aside0.mk ((by rw [hg]; exact Nat.ne_of_lt (blk_lt (g := gb202) (o := .cells #[.bool a0_0, .int .i64 a0_1, .int .i64 a0_2, .int .i64 a0_3, .int .i64 a0_4, .int .i64 a0_5] 23 (0, 0)) (q3_ BK202).out) : gb202 ≠ gb222))
             have n8_ := Aside0.mk ((by rw [hg]; exact Nat.ne_of_gt (blk_lt (g := gb202) (o := .cells #[.bool a0_0, .int .i64 a0_1, .int .i64 a0_2, .int .i64 a0_3, .int .i64 a0_4, .int .i64 a0_5] 23 (0, 0)) (q3_ BK202).out) : gb222 ≠ gb202))
             have n9_ := Aside0.mk ((by rw [hg]; exact Nat.ne_of_lt (blk_lt (g := gb204) (o := .cells #[.bool x205000_1, .int .i64 x205001_1, .int .i64 x205002_1, .int .i64 x205003_1, .int .i64 x205004_1, .int .i64 x205005_1] 23 (0, 0)) (q3_ BK204).out) : gb204 ≠ gb222))
             have n10_ := Aside0.mk ((by rw [hg]; exact Nat.ne_of_gt (blk_lt (g := gb204) (o := .cells #[.bool x205000_1, .int .i64 x205001_1, .int .i64 x205002_1, .int .i64 x205003_1, .int .i64 x205004_1, .int .i64 x205005_1] 23 (0, 0)) (q3_ BK204).out) : gb222 ≠ gb204))
             have n11_ := Aside0.mk ((by rw [hg]; exact Nat.ne_of_lt (blk_lt (g := gb213) (o := .cells #[.bool t206, .int .i64 t207, .int .i64 t208, .int .i64 t209, .int .i64 t210, .int .i64 t211] 23 (0, 0)) (q3_ BK213).out) : gb213 ≠ gb222))
             have n12_ := Aside0.mk ((by rw [hg]; exact Nat.ne_of_gt (blk_lt (g := gb213) (o := .cells #[.bool t206, .int .i64 t207, .int .i64 t208, .int .i64 t209, .int .i64 t210, .int .i64 t211] 23 (0, 0)) (q3_ BK213).out) : gb222 ≠ gb213))
             clear BK202
             clear BK204
             clear BK213
             clear HB
             have BK202 := n0_
             have BK204 := n1_
             have BK213 := n2_
             have HB := n3_
             have BK222 := n4_
             have GW222 := n5_
             have GE222 := n6_
             have NB202_222 := n7_
             have NB222_202 := n8_
             have NB204_222 := n9_
             have NB222_204 := n10_
             have NB213_222 := n11_
             have NB222_213 := n12_
             clear n0_ n1_ n2_ n3_ n4_ n5_ n6_ n7_ n8_ n9_ n10_ n11_ n12_
             clear hb hbox hg
             refine hK.out _ _ ⟨q7_ BK213 0 rfl, q7_ BK213 1 rfl, q7_ BK213 2 rfl, q7_ BK213 3 rfl, q7_ BK213 4 rfl, q7_ BK213 5 rfl, ((HB.out.cell (World.block_lt_of_cell? w _ hw214_0)).trans hw214_0)⟩ (fun hHeld => ?_)
             clear hK K
             refine norm_ (a' := ?_) ?_ ?_
             rotate_left
             ·show Act.put _ (some 10) _ = _
              simp only [Act.put, q4_, q5_, q6_, i64_w, i32_w]
              rfl
             exact norm_ (by simp only [putAll, Act.put, q4_, q5_, q6_]) (hCont (gb222) _ ⟨hHeld, (q3_ BK202).out, (q3_ BK204).out, (q3_ BK213).out, (q3_ BK222).out, GW222.out, GE222.out, NB202_222.out, NB222_202.out, NB204_222.out, NB222_204.out, NB213_222.out, NB222_213.out, (by repeat (first | (with_reducible first | exact HB.out | apply below_alloc | apply pw_below_drewN | apply below_drew1 | refine below_set ?_ GE202.out | refine below_set ?_ GE204.out | refine below_set ?_ GE213.out | refine below_set ?_ GE222.out) | exact HB.out))⟩)
            ·skip
             refine box_step ?hg (N := 10) ?hd (cs := #[.bool false, .int .i64 0, .int .i64 0, .int .i64 0, .int .i64 0, .int .i64 0]) (t := 23) ?hr ?_; (case hd => rfl); (case hg => rfl); (case hr => first | (go_simp; done) | (go_simp; rfl))
             intro gb222 hg w34 hbox hb
             have n0_ := q1_ BK202 hb
             have n1_ := q1_ BK204 hb
             have n2_ := q1_ BK213 hb
             have n3_ := q2_ HB hb
             have n4_ := Aside0.mk (hbox)
             have n5_ := Aside0.mk ((by rw [hg]; exact (below_size (by repeat (first | (with_reducible first | exact HB.out | apply below_alloc | apply pw_below_drewN | apply below_drew1 | refine below_set ?_ GE202.out | refine below_set ?_ GE204.out | refine below_set ?_ GE213.out) | exact HB.out))) : w.heap.size ≤ gb222))
             have n6_ := Aside0.mk ((by rw [hg]; exact (below_size (by repeat (first | (with_reducible first | exact HB.out | apply below_alloc | apply pw_below_drewN | apply below_drew1 | refine below_set ?_ GE202.out | refine below_set ?_ GE204.out | refine below_set ?_ GE213.out) | exact HB.out))) : w.heap.size ≤ gb222))
             have n7_ := Aside0.mk ((by rw [hg]; exact Nat.ne_of_lt (blk_lt (g := gb202) (o := .cells #[.bool a0_0, .int .i64 a0_1, .int .i64 a0_2, .int .i64 a0_3, .int .i64 a0_4, .int .i64 a0_5] 23 (0, 0)) (q3_ BK202).out) : gb202 ≠ gb222))
             have n8_ := Aside0.mk ((by rw [hg]; exact Nat.ne_of_gt (blk_lt (g := gb202) (o := .cells #[.bool a0_0, .int .i64 a0_1, .int .i64 a0_2, .int .i64 a0_3, .int .i64 a0_4, .int .i64 a0_5] 23 (0, 0)) (q3_ BK202).out) : gb222 ≠ gb202))
             have n9_ := Aside0.mk ((by rw [hg]; exact Nat.ne_of_lt (blk_lt (g := gb204) (o := .cells #[.bool x205000_1, .int .i64 x205001_1, .int .i64 x205002_1, .int .i64 x205003_1, .int .i64 x205004_1, .int .i64 x205005_1] 23 (0, 0)) (q3_ BK204).out) : gb204 ≠ gb222))
             have n10_ := Aside0.mk ((by rw [hg]; exact Nat.ne_of_gt (blk_lt (g := gb204) (o := .cells #[.bool x205000_1, .int .i64 x205001_1, .int .i64 x205002_1, .int .i64 x205003_1, .int .i64 x205004_1, .int .i64 x205005_1] 23 (0, 0)) (q3_ BK204).out) : gb222 ≠ gb204))
             have n11_ := Aside0.mk ((by rw [hg]; exact Nat.ne_of_lt (blk_lt (g := gb213) (o := .cells #[.bool t206, .int .i64 t207, .int .i64 t208, .int .i64 t209, .int .i64 t210, .int .i64 t211] 23 (0, 0)) (q3_ BK213).out) : gb213 ≠ gb222))
             have n12_ := Aside0.mk ((by rw [hg]; exact Nat.ne_of_gt (blk_lt (g := gb213) (o := .cells #[.bool t206, .int .i64 t207, .int .i64 t208, .int .i64 t209, .int .i64 t210, .int .i64 t211] 23 (0, 0)) (q3_ BK213).out) : gb222 ≠ gb213))
             clear BK202
             clear BK204
             clear BK213
             clear HB
             have BK202 := n0_
             have BK204 := n1_
             have BK213 := n2_
             have HB := n3_
             have BK222 := n4_
             have GW222 := n5_
             have GE222 := n6_
             have NB202_222 := n7_
             have NB222_202 := n8_
             have NB204_222 := n9_
             have NB222_204 := n10_
             have NB213_222 := n11_
             have NB222_213 := n12_
             clear n0_ n1_ n2_ n3_ n4_ n5_ n6_ n7_ n8_ n9_ n10_ n11_ n12_
             clear hb hbox hg
             refine hK.out _ _ ⟨q7_ BK213 0 rfl, q7_ BK213 1 rfl, q7_ BK213 2 rfl, q7_ BK213 3 rfl, q7_ BK213 4 rfl, q7_ BK213 5 rfl, ((HB.out.cell (World.block_lt_of_cell? w _ hw214_0)).trans hw214_0)⟩ (fun hHeld => ?_)
             clear hK K
             refine norm_ (a' := ?_) ?_ ?_
             rotate_left
             ·show Act.put _ (some 10) _ = _
              simp only [Act.put, q4_, q5_, q6_, i64_w, i32_w]
              rfl
             refine one_ (i := 7) (N := some 44) m32_ rfl rfl (one_of HT_.out (by kernel_rfl)) (by decide) (fun K hK => ?_)
             refine goes_ Try.func13 (by kernel_rfl) rfl #[.agg #[.bool t206, .int .i64 t207, .int .i64 t208, .int .i64 t209, .int .i64 t210, .int .i64 t211], .int .i64 (wrap64 (-(wrap64 (rd l1 x7_1))))] (by rfl) rfl rfl (by (try simp only [List.map_toArray, List.map_cons, List.map_nil]); first | done | rfl | (simp only [List.length_drop, List.length_take]; rfl)) ?_
             with_reducible refine (access_Step.calls t206 t207 t208 t209 t210 t211 (wrap64 (-(wrap64 (rd l1 x7_1)))) t215 t216 t217 t218 t219 t220 true _ A17.out).mono ?_
             rintro e w35 ⟨rfl, hb⟩
             refine ⟨_, rfl, ?_⟩
             have n0_ := q1_ BK202 hb
             have n1_ := q1_ BK204 hb
             have n2_ := q1_ BK213 hb
             have n3_ := q1_ BK222 hb
             have n4_ := q2_ HB hb
             clear BK202
             clear BK204
             clear BK213
             clear BK222
             clear HB
             have BK202 := n0_
             have BK204 := n1_
             have BK213 := n2_
             have BK222 := n3_
             have HB := n4_
             clear n0_ n1_ n2_ n3_ n4_
             (try clear hb)
             (try clear hb2)
             (try clear hk)
             (try clear hi)
             refine hK.out _ _ ⟨q7_ BK213 0 rfl, q7_ BK213 1 rfl, q7_ BK213 2 rfl, q7_ BK213 3 rfl, q7_ BK213 4 rfl, q7_ BK213 5 rfl, ((HB.out.cell (World.block_lt_of_cell? w _ hw214_0)).trans hw214_0)⟩ (fun hHeld => ?_)
             clear hK K
             refine norm_ (a' := ?_) ?_ ?_
             rotate_left
             ·show Act.put _ (some 44) _ = _
              simp only [Act.put, q4_, q5_, q6_, i64_w, i32_w]
              rfl
             refine pure_ (i := 8) (N := some 36) (v := ?_) (a' := ?_) m33_ rfl rfl (any_of HT_.out (by kernel_rfl)) (fun _ _ _ h => h) (Or.inl ⟨by rfl, ?_⟩) ?_ ?_
             rotate_left
             ·intro w'
              go_simp
              with_reducible rfl
             rotate_left
             ·simp only [Act.put, q4_, q5_, q6_, i64_w, i32_w]
              rfl
             refine pure_ (i := 9) (N := some 45) (v := ?_) (a' := ?_) m34_ rfl rfl (any_of HT_.out (by kernel_rfl)) (fun _ _ _ h => h) (Or.inl ⟨by rfl, ?_⟩) ?_ ?_
             rotate_left
             ·intro w'
              go_simp
              with_reducible rfl
             rotate_left
             ·simp only [Act.put, q4_, q5_, q6_, i64_w, i32_w]
              rfl
             refine pure_ (i := 10) (N := some 46) (v := ?_) (a' := ?_) m26_ rfl rfl (any_of HT_.out (by kernel_rfl)) (fun _ _ _ h => h) (Or.inl ⟨by rfl, ?_⟩) ?_ ?_
             rotate_left
             ·intro w'
              go_simp
              with_reducible rfl
             rotate_left
             ·simp only [Act.put, q4_, q5_, q6_, i64_w, i32_w]
              rfl
             exact norm_ (by simp only [putAll, Act.put, q4_, q5_, q6_]) (hCont (gb222) _ ⟨hHeld, (q3_ BK202).out, (q3_ BK204).out, (q3_ BK213).out, (q3_ BK222).out, GW222.out, GE222.out, NB202_222.out, NB222_202.out, NB204_222.out, NB222_204.out, NB213_222.out, NB222_213.out, (by repeat (first | (with_reducible first | exact HB.out | apply below_alloc | apply pw_below_drewN | apply below_drew1 | refine below_set ?_ GE202.out | refine below_set ?_ GE204.out | refine below_set ?_ GE213.out | refine below_set ?_ GE222.out) | exact HB.out))⟩)
           rintro gb222 w36 ⟨hS_, h0_, h1_, h2_, h3_, h4_, h5_, h6_, h7_, h8_, h9_, h10_, h11_, h12_⟩
           have n0_ : Aside0 (w36.heap[gb202]? = some (.cells #[.bool a0_0, .int .i64 a0_1, .int .i64 a0_2, .int .i64 a0_3, .int .i64 a0_4, .int .i64 a0_5] 23 (0, 0))) := ⟨h0_⟩
           have n1_ : Aside0 (w36.heap[gb204]? = some (.cells #[.bool x205000_1, .int .i64 x205001_1, .int .i64 x205002_1, .int .i64 x205003_1, .int .i64 x205004_1, .int .i64 x205005_1] 23 (0, 0))) := ⟨h1_⟩
           have n2_ : Aside0 (w36.heap[gb213]? = some (.cells #[.bool t206, .int .i64 t207, .int .i64 t208, .int .i64 t209, .int .i64 t210, .int .i64 t211] 23 (0, 0))) := ⟨h2_⟩
           have n3_ : Aside0 (w36.heap[gb222]? = some (.cells #[.bool false, .int .i64 0, .int .i64 0, .int .i64 0, .int .i64 0, .int .i64 0] 23 (0, 0))) := ⟨h3_⟩
           have n4_ : Aside0 (w.heap.size ≤ gb222) := ⟨h4_⟩
           have n5_ : Aside0 (w.heap.size ≤ gb222) := ⟨h5_⟩
           have n6_ : Aside0 (gb202 ≠ gb222) := ⟨h6_⟩
           have n7_ : Aside0 (gb222 ≠ gb202) := ⟨h7_⟩
           have n8_ : Aside0 (gb204 ≠ gb222) := ⟨h8_⟩
           have n9_ : Aside0 (gb222 ≠ gb204) := ⟨h9_⟩
           have n10_ : Aside0 (gb213 ≠ gb222) := ⟨h10_⟩
           have n11_ : Aside0 (gb222 ≠ gb213) := ⟨h11_⟩
           have n12_ : Aside0 (Below w.heap.size w w36) := ⟨h12_⟩
           clear BK202
           clear BK204
           clear BK213
           clear HB
           clear h0_ h1_ h2_ h3_ h4_ h5_ h6_ h7_ h8_ h9_ h10_ h11_ h12_
           have BK202 := n0_
           have BK204 := n1_
           have BK213 := n2_
           have BK222 := n3_
           have GW222 := n4_
           have GE222 := n5_
           have NB202_222 := n6_
           have NB222_202 := n7_
           have NB204_222 := n8_
           have NB222_204 := n9_
           have NB213_222 := n10_
           have NB222_213 := n11_
           have HB := n12_
           clear n0_ n1_ n2_ n3_ n4_ n5_ n6_ n7_ n8_ n9_ n10_ n11_ n12_
           have hHeld : w36.cell? ⟨gb213, 0, none⟩ = some (.bool t206) ∧ w36.cell? ⟨gb213, 1, none⟩ = some (.int .i64 t207) ∧ w36.cell? ⟨gb213, 2, none⟩ = some (.int .i64 t208) ∧ w36.cell? ⟨gb213, 3, none⟩ = some (.int .i64 t209) ∧ w36.cell? ⟨gb213, 4, none⟩ = some (.int .i64 t210) ∧ w36.cell? ⟨gb213, 5, none⟩ = some (.int .i64 t211) ∧ w36.cell? (ad205.add (x7_1).toNat) = some (.int .i16 (rd l1 x7_1)) := hS_
           refine norm_ (a' := ?_) ?_ ?_
           rotate_left
           ·simp only [putAll, Act.put, q4_, q5_, q6_]
            rfl
           refine one_ (i := 12) (N := none) m35_ rfl rfl (one_of HT_.out (by kernel_rfl)) (by decide) (fun K hK => ?_)
           have hs37 : w36.cell? ⟨gb222, 0, none⟩ = some (.bool false) := q7_ BK222 0 rfl
           have hfs37 := blk_frozen BK222.out 0
           have hns37_0 := NB202_222.out
           have hns37_1 := NB204_222.out
           have hns37_2 := NB213_222.out
           have hms37_0 := NB222_202.out
           have hms37_1 := NB222_204.out
           have hms37_2 := NB222_213.out
           have hs38 : w36.cell? ⟨gb222, 1, none⟩ = some (.int .i64 0) := q7_ BK222 1 rfl
           have hfs38 := blk_frozen BK222.out 1
           have hns38_0 := NB202_222.out
           have hns38_1 := NB204_222.out
           have hns38_2 := NB213_222.out
           have hms38_0 := NB222_202.out
           have hms38_1 := NB222_204.out
           have hms38_2 := NB222_213.out
           have hs39 : w36.cell? ⟨gb222, 2, none⟩ = some (.int .i64 0) := q7_ BK222 2 rfl
           have hfs39 := blk_frozen BK222.out 2
           have hns39_0 := NB202_222.out
           have hns39_1 := NB204_222.out
           have hns39_2 := NB213_222.out
           have hms39_0 := NB222_202.out
           have hms39_1 := NB222_204.out
           have hms39_2 := NB222_213.out
           have hs40 : w36.cell? ⟨gb222, 3, none⟩ = some (.int .i64 0) := q7_ BK222 3 rfl
           have hfs40 := blk_frozen BK222.out 3
           have hns40_0 := NB202_222.out
           have hns40_1 := NB204_222.out
           have hns40_2 := NB213_222.out
           have hms40_0 := NB222_202.out
           have hms40_1 := NB222_204.out
           have hms40_2 := NB222_213.out
           have hs41 : w36.cell? ⟨gb222, 4, none⟩ = some (.int .i64 0) := q7_ BK222 4 rfl
           have hfs41 := blk_frozen BK222.out 4
           have hns41_0 := NB202_222.out
           have hns41_1 := NB204_222.out
           have hns41_2 := NB213_222.out
           have hms41_0 := NB222_202.out
           have hms41_1 := NB222_204.out
           have hms41_2 := NB222_213.out
           have hs42 : w36.cell? ⟨gb222, 5, none⟩ = some (.int .i64 0) := q7_ BK222 5 rfl
           have hfs42 := blk_frozen BK222.out 5
           have hns42_0 := NB202_222.out
           have hns42_1 := NB204_222.out
           have hns42_2 := NB213_222.out
           have hms42_0 := NB222_202.out
           have hms42_1 := NB222_204.out
           have hms42_2 := NB222_213.out
           refine skip_ (w1 := ?_) (by rfl) rfl ?_ ?_
           rotate_left
           ·go_simp
            rfl
           refine hK.out _ _ ⟨((q8_ NB213_222).trans (((q8_ NB213_222).trans (((q8_ NB213_222).trans (((q8_ NB213_222).trans (((q8_ NB213_222).trans (((q8_ NB213_222).trans (hHeld.1)))))))))))), ((q8_ NB213_222).trans (((q8_ NB213_222).trans (((q8_ NB213_222).trans (((q8_ NB213_222).trans (((q8_ NB213_222).trans (((q8_ NB213_222).trans (hHeld.2.1)))))))))))), ((q8_ NB213_222).trans (((q8_ NB213_222).trans (((q8_ NB213_222).trans (((q8_ NB213_222).trans (((q8_ NB213_222).trans (((q8_ NB213_222).trans (hHeld.2.2.1)))))))))))), ((q8_ NB213_222).trans (((q8_ NB213_222).trans (((q8_ NB213_222).trans (((q8_ NB213_222).trans (((q8_ NB213_222).trans (((q8_ NB213_222).trans (hHeld.2.2.2.1)))))))))))), ((q8_ NB213_222).trans (((q8_ NB213_222).trans (((q8_ NB213_222).trans (((q8_ NB213_222).trans (((q8_ NB213_222).trans (((q8_ NB213_222).trans (hHeld.2.2.2.2.1)))))))))))), ((q8_ NB213_222).trans (((q8_ NB213_222).trans (((q8_ NB213_222).trans (((q8_ NB213_222).trans (((q8_ NB213_222).trans (((q8_ NB213_222).trans (hHeld.2.2.2.2.2.1)))))))))))), ((cell_far (p := ⟨gb222, _, none⟩) (by first | exact Nat.ne_of_lt (Nat.lt_of_lt_of_le (by have := World.block_lt_of_cell? _ _ hw214_0; first | rwa [add_block] at this | exact this) GW222.out) | (rw [add_block]; exact Nat.ne_of_lt (Nat.lt_of_lt_of_le (by have := World.block_lt_of_cell? _ _ hw214_0; first | rwa [add_block] at this | exact this) GW222.out)) | (show (Addr.add _ _).block ≠ _; rw [add_block]; exact Nat.ne_of_lt (Nat.lt_of_lt_of_le (by have := World.block_lt_of_cell? _ _ hw214_0; first | rwa [add_block] at this | exact this) GW222.out)) | (dsimp only; exact Nat.ne_of_lt (Nat.lt_of_lt_of_le (by have := World.block_lt_of_cell? _ _ hw214_0; first | rwa [add_block] at this | exact this) GW222.out))) _).trans (((cell_far (p := ⟨gb222, _, none⟩) (by first | exact Nat.ne_of_lt (Nat.lt_of_lt_of_le (by have := World.block_lt_of_cell? _ _ hw214_0; first | rwa [add_block] at this | exact this) GW222.out) | (rw [add_block]; exact Nat.ne_of_lt (Nat.lt_of_lt_of_le (by have := World.block_lt_of_cell? _ _ hw214_0; first | rwa [add_block] at this | exact this) GW222.out)) | (show (Addr.add _ _).block ≠ _; rw [add_block]; exact Nat.ne_of_lt (Nat.lt_of_lt_of_le (by have := World.block_lt_of_cell? _ _ hw214_0; first | rwa [add_block] at this | exact this) GW222.out)) | (dsimp only; exact Nat.ne_of_lt (Nat.lt_of_lt_of_le (by have := World.block_lt_of_cell? _ _ hw214_0; first | rwa [add_block] at this | exact this) GW222.out))) _).trans (((cell_far (p := ⟨gb222, _, none⟩) (by first | exact Nat.ne_of_lt (Nat.lt_of_lt_of_le (by have := World.block_lt_of_cell? _ _ hw214_0; first | rwa [add_block] at this | exact this) GW222.out) | (rw [add_block]; exact Nat.ne_of_lt (Nat.lt_of_lt_of_le (by have := World.block_lt_of_cell? _ _ hw214_0; first | rwa [add_block] at this | exact this) GW222.out)) | (show (Addr.add _ _).block ≠ _; rw [add_block]; exact Nat.ne_of_lt (Nat.lt_of_lt_of_le (by have := World.block_lt_of_cell? _ _ hw214_0; first | rwa [add_block] at this | exact this) GW222.out)) | (dsimp only; exact Nat.ne_of_lt (Nat.lt_of_lt_of_le (by have := World.block_lt_of_cell? _ _ hw214_0; first | rwa [add_block] at this | exact this) GW222.out))) _).trans (((cell_far (p := ⟨gb222, _, none⟩) (by first | exact Nat.ne_of_lt (Nat.lt_of_lt_of_le (by have := World.block_lt_of_cell? _ _ hw214_0; first | rwa [add_block] at this | exact this) GW222.out) | (rw [add_block]; exact Nat.ne_of_lt (Nat.lt_of_lt_of_le (by have := World.block_lt_of_cell? _ _ hw214_0; first | rwa [add_block] at this | exact this) GW222.out)) | (show (Addr.add _ _).block ≠ _; rw [add_block]; exact Nat.ne_of_lt (Nat.lt_of_lt_of_le (by have := World.block_lt_of_cell? _ _ hw214_0; first | rwa [add_block] at this | exact this) GW222.out)) | (dsimp only; exact Nat.ne_of_lt (Nat.lt_of_lt_of_le (by have := World.block_lt_of_cell? _ _ hw214_0; first | rwa [add_block] at this | exact this) GW222.out))) _).trans (((cell_far (p := ⟨gb222, _, none⟩) (by first | exact Nat.ne_of_lt (Nat.lt_of_lt_of_le (by have := World.block_lt_of_cell? _ _ hw214_0; first | rwa [add_block] at this | exact this) GW222.out) | (rw [add_block]; exact Nat.ne_of_lt (Nat.lt_of_lt_of_le (by have := World.block_lt_of_cell? _ _ hw214_0; first | rwa [add_block] at this | exact this) GW222.out)) | (show (Addr.add _ _).block ≠ _; rw [add_block]; exact Nat.ne_of_lt (Nat.lt_of_lt_of_le (by have := World.block_lt_of_cell? _ _ hw214_0; first | rwa [add_block] at this | exact this) GW222.out)) | (dsimp only; exact Nat.ne_of_lt (Nat.lt_of_lt_of_le (by have := World.block_lt_of_cell? _ _ hw214_0; first | rwa [add_block] at this | exact this) GW222.out))) _).trans (((cell_far (p := ⟨gb222, _, none⟩) (by first | exact Nat.ne_of_lt (Nat.lt_of_lt_of_le (by have := World.block_lt_of_cell? _ _ hw214_0; first | rwa [add_block] at this | exact this) GW222.out) | (rw [add_block]; exact Nat.ne_of_lt (Nat.lt_of_lt_of_le (by have := World.block_lt_of_cell? _ _ hw214_0; first | rwa [add_block] at this | exact this) GW222.out)) | (show (Addr.add _ _).block ≠ _; rw [add_block]; exact Nat.ne_of_lt (Nat.lt_of_lt_of_le (by have := World.block_lt_of_cell? _ _ hw214_0; first | rwa [add_block] at this | exact this) GW222.out)) | (dsimp only; exact Nat.ne_of_lt (Nat.lt_of_lt_of_le (by have := World.block_lt_of_cell? _ _ hw214_0; first | rwa [add_block] at this | exact this) GW222.out))) _).trans (hHeld.2.2.2.2.2.2))))))))))))⟩ (fun hHeld => ?_)
           clear hK K
           refine pure_ (i := 13) (N := some 11) (v := ?_) (a' := ?_) m36_ rfl rfl (any_of HT_.out (by kernel_rfl)) (fun _ _ _ h => h) (Or.inl ⟨by rfl, ?_⟩) ?_ ?_
           rotate_left
           ·intro w'
            go_simp
            with_reducible rfl
           rotate_left
           ·simp only [Act.put, q4_, q5_, q6_, i64_w, i32_w]
            rfl
           refine done_ (done_of HT_.out (by kernel_rfl)) ?_
           have hnb43 := NB213_202.out
           have hnc43 := NB202_213.out
           have hnb44 := NB213_204.out
           have hnc44 := NB204_213.out
           have hnb45 := NB213_222.out
           have hnc45 := NB222_213.out
           have hcz46_0 : w36.cell? ⟨gb213, 0, none⟩ = some (.bool t206) := q7_ BK213 0 rfl
           have hcz46_1 : w36.cell? ⟨gb213, 1, none⟩ = some (.int .i64 t207) := q7_ BK213 1 rfl
           have hcz46_2 : w36.cell? ⟨gb213, 2, none⟩ = some (.int .i64 t208) := q7_ BK213 2 rfl
           have hcz46_3 : w36.cell? ⟨gb213, 3, none⟩ = some (.int .i64 t209) := q7_ BK213 3 rfl
           have hcz46_4 : w36.cell? ⟨gb213, 4, none⟩ = some (.int .i64 t210) := q7_ BK213 4 rfl
           have hcz46_5 : w36.cell? ⟨gb213, 5, none⟩ = some (.int .i64 t211) := q7_ BK213 5 rfl
           have hfz46_0 := blk_frozen BK213.out 0
           have hfz46_1 := blk_frozen BK213.out 1
           have hfz46_2 := blk_frozen BK213.out 2
           have hfz46_3 := blk_frozen BK213.out 3
           have hfz46_4 := blk_frozen BK213.out 4
           have hfz46_5 := blk_frozen BK213.out 5
           have hnb47 := NB202_204.out
           have hnc47 := NB204_202.out
           have hnb48 := NB202_222.out
           have hnc48 := NB222_202.out
           have hcz49_0 : w36.cell? ⟨gb202, 0, none⟩ = some (.bool a0_0) := q7_ BK202 0 rfl
           have hcz49_1 : w36.cell? ⟨gb202, 1, none⟩ = some (.int .i64 a0_1) := q7_ BK202 1 rfl
           have hcz49_2 : w36.cell? ⟨gb202, 2, none⟩ = some (.int .i64 a0_2) := q7_ BK202 2 rfl
           have hcz49_3 : w36.cell? ⟨gb202, 3, none⟩ = some (.int .i64 a0_3) := q7_ BK202 3 rfl
           have hcz49_4 : w36.cell? ⟨gb202, 4, none⟩ = some (.int .i64 a0_4) := q7_ BK202 4 rfl
           have hcz49_5 : w36.cell? ⟨gb202, 5, none⟩ = some (.int .i64 a0_5) := q7_ BK202 5 rfl
           have hfz49_0 := blk_frozen BK202.out 0
           have hfz49_1 := blk_frozen BK202.out 1
           have hfz49_2 := blk_frozen BK202.out 2
           have hfz49_3 := blk_frozen BK202.out 3
           have hfz49_4 := blk_frozen BK202.out 4
           have hfz49_5 := blk_frozen BK202.out 5
           have hnb50 := NB222_204.out
           have hnc50 := NB204_222.out
           have hcz51_0 : w36.cell? ⟨gb222, 0, none⟩ = some (.bool false) := q7_ BK222 0 rfl
           have hcz51_1 : w36.cell? ⟨gb222, 1, none⟩ = some (.int .i64 0) := q7_ BK222 1 rfl
           have hcz51_2 : w36.cell? ⟨gb222, 2, none⟩ = some (.int .i64 0) := q7_ BK222 2 rfl
           have hcz51_3 : w36.cell? ⟨gb222, 3, none⟩ = some (.int .i64 0) := q7_ BK222 3 rfl
           have hcz51_4 : w36.cell? ⟨gb222, 4, none⟩ = some (.int .i64 0) := q7_ BK222 4 rfl
           have hcz51_5 : w36.cell? ⟨gb222, 5, none⟩ = some (.int .i64 0) := q7_ BK222 5 rfl
           have hfz51_0 := blk_frozen BK222.out 0
           have hfz51_1 := blk_frozen BK222.out 1
           have hfz51_2 := blk_frozen BK222.out 2
           have hfz51_3 := blk_frozen BK222.out 3
           have hfz51_4 := blk_frozen BK222.out 4
           have hfz51_5 := blk_frozen BK222.out 5
           have hcz52_0 : w36.cell? ⟨gb204, 0, none⟩ = some (.bool x205000_1) := q7_ BK204 0 rfl
           have hcz52_1 : w36.cell? ⟨gb204, 1, none⟩ = some (.int .i64 x205001_1) := q7_ BK204 1 rfl
           have hcz52_2 : w36.cell? ⟨gb204, 2, none⟩ = some (.int .i64 x205002_1) := q7_ BK204 2 rfl
           have hcz52_3 : w36.cell? ⟨gb204, 3, none⟩ = some (.int .i64 x205003_1) := q7_ BK204 3 rfl
           have hcz52_4 : w36.cell? ⟨gb204, 4, none⟩ = some (.int .i64 x205004_1) := q7_ BK204 4 rfl
           have hcz52_5 : w36.cell? ⟨gb204, 5, none⟩ = some (.int .i64 x205005_1) := q7_ BK204 5 rfl
           have hfz52_0 := blk_frozen BK204.out 0
           have hfz52_1 := blk_frozen BK204.out 1
           have hfz52_2 := blk_frozen BK204.out 2
           have hfz52_3 := blk_frozen BK204.out 3
           have hfz52_4 := blk_frozen BK204.out 4
           have hfz52_5 := blk_frozen BK204.out 5
           try go_wp2
           go_roundg k1
           case measure => have := HK1.out; omega
           case rel => exact ⟨(wrap64 (x7_1 + 1)), (t206), (t207), (t208), (t209), (t210), (t211), (by first | rfl | (simp; done) | (simp [*]; done)), H', ⟨by have := HK1.out; omega⟩, ⟨by (with_reducible repeat (first | refine blk_drewN ?_ _ | refine blk_drew ?_ | refine blk_alloc ?_ _)); refine blk_far ?_ NB202_204.out _; (with_reducible repeat (first | refine blk_drewN ?_ _ | refine blk_drew ?_ | refine blk_alloc ?_ _)); refine blk_far ?_ NB202_204.out _; (with_reducible repeat (first | refine blk_drewN ?_ _ | refine blk_drew ?_ | refine blk_alloc ?_ _)); refine blk_far ?_ NB202_204.out _; (with_reducible repeat (first | refine blk_drewN ?_ _ | refine blk_drew ?_ | refine blk_alloc ?_ _)); refine blk_far ?_ NB202_204.out _; (with_reducible repeat (first | refine blk_drewN ?_ _ | refine blk_drew ?_ | refine blk_alloc ?_ _)); refine blk_far ?_ NB202_204.out _; (with_reducible repeat (first | refine blk_drewN ?_ _ | refine blk_drew ?_ | refine blk_alloc ?_ _)); refine blk_far ?_ NB202_204.out _; (with_reducible repeat (first | refine blk_drewN ?_ _ | refine blk_drew ?_ | refine blk_alloc ?_ _)); refine blk_far ?_ NB202_222.out _; (with_reducible repeat (first | refine blk_drewN ?_ _ | refine blk_drew ?_ | refine blk_alloc ?_ _)); refine blk_far ?_ NB202_222.out _; (with_reducible repeat (first | refine blk_drewN ?_ _ | refine blk_drew ?_ | refine blk_alloc ?_ _)); refine blk_far ?_ NB202_222.out _; (with_reducible repeat (first | refine blk_drewN ?_ _ | refine blk_drew ?_ | refine blk_alloc ?_ _)); refine blk_far ?_ NB202_222.out _; (with_reducible repeat (first | refine blk_drewN ?_ _ | refine blk_drew ?_ | refine blk_alloc ?_ _)); refine blk_far ?_ NB202_222.out _; (with_reducible repeat (first | refine blk_drewN ?_ _ | refine blk_drew ?_ | refine blk_alloc ?_ _)); refine blk_far ?_ NB202_222.out _; (with_reducible repeat (first | refine blk_drewN ?_ _ | refine blk_drew ?_ | refine blk_alloc ?_ _)); exact BK202.out⟩, ⟨by (with_reducible repeat (first | refine blk_drewN ?_ _ | refine blk_drew ?_ | refine blk_alloc ?_ _)); refine blk_put (cs := #[.bool t206, .int .i64 t207, .int .i64 t208, .int .i64 t209, .int .i64 t210, .int .i64 x205005_1]) ?_ 5 _ rfl; (with_reducible repeat (first | refine blk_drewN ?_ _ | refine blk_drew ?_ | refine blk_alloc ?_ _)); refine blk_put (cs := #[.bool t206, .int .i64 t207, .int .i64 t208, .int .i64 t209, .int .i64 x205004_1, .int .i64 x205005_1]) ?_ 4 _ rfl; (with_reducible repeat (first | refine blk_drewN ?_ _ | refine blk_drew ?_ | refine blk_alloc ?_ _)); refine blk_put (cs := #[.bool t206, .int .i64 t207, .int .i64 t208, .int .i64 x205003_1, .int .i64 x205004_1, .int .i64 x205005_1]) ?_ 3 _ rfl; (with_reducible repeat (first | refine blk_drewN ?_ _ | refine blk_drew ?_ | refine blk_alloc ?_ _)); refine blk_put (cs := #[.bool t206, .int .i64 t207, .int .i64 x205002_1, .int .i64 x205003_1, .int .i64 x205004_1, .int .i64 x205005_1]) ?_ 2 _ rfl; (with_reducible repeat (first | refine blk_drewN ?_ _ | refine blk_drew ?_ | refine blk_alloc ?_ _)); refine blk_put (cs := #[.bool t206, .int .i64 x205001_1, .int .i64 x205002_1, .int .i64 x205003_1, .int .i64 x205004_1, .int .i64 x205005_1]) ?_ 1 _ rfl; (with_reducible repeat (first | refine blk_drewN ?_ _ | refine blk_drew ?_ | refine blk_alloc ?_ _)); refine blk_put (cs := #[.bool x205000_1, .int .i64 x205001_1, .int .i64 x205002_1, .int .i64 x205003_1, .int .i64 x205004_1, .int .i64 x205005_1]) ?_ 0 _ rfl; (with_reducible repeat (first | refine blk_drewN ?_ _ | refine blk_drew ?_ | refine blk_alloc ?_ _)); refine blk_far ?_ NB204_222.out _; (with_reducible repeat (first | refine blk_drewN ?_ _ | refine blk_drew ?_ | refine blk_alloc ?_ _)); refine blk_far ?_ NB204_222.out _; (with_reducible repeat (first | refine blk_drewN ?_ _ | refine blk_drew ?_ | refine blk_alloc ?_ _)); refine blk_far ?_ NB204_222.out _; (with_reducible repeat (first | refine blk_drewN ?_ _ | refine blk_drew ?_ | refine blk_alloc ?_ _)); refine blk_far ?_ NB204_222.out _; (with_reducible repeat (first | refine blk_drewN ?_ _ | refine blk_drew ?_ | refine blk_alloc ?_ _)); refine blk_far ?_ NB204_222.out _; (with_reducible repeat (first | refine blk_drewN ?_ _ | refine blk_drew ?_ | refine blk_alloc ?_ _)); refine blk_far ?_ NB204_222.out _; (with_reducible repeat (first | refine blk_drewN ?_ _ | refine blk_drew ?_ | refine blk_alloc ?_ _)); exact BK204.out⟩, ⟨by repeat (first | (with_reducible first | exact HB.out | apply below_alloc | apply pw_below_drewN | apply below_drew1 | refine below_set ?_ GE202.out | refine below_set ?_ GE204.out | refine below_set ?_ GE213.out | refine below_set ?_ GE222.out) | exact HB.out)⟩⟩
         ·replace c20 := Bool.eq_false_iff.mpr c20
          subst c20
          have H1 : (if x205003_1 ≥ a0_1 then (if x205003_1 ≤ a0_2 then (some false) else (seizinlaw05_AccessSteps.l0 k1 l1 t203 (wrap64 (x7_1 + 1)) a0_0 a0_1 a0_2 a0_3 a0_4 a0_5 t206 t207 t208 t209 t210 t211)) else (seizinlaw05_AccessSteps.l0 k1 l1 t203 (wrap64 (x7_1 + 1)) a0_0 a0_1 a0_2 a0_3 a0_4 a0_5 t206 t207 t208 t209 t210 t211)) = some r := by rw [if_neg (show ¬ (false = true) by decide)] at H; exact H
          clear H
          have H := H1
          clear H1
          by_cases c53 : x205003_1 ≥ a0_1
          ·rw [if_pos c53] at H
           have c53b0 : decide (a0_1 ≤ x205003_1) = true := decide_eq_true c53
           clear c53
           by_cases c54 : x205003_1 ≤ a0_2
           ·rw [if_pos c54] at H
            have c54b0 : decide (x205003_1 ≤ a0_2) = true := decide_eq_true c54
            clear c54
            exact absurd ((Option.some.inj H).trans hr_) (by decide)
           ·rw [if_neg c54] at H
            have c54b0 : decide (x205003_1 ≤ a0_2) = false := decide_eq_false c54
            clear c54
            have H' := Aside0.mk H
            clear H
            try go_wp2
            have n0_ := Aside0.mk (blk_drew BK202.out)
            have n1_ := Aside0.mk (blk_drew BK204.out)
            have n2_ := Aside0.mk (below_drew1 HB.out)
            clear BK202
            clear BK204
            clear HB
            have BK202 := n0_
            have BK204 := n1_
            have HB := n2_
            clear n0_ n1_ n2_
            have p205 : 0 ≤ (x7_1 : Int) := of_decide_eq_true (by first | (with_reducible assumption) | assumption)
            have q205 : x7_1 < (l1.length : Int) := of_decide_eq_true (by first | (with_reducible assumption) | assumption)
            obtain ⟨ad205, e205, hx205_0⟩ := Kd.at_int HR1.out x7_1 p205 q205
            have hw205_0 := hx205_0
            cases e205
            replace hx205_0 := (HB.out.cell (World.block_lt_of_cell? w _ hx205_0)).trans hx205_0
            replace p205 := eq_true p205
            replace q205 := eq_true q205
            refine start_ (n := 13) (S := fun w' => w'.cell? ⟨gb204, 0, none⟩ = some (.bool x205000_1) ∧ w'.cell? ⟨gb204, 1, none⟩ = some (.int .i64 x205001_1) ∧ w'.cell? ⟨gb204, 2, none⟩ = some (.int .i64 x205002_1) ∧ w'.cell? ⟨gb204, 3, none⟩ = some (.int .i64 x205003_1) ∧ w'.cell? ⟨gb204, 4, none⟩ = some (.int .i64 x205004_1) ∧ w'.cell? ⟨gb204, 5, none⟩ = some (.int .i64 x205005_1) ∧ w'.cell? (ad205.add (x7_1).toNat) = some (.int .i16 (rd l1 x7_1))) (ds := []) m0_ (by kernel_rfl) rfl rfl ⟨q7_ BK204 0 rfl, q7_ BK204 1 rfl, q7_ BK204 2 rfl, q7_ BK204 3 rfl, q7_ BK204 4 rfl, q7_ BK204 5 rfl, ((HB.out.cell (World.block_lt_of_cell? w _ hw205_0)).trans hw205_0)⟩ (fun hHeld => ?_); refine with_tabW seizinlaw05_AccessSteps.tab8 seizinlaw05_AccessSteps.bits8 (fun HT_ HW_ => ?_)
            generalize wr.drew = w55 at BK202 BK204 HB hx205_0 hHeld ⊢
            refine pure_ (i := 1) (N := some 26) (v := ?_) (a' := ?_) m1_ rfl rfl (any_of HT_.out (by kernel_rfl)) (fun _ _ _ h => h) (Or.inl ⟨by rfl, ?_⟩) ?_ ?_
            rotate_left
            ·intro w'
             go_simp
             with_reducible rfl
            rotate_left
            ·simp only [Act.put, q4_, q5_, q6_, i64_w, i32_w]
             rfl
            refine pure_ (i := 2) (N := some 27) (v := ?_) (a' := ?_) m2_ rfl rfl (any_of HT_.out (by kernel_rfl)) (fun _ _ _ h => h) (Or.inl ⟨by rfl, ?_⟩) ?_ ?_
            rotate_left
            ·intro w'
             go_simp
             with_reducible rfl
            rotate_left
            ·simp only [Act.put, q4_, q5_, q6_, i64_w, i32_w]
             rfl
            refine pure_ (i := 3) (N := some 28) (v := ?_) (a' := ?_) m3_ rfl rfl (any_of HT_.out (by kernel_rfl)) (fun _ _ _ h => h) (Or.inl ⟨by rfl, ?_⟩) ?_ ?_
            rotate_left
            ·intro w'
             go_simp
             with_reducible rfl
            rotate_left
            ·simp only [Act.put, q4_, q5_, q6_, i64_w, i32_w]
             rfl
            refine take_ (i := 0) (N := some 25) (v := ?_) (a' := ?_) m4_ rfl rfl (take_ofW HT_.out HW_.out (by kernel_rfl)) (fun _ _ _ h => h) (Or.inl ⟨by rfl, ?_⟩) hHeld ?_ ?_
            rotate_left
            ·rintro w' ⟨s0, s1, s2, s3, s4, s5, s6⟩
             go_simp
             with_reducible rfl
            rotate_left
            ·simp only [Act.put, q4_, q5_, q6_, i64_w, i32_w]
             rfl
            refine take_ (i := 4) (N := some 29) (v := ?_) (a' := ?_) m5_ rfl rfl (take_ofW HT_.out HW_.out (by kernel_rfl)) (fun _ _ _ h => h) (Or.inl ⟨by rfl, ?_⟩) hHeld ?_ ?_
            rotate_left
            ·rintro w' ⟨s0, s1, s2, s3, s4, s5, s6⟩
             go_simp
             with_reducible rfl
            rotate_left
            ·simp only [Act.put, q4_, q5_, q6_, i64_w, i32_w]
             rfl
            refine pure_ (i := 5) (N := some 30) (v := ?_) (a' := ?_) m6_ rfl rfl (any_of HT_.out (by kernel_rfl)) (fun _ _ _ h => h) (Or.inl ⟨by rfl, ?_⟩) ?_ ?_
            rotate_left
            ·intro w'
             go_simp
             with_reducible rfl
            rotate_left
            ·simp only [Act.put, q4_, q5_, q6_, i64_w, i32_w]
             rfl
            refine join_ (σ := Nat) 2 m7_ (fun s_ => [(31, .tuple #[.agg #[.bool t206, .int .i64 t207, .int .i64 t208, .int .i64 t209, .int .i64 t210, .int .i64 t211], .bool true]), (8, .pointer (some ⟨s_, 0, none⟩)), (24, .tuple #[.agg #[.bool t206, .int .i64 t207, .int .i64 t208, .int .i64 t209, .int .i64 t210, .int .i64 t211], .bool true]), (32, .agg #[.bool t206, .int .i64 t207, .int .i64 t208, .int .i64 t209, .int .i64 t210, .int .i64 t211]), (33, .bool true)]) (fun s_ w' => (w'.cell? ⟨gb204, 0, none⟩ = some (.bool x205000_1) ∧ w'.cell? ⟨gb204, 1, none⟩ = some (.int .i64 x205001_1) ∧ w'.cell? ⟨gb204, 2, none⟩ = some (.int .i64 x205002_1) ∧ w'.cell? ⟨gb204, 3, none⟩ = some (.int .i64 x205003_1) ∧ w'.cell? ⟨gb204, 4, none⟩ = some (.int .i64 x205004_1) ∧ w'.cell? ⟨gb204, 5, none⟩ = some (.int .i64 x205005_1) ∧ w'.cell? (ad205.add (x7_1).toNat) = some (.int .i16 (rd l1 x7_1))) ∧ (w'.heap[gb202]? = some (.cells #[.bool a0_0, .int .i64 a0_1, .int .i64 a0_2, .int .i64 a0_3, .int .i64 a0_4, .int .i64 a0_5] 23 (0, 0))) ∧ (w'.heap[gb204]? = some (.cells #[.bool x205000_1, .int .i64 x205001_1, .int .i64 x205002_1, .int .i64 x205003_1, .int .i64 x205004_1, .int .i64 x205005_1] 23 (0, 0))) ∧ (w'.heap[s_]? = some (.cells #[.bool false, .int .i64 0, .int .i64 0, .int .i64 0, .int .i64 0, .int .i64 0] 23 (0, 0))) ∧ (w.heap.size ≤ s_) ∧ (w.heap.size ≤ s_) ∧ (gb202 ≠ s_) ∧ (s_ ≠ gb202) ∧ (gb204 ≠ s_) ∧ (s_ ≠ gb204) ∧ (Below w.heap.size w w')) ?_ ?_
            rotate_left
            ·intro hCont
             refine two_ (i := 6) (j := 10) (Ni := some 31) (Nj := some 8) m8_ m9_ rfl rfl rfl rfl (two_of HT_.out (by kernel_rfl)) (by decide) (by decide) (fun K hK => ?_) (fun K hK => ?_)
             ·skip
              refine goes_ Try.func13 (by kernel_rfl) rfl #[.agg #[.bool x205000_1, .int .i64 x205001_1, .int .i64 x205002_1, .int .i64 x205003_1, .int .i64 x205004_1, .int .i64 x205005_1], .int .i64 (wrap64 (rd l1 x7_1))] (by rfl) rfl rfl (by (try simp only [List.map_toArray, List.map_cons, List.map_nil]); first | done | rfl | (simp only [List.length_drop, List.length_take]; rfl)) ?_
              with_reducible refine (access_Step.calls x205000_1 x205001_1 x205002_1 x205003_1 x205004_1 x205005_1 (wrap64 (rd l1 x7_1)) t206 t207 t208 t209 t210 t211 true _ A15.out).mono ?_
              rintro e w56 ⟨rfl, hb⟩
              refine ⟨_, rfl, ?_⟩
              have n0_ := q1_ BK202 hb
              have n1_ := q1_ BK204 hb
              have n2_ := q2_ HB hb
              clear BK202
              clear BK204
              clear HB
              have BK202 := n0_
              have BK204 := n1_
              have HB := n2_
              clear n0_ n1_ n2_
              (try clear hb)
              (try clear hb2)
              (try clear hk)
              (try clear hi)
              refine hK.out _ _ ⟨q7_ BK204 0 rfl, q7_ BK204 1 rfl, q7_ BK204 2 rfl, q7_ BK204 3 rfl, q7_ BK204 4 rfl, q7_ BK204 5 rfl, ((HB.out.cell (World.block_lt_of_cell? w _ hw205_0)).trans hw205_0)⟩ (fun hHeld => ?_)
              clear hK K
              refine norm_ (a' := ?_) ?_ ?_
              rotate_left
              ·show Act.put _ (some 31) _ = _
               simp only [Act.put, q4_, q5_, q6_, i64_w, i32_w]
               rfl
              refine pure_ (i := 7) (N := some 24) (v := ?_) (a' := ?_) m10_ rfl rfl (any_of HT_.out (by kernel_rfl)) (fun _ _ _ h => h) (Or.inl ⟨by rfl, ?_⟩) ?_ ?_
              rotate_left
              ·intro w'
               go_simp
               with_reducible rfl
              rotate_left
              ·simp only [Act.put, q4_, q5_, q6_, i64_w, i32_w]
               rfl
              refine pure_ (i := 8) (N := some 32) (v := ?_) (a' := ?_) m11_ rfl rfl (any_of HT_.out (by kernel_rfl)) (fun _ _ _ h => h) (Or.inl ⟨by rfl, ?_⟩) ?_ ?_
              rotate_left
              ·intro w'
               go_simp
               with_reducible rfl
              rotate_left
              ·simp only [Act.put, q4_, q5_, q6_, i64_w, i32_w]
               rfl
              refine pure_ (i := 9) (N := some 33) (v := ?_) (a' := ?_) m12_ rfl rfl (any_of HT_.out (by kernel_rfl)) (fun _ _ _ h => h) (Or.inl ⟨by rfl, ?_⟩) ?_ ?_
              rotate_left
              ·intro w'
               go_simp
               with_reducible rfl
              rotate_left
              ·simp only [Act.put, q4_, q5_, q6_, i64_w, i32_w]
               rfl
              refine one_ (i := 10) (N := some 8) m7_ rfl rfl (one_of HT_.out (by kernel_rfl)) (by decide) (fun K hK => ?_)
              refine box_step ?hg (N := 8) ?hd (cs := #[.bool false, .int .i64 0, .int .i64 0, .int .i64 0, .int .i64 0, .int .i64 0]) (t := 23) ?hr ?_; (case hd => rfl); (case hg => rfl); (case hr => first | (go_simp; done) | (go_simp; rfl))
              intro gb213 hg w57 hbox hb
              have n0_ := q1_ BK202 hb
              have n1_ := q1_ BK204 hb
              have n2_ := q2_ HB hb
              have n3_ := Aside0.mk (hbox)
              have n4_ := Aside0.mk ((by rw [hg]; exact (below_size (by repeat (first | (with_reducible first | exact HB.out | apply below_alloc | apply pw_below_drewN | apply below_drew1 | refine below_set ?_ GE202.out | refine below_set ?_ GE204.out) | exact HB.out))) : w.heap.size ≤ gb213))
              have n5_ := Aside0.mk ((by rw [hg]; exact (below_size (by repeat (first | (with_reducible first | exact HB.out | apply below_alloc | apply pw_below_drewN | apply below_drew1 | refine below_set ?_ GE202.out | refine below_set ?_ GE204.out) | exact HB.out))) : w.heap.size ≤ gb213))
              have n6_ := Aside0.mk ((by rw [hg]; exact Nat.ne_of_lt (blk_lt (g := gb202) (o := .cells #[.bool a0_0, .int .i64 a0_1, .int .i64 a0_2, .int .i64 a0_3, .int .i64 a0_4, .int .i64 a0_5] 23 (0, 0)) (q3_ BK202).out) : gb202 ≠ gb213))
              have n7_ := Aside0.mk ((by rw [hg]; exact Nat.ne_of_gt (blk_lt (g := gb202) (o := .cells #[.bool a0_0, .int .i64 a0_1, .int .i64 a0_2, .int .i64 a0_3, .int .i64 a0_4, .int .i64 a0_5] 23 (0, 0)) (q3_ BK202).out) : gb213 ≠ gb202))
              have n8_ := Aside0.mk ((by rw [hg]; exact Nat.ne_of_lt (blk_lt (g := gb204) (o := .cells #[.bool x205000_1, .int .i64 x205001_1, .int .i64 x205002_1, .int .i64 x205003_1, .int .i64 x205004_1, .int .i64 x205005_1] 23 (0, 0)) (q3_ BK204).out) : gb204 ≠ gb213))
              have n9_ := Aside0.mk ((by rw [hg]; exact Nat.ne_of_gt (blk_lt (g := gb204) (o := .cells #[.bool x205000_1, .int .i64 x205001_1, .int .i64 x205002_1, .int .i64 x205003_1, .int .i64 x205004_1, .int .i64 x205005_1] 23 (0, 0)) (q3_ BK204).out) : gb213 ≠ gb204))
              clear BK202
              clear BK204
              clear HB
              have BK202 := n0_
              have BK204 := n1_
              have HB := n2_
              have BK213 := n3_
              have GW213 := n4_
              have GE213 := n5_
              have NB202_213 := n6_
              have NB213_202 := n7_
              have NB204_213 := n8_
              have NB213_204 := n9_
              clear n0_ n1_ n2_ n3_ n4_ n5_ n6_ n7_ n8_ n9_
              clear hb hbox hg
              refine hK.out _ _ ⟨q7_ BK204 0 rfl, q7_ BK204 1 rfl, q7_ BK204 2 rfl, q7_ BK204 3 rfl, q7_ BK204 4 rfl, q7_ BK204 5 rfl, ((HB.out.cell (World.block_lt_of_cell? w _ hw205_0)).trans hw205_0)⟩ (fun hHeld => ?_)
              clear hK K
              refine norm_ (a' := ?_) ?_ ?_
              rotate_left
              ·show Act.put _ (some 8) _ = _
               simp only [Act.put, q4_, q5_, q6_, i64_w, i32_w]
               rfl
              exact norm_ (by simp only [putAll, Act.put, q4_, q5_, q6_]) (hCont (gb213) _ ⟨hHeld, (q3_ BK202).out, (q3_ BK204).out, (q3_ BK213).out, GW213.out, GE213.out, NB202_213.out, NB213_202.out, NB204_213.out, NB213_204.out, (by repeat (first | (with_reducible first | exact HB.out | apply below_alloc | apply pw_below_drewN | apply below_drew1 | refine below_set ?_ GE202.out | refine below_set ?_ GE204.out | refine below_set ?_ GE213.out) | exact HB.out))⟩)
             ·skip
              refine box_step ?hg (N := 8) ?hd (cs := #[.bool false, .int .i64 0, .int .i64 0, .int .i64 0, .int .i64 0, .int .i64 0]) (t := 23) ?hr ?_; (case hd => rfl); (case hg => rfl); (case hr => first | (go_simp; done) | (go_simp; rfl))
              intro gb213 hg w56 hbox hb
              have n0_ := q1_ BK202 hb
              have n1_ := q1_ BK204 hb
              have n2_ := q2_ HB hb
              have n3_ := Aside0.mk (hbox)
              have n4_ := Aside0.mk ((by rw [hg]; exact (below_size (by repeat (first | (with_reducible first | exact HB.out | apply below_alloc | apply pw_below_drewN | apply below_drew1 | refine below_set ?_ GE202.out | refine below_set ?_ GE204.out) | exact HB.out))) : w.heap.size ≤ gb213))
              have n5_ := Aside0.mk ((by rw [hg]; exact (below_size (by repeat (first | (with_reducible first | exact HB.out | apply below_alloc | apply pw_below_drewN | apply below_drew1 | refine below_set ?_ GE202.out | refine below_set ?_ GE204.out) | exact HB.out))) : w.heap.size ≤ gb213))
              have n6_ := Aside0.mk ((by rw [hg]; exact Nat.ne_of_lt (blk_lt (g := gb202) (o := .cells #[.bool a0_0, .int .i64 a0_1, .int .i64 a0_2, .int .i64 a0_3, .int .i64 a0_4, .int .i64 a0_5] 23 (0, 0)) (q3_ BK202).out) : gb202 ≠ gb213))
              have n7_ := Aside0.mk ((by rw [hg]; exact Nat.ne_of_gt (blk_lt (g := gb202) (o := .cells #[.bool a0_0, .int .i64 a0_1, .int .i64 a0_2, .int .i64 a0_3, .int .i64 a0_4, .int .i64 a0_5] 23 (0, 0)) (q3_ BK202).out) : gb213 ≠ gb202))
              have n8_ := Aside0.mk ((by rw [hg]; exact Nat.ne_of_lt (blk_lt (g := gb204) (o := .cells #[.bool x205000_1, .int .i64 x205001_1, .int .i64 x205002_1, .int .i64 x205003_1, .int .i64 x205004_1, .int .i64 x205005_1] 23 (0, 0)) (q3_ BK204).out) : gb204 ≠ gb213))
              have n9_ := Aside0.mk ((by rw [hg]; exact Nat.ne_of_gt (blk_lt (g := gb204) (o := .cells #[.bool x205000_1, .int .i64 x205001_1, .int .i64 x205002_1, .int .i64 x205003_1, .int .i64 x205004_1, .int .i64 x205005_1] 23 (0, 0)) (q3_ BK204).out) : gb213 ≠ gb204))
              clear BK202
              clear BK204
              clear HB
              have BK202 := n0_
              have BK204 := n1_
              have HB := n2_
              have BK213 := n3_
              have GW213 := n4_
              have GE213 := n5_
              have NB202_213 := n6_
              have NB213_202 := n7_
              have NB204_213 := n8_
              have NB213_204 := n9_
              clear n0_ n1_ n2_ n3_ n4_ n5_ n6_ n7_ n8_ n9_
              clear hb hbox hg
              refine hK.out _ _ ⟨q7_ BK204 0 rfl, q7_ BK204 1 rfl, q7_ BK204 2 rfl, q7_ BK204 3 rfl, q7_ BK204 4 rfl, q7_ BK204 5 rfl, ((HB.out.cell (World.block_lt_of_cell? w _ hw205_0)).trans hw205_0)⟩ (fun hHeld => ?_)
              clear hK K
              refine norm_ (a' := ?_) ?_ ?_
              rotate_left
              ·show Act.put _ (some 8) _ = _
               simp only [Act.put, q4_, q5_, q6_, i64_w, i32_w]
               rfl
              refine one_ (i := 6) (N := some 31) m13_ rfl rfl (one_of HT_.out (by kernel_rfl)) (by decide) (fun K hK => ?_)
              refine goes_ Try.func13 (by kernel_rfl) rfl #[.agg #[.bool x205000_1, .int .i64 x205001_1, .int .i64 x205002_1, .int .i64 x205003_1, .int .i64 x205004_1, .int .i64 x205005_1], .int .i64 (wrap64 (rd l1 x7_1))] (by rfl) rfl rfl (by (try simp only [List.map_toArray, List.map_cons, List.map_nil]); first | done | rfl | (simp only [List.length_drop, List.length_take]; rfl)) ?_
              with_reducible refine (access_Step.calls x205000_1 x205001_1 x205002_1 x205003_1 x205004_1 x205005_1 (wrap64 (rd l1 x7_1)) t206 t207 t208 t209 t210 t211 true _ A15.out).mono ?_
              rintro e w57 ⟨rfl, hb⟩
              refine ⟨_, rfl, ?_⟩
              have n0_ := q1_ BK202 hb
              have n1_ := q1_ BK204 hb
              have n2_ := q1_ BK213 hb
              have n3_ := q2_ HB hb
              clear BK202
              clear BK204
              clear BK213
              clear HB
              have BK202 := n0_
              have BK204 := n1_
              have BK213 := n2_
              have HB := n3_
              clear n0_ n1_ n2_ n3_
              (try clear hb)
              (try clear hb2)
              (try clear hk)
              (try clear hi)
              refine hK.out _ _ ⟨q7_ BK204 0 rfl, q7_ BK204 1 rfl, q7_ BK204 2 rfl, q7_ BK204 3 rfl, q7_ BK204 4 rfl, q7_ BK204 5 rfl, ((HB.out.cell (World.block_lt_of_cell? w _ hw205_0)).trans hw205_0)⟩ (fun hHeld => ?_)
              clear hK K
              refine norm_ (a' := ?_) ?_ ?_
              rotate_left
              ·show Act.put _ (some 31) _ = _
               simp only [Act.put, q4_, q5_, q6_, i64_w, i32_w]
               rfl
              refine pure_ (i := 7) (N := some 24) (v := ?_) (a' := ?_) m14_ rfl rfl (any_of HT_.out (by kernel_rfl)) (fun _ _ _ h => h) (Or.inl ⟨by rfl, ?_⟩) ?_ ?_
              rotate_left
              ·intro w'
               go_simp
               with_reducible rfl
              rotate_left
              ·simp only [Act.put, q4_, q5_, q6_, i64_w, i32_w]
               rfl
              refine pure_ (i := 8) (N := some 32) (v := ?_) (a' := ?_) m15_ rfl rfl (any_of HT_.out (by kernel_rfl)) (fun _ _ _ h => h) (Or.inl ⟨by rfl, ?_⟩) ?_ ?_
              rotate_left
              ·intro w'
               go_simp
               with_reducible rfl
              rotate_left
              ·simp only [Act.put, q4_, q5_, q6_, i64_w, i32_w]
               rfl
              refine pure_ (i := 9) (N := some 33) (v := ?_) (a' := ?_) m7_ rfl rfl (any_of HT_.out (by kernel_rfl)) (fun _ _ _ h => h) (Or.inl ⟨by rfl, ?_⟩) ?_ ?_
              rotate_left
              ·intro w'
               go_simp
               with_reducible rfl
              rotate_left
              ·simp only [Act.put, q4_, q5_, q6_, i64_w, i32_w]
               rfl
              exact norm_ (by simp only [putAll, Act.put, q4_, q5_, q6_]) (hCont (gb213) _ ⟨hHeld, (q3_ BK202).out, (q3_ BK204).out, (q3_ BK213).out, GW213.out, GE213.out, NB202_213.out, NB213_202.out, NB204_213.out, NB213_204.out, (by repeat (first | (with_reducible first | exact HB.out | apply below_alloc | apply pw_below_drewN | apply below_drew1 | refine below_set ?_ GE202.out | refine below_set ?_ GE204.out | refine below_set ?_ GE213.out) | exact HB.out))⟩)
            rintro gb213 w58 ⟨hS_, h0_, h1_, h2_, h3_, h4_, h5_, h6_, h7_, h8_, h9_⟩
            have n0_ : Aside0 (w58.heap[gb202]? = some (.cells #[.bool a0_0, .int .i64 a0_1, .int .i64 a0_2, .int .i64 a0_3, .int .i64 a0_4, .int .i64 a0_5] 23 (0, 0))) := ⟨h0_⟩
            have n1_ : Aside0 (w58.heap[gb204]? = some (.cells #[.bool x205000_1, .int .i64 x205001_1, .int .i64 x205002_1, .int .i64 x205003_1, .int .i64 x205004_1, .int .i64 x205005_1] 23 (0, 0))) := ⟨h1_⟩
            have n2_ : Aside0 (w58.heap[gb213]? = some (.cells #[.bool false, .int .i64 0, .int .i64 0, .int .i64 0, .int .i64 0, .int .i64 0] 23 (0, 0))) := ⟨h2_⟩
            have n3_ : Aside0 (w.heap.size ≤ gb213) := ⟨h3_⟩
            have n4_ : Aside0 (w.heap.size ≤ gb213) := ⟨h4_⟩
            have n5_ : Aside0 (gb202 ≠ gb213) := ⟨h5_⟩
            have n6_ : Aside0 (gb213 ≠ gb202) := ⟨h6_⟩
            have n7_ : Aside0 (gb204 ≠ gb213) := ⟨h7_⟩
            have n8_ : Aside0 (gb213 ≠ gb204) := ⟨h8_⟩
            have n9_ : Aside0 (Below w.heap.size w w58) := ⟨h9_⟩
            clear BK202
            clear BK204
            clear HB
            clear h0_ h1_ h2_ h3_ h4_ h5_ h6_ h7_ h8_ h9_
            have BK202 := n0_
            have BK204 := n1_
            have BK213 := n2_
            have GW213 := n3_
            have GE213 := n4_
            have NB202_213 := n5_
            have NB213_202 := n6_
            have NB204_213 := n7_
            have NB213_204 := n8_
            have HB := n9_
            clear n0_ n1_ n2_ n3_ n4_ n5_ n6_ n7_ n8_ n9_
            have hHeld : w58.cell? ⟨gb204, 0, none⟩ = some (.bool x205000_1) ∧ w58.cell? ⟨gb204, 1, none⟩ = some (.int .i64 x205001_1) ∧ w58.cell? ⟨gb204, 2, none⟩ = some (.int .i64 x205002_1) ∧ w58.cell? ⟨gb204, 3, none⟩ = some (.int .i64 x205003_1) ∧ w58.cell? ⟨gb204, 4, none⟩ = some (.int .i64 x205004_1) ∧ w58.cell? ⟨gb204, 5, none⟩ = some (.int .i64 x205005_1) ∧ w58.cell? (ad205.add (x7_1).toNat) = some (.int .i16 (rd l1 x7_1)) := hS_
            refine norm_ (a' := ?_) ?_ ?_
            rotate_left
            ·simp only [putAll, Act.put, q4_, q5_, q6_]
             rfl
            refine one_ (i := 11) (N := none) m16_ rfl rfl (one_of HT_.out (by kernel_rfl)) (by decide) (fun K hK => ?_)
            have hs59 : w58.cell? ⟨gb213, 0, none⟩ = some (.bool false) := q7_ BK213 0 rfl
            have hfs59 := blk_frozen BK213.out 0
            have hns59_0 := NB202_213.out
            have hns59_1 := NB204_213.out
            have hms59_0 := NB213_202.out
            have hms59_1 := NB213_204.out
            have hs60 : w58.cell? ⟨gb213, 1, none⟩ = some (.int .i64 0) := q7_ BK213 1 rfl
            have hfs60 := blk_frozen BK213.out 1
            have hns60_0 := NB202_213.out
            have hns60_1 := NB204_213.out
            have hms60_0 := NB213_202.out
            have hms60_1 := NB213_204.out
            have hs61 : w58.cell? ⟨gb213, 2, none⟩ = some (.int .i64 0) := q7_ BK213 2 rfl
            have hfs61 := blk_frozen BK213.out 2
            have hns61_0 := NB202_213.out
            have hns61_1 := NB204_213.out
            have hms61_0 := NB213_202.out
            have hms61_1 := NB213_204.out
            have hs62 : w58.cell? ⟨gb213, 3, none⟩ = some (.int .i64 0) := q7_ BK213 3 rfl
            have hfs62 := blk_frozen BK213.out 3
            have hns62_0 := NB202_213.out
            have hns62_1 := NB204_213.out
            have hms62_0 := NB213_202.out
            have hms62_1 := NB213_204.out
            have hs63 : w58.cell? ⟨gb213, 4, none⟩ = some (.int .i64 0) := q7_ BK213 4 rfl
            have hfs63 := blk_frozen BK213.out 4
            have hns63_0 := NB202_213.out
            have hns63_1 := NB204_213.out
            have hms63_0 := NB213_202.out
            have hms63_1 := NB213_204.out
            have hs64 : w58.cell? ⟨gb213, 5, none⟩ = some (.int .i64 0) := q7_ BK213 5 rfl
            have hfs64 := blk_frozen BK213.out 5
            have hns64_0 := NB202_213.out
            have hns64_1 := NB204_213.out
            have hms64_0 := NB213_202.out
            have hms64_1 := NB213_204.out
            refine skip_ (w1 := ?_) (by rfl) rfl ?_ ?_
            rotate_left
            ·go_simp
             rfl
            refine hK.out _ _ ⟨((q8_ NB204_213).trans (((q8_ NB204_213).trans (((q8_ NB204_213).trans (((q8_ NB204_213).trans (((q8_ NB204_213).trans (((q8_ NB204_213).trans (hHeld.1)))))))))))), ((q8_ NB204_213).trans (((q8_ NB204_213).trans (((q8_ NB204_213).trans (((q8_ NB204_213).trans (((q8_ NB204_213).trans (((q8_ NB204_213).trans (hHeld.2.1)))))))))))), ((q8_ NB204_213).trans (((q8_ NB204_213).trans (((q8_ NB204_213).trans (((q8_ NB204_213).trans (((q8_ NB204_213).trans (((q8_ NB204_213).trans (hHeld.2.2.1)))))))))))), ((q8_ NB204_213).trans (((q8_ NB204_213).trans (((q8_ NB204_213).trans (((q8_ NB204_213).trans (((q8_ NB204_213).trans (((q8_ NB204_213).trans (hHeld.2.2.2.1)))))))))))), ((q8_ NB204_213).trans (((q8_ NB204_213).trans (((q8_ NB204_213).trans (((q8_ NB204_213).trans (((q8_ NB204_213).trans (((q8_ NB204_213).trans (hHeld.2.2.2.2.1)))))))))))), ((q8_ NB204_213).trans (((q8_ NB204_213).trans (((q8_ NB204_213).trans (((q8_ NB204_213).trans (((q8_ NB204_213).trans (((q8_ NB204_213).trans (hHeld.2.2.2.2.2.1)))))))))))), ((cell_far (p := ⟨gb213, _, none⟩) (by first | exact Nat.ne_of_lt (Nat.lt_of_lt_of_le (by have := World.block_lt_of_cell? _ _ hw205_0; first | rwa [add_block] at this | exact this) GW213.out) | (rw [add_block]; exact Nat.ne_of_lt (Nat.lt_of_lt_of_le (by have := World.block_lt_of_cell? _ _ hw205_0; first | rwa [add_block] at this | exact this) GW213.out)) | (show (Addr.add _ _).block ≠ _; rw [add_block]; exact Nat.ne_of_lt (Nat.lt_of_lt_of_le (by have := World.block_lt_of_cell? _ _ hw205_0; first | rwa [add_block] at this | exact this) GW213.out)) | (dsimp only; exact Nat.ne_of_lt (Nat.lt_of_lt_of_le (by have := World.block_lt_of_cell? _ _ hw205_0; first | rwa [add_block] at this | exact this) GW213.out))) _).trans (((cell_far (p := ⟨gb213, _, none⟩) (by first | exact Nat.ne_of_lt (Nat.lt_of_lt_of_le (by have := World.block_lt_of_cell? _ _ hw205_0; first | rwa [add_block] at this | exact this) GW213.out) | (rw [add_block]; exact Nat.ne_of_lt (Nat.lt_of_lt_of_le (by have := World.block_lt_of_cell? _ _ hw205_0; first | rwa [add_block] at this | exact this) GW213.out)) | (show (Addr.add _ _).block ≠ _; rw [add_block]; exact Nat.ne_of_lt (Nat.lt_of_lt_of_le (by have := World.block_lt_of_cell? _ _ hw205_0; first | rwa [add_block] at this | exact this) GW213.out)) | (dsimp only; exact Nat.ne_of_lt (Nat.lt_of_lt_of_le (by have := World.block_lt_of_cell? _ _ hw205_0; first | rwa [add_block] at this | exact this) GW213.out))) _).trans (((cell_far (p := ⟨gb213, _, none⟩) (by first | exact Nat.ne_of_lt (Nat.lt_of_lt_of_le (by have := World.block_lt_of_cell? _ _ hw205_0; first | rwa [add_block] at this | exact this) GW213.out) | (rw [add_block]; exact Nat.ne_of_lt (Nat.lt_of_lt_of_le (by have := World.block_lt_of_cell? _ _ hw205_0; first | rwa [add_block] at this | exact this) GW213.out)) | (show (Addr.add _ _).block ≠ _; rw [add_block]; exact Nat.ne_of_lt (Nat.lt_of_lt_of_le (by have := World.block_lt_of_cell? _ _ hw205_0; first | rwa [add_block] at this | exact this) GW213.out)) | (dsimp only; exact Nat.ne_of_lt (Nat.lt_of_lt_of_le (by have := World.block_lt_of_cell? _ _ hw205_0; first | rwa [add_block] at this | exact this) GW213.out))) _).trans (((cell_far (p := ⟨gb213, _, none⟩) (by first | exact Nat.ne_of_lt (Nat.lt_of_lt_of_le (by have := World.block_lt_of_cell? _ _ hw205_0; first | rwa [add_block] at this | exact this) GW213.out) | (rw [add_block]; exact Nat.ne_of_lt (Nat.lt_of_lt_of_le (by have := World.block_lt_of_cell? _ _ hw205_0; first | rwa [add_block] at this | exact this) GW213.out)) | (show (Addr.add _ _).block ≠ _; rw [add_block]; exact Nat.ne_of_lt (Nat.lt_of_lt_of_le (by have := World.block_lt_of_cell? _ _ hw205_0; first | rwa [add_block] at this | exact this) GW213.out)) | (dsimp only; exact Nat.ne_of_lt (Nat.lt_of_lt_of_le (by have := World.block_lt_of_cell? _ _ hw205_0; first | rwa [add_block] at this | exact this) GW213.out))) _).trans (((cell_far (p := ⟨gb213, _, none⟩) (by first | exact Nat.ne_of_lt (Nat.lt_of_lt_of_le (by have := World.block_lt_of_cell? _ _ hw205_0; first | rwa [add_block] at this | exact this) GW213.out) | (rw [add_block]; exact Nat.ne_of_lt (Nat.lt_of_lt_of_le (by have := World.block_lt_of_cell? _ _ hw205_0; first | rwa [add_block] at this | exact this) GW213.out)) | (show (Addr.add _ _).block ≠ _; rw [add_block]; exact Nat.ne_of_lt (Nat.lt_of_lt_of_le (by have := World.block_lt_of_cell? _ _ hw205_0; first | rwa [add_block] at this | exact this) GW213.out)) | (dsimp only; exact Nat.ne_of_lt (Nat.lt_of_lt_of_le (by have := World.block_lt_of_cell? _ _ hw205_0; first | rwa [add_block] at this | exact this) GW213.out))) _).trans (((cell_far (p := ⟨gb213, _, none⟩) (by first | exact Nat.ne_of_lt (Nat.lt_of_lt_of_le (by have := World.block_lt_of_cell? _ _ hw205_0; first | rwa [add_block] at this | exact this) GW213.out) | (rw [add_block]; exact Nat.ne_of_lt (Nat.lt_of_lt_of_le (by have := World.block_lt_of_cell? _ _ hw205_0; first | rwa [add_block] at this | exact this) GW213.out)) | (show (Addr.add _ _).block ≠ _; rw [add_block]; exact Nat.ne_of_lt (Nat.lt_of_lt_of_le (by have := World.block_lt_of_cell? _ _ hw205_0; first | rwa [add_block] at this | exact this) GW213.out)) | (dsimp only; exact Nat.ne_of_lt (Nat.lt_of_lt_of_le (by have := World.block_lt_of_cell? _ _ hw205_0; first | rwa [add_block] at this | exact this) GW213.out))) _).trans (hHeld.2.2.2.2.2.2))))))))))))⟩ (fun hHeld => ?_)
            clear hK K
            refine pure_ (i := 12) (N := some 9) (v := ?_) (a' := ?_) m17_ rfl rfl (any_of HT_.out (by kernel_rfl)) (fun _ _ _ h => h) (Or.inl ⟨by rfl, ?_⟩) ?_ ?_
            rotate_left
            ·intro w'
             go_simp
             with_reducible rfl
            rotate_left
            ·simp only [Act.put, q4_, q5_, q6_, i64_w, i32_w]
             rfl
            refine done_ (done_of HT_.out (by kernel_rfl)) ?_
            try go_wp2
            have n0_ : Aside0 (((((((w58.setCell ⟨gb213, 0, none⟩ (.bool t206)).setCell ⟨gb213, 1, none⟩ (.int .i64 t207)).setCell ⟨gb213, 2, none⟩ (.int .i64 t208)).setCell ⟨gb213, 3, none⟩ (.int .i64 t209)).setCell ⟨gb213, 4, none⟩ (.int .i64 t210)).setCell ⟨gb213, 5, none⟩ (.int .i64 t211)).heap[gb202]? = some (.cells #[.bool a0_0, .int .i64 a0_1, .int .i64 a0_2, .int .i64 a0_3, .int .i64 a0_4, .int .i64 a0_5] 23 (0, 0))) := ⟨by (with_reducible repeat (first | refine blk_drewN ?_ _ | refine blk_drew ?_ | refine blk_alloc ?_ _)); refine blk_far ?_ NB202_213.out _; (with_reducible repeat (first | refine blk_drewN ?_ _ | refine blk_drew ?_ | refine blk_alloc ?_ _)); refine blk_far ?_ NB202_213.out _; (with_reducible repeat (first | refine blk_drewN ?_ _ | refine blk_drew ?_ | refine blk_alloc ?_ _)); refine blk_far ?_ NB202_213.out _; (with_reducible repeat (first | refine blk_drewN ?_ _ | refine blk_drew ?_ | refine blk_alloc ?_ _)); refine blk_far ?_ NB202_213.out _; (with_reducible repeat (first | refine blk_drewN ?_ _ | refine blk_drew ?_ | refine blk_alloc ?_ _)); refine blk_far ?_ NB202_213.out _; (with_reducible repeat (first | refine blk_drewN ?_ _ | refine blk_drew ?_ | refine blk_alloc ?_ _)); refine blk_far ?_ NB202_213.out _; (with_reducible repeat (first | refine blk_drewN ?_ _ | refine blk_drew ?_ | refine blk_alloc ?_ _)); exact BK202.out⟩
            have n1_ : Aside0 (((((((w58.setCell ⟨gb213, 0, none⟩ (.bool t206)).setCell ⟨gb213, 1, none⟩ (.int .i64 t207)).setCell ⟨gb213, 2, none⟩ (.int .i64 t208)).setCell ⟨gb213, 3, none⟩ (.int .i64 t209)).setCell ⟨gb213, 4, none⟩ (.int .i64 t210)).setCell ⟨gb213, 5, none⟩ (.int .i64 t211)).heap[gb204]? = some (.cells #[.bool x205000_1, .int .i64 x205001_1, .int .i64 x205002_1, .int .i64 x205003_1, .int .i64 x205004_1, .int .i64 x205005_1] 23 (0, 0))) := ⟨by (with_reducible repeat (first | refine blk_drewN ?_ _ | refine blk_drew ?_ | refine blk_alloc ?_ _)); refine blk_far ?_ NB204_213.out _; (with_reducible repeat (first | refine blk_drewN ?_ _ | refine blk_drew ?_ | refine blk_alloc ?_ _)); refine blk_far ?_ NB204_213.out _; (with_reducible repeat (first | refine blk_drewN ?_ _ | refine blk_drew ?_ | refine blk_alloc ?_ _)); refine blk_far ?_ NB204_213.out _; (with_reducible repeat (first | refine blk_drewN ?_ _ | refine blk_drew ?_ | refine blk_alloc ?_ _)); refine blk_far ?_ NB204_213.out _; (with_reducible repeat (first | refine blk_drewN ?_ _ | refine blk_drew ?_ | refine blk_alloc ?_ _)); refine blk_far ?_ NB204_213.out _; (with_reducible repeat (first | refine blk_drewN ?_ _ | refine blk_drew ?_ | refine blk_alloc ?_ _)); refine blk_far ?_ NB204_213.out _; (with_reducible repeat (first | refine blk_drewN ?_ _ | refine blk_drew ?_ | refine blk_alloc ?_ _)); exact BK204.out⟩
            have n2_ : Aside0 (((((((w58.setCell ⟨gb213, 0, none⟩ (.bool t206)).setCell ⟨gb213, 1, none⟩ (.int .i64 t207)).setCell ⟨gb213, 2, none⟩ (.int .i64 t208)).setCell ⟨gb213, 3, none⟩ (.int .i64 t209)).setCell ⟨gb213, 4, none⟩ (.int .i64 t210)).setCell ⟨gb213, 5, none⟩ (.int .i64 t211)).heap[gb213]? = some (.cells #[.bool t206, .int .i64 t207, .int .i64 t208, .int .i64 t209, .int .i64 t210, .int .i64 t211] 23 (0, 0))) := ⟨by (with_reducible repeat (first | refine blk_drewN ?_ _ | refine blk_drew ?_ | refine blk_alloc ?_ _)); refine blk_put (cs := #[.bool t206, .int .i64 t207, .int .i64 t208, .int .i64 t209, .int .i64 t210, .int .i64 0]) ?_ 5 _ rfl; (with_reducible repeat (first | refine blk_drewN ?_ _ | refine blk_drew ?_ | refine blk_alloc ?_ _)); refine blk_put (cs := #[.bool t206, .int .i64 t207, .int .i64 t208, .int .i64 t209, .int .i64 0, .int .i64 0]) ?_ 4 _ rfl; (with_reducible repeat (first | refine blk_drewN ?_ _ | refine blk_drew ?_ | refine blk_alloc ?_ _)); refine blk_put (cs := #[.bool t206, .int .i64 t207, .int .i64 t208, .int .i64 0, .int .i64 0, .int .i64 0]) ?_ 3 _ rfl; (with_reducible repeat (first | refine blk_drewN ?_ _ | refine blk_drew ?_ | refine blk_alloc ?_ _)); refine blk_put (cs := #[.bool t206, .int .i64 t207, .int .i64 0, .int .i64 0, .int .i64 0, .int .i64 0]) ?_ 2 _ rfl; (with_reducible repeat (first | refine blk_drewN ?_ _ | refine blk_drew ?_ | refine blk_alloc ?_ _)); refine blk_put (cs := #[.bool t206, .int .i64 0, .int .i64 0, .int .i64 0, .int .i64 0, .int .i64 0]) ?_ 1 _ rfl; (with_reducible repeat (first | refine blk_drewN ?_ _ | refine blk_drew ?_ | refine blk_alloc ?_ _)); refine blk_put (cs := #[.bool false, .int .i64 0, .int .i64 0, .int .i64 0, .int .i64 0, .int .i64 0]) ?_ 0 _ rfl; (with_reducible repeat (first | refine blk_drewN ?_ _ | refine blk_drew ?_ | refine blk_alloc ?_ _)); exact BK213.out⟩
            have n3_ : Aside0 (Below w.heap.size w ((((((w58.setCell ⟨gb213, 0, none⟩ (.bool t206)).setCell ⟨gb213, 1, none⟩ (.int .i64 t207)).setCell ⟨gb213, 2, none⟩ (.int .i64 t208)).setCell ⟨gb213, 3, none⟩ (.int .i64 t209)).setCell ⟨gb213, 4, none⟩ (.int .i64 t210)).setCell ⟨gb213, 5, none⟩ (.int .i64 t211))) := ⟨by repeat (first | (with_reducible first | exact HB.out | apply below_alloc | apply pw_below_drewN | apply below_drew1 | refine below_set ?_ GE202.out | refine below_set ?_ GE204.out | refine below_set ?_ GE213.out) | exact HB.out)⟩
            (try clear BK202)
            (try clear BK204)
            (try clear BK213)
            (try clear HB)
            generalize ((((((w58.setCell ⟨gb213, 0, none⟩ (.bool t206)).setCell ⟨gb213, 1, none⟩ (.int .i64 t207)).setCell ⟨gb213, 2, none⟩ (.int .i64 t208)).setCell ⟨gb213, 3, none⟩ (.int .i64 t209)).setCell ⟨gb213, 4, none⟩ (.int .i64 t210)).setCell ⟨gb213, 5, none⟩ (.int .i64 t211)) = w65 at n0_ n1_ n2_ n3_ ⊢
            have BK202 := n0_
            have BK204 := n1_
            have BK213 := n2_
            have HB := n3_
            clear n0_ n1_ n2_ n3_
            have n0_ := Aside0.mk (blk_drew BK202.out)
            have n1_ := Aside0.mk (blk_drew BK204.out)
            have n2_ := Aside0.mk (blk_drew BK213.out)
            have n3_ := Aside0.mk (below_drew1 HB.out)
            clear BK202
            clear BK204
            clear BK213
            clear HB
            have BK202 := n0_
            have BK204 := n1_
            have BK213 := n2_
            have HB := n3_
            clear n0_ n1_ n2_ n3_
            have p214 : 0 ≤ (x7_1 : Int) := of_decide_eq_true (by first | (with_reducible assumption) | assumption)
            have q214 : x7_1 < (l1.length : Int) := of_decide_eq_true (by first | (with_reducible assumption) | assumption)
            obtain ⟨ad214, e214, hx214_0⟩ := Kd.at_int HR1.out x7_1 p214 q214
            have hw214_0 := hx214_0
            obtain rfl : ad205 = ad214 := (by injection e214)
            replace hx214_0 := (HB.out.cell (World.block_lt_of_cell? w _ hx214_0)).trans hx214_0
            replace p214 := eq_true p214
            replace q214 := eq_true q214
            refine start_ (n := 14) (S := fun w' => w'.cell? ⟨gb213, 0, none⟩ = some (.bool t206) ∧ w'.cell? ⟨gb213, 1, none⟩ = some (.int .i64 t207) ∧ w'.cell? ⟨gb213, 2, none⟩ = some (.int .i64 t208) ∧ w'.cell? ⟨gb213, 3, none⟩ = some (.int .i64 t209) ∧ w'.cell? ⟨gb213, 4, none⟩ = some (.int .i64 t210) ∧ w'.cell? ⟨gb213, 5, none⟩ = some (.int .i64 t211) ∧ w'.cell? (ad205.add (x7_1).toNat) = some (.int .i16 (rd l1 x7_1))) (ds := []) m18_ (by kernel_rfl) rfl rfl ⟨q7_ BK213 0 rfl, q7_ BK213 1 rfl, q7_ BK213 2 rfl, q7_ BK213 3 rfl, q7_ BK213 4 rfl, q7_ BK213 5 rfl, ((HB.out.cell (World.block_lt_of_cell? w _ hw214_0)).trans hw214_0)⟩ (fun hHeld => ?_); refine with_tabW seizinlaw05_AccessSteps.tab10 seizinlaw05_AccessSteps.bits10 (fun HT_ HW_ => ?_)
            generalize w65.drew = w66 at BK202 BK204 BK213 HB hx214_0 hHeld ⊢
            refine pure_ (i := 1) (N := some 38) (v := ?_) (a' := ?_) m19_ rfl rfl (any_of HT_.out (by kernel_rfl)) (fun _ _ _ h => h) (Or.inl ⟨by rfl, ?_⟩) ?_ ?_
            rotate_left
            ·intro w'
             go_simp
             with_reducible rfl
            rotate_left
            ·simp only [Act.put, q4_, q5_, q6_, i64_w, i32_w]
             rfl
            refine pure_ (i := 2) (N := some 39) (v := ?_) (a' := ?_) m20_ rfl rfl (any_of HT_.out (by kernel_rfl)) (fun _ _ _ h => h) (Or.inl ⟨by rfl, ?_⟩) ?_ ?_
            rotate_left
            ·intro w'
             go_simp
             with_reducible rfl
            rotate_left
            ·simp only [Act.put, q4_, q5_, q6_, i64_w, i32_w]
             rfl
            refine pure_ (i := 3) (N := some 40) (v := ?_) (a' := ?_) m21_ rfl rfl (any_of HT_.out (by kernel_rfl)) (fun _ _ _ h => h) (Or.inl ⟨by rfl, ?_⟩) ?_ ?_
            rotate_left
            ·intro w'
             go_simp
             with_reducible rfl
            rotate_left
            ·simp only [Act.put, q4_, q5_, q6_, i64_w, i32_w]
             rfl
            refine take_ (i := 0) (N := some 37) (v := ?_) (a' := ?_) m22_ rfl rfl (take_ofW HT_.out HW_.out (by kernel_rfl)) (fun _ _ _ h => h) (Or.inl ⟨by rfl, ?_⟩) hHeld ?_ ?_
            rotate_left
            ·rintro w' ⟨s0, s1, s2, s3, s4, s5, s6⟩
             go_simp
             with_reducible rfl
            rotate_left
            ·simp only [Act.put, q4_, q5_, q6_, i64_w, i32_w]
             rfl
            refine take_ (i := 4) (N := some 41) (v := ?_) (a' := ?_) m23_ rfl rfl (take_ofW HT_.out HW_.out (by kernel_rfl)) (fun _ _ _ h => h) (Or.inl ⟨by rfl, ?_⟩) hHeld ?_ ?_
            rotate_left
            ·rintro w' ⟨s0, s1, s2, s3, s4, s5, s6⟩
             go_simp
             with_reducible rfl
            rotate_left
            ·simp only [Act.put, q4_, q5_, q6_, i64_w, i32_w]
             rfl
            refine pure_ (i := 5) (N := some 42) (v := ?_) (a' := ?_) m24_ rfl rfl (any_of HT_.out (by kernel_rfl)) (fun _ _ _ h => h) (Or.inl ⟨by rfl, ?_⟩) ?_ ?_
            rotate_left
            ·intro w'
             go_simp
             with_reducible rfl
            rotate_left
            ·simp only [Act.put, q4_, q5_, q6_, i64_w, i32_w]
             rfl
            refine pure_ (i := 6) (N := some 43) (v := ?_) (a' := ?_) m25_ rfl rfl (any_of HT_.out (by kernel_rfl)) (fun _ _ _ h => h) (Or.inl ⟨by rfl, ?_⟩) ?_ ?_
            rotate_left
            ·intro w'
             go_simp
             with_reducible rfl
            rotate_left
            ·simp only [Act.put, q4_, q5_, q6_, i64_w, i32_w]
             rfl
            refine join_ (σ := Nat) 2 m26_ (fun s_ => [(44, .tuple #[.agg #[.bool t215, .int .i64 t216, .int .i64 t217, .int .i64 t218, .int .i64 t219, .int .i64 t220], .bool false]), (10, .pointer (some ⟨s_, 0, none⟩)), (36, .tuple #[.agg #[.bool t215, .int .i64 t216, .int .i64 t217, .int .i64 t218, .int .i64 t219, .int .i64 t220], .bool false]), (45, .agg #[.bool t215, .int .i64 t216, .int .i64 t217, .int .i64 t218, .int .i64 t219, .int .i64 t220]), (46, .bool false)]) (fun s_ w' => (w'.cell? ⟨gb213, 0, none⟩ = some (.bool t206) ∧ w'.cell? ⟨gb213, 1, none⟩ = some (.int .i64 t207) ∧ w'.cell? ⟨gb213, 2, none⟩ = some (.int .i64 t208) ∧ w'.cell? ⟨gb213, 3, none⟩ = some (.int .i64 t209) ∧ w'.cell? ⟨gb213, 4, none⟩ = some (.int .i64 t210) ∧ w'.cell? ⟨gb213, 5, none⟩ = some (.int .i64 t211) ∧ w'.cell? (ad205.add (x7_1).toNat) = some (.int .i16 (rd l1 x7_1))) ∧ (w'.heap[gb202]? = some (.cells #[.bool a0_0, .int .i64 a0_1, .int .i64 a0_2, .int .i64 a0_3, .int .i64 a0_4, .int .i64 a0_5] 23 (0, 0))) ∧ (w'.heap[gb204]? = some (.cells #[.bool x205000_1, .int .i64 x205001_1, .int .i64 x205002_1, .int .i64 x205003_1, .int .i64 x205004_1, .int .i64 x205005_1] 23 (0, 0))) ∧ (w'.heap[gb213]? = some (.cells #[.bool t206, .int .i64 t207, .int .i64 t208, .int .i64 t209, .int .i64 t210, .int .i64 t211] 23 (0, 0))) ∧ (w'.heap[s_]? = some (.cells #[.bool false, .int .i64 0, .int .i64 0, .int .i64 0, .int .i64 0, .int .i64 0] 23 (0, 0))) ∧ (w.heap.size ≤ s_) ∧ (w.heap.size ≤ s_) ∧ (gb202 ≠ s_) ∧ (s_ ≠ gb202) ∧ (gb204 ≠ s_) ∧ (s_ ≠ gb204) ∧ (gb213 ≠ s_) ∧ (s_ ≠ gb213) ∧ (Below w.heap.size w w')) ?_ ?_
            rotate_left
            ·intro hCont
             refine two_ (i := 7) (j := 11) (Ni := some 44) (Nj := some 10) m27_ m28_ rfl rfl rfl rfl (two_of HT_.out (by kernel_rfl)) (by decide) (by decide) (fun K hK => ?_) (fun K hK => ?_)
             ·skip
              refine goes_ Try.func13 (by kernel_rfl) rfl #[.agg #[.bool t206, .int .i64 t207, .int .i64 t208, .int .i64 t209, .int .i64 t210, .int .i64 t211], .int .i64 (wrap64 (-(wrap64 (rd l1 x7_1))))] (by rfl) rfl rfl (by (try simp only [List.map_toArray, List.map_cons, List.map_nil]); first | done | rfl | (simp only [List.length_drop, List.length_take]; rfl)) ?_
              with_reducible refine (access_Step.calls t206 t207 t208 t209 t210 t211 (wrap64 (-(wrap64 (rd l1 x7_1)))) t215 t216 t217 t218 t219 t220 false _ A17.out).mono ?_
              rintro e w67 ⟨rfl, hb⟩
              refine ⟨_, rfl, ?_⟩
              have n0_ := q1_ BK202 hb
              have n1_ := q1_ BK204 hb
              have n2_ := q1_ BK213 hb
              have n3_ := q2_ HB hb
              clear BK202
              clear BK204
              clear BK213
              clear HB
              have BK202 := n0_
              have BK204 := n1_
              have BK213 := n2_
              have HB := n3_
              clear n0_ n1_ n2_ n3_
              (try clear hb)
              (try clear hb2)
              (try clear hk)
              (try clear hi)
              refine hK.out _ _ ⟨q7_ BK213 0 rfl, q7_ BK213 1 rfl, q7_ BK213 2 rfl, q7_ BK213 3 rfl, q7_ BK213 4 rfl, q7_ BK213 5 rfl, ((HB.out.cell (World.block_lt_of_cell? w _ hw214_0)).trans hw214_0)⟩ (fun hHeld => ?_)
              clear hK K
              refine norm_ (a' := ?_) ?_ ?_
              rotate_left
              ·show Act.put _ (some 44) _ = _
               simp only [Act.put, q4_, q5_, q6_, i64_w, i32_w]
               rfl
              refine pure_ (i := 8) (N := some 36) (v := ?_) (a' := ?_) m29_ rfl rfl (any_of HT_.out (by kernel_rfl)) (fun _ _ _ h => h) (Or.inl ⟨by rfl, ?_⟩) ?_ ?_
              rotate_left
              ·intro w'
               go_simp
               with_reducible rfl
              rotate_left
              ·simp only [Act.put, q4_, q5_, q6_, i64_w, i32_w]
               rfl
              refine pure_ (i := 9) (N := some 45) (v := ?_) (a' := ?_) m30_ rfl rfl (any_of HT_.out (by kernel_rfl)) (fun _ _ _ h => h) (Or.inl ⟨by rfl, ?_⟩) ?_ ?_
              rotate_left
              ·intro w'
               go_simp
               with_reducible rfl
              rotate_left
              ·simp only [Act.put, q4_, q5_, q6_, i64_w, i32_w]
               rfl
              refine pure_ (i := 10) (N := some 46) (v := ?_) (a' := ?_) m31_ rfl rfl (any_of HT_.out (by kernel_rfl)) (fun _ _ _ h => h) (Or.inl ⟨by rfl, ?_⟩) ?_ ?_
              rotate_left
              ·intro w'
               go_simp
               with_reducible rfl
              rotate_left
              ·simp only [Act.put, q4_, q5_, q6_, i64_w, i32_w]
               rfl
              refine one_ (i := 11) (N := some 10) m26_ rfl rfl (one_of HT_.out (by kernel_rfl)) (by decide) (fun K hK => ?_)
              refine box_step ?hg (N := 10) ?hd (cs := #[.bool false, .int .i64 0, .int .i64 0, .int .i64 0, .int .i64 0, .int .i64 0]) (t := 23) ?hr ?_; (case hd => rfl); (case hg => rfl); (case hr => first | (go_simp; done) | (go_simp; rfl))
              intro gb222 hg w68 hbox hb
              have n0_ := q1_ BK202 hb
              have n1_ := q1_ BK204 hb
              have n2_ := q1_ BK213 hb
              have n3_ := q2_ HB hb
              have n4_ := Aside0.mk (hbox)
              have n5_ := Aside0.mk ((by rw [hg]; exact (below_size (by repeat (first | (with_reducible first | exact HB.out | apply below_alloc | apply pw_below_drewN | apply below_drew1 | refine below_set ?_ GE202.out | refine below_set ?_ GE204.out | refine below_set ?_ GE213.out) | exact HB.out))) : w.heap.size ≤ gb222))
              have n6_ := Aside0.mk ((by rw [hg]; exact (below_size (by repeat (first | (with_reducible first | exact HB.out | apply below_alloc | apply pw_below_drewN | apply below_drew1 | refine below_set ?_ GE202.out | refine below_set ?_ GE204.out | refine below_set ?_ GE213.out) | exact HB.out))) : w.heap.size ≤ gb222))
              have n7_ := Aside0.mk ((by rw [hg]; exact Nat.ne_of_lt (blk_lt (g := gb202) (o := .cells #[.bool a0_0, .int .i64 a0_1, .int .i64 a0_2, .int .i64 a0_3, .int .i64 a0_4, .int .i64 a0_5] 23 (0, 0)) (q3_ BK202).out) : gb202 ≠ gb222))
              have n8_ := Aside0.mk ((by rw [hg]; exact Nat.ne_of_gt (blk_lt (g := gb202) (o := .cells #[.bool a0_0, .int .i64 a0_1, .int .i64 a0_2, .int .i64 a0_3, .int .i64 a0_4, .int .i64 a0_5] 23 (0, 0)) (q3_ BK202).out) : gb222 ≠ gb202))
              have n9_ := Aside0.mk ((by rw [hg]; exact Nat.ne_of_lt (blk_lt (g := gb204) (o := .cells #[.bool x205000_1, .int .i64 x205001_1, .int .i64 x205002_1, .int .i64 x205003_1, .int .i64 x205004_1, .int .i64 x205005_1] 23 (0, 0)) (q3_ BK204).out) : gb204 ≠ gb222))
              have n10_ := Aside0.mk ((by rw [hg]; exact Nat.ne_of_gt (blk_lt (g := gb204) (o := .cells #[.bool x205000_1, .int .i64 x205001_1, .int .i64 x205002_1, .int .i64 x205003_1, .int .i64 x205004_1, .int .i64 x205005_1] 23 (0, 0)) (q3_ BK204).out) : gb222 ≠ gb204))
              have n11_ := Aside0.mk ((by rw [hg]; exact Nat.ne_of_lt (blk_lt (g := gb213) (o := .cells #[.bool t206, .int .i64 t207, .int .i64 t208, .int .i64 t209, .int .i64 t210, .int .i64 t211] 23 (0, 0)) (q3_ BK213).out) : gb213 ≠ gb222))
              have n12_ := Aside0.mk ((by rw [hg]; exact Nat.ne_of_gt (blk_lt (g := gb213) (o := .cells #[.bool t206, .int .i64 t207, .int .i64 t208, .int .i64 t209, .int .i64 t210, .int .i64 t211] 23 (0, 0)) (q3_ BK213).out) : gb222 ≠ gb213))
              clear BK202
              clear BK204
              clear BK213
              clear HB
              have BK202 := n0_
              have BK204 := n1_
              have BK213 := n2_
              have HB := n3_
              have BK222 := n4_
              have GW222 := n5_
              have GE222 := n6_
              have NB202_222 := n7_
              have NB222_202 := n8_
              have NB204_222 := n9_
              have NB222_204 := n10_
              have NB213_222 := n11_
              have NB222_213 := n12_
              clear n0_ n1_ n2_ n3_ n4_ n5_ n6_ n7_ n8_ n9_ n10_ n11_ n12_
              clear hb hbox hg
              refine hK.out _ _ ⟨q7_ BK213 0 rfl, q7_ BK213 1 rfl, q7_ BK213 2 rfl, q7_ BK213 3 rfl, q7_ BK213 4 rfl, q7_ BK213 5 rfl, ((HB.out.cell (World.block_lt_of_cell? w _ hw214_0)).trans hw214_0)⟩ (fun hHeld => ?_)
              clear hK K
              refine norm_ (a' := ?_) ?_ ?_
              rotate_left
              ·show Act.put _ (some 10) _ = _
               simp only [Act.put, q4_, q5_, q6_, i64_w, i32_w]
               rfl
              exact norm_ (by simp only [putAll, Act.put, q4_, q5_, q6_]) (hCont (gb222) _ ⟨hHeld, (q3_ BK202).out, (q3_ BK204).out, (q3_ BK213).out, (q3_ BK222).out, GW222.out, GE222.out, NB202_222.out, NB222_202.out, NB204_222.out, NB222_204.out, NB213_222.out, NB222_213.out, (by repeat (first | (with_reducible first | exact HB.out | apply below_alloc | apply pw_below_drewN | apply below_drew1 | refine below_set ?_ GE202.out | refine below_set ?_ GE204.out | refine below_set ?_ GE213.out | refine below_set ?_ GE222.out) | exact HB.out))⟩)
             ·skip
              refine box_step ?hg (N := 10) ?hd (cs := #[.bool false, .int .i64 0, .int .i64 0, .int .i64 0, .int .i64 0, .int .i64 0]) (t := 23) ?hr ?_; (case hd => rfl); (case hg => rfl); (case hr => first | (go_simp; done) | (go_simp; rfl))
              intro gb222 hg w67 hbox hb
              have n0_ := q1_ BK202 hb
              have n1_ := q1_ BK204 hb
              have n2_ := q1_ BK213 hb
              have n3_ := q2_ HB hb
              have n4_ := Aside0.mk (hbox)
              have n5_ := Aside0.mk ((by rw [hg]; exact (below_size (by repeat (first | (with_reducible first | exact HB.out | apply below_alloc | apply pw_below_drewN | apply below_drew1 | refine below_set ?_ GE202.out | refine below_set ?_ GE204.out | refine below_set ?_ GE213.out) | exact HB.out))) : w.heap.size ≤ gb222))
              have n6_ := Aside0.mk ((by rw [hg]; exact (below_size (by repeat (first | (with_reducible first | exact HB.out | apply below_alloc | apply pw_below_drewN | apply below_drew1 | refine below_set ?_ GE202.out | refine below_set ?_ GE204.out | refine below_set ?_ GE213.out) | exact HB.out))) : w.heap.size ≤ gb222))
              have n7_ := Aside0.mk ((by rw [hg]; exact Nat.ne_of_lt (blk_lt (g := gb202) (o := .cells #[.bool a0_0, .int .i64 a0_1, .int .i64 a0_2, .int .i64 a0_3, .int .i64 a0_4, .int .i64 a0_5] 23 (0, 0)) (q3_ BK202).out) : gb202 ≠ gb222))
              have n8_ := Aside0.mk ((by rw [hg]; exact Nat.ne_of_gt (blk_lt (g := gb202) (o := .cells #[.bool a0_0, .int .i64 a0_1, .int .i64 a0_2, .int .i64 a0_3, .int .i64 a0_4, .int .i64 a0_5] 23 (0, 0)) (q3_ BK202).out) : gb222 ≠ gb202))
              have n9_ := Aside0.mk ((by rw [hg]; exact Nat.ne_of_lt (blk_lt (g := gb204) (o := .cells #[.bool x205000_1, .int .i64 x205001_1, .int .i64 x205002_1, .int .i64 x205003_1, .int .i64 x205004_1, .int .i64 x205005_1] 23 (0, 0)) (q3_ BK204).out) : gb204 ≠ gb222))
              have n10_ := Aside0.mk ((by rw [hg]; exact Nat.ne_of_gt (blk_lt (g := gb204) (o := .cells #[.bool x205000_1, .int .i64 x205001_1, .int .i64 x205002_1, .int .i64 x205003_1, .int .i64 x205004_1, .int .i64 x205005_1] 23 (0, 0)) (q3_ BK204).out) : gb222 ≠ gb204))
              have n11_ := Aside0.mk ((by rw [hg]; exact Nat.ne_of_lt (blk_lt (g := gb213) (o := .cells #[.bool t206, .int .i64 t207, .int .i64 t208, .int .i64 t209, .int .i64 t210, .int .i64 t211] 23 (0, 0)) (q3_ BK213).out) : gb213 ≠ gb222))
              have n12_ := Aside0.mk ((by rw [hg]; exact Nat.ne_of_gt (blk_lt (g := gb213) (o := .cells #[.bool t206, .int .i64 t207, .int .i64 t208, .int .i64 t209, .int .i64 t210, .int .i64 t211] 23 (0, 0)) (q3_ BK213).out) : gb222 ≠ gb213))
              clear BK202
              clear BK204
              clear BK213
              clear HB
              have BK202 := n0_
              have BK204 := n1_
              have BK213 := n2_
              have HB := n3_
              have BK222 := n4_
              have GW222 := n5_
              have GE222 := n6_
              have NB202_222 := n7_
              have NB222_202 := n8_
              have NB204_222 := n9_
              have NB222_204 := n10_
              have NB213_222 := n11_
              have NB222_213 := n12_
              clear n0_ n1_ n2_ n3_ n4_ n5_ n6_ n7_ n8_ n9_ n10_ n11_ n12_
              clear hb hbox hg
              refine hK.out _ _ ⟨q7_ BK213 0 rfl, q7_ BK213 1 rfl, q7_ BK213 2 rfl, q7_ BK213 3 rfl, q7_ BK213 4 rfl, q7_ BK213 5 rfl, ((HB.out.cell (World.block_lt_of_cell? w _ hw214_0)).trans hw214_0)⟩ (fun hHeld => ?_)
              clear hK K
              refine norm_ (a' := ?_) ?_ ?_
              rotate_left
              ·show Act.put _ (some 10) _ = _
               simp only [Act.put, q4_, q5_, q6_, i64_w, i32_w]
               rfl
              refine one_ (i := 7) (N := some 44) m32_ rfl rfl (one_of HT_.out (by kernel_rfl)) (by decide) (fun K hK => ?_)
              refine goes_ Try.func13 (by kernel_rfl) rfl #[.agg #[.bool t206, .int .i64 t207, .int .i64 t208, .int .i64 t209, .int .i64 t210, .int .i64 t211], .int .i64 (wrap64 (-(wrap64 (rd l1 x7_1))))] (by rfl) rfl rfl (by (try simp only [List.map_toArray, List.map_cons, List.map_nil]); first | done | rfl | (simp only [List.length_drop, List.length_take]; rfl)) ?_
              with_reducible refine (access_Step.calls t206 t207 t208 t209 t210 t211 (wrap64 (-(wrap64 (rd l1 x7_1)))) t215 t216 t217 t218 t219 t220 false _ A17.out).mono ?_
              rintro e w68 ⟨rfl, hb⟩
              refine ⟨_, rfl, ?_⟩
              have n0_ := q1_ BK202 hb
              have n1_ := q1_ BK204 hb
              have n2_ := q1_ BK213 hb
              have n3_ := q1_ BK222 hb
              have n4_ := q2_ HB hb
              clear BK202
              clear BK204
              clear BK213
              clear BK222
              clear HB
              have BK202 := n0_
              have BK204 := n1_
              have BK213 := n2_
              have BK222 := n3_
              have HB := n4_
              clear n0_ n1_ n2_ n3_ n4_
              (try clear hb)
              (try clear hb2)
              (try clear hk)
              (try clear hi)
              refine hK.out _ _ ⟨q7_ BK213 0 rfl, q7_ BK213 1 rfl, q7_ BK213 2 rfl, q7_ BK213 3 rfl, q7_ BK213 4 rfl, q7_ BK213 5 rfl, ((HB.out.cell (World.block_lt_of_cell? w _ hw214_0)).trans hw214_0)⟩ (fun hHeld => ?_)
              clear hK K
              refine norm_ (a' := ?_) ?_ ?_
              rotate_left
              ·show Act.put _ (some 44) _ = _
               simp only [Act.put, q4_, q5_, q6_, i64_w, i32_w]
               rfl
              refine pure_ (i := 8) (N := some 36) (v := ?_) (a' := ?_) m33_ rfl rfl (any_of HT_.out (by kernel_rfl)) (fun _ _ _ h => h) (Or.inl ⟨by rfl, ?_⟩) ?_ ?_
              rotate_left
              ·intro w'
               go_simp
               with_reducible rfl
              rotate_left
              ·simp only [Act.put, q4_, q5_, q6_, i64_w, i32_w]
               rfl
              refine pure_ (i := 9) (N := some 45) (v := ?_) (a' := ?_) m34_ rfl rfl (any_of HT_.out (by kernel_rfl)) (fun _ _ _ h => h) (Or.inl ⟨by rfl, ?_⟩) ?_ ?_
              rotate_left
              ·intro w'
               go_simp
               with_reducible rfl
              rotate_left
              ·simp only [Act.put, q4_, q5_, q6_, i64_w, i32_w]
               rfl
              refine pure_ (i := 10) (N := some 46) (v := ?_) (a' := ?_) m26_ rfl rfl (any_of HT_.out (by kernel_rfl)) (fun _ _ _ h => h) (Or.inl ⟨by rfl, ?_⟩) ?_ ?_
              rotate_left
              ·intro w'
               go_simp
               with_reducible rfl
              rotate_left
              ·simp only [Act.put, q4_, q5_, q6_, i64_w, i32_w]
               rfl
              exact norm_ (by simp only [putAll, Act.put, q4_, q5_, q6_]) (hCont (gb222) _ ⟨hHeld, (q3_ BK202).out, (q3_ BK204).out, (q3_ BK213).out, (q3_ BK222).out, GW222.out, GE222.out, NB202_222.out, NB222_202.out, NB204_222.out, NB222_204.out, NB213_222.out, NB222_213.out, (by repeat (first | (with_reducible first | exact HB.out | apply below_alloc | apply pw_below_drewN | apply below_drew1 | refine below_set ?_ GE202.out | refine below_set ?_ GE204.out | refine below_set ?_ GE213.out | refine below_set ?_ GE222.out) | exact HB.out))⟩)
            rintro gb222 w69 ⟨hS_, h0_, h1_, h2_, h3_, h4_, h5_, h6_, h7_, h8_, h9_, h10_, h11_, h12_⟩
            have n0_ : Aside0 (w69.heap[gb202]? = some (.cells #[.bool a0_0, .int .i64 a0_1, .int .i64 a0_2, .int .i64 a0_3, .int .i64 a0_4, .int .i64 a0_5] 23 (0, 0))) := ⟨h0_⟩
            have n1_ : Aside0 (w69.heap[gb204]? = some (.cells #[.bool x205000_1, .int .i64 x205001_1, .int .i64 x205002_1, .int .i64 x205003_1, .int .i64 x205004_1, .int .i64 x205005_1] 23 (0, 0))) := ⟨h1_⟩
            have n2_ : Aside0 (w69.heap[gb213]? = some (.cells #[.bool t206, .int .i64 t207, .int .i64 t208, .int .i64 t209, .int .i64 t210, .int .i64 t211] 23 (0, 0))) := ⟨h2_⟩
            have n3_ : Aside0 (w69.heap[gb222]? = some (.cells #[.bool false, .int .i64 0, .int .i64 0, .int .i64 0, .int .i64 0, .int .i64 0] 23 (0, 0))) := ⟨h3_⟩
            have n4_ : Aside0 (w.heap.size ≤ gb222) := ⟨h4_⟩
            have n5_ : Aside0 (w.heap.size ≤ gb222) := ⟨h5_⟩
            have n6_ : Aside0 (gb202 ≠ gb222) := ⟨h6_⟩
            have n7_ : Aside0 (gb222 ≠ gb202) := ⟨h7_⟩
            have n8_ : Aside0 (gb204 ≠ gb222) := ⟨h8_⟩
            have n9_ : Aside0 (gb222 ≠ gb204) := ⟨h9_⟩
            have n10_ : Aside0 (gb213 ≠ gb222) := ⟨h10_⟩
            have n11_ : Aside0 (gb222 ≠ gb213) := ⟨h11_⟩
            have n12_ : Aside0 (Below w.heap.size w w69) := ⟨h12_⟩
            clear BK202
            clear BK204
            clear BK213
            clear HB
            clear h0_ h1_ h2_ h3_ h4_ h5_ h6_ h7_ h8_ h9_ h10_ h11_ h12_
            have BK202 := n0_
            have BK204 := n1_
            have BK213 := n2_
            have BK222 := n3_
            have GW222 := n4_
            have GE222 := n5_
            have NB202_222 := n6_
            have NB222_202 := n7_
            have NB204_222 := n8_
            have NB222_204 := n9_
            have NB213_222 := n10_
            have NB222_213 := n11_
            have HB := n12_
            clear n0_ n1_ n2_ n3_ n4_ n5_ n6_ n7_ n8_ n9_ n10_ n11_ n12_
            have hHeld : w69.cell? ⟨gb213, 0, none⟩ = some (.bool t206) ∧ w69.cell? ⟨gb213, 1, none⟩ = some (.int .i64 t207) ∧ w69.cell? ⟨gb213, 2, none⟩ = some (.int .i64 t208) ∧ w69.cell? ⟨gb213, 3, none⟩ = some (.int .i64 t209) ∧ w69.cell? ⟨gb213, 4, none⟩ = some (.int .i64 t210) ∧ w69.cell? ⟨gb213, 5, none⟩ = some (.int .i64 t211) ∧ w69.cell? (ad205.add (x7_1).toNat) = some (.int .i16 (rd l1 x7_1)) := hS_
            refine norm_ (a' := ?_) ?_ ?_
            rotate_left
            ·simp only [putAll, Act.put, q4_, q5_, q6_]
             rfl
            refine one_ (i := 12) (N := none) m35_ rfl rfl (one_of HT_.out (by kernel_rfl)) (by decide) (fun K hK => ?_)
            have hs70 : w69.cell? ⟨gb222, 0, none⟩ = some (.bool false) := q7_ BK222 0 rfl
            have hfs70 := blk_frozen BK222.out 0
            have hns70_0 := NB202_222.out
            have hns70_1 := NB204_222.out
            have hns70_2 := NB213_222.out
            have hms70_0 := NB222_202.out
            have hms70_1 := NB222_204.out
            have hms70_2 := NB222_213.out
            have hs71 : w69.cell? ⟨gb222, 1, none⟩ = some (.int .i64 0) := q7_ BK222 1 rfl
            have hfs71 := blk_frozen BK222.out 1
            have hns71_0 := NB202_222.out
            have hns71_1 := NB204_222.out
            have hns71_2 := NB213_222.out
            have hms71_0 := NB222_202.out
            have hms71_1 := NB222_204.out
            have hms71_2 := NB222_213.out
            have hs72 : w69.cell? ⟨gb222, 2, none⟩ = some (.int .i64 0) := q7_ BK222 2 rfl
            have hfs72 := blk_frozen BK222.out 2
            have hns72_0 := NB202_222.out
            have hns72_1 := NB204_222.out
            have hns72_2 := NB213_222.out
            have hms72_0 := NB222_202.out
            have hms72_1 := NB222_204.out
            have hms72_2 := NB222_213.out
            have hs73 : w69.cell? ⟨gb222, 3, none⟩ = some (.int .i64 0) := q7_ BK222 3 rfl
            have hfs73 := blk_frozen BK222.out 3
            have hns73_0 := NB202_222.out
            have hns73_1 := NB204_222.out
            have hns73_2 := NB213_222.out
            have hms73_0 := NB222_202.out
            have hms73_1 := NB222_204.out
            have hms73_2 := NB222_213.out
            have hs74 : w69.cell? ⟨gb222, 4, none⟩ = some (.int .i64 0) := q7_ BK222 4 rfl
            have hfs74 := blk_frozen BK222.out 4
            have hns74_0 := NB202_222.out
            have hns74_1 := NB204_222.out
            have hns74_2 := NB213_222.out
            have hms74_0 := NB222_202.out
            have hms74_1 := NB222_204.out
            have hms74_2 := NB222_213.out
            have hs75 : w69.cell? ⟨gb222, 5, none⟩ = some (.int .i64 0) := q7_ BK222 5 rfl
            have hfs75 := blk_frozen BK222.out 5
            have hns75_0 := NB202_222.out
            have hns75_1 := NB204_222.out
            have hns75_2 := NB213_222.out
            have hms75_0 := NB222_202.out
            have hms75_1 := NB222_204.out
            have hms75_2 := NB222_213.out
            refine skip_ (w1 := ?_) (by rfl) rfl ?_ ?_
            rotate_left
            ·go_simp
             rfl
            refine hK.out _ _ ⟨((q8_ NB213_222).trans (((q8_ NB213_222).trans (((q8_ NB213_222).trans (((q8_ NB213_222).trans (((q8_ NB213_222).trans (((q8_ NB213_222).trans (hHeld.1)))))))))))), ((q8_ NB213_222).trans (((q8_ NB213_222).trans (((q8_ NB213_222).trans (((q8_ NB213_222).trans (((q8_ NB213_222).trans (((q8_ NB213_222).trans (hHeld.2.1)))))))))))), ((q8_ NB213_222).trans (((q8_ NB213_222).trans (((q8_ NB213_222).trans (((q8_ NB213_222).trans (((q8_ NB213_222).trans (((q8_ NB213_222).trans (hHeld.2.2.1)))))))))))), ((q8_ NB213_222).trans (((q8_ NB213_222).trans (((q8_ NB213_222).trans (((q8_ NB213_222).trans (((q8_ NB213_222).trans (((q8_ NB213_222).trans (hHeld.2.2.2.1)))))))))))), ((q8_ NB213_222).trans (((q8_ NB213_222).trans (((q8_ NB213_222).trans (((q8_ NB213_222).trans (((q8_ NB213_222).trans (((q8_ NB213_222).trans (hHeld.2.2.2.2.1)))))))))))), ((q8_ NB213_222).trans (((q8_ NB213_222).trans (((q8_ NB213_222).trans (((q8_ NB213_222).trans (((q8_ NB213_222).trans (((q8_ NB213_222).trans (hHeld.2.2.2.2.2.1)))))))))))), ((cell_far (p := ⟨gb222, _, none⟩) (by first | exact Nat.ne_of_lt (Nat.lt_of_lt_of_le (by have := World.block_lt_of_cell? _ _ hw214_0; first | rwa [add_block] at this | exact this) GW222.out) | (rw [add_block]; exact Nat.ne_of_lt (Nat.lt_of_lt_of_le (by have := World.block_lt_of_cell? _ _ hw214_0; first | rwa [add_block] at this | exact this) GW222.out)) | (show (Addr.add _ _).block ≠ _; rw [add_block]; exact Nat.ne_of_lt (Nat.lt_of_lt_of_le (by have := World.block_lt_of_cell? _ _ hw214_0; first | rwa [add_block] at this | exact this) GW222.out)) | (dsimp only; exact Nat.ne_of_lt (Nat.lt_of_lt_of_le (by have := World.block_lt_of_cell? _ _ hw214_0; first | rwa [add_block] at this | exact this) GW222.out))) _).trans (((cell_far (p := ⟨gb222, _, none⟩) (by first | exact Nat.ne_of_lt (Nat.lt_of_lt_of_le (by have := World.block_lt_of_cell? _ _ hw214_0; first | rwa [add_block] at this | exact this) GW222.out) | (rw [add_block]; exact Nat.ne_of_lt (Nat.lt_of_lt_of_le (by have := World.block_lt_of_cell? _ _ hw214_0; first | rwa [add_block] at this | exact this) GW222.out)) | (show (Addr.add _ _).block ≠ _; rw [add_block]; exact Nat.ne_of_lt (Nat.lt_of_lt_of_le (by have := World.block_lt_of_cell? _ _ hw214_0; first | rwa [add_block] at this | exact this) GW222.out)) | (dsimp only; exact Nat.ne_of_lt (Nat.lt_of_lt_of_le (by have := World.block_lt_of_cell? _ _ hw214_0; first | rwa [add_block] at this | exact this) GW222.out))) _).trans (((cell_far (p := ⟨gb222, _, none⟩) (by first | exact Nat.ne_of_lt (Nat.lt_of_lt_of_le (by have := World.block_lt_of_cell? _ _ hw214_0; first | rwa [add_block] at this | exact this) GW222.out) | (rw [add_block]; exact Nat.ne_of_lt (Nat.lt_of_lt_of_le (by have := World.block_lt_of_cell? _ _ hw214_0; first | rwa [add_block] at this | exact this) GW222.out)) | (show (Addr.add _ _).block ≠ _; rw [add_block]; exact Nat.ne_of_lt (Nat.lt_of_lt_of_le (by have := World.block_lt_of_cell? _ _ hw214_0; first | rwa [add_block] at this | exact this) GW222.out)) | (dsimp only; exact Nat.ne_of_lt (Nat.lt_of_lt_of_le (by have := World.block_lt_of_cell? _ _ hw214_0; first | rwa [add_block] at this | exact this) GW222.out))) _).trans (((cell_far (p := ⟨gb222, _, none⟩) (by first | exact Nat.ne_of_lt (Nat.lt_of_lt_of_le (by have := World.block_lt_of_cell? _ _ hw214_0; first | rwa [add_block] at this | exact this) GW222.out) | (rw [add_block]; exact Nat.ne_of_lt (Nat.lt_of_lt_of_le (by have := World.block_lt_of_cell? _ _ hw214_0; first | rwa [add_block] at this | exact this) GW222.out)) | (show (Addr.add _ _).block ≠ _; rw [add_block]; exact Nat.ne_of_lt (Nat.lt_of_lt_of_le (by have := World.block_lt_of_cell? _ _ hw214_0; first | rwa [add_block] at this | exact this) GW222.out)) | (dsimp only; exact Nat.ne_of_lt (Nat.lt_of_lt_of_le (by have := World.block_lt_of_cell? _ _ hw214_0; first | rwa [add_block] at this | exact this) GW222.out))) _).trans (((cell_far (p := ⟨gb222, _, none⟩) (by first | exact Nat.ne_of_lt (Nat.lt_of_lt_of_le (by have := World.block_lt_of_cell? _ _ hw214_0; first | rwa [add_block] at this | exact this) GW222.out) | (rw [add_block]; exact Nat.ne_of_lt (Nat.lt_of_lt_of_le (by have := World.block_lt_of_cell? _ _ hw214_0; first | rwa [add_block] at this | exact this) GW222.out)) | (show (Addr.add _ _).block ≠ _; rw [add_block]; exact Nat.ne_of_lt (Nat.lt_of_lt_of_le (by have := World.block_lt_of_cell? _ _ hw214_0; first | rwa [add_block] at this | exact this) GW222.out)) | (dsimp only; exact Nat.ne_of_lt (Nat.lt_of_lt_of_le (by have := World.block_lt_of_cell? _ _ hw214_0; first | rwa [add_block] at this | exact this) GW222.out))) _).trans (((cell_far (p := ⟨gb222, _, none⟩) (by first | exact Nat.ne_of_lt (Nat.lt_of_lt_of_le (by have := World.block_lt_of_cell? _ _ hw214_0; first | rwa [add_block] at this | exact this) GW222.out) | (rw [add_block]; exact Nat.ne_of_lt (Nat.lt_of_lt_of_le (by have := World.block_lt_of_cell? _ _ hw214_0; first | rwa [add_block] at this | exact this) GW222.out)) | (show (Addr.add _ _).block ≠ _; rw [add_block]; exact Nat.ne_of_lt (Nat.lt_of_lt_of_le (by have := World.block_lt_of_cell? _ _ hw214_0; first | rwa [add_block] at this | exact this) GW222.out)) | (dsimp only; exact Nat.ne_of_lt (Nat.lt_of_lt_of_le (by have := World.block_lt_of_cell? _ _ hw214_0; first | rwa [add_block] at this | exact this) GW222.out))) _).trans (hHeld.2.2.2.2.2.2))))))))))))⟩ (fun hHeld => ?_)
            clear hK K
            refine pure_ (i := 13) (N := some 11) (v := ?_) (a' := ?_) m36_ rfl rfl (any_of HT_.out (by kernel_rfl)) (fun _ _ _ h => h) (Or.inl ⟨by rfl, ?_⟩) ?_ ?_
            rotate_left
            ·intro w'
             go_simp
             with_reducible rfl
            rotate_left
            ·simp only [Act.put, q4_, q5_, q6_, i64_w, i32_w]
             rfl
            refine done_ (done_of HT_.out (by kernel_rfl)) ?_
            have hnb76 := NB213_202.out
            have hnc76 := NB202_213.out
            have hnb77 := NB213_204.out
            have hnc77 := NB204_213.out
            have hnb78 := NB213_222.out
            have hnc78 := NB222_213.out
            have hcz79_0 : w69.cell? ⟨gb213, 0, none⟩ = some (.bool t206) := q7_ BK213 0 rfl
            have hcz79_1 : w69.cell? ⟨gb213, 1, none⟩ = some (.int .i64 t207) := q7_ BK213 1 rfl
            have hcz79_2 : w69.cell? ⟨gb213, 2, none⟩ = some (.int .i64 t208) := q7_ BK213 2 rfl
            have hcz79_3 : w69.cell? ⟨gb213, 3, none⟩ = some (.int .i64 t209) := q7_ BK213 3 rfl
            have hcz79_4 : w69.cell? ⟨gb213, 4, none⟩ = some (.int .i64 t210) := q7_ BK213 4 rfl
            have hcz79_5 : w69.cell? ⟨gb213, 5, none⟩ = some (.int .i64 t211) := q7_ BK213 5 rfl
            have hfz79_0 := blk_frozen BK213.out 0
            have hfz79_1 := blk_frozen BK213.out 1
            have hfz79_2 := blk_frozen BK213.out 2
            have hfz79_3 := blk_frozen BK213.out 3
            have hfz79_4 := blk_frozen BK213.out 4
            have hfz79_5 := blk_frozen BK213.out 5
            have hnb80 := NB202_204.out
            have hnc80 := NB204_202.out
            have hnb81 := NB202_222.out
            have hnc81 := NB222_202.out
            have hcz82_0 : w69.cell? ⟨gb202, 0, none⟩ = some (.bool a0_0) := q7_ BK202 0 rfl
            have hcz82_1 : w69.cell? ⟨gb202, 1, none⟩ = some (.int .i64 a0_1) := q7_ BK202 1 rfl
            have hcz82_2 : w69.cell? ⟨gb202, 2, none⟩ = some (.int .i64 a0_2) := q7_ BK202 2 rfl
            have hcz82_3 : w69.cell? ⟨gb202, 3, none⟩ = some (.int .i64 a0_3) := q7_ BK202 3 rfl
            have hcz82_4 : w69.cell? ⟨gb202, 4, none⟩ = some (.int .i64 a0_4) := q7_ BK202 4 rfl
            have hcz82_5 : w69.cell? ⟨gb202, 5, none⟩ = some (.int .i64 a0_5) := q7_ BK202 5 rfl
            have hfz82_0 := blk_frozen BK202.out 0
            have hfz82_1 := blk_frozen BK202.out 1
            have hfz82_2 := blk_frozen BK202.out 2
            have hfz82_3 := blk_frozen BK202.out 3
            have hfz82_4 := blk_frozen BK202.out 4
            have hfz82_5 := blk_frozen BK202.out 5
            have hnb83 := NB204_222.out
            have hnc83 := NB222_204.out
            have hcz84_0 : w69.cell? ⟨gb204, 0, none⟩ = some (.bool x205000_1) := q7_ BK204 0 rfl
            have hcz84_1 : w69.cell? ⟨gb204, 1, none⟩ = some (.int .i64 x205001_1) := q7_ BK204 1 rfl
            have hcz84_2 : w69.cell? ⟨gb204, 2, none⟩ = some (.int .i64 x205002_1) := q7_ BK204 2 rfl
            have hcz84_3 : w69.cell? ⟨gb204, 3, none⟩ = some (.int .i64 x205003_1) := q7_ BK204 3 rfl
            have hcz84_4 : w69.cell? ⟨gb204, 4, none⟩ = some (.int .i64 x205004_1) := q7_ BK204 4 rfl
            have hcz84_5 : w69.cell? ⟨gb204, 5, none⟩ = some (.int .i64 x205005_1) := q7_ BK204 5 rfl
            have hfz84_0 := blk_frozen BK204.out 0
            have hfz84_1 := blk_frozen BK204.out 1
            have hfz84_2 := blk_frozen BK204.out 2
            have hfz84_3 := blk_frozen BK204.out 3
            have hfz84_4 := blk_frozen BK204.out 4
            have hfz84_5 := blk_frozen BK204.out 5
            try go_wp2
            go_roundg k1
            case measure => have := HK1.out; omega
            case rel => exact ⟨(wrap64 (x7_1 + 1)), (t206), (t207), (t208), (t209), (t210), (t211), (by first | rfl | (simp; done) | (simp [*]; done)), H', ⟨by have := HK1.out; omega⟩, ⟨by (with_reducible repeat (first | refine blk_drewN ?_ _ | refine blk_drew ?_ | refine blk_alloc ?_ _)); refine blk_far ?_ NB202_204.out _; (with_reducible repeat (first | refine blk_drewN ?_ _ | refine blk_drew ?_ | refine blk_alloc ?_ _)); refine blk_far ?_ NB202_204.out _; (with_reducible repeat (first | refine blk_drewN ?_ _ | refine blk_drew ?_ | refine blk_alloc ?_ _)); refine blk_far ?_ NB202_204.out _; (with_reducible repeat (first | refine blk_drewN ?_ _ | refine blk_drew ?_ | refine blk_alloc ?_ _)); refine blk_far ?_ NB202_204.out _; (with_reducible repeat (first | refine blk_drewN ?_ _ | refine blk_drew ?_ | refine blk_alloc ?_ _)); refine blk_far ?_ NB202_204.out _; (with_reducible repeat (first | refine blk_drewN ?_ _ | refine blk_drew ?_ | refine blk_alloc ?_ _)); refine blk_far ?_ NB202_204.out _; (with_reducible repeat (first | refine blk_drewN ?_ _ | refine blk_drew ?_ | refine blk_alloc ?_ _)); refine blk_far ?_ NB202_222.out _; (with_reducible repeat (first | refine blk_drewN ?_ _ | refine blk_drew ?_ | refine blk_alloc ?_ _)); refine blk_far ?_ NB202_222.out _; (with_reducible repeat (first | refine blk_drewN ?_ _ | refine blk_drew ?_ | refine blk_alloc ?_ _)); refine blk_far ?_ NB202_222.out _; (with_reducible repeat (first | refine blk_drewN ?_ _ | refine blk_drew ?_ | refine blk_alloc ?_ _)); refine blk_far ?_ NB202_222.out _; (with_reducible repeat (first | refine blk_drewN ?_ _ | refine blk_drew ?_ | refine blk_alloc ?_ _)); refine blk_far ?_ NB202_222.out _; (with_reducible repeat (first | refine blk_drewN ?_ _ | refine blk_drew ?_ | refine blk_alloc ?_ _)); refine blk_far ?_ NB202_222.out _; (with_reducible repeat (first | refine blk_drewN ?_ _ | refine blk_drew ?_ | refine blk_alloc ?_ _)); exact BK202.out⟩, ⟨by (with_reducible repeat (first | refine blk_drewN ?_ _ | refine blk_drew ?_ | refine blk_alloc ?_ _)); refine blk_put (cs := #[.bool t206, .int .i64 t207, .int .i64 t208, .int .i64 t209, .int .i64 t210, .int .i64 x205005_1]) ?_ 5 _ rfl; (with_reducible repeat (first | refine blk_drewN ?_ _ | refine blk_drew ?_ | refine blk_alloc ?_ _)); refine blk_put (cs := #[.bool t206, .int .i64 t207, .int .i64 t208, .int .i64 t209, .int .i64 x205004_1, .int .i64 x205005_1]) ?_ 4 _ rfl; (with_reducible repeat (first | refine blk_drewN ?_ _ | refine blk_drew ?_ | refine blk_alloc ?_ _)); refine blk_put (cs := #[.bool t206, .int .i64 t207, .int .i64 t208, .int .i64 x205003_1, .int .i64 x205004_1, .int .i64 x205005_1]) ?_ 3 _ rfl; (with_reducible repeat (first | refine blk_drewN ?_ _ | refine blk_drew ?_ | refine blk_alloc ?_ _)); refine blk_put (cs := #[.bool t206, .int .i64 t207, .int .i64 x205002_1, .int .i64 x205003_1, .int .i64 x205004_1, .int .i64 x205005_1]) ?_ 2 _ rfl; (with_reducible repeat (first | refine blk_drewN ?_ _ | refine blk_drew ?_ | refine blk_alloc ?_ _)); refine blk_put (cs := #[.bool t206, .int .i64 x205001_1, .int .i64 x205002_1, .int .i64 x205003_1, .int .i64 x205004_1, .int .i64 x205005_1]) ?_ 1 _ rfl; (with_reducible repeat (first | refine blk_drewN ?_ _ | refine blk_drew ?_ | refine blk_alloc ?_ _)); refine blk_put (cs := #[.bool x205000_1, .int .i64 x205001_1, .int .i64 x205002_1, .int .i64 x205003_1, .int .i64 x205004_1, .int .i64 x205005_1]) ?_ 0 _ rfl; (with_reducible repeat (first | refine blk_drewN ?_ _ | refine blk_drew ?_ | refine blk_alloc ?_ _)); refine blk_far ?_ NB204_222.out _; (with_reducible repeat (first | refine blk_drewN ?_ _ | refine blk_drew ?_ | refine blk_alloc ?_ _)); refine blk_far ?_ NB204_222.out _; (with_reducible repeat (first | refine blk_drewN ?_ _ | refine blk_drew ?_ | refine blk_alloc ?_ _)); refine blk_far ?_ NB204_222.out _; (with_reducible repeat (first | refine blk_drewN ?_ _ | refine blk_drew ?_ | refine blk_alloc ?_ _)); refine blk_far ?_ NB204_222.out _; (with_reducible repeat (first | refine blk_drewN ?_ _ | refine blk_drew ?_ | refine blk_alloc ?_ _)); refine blk_far ?_ NB204_222.out _; (with_reducible repeat (first | refine blk_drewN ?_ _ | refine blk_drew ?_ | refine blk_alloc ?_ _)); refine blk_far ?_ NB204_222.out _; (with_reducible repeat (first | refine blk_drewN ?_ _ | refine blk_drew ?_ | refine blk_alloc ?_ _)); exact BK204.out⟩, ⟨by repeat (first | (with_reducible first | exact HB.out | apply below_alloc | apply pw_below_drewN | apply below_drew1 | refine below_set ?_ GE202.out | refine below_set ?_ GE204.out | refine below_set ?_ GE213.out | refine below_set ?_ GE222.out) | exact HB.out)⟩⟩
          ·rw [if_neg c53] at H
           have c53b0 : decide (a0_1 ≤ x205003_1) = false := decide_eq_false c53
           clear c53
           have H' := Aside0.mk H
           clear H
           try go_wp2
           have n0_ := Aside0.mk (blk_drew BK202.out)
           have n1_ := Aside0.mk (blk_drew BK204.out)
           have n2_ := Aside0.mk (below_drew1 HB.out)
           clear BK202
           clear BK204
           clear HB
           have BK202 := n0_
           have BK204 := n1_
           have HB := n2_
           clear n0_ n1_ n2_
           have p205 : 0 ≤ (x7_1 : Int) := of_decide_eq_true (by first | (with_reducible assumption) | assumption)
           have q205 : x7_1 < (l1.length : Int) := of_decide_eq_true (by first | (with_reducible assumption) | assumption)
           obtain ⟨ad205, e205, hx205_0⟩ := Kd.at_int HR1.out x7_1 p205 q205
           have hw205_0 := hx205_0
           cases e205
           replace hx205_0 := (HB.out.cell (World.block_lt_of_cell? w _ hx205_0)).trans hx205_0
           replace p205 := eq_true p205
           replace q205 := eq_true q205
           refine start_ (n := 13) (S := fun w' => w'.cell? ⟨gb204, 0, none⟩ = some (.bool x205000_1) ∧ w'.cell? ⟨gb204, 1, none⟩ = some (.int .i64 x205001_1) ∧ w'.cell? ⟨gb204, 2, none⟩ = some (.int .i64 x205002_1) ∧ w'.cell? ⟨gb204, 3, none⟩ = some (.int .i64 x205003_1) ∧ w'.cell? ⟨gb204, 4, none⟩ = some (.int .i64 x205004_1) ∧ w'.cell? ⟨gb204, 5, none⟩ = some (.int .i64 x205005_1) ∧ w'.cell? (ad205.add (x7_1).toNat) = some (.int .i16 (rd l1 x7_1))) (ds := []) m0_ (by kernel_rfl) rfl rfl ⟨q7_ BK204 0 rfl, q7_ BK204 1 rfl, q7_ BK204 2 rfl, q7_ BK204 3 rfl, q7_ BK204 4 rfl, q7_ BK204 5 rfl, ((HB.out.cell (World.block_lt_of_cell? w _ hw205_0)).trans hw205_0)⟩ (fun hHeld => ?_); refine with_tabW seizinlaw05_AccessSteps.tab8 seizinlaw05_AccessSteps.bits8 (fun HT_ HW_ => ?_)
           generalize wr.drew = w85 at BK202 BK204 HB hx205_0 hHeld ⊢
           refine pure_ (i := 1) (N := some 26) (v := ?_) (a' := ?_) m1_ rfl rfl (any_of HT_.out (by kernel_rfl)) (fun _ _ _ h => h) (Or.inl ⟨by rfl, ?_⟩) ?_ ?_
           rotate_left
           ·intro w'
            go_simp
            with_reducible rfl
           rotate_left
           ·simp only [Act.put, q4_, q5_, q6_, i64_w, i32_w]
            rfl
           refine pure_ (i := 2) (N := some 27) (v := ?_) (a' := ?_) m2_ rfl rfl (any_of HT_.out (by kernel_rfl)) (fun _ _ _ h => h) (Or.inl ⟨by rfl, ?_⟩) ?_ ?_
           rotate_left
           ·intro w'
            go_simp
            with_reducible rfl
           rotate_left
           ·simp only [Act.put, q4_, q5_, q6_, i64_w, i32_w]
            rfl
           refine pure_ (i := 3) (N := some 28) (v := ?_) (a' := ?_) m3_ rfl rfl (any_of HT_.out (by kernel_rfl)) (fun _ _ _ h => h) (Or.inl ⟨by rfl, ?_⟩) ?_ ?_
           rotate_left
           ·intro w'
            go_simp
            with_reducible rfl
           rotate_left
           ·simp only [Act.put, q4_, q5_, q6_, i64_w, i32_w]
            rfl
           refine take_ (i := 0) (N := some 25) (v := ?_) (a' := ?_) m4_ rfl rfl (take_ofW HT_.out HW_.out (by kernel_rfl)) (fun _ _ _ h => h) (Or.inl ⟨by rfl, ?_⟩) hHeld ?_ ?_
           rotate_left
           ·rintro w' ⟨s0, s1, s2, s3, s4, s5, s6⟩
            go_simp
            with_reducible rfl
           rotate_left
           ·simp only [Act.put, q4_, q5_, q6_, i64_w, i32_w]
            rfl
           refine take_ (i := 4) (N := some 29) (v := ?_) (a' := ?_) m5_ rfl rfl (take_ofW HT_.out HW_.out (by kernel_rfl)) (fun _ _ _ h => h) (Or.inl ⟨by rfl, ?_⟩) hHeld ?_ ?_
           rotate_left
           ·rintro w' ⟨s0, s1, s2, s3, s4, s5, s6⟩
            go_simp
            with_reducible rfl
           rotate_left
           ·simp only [Act.put, q4_, q5_, q6_, i64_w, i32_w]
            rfl
           refine pure_ (i := 5) (N := some 30) (v := ?_) (a' := ?_) m6_ rfl rfl (any_of HT_.out (by kernel_rfl)) (fun _ _ _ h => h) (Or.inl ⟨by rfl, ?_⟩) ?_ ?_
           rotate_left
           ·intro w'
            go_simp
            with_reducible rfl
           rotate_left
           ·simp only [Act.put, q4_, q5_, q6_, i64_w, i32_w]
            rfl
           refine join_ (σ := Nat) 2 m7_ (fun s_ => [(31, .tuple #[.agg #[.bool t206, .int .i64 t207, .int .i64 t208, .int .i64 t209, .int .i64 t210, .int .i64 t211], .bool true]), (8, .pointer (some ⟨s_, 0, none⟩)), (24, .tuple #[.agg #[.bool t206, .int .i64 t207, .int .i64 t208, .int .i64 t209, .int .i64 t210, .int .i64 t211], .bool true]), (32, .agg #[.bool t206, .int .i64 t207, .int .i64 t208, .int .i64 t209, .int .i64 t210, .int .i64 t211]), (33, .bool true)]) (fun s_ w' => (w'.cell? ⟨gb204, 0, none⟩ = some (.bool x205000_1) ∧ w'.cell? ⟨gb204, 1, none⟩ = some (.int .i64 x205001_1) ∧ w'.cell? ⟨gb204, 2, none⟩ = some (.int .i64 x205002_1) ∧ w'.cell? ⟨gb204, 3, none⟩ = some (.int .i64 x205003_1) ∧ w'.cell? ⟨gb204, 4, none⟩ = some (.int .i64 x205004_1) ∧ w'.cell? ⟨gb204, 5, none⟩ = some (.int .i64 x205005_1) ∧ w'.cell? (ad205.add (x7_1).toNat) = some (.int .i16 (rd l1 x7_1))) ∧ (w'.heap[gb202]? = some (.cells #[.bool a0_0, .int .i64 a0_1, .int .i64 a0_2, .int .i64 a0_3, .int .i64 a0_4, .int .i64 a0_5] 23 (0, 0))) ∧ (w'.heap[gb204]? = some (.cells #[.bool x205000_1, .int .i64 x205001_1, .int .i64 x205002_1, .int .i64 x205003_1, .int .i64 x205004_1, .int .i64 x205005_1] 23 (0, 0))) ∧ (w'.heap[s_]? = some (.cells #[.bool false, .int .i64 0, .int .i64 0, .int .i64 0, .int .i64 0, .int .i64 0] 23 (0, 0))) ∧ (w.heap.size ≤ s_) ∧ (w.heap.size ≤ s_) ∧ (gb202 ≠ s_) ∧ (s_ ≠ gb202) ∧ (gb204 ≠ s_) ∧ (s_ ≠ gb204) ∧ (Below w.heap.size w w')) ?_ ?_
           rotate_left
           ·intro hCont
            refine two_ (i := 6) (j := 10) (Ni := some 31) (Nj := some 8) m8_ m9_ rfl rfl rfl rfl (two_of HT_.out (by kernel_rfl)) (by decide) (by decide) (fun K hK => ?_) (fun K hK => ?_)
            ·skip
             refine goes_ Try.func13 (by kernel_rfl) rfl #[.agg #[.bool x205000_1, .int .i64 x205001_1, .int .i64 x205002_1, .int .i64 x205003_1, .int .i64 x205004_1, .int .i64 x205005_1], .int .i64 (wrap64 (rd l1 x7_1))] (by rfl) rfl rfl (by (try simp only [List.map_toArray, List.map_cons, List.map_nil]); first | done | rfl | (simp only [List.length_drop, List.length_take]; rfl)) ?_
             with_reducible refine (access_Step.calls x205000_1 x205001_1 x205002_1 x205003_1 x205004_1 x205005_1 (wrap64 (rd l1 x7_1)) t206 t207 t208 t209 t210 t211 true _ A15.out).mono ?_
             rintro e w86 ⟨rfl, hb⟩
             refine ⟨_, rfl, ?_⟩
             have n0_ := q1_ BK202 hb
             have n1_ := q1_ BK204 hb
             have n2_ := q2_ HB hb
             clear BK202
             clear BK204
             clear HB
             have BK202 := n0_
             have BK204 := n1_
             have HB := n2_
             clear n0_ n1_ n2_
             (try clear hb)
             (try clear hb2)
             (try clear hk)
             (try clear hi)
             refine hK.out _ _ ⟨q7_ BK204 0 rfl, q7_ BK204 1 rfl, q7_ BK204 2 rfl, q7_ BK204 3 rfl, q7_ BK204 4 rfl, q7_ BK204 5 rfl, ((HB.out.cell (World.block_lt_of_cell? w _ hw205_0)).trans hw205_0)⟩ (fun hHeld => ?_)
             clear hK K
             refine norm_ (a' := ?_) ?_ ?_
             rotate_left
             ·show Act.put _ (some 31) _ = _
              simp only [Act.put, q4_, q5_, q6_, i64_w, i32_w]
              rfl
             refine pure_ (i := 7) (N := some 24) (v := ?_) (a' := ?_) m10_ rfl rfl (any_of HT_.out (by kernel_rfl)) (fun _ _ _ h => h) (Or.inl ⟨by rfl, ?_⟩) ?_ ?_
             rotate_left
             ·intro w'
              go_simp
              with_reducible rfl
             rotate_left
             ·simp only [Act.put, q4_, q5_, q6_, i64_w, i32_w]
              rfl
             refine pure_ (i := 8) (N := some 32) (v := ?_) (a' := ?_) m11_ rfl rfl (any_of HT_.out (by kernel_rfl)) (fun _ _ _ h => h) (Or.inl ⟨by rfl, ?_⟩) ?_ ?_
             rotate_left
             ·intro w'
              go_simp
              with_reducible rfl
             rotate_left
             ·simp only [Act.put, q4_, q5_, q6_, i64_w, i32_w]
              rfl
             refine pure_ (i := 9) (N := some 33) (v := ?_) (a' := ?_) m12_ rfl rfl (any_of HT_.out (by kernel_rfl)) (fun _ _ _ h => h) (Or.inl ⟨by rfl, ?_⟩) ?_ ?_
             rotate_left
             ·intro w'
              go_simp
              with_reducible rfl
             rotate_left
             ·simp only [Act.put, q4_, q5_, q6_, i64_w, i32_w]
              rfl
             refine one_ (i := 10) (N := some 8) m7_ rfl rfl (one_of HT_.out (by kernel_rfl)) (by decide) (fun K hK => ?_)
             refine box_step ?hg (N := 8) ?hd (cs := #[.bool false, .int .i64 0, .int .i64 0, .int .i64 0, .int .i64 0, .int .i64 0]) (t := 23) ?hr ?_; (case hd => rfl); (case hg => rfl); (case hr => first | (go_simp; done) | (go_simp; rfl))
             intro gb213 hg w87 hbox hb
             have n0_ := q1_ BK202 hb
             have n1_ := q1_ BK204 hb
             have n2_ := q2_ HB hb
             have n3_ := Aside0.mk (hbox)
             have n4_ := Aside0.mk ((by rw [hg]; exact (below_size (by repeat (first | (with_reducible first | exact HB.out | apply below_alloc | apply pw_below_drewN | apply below_drew1 | refine below_set ?_ GE202.out | refine below_set ?_ GE204.out) | exact HB.out))) : w.heap.size ≤ gb213))
             have n5_ := Aside0.mk ((by rw [hg]; exact (below_size (by repeat (first | (with_reducible first | exact HB.out | apply below_alloc | apply pw_below_drewN | apply below_drew1 | refine below_set ?_ GE202.out | refine below_set ?_ GE204.out) | exact HB.out))) : w.heap.size ≤ gb213))
             have n6_ := Aside0.mk ((by rw [hg]; exact Nat.ne_of_lt (blk_lt (g := gb202) (o := .cells #[.bool a0_0, .int .i64 a0_1, .int .i64 a0_2, .int .i64 a0_3, .int .i64 a0_4, .int .i64 a0_5] 23 (0, 0)) (q3_ BK202).out) : gb202 ≠ gb213))
             have n7_ := Aside0.mk ((by rw [hg]; exact Nat.ne_of_gt (blk_lt (g := gb202) (o := .cells #[.bool a0_0, .int .i64 a0_1, .int .i64 a0_2, .int .i64 a0_3, .int .i64 a0_4, .int .i64 a0_5] 23 (0, 0)) (q3_ BK202).out) : gb213 ≠ gb202))
             have n8_ := Aside0.mk ((by rw [hg]; exact Nat.ne_of_lt (blk_lt (g := gb204) (o := .cells #[.bool x205000_1, .int .i64 x205001_1, .int .i64 x205002_1, .int .i64 x205003_1, .int .i64 x205004_1, .int .i64 x205005_1] 23 (0, 0)) (q3_ BK204).out) : gb204 ≠ gb213))
             have n9_ := Aside0.mk ((by rw [hg]; exact Nat.ne_of_gt (blk_lt (g := gb204) (o := .cells #[.bool x205000_1, .int .i64 x205001_1, .int .i64 x205002_1, .int .i64 x205003_1, .int .i64 x205004_1, .int .i64 x205005_1] 23 (0, 0)) (q3_ BK204).out) : gb213 ≠ gb204))
             clear BK202
             clear BK204
             clear HB
             have BK202 := n0_
             have BK204 := n1_
             have HB := n2_
             have BK213 := n3_
             have GW213 := n4_
             have GE213 := n5_
             have NB202_213 := n6_
             have NB213_202 := n7_
             have NB204_213 := n8_
             have NB213_204 := n9_
             clear n0_ n1_ n2_ n3_ n4_ n5_ n6_ n7_ n8_ n9_
             clear hb hbox hg
             refine hK.out _ _ ⟨q7_ BK204 0 rfl, q7_ BK204 1 rfl, q7_ BK204 2 rfl, q7_ BK204 3 rfl, q7_ BK204 4 rfl, q7_ BK204 5 rfl, ((HB.out.cell (World.block_lt_of_cell? w _ hw205_0)).trans hw205_0)⟩ (fun hHeld => ?_)
             clear hK K
             refine norm_ (a' := ?_) ?_ ?_
             rotate_left
             ·show Act.put _ (some 8) _ = _
              simp only [Act.put, q4_, q5_, q6_, i64_w, i32_w]
              rfl
             exact norm_ (by simp only [putAll, Act.put, q4_, q5_, q6_]) (hCont (gb213) _ ⟨hHeld, (q3_ BK202).out, (q3_ BK204).out, (q3_ BK213).out, GW213.out, GE213.out, NB202_213.out, NB213_202.out, NB204_213.out, NB213_204.out, (by repeat (first | (with_reducible first | exact HB.out | apply below_alloc | apply pw_below_drewN | apply below_drew1 | refine below_set ?_ GE202.out | refine below_set ?_ GE204.out | refine below_set ?_ GE213.out) | exact HB.out))⟩)
            ·skip
             refine box_step ?hg (N := 8) ?hd (cs := #[.bool false, .int .i64 0, .int .i64 0, .int .i64 0, .int .i64 0, .int .i64 0]) (t := 23) ?hr ?_; (case hd => rfl); (case hg => rfl); (case hr => first | (go_simp; done) | (go_simp; rfl))
             intro gb213 hg w86 hbox hb
             have n0_ := q1_ BK202 hb
             have n1_ := q1_ BK204 hb
             have n2_ := q2_ HB hb
             have n3_ := Aside0.mk (hbox)
             have n4_ := Aside0.mk ((by rw [hg]; exact (below_size (by repeat (first | (with_reducible first | exact HB.out | apply below_alloc | apply pw_below_drewN | apply below_drew1 | refine below_set ?_ GE202.out | refine below_set ?_ GE204.out) | exact HB.out))) : w.heap.size ≤ gb213))
             have n5_ := Aside0.mk ((by rw [hg]; exact (below_size (by repeat (first | (with_reducible first | exact HB.out | apply below_alloc | apply pw_below_drewN | apply below_drew1 | refine below_set ?_ GE202.out | refine below_set ?_ GE204.out) | exact HB.out))) : w.heap.size ≤ gb213))
             have n6_ := Aside0.mk ((by rw [hg]; exact Nat.ne_of_lt (blk_lt (g := gb202) (o := .cells #[.bool a0_0, .int .i64 a0_1, .int .i64 a0_2, .int .i64 a0_3, .int .i64 a0_4, .int .i64 a0_5] 23 (0, 0)) (q3_ BK202).out) : gb202 ≠ gb213))
             have n7_ := Aside0.mk ((by rw [hg]; exact Nat.ne_of_gt (blk_lt (g := gb202) (o := .cells #[.bool a0_0, .int .i64 a0_1, .int .i64 a0_2, .int .i64 a0_3, .int .i64 a0_4, .int .i64 a0_5] 23 (0, 0)) (q3_ BK202).out) : gb213 ≠ gb202))
             have n8_ := Aside0.mk ((by rw [hg]; exact Nat.ne_of_lt (blk_lt (g := gb204) (o := .cells #[.bool x205000_1, .int .i64 x205001_1, .int .i64 x205002_1, .int .i64 x205003_1, .int .i64 x205004_1, .int .i64 x205005_1] 23 (0, 0)) (q3_ BK204).out) : gb204 ≠ gb213))
             have n9_ := Aside0.mk ((by rw [hg]; exact Nat.ne_of_gt (blk_lt (g := gb204) (o := .cells #[.bool x205000_1, .int .i64 x205001_1, .int .i64 x205002_1, .int .i64 x205003_1, .int .i64 x205004_1, .int .i64 x205005_1] 23 (0, 0)) (q3_ BK204).out) : gb213 ≠ gb204))
             clear BK202
             clear BK204
             clear HB
             have BK202 := n0_
             have BK204 := n1_
             have HB := n2_
             have BK213 := n3_
             have GW213 := n4_
             have GE213 := n5_
             have NB202_213 := n6_
             have NB213_202 := n7_
             have NB204_213 := n8_
             have NB213_204 := n9_
             clear n0_ n1_ n2_ n3_ n4_ n5_ n6_ n7_ n8_ n9_
             clear hb hbox hg
             refine hK.out _ _ ⟨q7_ BK204 0 rfl, q7_ BK204 1 rfl, q7_ BK204 2 rfl, q7_ BK204 3 rfl, q7_ BK204 4 rfl, q7_ BK204 5 rfl, ((HB.out.cell (World.block_lt_of_cell? w _ hw205_0)).trans hw205_0)⟩ (fun hHeld => ?_)
             clear hK K
             refine norm_ (a' := ?_) ?_ ?_
             rotate_left
             ·show Act.put _ (some 8) _ = _
              simp only [Act.put, q4_, q5_, q6_, i64_w, i32_w]
              rfl
             refine one_ (i := 6) (N := some 31) m13_ rfl rfl (one_of HT_.out (by kernel_rfl)) (by decide) (fun K hK => ?_)
             refine goes_ Try.func13 (by kernel_rfl) rfl #[.agg #[.bool x205000_1, .int .i64 x205001_1, .int .i64 x205002_1, .int .i64 x205003_1, .int .i64 x205004_1, .int .i64 x205005_1], .int .i64 (wrap64 (rd l1 x7_1))] (by rfl) rfl rfl (by (try simp only [List.map_toArray, List.map_cons, List.map_nil]); first | done | rfl | (simp only [List.length_drop, List.length_take]; rfl)) ?_
             with_reducible refine (access_Step.calls x205000_1 x205001_1 x205002_1 x205003_1 x205004_1 x205005_1 (wrap64 (rd l1 x7_1)) t206 t207 t208 t209 t210 t211 true _ A15.out).mono ?_
             rintro e w87 ⟨rfl, hb⟩
             refine ⟨_, rfl, ?_⟩
             have n0_ := q1_ BK202 hb
             have n1_ := q1_ BK204 hb
             have n2_ := q1_ BK213 hb
             have n3_ := q2_ HB hb
             clear BK202
             clear BK204
             clear BK213
             clear HB
             have BK202 := n0_
             have BK204 := n1_
             have BK213 := n2_
             have HB := n3_
             clear n0_ n1_ n2_ n3_
             (try clear hb)
             (try clear hb2)
             (try clear hk)
             (try clear hi)
             refine hK.out _ _ ⟨q7_ BK204 0 rfl, q7_ BK204 1 rfl, q7_ BK204 2 rfl, q7_ BK204 3 rfl, q7_ BK204 4 rfl, q7_ BK204 5 rfl, ((HB.out.cell (World.block_lt_of_cell? w _ hw205_0)).trans hw205_0)⟩ (fun hHeld => ?_)
             clear hK K
             refine norm_ (a' := ?_) ?_ ?_
             rotate_left
             ·show Act.put _ (some 31) _ = _
              simp only [Act.put, q4_, q5_, q6_, i64_w, i32_w]
              rfl
             refine pure_ (i := 7) (N := some 24) (v := ?_) (a' := ?_) m14_ rfl rfl (any_of HT_.out (by kernel_rfl)) (fun _ _ _ h => h) (Or.inl ⟨by rfl, ?_⟩) ?_ ?_
             rotate_left
             ·intro w'
              go_simp
              with_reducible rfl
             rotate_left
             ·simp only [Act.put, q4_, q5_, q6_, i64_w, i32_w]
              rfl
             refine pure_ (i := 8) (N := some 32) (v := ?_) (a' := ?_) m15_ rfl rfl (any_of HT_.out (by kernel_rfl)) (fun _ _ _ h => h) (Or.inl ⟨by rfl, ?_⟩) ?_ ?_
             rotate_left
             ·intro w'
              go_simp
              with_reducible rfl
             rotate_left
             ·simp only [Act.put, q4_, q5_, q6_, i64_w, i32_w]
              rfl
             refine pure_ (i := 9) (N := some 33) (v := ?_) (a' := ?_) m7_ rfl rfl (any_of HT_.out (by kernel_rfl)) (fun _ _ _ h => h) (Or.inl ⟨by rfl, ?_⟩) ?_ ?_
             rotate_left
             ·intro w'
              go_simp
              with_reducible rfl
             rotate_left
             ·simp only [Act.put, q4_, q5_, q6_, i64_w, i32_w]
              rfl
             exact norm_ (by simp only [putAll, Act.put, q4_, q5_, q6_]) (hCont (gb213) _ ⟨hHeld, (q3_ BK202).out, (q3_ BK204).out, (q3_ BK213).out, GW213.out, GE213.out, NB202_213.out, NB213_202.out, NB204_213.out, NB213_204.out, (by repeat (first | (with_reducible first | exact HB.out | apply below_alloc | apply pw_below_drewN | apply below_drew1 | refine below_set ?_ GE202.out | refine below_set ?_ GE204.out | refine below_set ?_ GE213.out) | exact HB.out))⟩)
           rintro gb213 w88 ⟨hS_, h0_, h1_, h2_, h3_, h4_, h5_, h6_, h7_, h8_, h9_⟩
           have n0_ : Aside0 (w88.heap[gb202]? = some (.cells #[.bool a0_0, .int .i64 a0_1, .int .i64 a0_2, .int .i64 a0_3, .int .i64 a0_4, .int .i64 a0_5] 23 (0, 0))) := ⟨h0_⟩
           have n1_ : Aside0 (w88.heap[gb204]? = some (.cells #[.bool x205000_1, .int .i64 x205001_1, .int .i64 x205002_1, .int .i64 x205003_1, .int .i64 x205004_1, .int .i64 x205005_1] 23 (0, 0))) := ⟨h1_⟩
           have n2_ : Aside0 (w88.heap[gb213]? = some (.cells #[.bool false, .int .i64 0, .int .i64 0, .int .i64 0, .int .i64 0, .int .i64 0] 23 (0, 0))) := ⟨h2_⟩
           have n3_ : Aside0 (w.heap.size ≤ gb213) := ⟨h3_⟩
           have n4_ : Aside0 (w.heap.size ≤ gb213) := ⟨h4_⟩
           have n5_ : Aside0 (gb202 ≠ gb213) := ⟨h5_⟩
           have n6_ : Aside0 (gb213 ≠ gb202) := ⟨h6_⟩
           have n7_ : Aside0 (gb204 ≠ gb213) := ⟨h7_⟩
           have n8_ : Aside0 (gb213 ≠ gb204) := ⟨h8_⟩
           have n9_ : Aside0 (Below w.heap.size w w88) := ⟨h9_⟩
           clear BK202
           clear BK204
           clear HB
           clear h0_ h1_ h2_ h3_ h4_ h5_ h6_ h7_ h8_ h9_
           have BK202 := n0_
           have BK204 := n1_
           have BK213 := n2_
           have GW213 := n3_
           have GE213 := n4_
           have NB202_213 := n5_
           have NB213_202 := n6_
           have NB204_213 := n7_
           have NB213_204 := n8_
           have HB := n9_
           clear n0_ n1_ n2_ n3_ n4_ n5_ n6_ n7_ n8_ n9_
           have hHeld : w88.cell? ⟨gb204, 0, none⟩ = some (.bool x205000_1) ∧ w88.cell? ⟨gb204, 1, none⟩ = some (.int .i64 x205001_1) ∧ w88.cell? ⟨gb204, 2, none⟩ = some (.int .i64 x205002_1) ∧ w88.cell? ⟨gb204, 3, none⟩ = some (.int .i64 x205003_1) ∧ w88.cell? ⟨gb204, 4, none⟩ = some (.int .i64 x205004_1) ∧ w88.cell? ⟨gb204, 5, none⟩ = some (.int .i64 x205005_1) ∧ w88.cell? (ad205.add (x7_1).toNat) = some (.int .i16 (rd l1 x7_1)) := hS_
           refine norm_ (a' := ?_) ?_ ?_
           rotate_left
           ·simp only [putAll, Act.put, q4_, q5_, q6_]
            rfl
           refine one_ (i := 11) (N := none) m16_ rfl rfl (one_of HT_.out (by kernel_rfl)) (by decide) (fun K hK => ?_)
           have hs89 : w88.cell? ⟨gb213, 0, none⟩ = some (.bool false) := q7_ BK213 0 rfl
           have hfs89 := blk_frozen BK213.out 0
           have hns89_0 := NB202_213.out
           have hns89_1 := NB204_213.out
           have hms89_0 := NB213_202.out
           have hms89_1 := NB213_204.out
           have hs90 : w88.cell? ⟨gb213, 1, none⟩ = some (.int .i64 0) := q7_ BK213 1 rfl
           have hfs90 := blk_frozen BK213.out 1
           have hns90_0 := NB202_213.out
           have hns90_1 := NB204_213.out
           have hms90_0 := NB213_202.out
           have hms90_1 := NB213_204.out
           have hs91 : w88.cell? ⟨gb213, 2, none⟩ = some (.int .i64 0) := q7_ BK213 2 rfl
           have hfs91 := blk_frozen BK213.out 2
           have hns91_0 := NB202_213.out
           have hns91_1 := NB204_213.out
           have hms91_0 := NB213_202.out
           have hms91_1 := NB213_204.out
           have hs92 : w88.cell? ⟨gb213, 3, none⟩ = some (.int .i64 0) := q7_ BK213 3 rfl
           have hfs92 := blk_frozen BK213.out 3
           have hns92_0 := NB202_213.out
           have hns92_1 := NB204_213.out
           have hms92_0 := NB213_202.out
           have hms92_1 := NB213_204.out
           have hs93 : w88.cell? ⟨gb213, 4, none⟩ = some (.int .i64 0) := q7_ BK213 4 rfl
           have hfs93 := blk_frozen BK213.out 4
           have hns93_0 := NB202_213.out
           have hns93_1 := NB204_213.out
           have hms93_0 := NB213_202.out
           have hms93_1 := NB213_204.out
           have hs94 : w88.cell? ⟨gb213, 5, none⟩ = some (.int .i64 0) := q7_ BK213 5 rfl
           have hfs94 := blk_frozen BK213.out 5
           have hns94_0 := NB202_213.out
           have hns94_1 := NB204_213.out
           have hms94_0 := NB213_202.out
           have hms94_1 := NB213_204.out
           refine skip_ (w1 := ?_) (by rfl) rfl ?_ ?_
           rotate_left
           ·go_simp
            rfl
           refine hK.out _ _ ⟨((q8_ NB204_213).trans (((q8_ NB204_213).trans (((q8_ NB204_213).trans (((q8_ NB204_213).trans (((q8_ NB204_213).trans (((q8_ NB204_213).trans (hHeld.1)))))))))))), ((q8_ NB204_213).trans (((q8_ NB204_213).trans (((q8_ NB204_213).trans (((q8_ NB204_213).trans (((q8_ NB204_213).trans (((q8_ NB204_213).trans (hHeld.2.1)))))))))))), ((q8_ NB204_213).trans (((q8_ NB204_213).trans (((q8_ NB204_213).trans (((q8_ NB204_213).trans (((q8_ NB204_213).trans (((q8_ NB204_213).trans (hHeld.2.2.1)))))))))))), ((q8_ NB204_213).trans (((q8_ NB204_213).trans (((q8_ NB204_213).trans (((q8_ NB204_213).trans (((q8_ NB204_213).trans (((q8_ NB204_213).trans (hHeld.2.2.2.1)))))))))))), ((q8_ NB204_213).trans (((q8_ NB204_213).trans (((q8_ NB204_213).trans (((q8_ NB204_213).trans (((q8_ NB204_213).trans (((q8_ NB204_213).trans (hHeld.2.2.2.2.1)))))))))))), ((q8_ NB204_213).trans (((q8_ NB204_213).trans (((q8_ NB204_213).trans (((q8_ NB204_213).trans (((q8_ NB204_213).trans (((q8_ NB204_213).trans (hHeld.2.2.2.2.2.1)))))))))))), ((cell_far (p := ⟨gb213, _, none⟩) (by first | exact Nat.ne_of_lt (Nat.lt_of_lt_of_le (by have := World.block_lt_of_cell? _ _ hw205_0; first | rwa [add_block] at this | exact this) GW213.out) | (rw [add_block]; exact Nat.ne_of_lt (Nat.lt_of_lt_of_le (by have := World.block_lt_of_cell? _ _ hw205_0; first | rwa [add_block] at this | exact this) GW213.out)) | (show (Addr.add _ _).block ≠ _; rw [add_block]; exact Nat.ne_of_lt (Nat.lt_of_lt_of_le (by have := World.block_lt_of_cell? _ _ hw205_0; first | rwa [add_block] at this | exact this) GW213.out)) | (dsimp only; exact Nat.ne_of_lt (Nat.lt_of_lt_of_le (by have := World.block_lt_of_cell? _ _ hw205_0; first | rwa [add_block] at this | exact this) GW213.out))) _).trans (((cell_far (p := ⟨gb213, _, none⟩) (by first | exact Nat.ne_of_lt (Nat.lt_of_lt_of_le (by have := World.block_lt_of_cell? _ _ hw205_0; first | rwa [add_block] at this | exact this) GW213.out) | (rw [add_block]; exact Nat.ne_of_lt (Nat.lt_of_lt_of_le (by have := World.block_lt_of_cell? _ _ hw205_0; first | rwa [add_block] at this | exact this) GW213.out)) | (show (Addr.add _ _).block ≠ _; rw [add_block]; exact Nat.ne_of_lt (Nat.lt_of_lt_of_le (by have := World.block_lt_of_cell? _ _ hw205_0; first | rwa [add_block] at this | exact this) GW213.out)) | (dsimp only; exact Nat.ne_of_lt (Nat.lt_of_lt_of_le (by have := World.block_lt_of_cell? _ _ hw205_0; first | rwa [add_block] at this | exact this) GW213.out))) _).trans (((cell_far (p := ⟨gb213, _, none⟩) (by first | exact Nat.ne_of_lt (Nat.lt_of_lt_of_le (by have := World.block_lt_of_cell? _ _ hw205_0; first | rwa [add_block] at this | exact this) GW213.out) | (rw [add_block]; exact Nat.ne_of_lt (Nat.lt_of_lt_of_le (by have := World.block_lt_of_cell? _ _ hw205_0; first | rwa [add_block] at this | exact this) GW213.out)) | (show (Addr.add _ _).block ≠ _; rw [add_block]; exact Nat.ne_of_lt (Nat.lt_of_lt_of_le (by have := World.block_lt_of_cell? _ _ hw205_0; first | rwa [add_block] at this | exact this) GW213.out)) | (dsimp only; exact Nat.ne_of_lt (Nat.lt_of_lt_of_le (by have := World.block_lt_of_cell? _ _ hw205_0; first | rwa [add_block] at this | exact this) GW213.out))) _).trans (((cell_far (p := ⟨gb213, _, none⟩) (by first | exact Nat.ne_of_lt (Nat.lt_of_lt_of_le (by have := World.block_lt_of_cell? _ _ hw205_0; first | rwa [add_block] at this | exact this) GW213.out) | (rw [add_block]; exact Nat.ne_of_lt (Nat.lt_of_lt_of_le (by have := World.block_lt_of_cell? _ _ hw205_0; first | rwa [add_block] at this | exact this) GW213.out)) | (show (Addr.add _ _).block ≠ _; rw [add_block]; exact Nat.ne_of_lt (Nat.lt_of_lt_of_le (by have := World.block_lt_of_cell? _ _ hw205_0; first | rwa [add_block] at this | exact this) GW213.out)) | (dsimp only; exact Nat.ne_of_lt (Nat.lt_of_lt_of_le (by have := World.block_lt_of_cell? _ _ hw205_0; first | rwa [add_block] at this | exact this) GW213.out))) _).trans (((cell_far (p := ⟨gb213, _, none⟩) (by first | exact Nat.ne_of_lt (Nat.lt_of_lt_of_le (by have := World.block_lt_of_cell? _ _ hw205_0; first | rwa [add_block] at this | exact this) GW213.out) | (rw [add_block]; exact Nat.ne_of_lt (Nat.lt_of_lt_of_le (by have := World.block_lt_of_cell? _ _ hw205_0; first | rwa [add_block] at this | exact this) GW213.out)) | (show (Addr.add _ _).block ≠ _; rw [add_block]; exact Nat.ne_of_lt (Nat.lt_of_lt_of_le (by have := World.block_lt_of_cell? _ _ hw205_0; first | rwa [add_block] at this | exact this) GW213.out)) | (dsimp only; exact Nat.ne_of_lt (Nat.lt_of_lt_of_le (by have := World.block_lt_of_cell? _ _ hw205_0; first | rwa [add_block] at this | exact this) GW213.out))) _).trans (((cell_far (p := ⟨gb213, _, none⟩) (by first | exact Nat.ne_of_lt (Nat.lt_of_lt_of_le (by have := World.block_lt_of_cell? _ _ hw205_0; first | rwa [add_block] at this | exact this) GW213.out) | (rw [add_block]; exact Nat.ne_of_lt (Nat.lt_of_lt_of_le (by have := World.block_lt_of_cell? _ _ hw205_0; first | rwa [add_block] at this | exact this) GW213.out)) | (show (Addr.add _ _).block ≠ _; rw [add_block]; exact Nat.ne_of_lt (Nat.lt_of_lt_of_le (by have := World.block_lt_of_cell? _ _ hw205_0; first | rwa [add_block] at this | exact this) GW213.out)) | (dsimp only; exact Nat.ne_of_lt (Nat.lt_of_lt_of_le (by have := World.block_lt_of_cell? _ _ hw205_0; first | rwa [add_block] at this | exact this) GW213.out))) _).trans (hHeld.2.2.2.2.2.2))))))))))))⟩ (fun hHeld => ?_)
           clear hK K
           refine pure_ (i := 12) (N := some 9) (v := ?_) (a' := ?_) m17_ rfl rfl (any_of HT_.out (by kernel_rfl)) (fun _ _ _ h => h) (Or.inl ⟨by rfl, ?_⟩) ?_ ?_
           rotate_left
           ·intro w'
            go_simp
            with_reducible rfl
           rotate_left
           ·simp only [Act.put, q4_, q5_, q6_, i64_w, i32_w]
            rfl
           refine done_ (done_of HT_.out (by kernel_rfl)) ?_
           try go_wp2
           have n0_ : Aside0 (((((((w88.setCell ⟨gb213, 0, none⟩ (.bool t206)).setCell ⟨gb213, 1, none⟩ (.int .i64 t207)).setCell ⟨gb213, 2, none⟩ (.int .i64 t208)).setCell ⟨gb213, 3, none⟩ (.int .i64 t209)).setCell ⟨gb213, 4, none⟩ (.int .i64 t210)).setCell ⟨gb213, 5, none⟩ (.int .i64 t211)).heap[gb202]? = some (.cells #[.bool a0_0, .int .i64 a0_1, .int .i64 a0_2, .int .i64 a0_3, .int .i64 a0_4, .int .i64 a0_5] 23 (0, 0))) := ⟨by (with_reducible repeat (first | refine blk_drewN ?_ _ | refine blk_drew ?_ | refine blk_alloc ?_ _)); refine blk_far ?_ NB202_213.out _; (with_reducible repeat (first | refine blk_drewN ?_ _ | refine blk_drew ?_ | refine blk_alloc ?_ _)); refine blk_far ?_ NB202_213.out _; (with_reducible repeat (first | refine blk_drewN ?_ _ | refine blk_drew ?_ | refine blk_alloc ?_ _)); refine blk_far ?_ NB202_213.out _; (with_reducible repeat (first | refine blk_drewN ?_ _ | refine blk_drew ?_ | refine blk_alloc ?_ _)); refine blk_far ?_ NB202_213.out _; (with_reducible repeat (first | refine blk_drewN ?_ _ | refine blk_drew ?_ | refine blk_alloc ?_ _)); refine blk_far ?_ NB202_213.out _; (with_reducible repeat (first | refine blk_drewN ?_ _ | refine blk_drew ?_ | refine blk_alloc ?_ _)); refine blk_far ?_ NB202_213.out _; (with_reducible repeat (first | refine blk_drewN ?_ _ | refine blk_drew ?_ | refine blk_alloc ?_ _)); exact BK202.out⟩
           have n1_ : Aside0 (((((((w88.setCell ⟨gb213, 0, none⟩ (.bool t206)).setCell ⟨gb213, 1, none⟩ (.int .i64 t207)).setCell ⟨gb213, 2, none⟩ (.int .i64 t208)).setCell ⟨gb213, 3, none⟩ (.int .i64 t209)).setCell ⟨gb213, 4, none⟩ (.int .i64 t210)).setCell ⟨gb213, 5, none⟩ (.int .i64 t211)).heap[gb204]? = some (.cells #[.bool x205000_1, .int .i64 x205001_1, .int .i64 x205002_1, .int .i64 x205003_1, .int .i64 x205004_1, .int .i64 x205005_1] 23 (0, 0))) := ⟨by (with_reducible repeat (first | refine blk_drewN ?_ _ | refine blk_drew ?_ | refine blk_alloc ?_ _)); refine blk_far ?_ NB204_213.out _; (with_reducible repeat (first | refine blk_drewN ?_ _ | refine blk_drew ?_ | refine blk_alloc ?_ _)); refine blk_far ?_ NB204_213.out _; (with_reducible repeat (first | refine blk_drewN ?_ _ | refine blk_drew ?_ | refine blk_alloc ?_ _)); refine blk_far ?_ NB204_213.out _; (with_reducible repeat (first | refine blk_drewN ?_ _ | refine blk_drew ?_ | refine blk_alloc ?_ _)); refine blk_far ?_ NB204_213.out _; (with_reducible repeat (first | refine blk_drewN ?_ _ | refine blk_drew ?_ | refine blk_alloc ?_ _)); refine blk_far ?_ NB204_213.out _; (with_reducible repeat (first | refine blk_drewN ?_ _ | refine blk_drew ?_ | refine blk_alloc ?_ _)); refine blk_far ?_ NB204_213.out _; (with_reducible repeat (first | refine blk_drewN ?_ _ | refine blk_drew ?_ | refine blk_alloc ?_ _)); exact BK204.out⟩
           have n2_ : Aside0 (((((((w88.setCell ⟨gb213, 0, none⟩ (.bool t206)).setCell ⟨gb213, 1, none⟩ (.int .i64 t207)).setCell ⟨gb213, 2, none⟩ (.int .i64 t208)).setCell ⟨gb213, 3, none⟩ (.int .i64 t209)).setCell ⟨gb213, 4, none⟩ (.int .i64 t210)).setCell ⟨gb213, 5, none⟩ (.int .i64 t211)).heap[gb213]? = some (.cells #[.bool t206, .int .i64 t207, .int .i64 t208, .int .i64 t209, .int .i64 t210, .int .i64 t211] 23 (0, 0))) := ⟨by (with_reducible repeat (first | refine blk_drewN ?_ _ | refine blk_drew ?_ | refine blk_alloc ?_ _)); refine blk_put (cs := #[.bool t206, .int .i64 t207, .int .i64 t208, .int .i64 t209, .int .i64 t210, .int .i64 0]) ?_ 5 _ rfl; (with_reducible repeat (first | refine blk_drewN ?_ _ | refine blk_drew ?_ | refine blk_alloc ?_ _)); refine blk_put (cs := #[.bool t206, .int .i64 t207, .int .i64 t208, .int .i64 t209, .int .i64 0, .int .i64 0]) ?_ 4 _ rfl; (with_reducible repeat (first | refine blk_drewN ?_ _ | refine blk_drew ?_ | refine blk_alloc ?_ _)); refine blk_put (cs := #[.bool t206, .int .i64 t207, .int .i64 t208, .int .i64 0, .int .i64 0, .int .i64 0]) ?_ 3 _ rfl; (with_reducible repeat (first | refine blk_drewN ?_ _ | refine blk_drew ?_ | refine blk_alloc ?_ _)); refine blk_put (cs := #[.bool t206, .int .i64 t207, .int .i64 0, .int .i64 0, .int .i64 0, .int .i64 0]) ?_ 2 _ rfl; (with_reducible repeat (first | refine blk_drewN ?_ _ | refine blk_drew ?_ | refine blk_alloc ?_ _)); refine blk_put (cs := #[.bool t206, .int .i64 0, .int .i64 0, .int .i64 0, .int .i64 0, .int .i64 0]) ?_ 1 _ rfl; (with_reducible repeat (first | refine blk_drewN ?_ _ | refine blk_drew ?_ | refine blk_alloc ?_ _)); refine blk_put (cs := #[.bool false, .int .i64 0, .int .i64 0, .int .i64 0, .int .i64 0, .int .i64 0]) ?_ 0 _ rfl; (with_reducible repeat (first | refine blk_drewN ?_ _ | refine blk_drew ?_ | refine blk_alloc ?_ _)); exact BK213.out⟩
           have n3_ : Aside0 (Below w.heap.size w ((((((w88.setCell ⟨gb213, 0, none⟩ (.bool t206)).setCell ⟨gb213, 1, none⟩ (.int .i64 t207)).setCell ⟨gb213, 2, none⟩ (.int .i64 t208)).setCell ⟨gb213, 3, none⟩ (.int .i64 t209)).setCell ⟨gb213, 4, none⟩ (.int .i64 t210)).setCell ⟨gb213, 5, none⟩ (.int .i64 t211))) := ⟨by repeat (first | (with_reducible first | exact HB.out | apply below_alloc | apply pw_below_drewN | apply below_drew1 | refine below_set ?_ GE202.out | refine below_set ?_ GE204.out | refine below_set ?_ GE213.out) | exact HB.out)⟩
           (try clear BK202)
           (try clear BK204)
           (try clear BK213)
           (try clear HB)
           generalize ((((((w88.setCell ⟨gb213, 0, none⟩ (.bool t206)).setCell ⟨gb213, 1, none⟩ (.int .i64 t207)).setCell ⟨gb213, 2, none⟩ (.int .i64 t208)).setCell ⟨gb213, 3, none⟩ (.int .i64 t209)).setCell ⟨gb213, 4, none⟩ (.int .i64 t210)).setCell ⟨gb213, 5, none⟩ (.int .i64 t211)) = w95 at n0_ n1_ n2_ n3_ ⊢
           have BK202 := n0_
           have BK204 := n1_
           have BK213 := n2_
           have HB := n3_
           clear n0_ n1_ n2_ n3_
           have n0_ := Aside0.mk (blk_drew BK202.out)
           have n1_ := Aside0.mk (blk_drew BK204.out)
           have n2_ := Aside0.mk (blk_drew BK213.out)
           have n3_ := Aside0.mk (below_drew1 HB.out)
           clear BK202
           clear BK204
           clear BK213
           clear HB
           have BK202 := n0_
           have BK204 := n1_
           have BK213 := n2_
           have HB := n3_
           clear n0_ n1_ n2_ n3_
           have p214 : 0 ≤ (x7_1 : Int) := of_decide_eq_true (by first | (with_reducible assumption) | assumption)
           have q214 : x7_1 < (l1.length : Int) := of_decide_eq_true (by first | (with_reducible assumption) | assumption)
           obtain ⟨ad214, e214, hx214_0⟩ := Kd.at_int HR1.out x7_1 p214 q214
           have hw214_0 := hx214_0
           obtain rfl : ad205 = ad214 := (by injection e214)
           replace hx214_0 := (HB.out.cell (World.block_lt_of_cell? w _ hx214_0)).trans hx214_0
           replace p214 := eq_true p214
           replace q214 := eq_true q214
           refine start_ (n := 14) (S := fun w' => w'.cell? ⟨gb213, 0, none⟩ = some (.bool t206) ∧ w'.cell? ⟨gb213, 1, none⟩ = some (.int .i64 t207) ∧ w'.cell? ⟨gb213, 2, none⟩ = some (.int .i64 t208) ∧ w'.cell? ⟨gb213, 3, none⟩ = some (.int .i64 t209) ∧ w'.cell? ⟨gb213, 4, none⟩ = some (.int .i64 t210) ∧ w'.cell? ⟨gb213, 5, none⟩ = some (.int .i64 t211) ∧ w'.cell? (ad205.add (x7_1).toNat) = some (.int .i16 (rd l1 x7_1))) (ds := []) m18_ (by kernel_rfl) rfl rfl ⟨q7_ BK213 0 rfl, q7_ BK213 1 rfl, q7_ BK213 2 rfl, q7_ BK213 3 rfl, q7_ BK213 4 rfl, q7_ BK213 5 rfl, ((HB.out.cell (World.block_lt_of_cell? w _ hw214_0)).trans hw214_0)⟩ (fun hHeld => ?_); refine with_tabW seizinlaw05_AccessSteps.tab10 seizinlaw05_AccessSteps.bits10 (fun HT_ HW_ => ?_)
           generalize w95.drew = w96 at BK202 BK204 BK213 HB hx214_0 hHeld ⊢
           refine pure_ (i := 1) (N := some 38) (v := ?_) (a' := ?_) m19_ rfl rfl (any_of HT_.out (by kernel_rfl)) (fun _ _ _ h => h) (Or.inl ⟨by rfl, ?_⟩) ?_ ?_
           rotate_left
           ·intro w'
            go_simp
            with_reducible rfl
           rotate_left
           ·simp only [Act.put, q4_, q5_, q6_, i64_w, i32_w]
            rfl
           refine pure_ (i := 2) (N := some 39) (v := ?_) (a' := ?_) m20_ rfl rfl (any_of HT_.out (by kernel_rfl)) (fun _ _ _ h => h) (Or.inl ⟨by rfl, ?_⟩) ?_ ?_
           rotate_left
           ·intro w'
            go_simp
            with_reducible rfl
           rotate_left
           ·simp only [Act.put, q4_, q5_, q6_, i64_w, i32_w]
            rfl
           refine pure_ (i := 3) (N := some 40) (v := ?_) (a' := ?_) m21_ rfl rfl (any_of HT_.out (by kernel_rfl)) (fun _ _ _ h => h) (Or.inl ⟨by rfl, ?_⟩) ?_ ?_
           rotate_left
           ·intro w'
            go_simp
            with_reducible rfl
           rotate_left
           ·simp only [Act.put, q4_, q5_, q6_, i64_w, i32_w]
            rfl
           refine take_ (i := 0) (N := some 37) (v := ?_) (a' := ?_) m22_ rfl rfl (take_ofW HT_.out HW_.out (by kernel_rfl)) (fun _ _ _ h => h) (Or.inl ⟨by rfl, ?_⟩) hHeld ?_ ?_
           rotate_left
           ·rintro w' ⟨s0, s1, s2, s3, s4, s5, s6⟩
            go_simp
            with_reducible rfl
           rotate_left
           ·simp only [Act.put, q4_, q5_, q6_, i64_w, i32_w]
            rfl
           refine take_ (i := 4) (N := some 41) (v := ?_) (a' := ?_) m23_ rfl rfl (take_ofW HT_.out HW_.out (by kernel_rfl)) (fun _ _ _ h => h) (Or.inl ⟨by rfl, ?_⟩) hHeld ?_ ?_
           rotate_left
           ·rintro w' ⟨s0, s1, s2, s3, s4, s5, s6⟩
            go_simp
            with_reducible rfl
           rotate_left
           ·simp only [Act.put, q4_, q5_, q6_, i64_w, i32_w]
            rfl
           refine pure_ (i := 5) (N := some 42) (v := ?_) (a' := ?_) m24_ rfl rfl (any_of HT_.out (by kernel_rfl)) (fun _ _ _ h => h) (Or.inl ⟨by rfl, ?_⟩) ?_ ?_
           rotate_left
           ·intro w'
            go_simp
            with_reducible rfl
           rotate_left
           ·simp only [Act.put, q4_, q5_, q6_, i64_w, i32_w]
            rfl
           refine pure_ (i := 6) (N := some 43) (v := ?_) (a' := ?_) m25_ rfl rfl (any_of HT_.out (by kernel_rfl)) (fun _ _ _ h => h) (Or.inl ⟨by rfl, ?_⟩) ?_ ?_
           rotate_left
           ·intro w'
            go_simp
            with_reducible rfl
           rotate_left
           ·simp only [Act.put, q4_, q5_, q6_, i64_w, i32_w]
            rfl
           refine join_ (σ := Nat) 2 m26_ (fun s_ => [(44, .tuple #[.agg #[.bool t215, .int .i64 t216, .int .i64 t217, .int .i64 t218, .int .i64 t219, .int .i64 t220], .bool false]), (10, .pointer (some ⟨s_, 0, none⟩)), (36, .tuple #[.agg #[.bool t215, .int .i64 t216, .int .i64 t217, .int .i64 t218, .int .i64 t219, .int .i64 t220], .bool false]), (45, .agg #[.bool t215, .int .i64 t216, .int .i64 t217, .int .i64 t218, .int .i64 t219, .int .i64 t220]), (46, .bool false)]) (fun s_ w' => (w'.cell? ⟨gb213, 0, none⟩ = some (.bool t206) ∧ w'.cell? ⟨gb213, 1, none⟩ = some (.int .i64 t207) ∧ w'.cell? ⟨gb213, 2, none⟩ = some (.int .i64 t208) ∧ w'.cell? ⟨gb213, 3, none⟩ = some (.int .i64 t209) ∧ w'.cell? ⟨gb213, 4, none⟩ = some (.int .i64 t210) ∧ w'.cell? ⟨gb213, 5, none⟩ = some (.int .i64 t211) ∧ w'.cell? (ad205.add (x7_1).toNat) = some (.int .i16 (rd l1 x7_1))) ∧ (w'.heap[gb202]? = some (.cells #[.bool a0_0, .int .i64 a0_1, .int .i64 a0_2, .int .i64 a0_3, .int .i64 a0_4, .int .i64 a0_5] 23 (0, 0))) ∧ (w'.heap[gb204]? = some (.cells #[.bool x205000_1, .int .i64 x205001_1, .int .i64 x205002_1, .int .i64 x205003_1, .int .i64 x205004_1, .int .i64 x205005_1] 23 (0, 0))) ∧ (w'.heap[gb213]? = some (.cells #[.bool t206, .int .i64 t207, .int .i64 t208, .int .i64 t209, .int .i64 t210, .int .i64 t211] 23 (0, 0))) ∧ (w'.heap[s_]? = some (.cells #[.bool false, .int .i64 0, .int .i64 0, .int .i64 0, .int .i64 0, .int .i64 0] 23 (0, 0))) ∧ (w.heap.size ≤ s_) ∧ (w.heap.size ≤ s_) ∧ (gb202 ≠ s_) ∧ (s_ ≠ gb202) ∧ (gb204 ≠ s_) ∧ (s_ ≠ gb204) ∧ (gb213 ≠ s_) ∧ (s_ ≠ gb213) ∧ (Below w.heap.size w w')) ?_ ?_
           rotate_left
           ·intro hCont
            refine two_ (i := 7) (j := 11) (Ni := some 44) (Nj := some 10) m27_ m28_ rfl rfl rfl rfl (two_of HT_.out (by kernel_rfl)) (by decide) (by decide) (fun K hK => ?_) (fun K hK => ?_)
            ·skip
             refine goes_ Try.func13 (by kernel_rfl) rfl #[.agg #[.bool t206, .int .i64 t207, .int .i64 t208, .int .i64 t209, .int .i64 t210, .int .i64 t211], .int .i64 (wrap64 (-(wrap64 (rd l1 x7_1))))] (by rfl) rfl rfl (by (try simp only [List.map_toArray, List.map_cons, List.map_nil]); first | done | rfl | (simp only [List.length_drop, List.length_take]; rfl)) ?_
             with_reducible refine (access_Step.calls t206 t207 t208 t209 t210 t211 (wrap64 (-(wrap64 (rd l1 x7_1)))) t215 t216 t217 t218 t219 t220 false _ A17.out).mono ?_
             rintro e w97 ⟨rfl, hb⟩
             refine ⟨_, rfl, ?_⟩
             have n0_ := q1_ BK202 hb
             have n1_ := q1_ BK204 hb
             have n2_ := q1_ BK213 hb
             have n3_ := q2_ HB hb
             clear BK202
             clear BK204
             clear BK213
             clear HB
             have BK202 := n0_
             have BK204 := n1_
             have BK213 := n2_
             have HB := n3_
             clear n0_ n1_ n2_ n3_
             (try clear hb)
             (try clear hb2)
             (try clear hk)
             (try clear hi)
             refine hK.out _ _ ⟨q7_ BK213 0 rfl, q7_ BK213 1 rfl, q7_ BK213 2 rfl, q7_ BK213 3 rfl, q7_ BK213 4 rfl, q7_ BK213 5 rfl, ((HB.out.cell (World.block_lt_of_cell? w _ hw214_0)).trans hw214_0)⟩ (fun hHeld => ?_)
             clear hK K
             refine norm_ (a' := ?_) ?_ ?_
             rotate_left
             ·show Act.put _ (some 44) _ = _
              simp only [Act.put, q4_, q5_, q6_, i64_w, i32_w]
              rfl
             refine pure_ (i := 8) (N := some 36) (v := ?_) (a' := ?_) m29_ rfl rfl (any_of HT_.out (by kernel_rfl)) (fun _ _ _ h => h) (Or.inl ⟨by rfl, ?_⟩) ?_ ?_
             rotate_left
             ·intro w'
              go_simp
              with_reducible rfl
             rotate_left
             ·simp only [Act.put, q4_, q5_, q6_, i64_w, i32_w]
              rfl
             refine pure_ (i := 9) (N := some 45) (v := ?_) (a' := ?_) m30_ rfl rfl (any_of HT_.out (by kernel_rfl)) (fun _ _ _ h => h) (Or.inl ⟨by rfl, ?_⟩) ?_ ?_
             rotate_left
             ·intro w'
              go_simp
              with_reducible rfl
             rotate_left
             ·simp only [Act.put, q4_, q5_, q6_, i64_w, i32_w]
              rfl
             refine pure_ (i := 10) (N := some 46) (v := ?_) (a' := ?_) m31_ rfl rfl (any_of HT_.out (by kernel_rfl)) (fun _ _ _ h => h) (Or.inl ⟨by rfl, ?_⟩) ?_ ?_
             rotate_left
             ·intro w'
              go_simp
              with_reducible rfl
             rotate_left
             ·simp only [Act.put, q4_, q5_, q6_, i64_w, i32_w]
              rfl
             refine one_ (i := 11) (N := some 10) m26_ rfl rfl (one_of HT_.out (by kernel_rfl)) (by decide) (fun K hK => ?_)
             refine box_step ?hg (N := 10) ?hd (cs := #[.bool false, .int .i64 0, .int .i64 0, .int .i64 0, .int .i64 0, .int .i64 0]) (t := 23) ?hr ?_; (case hd => rfl); (case hg => rfl); (case hr => first | (go_simp; done) | (go_simp; rfl))
             intro gb222 hg w98 hbox hb
             have n0_ := q1_ BK202 hb
             have n1_ := q1_ BK204 hb
             have n2_ := q1_ BK213 hb
             have n3_ := q2_ HB hb
             have n4_ := Aside0.mk (hbox)
             have n5_ := Aside0.mk ((by rw [hg]; exact (below_size (by repeat (first | (with_reducible first | exact HB.out | apply below_alloc | apply pw_below_drewN | apply below_drew1 | refine below_set ?_ GE202.out | refine below_set ?_ GE204.out | refine below_set ?_ GE213.out) | exact HB.out))) : w.heap.size ≤ gb222))
             have n6_ := Aside0.mk ((by rw [hg]; exact (below_size (by repeat (first | (with_reducible first | exact HB.out | apply below_alloc | apply pw_below_drewN | apply below_drew1 | refine below_set ?_ GE202.out | refine below_set ?_ GE204.out | refine below_set ?_ GE213.out) | exact HB.out))) : w.heap.size ≤ gb222))
             have n7_ := Aside0.mk ((by rw [hg]; exact Nat.ne_of_lt (blk_lt (g := gb202) (o := .cells #[.bool a0_0, .int .i64 a0_1, .int .i64 a0_2, .int .i64 a0_3, .int .i64 a0_4, .int .i64 a0_5] 23 (0, 0)) (q3_ BK202).out) : gb202 ≠ gb222))
             have n8_ := Aside0.mk ((by rw [hg]; exact Nat.ne_of_gt (blk_lt (g := gb202) (o := .cells #[.bool a0_0, .int .i64 a0_1, .int .i64 a0_2, .int .i64 a0_3, .int .i64 a0_4, .int .i64 a0_5] 23 (0, 0)) (q3_ BK202).out) : gb222 ≠ gb202))
             have n9_ := Aside0.mk ((by rw [hg]; exact Nat.ne_of_lt (blk_lt (g := gb204) (o := .cells #[.bool x205000_1, .int .i64 x205001_1, .int .i64 x205002_1, .int .i64 x205003_1, .int .i64 x205004_1, .int .i64 x205005_1] 23 (0, 0)) (q3_ BK204).out) : gb204 ≠ gb222))
             have n10_ := Aside0.mk ((by rw [hg]; exact Nat.ne_of_gt (blk_lt (g := gb204) (o := .cells #[.bool x205000_1, .int .i64 x205001_1, .int .i64 x205002_1, .int .i64 x205003_1, .int .i64 x205004_1, .int .i64 x205005_1] 23 (0, 0)) (q3_ BK204).out) : gb222 ≠ gb204))
             have n11_ := Aside0.mk ((by rw [hg]; exact Nat.ne_of_lt (blk_lt (g := gb213) (o := .cells #[.bool t206, .int .i64 t207, .int .i64 t208, .int .i64 t209, .int .i64 t210, .int .i64 t211] 23 (0, 0)) (q3_ BK213).out) : gb213 ≠ gb222))
             have n12_ := Aside0.mk ((by rw [hg]; exact Nat.ne_of_gt (blk_lt (g := gb213) (o := .cells #[.bool t206, .int .i64 t207, .int .i64 t208, .int .i64 t209, .int .i64 t210, .int .i64 t211] 23 (0, 0)) (q3_ BK213).out) : gb222 ≠ gb213))
             clear BK202
             clear BK204
             clear BK213
             clear HB
             have BK202 := n0_
             have BK204 := n1_
             have BK213 := n2_
             have HB := n3_
             have BK222 := n4_
             have GW222 := n5_
             have GE222 := n6_
             have NB202_222 := n7_
             have NB222_202 := n8_
             have NB204_222 := n9_
             have NB222_204 := n10_
             have NB213_222 := n11_
             have NB222_213 := n12_
             clear n0_ n1_ n2_ n3_ n4_ n5_ n6_ n7_ n8_ n9_ n10_ n11_ n12_
             clear hb hbox hg
             refine hK.out _ _ ⟨q7_ BK213 0 rfl, q7_ BK213 1 rfl, q7_ BK213 2 rfl, q7_ BK213 3 rfl, q7_ BK213 4 rfl, q7_ BK213 5 rfl, ((HB.out.cell (World.block_lt_of_cell? w _ hw214_0)).trans hw214_0)⟩ (fun hHeld => ?_)
             clear hK K
             refine norm_ (a' := ?_) ?_ ?_
             rotate_left
             ·show Act.put _ (some 10) _ = _
              simp only [Act.put, q4_, q5_, q6_, i64_w, i32_w]
              rfl
             exact norm_ (by simp only [putAll, Act.put, q4_, q5_, q6_]) (hCont (gb222) _ ⟨hHeld, (q3_ BK202).out, (q3_ BK204).out, (q3_ BK213).out, (q3_ BK222).out, GW222.out, GE222.out, NB202_222.out, NB222_202.out, NB204_222.out, NB222_204.out, NB213_222.out, NB222_213.out, (by repeat (first | (with_reducible first | exact HB.out | apply below_alloc | apply pw_below_drewN | apply below_drew1 | refine below_set ?_ GE202.out | refine below_set ?_ GE204.out | refine below_set ?_ GE213.out | refine below_set ?_ GE222.out) | exact HB.out))⟩)
            ·skip
             refine box_step ?hg (N := 10) ?hd (cs := #[.bool false, .int .i64 0, .int .i64 0, .int .i64 0, .int .i64 0, .int .i64 0]) (t := 23) ?hr ?_; (case hd => rfl); (case hg => rfl); (case hr => first | (go_simp; done) | (go_simp; rfl))
             intro gb222 hg w97 hbox hb
             have n0_ := q1_ BK202 hb
             have n1_ := q1_ BK204 hb
             have n2_ := q1_ BK213 hb
             have n3_ := q2_ HB hb
             have n4_ := Aside0.mk (hbox)
             have n5_ := Aside0.mk ((by rw [hg]; exact (below_size (by repeat (first | (with_reducible first | exact HB.out | apply below_alloc | apply pw_below_drewN | apply below_drew1 | refine below_set ?_ GE202.out | refine below_set ?_ GE204.out | refine below_set ?_ GE213.out) | exact HB.out))) : w.heap.size ≤ gb222))
             have n6_ := Aside0.mk ((by rw [hg]; exact (below_size (by repeat (first | (with_reducible first | exact HB.out | apply below_alloc | apply pw_below_drewN | apply below_drew1 | refine below_set ?_ GE202.out | refine below_set ?_ GE204.out | refine below_set ?_ GE213.out) | exact HB.out))) : w.heap.size ≤ gb222))
             have n7_ := Aside0.mk ((by rw [hg]; exact Nat.ne_of_lt (blk_lt (g := gb202) (o := .cells #[.bool a0_0, .int .i64 a0_1, .int .i64 a0_2, .int .i64 a0_3, .int .i64 a0_4, .int .i64 a0_5] 23 (0, 0)) (q3_ BK202).out) : gb202 ≠ gb222))
             have n8_ := Aside0.mk ((by rw [hg]; exact Nat.ne_of_gt (blk_lt (g := gb202) (o := .cells #[.bool a0_0, .int .i64 a0_1, .int .i64 a0_2, .int .i64 a0_3, .int .i64 a0_4, .int .i64 a0_5] 23 (0, 0)) (q3_ BK202).out) : gb222 ≠ gb202))
             have n9_ := Aside0.mk ((by rw [hg]; exact Nat.ne_of_lt (blk_lt (g := gb204) (o := .cells #[.bool x205000_1, .int .i64 x205001_1, .int .i64 x205002_1, .int .i64 x205003_1, .int .i64 x205004_1, .int .i64 x205005_1] 23 (0, 0)) (q3_ BK204).out) : gb204 ≠ gb222))
             have n10_ := Aside0.mk ((by rw [hg]; exact Nat.ne_of_gt (blk_lt (g := gb204) (o := .cells #[.bool x205000_1, .int .i64 x205001_1, .int .i64 x205002_1, .int .i64 x205003_1, .int .i64 x205004_1, .int .i64 x205005_1] 23 (0, 0)) (q3_ BK204).out) : gb222 ≠ gb204))
             have n11_ := Aside0.mk ((by rw [hg]; exact Nat.ne_of_lt (blk_lt (g := gb213) (o := .cells #[.bool t206, .int .i64 t207, .int .i64 t208, .int .i64 t209, .int .i64 t210, .int .i64 t211] 23 (0, 0)) (q3_ BK213).out) : gb213 ≠ gb222))
             have n12_ := Aside0.mk ((by rw [hg]; exact Nat.ne_of_gt (blk_lt (g := gb213) (o := .cells #[.bool t206, .int .i64 t207, .int .i64 t208, .int .i64 t209, .int .i64 t210, .int .i64 t211] 23 (0, 0)) (q3_ BK213).out) : gb222 ≠ gb213))
             clear BK202
             clear BK204
             clear BK213
             clear HB
             have BK202 := n0_
             have BK204 := n1_
             have BK213 := n2_
             have HB := n3_
             have BK222 := n4_
             have GW222 := n5_
             have GE222 := n6_
             have NB202_222 := n7_
             have NB222_202 := n8_
             have NB204_222 := n9_
             have NB222_204 := n10_
             have NB213_222 := n11_
             have NB222_213 := n12_
             clear n0_ n1_ n2_ n3_ n4_ n5_ n6_ n7_ n8_ n9_ n10_ n11_ n12_
             clear hb hbox hg
             refine hK.out _ _ ⟨q7_ BK213 0 rfl, q7_ BK213 1 rfl, q7_ BK213 2 rfl, q7_ BK213 3 rfl, q7_ BK213 4 rfl, q7_ BK213 5 rfl, ((HB.out.cell (World.block_lt_of_cell? w _ hw214_0)).trans hw214_0)⟩ (fun hHeld => ?_)
             clear hK K
             refine norm_ (a' := ?_) ?_ ?_
             rotate_left
             ·show Act.put _ (some 10) _ = _
              simp only [Act.put, q4_, q5_, q6_, i64_w, i32_w]
              rfl
             refine one_ (i := 7) (N := some 44) m32_ rfl rfl (one_of HT_.out (by kernel_rfl)) (by decide) (fun K hK => ?_)
             refine goes_ Try.func13 (by kernel_rfl) rfl #[.agg #[.bool t206, .int .i64 t207, .int .i64 t208, .int .i64 t209, .int .i64 t210, .int .i64 t211], .int .i64 (wrap64 (-(wrap64 (rd l1 x7_1))))] (by rfl) rfl rfl (by (try simp only [List.map_toArray, List.map_cons, List.map_nil]); first | done | rfl | (simp only [List.length_drop, List.length_take]; rfl)) ?_
             with_reducible refine (access_Step.calls t206 t207 t208 t209 t210 t211 (wrap64 (-(wrap64 (rd l1 x7_1)))) t215 t216 t217 t218 t219 t220 false _ A17.out).mono ?_
             rintro e w98 ⟨rfl, hb⟩
             refine ⟨_, rfl, ?_⟩
             have n0_ := q1_ BK202 hb
             have n1_ := q1_ BK204 hb
             have n2_ := q1_ BK213 hb
             have n3_ := q1_ BK222 hb
             have n4_ := q2_ HB hb
             clear BK202
             clear BK204
             clear BK213
             clear BK222
             clear HB
             have BK202 := n0_
             have BK204 := n1_
             have BK213 := n2_
             have BK222 := n3_
             have HB := n4_
             clear n0_ n1_ n2_ n3_ n4_
             (try clear hb)
             (try clear hb2)
             (try clear hk)
             (try clear hi)
             refine hK.out _ _ ⟨q7_ BK213 0 rfl, q7_ BK213 1 rfl, q7_ BK213 2 rfl, q7_ BK213 3 rfl, q7_ BK213 4 rfl, q7_ BK213 5 rfl, ((HB.out.cell (World.block_lt_of_cell? w _ hw214_0)).trans hw214_0)⟩ (fun hHeld => ?_)
             clear hK K
             refine norm_ (a' := ?_) ?_ ?_
             rotate_left
             ·show Act.put _ (some 44) _ = _
              simp only [Act.put, q4_, q5_, q6_, i64_w, i32_w]
              rfl
             refine pure_ (i := 8) (N := some 36) (v := ?_) (a' := ?_) m33_ rfl rfl (any_of HT_.out (by kernel_rfl)) (fun _ _ _ h => h) (Or.inl ⟨by rfl, ?_⟩) ?_ ?_
             rotate_left
             ·intro w'
              go_simp
              with_reducible rfl
             rotate_left
             ·simp only [Act.put, q4_, q5_, q6_, i64_w, i32_w]
              rfl
             refine pure_ (i := 9) (N := some 45) (v := ?_) (a' := ?_) m34_ rfl rfl (any_of HT_.out (by kernel_rfl)) (fun _ _ _ h => h) (Or.inl ⟨by rfl, ?_⟩) ?_ ?_
             rotate_left
             ·intro w'
              go_simp
              with_reducible rfl
             rotate_left
             ·simp only [Act.put, q4_, q5_, q6_, i64_w, i32_w]
              rfl
             refine pure_ (i := 10) (N := some 46) (v := ?_) (a' := ?_) m26_ rfl rfl (any_of HT_.out (by kernel_rfl)) (fun _ _ _ h => h) (Or.inl ⟨by rfl, ?_⟩) ?_ ?_
             rotate_left
             ·intro w'
              go_simp
              with_reducible rfl
             rotate_left
             ·simp only [Act.put, q4_, q5_, q6_, i64_w, i32_w]
              rfl
             exact norm_ (by simp only [putAll, Act.put, q4_, q5_, q6_]) (hCont (gb222) _ ⟨hHeld, (q3_ BK202).out, (q3_ BK204).out, (q3_ BK213).out, (q3_ BK222).out, GW222.out, GE222.out, NB202_222.out, NB222_202.out, NB204_222.out, NB222_204.out, NB213_222.out, NB222_213.out, (by repeat (first | (with_reducible first | exact HB.out | apply below_alloc | apply pw_below_drewN | apply below_drew1 | refine below_set ?_ GE202.out | refine below_set ?_ GE204.out | refine below_set ?_ GE213.out | refine below_set ?_ GE222.out) | exact HB.out))⟩)
           rintro gb222 w99 ⟨hS_, h0_, h1_, h2_, h3_, h4_, h5_, h6_, h7_, h8_, h9_, h10_, h11_, h12_⟩
           have n0_ : Aside0 (w99.heap[gb202]? = some (.cells #[.bool a0_0, .int .i64 a0_1, .int .i64 a0_2, .int .i64 a0_3, .int .i64 a0_4, .int .i64 a0_5] 23 (0, 0))) := ⟨h0_⟩
           have n1_ : Aside0 (w99.heap[gb204]? = some (.cells #[.bool x205000_1, .int .i64 x205001_1, .int .i64 x205002_1, .int .i64 x205003_1, .int .i64 x205004_1, .int .i64 x205005_1] 23 (0, 0))) := ⟨h1_⟩
           have n2_ : Aside0 (w99.heap[gb213]? = some (.cells #[.bool t206, .int .i64 t207, .int .i64 t208, .int .i64 t209, .int .i64 t210, .int .i64 t211] 23 (0, 0))) := ⟨h2_⟩
           have n3_ : Aside0 (w99.heap[gb222]? = some (.cells #[.bool false, .int .i64 0, .int .i64 0, .int .i64 0, .int .i64 0, .int .i64 0] 23 (0, 0))) := ⟨h3_⟩
           have n4_ : Aside0 (w.heap.size ≤ gb222) := ⟨h4_⟩
           have n5_ : Aside0 (w.heap.size ≤ gb222) := ⟨h5_⟩
           have n6_ : Aside0 (gb202 ≠ gb222) := ⟨h6_⟩
           have n7_ : Aside0 (gb222 ≠ gb202) := ⟨h7_⟩
           have n8_ : Aside0 (gb204 ≠ gb222) := ⟨h8_⟩
           have n9_ : Aside0 (gb222 ≠ gb204) := ⟨h9_⟩
           have n10_ : Aside0 (gb213 ≠ gb222) := ⟨h10_⟩
           have n11_ : Aside0 (gb222 ≠ gb213) := ⟨h11_⟩
           have n12_ : Aside0 (Below w.heap.size w w99) := ⟨h12_⟩
           clear BK202
           clear BK204
           clear BK213
           clear HB
           clear h0_ h1_ h2_ h3_ h4_ h5_ h6_ h7_ h8_ h9_ h10_ h11_ h12_
           have BK202 := n0_
           have BK204 := n1_
           have BK213 := n2_
           have BK222 := n3_
           have GW222 := n4_
           have GE222 := n5_
           have NB202_222 := n6_
           have NB222_202 := n7_
           have NB204_222 := n8_
           have NB222_204 := n9_
           have NB213_222 := n10_
           have NB222_213 := n11_
           have HB := n12_
           clear n0_ n1_ n2_ n3_ n4_ n5_ n6_ n7_ n8_ n9_ n10_ n11_ n12_
           have hHeld : w99.cell? ⟨gb213, 0, none⟩ = some (.bool t206) ∧ w99.cell? ⟨gb213, 1, none⟩ = some (.int .i64 t207) ∧ w99.cell? ⟨gb213, 2, none⟩ = some (.int .i64 t208) ∧ w99.cell? ⟨gb213, 3, none⟩ = some (.int .i64 t209) ∧ w99.cell? ⟨gb213, 4, none⟩ = some (.int .i64 t210) ∧ w99.cell? ⟨gb213, 5, none⟩ = some (.int .i64 t211) ∧ w99.cell? (ad205.add (x7_1).toNat) = some (.int .i16 (rd l1 x7_1)) := hS_
           refine norm_ (a' := ?_) ?_ ?_
           rotate_left
           ·simp only [putAll, Act.put, q4_, q5_, q6_]
            rfl
           refine one_ (i := 12) (N := none) m35_ rfl rfl (one_of HT_.out (by kernel_rfl)) (by decide) (fun K hK => ?_)
           have hs100 : w99.cell? ⟨gb222, 0, none⟩ = some (.bool false) := q7_ BK222 0 rfl
           have hfs100 := blk_frozen BK222.out 0
           have hns100_0 := NB202_222.out
           have hns100_1 := NB204_222.out
           have hns100_2 := NB213_222.out
           have hms100_0 := NB222_202.out
           have hms100_1 := NB222_204.out
           have hms100_2 := NB222_213.out
           have hs101 : w99.cell? ⟨gb222, 1, none⟩ = some (.int .i64 0) := q7_ BK222 1 rfl
           have hfs101 := blk_frozen BK222.out 1
           have hns101_0 := NB202_222.out
           have hns101_1 := NB204_222.out
           have hns101_2 := NB213_222.out
           have hms101_0 := NB222_202.out
           have hms101_1 := NB222_204.out
           have hms101_2 := NB222_213.out
           have hs102 : w99.cell? ⟨gb222, 2, none⟩ = some (.int .i64 0) := q7_ BK222 2 rfl
           have hfs102 := blk_frozen BK222.out 2
           have hns102_0 := NB202_222.out
           have hns102_1 := NB204_222.out
           have hns102_2 := NB213_222.out
           have hms102_0 := NB222_202.out
           have hms102_1 := NB222_204.out
           have hms102_2 := NB222_213.out
           have hs103 : w99.cell? ⟨gb222, 3, none⟩ = some (.int .i64 0) := q7_ BK222 3 rfl
           have hfs103 := blk_frozen BK222.out 3
           have hns103_0 := NB202_222.out
           have hns103_1 := NB204_222.out
           have hns103_2 := NB213_222.out
           have hms103_0 := NB222_202.out
           have hms103_1 := NB222_204.out
           have hms103_2 := NB222_213.out
           have hs104 : w99.cell? ⟨gb222, 4, none⟩ = some (.int .i64 0) := q7_ BK222 4 rfl
           have hfs104 := blk_frozen BK222.out 4
           have hns104_0 := NB202_222.out
           have hns104_1 := NB204_222.out
           have hns104_2 := NB213_222.out
           have hms104_0 := NB222_202.out
           have hms104_1 := NB222_204.out
           have hms104_2 := NB222_213.out
           have hs105 : w99.cell? ⟨gb222, 5, none⟩ = some (.int .i64 0) := q7_ BK222 5 rfl
           have hfs105 := blk_frozen BK222.out 5
           have hns105_0 := NB202_222.out
           have hns105_1 := NB204_222.out
           have hns105_2 := NB213_222.out
           have hms105_0 := NB222_202.out
           have hms105_1 := NB222_204.out
           have hms105_2 := NB222_213.out
           refine skip_ (w1 := ?_) (by rfl) rfl ?_ ?_
           rotate_left
           ·go_simp
            rfl
           refine hK.out _ _ ⟨((q8_ NB213_222).trans (((q8_ NB213_222).trans (((q8_ NB213_222).trans (((q8_ NB213_222).trans (((q8_ NB213_222).trans (((q8_ NB213_222).trans (hHeld.1)))))))))))), ((q8_ NB213_222).trans (((q8_ NB213_222).trans (((q8_ NB213_222).trans (((q8_ NB213_222).trans (((q8_ NB213_222).trans (((q8_ NB213_222).trans (hHeld.2.1)))))))))))), ((q8_ NB213_222).trans (((q8_ NB213_222).trans (((q8_ NB213_222).trans (((q8_ NB213_222).trans (((q8_ NB213_222).trans (((q8_ NB213_222).trans (hHeld.2.2.1)))))))))))), ((q8_ NB213_222).trans (((q8_ NB213_222).trans (((q8_ NB213_222).trans (((q8_ NB213_222).trans (((q8_ NB213_222).trans (((q8_ NB213_222).trans (hHeld.2.2.2.1)))))))))))), ((q8_ NB213_222).trans (((q8_ NB213_222).trans (((q8_ NB213_222).trans (((q8_ NB213_222).trans (((q8_ NB213_222).trans (((q8_ NB213_222).trans (hHeld.2.2.2.2.1)))))))))))), ((q8_ NB213_222).trans (((q8_ NB213_222).trans (((q8_ NB213_222).trans (((q8_ NB213_222).trans (((q8_ NB213_222).trans (((q8_ NB213_222).trans (hHeld.2.2.2.2.2.1)))))))))))), ((cell_far (p := ⟨gb222, _, none⟩) (by first | exact Nat.ne_of_lt (Nat.lt_of_lt_of_le (by have := World.block_lt_of_cell? _ _ hw214_0; first | rwa [add_block] at this | exact this) GW222.out) | (rw [add_block]; exact Nat.ne_of_lt (Nat.lt_of_lt_of_le (by have := World.block_lt_of_cell? _ _ hw214_0; first | rwa [add_block] at this | exact this) GW222.out)) | (show (Addr.add _ _).block ≠ _; rw [add_block]; exact Nat.ne_of_lt (Nat.lt_of_lt_of_le (by have := World.block_lt_of_cell? _ _ hw214_0; first | rwa [add_block] at this | exact this) GW222.out)) | (dsimp only; exact Nat.ne_of_lt (Nat.lt_of_lt_of_le (by have := World.block_lt_of_cell? _ _ hw214_0; first | rwa [add_block] at this | exact this) GW222.out))) _).trans (((cell_far (p := ⟨gb222, _, none⟩) (by first | exact Nat.ne_of_lt (Nat.lt_of_lt_of_le (by have := World.block_lt_of_cell? _ _ hw214_0; first | rwa [add_block] at this | exact this) GW222.out) | (rw [add_block]; exact Nat.ne_of_lt (Nat.lt_of_lt_of_le (by have := World.block_lt_of_cell? _ _ hw214_0; first | rwa [add_block] at this | exact this) GW222.out)) | (show (Addr.add _ _).block ≠ _; rw [add_block]; exact Nat.ne_of_lt (Nat.lt_of_lt_of_le (by have := World.block_lt_of_cell? _ _ hw214_0; first | rwa [add_block] at this | exact this) GW222.out)) | (dsimp only; exact Nat.ne_of_lt (Nat.lt_of_lt_of_le (by have := World.block_lt_of_cell? _ _ hw214_0; first | rwa [add_block] at this | exact this) GW222.out))) _).trans (((cell_far (p := ⟨gb222, _, none⟩) (by first | exact Nat.ne_of_lt (Nat.lt_of_lt_of_le (by have := World.block_lt_of_cell? _ _ hw214_0; first | rwa [add_block] at this | exact this) GW222.out) | (rw [add_block]; exact Nat.ne_of_lt (Nat.lt_of_lt_of_le (by have := World.block_lt_of_cell? _ _ hw214_0; first | rwa [add_block] at this | exact this) GW222.out)) | (show (Addr.add _ _).block ≠ _; rw [add_block]; exact Nat.ne_of_lt (Nat.lt_of_lt_of_le (by have := World.block_lt_of_cell? _ _ hw214_0; first | rwa [add_block] at this | exact this) GW222.out)) | (dsimp only; exact Nat.ne_of_lt (Nat.lt_of_lt_of_le (by have := World.block_lt_of_cell? _ _ hw214_0; first | rwa [add_block] at this | exact this) GW222.out))) _).trans (((cell_far (p := ⟨gb222, _, none⟩) (by first | exact Nat.ne_of_lt (Nat.lt_of_lt_of_le (by have := World.block_lt_of_cell? _ _ hw214_0; first | rwa [add_block] at this | exact this) GW222.out) | (rw [add_block]; exact Nat.ne_of_lt (Nat.lt_of_lt_of_le (by have := World.block_lt_of_cell? _ _ hw214_0; first | rwa [add_block] at this | exact this) GW222.out)) | (show (Addr.add _ _).block ≠ _; rw [add_block]; exact Nat.ne_of_lt (Nat.lt_of_lt_of_le (by have := World.block_lt_of_cell? _ _ hw214_0; first | rwa [add_block] at this | exact this) GW222.out)) | (dsimp only; exact Nat.ne_of_lt (Nat.lt_of_lt_of_le (by have := World.block_lt_of_cell? _ _ hw214_0; first | rwa [add_block] at this | exact this) GW222.out))) _).trans (((cell_far (p := ⟨gb222, _, none⟩) (by first | exact Nat.ne_of_lt (Nat.lt_of_lt_of_le (by have := World.block_lt_of_cell? _ _ hw214_0; first | rwa [add_block] at this | exact this) GW222.out) | (rw [add_block]; exact Nat.ne_of_lt (Nat.lt_of_lt_of_le (by have := World.block_lt_of_cell? _ _ hw214_0; first | rwa [add_block] at this | exact this) GW222.out)) | (show (Addr.add _ _).block ≠ _; rw [add_block]; exact Nat.ne_of_lt (Nat.lt_of_lt_of_le (by have := World.block_lt_of_cell? _ _ hw214_0; first | rwa [add_block] at this | exact this) GW222.out)) | (dsimp only; exact Nat.ne_of_lt (Nat.lt_of_lt_of_le (by have := World.block_lt_of_cell? _ _ hw214_0; first | rwa [add_block] at this | exact this) GW222.out))) _).trans (((cell_far (p := ⟨gb222, _, none⟩) (by first | exact Nat.ne_of_lt (Nat.lt_of_lt_of_le (by have := World.block_lt_of_cell? _ _ hw214_0; first | rwa [add_block] at this | exact this) GW222.out) | (rw [add_block]; exact Nat.ne_of_lt (Nat.lt_of_lt_of_le (by have := World.block_lt_of_cell? _ _ hw214_0; first | rwa [add_block] at this | exact this) GW222.out)) | (show (Addr.add _ _).block ≠ _; rw [add_block]; exact Nat.ne_of_lt (Nat.lt_of_lt_of_le (by have := World.block_lt_of_cell? _ _ hw214_0; first | rwa [add_block] at this | exact this) GW222.out)) | (dsimp only; exact Nat.ne_of_lt (Nat.lt_of_lt_of_le (by have := World.block_lt_of_cell? _ _ hw214_0; first | rwa [add_block] at this | exact this) GW222.out))) _).trans (hHeld.2.2.2.2.2.2))))))))))))⟩ (fun hHeld => ?_)
           clear hK K
           refine pure_ (i := 13) (N := some 11) (v := ?_) (a' := ?_) m36_ rfl rfl (any_of HT_.out (by kernel_rfl)) (fun _ _ _ h => h) (Or.inl ⟨by rfl, ?_⟩) ?_ ?_
           rotate_left
           ·intro w'
            go_simp
            with_reducible rfl
           rotate_left
           ·simp only [Act.put, q4_, q5_, q6_, i64_w, i32_w]
            rfl
           refine done_ (done_of HT_.out (by kernel_rfl)) ?_
           have hnb106 := NB213_202.out
           have hnc106 := NB202_213.out
           have hnb107 := NB213_204.out
           have hnc107 := NB204_213.out
           have hnb108 := NB213_222.out
           have hnc108 := NB222_213.out
           have hcz109_0 : w99.cell? ⟨gb213, 0, none⟩ = some (.bool t206) := q7_ BK213 0 rfl
           have hcz109_1 : w99.cell? ⟨gb213, 1, none⟩ = some (.int .i64 t207) := q7_ BK213 1 rfl
           have hcz109_2 : w99.cell? ⟨gb213, 2, none⟩ = some (.int .i64 t208) := q7_ BK213 2 rfl
           have hcz109_3 : w99.cell? ⟨gb213, 3, none⟩ = some (.int .i64 t209) := q7_ BK213 3 rfl
           have hcz109_4 : w99.cell? ⟨gb213, 4, none⟩ = some (.int .i64 t210) := q7_ BK213 4 rfl
           have hcz109_5 : w99.cell? ⟨gb213, 5, none⟩ = some (.int .i64 t211) := q7_ BK213 5 rfl
           have hfz109_0 := blk_frozen BK213.out 0
           have hfz109_1 := blk_frozen BK213.out 1
           have hfz109_2 := blk_frozen BK213.out 2
           have hfz109_3 := blk_frozen BK213.out 3
           have hfz109_4 := blk_frozen BK213.out 4
           have hfz109_5 := blk_frozen BK213.out 5
           have hnb110 := NB202_204.out
           have hnc110 := NB204_202.out
           have hnb111 := NB202_222.out
           have hnc111 := NB222_202.out
           have hcz112_0 : w99.cell? ⟨gb202, 0, none⟩ = some (.bool a0_0) := q7_ BK202 0 rfl
           have hcz112_1 : w99.cell? ⟨gb202, 1, none⟩ = some (.int .i64 a0_1) := q7_ BK202 1 rfl
           have hcz112_2 : w99.cell? ⟨gb202, 2, none⟩ = some (.int .i64 a0_2) := q7_ BK202 2 rfl
           have hcz112_3 : w99.cell? ⟨gb202, 3, none⟩ = some (.int .i64 a0_3) := q7_ BK202 3 rfl
           have hcz112_4 : w99.cell? ⟨gb202, 4, none⟩ = some (.int .i64 a0_4) := q7_ BK202 4 rfl
           have hcz112_5 : w99.cell? ⟨gb202, 5, none⟩ = some (.int .i64 a0_5) := q7_ BK202 5 rfl
           have hfz112_0 := blk_frozen BK202.out 0
           have hfz112_1 := blk_frozen BK202.out 1
           have hfz112_2 := blk_frozen BK202.out 2
           have hfz112_3 := blk_frozen BK202.out 3
           have hfz112_4 := blk_frozen BK202.out 4
           have hfz112_5 := blk_frozen BK202.out 5
           have hnb113 := NB204_222.out
           have hnc113 := NB222_204.out
           have hcz114_0 : w99.cell? ⟨gb204, 0, none⟩ = some (.bool x205000_1) := q7_ BK204 0 rfl
           have hcz114_1 : w99.cell? ⟨gb204, 1, none⟩ = some (.int .i64 x205001_1) := q7_ BK204 1 rfl
           have hcz114_2 : w99.cell? ⟨gb204, 2, none⟩ = some (.int .i64 x205002_1) := q7_ BK204 2 rfl
           have hcz114_3 : w99.cell? ⟨gb204, 3, none⟩ = some (.int .i64 x205003_1) := q7_ BK204 3 rfl
           have hcz114_4 : w99.cell? ⟨gb204, 4, none⟩ = some (.int .i64 x205004_1) := q7_ BK204 4 rfl
           have hcz114_5 : w99.cell? ⟨gb204, 5, none⟩ = some (.int .i64 x205005_1) := q7_ BK204 5 rfl
           have hfz114_0 := blk_frozen BK204.out 0
           have hfz114_1 := blk_frozen BK204.out 1
           have hfz114_2 := blk_frozen BK204.out 2
           have hfz114_3 := blk_frozen BK204.out 3
           have hfz114_4 := blk_frozen BK204.out 4
           have hfz114_5 := blk_frozen BK204.out 5
           try go_wp2
           go_roundg k1
           case measure => have := HK1.out; omega
           case rel => exact ⟨(wrap64 (x7_1 + 1)), (t206), (t207), (t208), (t209), (t210), (t211), (by first | rfl | (simp; done) | (simp [*]; done)), H', ⟨by have := HK1.out; omega⟩, ⟨by (with_reducible repeat (first | refine blk_drewN ?_ _ | refine blk_drew ?_ | refine blk_alloc ?_ _)); refine blk_far ?_ NB202_204.out _; (with_reducible repeat (first | refine blk_drewN ?_ _ | refine blk_drew ?_ | refine blk_alloc ?_ _)); refine blk_far ?_ NB202_204.out _; (with_reducible repeat (first | refine blk_drewN ?_ _ | refine blk_drew ?_ | refine blk_alloc ?_ _)); refine blk_far ?_ NB202_204.out _; (with_reducible repeat (first | refine blk_drewN ?_ _ | refine blk_drew ?_ | refine blk_alloc ?_ _)); refine blk_far ?_ NB202_204.out _; (with_reducible repeat (first | refine blk_drewN ?_ _ | refine blk_drew ?_ | refine blk_alloc ?_ _)); refine blk_far ?_ NB202_204.out _; (with_reducible repeat (first | refine blk_drewN ?_ _ | refine blk_drew ?_ | refine blk_alloc ?_ _)); refine blk_far ?_ NB202_204.out _; (with_reducible repeat (first | refine blk_drewN ?_ _ | refine blk_drew ?_ | refine blk_alloc ?_ _)); refine blk_far ?_ NB202_222.out _; (with_reducible repeat (first | refine blk_drewN ?_ _ | refine blk_drew ?_ | refine blk_alloc ?_ _)); refine blk_far ?_ NB202_222.out _; (with_reducible repeat (first | refine blk_drewN ?_ _ | refine blk_drew ?_ | refine blk_alloc ?_ _)); refine blk_far ?_ NB202_222.out _; (with_reducible repeat (first | refine blk_drewN ?_ _ | refine blk_drew ?_ | refine blk_alloc ?_ _)); refine blk_far ?_ NB202_222.out _; (with_reducible repeat (first | refine blk_drewN ?_ _ | refine blk_drew ?_ | refine blk_alloc ?_ _)); refine blk_far ?_ NB202_222.out _; (with_reducible repeat (first | refine blk_drewN ?_ _ | refine blk_drew ?_ | refine blk_alloc ?_ _)); refine blk_far ?_ NB202_222.out _; (with_reducible repeat (first | refine blk_drewN ?_ _ | refine blk_drew ?_ | refine blk_alloc ?_ _)); exact BK202.out⟩, ⟨by (with_reducible repeat (first | refine blk_drewN ?_ _ | refine blk_drew ?_ | refine blk_alloc ?_ _)); refine blk_put (cs := #[.bool t206, .int .i64 t207, .int .i64 t208, .int .i64 t209, .int .i64 t210, .int .i64 x205005_1]) ?_ 5 _ rfl; (with_reducible repeat (first | refine blk_drewN ?_ _ | refine blk_drew ?_ | refine blk_alloc ?_ _)); refine blk_put (cs := #[.bool t206, .int .i64 t207, .int .i64 t208, .int .i64 t209, .int .i64 x205004_1, .int .i64 x205005_1]) ?_ 4 _ rfl; (with_reducible repeat (first | refine blk_drewN ?_ _ | refine blk_drew ?_ | refine blk_alloc ?_ _)); refine blk_put (cs := #[.bool t206, .int .i64 t207, .int .i64 t208, .int .i64 x205003_1, .int .i64 x205004_1, .int .i64 x205005_1]) ?_ 3 _ rfl; (with_reducible repeat (first | refine blk_drewN ?_ _ | refine blk_drew ?_ | refine blk_alloc ?_ _)); refine blk_put (cs := #[.bool t206, .int .i64 t207, .int .i64 x205002_1, .int .i64 x205003_1, .int .i64 x205004_1, .int .i64 x205005_1]) ?_ 2 _ rfl; (with_reducible repeat (first | refine blk_drewN ?_ _ | refine blk_drew ?_ | refine blk_alloc ?_ _)); refine blk_put (cs := #[.bool t206, .int .i64 x205001_1, .int .i64 x205002_1, .int .i64 x205003_1, .int .i64 x205004_1, .int .i64 x205005_1]) ?_ 1 _ rfl; (with_reducible repeat (first | refine blk_drewN ?_ _ | refine blk_drew ?_ | refine blk_alloc ?_ _)); refine blk_put (cs := #[.bool x205000_1, .int .i64 x205001_1, .int .i64 x205002_1, .int .i64 x205003_1, .int .i64 x205004_1, .int .i64 x205005_1]) ?_ 0 _ rfl; (with_reducible repeat (first | refine blk_drewN ?_ _ | refine blk_drew ?_ | refine blk_alloc ?_ _)); refine blk_far ?_ NB204_222.out _; (with_reducible repeat (first | refine blk_drewN ?_ _ | refine blk_drew ?_ | refine blk_alloc ?_ _)); refine blk_far ?_ NB204_222.out _; (with_reducible repeat (first | refine blk_drewN ?_ _ | refine blk_drew ?_ | refine blk_alloc ?_ _)); refine blk_far ?_ NB204_222.out _; (with_reducible repeat (first | refine blk_drewN ?_ _ | refine blk_drew ?_ | refine blk_alloc ?_ _)); refine blk_far ?_ NB204_222.out _; (with_reducible repeat (first | refine blk_drewN ?_ _ | refine blk_drew ?_ | refine blk_alloc ?_ _)); refine blk_far ?_ NB204_222.out _; (with_reducible repeat (first | refine blk_drewN ?_ _ | refine blk_drew ?_ | refine blk_alloc ?_ _)); refine blk_far ?_ NB204_222.out _; (with_reducible repeat (first | refine blk_drewN ?_ _ | refine blk_drew ?_ | refine blk_alloc ?_ _)); exact BK204.out⟩, ⟨by repeat (first | (with_reducible first | exact HB.out | apply below_alloc | apply pw_below_drewN | apply below_drew1 | refine below_set ?_ GE202.out | refine below_set ?_ GE204.out | refine below_set ?_ GE213.out | refine below_set ?_ GE222.out) | exact HB.out)⟩⟩
      ·replace c16 := Bool.eq_false_iff.mpr c16
       subst c16
       have H1 : (seizinlaw05_AccessSteps.l0 k1 l1 t203 (wrap64 (x7_1 + 1)) a0_0 a0_1 a0_2 a0_3 a0_4 a0_5 x205000_1 x205001_1 x205002_1 x205003_1 x205004_1 x205005_1) = some r := by rw [if_neg (show ¬ (false = true) by decide)] at H; exact H
       clear H
       have H := H1
       clear H1
       have H' := Aside0.mk H
       clear H
       try go_wp2
       have n0_ := Aside0.mk (blk_drew BK202.out)
       have n1_ := Aside0.mk (blk_drew BK204.out)
       have n2_ := Aside0.mk (below_drew1 HB.out)
       clear BK202
       clear BK204
       clear HB
       have BK202 := n0_
       have BK204 := n1_
       have HB := n2_
       clear n0_ n1_ n2_
       have p205 : 0 ≤ (x7_1 : Int) := of_decide_eq_true (by first | (with_reducible assumption) | assumption)
       have q205 : x7_1 < (l1.length : Int) := of_decide_eq_true (by first | (with_reducible assumption) | assumption)
       obtain ⟨ad205, e205, hx205_0⟩ := Kd.at_int HR1.out x7_1 p205 q205
       have hw205_0 := hx205_0
       cases e205
       replace hx205_0 := (HB.out.cell (World.block_lt_of_cell? w _ hx205_0)).trans hx205_0
       replace p205 := eq_true p205
       replace q205 := eq_true q205
       refine start_ (n := 13) (S := fun w' => w'.cell? ⟨gb204, 0, none⟩ = some (.bool x205000_1) ∧ w'.cell? ⟨gb204, 1, none⟩ = some (.int .i64 x205001_1) ∧ w'.cell? ⟨gb204, 2, none⟩ = some (.int .i64 x205002_1) ∧ w'.cell? ⟨gb204, 3, none⟩ = some (.int .i64 x205003_1) ∧ w'.cell? ⟨gb204, 4, none⟩ = some (.int .i64 x205004_1) ∧ w'.cell? ⟨gb204, 5, none⟩ = some (.int .i64 x205005_1) ∧ w'.cell? (ad205.add (x7_1).toNat) = some (.int .i16 (rd l1 x7_1))) (ds := []) m0_ (by kernel_rfl) rfl rfl ⟨q7_ BK204 0 rfl, q7_ BK204 1 rfl, q7_ BK204 2 rfl, q7_ BK204 3 rfl, q7_ BK204 4 rfl, q7_ BK204 5 rfl, ((HB.out.cell (World.block_lt_of_cell? w _ hw205_0)).trans hw205_0)⟩ (fun hHeld => ?_); refine with_tabW seizinlaw05_AccessSteps.tab8 seizinlaw05_AccessSteps.bits8 (fun HT_ HW_ => ?_)
       generalize wr.drew = w115 at BK202 BK204 HB hx205_0 hHeld ⊢
       refine pure_ (i := 1) (N := some 26) (v := ?_) (a' := ?_) m1_ rfl rfl (any_of HT_.out (by kernel_rfl)) (fun _ _ _ h => h) (Or.inl ⟨by rfl, ?_⟩) ?_ ?_
       rotate_left
       ·intro w'
        go_simp
        with_reducible rfl
       rotate_left
       ·simp only [Act.put, q4_, q5_, q6_, i64_w, i32_w]
        rfl
       refine pure_ (i := 2) (N := some 27) (v := ?_) (a' := ?_) m2_ rfl rfl (any_of HT_.out (by kernel_rfl)) (fun _ _ _ h => h) (Or.inl ⟨by rfl, ?_⟩) ?_ ?_
       rotate_left
       ·intro w'
        go_simp
        with_reducible rfl
       rotate_left
       ·simp only [Act.put, q4_, q5_, q6_, i64_w, i32_w]
        rfl
       refine pure_ (i := 3) (N := some 28) (v := ?_) (a' := ?_) m3_ rfl rfl (any_of HT_.out (by kernel_rfl)) (fun _ _ _ h => h) (Or.inl ⟨by rfl, ?_⟩) ?_ ?_
       rotate_left
       ·intro w'
        go_simp
        with_reducible rfl
       rotate_left
       ·simp only [Act.put, q4_, q5_, q6_, i64_w, i32_w]
        rfl
       refine take_ (i := 0) (N := some 25) (v := ?_) (a' := ?_) m4_ rfl rfl (take_ofW HT_.out HW_.out (by kernel_rfl)) (fun _ _ _ h => h) (Or.inl ⟨by rfl, ?_⟩) hHeld ?_ ?_
       rotate_left
       ·rintro w' ⟨s0, s1, s2, s3, s4, s5, s6⟩
        go_simp
        with_reducible rfl
       rotate_left
       ·simp only [Act.put, q4_, q5_, q6_, i64_w, i32_w]
        rfl
       refine take_ (i := 4) (N := some 29) (v := ?_) (a' := ?_) m5_ rfl rfl (take_ofW HT_.out HW_.out (by kernel_rfl)) (fun _ _ _ h => h) (Or.inl ⟨by rfl, ?_⟩) hHeld ?_ ?_
       rotate_left
       ·rintro w' ⟨s0, s1, s2, s3, s4, s5, s6⟩
        go_simp
        with_reducible rfl
       rotate_left
       ·simp only [Act.put, q4_, q5_, q6_, i64_w, i32_w]
        rfl
       refine pure_ (i := 5) (N := some 30) (v := ?_) (a' := ?_) m6_ rfl rfl (any_of HT_.out (by kernel_rfl)) (fun _ _ _ h => h) (Or.inl ⟨by rfl, ?_⟩) ?_ ?_
       rotate_left
       ·intro w'
        go_simp
        with_reducible rfl
       rotate_left
       ·simp only [Act.put, q4_, q5_, q6_, i64_w, i32_w]
        rfl
       refine join_ (σ := Nat) 2 m7_ (fun s_ => [(31, .tuple #[.agg #[.bool t206, .int .i64 t207, .int .i64 t208, .int .i64 t209, .int .i64 t210, .int .i64 t211], .bool false]), (8, .pointer (some ⟨s_, 0, none⟩)), (24, .tuple #[.agg #[.bool t206, .int .i64 t207, .int .i64 t208, .int .i64 t209, .int .i64 t210, .int .i64 t211], .bool false]), (32, .agg #[.bool t206, .int .i64 t207, .int .i64 t208, .int .i64 t209, .int .i64 t210, .int .i64 t211]), (33, .bool false)]) (fun s_ w' => (w'.cell? ⟨gb204, 0, none⟩ = some (.bool x205000_1) ∧ w'.cell? ⟨gb204, 1, none⟩ = some (.int .i64 x205001_1) ∧ w'.cell? ⟨gb204, 2, none⟩ = some (.int .i64 x205002_1) ∧ w'.cell? ⟨gb204, 3, none⟩ = some (.int .i64 x205003_1) ∧ w'.cell? ⟨gb204, 4, none⟩ = some (.int .i64 x205004_1) ∧ w'.cell? ⟨gb204, 5, none⟩ = some (.int .i64 x205005_1) ∧ w'.cell? (ad205.add (x7_1).toNat) = some (.int .i16 (rd l1 x7_1))) ∧ (w'.heap[gb202]? = some (.cells #[.bool a0_0, .int .i64 a0_1, .int .i64 a0_2, .int .i64 a0_3, .int .i64 a0_4, .int .i64 a0_5] 23 (0, 0))) ∧ (w'.heap[gb204]? = some (.cells #[.bool x205000_1, .int .i64 x205001_1, .int .i64 x205002_1, .int .i64 x205003_1, .int .i64 x205004_1, .int .i64 x205005_1] 23 (0, 0))) ∧ (w'.heap[s_]? = some (.cells #[.bool false, .int .i64 0, .int .i64 0, .int .i64 0, .int .i64 0, .int .i64 0] 23 (0, 0))) ∧ (w.heap.size ≤ s_) ∧ (w.heap.size ≤ s_) ∧ (gb202 ≠ s_) ∧ (s_ ≠ gb202) ∧ (gb204 ≠ s_) ∧ (s_ ≠ gb204) ∧ (Below w.heap.size w w')) ?_ ?_
       rotate_left
       ·intro hCont
        refine two_ (i := 6) (j := 10) (Ni := some 31) (Nj := some 8) m8_ m9_ rfl rfl rfl rfl (two_of HT_.out (by kernel_rfl)) (by decide) (by decide) (fun K hK => ?_) (fun K hK => ?_)
        ·skip
         refine goes_ Try.func13 (by kernel_rfl) rfl #[.agg #[.bool x205000_1, .int .i64 x205001_1, .int .i64 x205002_1, .int .i64 x205003_1, .int .i64 x205004_1, .int .i64 x205005_1], .int .i64 (wrap64 (rd l1 x7_1))] (by rfl) rfl rfl (by (try simp only [List.map_toArray, List.map_cons, List.map_nil]); first | done | rfl | (simp only [List.length_drop, List.length_take]; rfl)) ?_
         with_reducible refine (access_Step.calls x205000_1 x205001_1 x205002_1 x205003_1 x205004_1 x205005_1 (wrap64 (rd l1 x7_1)) t206 t207 t208 t209 t210 t211 false _ A15.out).mono ?_
         rintro e w116 ⟨rfl, hb⟩
         refine ⟨_, rfl, ?_⟩
         have n0_ := q1_ BK202 hb
         have n1_ := q1_ BK204 hb
         have n2_ := q2_ HB hb
         clear BK202
         clear BK204
         clear HB
         have BK202 := n0_
         have BK204 := n1_
         have HB := n2_
         clear n0_ n1_ n2_
         (try clear hb)
         (try clear hb2)
         (try clear hk)
         (try clear hi)
         refine hK.out _ _ ⟨q7_ BK204 0 rfl, q7_ BK204 1 rfl, q7_ BK204 2 rfl, q7_ BK204 3 rfl, q7_ BK204 4 rfl, q7_ BK204 5 rfl, ((HB.out.cell (World.block_lt_of_cell? w _ hw205_0)).trans hw205_0)⟩ (fun hHeld => ?_)
         clear hK K
         refine norm_ (a' := ?_) ?_ ?_
         rotate_left
         ·show Act.put _ (some 31) _ = _
          simp only [Act.put, q4_, q5_, q6_, i64_w, i32_w]
          rfl
         refine pure_ (i := 7) (N := some 24) (v := ?_) (a' := ?_) m10_ rfl rfl (any_of HT_.out (by kernel_rfl)) (fun _ _ _ h => h) (Or.inl ⟨by rfl, ?_⟩) ?_ ?_
         rotate_left
         ·intro w'
          go_simp
          with_reducible rfl
         rotate_left
         ·simp only [Act.put, q4_, q5_, q6_, i64_w, i32_w]
          rfl
         refine pure_ (i := 8) (N := some 32) (v := ?_) (a' := ?_) m11_ rfl rfl (any_of HT_.out (by kernel_rfl)) (fun _ _ _ h => h) (Or.inl ⟨by rfl, ?_⟩) ?_ ?_
         rotate_left
         ·intro w'
          go_simp
          with_reducible rfl
         rotate_left
         ·simp only [Act.put, q4_, q5_, q6_, i64_w, i32_w]
          rfl
         refine pure_ (i := 9) (N := some 33) (v := ?_) (a' := ?_) m12_ rfl rfl (any_of HT_.out (by kernel_rfl)) (fun _ _ _ h => h) (Or.inl ⟨by rfl, ?_⟩) ?_ ?_
         rotate_left
         ·intro w'
          go_simp
          with_reducible rfl
         rotate_left
         ·simp only [Act.put, q4_, q5_, q6_, i64_w, i32_w]
          rfl
         refine one_ (i := 10) (N := some 8) m7_ rfl rfl (one_of HT_.out (by kernel_rfl)) (by decide) (fun K hK => ?_)
         refine box_step ?hg (N := 8) ?hd (cs := #[.bool false, .int .i64 0, .int .i64 0, .int .i64 0, .int .i64 0, .int .i64 0]) (t := 23) ?hr ?_; (case hd => rfl); (case hg => rfl); (case hr => first | (go_simp; done) | (go_simp; rfl))
         intro gb213 hg w117 hbox hb
         have n0_ := q1_ BK202 hb
         have n1_ := q1_ BK204 hb
         have n2_ := q2_ HB hb
         have n3_ := Aside0.mk (hbox)
         have n4_ := Aside0.mk ((by rw [hg]; exact (below_size (by repeat (first | (with_reducible first | exact HB.out | apply below_alloc | apply pw_below_drewN | apply below_drew1 | refine below_set ?_ GE202.out | refine below_set ?_ GE204.out) | exact HB.out))) : w.heap.size ≤ gb213))
         have n5_ := Aside0.mk ((by rw [hg]; exact (below_size (by repeat (first | (with_reducible first | exact HB.out | apply below_alloc | apply pw_below_drewN | apply below_drew1 | refine below_set ?_ GE202.out | refine below_set ?_ GE204.out) | exact HB.out))) : w.heap.size ≤ gb213))
         have n6_ := Aside0.mk ((by rw [hg]; exact Nat.ne_of_lt (blk_lt (g := gb202) (o := .cells #[.bool a0_0, .int .i64 a0_1, .int .i64 a0_2, .int .i64 a0_3, .int .i64 a0_4, .int .i64 a0_5] 23 (0, 0)) (q3_ BK202).out) : gb202 ≠ gb213))
         have n7_ := Aside0.mk ((by rw [hg]; exact Nat.ne_of_gt (blk_lt (g := gb202) (o := .cells #[.bool a0_0, .int .i64 a0_1, .int .i64 a0_2, .int .i64 a0_3, .int .i64 a0_4, .int .i64 a0_5] 23 (0, 0)) (q3_ BK202).out) : gb213 ≠ gb202))
         have n8_ := Aside0.mk ((by rw [hg]; exact Nat.ne_of_lt (blk_lt (g := gb204) (o := .cells #[.bool x205000_1, .int .i64 x205001_1, .int .i64 x205002_1, .int .i64 x205003_1, .int .i64 x205004_1, .int .i64 x205005_1] 23 (0, 0)) (q3_ BK204).out) : gb204 ≠ gb213))
         have n9_ := Aside0.mk ((by rw [hg]; exact Nat.ne_of_gt (blk_lt (g := gb204) (o := .cells #[.bool x205000_1, .int .i64 x205001_1, .int .i64 x205002_1, .int .i64 x205003_1, .int .i64 x205004_1, .int .i64 x205005_1] 23 (0, 0)) (q3_ BK204).out) : gb213 ≠ gb204))
         clear BK202
         clear BK204
         clear HB
         have BK202 := n0_
         have BK204 := n1_
         have HB := n2_
         have BK213 := n3_
         have GW213 := n4_
         have GE213 := n5_
         have NB202_213 := n6_
         have NB213_202 := n7_
         have NB204_213 := n8_
         have NB213_204 := n9_
         clear n0_ n1_ n2_ n3_ n4_ n5_ n6_ n7_ n8_ n9_
         clear hb hbox hg
         refine hK.out _ _ ⟨q7_ BK204 0 rfl, q7_ BK204 1 rfl, q7_ BK204 2 rfl, q7_ BK204 3 rfl, q7_ BK204 4 rfl, q7_ BK204 5 rfl, ((HB.out.cell (World.block_lt_of_cell? w _ hw205_0)).trans hw205_0)⟩ (fun hHeld => ?_)
         clear hK K
         refine norm_ (a' := ?_) ?_ ?_
         rotate_left
         ·show Act.put _ (some 8) _ = _
          simp only [Act.put, q4_, q5_, q6_, i64_w, i32_w]
          rfl
         exact norm_ (by simp only [putAll, Act.put, q4_, q5_, q6_]) (hCont (gb213) _ ⟨hHeld, (q3_ BK202).out, (q3_ BK204).out, (q3_ BK213).out, GW213.out, GE213.out, NB202_213.out, NB213_202.out, NB204_213.out, NB213_204.out, (by repeat (first | (with_reducible first | exact HB.out | apply below_alloc | apply pw_below_drewN | apply below_drew1 | refine below_set ?_ GE202.out | refine below_set ?_ GE204.out | refine below_set ?_ GE213.out) | exact HB.out))⟩)
        ·skip
         refine box_step ?hg (N := 8) ?hd (cs := #[.bool false, .int .i64 0, .int .i64 0, .int .i64 0, .int .i64 0, .int .i64 0]) (t := 23) ?hr ?_; (case hd => rfl); (case hg => rfl); (case hr => first | (go_simp; done) | (go_simp; rfl))
         intro gb213 hg w116 hbox hb
         have n0_ := q1_ BK202 hb
         have n1_ := q1_ BK204 hb
         have n2_ := q2_ HB hb
         have n3_ := Aside0.mk (hbox)
         have n4_ := Aside0.mk ((by rw [hg]; exact (below_size (by repeat (first | (with_reducible first | exact HB.out | apply below_alloc | apply pw_below_drewN | apply below_drew1 | refine below_set ?_ GE202.out | refine below_set ?_ GE204.out) | exact HB.out))) : w.heap.size ≤ gb213))
         have n5_ := Aside0.mk ((by rw [hg]; exact (below_size (by repeat (first | (with_reducible first | exact HB.out | apply below_alloc | apply pw_below_drewN | apply below_drew1 | refine below_set ?_ GE202.out | refine below_set ?_ GE204.out) | exact HB.out))) : w.heap.size ≤ gb213))
         have n6_ := Aside0.mk ((by rw [hg]; exact Nat.ne_of_lt (blk_lt (g := gb202) (o := .cells #[.bool a0_0, .int .i64 a0_1, .int .i64 a0_2, .int .i64 a0_3, .int .i64 a0_4, .int .i64 a0_5] 23 (0, 0)) (q3_ BK202).out) : gb202 ≠ gb213))
         have n7_ := Aside0.mk ((by rw [hg]; exact Nat.ne_of_gt (blk_lt (g := gb202) (o := .cells #[.bool a0_0, .int .i64 a0_1, .int .i64 a0_2, .int .i64 a0_3, .int .i64 a0_4, .int .i64 a0_5] 23 (0, 0)) (q3_ BK202).out) : gb213 ≠ gb202))
         have n8_ := Aside0.mk ((by rw [hg]; exact Nat.ne_of_lt (blk_lt (g := gb204) (o := .cells #[.bool x205000_1, .int .i64 x205001_1, .int .i64 x205002_1, .int .i64 x205003_1, .int .i64 x205004_1, .int .i64 x205005_1] 23 (0, 0)) (q3_ BK204).out) : gb204 ≠ gb213))
         have n9_ := Aside0.mk ((by rw [hg]; exact Nat.ne_of_gt (blk_lt (g := gb204) (o := .cells #[.bool x205000_1, .int .i64 x205001_1, .int .i64 x205002_1, .int .i64 x205003_1, .int .i64 x205004_1, .int .i64 x205005_1] 23 (0, 0)) (q3_ BK204).out) : gb213 ≠ gb204))
         clear BK202
         clear BK204
         clear HB
         have BK202 := n0_
         have BK204 := n1_
         have HB := n2_
         have BK213 := n3_
         have GW213 := n4_
         have GE213 := n5_
         have NB202_213 := n6_
         have NB213_202 := n7_
         have NB204_213 := n8_
         have NB213_204 := n9_
         clear n0_ n1_ n2_ n3_ n4_ n5_ n6_ n7_ n8_ n9_
         clear hb hbox hg
         refine hK.out _ _ ⟨q7_ BK204 0 rfl, q7_ BK204 1 rfl, q7_ BK204 2 rfl, q7_ BK204 3 rfl, q7_ BK204 4 rfl, q7_ BK204 5 rfl, ((HB.out.cell (World.block_lt_of_cell? w _ hw205_0)).trans hw205_0)⟩ (fun hHeld => ?_)
         clear hK K
         refine norm_ (a' := ?_) ?_ ?_
         rotate_left
         ·show Act.put _ (some 8) _ = _
          simp only [Act.put, q4_, q5_, q6_, i64_w, i32_w]
          rfl
         refine one_ (i := 6) (N := some 31) m13_ rfl rfl (one_of HT_.out (by kernel_rfl)) (by decide) (fun K hK => ?_)
         refine goes_ Try.func13 (by kernel_rfl) rfl #[.agg #[.bool x205000_1, .int .i64 x205001_1, .int .i64 x205002_1, .int .i64 x205003_1, .int .i64 x205004_1, .int .i64 x205005_1], .int .i64 (wrap64 (rd l1 x7_1))] (by rfl) rfl rfl (by (try simp only [List.map_toArray, List.map_cons, List.map_nil]); first | done | rfl | (simp only [List.length_drop, List.length_take]; rfl)) ?_
         with_reducible refine (access_Step.calls x205000_1 x205001_1 x205002_1 x205003_1 x205004_1 x205005_1 (wrap64 (rd l1 x7_1)) t206 t207 t208 t209 t210 t211 false _ A15.out).mono ?_
         rintro e w117 ⟨rfl, hb⟩
         refine ⟨_, rfl, ?_⟩
         have n0_ := q1_ BK202 hb
         have n1_ := q1_ BK204 hb
         have n2_ := q1_ BK213 hb
         have n3_ := q2_ HB hb
         clear BK202
         clear BK204
         clear BK213
         clear HB
         have BK202 := n0_
         have BK204 := n1_
         have BK213 := n2_
         have HB := n3_
         clear n0_ n1_ n2_ n3_
         (try clear hb)
         (try clear hb2)
         (try clear hk)
         (try clear hi)
         refine hK.out _ _ ⟨q7_ BK204 0 rfl, q7_ BK204 1 rfl, q7_ BK204 2 rfl, q7_ BK204 3 rfl, q7_ BK204 4 rfl, q7_ BK204 5 rfl, ((HB.out.cell (World.block_lt_of_cell? w _ hw205_0)).trans hw205_0)⟩ (fun hHeld => ?_)
         clear hK K
         refine norm_ (a' := ?_) ?_ ?_
         rotate_left
         ·show Act.put _ (some 31) _ = _
          simp only [Act.put, q4_, q5_, q6_, i64_w, i32_w]
          rfl
         refine pure_ (i := 7) (N := some 24) (v := ?_) (a' := ?_) m14_ rfl rfl (any_of HT_.out (by kernel_rfl)) (fun _ _ _ h => h) (Or.inl ⟨by rfl, ?_⟩) ?_ ?_
         rotate_left
         ·intro w'
          go_simp
          with_reducible rfl
         rotate_left
         ·simp only [Act.put, q4_, q5_, q6_, i64_w, i32_w]
          rfl
         refine pure_ (i := 8) (N := some 32) (v := ?_) (a' := ?_) m15_ rfl rfl (any_of HT_.out (by kernel_rfl)) (fun _ _ _ h => h) (Or.inl ⟨by rfl, ?_⟩) ?_ ?_
         rotate_left
         ·intro w'
          go_simp
          with_reducible rfl
         rotate_left
         ·simp only [Act.put, q4_, q5_, q6_, i64_w, i32_w]
          rfl
         refine pure_ (i := 9) (N := some 33) (v := ?_) (a' := ?_) m7_ rfl rfl (any_of HT_.out (by kernel_rfl)) (fun _ _ _ h => h) (Or.inl ⟨by rfl, ?_⟩) ?_ ?_
         rotate_left
         ·intro w'
          go_simp
          with_reducible rfl
         rotate_left
         ·simp only [Act.put, q4_, q5_, q6_, i64_w, i32_w]
          rfl
         exact norm_ (by simp only [putAll, Act.put, q4_, q5_, q6_]) (hCont (gb213) _ ⟨hHeld, (q3_ BK202).out, (q3_ BK204).out, (q3_ BK213).out, GW213.out, GE213.out, NB202_213.out, NB213_202.out, NB204_213.out, NB213_204.out, (by repeat (first | (with_reducible first | exact HB.out | apply below_alloc | apply pw_below_drewN | apply below_drew1 | refine below_set ?_ GE202.out | refine below_set ?_ GE204.out | refine below_set ?_ GE213.out) | exact HB.out))⟩)
       rintro gb213 w118 ⟨hS_, h0_, h1_, h2_, h3_, h4_, h5_, h6_, h7_, h8_, h9_⟩
       have n0_ : Aside0 (w118.heap[gb202]? = some (.cells #[.bool a0_0, .int .i64 a0_1, .int .i64 a0_2, .int .i64 a0_3, .int .i64 a0_4, .int .i64 a0_5] 23 (0, 0))) := ⟨h0_⟩
       have n1_ : Aside0 (w118.heap[gb204]? = some (.cells #[.bool x205000_1, .int .i64 x205001_1, .int .i64 x205002_1, .int .i64 x205003_1, .int .i64 x205004_1, .int .i64 x205005_1] 23 (0, 0))) := ⟨h1_⟩
       have n2_ : Aside0 (w118.heap[gb213]? = some (.cells #[.bool false, .int .i64 0, .int .i64 0, .int .i64 0, .int .i64 0, .int .i64 0] 23 (0, 0))) := ⟨h2_⟩
       have n3_ : Aside0 (w.heap.size ≤ gb213) := ⟨h3_⟩
       have n4_ : Aside0 (w.heap.size ≤ gb213) := ⟨h4_⟩
       have n5_ : Aside0 (gb202 ≠ gb213) := ⟨h5_⟩
       have n6_ : Aside0 (gb213 ≠ gb202) := ⟨h6_⟩
       have n7_ : Aside0 (gb204 ≠ gb213) := ⟨h7_⟩
       have n8_ : Aside0 (gb213 ≠ gb204) := ⟨h8_⟩
       have n9_ : Aside0 (Below w.heap.size w w118) := ⟨h9_⟩
       clear BK202
       clear BK204
       clear HB
       clear h0_ h1_ h2_ h3_ h4_ h5_ h6_ h7_ h8_ h9_
       have BK202 := n0_
       have BK204 := n1_
       have BK213 := n2_
       have GW213 := n3_
       have GE213 := n4_
       have NB202_213 := n5_
       have NB213_202 := n6_
       have NB204_213 := n7_
       have NB213_204 := n8_
       have HB := n9_
       clear n0_ n1_ n2_ n3_ n4_ n5_ n6_ n7_ n8_ n9_
       have hHeld : w118.cell? ⟨gb204, 0, none⟩ = some (.bool x205000_1) ∧ w118.cell? ⟨gb204, 1, none⟩ = some (.int .i64 x205001_1) ∧ w118.cell? ⟨gb204, 2, none⟩ = some (.int .i64 x205002_1) ∧ w118.cell? ⟨gb204, 3, none⟩ = some (.int .i64 x205003_1) ∧ w118.cell? ⟨gb204, 4, none⟩ = some (.int .i64 x205004_1) ∧ w118.cell? ⟨gb204, 5, none⟩ = some (.int .i64 x205005_1) ∧ w118.cell? (ad205.add (x7_1).toNat) = some (.int .i16 (rd l1 x7_1)) := hS_
       refine norm_ (a' := ?_) ?_ ?_
       rotate_left
       ·simp only [putAll, Act.put, q4_, q5_, q6_]
        rfl
       refine one_ (i := 11) (N := none) m16_ rfl rfl (one_of HT_.out (by kernel_rfl)) (by decide) (fun K hK => ?_)
       have hs119 : w118.cell? ⟨gb213, 0, none⟩ = some (.bool false) := q7_ BK213 0 rfl
       have hfs119 := blk_frozen BK213.out 0
       have hns119_0 := NB202_213.out
       have hns119_1 := NB204_213.out
       have hms119_0 := NB213_202.out
       have hms119_1 := NB213_204.out
       have hs120 : w118.cell? ⟨gb213, 1, none⟩ = some (.int .i64 0) := q7_ BK213 1 rfl
       have hfs120 := blk_frozen BK213.out 1
       have hns120_0 := NB202_213.out
       have hns120_1 := NB204_213.out
       have hms120_0 := NB213_202.out
       have hms120_1 := NB213_204.out
       have hs121 : w118.cell? ⟨gb213, 2, none⟩ = some (.int .i64 0) := q7_ BK213 2 rfl
       have hfs121 := blk_frozen BK213.out 2
       have hns121_0 := NB202_213.out
       have hns121_1 := NB204_213.out
       have hms121_0 := NB213_202.out
       have hms121_1 := NB213_204.out
       have hs122 : w118.cell? ⟨gb213, 3, none⟩ = some (.int .i64 0) := q7_ BK213 3 rfl
       have hfs122 := blk_frozen BK213.out 3
       have hns122_0 := NB202_213.out
       have hns122_1 := NB204_213.out
       have hms122_0 := NB213_202.out
       have hms122_1 := NB213_204.out
       have hs123 : w118.cell? ⟨gb213, 4, none⟩ = some (.int .i64 0) := q7_ BK213 4 rfl
       have hfs123 := blk_frozen BK213.out 4
       have hns123_0 := NB202_213.out
       have hns123_1 := NB204_213.out
       have hms123_0 := NB213_202.out
       have hms123_1 := NB213_204.out
       have hs124 : w118.cell? ⟨gb213, 5, none⟩ = some (.int .i64 0) := q7_ BK213 5 rfl
       have hfs124 := blk_frozen BK213.out 5
       have hns124_0 := NB202_213.out
       have hns124_1 := NB204_213.out
       have hms124_0 := NB213_202.out
       have hms124_1 := NB213_204.out
       refine skip_ (w1 := ?_) (by rfl) rfl ?_ ?_
       rotate_left
       ·go_simp
        rfl
       refine hK.out _ _ ⟨((q8_ NB204_213).trans (((q8_ NB204_213).trans (((q8_ NB204_213).trans (((q8_ NB204_213).trans (((q8_ NB204_213).trans (((q8_ NB204_213).trans (hHeld.1)))))))))))), ((q8_ NB204_213).trans (((q8_ NB204_213).trans (((q8_ NB204_213).trans (((q8_ NB204_213).trans (((q8_ NB204_213).trans (((q8_ NB204_213).trans (hHeld.2.1)))))))))))), ((q8_ NB204_213).trans (((q8_ NB204_213).trans (((q8_ NB204_213).trans (((q8_ NB204_213).trans (((q8_ NB204_213).trans (((q8_ NB204_213).trans (hHeld.2.2.1)))))))))))), ((q8_ NB204_213).trans (((q8_ NB204_213).trans (((q8_ NB204_213).trans (((q8_ NB204_213).trans (((q8_ NB204_213).trans (((q8_ NB204_213).trans (hHeld.2.2.2.1)))))))))))), ((q8_ NB204_213).trans (((q8_ NB204_213).trans (((q8_ NB204_213).trans (((q8_ NB204_213).trans (((q8_ NB204_213).trans (((q8_ NB204_213).trans (hHeld.2.2.2.2.1)))))))))))), ((q8_ NB204_213).trans (((q8_ NB204_213).trans (((q8_ NB204_213).trans (((q8_ NB204_213).trans (((q8_ NB204_213).trans (((q8_ NB204_213).trans (hHeld.2.2.2.2.2.1)))))))))))), ((cell_far (p := ⟨gb213, _, none⟩) (by first | exact Nat.ne_of_lt (Nat.lt_of_lt_of_le (by have := World.block_lt_of_cell? _ _ hw205_0; first | rwa [add_block] at this | exact this) GW213.out) | (rw [add_block]; exact Nat.ne_of_lt (Nat.lt_of_lt_of_le (by have := World.block_lt_of_cell? _ _ hw205_0; first | rwa [add_block] at this | exact this) GW213.out)) | (show (Addr.add _ _).block ≠ _; rw [add_block]; exact Nat.ne_of_lt (Nat.lt_of_lt_of_le (by have := World.block_lt_of_cell? _ _ hw205_0; first | rwa [add_block] at this | exact this) GW213.out)) | (dsimp only; exact Nat.ne_of_lt (Nat.lt_of_lt_of_le (by have := World.block_lt_of_cell? _ _ hw205_0; first | rwa [add_block] at this | exact this) GW213.out))) _).trans (((cell_far (p := ⟨gb213, _, none⟩) (by first | exact Nat.ne_of_lt (Nat.lt_of_lt_of_le (by have := World.block_lt_of_cell? _ _ hw205_0; first | rwa [add_block] at this | exact this) GW213.out) | (rw [add_block]; exact Nat.ne_of_lt (Nat.lt_of_lt_of_le (by have := World.block_lt_of_cell? _ _ hw205_0; first | rwa [add_block] at this | exact this) GW213.out)) | (show (Addr.add _ _).block ≠ _; rw [add_block]; exact Nat.ne_of_lt (Nat.lt_of_lt_of_le (by have := World.block_lt_of_cell? _ _ hw205_0; first | rwa [add_block] at this | exact this) GW213.out)) | (dsimp only; exact Nat.ne_of_lt (Nat.lt_of_lt_of_le (by have := World.block_lt_of_cell? _ _ hw205_0; first | rwa [add_block] at this | exact this) GW213.out))) _).trans (((cell_far (p := ⟨gb213, _, none⟩) (by first | exact Nat.ne_of_lt (Nat.lt_of_lt_of_le (by have := World.block_lt_of_cell? _ _ hw205_0; first | rwa [add_block] at this | exact this) GW213.out) | (rw [add_block]; exact Nat.ne_of_lt (Nat.lt_of_lt_of_le (by have := World.block_lt_of_cell? _ _ hw205_0; first | rwa [add_block] at this | exact this) GW213.out)) | (show (Addr.add _ _).block ≠ _; rw [add_block]; exact Nat.ne_of_lt (Nat.lt_of_lt_of_le (by have := World.block_lt_of_cell? _ _ hw205_0; first | rwa [add_block] at this | exact this) GW213.out)) | (dsimp only; exact Nat.ne_of_lt (Nat.lt_of_lt_of_le (by have := World.block_lt_of_cell? _ _ hw205_0; first | rwa [add_block] at this | exact this) GW213.out))) _).trans (((cell_far (p := ⟨gb213, _, none⟩) (by first | exact Nat.ne_of_lt (Nat.lt_of_lt_of_le (by have := World.block_lt_of_cell? _ _ hw205_0; first | rwa [add_block] at this | exact this) GW213.out) | (rw [add_block]; exact Nat.ne_of_lt (Nat.lt_of_lt_of_le (by have := World.block_lt_of_cell? _ _ hw205_0; first | rwa [add_block] at this | exact this) GW213.out)) | (show (Addr.add _ _).block ≠ _; rw [add_block]; exact Nat.ne_of_lt (Nat.lt_of_lt_of_le (by have := World.block_lt_of_cell? _ _ hw205_0; first | rwa [add_block] at this | exact this) GW213.out)) | (dsimp only; exact Nat.ne_of_lt (Nat.lt_of_lt_of_le (by have := World.block_lt_of_cell? _ _ hw205_0; first | rwa [add_block] at this | exact this) GW213.out))) _).trans (((cell_far (p := ⟨gb213, _, none⟩) (by first | exact Nat.ne_of_lt (Nat.lt_of_lt_of_le (by have := World.block_lt_of_cell? _ _ hw205_0; first | rwa [add_block] at this | exact this) GW213.out) | (rw [add_block]; exact Nat.ne_of_lt (Nat.lt_of_lt_of_le (by have := World.block_lt_of_cell? _ _ hw205_0; first | rwa [add_block] at this | exact this) GW213.out)) | (show (Addr.add _ _).block ≠ _; rw [add_block]; exact Nat.ne_of_lt (Nat.lt_of_lt_of_le (by have := World.block_lt_of_cell? _ _ hw205_0; first | rwa [add_block] at this | exact this) GW213.out)) | (dsimp only; exact Nat.ne_of_lt (Nat.lt_of_lt_of_le (by have := World.block_lt_of_cell? _ _ hw205_0; first | rwa [add_block] at this | exact this) GW213.out))) _).trans (((cell_far (p := ⟨gb213, _, none⟩) (by first | exact Nat.ne_of_lt (Nat.lt_of_lt_of_le (by have := World.block_lt_of_cell? _ _ hw205_0; first | rwa [add_block] at this | exact this) GW213.out) | (rw [add_block]; exact Nat.ne_of_lt (Nat.lt_of_lt_of_le (by have := World.block_lt_of_cell? _ _ hw205_0; first | rwa [add_block] at this | exact this) GW213.out)) | (show (Addr.add _ _).block ≠ _; rw [add_block]; exact Nat.ne_of_lt (Nat.lt_of_lt_of_le (by have := World.block_lt_of_cell? _ _ hw205_0; first | rwa [add_block] at this | exact this) GW213.out)) | (dsimp only; exact Nat.ne_of_lt (Nat.lt_of_lt_of_le (by have := World.block_lt_of_cell? _ _ hw205_0; first | rwa [add_block] at this | exact this) GW213.out))) _).trans (hHeld.2.2.2.2.2.2))))))))))))⟩ (fun hHeld => ?_)
       clear hK K
       refine pure_ (i := 12) (N := some 9) (v := ?_) (a' := ?_) m17_ rfl rfl (any_of HT_.out (by kernel_rfl)) (fun _ _ _ h => h) (Or.inl ⟨by rfl, ?_⟩) ?_ ?_
       rotate_left
       ·intro w'
        go_simp
        with_reducible rfl
       rotate_left
       ·simp only [Act.put, q4_, q5_, q6_, i64_w, i32_w]
        rfl
       refine done_ (done_of HT_.out (by kernel_rfl)) ?_
       try go_wp2
       go_roundg k1
       case measure => have := HK1.out; omega
       case rel => exact ⟨(wrap64 (x7_1 + 1)), (x205000_1), (x205001_1), (x205002_1), (x205003_1), (x205004_1), (x205005_1), (by first | rfl | (simp; done) | (simp [*]; done)), H', ⟨by have := HK1.out; omega⟩, ⟨by (with_reducible repeat (first | refine blk_drewN ?_ _ | refine blk_drew ?_ | refine blk_alloc ?_ _)); refine blk_far ?_ NB202_213.out _; (with_reducible repeat (first | refine blk_drewN ?_ _ | refine blk_drew ?_ | refine blk_alloc ?_ _)); refine blk_far ?_ NB202_213.out _; (with_reducible repeat (first | refine blk_drewN ?_ _ | refine blk_drew ?_ | refine blk_alloc ?_ _)); refine blk_far ?_ NB202_213.out _; (with_reducible repeat (first | refine blk_drewN ?_ _ | refine blk_drew ?_ | refine blk_alloc ?_ _)); refine blk_far ?_ NB202_213.out _; (with_reducible repeat (first | refine blk_drewN ?_ _ | refine blk_drew ?_ | refine blk_alloc ?_ _)); refine blk_far ?_ NB202_213.out _; (with_reducible repeat (first | refine blk_drewN ?_ _ | refine blk_drew ?_ | refine blk_alloc ?_ _)); refine blk_far ?_ NB202_213.out _; (with_reducible repeat (first | refine blk_drewN ?_ _ | refine blk_drew ?_ | refine blk_alloc ?_ _)); exact BK202.out⟩, ⟨by (with_reducible repeat (first | refine blk_drewN ?_ _ | refine blk_drew ?_ | refine blk_alloc ?_ _)); refine blk_far ?_ NB204_213.out _; (with_reducible repeat (first | refine blk_drewN ?_ _ | refine blk_drew ?_ | refine blk_alloc ?_ _)); refine blk_far ?_ NB204_213.out _; (with_reducible repeat (first | refine blk_drewN ?_ _ | refine blk_drew ?_ | refine blk_alloc ?_ _)); refine blk_far ?_ NB204_213.out _; (with_reducible repeat (first | refine blk_drewN ?_ _ | refine blk_drew ?_ | refine blk_alloc ?_ _)); refine blk_far ?_ NB204_213.out _; (with_reducible repeat (first | refine blk_drewN ?_ _ | refine blk_drew ?_ | refine blk_alloc ?_ _)); refine blk_far ?_ NB204_213.out _; (with_reducible repeat (first | refine blk_drewN ?_ _ | refine blk_drew ?_ | refine blk_alloc ?_ _)); refine blk_far ?_ NB204_213.out _; (with_reducible repeat (first | refine blk_drewN ?_ _ | refine blk_drew ?_ | refine blk_alloc ?_ _)); exact BK204.out⟩, ⟨by repeat (first | (with_reducible first | exact HB.out | apply below_alloc | apply pw_below_drewN | apply below_drew1 | refine below_set ?_ GE202.out | refine below_set ?_ GE204.out | refine below_set ?_ GE213.out) | exact HB.out)⟩⟩
     ·rw [if_neg c14] at H
      exact absurd H (by simp)
    ·rw [if_neg c13] at H
     have c13b0 : decide (x7_1 < (l1.length : Int)) = false := decide_eq_false c13
     clear c13
     by_cases c125 : t203 = true
     ·subst c125
      have H1 : (some (x205000_1 == a0_0 && (x205001_1 == a0_1 && (x205002_1 == a0_2 && (x205004_1 == a0_4 && (x205005_1 == a0_5)))))) = some r := by rw [if_pos rfl] at H; exact H
      clear H
      have H := H1
      clear H1
      clear hr_
      obtain rfl := Option.some.inj H
      have hnb126 := NB202_204.out
      have hnc126 := NB204_202.out
      have hcz127_0 : wr.cell? ⟨gb202, 0, none⟩ = some (.bool a0_0) := q7_ BK202 0 rfl
      have hcz127_1 : wr.cell? ⟨gb202, 1, none⟩ = some (.int .i64 a0_1) := q7_ BK202 1 rfl
      have hcz127_2 : wr.cell? ⟨gb202, 2, none⟩ = some (.int .i64 a0_2) := q7_ BK202 2 rfl
      have hcz127_3 : wr.cell? ⟨gb202, 3, none⟩ = some (.int .i64 a0_3) := q7_ BK202 3 rfl
      have hcz127_4 : wr.cell? ⟨gb202, 4, none⟩ = some (.int .i64 a0_4) := q7_ BK202 4 rfl
      have hcz127_5 : wr.cell? ⟨gb202, 5, none⟩ = some (.int .i64 a0_5) := q7_ BK202 5 rfl
      have hfz127_0 := blk_frozen BK202.out 0
      have hfz127_1 := blk_frozen BK202.out 1
      have hfz127_2 := blk_frozen BK202.out 2
      have hfz127_3 := blk_frozen BK202.out 3
      have hfz127_4 := blk_frozen BK202.out 4
      have hfz127_5 := blk_frozen BK202.out 5
      have hcz128_0 : wr.cell? ⟨gb204, 0, none⟩ = some (.bool x205000_1) := q7_ BK204 0 rfl
      have hcz128_1 : wr.cell? ⟨gb204, 1, none⟩ = some (.int .i64 x205001_1) := q7_ BK204 1 rfl
      have hcz128_2 : wr.cell? ⟨gb204, 2, none⟩ = some (.int .i64 x205002_1) := q7_ BK204 2 rfl
      have hcz128_3 : wr.cell? ⟨gb204, 3, none⟩ = some (.int .i64 x205003_1) := q7_ BK204 3 rfl
      have hcz128_4 : wr.cell? ⟨gb204, 4, none⟩ = some (.int .i64 x205004_1) := q7_ BK204 4 rfl
      have hcz128_5 : wr.cell? ⟨gb204, 5, none⟩ = some (.int .i64 x205005_1) := q7_ BK204 5 rfl
      have hfz128_0 := blk_frozen BK204.out 0
      have hfz128_1 := blk_frozen BK204.out 1
      have hfz128_2 := blk_frozen BK204.out 2
      have hfz128_3 := blk_frozen BK204.out 3
      have hfz128_4 := blk_frozen BK204.out 4
      have hfz128_5 := blk_frozen BK204.out 5
      go_wp2
      go_ret
      exact ⟨by first | rfl | (simp [errW_none, errW_some] <;> rfl) | (simp [*, errW_none, errW_some] <;> rfl), by repeat (first | (with_reducible first | exact HB.out | apply below_alloc | apply pw_below_drewN | apply below_drew1 | refine below_set ?_ GE202.out | refine below_set ?_ GE204.out) | exact HB.out)⟩
     ·replace c125 := Bool.eq_false_iff.mpr c125
      subst c125
      have H1 : (some false) = some r := by rw [if_neg (show ¬ (false = true) by decide)] at H; exact H
      clear H
      have H := H1
      clear H1
      exact absurd ((Option.some.inj H).trans hr_) (by decide)

end Go.Proofs.Ythhiljgngedaaaa.PAcc
