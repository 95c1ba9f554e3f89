-- written by a changed copy of the kit's print program, for this claim
import Derived.Test.YtgkmacgckoifaaaPDrx0
import Derived.Test.YtgkmacgckoifaaaPDrx2
import Derived.Test.YtgkmacgckoifaaaPDrx3
import Derived.Test.YtgkmacgckoifaaaPDrx4
namespace Go.Proofs.Ytgkmacgckoifaaa.PDr
open Go.RowKit Go.Proofs.YtgkmacgckoifaaaW.PrintWords Go.Proofs.YtgkmacgckoifaaaW.PrintLast Go.Proofs.YtgkmacgckoifaaaW.PrintMore
attribute [local go_sem] max2_int min2_int max_two min_two max_three min_three max_four min_four   -- for this text's walks alone
set_option linter.unusedVariables false
set_option linter.unusedSimpArgs false

abbrev m5_0 : Array Bool := #[false, false, false, false, false, false, false, false, false, false, false, false, false, false, false, false, false, false]
abbrev m5_1 : Array Bool := #[true, false, false, false, false, false, false, false, false, false, false, false, false, false, false, false, false, false]
abbrev m5_2 : Array Bool := #[true, true, false, false, false, false, false, false, false, false, false, false, false, false, false, false, false, false]
abbrev m5_3 : Array Bool := #[true, true, true, false, false, false, false, false, false, false, false, false, false, false, false, false, false, false]
abbrev m5_4 : Array Bool := #[true, true, true, true, false, false, false, false, false, false, false, false, false, false, false, false, false, false]
abbrev m5_5 : Array Bool := #[true, true, true, true, true, false, false, false, false, false, false, false, false, false, false, false, false, false]
abbrev m5_6 : Array Bool := #[true, true, true, true, true, true, false, false, false, false, false, false, false, false, false, false, false, false]
abbrev m5_7 : Array Bool := #[true, true, true, true, true, true, true, false, false, false, false, false, false, false, false, false, false, false]
abbrev m5_8 : Array Bool := #[true, true, true, true, true, true, true, true, false, false, false, false, false, false, false, false, false, false]
abbrev m5_9 : Array Bool := #[true, true, true, true, true, true, true, true, true, false, false, false, false, false, false, false, false, false]
abbrev m5_10 : Array Bool := #[true, true, true, true, true, true, true, true, true, true, false, false, false, false, false, false, false, false]
abbrev m5_11 : Array Bool := #[true, true, true, true, true, true, true, true, true, true, true, false, false, false, false, false, false, false]
abbrev m5_12 : Array Bool := #[true, true, true, true, true, true, true, true, true, true, true, true, false, false, false, false, false, false]
abbrev m5_13 : Array Bool := #[true, true, true, true, true, true, true, true, true, true, true, true, true, false, false, false, false, false]
abbrev m5_14 : Array Bool := #[true, true, true, true, true, true, true, true, true, true, true, true, true, true, false, false, false, false]
abbrev m5_15 : Array Bool := #[true, true, true, true, true, true, true, true, true, true, true, true, true, true, true, false, false, false]
abbrev m5_16 : Array Bool := #[true, true, true, true, true, true, true, true, true, true, true, true, true, true, true, true, false, false]
abbrev m5_17 : Array Bool := #[true, true, true, true, true, true, true, true, true, true, true, true, true, true, true, true, true, false]
abbrev m5_18 : Array Bool := #[true, true, true, true, true, true, true, true, true, true, true, true, true, true, true, true, true, true]
abbrev m5_19 : Array Bool := #[false, false, false, false, false, false, false, false, false]
abbrev m5_20 : Array Bool := #[true, false, false, false, false, false, false, false, false]
abbrev m5_21 : Array Bool := #[true, true, false, false, false, false, false, false, false]
abbrev m5_22 : Array Bool := #[true, true, true, false, false, false, false, false, false]
abbrev m5_23 : Array Bool := #[true, true, true, false, true, false, false, false, false]
abbrev m5_24 : Array Bool := #[true, true, true, true, true, false, false, false, false]
abbrev m5_25 : Array Bool := #[true, true, true, true, true, true, false, false, false]
abbrev m5_26 : Array Bool := #[true, true, true, true, true, true, true, false, false]
abbrev m5_27 : Array Bool := #[true, true, true, true, true, true, true, true, false]
abbrev m5_28 : Array Bool := #[true, true, true, true, true, true, true, true, true]
abbrev m5_29 : Array Bool := #[false, false, false, false, false, false, false, false, false, false, false, false, false, false]
abbrev m5_30 : Array Bool := #[true, false, false, false, false, false, false, false, false, false, false, false, false, false]
abbrev m5_31 : Array Bool := #[true, true, false, false, false, false, false, false, false, false, false, false, false, false]
abbrev m5_32 : Array Bool := #[true, true, true, false, false, false, false, false, false, false, false, false, false, false]
abbrev m5_33 : Array Bool := #[true, true, true, false, true, false, false, false, false, false, false, false, false, false]
abbrev m5_34 : Array Bool := #[true, true, true, false, true, true, false, false, false, false, false, false, false, false]
abbrev m5_35 : Array Bool := #[true, true, true, true, true, true, false, false, false, false, false, false, false, false]
abbrev m5_36 : Array Bool := #[true, true, true, true, true, true, true, false, false, false, false, false, false, false]
abbrev m5_37 : Array Bool := #[true, true, true, true, true, true, true, true, false, false, false, false, false, false]
abbrev m5_38 : Array Bool := #[true, true, true, true, true, true, true, true, true, false, false, false, false, false]
abbrev m5_39 : Array Bool := #[true, true, true, true, true, true, true, true, true, true, false, false, false, false]
abbrev m5_40 : Array Bool := #[true, true, true, true, true, true, true, true, true, true, true, false, false, false]
abbrev m5_41 : Array Bool := #[true, true, true, true, true, true, true, true, true, true, true, true, false, false]
abbrev m5_42 : Array Bool := #[true, true, true, true, true, true, true, true, true, true, true, true, true, false]
abbrev m5_43 : Array Bool := #[true, true, true, true, true, true, true, true, true, true, true, true, true, true]
/-! ### derive_Bounds: function 11 -/
theorem World.size_setCell_ (w : World) (p : Addr) (u : Value) : (w.setCell p u).heap.size = w.heap.size := by simp [World.setCell]
section
variable {P : Program} {ops : Array Oper} {Q : Exit → Act → World → Prop}
/-- The call of a function value, as an arm: what it holds is told. -/
theorem goesV_ {rest : List Oper} {oi : Oper} {a : Act} {w : World} (N : Option Tmp) (hd : oi.dst = N) (hg : oi.guard = none) {f : FuncId} {fn : Func} {o : Operand} {ais : Array Operand} {ts : Array TypeId} (hf : P.funcs[f]? = some fn) (hname : (fn.name == "runtime.NumGoroutine") = false) (hb : fn.body.isSome = true) (args caps : Array Value)
  (hop : oi.op = .call { callee := .value o, args := ais, argTypes := ts }) (ho : a.eval o = .func (.func f) #[] caps) (hargs : ais.map a.eval = args)
  (h : Calls P f (args ++ caps) w fun e w' => ∃ v, e = .returned v ∧ wpList P ops Q rest (a.put N v) w') : wpList P ops Q (oi :: rest) a w := by
 refine wpList_plain hg fun K hK => ?_
 have he := enters_ hf hname hb (args ++ caps) w
 have hrun : (execOp a.eval oi).run P w = .ok (.enter f (args ++ caps)) w := by
  unfold execOp
  simp only [hop, resolve, ho, hargs]
  simp [Deferred.ofValue, invoke, he]
 unfold Oper.wp
 rw [hrun, Oper.upon_enter]
 refine h.mono fun e w'' hh => ?_
 obtain ⟨v, rfl, hk⟩ := hh
 subst hd
 exact hK _ _ hk
end
set_option maxHeartbeats 4000000 in
set_option maxRecDepth 100000 in
theorem made_gen (w : World) (a0 : Bool) (a1 a2 a3 a4 a5 : Int) {f : FuncId} {fn : Func} (hfn : Try.prog.funcs[f]? = some fn) (hname : (fn.name == "runtime.NumGoroutine") = false) (hbody : fn.body.isSome = true) (caps : Array Value) (A : Option Addr) (cc : Nat) (l : List S46) (e : Int) (n0 : Bool) (n1 n2 n3 n4 n5 : Int) (r1 : Bool) (r2 r3 r4 r5 r6 r7 : Int) (hr : Kd.C k46 w A l.length l) (hc : l.length ≤ cc) (hf : derive_first.f 20 l = some e)
  (hclo : ∀ (w3 : World) (g : Nat), Below w.heap.size w w3 → w.heap.size ≤ g → w3.heap[g]? = some (.cells #[.bool a0, .int .i64 a1, .int .i64 a2, .int .i64 a3, .int .i64 a4, .int .i64 a5] 23 (0, 0)) → Calls Try.prog f (#[.pointer (some ⟨g, 0, none⟩)] ++ caps) w3 fun q w' => q = .returned (.tuple #[]) ∧ w'.heap[g]? = some (.cells #[.bool n0, .int .i64 n1, .int .i64 n2, .int .i64 n3, .int .i64 n4, .int .i64 n5] 23 (0, 0)) ∧ w3.heap.size ≤ w'.heap.size ∧ (∀ (W : World) (B : Nat), B ≤ g → Below B W w3 → Below B W w') ∧ ∀ k, k < w3.heap.size → k ≠ g → w'.heap[k]? = w3.heap[k]?)
  (h : (if e = 0 then some (n0, n1, n2, n3, n4, n5, (0 : Int)) else some (false, (0 : Int), (0 : Int), (0 : Int), (0 : Int), (0 : Int), e)) = some (r1, r2, r3, r4, r5, r6, r7)) :
  Calls Try.prog 30 #[.agg #[.bool a0, .int .i64 a1, .int .i64 a2, .int .i64 a3, .int .i64 a4, .int .i64 a5], .func (.func f) #[] caps, .slice A l.length cc] w fun q w' => q = .returned (.tuple #[.agg #[.bool r1, .int .i64 r2, .int .i64 r3, .int .i64 r4, .int .i64 r5, .int .i64 r6], .int .i64 r7]) ∧ Below w.heap.size w w' := by
 have hu23 := Try.underlying23
 have HR := Aside0.mk hr
 have HC := Aside0.mk hc
 have HF := Aside0.mk hf
 have HFN := Aside0.mk hfn
 have HNM := Aside0.mk hname
 have HBD := Aside0.mk hbody
 have HCL := Aside0.mk hclo
 clear hr hc hf hfn hname hbody hclo
 by_cases he : e = 0
 rotate_left
 ·rw [if_neg he] at h
  have heb0 : (e == 0) = false := beq_eq_false_iff_ne.mpr he
  have heb1 : (e != 0) = true := bne_iff_ne.mpr he
  simp only [Option.some.injEq, Prod.mk.injEq] at h
  obtain ⟨rfl, rfl, rfl, rfl, rfl, rfl, rfl⟩ := h
  go_enter Try.func30, Try.ntmps30
  go_wp2_with (first | ((with_reducible refine gate_dst (N := 3) rfl ?_); refine box_event ?hg (N := 3) ?hd (cs := #[.bool a0, .int .i64 a1, .int .i64 a2, .int .i64 a3, .int .i64 a4, .int .i64 a5]) (t := 23) ?hr ?_; (case hd => rfl); (case hg => rfl); (case hr => first | (go_simp; done) | (go_simp; rfl)); intro gb hggb w1 hxgb hygb; have Egb := Aside0.mk hggb; clear hggb; have HB1 := below_step (Below.refl w.heap.size w) hygb) | ((with_reducible refine gate_dst (N := 6) rfl ?_); refine box_event ?hg (N := 6) ?hd (cs := #[.bool false, .int .i64 0, .int .i64 0, .int .i64 0, .int .i64 0, .int .i64 0]) (t := 23) ?hr ?_; (case hd => rfl); (case hg => rfl); (case hr => first | (go_simp; done) | (go_simp; rfl)); intro gR hggR w2 hxgR hygR; have EgR := Aside0.mk hggR; clear hggR; have BK2 := blk_below hxgb hygR; have HB2 := below_step HB1 hygR) | ((with_reducible refine gate_callee (f := 55) rfl ?_); refine goesL_ (some 10) rfl rfl Try.func55 (by kernel_rfl) rfl #[.slice A l.length cc] rfl (by (try simp only [List.map_toArray, List.map_cons, List.map_nil]); first | done | rfl) ?_; (with_reducible refine (derive_first.calls 20 A cc l e _ (Kd.C_below HR.out HB2) HC.out HF.out).mono ?_); rintro q w3 ⟨rfl, hb3⟩; refine ⟨_, rfl, ?_⟩; have BK3 := blk_below BK2 hb3; have BR3 := blk_below hxgR hb3; have HB3 := below_step HB2 hb3; have cR0 : w3.cell? ⟨gR, 0, none⟩ = some (.bool false) := (blk_cell BR3 0).trans rfl; have cR1 : w3.cell? ⟨gR, 1, none⟩ = some (.int .i64 0) := (blk_cell BR3 1).trans rfl; have cR2 : w3.cell? ⟨gR, 2, none⟩ = some (.int .i64 0) := (blk_cell BR3 2).trans rfl; have cR3 : w3.cell? ⟨gR, 3, none⟩ = some (.int .i64 0) := (blk_cell BR3 3).trans rfl; have cR4 : w3.cell? ⟨gR, 4, none⟩ = some (.int .i64 0) := (blk_cell BR3 4).trans rfl; have cR5 : w3.cell? ⟨gR, 5, none⟩ = some (.int .i64 0) := (blk_cell BR3 5).trans rfl; have fR0 := blk_frozen BR3 0; have fR1 := blk_frozen BR3 1; have fR2 := blk_frozen BR3 2; have fR3 := blk_frozen BR3 3; have fR4 := blk_frozen BR3 4; have fR5 := blk_frozen BR3 5))
  refine bodyPost_ret (results_ct rfl _ _ gR 23 #[.bool false, .int .i64 0, .int .i64 0, .int .i64 0, .int .i64 0, .int .i64 0] (0, 0) _ rfl (by refine blk_put (cs := #[.bool false, .int .i64 0, .int .i64 0, .int .i64 0, .int .i64 0, .int .i64 0]) ?_ 5 _ rfl; refine blk_put (cs := #[.bool false, .int .i64 0, .int .i64 0, .int .i64 0, .int .i64 0, .int .i64 0]) ?_ 4 _ rfl; refine blk_put (cs := #[.bool false, .int .i64 0, .int .i64 0, .int .i64 0, .int .i64 0, .int .i64 0]) ?_ 3 _ rfl; refine blk_put (cs := #[.bool false, .int .i64 0, .int .i64 0, .int .i64 0, .int .i64 0, .int .i64 0]) ?_ 2 _ rfl; refine blk_put (cs := #[.bool false, .int .i64 0, .int .i64 0, .int .i64 0, .int .i64 0, .int .i64 0]) ?_ 1 _ rfl; refine blk_put (cs := #[.bool false, .int .i64 0, .int .i64 0, .int .i64 0, .int .i64 0, .int .i64 0]) ?_ 0 _ rfl; exact BR3) Try.underlying23 rfl (by kernel_rfl)) rfl ?_
  exact ⟨rfl, by with_reducible repeat (first | exact HB3 | (refine below_set ?_ (by rw [EgR.out]; exact HB1.size)))⟩
 rw [if_pos he] at h
 have heb0 : (e == 0) = true := beq_iff_eq.mpr he
 have heb1 : (e != 0) = false := bne_eq_false_iff_eq.mpr he
 have HE := Aside0.mk he
 clear he
 simp only [Option.some.injEq, Prod.mk.injEq] at h
 obtain ⟨rfl, rfl, rfl, rfl, rfl, rfl, rfl⟩ := h
 go_enter Try.func30, Try.ntmps30
 go_wp2_with (first | ((with_reducible refine gate_dst (N := 3) rfl ?_); refine box_event ?hg (N := 3) ?hd (cs := #[.bool a0, .int .i64 a1, .int .i64 a2, .int .i64 a3, .int .i64 a4, .int .i64 a5]) (t := 23) ?hr ?_; (case hd => rfl); (case hg => rfl); (case hr => first | (go_simp; done) | (go_simp; rfl)); intro gb hggb w1 hxgb hygb; have Egb := Aside0.mk hggb; clear hggb; have HB1 := below_step (Below.refl w.heap.size w) hygb) | ((with_reducible refine gate_dst (N := 6) rfl ?_); refine box_event ?hg (N := 6) ?hd (cs := #[.bool false, .int .i64 0, .int .i64 0, .int .i64 0, .int .i64 0, .int .i64 0]) (t := 23) ?hr ?_; (case hd => rfl); (case hg => rfl); (case hr => first | (go_simp; done) | (go_simp; rfl)); intro gR hggR w2 hxgR hygR; have EgR := Aside0.mk hggR; clear hggR; have BK2 := blk_below hxgb hygR; have HB2 := below_step HB1 hygR) | ((with_reducible refine gate_callee (f := 55) rfl ?_); refine goesL_ (some 10) rfl rfl Try.func55 (by kernel_rfl) rfl #[.slice A l.length cc] rfl (by (try simp only [List.map_toArray, List.map_cons, List.map_nil]); first | done | rfl) ?_; (with_reducible refine (derive_first.calls 20 A cc l e _ (Kd.C_below HR.out HB2) HC.out HF.out).mono ?_); rintro q w3 ⟨rfl, hb3⟩; refine ⟨_, rfl, ?_⟩; have BK3 := blk_below BK2 hb3; have BR3 := blk_below hxgR hb3; have HB3 := below_step HB2 hb3) | ((with_reducible refine gate_dst (N := 16) rfl ?_); refine goesV_ (some 16) rfl rfl HFN.out HNM.out HBD.out #[.pointer (some ⟨gb, 0, none⟩)] caps rfl (by rfl) (by (try simp only [List.map_toArray, List.map_cons, List.map_nil]); first | done | rfl) ?_; refine (HCL.out w3 gb HB3 (by rw [Egb.out]; exact Nat.le_refl _) BK3).mono ?_; rintro q w4 ⟨rfl, BK4, hs4, hk4, hm4⟩; refine ⟨_, rfl, ?_⟩; have HB4 := hk4 w w.heap.size (by rw [Egb.out]; exact Nat.le_refl _) HB3; have BR4 := (hm4 gR (blk_lt BR3) (by rw [EgR.out]; exact Nat.ne_of_gt (blk_lt hxgb))).trans BR3; have cB0 : w4.cell? ⟨gb, 0, none⟩ = some (.bool n0) := (blk_cell BK4 0).trans rfl; have cB1 : w4.cell? ⟨gb, 1, none⟩ = some (.int .i64 n1) := (blk_cell BK4 1).trans rfl; have cB2 : w4.cell? ⟨gb, 2, none⟩ = some (.int .i64 n2) := (blk_cell BK4 2).trans rfl; have cB3 : w4.cell? ⟨gb, 3, none⟩ = some (.int .i64 n3) := (blk_cell BK4 3).trans rfl; have cB4 : w4.cell? ⟨gb, 4, none⟩ = some (.int .i64 n4) := (blk_cell BK4 4).trans rfl; have cB5 : w4.cell? ⟨gb, 5, none⟩ = some (.int .i64 n5) := (blk_cell BK4 5).trans rfl; have cR0 : w4.cell? ⟨gR, 0, none⟩ = some (.bool false) := (blk_cell BR4 0).trans rfl; have cR1 : w4.cell? ⟨gR, 1, none⟩ = some (.int .i64 0) := (blk_cell BR4 1).trans rfl; have cR2 : w4.cell? ⟨gR, 2, none⟩ = some (.int .i64 0) := (blk_cell BR4 2).trans rfl; have cR3 : w4.cell? ⟨gR, 3, none⟩ = some (.int .i64 0) := (blk_cell BR4 3).trans rfl; have cR4 : w4.cell? ⟨gR, 4, none⟩ = some (.int .i64 0) := (blk_cell BR4 4).trans rfl; have cR5 : w4.cell? ⟨gR, 5, none⟩ = some (.int .i64 0) := (blk_cell BR4 5).trans rfl; have fR0 := blk_frozen BR4 0; have fR1 := blk_frozen BR4 1; have fR2 := blk_frozen BR4 2; have fR3 := blk_frozen BR4 3; have fR4 := blk_frozen BR4 4; have fR5 := blk_frozen BR4 5))
 refine bodyPost_ret (results_ct rfl _ _ gR 23 #[.bool n0, .int .i64 n1, .int .i64 n2, .int .i64 n3, .int .i64 n4, .int .i64 n5] (0, 0) _ rfl (by refine blk_put (cs := #[.bool n0, .int .i64 n1, .int .i64 n2, .int .i64 n3, .int .i64 n4, .int .i64 0]) ?_ 5 _ rfl; refine blk_put (cs := #[.bool n0, .int .i64 n1, .int .i64 n2, .int .i64 n3, .int .i64 0, .int .i64 0]) ?_ 4 _ rfl; refine blk_put (cs := #[.bool n0, .int .i64 n1, .int .i64 n2, .int .i64 0, .int .i64 0, .int .i64 0]) ?_ 3 _ rfl; refine blk_put (cs := #[.bool n0, .int .i64 n1, .int .i64 0, .int .i64 0, .int .i64 0, .int .i64 0]) ?_ 2 _ rfl; refine blk_put (cs := #[.bool n0, .int .i64 0, .int .i64 0, .int .i64 0, .int .i64 0, .int .i64 0]) ?_ 1 _ rfl; refine blk_put (cs := #[.bool false, .int .i64 0, .int .i64 0, .int .i64 0, .int .i64 0, .int .i64 0]) ?_ 0 _ rfl; exact BR4) Try.underlying23 rfl (by kernel_rfl)) rfl ?_
 exact ⟨rfl, by with_reducible repeat (first | exact HB4 | (refine below_set ?_ (by rw [EgR.out]; exact HB1.size)))⟩
set_option maxHeartbeats 2000000 in
set_option maxRecDepth 100000 in
theorem clo_Unseal (w : World) (g : Nat) (a0 : Bool) (a1 a2 a3 a4 a5 : Int) (hb : w.heap[g]? = some (.cells #[.bool a0, .int .i64 a1, .int .i64 a2, .int .i64 a3, .int .i64 a4, .int .i64 a5] 23 (0, 0))) :
  Calls Try.prog 48 #[.pointer (some ⟨g, 0, none⟩)] w fun e w' => e = .returned (.tuple #[]) ∧ w'.heap[g]? = some (.cells #[.bool a0, .int .i64 a1, .int .i64 a2, .int .i64 a3, .int .i64 a4, .int .i64 0] 23 (0, 0)) ∧ w.heap.size ≤ w'.heap.size ∧ (∀ (W : World) (B : Nat), B ≤ g → Below B W w → Below B W w') ∧ ∀ k, k < w.heap.size → k ≠ g → w'.heap[k]? = w.heap[k]? := by
 have hu23 := Try.underlying23
 have hf := blk_frozen hb 5
 have hc : w.cell? ⟨g, 5, none⟩ = some (.int .i64 a5) := (blk_cell hb 5).trans rfl
 go_enter Try.func48, Try.ntmps48
 go_wp2
 first | go_ret | go_end0
 exact ⟨rfl, blk_put hb 5 (.int .i64 0) rfl, Nat.le_of_eq (World.size_setCell_ _ _ _).symm, fun W B hB h => h.setCell hB _, fun k _ hg => Below.heap_setCell _ ⟨g, 5, none⟩ _ k hg⟩
theorem made_Unseal (w : World) (a0 : Bool) (a1 a2 a3 a4 a5 : Int) (A : Option Addr) (cc : Nat) (l : List S46) (e : Int) (r1 : Bool) (r2 r3 r4 r5 r6 r7 : Int) (hr : Kd.C k46 w A l.length l) (hc : l.length ≤ cc) (hf : derive_first.f 20 l = some e) (h : (if e = 0 then some (a0, a1, a2, a3, a4, 0, (0 : Int)) else some (false, (0 : Int), (0 : Int), (0 : Int), (0 : Int), (0 : Int), e)) = some (r1, r2, r3, r4, r5, r6, r7)) :
  Calls Try.prog 30 #[.agg #[.bool a0, .int .i64 a1, .int .i64 a2, .int .i64 a3, .int .i64 a4, .int .i64 a5], .func (.func 48) #[] #[], .slice A l.length cc] w fun q w' => q = .returned (.tuple #[.agg #[.bool r1, .int .i64 r2, .int .i64 r3, .int .i64 r4, .int .i64 r5, .int .i64 r6], .int .i64 r7]) ∧ Below w.heap.size w w' :=
 made_gen w a0 a1 a2 a3 a4 a5 Try.func48 rfl rfl #[] A cc l e a0 a1 a2 a3 a4 0 r1 r2 r3 r4 r5 r6 r7 hr hc hf (fun w3 g hb3 hge hk => clo_Unseal w3 g a0 a1 a2 a3 a4 a5 hk) h
set_option maxHeartbeats 2000000 in
set_option maxRecDepth 100000 in
theorem clo_Enter (w : World) (g : Nat) (a0 : Bool) (a1 a2 a3 a4 a5 : Int) (hb : w.heap[g]? = some (.cells #[.bool a0, .int .i64 a1, .int .i64 a2, .int .i64 a3, .int .i64 a4, .int .i64 a5] 23 (0, 0))) :
  Calls Try.prog 49 #[.pointer (some ⟨g, 0, none⟩)] w fun e w' => e = .returned (.tuple #[]) ∧ w'.heap[g]? = some (.cells #[.bool a0, .int .i64 a1, .int .i64 a2, .int .i64 a3, .int .i64 a4, .int .i64 1] 23 (0, 0)) ∧ w.heap.size ≤ w'.heap.size ∧ (∀ (W : World) (B : Nat), B ≤ g → Below B W w → Below B W w') ∧ ∀ k, k < w.heap.size → k ≠ g → w'.heap[k]? = w.heap[k]? := by
 have hu23 := Try.underlying23
 have hf := blk_frozen hb 5
 have hc : w.cell? ⟨g, 5, none⟩ = some (.int .i64 a5) := (blk_cell hb 5).trans rfl
 go_enter Try.func49, Try.ntmps49
 go_wp2
 first | go_ret | go_end0
 exact ⟨rfl, blk_put hb 5 (.int .i64 1) rfl, Nat.le_of_eq (World.size_setCell_ _ _ _).symm, fun W B hB h => h.setCell hB _, fun k _ hg => Below.heap_setCell _ ⟨g, 5, none⟩ _ k hg⟩
theorem made_Enter (w : World) (a0 : Bool) (a1 a2 a3 a4 a5 : Int) (A : Option Addr) (cc : Nat) (l : List S46) (e : Int) (r1 : Bool) (r2 r3 r4 r5 r6 r7 : Int) (hr : Kd.C k46 w A l.length l) (hc : l.length ≤ cc) (hf : derive_first.f 20 l = some e) (h : (if e = 0 then some (a0, a1, a2, a3, a4, 1, (0 : Int)) else some (false, (0 : Int), (0 : Int), (0 : Int), (0 : Int), (0 : Int), e)) = some (r1, r2, r3, r4, r5, r6, r7)) :
  Calls Try.prog 30 #[.agg #[.bool a0, .int .i64 a1, .int .i64 a2, .int .i64 a3, .int .i64 a4, .int .i64 a5], .func (.func 49) #[] #[], .slice A l.length cc] w fun q w' => q = .returned (.tuple #[.agg #[.bool r1, .int .i64 r2, .int .i64 r3, .int .i64 r4, .int .i64 r5, .int .i64 r6], .int .i64 r7]) ∧ Below w.heap.size w w' :=
 made_gen w a0 a1 a2 a3 a4 a5 Try.func49 rfl rfl #[] A cc l e a0 a1 a2 a3 a4 1 r1 r2 r3 r4 r5 r6 r7 hr hc hf (fun w3 g hb3 hge hk => clo_Enter w3 g a0 a1 a2 a3 a4 a5 hk) h
set_option maxHeartbeats 2000000 in
set_option maxRecDepth 100000 in
theorem clo_Build (w : World) (g : Nat) (a0 : Bool) (a1 a2 a3 a4 a5 : Int) (hb : w.heap[g]? = some (.cells #[.bool a0, .int .i64 a1, .int .i64 a2, .int .i64 a3, .int .i64 a4, .int .i64 a5] 23 (0, 0))) :
  Calls Try.prog 52 #[.pointer (some ⟨g, 0, none⟩)] w fun e w' => e = .returned (.tuple #[]) ∧ w'.heap[g]? = some (.cells #[.bool true, .int .i64 a1, .int .i64 a2, .int .i64 a3, .int .i64 a4, .int .i64 a5] 23 (0, 0)) ∧ w.heap.size ≤ w'.heap.size ∧ (∀ (W : World) (B : Nat), B ≤ g → Below B W w → Below B W w') ∧ ∀ k, k < w.heap.size → k ≠ g → w'.heap[k]? = w.heap[k]? := by
 have hu23 := Try.underlying23
 have hf := blk_frozen hb 0
 have hc : w.cell? ⟨g, 0, none⟩ = some (.bool a0) := (blk_cell hb 0).trans rfl
 go_enter Try.func52, Try.ntmps52
 go_wp2
 first | go_ret | go_end0
 exact ⟨rfl, blk_put hb 0 (.bool true) rfl, Nat.le_of_eq (World.size_setCell_ _ _ _).symm, fun W B hB h => h.setCell hB _, fun k _ hg => Below.heap_setCell _ ⟨g, 0, none⟩ _ k hg⟩
theorem made_Build (w : World) (a0 : Bool) (a1 a2 a3 a4 a5 : Int) (A : Option Addr) (cc : Nat) (l : List S46) (e : Int) (r1 : Bool) (r2 r3 r4 r5 r6 r7 : Int) (hr : Kd.C k46 w A l.length l) (hc : l.length ≤ cc) (hf : derive_first.f 20 l = some e) (h : (if e = 0 then some (true, a1, a2, a3, a4, a5, (0 : Int)) else some (false, (0 : Int), (0 : Int), (0 : Int), (0 : Int), (0 : Int), e)) = some (r1, r2, r3, r4, r5, r6, r7)) :
  Calls Try.prog 30 #[.agg #[.bool a0, .int .i64 a1, .int .i64 a2, .int .i64 a3, .int .i64 a4, .int .i64 a5], .func (.func 52) #[] #[], .slice A l.length cc] w fun q w' => q = .returned (.tuple #[.agg #[.bool r1, .int .i64 r2, .int .i64 r3, .int .i64 r4, .int .i64 r5, .int .i64 r6], .int .i64 r7]) ∧ Below w.heap.size w w' :=
 made_gen w a0 a1 a2 a3 a4 a5 Try.func52 rfl rfl #[] A cc l e true a1 a2 a3 a4 a5 r1 r2 r3 r4 r5 r6 r7 hr hc hf (fun w3 g hb3 hge hk => clo_Build w3 g a0 a1 a2 a3 a4 a5 hk) h
set_option maxHeartbeats 2000000 in
set_option maxRecDepth 100000 in
theorem clo_Seal (w : World) (g : Nat) (a0 : Bool) (a1 a2 a3 a4 a5 : Int) (b : Nat) (b0 : Bool) (b1 : Int) (b2 : Int) (b3 : Int) (b4 : Int) (b5 : Int) (hb : w.heap[g]? = some (.cells #[.bool a0, .int .i64 a1, .int .i64 a2, .int .i64 a3, .int .i64 a4, .int .i64 a5] 23 (0, 0))) (hn : w.heap[b]? = some (.cells #[.bool b0, .int .i64 b1, .int .i64 b2, .int .i64 b3, .int .i64 b4, .int .i64 b5] 23 (0, 0))) (hne : b ≠ g) :
  Calls Try.prog 43 #[.pointer (some ⟨g, 0, none⟩), .pointer (some ⟨b, 0, none⟩)] w fun e w' => e = .returned (.tuple #[]) ∧ w'.heap[g]? = some (.cells #[.bool a0, .int .i64 a1, .int .i64 a2, .int .i64 a3, .int .i64 a4, .int .i64 b3] 23 (0, 0)) ∧ w.heap.size ≤ w'.heap.size ∧ (∀ (W : World) (B : Nat), B ≤ g → Below B W w → Below B W w') ∧ ∀ k, k < w.heap.size → k ≠ g → w'.heap[k]? = w.heap[k]? := by
 have hu23 := Try.underlying23
 have hf := blk_frozen hb 5
 have hc : w.cell? ⟨g, 5, none⟩ = some (.int .i64 a5) := (blk_cell hb 5).trans rfl
 have hr := blk_cell hn 3
 have hr2 : w.cell? ⟨b, 3, none⟩ = some (.int .i64 b3) := hr.trans rfl
 clear hr
 go_enter Try.func43, Try.ntmps43
 go_wp2
 first | go_ret | go_end0
 exact ⟨rfl, blk_put hb 5 (.int .i64 b3) rfl, Nat.le_of_eq (World.size_setCell_ _ _ _).symm, fun W B hB h => h.setCell hB _, fun k _ hg => Below.heap_setCell _ ⟨g, 5, none⟩ _ k hg⟩
theorem made_Seal (w : World) (a0 : Bool) (a1 a2 a3 a4 a5 : Int) (b : Nat) (b0 : Bool) (b1 : Int) (b2 : Int) (b3 : Int) (b4 : Int) (b5 : Int) (A : Option Addr) (cc : Nat) (l : List S46) (e : Int) (r1 : Bool) (r2 r3 r4 r5 r6 r7 : Int) (hr : Kd.C k46 w A l.length l) (hc : l.length ≤ cc) (hf : derive_first.f 20 l = some e) (hn : w.heap[b]? = some (.cells #[.bool b0, .int .i64 b1, .int .i64 b2, .int .i64 b3, .int .i64 b4, .int .i64 b5] 23 (0, 0))) (h : (if e = 0 then some (a0, a1, a2, a3, a4, b3, (0 : Int)) else some (false, (0 : Int), (0 : Int), (0 : Int), (0 : Int), (0 : Int), e)) = some (r1, r2, r3, r4, r5, r6, r7)) :
  Calls Try.prog 30 #[.agg #[.bool a0, .int .i64 a1, .int .i64 a2, .int .i64 a3, .int .i64 a4, .int .i64 a5], .func (.func 43) #[] #[.pointer (some ⟨b, 0, none⟩)], .slice A l.length cc] w fun q w' => q = .returned (.tuple #[.agg #[.bool r1, .int .i64 r2, .int .i64 r3, .int .i64 r4, .int .i64 r5, .int .i64 r6], .int .i64 r7]) ∧ Below w.heap.size w w' :=
 made_gen w a0 a1 a2 a3 a4 a5 Try.func43 rfl rfl #[.pointer (some ⟨b, 0, none⟩)] A cc l e a0 a1 a2 a3 a4 b3 r1 r2 r3 r4 r5 r6 r7 hr hc hf (fun w3 g hb3 hge hk => clo_Seal w3 g a0 a1 a2 a3 a4 a5 b b0 b1 b2 b3 b4 b5 hk (blk_below hn hb3) (Nat.ne_of_lt (Nat.lt_of_lt_of_le (blk_lt hn) hge))) h
def clo_Bounds.T0 : Bool × List (List Nat × List Nat) := (true, [([], []), ([], []), ([], []), ([2], [2]), ([3], [3]), ([4], [4]), ([], []), ([6], [6]), ([7], [7]), ([8], [8]), ([], []), ([9, 10], [9, 10]), ([0, 0, 2, 3, 4, 5, 9], [0]), ([12, 0, 2, 3, 4, 5, 9], [12]), ([13, 5, 0, 2, 3, 4, 5, 9], [5, 13]), ([1, 0, 1, 2, 3, 4, 5, 6, 7, 8, 9, 10, 11, 12, 13, 14], [1]), ([15, 0, 1, 2, 3, 4, 5, 6, 7, 8, 9, 10, 11, 12, 13, 14], [15]), ([16, 11, 14, 0, 1, 2, 3, 4, 5, 6, 7, 8, 9, 10, 11, 12, 13, 14], [11, 16])])
def clo_Bounds.B0 : List Nat := [0, 0, 0, 4, 12, 28, 0, 64, 192, 448, 0, 1984, 1021, 5117, 13309, 32767, 65535, 131071]
theorem clo_Bounds.tab0 : rtab .any (opsOf Try.f31 0) = clo_Bounds.T0 := by kernel_rfl
theorem clo_Bounds.bits0 : waitsOk clo_Bounds.T0.2 clo_Bounds.B0 = true := by kernel_rfl
set_option maxHeartbeats 2000000 in
set_option maxRecDepth 100000 in
theorem clo_Bounds (w : World) (g : Nat) (a0 : Bool) (a1 a2 a3 a4 a5 : Int) (b : Nat) (n : Int) (hb : w.heap[g]? = some (.cells #[.bool a0, .int .i64 a1, .int .i64 a2, .int .i64 a3, .int .i64 a4, .int .i64 a5] 23 (0, 0))) (hn : w.heap[b]? = some (.cells #[.int .i64 n] 3 (0, 0))) (hne : b ≠ g) :
  Calls Try.prog 31 #[.pointer (some ⟨g, 0, none⟩), .pointer (some ⟨b, 0, none⟩)] w fun e w' => e = .returned (.tuple #[]) ∧ w'.heap[g]? = some (.cells #[.bool a0, .int .i64 a3, .int .i64 (wrap64 (a3 + n)), .int .i64 a3, .int .i64 a4, .int .i64 a5] 23 (0, 0)) ∧ w.heap.size ≤ w'.heap.size ∧ (∀ (W : World) (B : Nat), B ≤ g → Below B W w → Below B W w') ∧ ∀ k, k < w.heap.size → k ≠ g → w'.heap[k]? = w.heap[k]? := by
 have hu23 := Try.underlying23
 have BK := Aside0.mk (blk_drew hb)
 have BN := Aside0.mk (blk_drew hn)
 have HB := Aside0.mk (show ∀ (W : World) (B : Nat), B ≤ g → Below B W w → Below B W w.drew from fun W B hB h => h.drew)
 have HS := Aside0.mk (show w.drew.heap.size = w.heap.size from rfl)
 have HK := Aside0.mk (show ∀ k, k < w.heap.size → k ≠ g → w.drew.heap[k]? = w.heap[k]? from fun k _ _ => rfl)
 clear hb hn
 go_enter Try.func31, Try.ntmps31
 try go_wp2_with fail
 refine start_ (n := 18) (S := fun w' => w'.cell? ⟨g, 3, none⟩ = some (.int .i64 a3) ∧ w'.cell? ⟨g, 4, none⟩ = some (.int .i64 a4) ∧ w'.cell? ⟨b, 0, none⟩ = some (.int .i64 n)) (ds := []) m5_0 (by kernel_rfl) rfl rfl ⟨q7_ BK 3 rfl, q7_ BK 4 rfl, q7_ BN 0 rfl⟩ (fun hHeld => ?_); refine with_tabW clo_Bounds.tab0 clo_Bounds.bits0 (fun HT_ HW_ => ?_)
 generalize w.drew = w1 at BK BN HB HS HK hHeld ⊢
 refine pure_ (i := 0) (N := some 3) (v := ?_) (a' := ?_) m5_1 rfl rfl (any_of HT_.out (by kernel_rfl)) (fun _ _ _ h => h) (Or.inl ⟨by rfl, ?_⟩) ?_ ?_
 rotate_left
 ·intro w'
  go_simp
  with_reducible rfl
 rotate_left
 ·simp only [Act.put, q4_, q5_, q6_, i64_w, i32_w]
  rfl
 refine pure_ (i := 1) (N := some 4) (v := ?_) (a' := ?_) m5_2 rfl rfl (any_of HT_.out (by kernel_rfl)) (fun _ _ _ h => h) (Or.inl ⟨by rfl, ?_⟩) ?_ ?_
 rotate_left
 ·intro w'
  go_simp
  with_reducible rfl
 rotate_left
 ·simp only [Act.put, q4_, q5_, q6_, i64_w, i32_w]
  rfl
 refine pure_ (i := 2) (N := some 5) (v := ?_) (a' := ?_) m5_3 rfl rfl (any_of HT_.out (by kernel_rfl)) (fun _ _ _ h => h) (Or.inl ⟨by rfl, ?_⟩) ?_ ?_
 rotate_left
 ·intro w'
  go_simp
  with_reducible rfl
 rotate_left
 ·simp only [Act.put, q4_, q5_, q6_, i64_w, i32_w]
  rfl
 refine pure_ (i := 3) (N := some 6) (v := ?_) (a' := ?_) m5_4 rfl rfl (any_of HT_.out (by kernel_rfl)) (fun _ _ _ h => h) (Or.inl ⟨by rfl, ?_⟩) ?_ ?_
 rotate_left
 ·intro w'
  go_simp
  with_reducible rfl
 rotate_left
 ·simp only [Act.put, q4_, q5_, q6_, i64_w, i32_w]
  rfl
 refine pure_ (i := 4) (N := some 7) (v := ?_) (a' := ?_) m5_5 rfl rfl (any_of HT_.out (by kernel_rfl)) (fun _ _ _ h => h) (Or.inl ⟨by rfl, ?_⟩) ?_ ?_
 rotate_left
 ·intro w'
  go_simp
  with_reducible rfl
 rotate_left
 ·simp only [Act.put, q4_, q5_, q6_, i64_w, i32_w]
  rfl
 refine take_ (i := 5) (N := some 8) (v := ?_) (a' := ?_) m5_6 rfl rfl (take_ofW HT_.out HW_.out (by kernel_rfl)) (fun _ _ _ h => h) (Or.inl ⟨by rfl, ?_⟩) hHeld ?_ ?_
 rotate_left
 ·rintro w' ⟨s0, s1, s2⟩
  go_simp
  with_reducible rfl
 rotate_left
 ·simp only [Act.put, q4_, q5_, q6_, i64_w, i32_w]
  rfl
 refine pure_ (i := 6) (N := some 9) (v := ?_) (a' := ?_) m5_7 rfl rfl (any_of HT_.out (by kernel_rfl)) (fun _ _ _ h => h) (Or.inl ⟨by rfl, ?_⟩) ?_ ?_
 rotate_left
 ·intro w'
  go_simp
  with_reducible rfl
 rotate_left
 ·simp only [Act.put, q4_, q5_, q6_, i64_w, i32_w]
  rfl
 refine pure_ (i := 7) (N := some 10) (v := ?_) (a' := ?_) m5_8 rfl rfl (any_of HT_.out (by kernel_rfl)) (fun _ _ _ h => h) (Or.inl ⟨by rfl, ?_⟩) ?_ ?_
 rotate_left
 ·intro w'
  go_simp
  with_reducible rfl
 rotate_left
 ·simp only [Act.put, q4_, q5_, q6_, i64_w, i32_w]
  rfl
 refine pure_ (i := 8) (N := some 11) (v := ?_) (a' := ?_) m5_9 rfl rfl (any_of HT_.out (by kernel_rfl)) (fun _ _ _ h => h) (Or.inl ⟨by rfl, ?_⟩) ?_ ?_
 rotate_left
 ·intro w'
  go_simp
  with_reducible rfl
 rotate_left
 ·simp only [Act.put, q4_, q5_, q6_, i64_w, i32_w]
  rfl
 refine take_ (i := 9) (N := some 12) (v := ?_) (a' := ?_) m5_10 rfl rfl (take_ofW HT_.out HW_.out (by kernel_rfl)) (fun _ _ _ h => h) (Or.inl ⟨by rfl, ?_⟩) hHeld ?_ ?_
 rotate_left
 ·rintro w' ⟨s0, s1, s2⟩
  go_simp
  with_reducible rfl
 rotate_left
 ·simp only [Act.put, q4_, q5_, q6_, i64_w, i32_w]
  rfl
 refine take_ (i := 10) (N := some 13) (v := ?_) (a' := ?_) m5_11 rfl rfl (take_ofW HT_.out HW_.out (by kernel_rfl)) (fun _ _ _ h => h) (Or.inl ⟨by rfl, ?_⟩) hHeld ?_ ?_
 rotate_left
 ·rintro w' ⟨s0, s1, s2⟩
  go_simp
  with_reducible rfl
 rotate_left
 ·simp only [Act.put, q4_, q5_, q6_, i64_w, i32_w]
  rfl
 refine pure_ (i := 11) (N := some 14) (v := ?_) (a' := ?_) m5_12 rfl rfl (any_of HT_.out (by kernel_rfl)) (fun _ _ _ h => h) (Or.inl ⟨by rfl, ?_⟩) ?_ ?_
 rotate_left
 ·intro w'
  go_simp
  with_reducible rfl
 rotate_left
 ·simp only [Act.put, q4_, q5_, q6_, i64_w, i32_w]
  rfl
 refine pure_ (i := 12) (N := some 15) (v := ?_) (a' := ?_) m5_13 rfl rfl (any_of HT_.out (by kernel_rfl)) (fun _ _ _ h => h) (Or.inl ⟨by rfl, ?_⟩) ?_ ?_
 rotate_left
 ·intro w'
  go_simp
  with_reducible rfl
 rotate_left
 ·simp only [Act.put, q4_, q5_, q6_, i64_w, i32_w]
  rfl
 refine pure_ (i := 13) (N := some 16) (v := ?_) (a' := ?_) m5_14 rfl rfl (any_of HT_.out (by kernel_rfl)) (fun _ _ _ h => h) (Or.inl ⟨by rfl, ?_⟩) ?_ ?_
 rotate_left
 ·intro w'
  go_simp
  with_reducible rfl
 rotate_left
 ·simp only [Act.put, q4_, q5_, q6_, i64_w, i32_w]
  rfl
 refine one_ (i := 14) (N := none) m5_15 rfl rfl (one_of HT_.out (by kernel_rfl)) (by decide) (fun K hK => ?_)
 have hfr := blk_frozen BK.out 1
 have hcr : World.cell? _ ⟨g, 1, none⟩ = some (.int .i64 a1) := q7_ BK 1 rfl
 refine skip_ (w1 := ?_) (by rfl) rfl ?_ ?_
 rotate_left
 ·go_simp
  rfl
 clear hfr hcr
 have n0_ := Aside0.mk (blk_put (cs' := #[.bool a0, .int .i64 a3, .int .i64 a2, .int .i64 a3, .int .i64 a4, .int .i64 a5]) BK.out 1 (.int .i64 a3) rfl)
 have n1_ := Aside0.mk (blk_far BN.out hne (p := ⟨g, 1, none⟩) (.int .i64 a3))
 have n2_ := Aside0.mk (show ∀ (W : World) (B : Nat), B ≤ g → Below B W w → Below B W (_ : World) from fun W B hB h => (HB.out W B hB h).setCell (p := ⟨g, 1, none⟩) hB (.int .i64 a3))
 have n4_ := Aside0.mk (show ∀ k, k < w.heap.size → k ≠ g → ((_ : World).setCell ⟨g, 1, none⟩ (.int .i64 a3)).heap[k]? = w.heap[k]? from fun k hk hg => (Below.heap_setCell _ ⟨g, 1, none⟩ _ k hg).trans (HK.out k hk hg))
 have n3_ := Aside0.mk (show ((_ : World).setCell ⟨g, 1, none⟩ (.int .i64 a3)).heap.size = w.heap.size from (World.size_setCell_ _ _ _).trans HS.out)
 clear BK BN HB HS HK
 have BK := n0_
 have BN := n1_
 have HB := n2_
 have HS := n3_
 have HK := n4_
 clear n0_ n1_ n2_ n3_ n4_
 refine hK.out _ _ ⟨q7_ BK 3 rfl, q7_ BK 4 rfl, q7_ BN 0 rfl⟩ (fun hHeld => ?_)
 clear hK K
 refine pure_ (i := 15) (N := some 17) (v := ?_) (a' := ?_) m5_16 rfl rfl (any_of HT_.out (by kernel_rfl)) (fun _ _ _ h => h) (Or.inl ⟨by rfl, ?_⟩) ?_ ?_
 rotate_left
 ·intro w'
  go_simp
  with_reducible rfl
 rotate_left
 ·simp only [Act.put, q4_, q5_, q6_, i64_w, i32_w]
  rfl
 refine pure_ (i := 16) (N := some 18) (v := ?_) (a' := ?_) m5_17 rfl rfl (any_of HT_.out (by kernel_rfl)) (fun _ _ _ h => h) (Or.inl ⟨by rfl, ?_⟩) ?_ ?_
 rotate_left
 ·intro w'
  go_simp
  with_reducible rfl
 rotate_left
 ·simp only [Act.put, q4_, q5_, q6_, i64_w, i32_w]
  rfl
 refine one_ (i := 17) (N := none) m5_18 rfl rfl (one_of HT_.out (by kernel_rfl)) (by decide) (fun K hK => ?_)
 have hfr := blk_frozen BK.out 2
 have hcr : World.cell? _ ⟨g, 2, none⟩ = some (.int .i64 a2) := q7_ BK 2 rfl
 refine skip_ (w1 := ?_) (by rfl) rfl ?_ ?_
 rotate_left
 ·go_simp
  rfl
 clear hfr hcr
 have n0_ := Aside0.mk (blk_put (cs' := #[.bool a0, .int .i64 a3, .int .i64 (wrap64 (a3 + n)), .int .i64 a3, .int .i64 a4, .int .i64 a5]) BK.out 2 (.int .i64 (wrap64 (a3 + n))) rfl)
 have n1_ := Aside0.mk (blk_far BN.out hne (p := ⟨g, 2, none⟩) (.int .i64 (wrap64 (a3 + n))))
 have n2_ := Aside0.mk (show ∀ (W : World) (B : Nat), B ≤ g → Below B W w → Below B W (_ : World) from fun W B hB h => (HB.out W B hB h).setCell (p := ⟨g, 2, none⟩) hB (.int .i64 (wrap64 (a3 + n))))
 have n4_ := Aside0.mk (show ∀ k, k < w.heap.size → k ≠ g → ((_ : World).setCell ⟨g, 2, none⟩ (.int .i64 (wrap64 (a3 + n)))).heap[k]? = w.heap[k]? from fun k hk hg => (Below.heap_setCell _ ⟨g, 2, none⟩ _ k hg).trans (HK.out k hk hg))
 have n3_ := Aside0.mk (show ((_ : World).setCell ⟨g, 2, none⟩ (.int .i64 (wrap64 (a3 + n)))).heap.size = w.heap.size from (World.size_setCell_ _ _ _).trans HS.out)
 clear BK BN HB HS HK
 have BK := n0_
 have BN := n1_
 have HB := n2_
 have HS := n3_
 have HK := n4_
 clear n0_ n1_ n2_ n3_ n4_
 refine hK.out _ _ ⟨q7_ BK 3 rfl, q7_ BK 4 rfl, q7_ BN 0 rfl⟩ (fun hHeld => ?_)
 clear hK K
 refine done_ (done_of HT_.out (by kernel_rfl)) ?_
 try go_wp2
 first | go_ret | go_end0
 exact ⟨rfl, BK.out, Nat.le_of_eq HS.out.symm, HB.out, HK.out⟩
theorem made_Bounds (w : World) (a0 : Bool) (a1 a2 a3 a4 a5 : Int) (b : Nat) (n : Int) (A : Option Addr) (cc : Nat) (l : List S46) (e : Int) (r1 : Bool) (r2 r3 r4 r5 r6 r7 : Int) (hr : Kd.C k46 w A l.length l) (hc : l.length ≤ cc) (hf : derive_first.f 20 l = some e) (hn : w.heap[b]? = some (.cells #[.int .i64 n] 3 (0, 0))) (h : (if e = 0 then some (a0, a3, (wrap64 (a3 + n)), a3, a4, a5, (0 : Int)) else some (false, (0 : Int), (0 : Int), (0 : Int), (0 : Int), (0 : Int), e)) = some (r1, r2, r3, r4, r5, r6, r7)) :
  Calls Try.prog 30 #[.agg #[.bool a0, .int .i64 a1, .int .i64 a2, .int .i64 a3, .int .i64 a4, .int .i64 a5], .func (.func 31) #[] #[.pointer (some ⟨b, 0, none⟩)], .slice A l.length cc] w fun q w' => q = .returned (.tuple #[.agg #[.bool r1, .int .i64 r2, .int .i64 r3, .int .i64 r4, .int .i64 r5, .int .i64 r6], .int .i64 r7]) ∧ Below w.heap.size w w' :=
 made_gen w a0 a1 a2 a3 a4 a5 Try.func31 rfl rfl #[.pointer (some ⟨b, 0, none⟩)] A cc l e a0 a3 (wrap64 (a3 + n)) a3 a4 a5 r1 r2 r3 r4 r5 r6 r7 hr hc hf (fun w3 g hb3 hge hk => clo_Bounds w3 g a0 a1 a2 a3 a4 a5 b n hk (blk_below hn hb3) (Nat.ne_of_lt (Nat.lt_of_lt_of_le (blk_lt hn) hge))) h
def clo_Perms.T0 : Bool × List (List Nat × List Nat) := (true, [([], []), ([0], [0]), ([1], [1]), ([2], [2]), ([], []), ([3, 4], [3, 4]), ([0, 0, 1, 2, 3, 4, 5], [0]), ([6, 0, 1, 2, 3, 4, 5], [6]), ([7, 5, 0, 1, 2, 3, 4, 5], [5, 7])])
def clo_Perms.B0 : List Nat := [0, 1, 3, 7, 0, 31, 63, 127, 255]
theorem clo_Perms.tab0 : rtab .any (opsOf Try.f35 0) = clo_Perms.T0 := by kernel_rfl
theorem clo_Perms.bits0 : waitsOk clo_Perms.T0.2 clo_Perms.B0 = true := by kernel_rfl
set_option maxHeartbeats 2000000 in
set_option maxRecDepth 100000 in
theorem clo_Perms (w : World) (g : Nat) (a0 : Bool) (a1 a2 a3 a4 a5 : Int) (b : Nat) (n : Int) (hb : w.heap[g]? = some (.cells #[.bool a0, .int .i64 a1, .int .i64 a2, .int .i64 a3, .int .i64 a4, .int .i64 a5] 23 (0, 0))) (hn : w.heap[b]? = some (.cells #[.int .i64 n] 3 (0, 0))) (hne : b ≠ g) :
  Calls Try.prog 35 #[.pointer (some ⟨g, 0, none⟩), .pointer (some ⟨b, 0, none⟩)] w fun e w' => e = .returned (.tuple #[]) ∧ w'.heap[g]? = some (.cells #[.bool a0, .int .i64 a1, .int .i64 a2, .int .i64 a3, .int .i64 (Go.bits .and .i64 a4 n), .int .i64 a5] 23 (0, 0)) ∧ w.heap.size ≤ w'.heap.size ∧ (∀ (W : World) (B : Nat), B ≤ g → Below B W w → Below B W w') ∧ ∀ k, k < w.heap.size → k ≠ g → w'.heap[k]? = w.heap[k]? := by
 have hu23 := Try.underlying23
 have BK := Aside0.mk (blk_drew hb)
 have BN := Aside0.mk (blk_drew hn)
 have HB := Aside0.mk (show ∀ (W : World) (B : Nat), B ≤ g → Below B W w → Below B W w.drew from fun W B hB h => h.drew)
 have HS := Aside0.mk (show w.drew.heap.size = w.heap.size from rfl)
 have HK := Aside0.mk (show ∀ k, k < w.heap.size → k ≠ g → w.drew.heap[k]? = w.heap[k]? from fun k _ _ => rfl)
 clear hb hn
 go_enter Try.func35, Try.ntmps35
 try go_wp2_with fail
 refine start_ (n := 9) (S := fun w' => w'.cell? ⟨b, 0, none⟩ = some (.int .i64 n) ∧ True) (ds := []) m5_19 (by kernel_rfl) rfl rfl ⟨q7_ BN 0 rfl, trivial⟩ (fun hHeld => ?_); refine with_tabW clo_Perms.tab0 clo_Perms.bits0 (fun HT_ HW_ => ?_)
 generalize w.drew = w1 at BK BN HB HS HK hHeld ⊢
 refine pure_ (i := 0) (N := some 3) (v := ?_) (a' := ?_) m5_20 rfl rfl (any_of HT_.out (by kernel_rfl)) (fun _ _ _ h => h) (Or.inl ⟨by rfl, ?_⟩) ?_ ?_
 rotate_left
 ·intro w'
  go_simp
  with_reducible rfl
 rotate_left
 ·simp only [Act.put, q4_, q5_, q6_, i64_w, i32_w]
  rfl
 refine pure_ (i := 1) (N := some 4) (v := ?_) (a' := ?_) m5_21 rfl rfl (any_of HT_.out (by kernel_rfl)) (fun _ _ _ h => h) (Or.inl ⟨by rfl, ?_⟩) ?_ ?_
 rotate_left
 ·intro w'
  go_simp
  with_reducible rfl
 rotate_left
 ·simp only [Act.put, q4_, q5_, q6_, i64_w, i32_w]
  rfl
 refine pure_ (i := 2) (N := some 5) (v := ?_) (a' := ?_) m5_22 rfl rfl (any_of HT_.out (by kernel_rfl)) (fun _ _ _ h => h) (Or.inl ⟨by rfl, ?_⟩) ?_ ?_
 rotate_left
 ·intro w'
  go_simp
  with_reducible rfl
 rotate_left
 ·simp only [Act.put, q4_, q5_, q6_, i64_w, i32_w]
  rfl
 refine take_ (i := 4) (N := some 7) (v := ?_) (a' := ?_) m5_23 rfl rfl (take_ofW HT_.out HW_.out (by kernel_rfl)) (fun _ _ _ h => h) (Or.inl ⟨by rfl, ?_⟩) hHeld ?_ ?_
 rotate_left
 ·rintro w' ⟨s0, s1⟩
  go_simp
  with_reducible rfl
 rotate_left
 ·simp only [Act.put, q4_, q5_, q6_, i64_w, i32_w]
  rfl
 refine one_ (i := 3) (N := some 6) m5_24 rfl rfl (one_of HT_.out (by kernel_rfl)) (by decide) (fun K hK => ?_)
 have hcr : World.cell? _ ⟨g, 4, none⟩ = some (.int .i64 a4) := q7_ BK 4 rfl
 refine value_ (w1 := ?_) (v := ?_) (by rfl) rfl ?_ ?_
 rotate_left 2
 ·go_simp
  constructor
  ·rfl
  ·rfl
 clear hcr
 refine hK.out _ _ ⟨q7_ BN 0 rfl, trivial⟩ (fun hHeld => ?_)
 clear hK K
 refine norm_ (a' := ?_) ?_ ?_
 rotate_left
 ·show Act.put _ (some 6) _ = _
  simp only [Act.put, q4_, q5_, q6_, i64_w, i32_w]
  rfl
 refine pure_ (i := 5) (N := some 8) (v := ?_) (a' := ?_) m5_25 rfl rfl (any_of HT_.out (by kernel_rfl)) (fun _ _ _ h => h) (Or.inl ⟨by rfl, ?_⟩) ?_ ?_
 rotate_left
 ·intro w'
  go_simp
  with_reducible rfl
 rotate_left
 ·simp only [Act.put, q4_, q5_, q6_, i64_w, i32_w]
  rfl
 refine pure_ (i := 6) (N := some 9) (v := ?_) (a' := ?_) m5_26 rfl rfl (any_of HT_.out (by kernel_rfl)) (fun _ _ _ h => h) (Or.inl ⟨by rfl, ?_⟩) ?_ ?_
 rotate_left
 ·intro w'
  go_simp
  with_reducible rfl
 rotate_left
 ·simp only [Act.put, q4_, q5_, q6_, i64_w, i32_w]
  rfl
 refine pure_ (i := 7) (N := some 10) (v := ?_) (a' := ?_) m5_27 rfl rfl (any_of HT_.out (by kernel_rfl)) (fun _ _ _ h => h) (Or.inl ⟨by rfl, ?_⟩) ?_ ?_
 rotate_left
 ·intro w'
  go_simp
  with_reducible rfl
 rotate_left
 ·simp only [Act.put, q4_, q5_, q6_, i64_w, i32_w]
  rfl
 refine one_ (i := 8) (N := none) m5_28 rfl rfl (one_of HT_.out (by kernel_rfl)) (by decide) (fun K hK => ?_)
 have hfr := blk_frozen BK.out 4
 have hcr : World.cell? _ ⟨g, 4, none⟩ = some (.int .i64 a4) := q7_ BK 4 rfl
 refine skip_ (w1 := ?_) (by rfl) rfl ?_ ?_
 rotate_left
 ·go_simp
  rfl
 clear hfr hcr
 have n0_ := Aside0.mk (blk_put (cs' := #[.bool a0, .int .i64 a1, .int .i64 a2, .int .i64 a3, .int .i64 (Go.bits .and .i64 a4 n), .int .i64 a5]) BK.out 4 (.int .i64 (Go.bits .and .i64 a4 n)) rfl)
 have n1_ := Aside0.mk (blk_far BN.out hne (p := ⟨g, 4, none⟩) (.int .i64 (Go.bits .and .i64 a4 n)))
 have n2_ := Aside0.mk (show ∀ (W : World) (B : Nat), B ≤ g → Below B W w → Below B W (_ : World) from fun W B hB h => (HB.out W B hB h).setCell (p := ⟨g, 4, none⟩) hB (.int .i64 (Go.bits .and .i64 a4 n)))
 have n4_ := Aside0.mk (show ∀ k, k < w.heap.size → k ≠ g → ((_ : World).setCell ⟨g, 4, none⟩ (.int .i64 (Go.bits .and .i64 a4 n))).heap[k]? = w.heap[k]? from fun k hk hg => (Below.heap_setCell _ ⟨g, 4, none⟩ _ k hg).trans (HK.out k hk hg))
 have n3_ := Aside0.mk (show ((_ : World).setCell ⟨g, 4, none⟩ (.int .i64 (Go.bits .and .i64 a4 n))).heap.size = w.heap.size from (World.size_setCell_ _ _ _).trans HS.out)
 clear BK BN HB HS HK
 have BK := n0_
 have BN := n1_
 have HB := n2_
 have HS := n3_
 have HK := n4_
 clear n0_ n1_ n2_ n3_ n4_
 refine hK.out _ _ ⟨q7_ BN 0 rfl, trivial⟩ (fun hHeld => ?_)
 clear hK K
 refine done_ (done_of HT_.out (by kernel_rfl)) ?_
 try go_wp2
 first | go_ret | go_end0
 exact ⟨rfl, BK.out, Nat.le_of_eq HS.out.symm, HB.out, HK.out⟩
theorem made_Perms (w : World) (a0 : Bool) (a1 a2 a3 a4 a5 : Int) (b : Nat) (n : Int) (A : Option Addr) (cc : Nat) (l : List S46) (e : Int) (r1 : Bool) (r2 r3 r4 r5 r6 r7 : Int) (hr : Kd.C k46 w A l.length l) (hc : l.length ≤ cc) (hf : derive_first.f 20 l = some e) (hn : w.heap[b]? = some (.cells #[.int .i64 n] 3 (0, 0))) (h : (if e = 0 then some (a0, a1, a2, a3, (Go.bits .and .i64 a4 n), a5, (0 : Int)) else some (false, (0 : Int), (0 : Int), (0 : Int), (0 : Int), (0 : Int), e)) = some (r1, r2, r3, r4, r5, r6, r7)) :
  Calls Try.prog 30 #[.agg #[.bool a0, .int .i64 a1, .int .i64 a2, .int .i64 a3, .int .i64 a4, .int .i64 a5], .func (.func 35) #[] #[.pointer (some ⟨b, 0, none⟩)], .slice A l.length cc] w fun q w' => q = .returned (.tuple #[.agg #[.bool r1, .int .i64 r2, .int .i64 r3, .int .i64 r4, .int .i64 r5, .int .i64 r6], .int .i64 r7]) ∧ Below w.heap.size w w' :=
 made_gen w a0 a1 a2 a3 a4 a5 Try.func35 rfl rfl #[.pointer (some ⟨b, 0, none⟩)] A cc l e a0 a1 a2 a3 (Go.bits .and .i64 a4 n) a5 r1 r2 r3 r4 r5 r6 r7 hr hc hf (fun w3 g hb3 hge hk => clo_Perms w3 g a0 a1 a2 a3 a4 a5 b n hk (blk_below hn hb3) (Nat.ne_of_lt (Nat.lt_of_lt_of_le (blk_lt hn) hge))) h
theorem int40 (w : World) (n : Int) : Calls Try.prog 40 #[.int .i64 n] w fun e w' => e = .returned (.agg #[.bool false, .int .i64 0, .int .i64 0, .int .i64 (Go.bits .and .i64 n 4294967295), .int .i64 0, .int .i64 0]) ∧ Below w.heap.size w w' := by
 have hu23 := Try.underlying23
 go_enter Try.func40, Try.ntmps40
 go_wp2
 refine bodyPost_ret (v := .agg #[.bool false, .int .i64 0, .int .i64 0, .int .i64 (Go.bits .and .i64 n 4294967295), .int .i64 0, .int .i64 0]) (by simp [results, Try.results40, go_sem]) rfl ⟨rfl, by repeat (first | exact Below.refl _ _ | refine below_set ?_ (Nat.le_refl _) | apply below_alloc)⟩
theorem val39 (w : World) (a0 : Bool) (a1 a2 a3 a4 a5 : Int) : Calls Try.prog 39 #[.agg #[.bool a0, .int .i64 a1, .int .i64 a2, .int .i64 a3, .int .i64 a4, .int .i64 a5]] w fun e w' => e = .returned (.int .i64 a3) ∧ Below w.heap.size w w' := by
 have hu23 := Try.underlying23
 go_enter Try.func39, Try.ntmps39
 go_wp2
 go_ret
 exact ⟨by simp, by repeat (first | exact Below.refl _ _ | refine below_set ?_ (Nat.le_refl _) | apply below_alloc)⟩
set_option maxHeartbeats 2000000 in
set_option maxRecDepth 100000 in
theorem clo_Move (w : World) (g : Nat) (a0 : Bool) (a1 a2 a3 a4 a5 : Int) (b : Nat) (n : Int) (hb : w.heap[g]? = some (.cells #[.bool a0, .int .i64 a1, .int .i64 a2, .int .i64 a3, .int .i64 a4, .int .i64 a5] 23 (0, 0))) (hn : w.heap[b]? = some (.cells #[.int .i64 n] 3 (0, 0))) (hne : b ≠ g) :
  Calls Try.prog 38 #[.pointer (some ⟨g, 0, none⟩), .pointer (some ⟨b, 0, none⟩)] w fun e w' => e = .returned (.tuple #[]) ∧ w'.heap[g]? = some (.cells #[.bool a0, .int .i64 a1, .int .i64 a2, .int .i64 (Go.bits .and .i64 n 4294967295), .int .i64 a4, .int .i64 a5] 23 (0, 0)) ∧ w.heap.size ≤ w'.heap.size ∧ (∀ (W : World) (B : Nat), B ≤ g → Below B W w → Below B W w') ∧ ∀ k, k < w.heap.size → k ≠ g → w'.heap[k]? = w.heap[k]? := by
 have hu23 := Try.underlying23
 have hcb : w.cell? ⟨b, 0, none⟩ = some (.int .i64 n) := (blk_cell hn 0).trans rfl
 go_enter Try.func38, Try.ntmps38
 go_wp2_with (first | (go_at_call 40; with_reducible refine (int40 _ _).mono ?_; rintro e w1 ⟨rfl, hb1⟩) | (go_at_call 39; with_reducible refine (val39 _ _ _ _ _ _ _).mono ?_; rintro e w2 ⟨rfl, hb2⟩; have hb3 := blk_below (blk_below hb hb1) hb2; have hf3 := blk_frozen hb3 3; have hc3 : w2.cell? ⟨g, 3, none⟩ = some (.int .i64 a3) := (blk_cell hb3 3).trans rfl))
 first | go_ret | go_end0
 exact ⟨rfl, blk_put hb3 3 _ rfl, Nat.le_trans hb1.size (Nat.le_trans hb2.size (Nat.le_of_eq (World.size_setCell_ _ _ _).symm)), fun W B hB h => Below.setCell (below_then (below_then h (by have := blk_lt hb; omega) hb1) (by have := blk_lt hb; have := hb1.size; omega) hb2) hB _, fun k hk hg => (Below.heap_setCell _ ⟨g, 3, none⟩ _ k hg).trans ((hb2.block k (Nat.lt_of_lt_of_le hk hb1.size)).trans (hb1.block k hk))⟩
theorem made_Move (w : World) (a0 : Bool) (a1 a2 a3 a4 a5 : Int) (b : Nat) (n : Int) (A : Option Addr) (cc : Nat) (l : List S46) (e : Int) (r1 : Bool) (r2 r3 r4 r5 r6 r7 : Int) (hr : Kd.C k46 w A l.length l) (hc : l.length ≤ cc) (hf : derive_first.f 20 l = some e) (hn : w.heap[b]? = some (.cells #[.int .i64 n] 3 (0, 0))) (h : (if e = 0 then some (a0, a1, a2, (Go.bits .and .i64 n 4294967295), a4, a5, (0 : Int)) else some (false, (0 : Int), (0 : Int), (0 : Int), (0 : Int), (0 : Int), e)) = some (r1, r2, r3, r4, r5, r6, r7)) :
  Calls Try.prog 30 #[.agg #[.bool a0, .int .i64 a1, .int .i64 a2, .int .i64 a3, .int .i64 a4, .int .i64 a5], .func (.func 38) #[] #[.pointer (some ⟨b, 0, none⟩)], .slice A l.length cc] w fun q w' => q = .returned (.tuple #[.agg #[.bool r1, .int .i64 r2, .int .i64 r3, .int .i64 r4, .int .i64 r5, .int .i64 r6], .int .i64 r7]) ∧ Below w.heap.size w w' :=
 made_gen w a0 a1 a2 a3 a4 a5 Try.func38 rfl rfl #[.pointer (some ⟨b, 0, none⟩)] A cc l e a0 a1 a2 (Go.bits .and .i64 n 4294967295) a4 a5 r1 r2 r3 r4 r5 r6 r7 hr hc hf (fun w3 g hb3 hge hk => clo_Move w3 g a0 a1 a2 a3 a4 a5 b n hk (blk_below hn hb3) (Nat.ne_of_lt (Nat.lt_of_lt_of_le (blk_lt hn) hge))) h
theorem used_len {a0_0 : Bool} {a0_1 a0_2 a0_3 a0_4 a0_5 : Int} {r : List S46} (h : derive_used.f a0_0 a0_1 a0_2 a0_3 a0_4 a0_5 = some r) : r.length = 3 := by
 have e : derive_used.f a0_0 a0_1 a0_2 a0_3 a0_4 a0_5 = some [⟨gv_capRight a0_0 a0_1 a0_2 a0_3 a0_4 a0_5, 1⟩, ⟨a0_0, 41⟩, ⟨(a0_5 != 0) == false, 42⟩] := rfl
 rw [e] at h
 obtain rfl := Option.some.inj h
 rfl
theorem set6_blk {w : World} {g : Nat} {x0 x1 x2 x3 x4 x5 : Value} (v0 v1 v2 v3 v4 v5 : Value) (h : w.heap[g]? = some (.cells #[x0, x1, x2, x3, x4, x5] 23 (0, 0))) :
  ((((((w.setCell ⟨g, 0, none⟩ v0).setCell ⟨g, 1, none⟩ v1).setCell ⟨g, 2, none⟩ v2).setCell ⟨g, 3, none⟩ v3).setCell ⟨g, 4, none⟩ v4).setCell ⟨g, 5, none⟩ v5).heap[g]? = some (.cells #[v0, v1, v2, v3, v4, v5] 23 (0, 0)) :=
 blk_put (blk_put (blk_put (blk_put (blk_put (blk_put h 0 v0 rfl) 1 v1 rfl) 2 v2 rfl) 3 v3 rfl) 4 v4 rfl) 5 v5 rfl
theorem set6_far {w : World} {g k : Nat} {cs : Array Value} {t : TypeId} (v0 v1 v2 v3 v4 v5 : Value) (hne : k ≠ g) (h : w.heap[k]? = some (.cells cs t (0, 0))) :
  ((((((w.setCell ⟨g, 0, none⟩ v0).setCell ⟨g, 1, none⟩ v1).setCell ⟨g, 2, none⟩ v2).setCell ⟨g, 3, none⟩ v3).setCell ⟨g, 4, none⟩ v4).setCell ⟨g, 5, none⟩ v5).heap[k]? = some (.cells cs t (0, 0)) :=
 blk_far (blk_far (blk_far (blk_far (blk_far (blk_far h hne v0) hne v1) hne v2) hne v3) hne v4) hne v5
theorem set6_below {w0 w : World} {g : Nat} (v0 v1 v2 v3 v4 v5 : Value) (h : Below w0.heap.size w0 w) (hg : w0.heap.size ≤ g) :
  Below w0.heap.size w0 ((((((w.setCell ⟨g, 0, none⟩ v0).setCell ⟨g, 1, none⟩ v1).setCell ⟨g, 2, none⟩ v2).setCell ⟨g, 3, none⟩ v3).setCell ⟨g, 4, none⟩ v4).setCell ⟨g, 5, none⟩ v5) :=
 below_set (below_set (below_set (below_set (below_set (below_set h hg) hg) hg) hg) hg) hg
def derive_Bounds.f (a0_0 : Bool) (a0_1 : Int) (a0_2 : Int) (a0_3 : Int) (a0_4 : Int) (a0_5 : Int) (a1 : Int) : Option (Bool × Int × Int × Int × Int × Int × Int) := (derive_used.f a0_0 a0_1 a0_2 a0_3 a0_4 a0_5).bind fun u => ((derive_spans.f a0_0 a0_1 a0_2 a0_3 a0_4 a0_5 a1).bind fun ⟨s1, s2⟩ => ((derive_first.f 20 (u ++ [(⟨s1, s2⟩ : S46)])).bind fun e => (if e = 0 then some (a0_0, a0_3, (wrap64 (a0_3 + a1)), a0_3, a0_4, a0_5, (0 : Int)) else some (false, (0 : Int), (0 : Int), (0 : Int), (0 : Int), (0 : Int), e))))
def derive_Bounds.T1 : Bool × List (List Nat × List Nat) := (true, [([], []), ([], []), ([], []), ([2], [2]), ([], []), ([], []), ([4, 5, 3], [4, 5]), ([6], [6]), ([3, 7, 6], [3, 7]), ([0, 1, 8, 8], [0, 1, 8]), ([9], [9]), ([9], [9]), ([10, 9, 0, 1, 2, 3, 4, 5, 6, 7, 8, 9, 10, 11], [10]), ([11, 12, 0, 1, 2, 3, 4, 5, 6, 7, 8, 9, 10, 11, 12], [11])])
def derive_Bounds.B1 : List Nat := [0, 0, 0, 4, 0, 0, 60, 124, 252, 511, 1023, 1023, 4095, 8191]
theorem derive_Bounds.tab1 : rtab .any (opsOf Try.f11 1) = derive_Bounds.T1 := by kernel_rfl
theorem derive_Bounds.bits1 : waitsOk derive_Bounds.T1.2 derive_Bounds.B1 = true := by kernel_rfl
set_option maxHeartbeats 8000000 in
set_option maxRecDepth 100000 in
theorem derive_Bounds.calls (a0_0 : Bool) (a0_1 : Int) (a0_2 : Int) (a0_3 : Int) (a0_4 : Int) (a0_5 : Int) (a1 : Int) (r1 : Bool) (r2 : Int) (r3 : Int) (r4 : Int) (r5 : Int) (r6 : Int) (r7 : Int) (w : World) (h : derive_Bounds.f a0_0 a0_1 a0_2 a0_3 a0_4 a0_5 a1 = some (r1, r2, r3, r4, r5, r6, r7)) :
  Calls Try.prog 11 #[.agg #[.bool a0_0, .int .i64 a0_1, .int .i64 a0_2, .int .i64 a0_3, .int .i64 a0_4, .int .i64 a0_5], .int .i64 a1] w fun e w' => e = .returned (.tuple #[.agg #[.bool r1, .int .i64 r2, .int .i64 r3, .int .i64 r4, .int .i64 r5, .int .i64 r6], .int .i64 r7]) ∧ Below w.heap.size w w' := by
 have hu23 := Try.underlying23
 have hu46 := Try.underlying46
 have hmf : ∀ (fn : Fn) (first cap : Array Value) (w : World), (Instr.makeFunc fn first cap).run Try.prog w = .ok (.func fn first cap) w := fun _ _ _ _ => rfl
 have HB := Aside0.mk (Below.refl w.heap.size w)
 unfold derive_Bounds.f at h
 obtain ⟨u, h0_, h⟩ := Option.bind_eq_some_iff.mp h
 have P0 := Aside0.mk h0_
 clear h0_
 obtain ⟨⟨s1, s2⟩, h1_, h⟩ := Option.bind_eq_some_iff.mp h
 have P1 := Aside0.mk h1_
 clear h1_
 obtain ⟨e, hf_, h⟩ := Option.bind_eq_some_iff.mp h
 have L_u := Aside0.mk (used_len P0.out)
 obtain ⟨y, e_y⟩ : ∃ y_ : List S46, y_ = ([(⟨s1, s2⟩ : S46)] : List S46) := ⟨_, rfl⟩
 have L_y := Aside0.mk (show y.length = 1 by rw [e_y]; rfl)
 have E_y := Aside0.mk e_y
 rw [← e_y] at hf_
 clear e_y
 obtain ⟨z, e_z⟩ : ∃ y_ : List S46, y_ = u ++ y := ⟨_, rfl⟩
 have L_z := Aside0.mk (show z.length ≤ 20 by rw [e_z, List.length_append]; have := L_u.out; have := L_y.out; omega)
 have E_z := Aside0.mk e_z
 rw [← e_z] at hf_
 clear e_z
 have HF := Aside0.mk hf_
 have HH := Aside0.mk h
 clear hf_ h
 go_enter Try.func11, Try.ntmps11
 go_wp2_with (first | ((with_reducible refine gate_dst (N := 2) rfl ?_); refine box_event ?hg (N := 2) ?hd (cs := #[.bool a0_0, .int .i64 a0_1, .int .i64 a0_2, .int .i64 a0_3, .int .i64 a0_4, .int .i64 a0_5]) (t := 23) ?hr ?_; (case hd => rfl); (case hg => rfl); (case hr => first | (go_simp; done) | (go_simp; rfl)); intro gb0 hg w1 hbox hb; have GX_gb0 := Aside0.mk (show w.heap.size ≤ gb0 from by rw [hg]; exact HB.out.size); have BK_gb0 := Aside0.mk hbox; have nb_ := Aside0.mk (below_step HB.out hb); clear HB; have HB := nb_; clear nb_ hg hbox hb) | ((with_reducible refine gate_dst (N := 3) rfl ?_); refine box_event ?hg (N := 3) ?hd (cs := #[.int .i64 a1]) (t := 3) ?hr ?_; (case hd => rfl); (case hg => rfl); (case hr => first | (go_simp; done) | (go_simp; rfl)); intro gb1 hg w2 hbox hb; have NX_gb0_gb1 := Aside0.mk (show gb0 ≠ gb1 from by rw [hg]; exact Nat.ne_of_lt (blk_lt BK_gb0.out)); have GX_gb1 := Aside0.mk (show w.heap.size ≤ gb1 from by rw [hg]; exact HB.out.size); have n0_ := Aside0.mk (blk_below BK_gb0.out hb); clear BK_gb0; have BK_gb0 := n0_; clear n0_; have BK_gb1 := Aside0.mk hbox; have nb_ := Aside0.mk (below_step HB.out hb); clear HB; have HB := nb_; clear nb_ hg hbox hb) | ((with_reducible refine gate_dst (N := 4) rfl ?_); refine box_event ?hg (N := 4) ?hd (cs := #[.bool false, .int .i64 0, .int .i64 0, .int .i64 0, .int .i64 0, .int .i64 0]) (t := 23) ?hr ?_; (case hd => rfl); (case hg => rfl); (case hr => first | (go_simp; done) | (go_simp; rfl)); intro gR hg w3 hbox hb; have NX_gb0_gR := Aside0.mk (show gb0 ≠ gR from by rw [hg]; exact Nat.ne_of_lt (blk_lt BK_gb0.out)); have NX_gb1_gR := Aside0.mk (show gb1 ≠ gR from by rw [hg]; exact Nat.ne_of_lt (blk_lt BK_gb1.out)); have GX_gR := Aside0.mk (show w.heap.size ≤ gR from by rw [hg]; exact HB.out.size); have n0_ := Aside0.mk (blk_below BK_gb0.out hb); clear BK_gb0; have BK_gb0 := n0_; clear n0_; have n1_ := Aside0.mk (blk_below BK_gb1.out hb); clear BK_gb1; have BK_gb1 := n1_; clear n1_; have BK_gR := Aside0.mk hbox; have nb_ := Aside0.mk (below_step HB.out hb); clear HB; have HB := nb_; clear nb_ hg hbox hb))
 have n0_ := Aside0.mk (blk_drew BK_gb0.out)
 have n1_ := Aside0.mk (blk_drew BK_gb1.out)
 have n2_ := Aside0.mk (blk_drew BK_gR.out)
 have n3_ := Aside0.mk (below_drew1 HB.out)
 clear BK_gb0 BK_gb1 BK_gR HB
 have BK_gb0 := n0_
 have BK_gb1 := n1_
 have BK_gR := n2_
 have HB := n3_
 clear n0_ n1_ n2_ n3_
 refine start_ (n := 14) (S := fun w' => w'.cell? ⟨gb0, 0, none⟩ = some (.bool a0_0) ∧ w'.cell? ⟨gb0, 1, none⟩ = some (.int .i64 a0_1) ∧ w'.cell? ⟨gb0, 2, none⟩ = some (.int .i64 a0_2) ∧ w'.cell? ⟨gb0, 3, none⟩ = some (.int .i64 a0_3) ∧ w'.cell? ⟨gb0, 4, none⟩ = some (.int .i64 a0_4) ∧ w'.cell? ⟨gb0, 5, none⟩ = some (.int .i64 a0_5) ∧ w'.cell? ⟨gb1, 0, none⟩ = some (.int .i64 a1)) (ds := []) m5_29 (by kernel_rfl) rfl rfl ⟨q7_ BK_gb0 0 rfl, q7_ BK_gb0 1 rfl, q7_ BK_gb0 2 rfl, q7_ BK_gb0 3 rfl, q7_ BK_gb0 4 rfl, q7_ BK_gb0 5 rfl, q7_ BK_gb1 0 rfl⟩ (fun hHeld => ?_); refine with_tabW derive_Bounds.tab1 derive_Bounds.bits1 (fun HT_ HW_ => ?_)
 generalize w3.drew = w4 at BK_gb0 BK_gb1 BK_gR HB hHeld ⊢
 refine take_ (i := 0) (N := some 6) (v := ?_) (a' := ?_) m5_30 rfl rfl (take_ofW HT_.out HW_.out (by kernel_rfl)) (fun _ _ _ h => h) (Or.inl ⟨by rfl, ?_⟩) hHeld ?_ ?_
 rotate_left
 ·rintro w' ⟨s0, s1, s2, s3, s4, s5, s6⟩
  go_simp
  with_reducible rfl
 rotate_left
 ·simp only [Act.put, q4_, q5_, q6_, i64_w, i32_w]
  rfl
 refine pure_ (i := 1) (N := some 7) (v := ?_) (a' := ?_) m5_31 rfl rfl (any_of HT_.out (by kernel_rfl)) (fun _ _ _ h => h) (Or.inl ⟨by rfl, ?_⟩) ?_ ?_
 rotate_left
 ·intro w'
  go_simp
  with_reducible rfl
 rotate_left
 ·simp only [Act.put, q4_, q5_, q6_, i64_w, i32_w]
  rfl
 refine take_ (i := 2) (N := some 8) (v := ?_) (a' := ?_) m5_32 rfl rfl (take_ofW HT_.out HW_.out (by kernel_rfl)) (fun _ _ _ h => h) (Or.inl ⟨by rfl, ?_⟩) hHeld ?_ ?_
 rotate_left
 ·rintro w' ⟨s0, s1, s2, s3, s4, s5, s6⟩
  go_simp
  with_reducible rfl
 rotate_left
 ·simp only [Act.put, q4_, q5_, q6_, i64_w, i32_w]
  rfl
 refine take_ (i := 4) (N := some 10) (v := ?_) (a' := ?_) m5_33 rfl rfl (take_ofW HT_.out HW_.out (by kernel_rfl)) (fun _ _ _ h => h) (Or.inl ⟨by rfl, ?_⟩) hHeld ?_ ?_
 rotate_left
 ·rintro w' ⟨s0, s1, s2, s3, s4, s5, s6⟩
  go_simp
  with_reducible rfl
 rotate_left
 ·simp only [Act.put, q4_, q5_, q6_, i64_w, i32_w]
  rfl
 refine take_ (i := 5) (N := some 11) (v := ?_) (a' := ?_) m5_34 rfl rfl (take_ofW HT_.out HW_.out (by kernel_rfl)) (fun _ _ _ h => h) (Or.inl ⟨by rfl, ?_⟩) hHeld ?_ ?_
 rotate_left
 ·rintro w' ⟨s0, s1, s2, s3, s4, s5, s6⟩
  go_simp
  with_reducible rfl
 rotate_left
 ·simp only [Act.put, q4_, q5_, q6_, i64_w, i32_w]
  rfl
 refine one_ (i := 3) (N := some 9) m5_35 rfl rfl (one_of HT_.out (by kernel_rfl)) (by decide) (fun K hK => ?_)
 refine goes_ Try.func32 (by kernel_rfl) rfl #[.agg #[.bool a0_0, .int .i64 a0_1, .int .i64 a0_2, .int .i64 a0_3, .int .i64 a0_4, .int .i64 a0_5]] (by rfl) rfl rfl (by (try simp only [List.map_toArray, List.map_cons, List.map_nil]); first | done | rfl | (simp only [List.length_drop, List.length_take]; rfl)) ?_
 with_reducible refine (derive_used.calls a0_0 a0_1 a0_2 a0_3 a0_4 a0_5 u _ P0.out).mono ?_
 rintro e_ w5 ⟨v9, rfl, ho0, hb⟩
 refine ⟨_, rfl, ?_⟩
 have HO_v9 := Aside0.mk (Kd.R_lower ho0 HB.out.size)
 have n0_ := Aside0.mk (blk_below BK_gb0.out hb)
 have n1_ := Aside0.mk (blk_below BK_gb1.out hb)
 have n2_ := Aside0.mk (blk_below BK_gR.out hb)
 have n3_ := Aside0.mk (below_step HB.out hb)
 clear BK_gb0 BK_gb1 BK_gR HB
 have BK_gb0 := n0_
 have BK_gb1 := n1_
 have BK_gR := n2_
 have HB := n3_
 clear n0_ n1_ n2_ n3_
 clear ho0 hb
 obtain ⟨A9, k9, eo_⟩ := Kd.R_slice HO_v9.out
 subst eo_
 refine hK.out _ _ ⟨q7_ BK_gb0 0 rfl, q7_ BK_gb0 1 rfl, q7_ BK_gb0 2 rfl, q7_ BK_gb0 3 rfl, q7_ BK_gb0 4 rfl, q7_ BK_gb0 5 rfl, q7_ BK_gb1 0 rfl⟩ (fun hHeld => ?_)
 clear hK K
 refine norm_ (a' := ?_) ?_ ?_
 rotate_left
 ·show Act.put _ (some 9) _ = _
  simp only [Act.put, q4_, q5_, q6_, i64_w, i32_w]
  rfl
 refine one_ (i := 6) (N := some 12) m5_36 rfl rfl (one_of HT_.out (by kernel_rfl)) (by decide) (fun K hK => ?_)
 refine goes_ Try.func33 (by kernel_rfl) rfl #[.agg #[.bool a0_0, .int .i64 a0_1, .int .i64 a0_2, .int .i64 a0_3, .int .i64 a0_4, .int .i64 a0_5], .int .i64 a1] (by rfl) rfl rfl (by (try simp only [List.map_toArray, List.map_cons, List.map_nil]); first | done | rfl | (simp only [List.length_drop, List.length_take]; rfl)) ?_
 with_reducible refine (derive_spans.calls a0_0 a0_1 a0_2 a0_3 a0_4 a0_5 a1 s1 s2 _ P1.out).mono ?_
 rintro e_ w6 ⟨rfl, hb⟩
 refine ⟨_, rfl, ?_⟩
 have n0_ := Aside0.mk (blk_below BK_gb0.out hb)
 have n1_ := Aside0.mk (blk_below BK_gb1.out hb)
 have n2_ := Aside0.mk (blk_below BK_gR.out hb)
 have n3_ := Aside0.mk (Kd.R_below HO_v9.out hb)
 have n4_ := Aside0.mk (below_step HB.out hb)
 clear BK_gb0 BK_gb1 BK_gR HO_v9 HB
 have BK_gb0 := n0_
 have BK_gb1 := n1_
 have BK_gR := n2_
 have HO_v9 := n3_
 have HB := n4_
 clear n0_ n1_ n2_ n3_ n4_
 clear hb
 refine hK.out _ _ ⟨q7_ BK_gb0 0 rfl, q7_ BK_gb0 1 rfl, q7_ BK_gb0 2 rfl, q7_ BK_gb0 3 rfl, q7_ BK_gb0 4 rfl, q7_ BK_gb0 5 rfl, q7_ BK_gb1 0 rfl⟩ (fun hHeld => ?_)
 clear hK K
 refine norm_ (a' := ?_) ?_ ?_
 rotate_left
 ·show Act.put _ (some 12) _ = _
  simp only [Act.put, q4_, q5_, q6_, i64_w, i32_w]
  rfl
 refine one_ (i := 7) (N := some 13) m5_37 rfl rfl (one_of HT_.out (by kernel_rfl)) (by decide) (fun K hK => ?_)
 refine Kd.R_lit_step k46 _ 46 ?hg (N := 13) ?hd (xs := ([(⟨s1, s2⟩ : S46)] : List (S46))) (inner := [.bool s1, .int .i64 s2]) (ok := fun _ => True) (okp := fun _ => True) ?hr ?hp (fun _ hk => hk) trivial (Below.refl _ _) (Nat.le_refl _) (by simp) ?_; (case hd => rfl); (case hg => rfl); (case hr => first | (go_simp; done) | (go_simp; rfl)); (case hp => exact (Reps.c2 (show Kd.M k46 _ _ _ (⟨s1, s2⟩ : S46) [.bool s1, .int .i64 s2] from (k46_mkM _ _ _ (⟨s1, s2⟩ : S46) )) (Reps.none _ _)))
 intro v13 w7 ho hb hg_ hnew_
 clear hg_ hnew_
 rw [← E_y.out] at ho
 have HO_v13 := Aside0.mk (Kd.R_lower ho (HB.out.size))
 have n0_ := Aside0.mk (blk_below BK_gb0.out hb)
 have n1_ := Aside0.mk (blk_below BK_gb1.out hb)
 have n2_ := Aside0.mk (blk_below BK_gR.out hb)
 have n3_ := Aside0.mk (Kd.R_below HO_v9.out hb)
 have n4_ := Aside0.mk (below_step HB.out hb)
 clear BK_gb0 BK_gb1 BK_gR HO_v9 HB
 have BK_gb0 := n0_
 have BK_gb1 := n1_
 have BK_gR := n2_
 have HO_v9 := n3_
 have HB := n4_
 clear n0_ n1_ n2_ n3_ n4_
 clear ho hb
 obtain ⟨A13, k13, eo_⟩ := Kd.R_slice HO_v13.out
 subst eo_
 refine hK.out _ _ ⟨q7_ BK_gb0 0 rfl, q7_ BK_gb0 1 rfl, q7_ BK_gb0 2 rfl, q7_ BK_gb0 3 rfl, q7_ BK_gb0 4 rfl, q7_ BK_gb0 5 rfl, q7_ BK_gb1 0 rfl⟩ (fun hHeld => ?_)
 clear hK K
 refine norm_ (a' := ?_) ?_ ?_
 rotate_left
 ·show Act.put _ (some 13) _ = _
  simp only [Act.put, q4_, q5_, q6_, i64_w, i32_w]
  rfl
 refine one_ (i := 8) (N := some 14) m5_38 rfl rfl (one_of HT_.out (by kernel_rfl)) (by decide) (fun K hK => ?_)
 refine Kd.R_append_rows_step k46 (w0 := w) w.heap.size (by rfl) (.tmp 9) (.tmp 13) 43 46 (.agg #[(.bool false), (.int .i64 0)]) 16 rfl Try.underlying43 info46 rfl (by decide) (by omega) (.slice A9 u.length k9) u y _ _ _ (fun _ => True) (fun _ => False) rfl rfl ?aO ?aR (fun _ _ h => h) (fun _ h => h.elim) ?aF ?aB ?aS ?aL ?_
 (case aR => exact (Kd.R_reads' HO_v13.out).2.2)
 (case aB => exact HB.out)
 (case aF => exact fun _ _ => trivial)
 (case aO => exact HO_v9.out)
 (case aS => exact HB.out.size)
 (case aL => have := L_u.out; have := L_y.out; omega)
 intro v14 w8 ho hb hg hat
 rw [← E_z.out] at ho
 have n0_ := Aside0.mk (blk_grown BK_gb0.out hg (Kd.R_ne HO_v9.out BK_gb0.out (by decide)))
 have n1_ := Aside0.mk (blk_grown BK_gb1.out hg (Kd.R_ne HO_v9.out BK_gb1.out (by decide)))
 have n2_ := Aside0.mk (blk_grown BK_gR.out hg (Kd.R_ne HO_v9.out BK_gR.out (by decide)))
 have n3_ := Aside0.mk (hb)
 clear BK_gb0 BK_gb1 BK_gR HB HO_v9 HO_v13
 have BK_gb0 := n0_
 have BK_gb1 := n1_
 have BK_gR := n2_
 have HB := n3_
 clear n0_ n1_ n2_ n3_
 have HO_v14 := Aside0.mk ho
 clear ho hb hg hat
 obtain ⟨A14, k14, eo_⟩ := Kd.R_slice HO_v14.out
 subst eo_
 refine hK.out _ _ ⟨q7_ BK_gb0 0 rfl, q7_ BK_gb0 1 rfl, q7_ BK_gb0 2 rfl, q7_ BK_gb0 3 rfl, q7_ BK_gb0 4 rfl, q7_ BK_gb0 5 rfl, q7_ BK_gb1 0 rfl⟩ (fun hHeld => ?_)
 clear hK K
 refine norm_ (a' := ?_) ?_ ?_
 rotate_left
 ·show Act.put _ (some 14) _ = _
  simp only [Act.put, q4_, q5_, q6_, i64_w, i32_w]
  rfl
 refine one_ (i := 9) (N := some 15) m5_39 rfl rfl (one_of HT_.out (by kernel_rfl)) (by decide) (fun K hK => ?_)
 refine goes_ Try.func30 (by kernel_rfl) rfl #[.agg #[.bool a0_0, .int .i64 a0_1, .int .i64 a0_2, .int .i64 a0_3, .int .i64 a0_4, .int .i64 a0_5], .func (.func 31) #[] #[.pointer (some ⟨gb1, 0, none⟩)], .slice A14 z.length k14] (by rfl) rfl rfl (by (try simp only [List.map_toArray, List.map_cons, List.map_nil]); first | done | rfl | (simp only [List.length_drop, List.length_take]; rfl)) ?_
 with_reducible refine (made_Bounds _ a0_0 a0_1 a0_2 a0_3 a0_4 a0_5 gb1 a1 A14 k14 z e r1 r2 r3 r4 r5 r6 r7 (Kd.R_reads' HO_v14.out).2.2 (Kd.R_reads' HO_v14.out).2.1 HF.out BK_gb1.out HH.out).mono ?_
 rintro q_ w9 ⟨rfl, hb⟩
 refine ⟨_, rfl, ?_⟩
 have n0_ := Aside0.mk (blk_below BK_gb0.out hb)
 have n1_ := Aside0.mk (blk_below BK_gb1.out hb)
 have n2_ := Aside0.mk (blk_below BK_gR.out hb)
 have n3_ := Aside0.mk (Kd.R_below HO_v14.out hb)
 have n4_ := Aside0.mk (below_step HB.out hb)
 clear BK_gb0 BK_gb1 BK_gR HO_v14 HB
 have BK_gb0 := n0_
 have BK_gb1 := n1_
 have BK_gR := n2_
 have HO_v14 := n3_
 have HB := n4_
 clear n0_ n1_ n2_ n3_ n4_
 clear hb
 refine hK.out _ _ ⟨q7_ BK_gb0 0 rfl, q7_ BK_gb0 1 rfl, q7_ BK_gb0 2 rfl, q7_ BK_gb0 3 rfl, q7_ BK_gb0 4 rfl, q7_ BK_gb0 5 rfl, q7_ BK_gb1 0 rfl⟩ (fun hHeld => ?_)
 clear hK K
 refine norm_ (a' := ?_) ?_ ?_
 rotate_left
 ·show Act.put _ (some 15) _ = _
  simp only [Act.put, q4_, q5_, q6_, i64_w, i32_w]
  rfl
 refine pure_ (i := 10) (N := some 16) (v := ?_) (a' := ?_) m5_40 rfl rfl (any_of HT_.out (by kernel_rfl)) (fun _ _ _ h => h) (Or.inl ⟨by rfl, ?_⟩) ?_ ?_
 rotate_left
 ·intro w'
  go_simp
  with_reducible rfl
 rotate_left
 ·simp only [Act.put, q4_, q5_, q6_, i64_w, i32_w]
  rfl
 refine pure_ (i := 11) (N := some 17) (v := ?_) (a' := ?_) m5_41 rfl rfl (any_of HT_.out (by kernel_rfl)) (fun _ _ _ h => h) (Or.inl ⟨by rfl, ?_⟩) ?_ ?_
 rotate_left
 ·intro w'
  go_simp
  with_reducible rfl
 rotate_left
 ·simp only [Act.put, q4_, q5_, q6_, i64_w, i32_w]
  rfl
 refine one_ (i := 12) (N := none) m5_42 rfl rfl (one_of HT_.out (by kernel_rfl)) (by decide) (fun K hK => ?_)
 have f0_ := blk_frozen BK_gR.out 0
 have f1_ := blk_frozen BK_gR.out 1
 have f2_ := blk_frozen BK_gR.out 2
 have f3_ := blk_frozen BK_gR.out 3
 have f4_ := blk_frozen BK_gR.out 4
 have f5_ := blk_frozen BK_gR.out 5
 have d0_ : World.cell? _ ⟨gR, 0, none⟩ = some (.bool false) := q7_ BK_gR 0 rfl
 have d1_ : World.cell? _ ⟨gR, 1, none⟩ = some (.int .i64 0) := q7_ BK_gR 1 rfl
 have d2_ : World.cell? _ ⟨gR, 2, none⟩ = some (.int .i64 0) := q7_ BK_gR 2 rfl
 have d3_ : World.cell? _ ⟨gR, 3, none⟩ = some (.int .i64 0) := q7_ BK_gR 3 rfl
 have d4_ : World.cell? _ ⟨gR, 4, none⟩ = some (.int .i64 0) := q7_ BK_gR 4 rfl
 have d5_ : World.cell? _ ⟨gR, 5, none⟩ = some (.int .i64 0) := q7_ BK_gR 5 rfl
 refine skip_ (w1 := ?_) (by rfl) rfl ?_ ?_
 rotate_left
 ·go_simp
  rfl
 clear f0_ f1_ f2_ f3_ f4_ f5_ d0_ d1_ d2_ d3_ d4_ d5_
 have n0_ := Aside0.mk (set6_far (.bool r1) (.int .i64 r2) (.int .i64 r3) (.int .i64 r4) (.int .i64 r5) (.int .i64 r6) NX_gb0_gR.out BK_gb0.out)
 have n1_ := Aside0.mk (set6_far (.bool r1) (.int .i64 r2) (.int .i64 r3) (.int .i64 r4) (.int .i64 r5) (.int .i64 r6) NX_gb1_gR.out BK_gb1.out)
 have n2_ := Aside0.mk (set6_blk (.bool r1) (.int .i64 r2) (.int .i64 r3) (.int .i64 r4) (.int .i64 r5) (.int .i64 r6) BK_gR.out)
 have n3_ := Aside0.mk (set6_below (.bool r1) (.int .i64 r2) (.int .i64 r3) (.int .i64 r4) (.int .i64 r5) (.int .i64 r6) HB.out GX_gR.out)
 clear BK_gb0 BK_gb1 BK_gR HB HO_v14
 have BK_gb0 := n0_
 have BK_gb1 := n1_
 have BK_gR := n2_
 have HB := n3_
 clear n0_ n1_ n2_ n3_
 refine hK.out _ _ ⟨q7_ BK_gb0 0 rfl, q7_ BK_gb0 1 rfl, q7_ BK_gb0 2 rfl, q7_ BK_gb0 3 rfl, q7_ BK_gb0 4 rfl, q7_ BK_gb0 5 rfl, q7_ BK_gb1 0 rfl⟩ (fun hHeld => ?_)
 clear hK K
 refine pure_ (i := 13) (N := some 5) (v := ?_) (a' := ?_) m5_43 rfl rfl (any_of HT_.out (by kernel_rfl)) (fun _ _ _ h => h) (Or.inl ⟨by rfl, ?_⟩) ?_ ?_
 rotate_left
 ·intro w'
  go_simp
  with_reducible rfl
 rotate_left
 ·simp only [Act.put, q4_, q5_, q6_, i64_w, i32_w]
  rfl
 refine done_ (done_of HT_.out (by kernel_rfl)) ?_
 try go_wp2
 refine bodyPost_ret (results_ct rfl _ _ gR 23 #[.bool r1, .int .i64 r2, .int .i64 r3, .int .i64 r4, .int .i64 r5, .int .i64 r6] (0, 0) _ rfl BK_gR.out Try.underlying23 rfl (by kernel_rfl)) rfl ?_
 exact ⟨rfl, HB.out⟩

end Go.Proofs.Ytgkmacgckoifaaa.PDr
-- shorter
