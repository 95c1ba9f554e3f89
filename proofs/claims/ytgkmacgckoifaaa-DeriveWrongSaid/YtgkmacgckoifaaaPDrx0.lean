-- written by a changed copy of the kit's print program, for this claim
import Derived.Test.YtgkmacgckoifaaaProg
import Derived.Below
import Derived.Deep.Draws
import Derived.Deep.AppendLies
import Derived.Maps.AppendAt
import Derived.OwnWalk
import Derived.Laws.BytesArg
import Derived.Laws.MakeOwn
import Derived.Laws.OwnMore
import Derived.Deep.OwnRows
import Derived.Tactics
import Derived.Lib.ConvBytes
import Derived.Laws.Slices
import Derived.WalkKit
import Derived.KernelRfl
import Derived.RowKit3
import Derived.Deep.LoopGhost
import Derived.Deep.QuietTactic
import Derived.BigQuiet
import Derived.WideLaws
import Derived.Deep.DeepCutAuto
import Derived.Deep.CutBlock
import Derived.Deep.RegionHeld3
import Derived.Laws.Rows
import Derived.Lib.AppendStr
import Derived.ArgAppend
import Derived.Laws.IdiomCopy
import Derived.OrdersHeld
import Derived.Laws.BitsLemmas
import Derived.RowKit
import Derived.Test.YtgkmacgckoifaaaWWords
import Derived.Test.YtgkmacgckoifaaaWLast
import Derived.Test.YtgkmacgckoifaaaWTab
import Derived.Test.YtgkmacgckoifaaaWFour
import Derived.Test.YtgkmacgckoifaaaWQPut
import Derived.Test.YtgkmacgckoifaaaWApart
import Derived.Test.YtgkmacgckoifaaaWArr
import Derived.Test.YtgkmacgckoifaaaWZeros
import Derived.Test.YtgkmacgckoifaaaWFoot
import Derived.Test.YtgkmacgckoifaaaWKept
import Derived.Test.YtgkmacgckoifaaaWShare
import Derived.Test.YtgkmacgckoifaaaWN
import Derived.Test.YtgkmacgckoifaaaWFootNe
import Derived.Test.YtgkmacgckoifaaaWAt
import Derived.Test.YtgkmacgckoifaaaWEqStruct
import Derived.Test.YtgkmacgckoifaaaWRepsOne
import Derived.Test.YtgkmacgckoifaaaWInv
import Derived.Test.YtgkmacgckoifaaaWInvWords
import Derived.Test.YtgkmacgckoifaaaWGuard
import Derived.Test.YtgkmacgckoifaaaWNEv
import Derived.Test.YtgkmacgckoifaaaWMore
namespace Go.Proofs.Ytgkmacgckoifaaa.PDr
open Go.RowKit Go.Proofs.YtgkmacgckoifaaaW.PrintWords Go.Proofs.YtgkmacgckoifaaaW.PrintLast Go.Proofs.YtgkmacgckoifaaaW.PrintMore
attribute [local go_sem] max2_int min2_int max_two min_two max_three min_three max_four min_four   -- for this text's walks alone
set_option linter.unusedVariables false
set_option linter.unusedSimpArgs false



def errW : Option Int → Value
  | none => .nilIface
  | some c => .iface 0 (.int .i64 c)
theorem errW_none : errW none = .nilIface := rfl
theorem errW_some (c : Int) : errW (some c) = .iface 0 (.int .i64 c) := rfl

theorem info46 : (Try.prog.info? 46).map (fun i => (i.zero, i.size, i.bytes)) = some (some (.agg #[(.bool false), (.int .i64 0)]), 2, 16) := by kernel_rfl
-- the values' own types
/-! #### struct type 46 -/
structure S46 where
  f0 : Bool
  f1 : Int
def z46 : S46 := ⟨false, (0 : Int)⟩
def k46 : Kd S46 := Kd.iso (Kd.pair Kd.bool (Kd.int .i64)) (fun x : S46 => (x.f0, x.f1))
theorem k46_open {w : World} {x : S46} {cs : List Value} (h : k46.K w x cs) : cs = [.bool x.f0, .int .i64 x.f1] := by
  obtain ⟨_, _, rfl, rfl, rfl⟩ := h
  exact rfl
theorem k46_openM {w : World} {base : Nat} {ok : Nat → Prop} {x : S46} {cs : List Value} (h : k46.M w base ok x cs) : cs = [.bool x.f0, .int .i64 x.f1] := by
  obtain ⟨_, _, rfl, rfl, rfl⟩ := h
  exact rfl
theorem k46_mk (w : World) (x : S46)  : k46.K w x [.bool x.f0, .int .i64 x.f1] := ⟨[.bool x.f0], [.int .i64 x.f1], rfl, rfl, rfl⟩
theorem k46_mkM (w : World) (base : Nat) (ok : Nat → Prop) (x : S46)  : k46.M w base ok x [.bool x.f0, .int .i64 x.f1] := ⟨[.bool x.f0], [.int .i64 x.f1], rfl, rfl, rfl⟩
def rd_T46 (xs : List S46) (i : Int) : S46 := xs.getD i.toNat z46
theorem at_T46 {w : World} {A : Option Addr} {n : Nat} {xs : List S46} (h : Kd.C k46 w A n xs) (i : Int) (h0 : 0 ≤ i) (h1 : i < n) : ∃ ad , A = some ad ∧ w.cell? (ad.add (i.toNat * 2)) = some (.bool (rd_T46 xs i).f0) ∧ w.cell? ⟨(ad.add (i.toNat * 2)).block, (ad.add (i.toNat * 2)).off + 1, none⟩ = some (.int .i64 (rd_T46 xs i).f1) := by
  obtain ⟨ad, c, e, _, hK, hc0⟩ := Kd.C_get h z46 i h0 h1
  have hc : ∀ j u, c[j]? = some u → w.cell? (ad.add (i.toNat * 2 + j)) = some u := hc0
  obtain rfl := k46_open hK
  exact ⟨ad, e, hc 0 _ rfl, by rw [← add_field _ _ 1 (by omega)]; exact hc 1 _ rfl⟩

theorem q1_ {g : Nat} {o : Obj} {w0 W w2 : World} (_B : Aside0 (w0.heap[g]? = some o)) (hb : Below W.heap.size W w2) (m : W.heap[g]? = some o := by (with_reducible repeat (first | refine blk_drewN ?_ _ | refine blk_drew ?_ | refine blk_alloc ?_ _)); exact Aside0.out (by assumption)) : Aside0 (w2.heap[g]? = some o) := ⟨blk_below m hb⟩
theorem q2_ {w w0 W w2 : World} (_B : Aside0 (Below w.heap.size w w0)) (hb : Below W.heap.size W w2) (m : Below w.heap.size w W := by repeat (first | (with_reducible first | exact Aside0.out (by assumption) | apply below_alloc | apply pw_below_drewN | apply below_drew1 | refine below_set ?_ (Aside0.out (by assumption))) | exact Aside0.out (by assumption))) : Aside0 (Below w.heap.size w w2) := ⟨below_step m hb⟩
theorem q3_ {g : Nat} {o : Obj} {w0 W : World} (_B : Aside0 (w0.heap[g]? = some o)) (m : W.heap[g]? = some o := by (with_reducible repeat (first | refine blk_drewN ?_ _ | refine blk_drew ?_ | refine blk_alloc ?_ _)); exact Aside0.out (by assumption)) : Aside0 (W.heap[g]? = some o) := ⟨m⟩
theorem q4_ {α : Type} (l : List α) (i : Nat) (a : α) : l.toArray.setIfInBounds i a = (l.set i a).toArray := List.setIfInBounds_toArray _ _ _
theorem q5_ {α : Type} (b : α) (l : List α) (a : α) : (b :: l).set 0 a = a :: l := rfl
theorem q6_ {α : Type} (b : α) (l : List α) (i : Nat) (a : α) : (b :: l).set (i + 1) a = b :: l.set i a := rfl
theorem q7_ {w : World} {g : Nat} {t : TypeId} {cs : Array Value} (h : Aside0 (w.heap[g]? = some (.cells cs t (0, 0)))) (i : Nat) {v : Value} (hv : cs[i]? = some v) : w.cell? ⟨g, i, none⟩ = some v := (blk_cell h.out i).trans hv
theorem q8_ {W : World} {g g' i j : Nat} {u : Value} (h : Aside0 (g ≠ g')) : (W.setCell ⟨g', j, none⟩ u).cell? ⟨g, i, none⟩ = W.cell? ⟨g, i, none⟩ := cell_far (p := ⟨g', j, none⟩) h.out u
theorem q9_ {w : World} {g : Nat} {t : TypeId} {v0 v1 v2 v3 v4 v5 : Value} (h : Aside0 (w.heap[g]? = some (.cells #[v0, v1, v2, v3, v4, v5] t (0, 0)))) : w.cell? ⟨g, 0, none⟩ = some v0 ∧ w.cell? ⟨g, 1, none⟩ = some v1 ∧ w.cell? ⟨g, 2, none⟩ = some v2 ∧ w.cell? ⟨g, 3, none⟩ = some v3 ∧ w.cell? ⟨g, 4, none⟩ = some v4 ∧ w.cell? ⟨g, 5, none⟩ = some v5 := ⟨q7_ h 0 rfl, q7_ h 1 rfl, q7_ h 2 rfl, q7_ h 3 rfl, q7_ h 4 rfl, q7_ h 5 rfl⟩
theorem q10_ {w : World} {g : Nat} {t : TypeId} {cs : Array Value} (h : Aside0 (w.heap[g]? = some (.cells cs t (0, 0)))) : w.frozen? ⟨g, 0, none⟩ = false ∧ w.frozen? ⟨g, 1, none⟩ = false ∧ w.frozen? ⟨g, 2, none⟩ = false ∧ w.frozen? ⟨g, 3, none⟩ = false ∧ w.frozen? ⟨g, 4, none⟩ = false ∧ w.frozen? ⟨g, 5, none⟩ = false := ⟨blk_frozen h.out 0, blk_frozen h.out 1, blk_frozen h.out 2, blk_frozen h.out 3, blk_frozen h.out 4, blk_frozen h.out 5⟩
theorem q11_ {w w0 W : World} {g : Nat} (_B : Aside0 (Below w.heap.size w w0)) (hg : g = W.heap.size) (m : Below w.heap.size w W := by repeat (first | (with_reducible first | exact Aside0.out (by assumption) | apply below_alloc | apply pw_below_drewN | apply below_drew1 | refine below_set ?_ (Aside0.out (by assumption))) | exact Aside0.out (by assumption))) : Aside0 (w.heap.size ≤ g) := ⟨by rw [hg]; exact m.size⟩
theorem q12_ {g g' : Nat} {o : Obj} {w0 W : World} (_B : Aside0 (w0.heap[g]? = some o)) (hg : g' = W.heap.size) (m : W.heap[g]? = some o := by (with_reducible repeat (first | refine blk_drewN ?_ _ | refine blk_drew ?_ | refine blk_alloc ?_ _)); exact Aside0.out (by assumption)) : Aside0 (g ≠ g') := ⟨by rw [hg]; exact Nat.ne_of_lt (blk_lt m)⟩
theorem q13_ {g g' : Nat} {o : Obj} {w0 W : World} (_B : Aside0 (w0.heap[g]? = some o)) (hg : g' = W.heap.size) (m : W.heap[g]? = some o := by (with_reducible repeat (first | refine blk_drewN ?_ _ | refine blk_drew ?_ | refine blk_alloc ?_ _)); exact Aside0.out (by assumption)) : Aside0 (g' ≠ g) := ⟨by rw [hg]; exact Nat.ne_of_gt (blk_lt m)⟩
end Go.Proofs.Ytgkmacgckoifaaa.PDr
-- shorter
