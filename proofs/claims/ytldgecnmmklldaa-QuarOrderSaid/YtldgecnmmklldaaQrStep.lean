/- append at a step of a drawn region; slices of what is held behind other steps. -/
import Derived.Test.YtldgecnmmklldaaQrBag
import Derived.Test.YtldgecnmmklldaaWLast
namespace Go.Proofs.Ytldgecnmmklldaa.Qr
open Go.RowKit Go.Proofs.YtldgecnmmklldaaW.PrintLast
set_option linter.unusedVariables false
set_option linter.unusedSimpArgs false
theorem Blk.new' {w : World} {t : TypeId} {cs : Array Value} {sb : Nat} (h : w.heap.size = sb) : Blk (w.alloc (.cells cs t)) sb t cs := h ▸ Blk.new w t cs
theorem Bag.alloc {w : World} {base : Nat} {A : Option Addr} {n cap : Nat} {z : Nat → HV} (h : Bag w base A n cap z) (o : Obj) : Bag (w.alloc o) base A n cap z := h.keep fun k hk hl => Below.heap_alloc w o k hl
theorem Bag.drew {w : World} {base : Nat} {A : Option Addr} {n cap : Nat} {z : Nat → HV} (h : Bag w base A n cap z) : Bag w.drew base A n cap z := h
theorem Bag.drewN {w : World} {base : Nat} {A : Option Addr} {n cap : Nat} {z : Nat → HV} (h : Bag w base A n cap z) (m : Nat) : Bag (w.drewN m) base A n cap z := h
theorem Bag.far {w : World} {base : Nat} {A : Option Addr} {n cap : Nat} {z : Nat → HV} (h : Bag w base A n cap z) {p : Addr} (hp : ¬ InBlock A p.block) (u : Value) : Bag (w.setCell p u) base A n cap z := h.keep fun k hk _ => Below.heap_setCell w p u k (fun e => hp (e ▸ hk))
theorem bag_step {ops : Array Oper} {Q : Exit → Act → World → Prop} {oi : Oper} {N : Tmp} {a : Act} {w : World} {K : Act → World → Prop} {s x : Operand} {base : Nat} {A : Option Addr} {n cap sb : Nat} {z : Nat → HV} {y0 y1 y2 : Int}
    (hw : Region.wanted oi (yielded ops a.tmps) = true) (hN : oi.dst = some N) (hop : oi.op = .call { callee := .builtin .append, args := #[s, x], argTypes := #[37, 37] }) (hs : a.eval s = .slice A n cap) (hx : a.eval x = .slice (some ⟨sb, 0, none⟩) 1 1)
    (bag : Bag w base A n cap z) (hblk : Blk w sb 23 #[.int .i64 y0, .int .i64 y1, .int .i64 y2]) (hb : base ≤ w.heap.size) (hn : n ≤ 100000)
    (h : ∀ A' cap' w', Bag w' base A' (n + 1) cap' (upd z n ⟨y0, y1, y2⟩) → Turn (InBlock A) w w' → (∀ k, InBlock A' k → InBlock A k ∨ w.heap.size ≤ k) → K (a.put (some N) (.slice A' (n + 1) cap')) w') :
    if Region.wanted oi (yielded ops a.tmps) = true then Oper.wp Try.prog oi a w K Q else K (a.put (some N) undef) w := by
  obtain ⟨A', cap', W', hrun, h1, h2, h3⟩ := append_bag bag ⟨y0, y1, y2⟩ sb hblk hb hn oi.type
  rw [if_pos hw]
  unfold Oper.wp execOp
  simp only [hop, resolve, invoke, builtin, Sem.run_bind, Sem.run_pure, Result.andThen_ok, List.map_toArray, List.map_cons, List.map_nil, hs, hx, hrun]
  show K (a.put oi.dst _) W'
  rw [hN]
  exact h A' cap' W' h1 h2 h3
end Go.Proofs.Ytldgecnmmklldaa.Qr
