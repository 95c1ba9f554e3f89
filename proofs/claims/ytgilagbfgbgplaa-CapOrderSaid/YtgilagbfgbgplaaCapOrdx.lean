-- written by a changed copy of the kit's print program, for this claim
import Derived.Test.YtgilagbfgbgplaaPCapx0
import Derived.Test.YtgilagbfgbgplaaPCapx2
namespace Go.Proofs.Ytgilagbfgbgplaa.PCap
open Go.RowKit Go.Proofs.YtgilagbfgbgplaaW.PrintWords Go.Proofs.YtgilagbfgbgplaaW.PrintLast Go.Proofs.YtgilagbfgbgplaaW.PrintMore
attribute [local go_sem] max2_int min2_int max_two min_two max_three min_three max_four min_four   -- for this text's walks alone
set_option linter.unusedVariables false
set_option linter.unusedSimpArgs false

theorem q1_ {g : Nat} {o : Obj} {w0 W w2 : World} (_B : Aside0 (w0.heap[g]? = some o)) (hb : Below W.heap.size W w2) (m : W.heap[g]? = some o := by (with_reducible repeat (first | refine blk_drewN ?_ _ | refine blk_drew ?_ | refine blk_alloc ?_ _)); exact Aside0.out (by assumption)) : Aside0 (w2.heap[g]? = some o) := ⟨blk_below m hb⟩
theorem q2_ {w w0 W w2 : World} (_B : Aside0 (Below w.heap.size w w0)) (hb : Below W.heap.size W w2) (m : Below w.heap.size w W := by repeat (first | (with_reducible first | exact Aside0.out (by assumption) | apply below_alloc | apply pw_below_drewN | apply below_drew1 | refine below_set ?_ (Aside0.out (by assumption))) | exact Aside0.out (by assumption))) : Aside0 (Below w.heap.size w w2) := ⟨below_step m hb⟩
theorem q3_ {g : Nat} {o : Obj} {w0 W : World} (_B : Aside0 (w0.heap[g]? = some o)) (m : W.heap[g]? = some o := by (with_reducible repeat (first | refine blk_drewN ?_ _ | refine blk_drew ?_ | refine blk_alloc ?_ _)); exact Aside0.out (by assumption)) : Aside0 (W.heap[g]? = some o) := ⟨m⟩
theorem q4_ {α : Type} (l : List α) (i : Nat) (a : α) : l.toArray.setIfInBounds i a = (l.set i a).toArray := List.setIfInBounds_toArray _ _ _
theorem q5_ {α : Type} (b : α) (l : List α) (a : α) : (b :: l).set 0 a = a :: l := rfl
theorem q6_ {α : Type} (b : α) (l : List α) (i : Nat) (a : α) : (b :: l).set (i + 1) a = b :: l.set i a := rfl
theorem q7_ {w : World} {g : Nat} {t : TypeId} {cs : Array Value} (h : Aside0 (w.heap[g]? = some (.cells cs t (0, 0)))) (i : Nat) {v : Value} (hv : cs[i]? = some v) : w.cell? ⟨g, i, none⟩ = some v := (blk_cell h.out i).trans hv
abbrev m0_ : Array Bool := #[false, false, false, false, false, false, false, false, false, false, false, false, false, false, false, false, false, false, false, false, false, false, false, false, false, false, false, false, false, false, false, false, false, false, false, false, false, false, false, false, false]
abbrev m1_ : Array Bool := #[true, false, false, false, false, false, false, false, false, false, false, false, false, false, false, false, false, false, false, false, false, false, false, false, false, false, false, false, false, false, false, false, false, false, false, false, false, false, false, false, false]
abbrev m2_ : Array Bool := #[true, true, false, false, false, false, false, false, false, false, false, false, false, false, false, false, false, false, false, false, false, false, false, false, false, false, false, false, false, false, false, false, false, false, false, false, false, false, false, false, false]
abbrev m3_ : Array Bool := #[true, true, true, false, false, false, false, false, false, false, false, false, false, false, false, false, false, false, false, false, false, false, false, false, false, false, false, false, false, false, false, false, false, false, false, false, false, false, false, false, false]
abbrev m4_ : Array Bool := #[true, true, true, true, false, false, false, false, false, false, false, false, false, false, false, false, false, false, false, false, false, false, false, false, false, false, false, false, false, false, false, false, false, false, false, false, false, false, false, false, false]
abbrev m5_ : Array Bool := #[true, true, true, true, true, false, false, false, false, false, false, false, false, false, false, false, false, false, false, false, false, false, false, false, false, false, false, false, false, false, false, false, false, false, false, false, false, false, false, false, false]
abbrev m6_ : Array Bool := #[true, true, true, true, true, true, false, false, false, false, false, false, false, false, false, false, false, false, false, false, false, false, false, false, false, false, false, false, false, false, false, false, false, false, false, false, false, false, false, false, false]
abbrev m7_ : Array Bool := #[true, true, true, true, true, true, true, false, false, false, false, false, false, false, false, false, false, false, false, false, false, false, false, false, false, false, false, false, false, false, false, false, false, false, false, false, false, false, false, false, false]
abbrev m8_ : Array Bool := #[true, true, true, true, true, true, true, true, false, false, false, false, false, false, false, false, false, false, false, false, false, false, false, false, false, false, false, false, false, false, false, false, false, false, false, false, false, false, false, false, false]
abbrev m9_ : Array Bool := #[true, true, true, true, true, true, true, true, true, false, false, false, false, false, false, false, false, false, false, false, false, false, false, false, false, false, false, false, false, false, false, false, false, false, false, false, false, false, false, false, false]
abbrev m10_ : Array Bool := #[true, true, true, true, true, true, true, true, true, true, false, false, false, false, false, false, false, false, false, false, false, false, false, false, false, false, false, false, false, false, false, false, false, false, false, false, false, false, false, false, false]
abbrev m11_ : Array Bool := #[true, true, true, true, true, true, true, true, true, true, true, false, false, false, false, false, false, false, false, false, false, false, false, false, false, false, false, false, false, false, false, false, false, false, false, false, false, false, false, false, false]
abbrev m12_ : Array Bool := #[true, true, true, true, true, true, true, true, true, true, true, true, false, false, false, false, false, false, false, false, false, false, false, false, false, false, false, false, false, false, false, false, false, false, false, false, false, false, false, false, false]
abbrev m13_ : Array Bool := #[true, true, true, true, true, true, true, true, true, true, true, true, true, false, false, false, false, false, false, false, false, false, false, false, false, false, false, false, false, false, false, false, false, false, false, false, false, false, false, false, false]
abbrev m14_ : Array Bool := #[true, true, true, true, true, true, true, true, true, true, true, true, true, true, false, false, false, false, false, false, false, false, false, false, false, false, false, false, false, false, false, false, false, false, false, false, false, false, false, false, false]
abbrev m15_ : Array Bool := #[true, true, true, true, true, true, true, true, true, true, true, true, true, true, true, false, false, false, false, false, false, false, false, false, false, false, false, false, false, false, false, false, false, false, false, false, false, false, false, false, false]
abbrev m16_ : Array Bool := #[true, true, true, true, true, true, true, true, true, true, true, true, true, true, true, true, false, false, false, false, false, false, false, false, false, false, false, false, false, false, false, false, false, false, false, false, false, false, false, false, false]
abbrev m17_ : Array Bool := #[true, true, true, true, true, true, true, true, true, true, true, true, true, true, true, true, true, false, false, false, false, false, false, false, false, false, false, false, false, false, false, false, false, false, false, false, false, false, false, false, false]
abbrev m18_ : Array Bool := #[true, true, true, true, true, true, true, true, true, true, true, true, true, true, true, true, true, true, false, false, false, false, false, false, false, false, false, false, false, false, false, false, false, false, false, false, false, false, false, false, false]
abbrev m19_ : Array Bool := #[true, true, true, true, true, true, true, true, true, true, true, true, true, true, true, true, true, true, true, false, false, false, false, false, false, false, false, false, false, false, false, false, false, false, false, false, false, false, false, false, false]
abbrev m20_ : Array Bool := #[true, true, true, true, true, true, true, true, true, true, true, true, true, true, true, true, true, true, true, true, false, false, false, false, false, false, false, false, false, false, false, false, false, false, false, false, false, false, false, false, false]
abbrev m21_ : Array Bool := #[true, true, true, true, true, true, true, true, true, true, true, true, true, true, true, true, true, true, true, true, true, false, false, false, false, false, false, false, false, false, false, false, false, false, false, false, false, false, false, false, false]
abbrev m22_ : Array Bool := #[true, true, true, true, true, true, true, true, true, true, true, true, true, true, true, true, true, true, true, true, true, true, false, false, false, false, false, false, false, false, false, false, false, false, false, false, false, false, false, false, false]
abbrev m23_ : Array Bool := #[true, true, true, true, true, true, true, true, true, true, true, true, true, true, true, true, true, true, true, true, true, true, true, false, false, false, false, false, false, false, false, false, false, false, false, false, false, false, false, false, false]
abbrev m24_ : Array Bool := #[true, true, true, true, true, true, true, true, true, true, true, true, true, true, true, true, true, true, true, true, true, true, true, true, false, false, false, false, false, false, false, false, false, false, false, false, false, false, false, false, false]
abbrev m25_ : Array Bool := #[true, true, true, true, true, true, true, true, true, true, true, true, true, true, true, true, true, true, true, true, true, true, true, true, false, false, false, false, false, false, false, false, true, false, false, false, false, false, false, false, false]
abbrev m26_ : Array Bool := #[true, true, true, true, true, true, true, true, true, true, true, true, true, true, true, true, true, true, true, true, true, true, true, true, true, false, false, false, false, false, false, false, true, false, false, false, false, false, false, false, false]
abbrev m27_ : Array Bool := #[true, true, true, true, true, true, true, true, true, true, true, true, true, true, true, true, true, true, true, true, true, true, true, true, true, true, false, false, false, false, false, false, true, false, false, false, false, false, false, false, false]
abbrev m28_ : Array Bool := #[true, true, true, true, true, true, true, true, true, true, true, true, true, true, true, true, true, true, true, true, true, true, true, true, true, true, true, false, false, false, false, false, true, false, false, false, false, false, false, false, false]
abbrev m29_ : Array Bool := #[true, true, true, true, true, true, true, true, true, true, true, true, true, true, true, true, true, true, true, true, true, true, true, true, true, true, true, true, false, false, false, false, true, false, false, false, false, false, false, false, false]
abbrev m30_ : Array Bool := #[true, true, true, true, true, true, true, true, true, true, true, true, true, true, true, true, true, true, true, true, true, true, true, true, true, true, true, true, true, false, false, false, true, false, false, false, false, false, false, false, false]
abbrev m31_ : Array Bool := #[true, true, true, true, true, true, true, true, true, true, true, true, true, true, true, true, true, true, true, true, true, true, true, true, true, true, true, true, true, true, false, false, true, false, false, false, false, false, false, false, false]
abbrev m32_ : Array Bool := #[true, true, true, true, true, true, true, true, true, true, true, true, true, true, true, true, true, true, true, true, true, true, true, true, true, true, true, true, true, true, true, false, true, false, false, false, false, false, false, false, false]
abbrev m33_ : Array Bool := #[true, true, true, true, true, true, true, true, true, true, true, true, true, true, true, true, true, true, true, true, true, true, true, true, true, true, true, true, true, true, true, true, true, false, false, false, false, false, false, false, false]
abbrev m34_ : Array Bool := #[true, true, true, true, true, true, true, true, true, true, true, true, true, true, true, true, true, true, true, true, true, true, true, true, true, true, true, true, true, true, true, true, true, true, false, false, false, false, false, false, false]
abbrev m35_ : Array Bool := #[true, true, true, true, true, true, true, true, true, true, true, true, true, true, true, true, true, true, true, true, true, true, true, true, true, true, true, true, true, true, true, true, true, true, true, false, false, false, false, false, false]
abbrev m36_ : Array Bool := #[true, true, true, true, true, true, true, true, true, true, true, true, true, true, true, true, true, true, true, true, true, true, true, true, true, true, true, true, true, true, true, true, true, true, true, true, false, false, false, false, false]
abbrev m37_ : Array Bool := #[true, true, true, true, true, true, true, true, true, true, true, true, true, true, true, true, true, true, true, true, true, true, true, true, true, true, true, true, true, true, true, true, true, true, true, true, true, false, false, false, false]
abbrev m38_ : Array Bool := #[true, true, true, true, true, true, true, true, true, true, true, true, true, true, true, true, true, true, true, true, true, true, true, true, true, true, true, true, true, true, true, true, true, true, true, true, true, true, false, false, false]
abbrev m39_ : Array Bool := #[true, true, true, true, true, true, true, true, true, true, true, true, true, true, true, true, true, true, true, true, true, true, true, true, true, true, true, true, true, true, true, true, true, true, true, true, true, true, true, false, false]
abbrev m40_ : Array Bool := #[true, true, true, true, true, true, true, true, true, true, true, true, true, true, true, true, true, true, true, true, true, true, true, true, true, true, true, true, true, true, true, true, true, true, true, true, true, true, true, true, false]
abbrev m41_ : Array Bool := #[true, true, true, true, true, true, true, true, true, true, true, true, true, true, true, true, true, true, true, true, true, true, true, true, true, true, true, true, true, true, true, true, true, true, true, true, true, true, true, true, true]
/-! ### seizinlaw02_CapOrder: function 9 -/
mutual
def seizinlaw02_CapOrder.j0 : Nat → Bool → Bool → Bool → Int → Int → Int → Int → Int → Bool → Int → Int → Int → Int → Int → Bool → Int → Int → Int → Int → Int → Option (Bool)
 | 0, _, _, _, _, _, _, _, _, _, _, _, _, _, _, _, _, _, _, _, _ => none
 | k + 1, x7, x37, x215000, x215001, x215002, x215003, x215004, x215005, x216000, x216001, x216002, x216003, x216004, x216005, x217000, x217001, x217002, x217003, x217004, x217005 => if x37 = true then (some x7) else (if x215001 = x216001 then (if x215002 = x216002 then (seizinlaw02_CapOrder.j1 k x7 (x215004 == x216004) x215000 x215001 x215002 x215003 x215004 x215005 x216000 x216001 x216002 x216003 x216004 x216005 x217000 x217001 x217002 x217003 x217004 x217005) else (seizinlaw02_CapOrder.j1 k x7 false x215000 x215001 x215002 x215003 x215004 x215005 x216000 x216001 x216002 x216003 x216004 x216005 x217000 x217001 x217002 x217003 x217004 x217005)) else (seizinlaw02_CapOrder.j1 k x7 false x215000 x215001 x215002 x215003 x215004 x215005 x216000 x216001 x216002 x216003 x216004 x216005 x217000 x217001 x217002 x217003 x217004 x217005))
def seizinlaw02_CapOrder.j1 : Nat → Bool → Bool → Bool → Int → Int → Int → Int → Int → Bool → Int → Int → Int → Int → Int → Bool → Int → Int → Int → Int → Int → Option (Bool)
 | 0, _, _, _, _, _, _, _, _, _, _, _, _, _, _, _, _, _, _, _, _ => none
 | k + 1, x7, x8, x215000, x215001, x215002, x215003, x215004, x215005, x216000, x216001, x216002, x216003, x216004, x216005, x217000, x217001, x217002, x217003, x217004, x217005 => if x7 = true then ((cap_Under.f x215000 x215001 x215002 x215003 x215004 x215005 x215000 x215001 x215002 x215003 x215004 x215005).bind fun t221 => (if t221 = true then ((cap_Under.f x215000 x215001 x215002 x215003 x215004 x215005 x216000 x216001 x216002 x216003 x216004 x216005).bind fun t222 => (if t222 = true then ((cap_Under.f x216000 x216001 x216002 x216003 x216004 x216005 x217000 x217001 x217002 x217003 x217004 x217005).bind fun t223 => (if t223 = true then ((cap_Under.f x215000 x215001 x215002 x215003 x215004 x215005 x217000 x217001 x217002 x217003 x217004 x217005).bind fun t224 => (if t224 = true then ((cap_Under.f x215000 x215001 x215002 x215003 x215004 x215005 x216000 x216001 x216002 x216003 x216004 x216005).bind fun t225 => (if t225 = true then ((cap_Under.f x216000 x216001 x216002 x216003 x216004 x216005 x215000 x215001 x215002 x215003 x215004 x215005).bind fun t226 => (if (t226 == x8) = true then ((cap_Root.f 16777216).bind fun bt227 => ((cap_Under.f x215000 x215001 x215002 x215003 x215004 x215005 bt227.1 bt227.2.1 bt227.2.2.1 bt227.2.2.2.1 bt227.2.2.2.2.1 bt227.2.2.2.2.2).bind fun t233 => (some t233))) else (some false))) else (if (false == x8) = true then ((cap_Root.f 16777216).bind fun bt234 => ((cap_Under.f x215000 x215001 x215002 x215003 x215004 x215005 bt234.1 bt234.2.1 bt234.2.2.1 bt234.2.2.2.1 bt234.2.2.2.2.1 bt234.2.2.2.2.2).bind fun t240 => (some t240))) else (some false)))) else (some false))) else ((cap_Under.f x215000 x215001 x215002 x215003 x215004 x215005 x216000 x216001 x216002 x216003 x216004 x216005).bind fun t241 => (if t241 = true then ((cap_Under.f x216000 x216001 x216002 x216003 x216004 x216005 x215000 x215001 x215002 x215003 x215004 x215005).bind fun t242 => (if (t242 == x8) = true then ((cap_Root.f 16777216).bind fun bt243 => ((cap_Under.f x215000 x215001 x215002 x215003 x215004 x215005 bt243.1 bt243.2.1 bt243.2.2.1 bt243.2.2.2.1 bt243.2.2.2.2.1 bt243.2.2.2.2.2).bind fun t249 => (some t249))) else (some false))) else (if (false == x8) = true then ((cap_Root.f 16777216).bind fun bt250 => ((cap_Under.f x215000 x215001 x215002 x215003 x215004 x215005 bt250.1 bt250.2.1 bt250.2.2.1 bt250.2.2.2.1 bt250.2.2.2.2.1 bt250.2.2.2.2.2).bind fun t256 => (some t256))) else (some false)))))) else ((cap_Under.f x215000 x215001 x215002 x215003 x215004 x215005 x216000 x216001 x216002 x216003 x216004 x216005).bind fun t257 => (if t257 = true then ((cap_Under.f x216000 x216001 x216002 x216003 x216004 x216005 x215000 x215001 x215002 x215003 x215004 x215005).bind fun t258 => (if (t258 == x8) = true then ((cap_Root.f 16777216).bind fun bt259 => ((cap_Under.f x215000 x215001 x215002 x215003 x215004 x215005 bt259.1 bt259.2.1 bt259.2.2.1 bt259.2.2.2.1 bt259.2.2.2.2.1 bt259.2.2.2.2.2).bind fun t265 => (some t265))) else (some false))) else (if (false == x8) = true then ((cap_Root.f 16777216).bind fun bt266 => ((cap_Under.f x215000 x215001 x215002 x215003 x215004 x215005 bt266.1 bt266.2.1 bt266.2.2.1 bt266.2.2.2.1 bt266.2.2.2.2.1 bt266.2.2.2.2.2).bind fun t272 => (some t272))) else (some false)))))) else (some false))) else (some false)
end
def seizinlaw02_CapOrder.f (k : Nat) (a0_0 : Bool) (a0_1 : Int) (a0_2 : Int) (a0_3 : Int) (a0_4 : Int) (a0_5 : Int) (a1_0 : Bool) (a1_1 : Int) (a1_2 : Int) (a1_3 : Int) (a1_4 : Int) (a1_5 : Int) (a2_0 : Bool) (a2_1 : Int) (a2_2 : Int) (a2_3 : Int) (a2_4 : Int) (a2_5 : Int) : Option (Bool) := (seizinlaw02_head.f).bind fun t217 => ((cap_Right.f a0_0 a0_1 a0_2 a0_3 a0_4 a0_5).bind fun t218 => (if t218 = true then ((cap_Right.f a1_0 a1_1 a1_2 a1_3 a1_4 a1_5).bind fun t219 => (if t219 = true then ((cap_Right.f a2_0 a2_1 a2_2 a2_3 a2_4 a2_5).bind fun t220 => (if t220 = true then (if a0_0 = true then (if a1_0 = true then (seizinlaw02_CapOrder.j0 k t217 (!a2_0) a0_0 a0_1 a0_2 a0_3 a0_4 a0_5 a1_0 a1_1 a1_2 a1_3 a1_4 a1_5 a2_0 a2_1 a2_2 a2_3 a2_4 a2_5) else (seizinlaw02_CapOrder.j0 k t217 true a0_0 a0_1 a0_2 a0_3 a0_4 a0_5 a1_0 a1_1 a1_2 a1_3 a1_4 a1_5 a2_0 a2_1 a2_2 a2_3 a2_4 a2_5)) else (seizinlaw02_CapOrder.j0 k t217 true a0_0 a0_1 a0_2 a0_3 a0_4 a0_5 a1_0 a1_1 a1_2 a1_3 a1_4 a1_5 a2_0 a2_1 a2_2 a2_3 a2_4 a2_5)) else (seizinlaw02_CapOrder.j0 k t217 true a0_0 a0_1 a0_2 a0_3 a0_4 a0_5 a1_0 a1_1 a1_2 a1_3 a1_4 a1_5 a2_0 a2_1 a2_2 a2_3 a2_4 a2_5))) else (seizinlaw02_CapOrder.j0 k t217 true a0_0 a0_1 a0_2 a0_3 a0_4 a0_5 a1_0 a1_1 a1_2 a1_3 a1_4 a1_5 a2_0 a2_1 a2_2 a2_3 a2_4 a2_5))) else (seizinlaw02_CapOrder.j0 k t217 true a0_0 a0_1 a0_2 a0_3 a0_4 a0_5 a1_0 a1_1 a1_2 a1_3 a1_4 a1_5 a2_0 a2_1 a2_2 a2_3 a2_4 a2_5)))
theorem seizinlaw02_CapOrder.mono_l : ∀ k, (∀ y0 y1 y2 y3 y4 y5 y6 y7 y8 y9 y10 y11 y12 y13 y14 y15 y16 y17 y18 y19, LeO (seizinlaw02_CapOrder.j0 k y0 y1 y2 y3 y4 y5 y6 y7 y8 y9 y10 y11 y12 y13 y14 y15 y16 y17 y18 y19) (seizinlaw02_CapOrder.j0 (k + 1) y0 y1 y2 y3 y4 y5 y6 y7 y8 y9 y10 y11 y12 y13 y14 y15 y16 y17 y18 y19)) ∧ (∀ y0 y1 y2 y3 y4 y5 y6 y7 y8 y9 y10 y11 y12 y13 y14 y15 y16 y17 y18 y19, LeO (seizinlaw02_CapOrder.j1 k y0 y1 y2 y3 y4 y5 y6 y7 y8 y9 y10 y11 y12 y13 y14 y15 y16 y17 y18 y19) (seizinlaw02_CapOrder.j1 (k + 1) y0 y1 y2 y3 y4 y5 y6 y7 y8 y9 y10 y11 y12 y13 y14 y15 y16 y17 y18 y19))
 | 0 => ⟨fun _ _ _ _ _ _ _ _ _ _ _ _ _ _ _ _ _ _ _ _ r h => by simp [seizinlaw02_CapOrder.j0] at h, fun _ _ _ _ _ _ _ _ _ _ _ _ _ _ _ _ _ _ _ _ r h => by simp [seizinlaw02_CapOrder.j1] at h⟩
 | k + 1 => by
  obtain ⟨ih0, ih1⟩ := seizinlaw02_CapOrder.mono_l k
  refine ⟨?_, ?_⟩
  ·intro y0 y1 y2 y3 y4 y5 y6 y7 y8 y9 y10 y11 y12 y13 y14 y15 y16 y17 y18 y19
   unfold seizinlaw02_CapOrder.j0
   repeat' first
   | (with_reducible exact ih0 _ _ _ _ _ _ _ _ _ _ _ _ _ _ _ _ _ _ _ _)
   | (with_reducible exact ih1 _ _ _ _ _ _ _ _ _ _ _ _ _ _ _ _ _ _ _ _)
   | (with_reducible exact LeO.refl _)
   | (with_reducible exact LeO.none _)
   | (with_reducible refine LeO.ite ?_ ?_)
   | (with_reducible refine LeO.bind ?_ (fun _ => ?_))
   | exact ih0 _ _ _ _ _ _ _ _ _ _ _ _ _ _ _ _ _ _ _ _
   | exact ih1 _ _ _ _ _ _ _ _ _ _ _ _ _ _ _ _ _ _ _ _
   | exact LeO.none _
   | refine LeO.ite ?_ ?_
   | refine LeO.bind ?_ (fun _ => ?_)
  ·intro y0 y1 y2 y3 y4 y5 y6 y7 y8 y9 y10 y11 y12 y13 y14 y15 y16 y17 y18 y19
   unfold seizinlaw02_CapOrder.j1
   repeat' first
   | (with_reducible exact ih0 _ _ _ _ _ _ _ _ _ _ _ _ _ _ _ _ _ _ _ _)
   | (with_reducible exact ih1 _ _ _ _ _ _ _ _ _ _ _ _ _ _ _ _ _ _ _ _)
   | (with_reducible exact LeO.refl _)
   | (with_reducible exact LeO.none _)
   | (with_reducible refine LeO.ite ?_ ?_)
   | (with_reducible refine LeO.bind ?_ (fun _ => ?_))
   | exact ih0 _ _ _ _ _ _ _ _ _ _ _ _ _ _ _ _ _ _ _ _
   | exact ih1 _ _ _ _ _ _ _ _ _ _ _ _ _ _ _ _ _ _ _ _
   | exact LeO.none _
   | refine LeO.ite ?_ ?_
   | refine LeO.bind ?_ (fun _ => ?_)
theorem seizinlaw02_CapOrder.mono : ∀ a0 a1 a2 a3 a4 a5 a6 a7 a8 a9 a10 a11 a12 a13 a14 a15 a16 a17 k, LeO (seizinlaw02_CapOrder.f k a0 a1 a2 a3 a4 a5 a6 a7 a8 a9 a10 a11 a12 a13 a14 a15 a16 a17) (seizinlaw02_CapOrder.f (k + 1) a0 a1 a2 a3 a4 a5 a6 a7 a8 a9 a10 a11 a12 a13 a14 a15 a16 a17) := by
 intro a0 a1 a2 a3 a4 a5 a6 a7 a8 a9 a10 a11 a12 a13 a14 a15 a16 a17 k
 obtain ⟨ih0, ih1⟩ := seizinlaw02_CapOrder.mono_l k
 unfold seizinlaw02_CapOrder.f
 repeat' first
   | (with_reducible exact ih0 _ _ _ _ _ _ _ _ _ _ _ _ _ _ _ _ _ _ _ _)
   | (with_reducible exact ih1 _ _ _ _ _ _ _ _ _ _ _ _ _ _ _ _ _ _ _ _)
   | (with_reducible exact LeO.refl _)
   | (with_reducible exact LeO.none _)
   | (with_reducible refine LeO.ite ?_ ?_)
   | (with_reducible refine LeO.bind ?_ (fun _ => ?_))
   | exact ih0 _ _ _ _ _ _ _ _ _ _ _ _ _ _ _ _ _ _ _ _
   | exact ih1 _ _ _ _ _ _ _ _ _ _ _ _ _ _ _ _ _ _ _ _
   | exact LeO.none _
   | refine LeO.ite ?_ ?_
   | refine LeO.bind ?_ (fun _ => ?_)
def seizinlaw02_CapOrder.T5 : Bool × List (List Nat × List Nat) := (true, [([], []), ([0], [0]), ([1], [1]), ([1], [1]), ([2, 3, 1, 1], [1, 2, 3]), ([1, 4], [1, 4]), ([5, 4], [5]), ([6], [6]), ([6], [6]), ([7, 8, 6, 6], [6, 7, 8]), ([9, 6], [6, 9]), ([10, 9, 6], [6, 10]), ([11], [11]), ([11], [11]), ([12, 13, 11, 11], [11, 12, 13]), ([14, 11], [11, 14]), ([11, 15, 6], [6, 11, 15]), ([16, 14, 6], [6, 16]), ([17], [17]), ([17], [17]), ([18, 19, 17, 17], [17, 18, 19]), ([17, 20, 6], [6, 17, 20]), ([6, 21], [6, 21]), ([22, 20], [22]), ([23], [23]), ([23], [23]), ([24, 25, 23, 23], [23, 24, 25]), ([26, 26, 23], [23, 26]), ([27], [27]), ([27], [27]), ([28, 29, 27, 27], [27, 28, 29]), ([27, 30, 23], [23, 27, 30]), ([23], [23]), ([31, 32, 23], [23, 31, 32]), ([23, 33], [23, 33]), ([34, 30], [34]), ([35], [35]), ([35, 35], [35]), ([36, 37, 37, 35], [35, 36, 37]), ([35, 38], [35, 38]), ([39, 38, 0, 1, 2, 3, 4, 5, 6, 7, 8, 9, 10, 11, 12, 13, 14, 15, 16, 17, 18, 19, 20, 21, 22, 23, 24, 25, 26, 27, 28, 29, 30, 31, 32, 33, 34, 35, 36, 37, 38, 39], [39])])
def seizinlaw02_CapOrder.B5 : List Nat := [0, 1, 3, 3, 15, 31, 63, 127, 127, 511, 1023, 2047, 4095, 4095, 16383, 32767, 65535, 131071, 262143, 262143, 1048575, 2097151, 4194303, 8388607, 16777215, 16777215, 67108863, 134217727, 268435455, 268435455, 1073741823, 2147483647, 16777215, 8589934591, 17179869183, 34359738367, 68719476735, 68719476735, 274877906943, 549755813887, 1099511627775]
theorem seizinlaw02_CapOrder.tab5 : rtab .any (opsOf Try.f9 5) = seizinlaw02_CapOrder.T5 := by kernel_rfl
theorem seizinlaw02_CapOrder.bits5 : waitsOk seizinlaw02_CapOrder.T5.2 seizinlaw02_CapOrder.B5 = true := by kernel_rfl
set_option maxHeartbeats 8000000 in
set_option maxRecDepth 100000 in
theorem seizinlaw02_CapOrder.calls (k : Nat) (a0_0 : Bool) (a0_1 : Int) (a0_2 : Int) (a0_3 : Int) (a0_4 : Int) (a0_5 : Int) (a1_0 : Bool) (a1_1 : Int) (a1_2 : Int) (a1_3 : Int) (a1_4 : Int) (a1_5 : Int) (a2_0 : Bool) (a2_1 : Int) (a2_2 : Int) (a2_3 : Int) (a2_4 : Int) (a2_5 : Int) (r : Bool) (w : World) (h : seizinlaw02_CapOrder.f k a0_0 a0_1 a0_2 a0_3 a0_4 a0_5 a1_0 a1_1 a1_2 a1_3 a1_4 a1_5 a2_0 a2_1 a2_2 a2_3 a2_4 a2_5 = some r) (hr_ : r = true) :
  Calls Try.prog 9 #[.agg #[.bool a0_0, .int .i64 a0_1, .int .i64 a0_2, .int .i64 a0_3, .int .i64 a0_4, .int .i64 a0_5], .agg #[.bool a1_0, .int .i64 a1_1, .int .i64 a1_2, .int .i64 a1_3, .int .i64 a1_4, .int .i64 a1_5], .agg #[.bool a2_0, .int .i64 a2_1, .int .i64 a2_2, .int .i64 a2_3, .int .i64 a2_4, .int .i64 a2_5]] w fun e w' => e = .returned (.bool r) ∧ Below w.heap.size w w' := by
 have hu39 := Try.underlying39
 have HB := Aside0.mk (Below.refl w.heap.size w)
 have H : ((seizinlaw02_head.f).bind fun t217 => ((cap_Right.f a0_0 a0_1 a0_2 a0_3 a0_4 a0_5).bind fun t218 => (if t218 = true then ((cap_Right.f a1_0 a1_1 a1_2 a1_3 a1_4 a1_5).bind fun t219 => (if t219 = true then ((cap_Right.f a2_0 a2_1 a2_2 a2_3 a2_4 a2_5).bind fun t220 => (if t220 = true then (if a0_0 = true then (if a1_0 = true then (seizinlaw02_CapOrder.j0 k t217 (!a2_0) a0_0 a0_1 a0_2 a0_3 a0_4 a0_5 a1_0 a1_1 a1_2 a1_3 a1_4 a1_5 a2_0 a2_1 a2_2 a2_3 a2_4 a2_5) else (seizinlaw02_CapOrder.j0 k t217 true a0_0 a0_1 a0_2 a0_3 a0_4 a0_5 a1_0 a1_1 a1_2 a1_3 a1_4 a1_5 a2_0 a2_1 a2_2 a2_3 a2_4 a2_5)) else (seizinlaw02_CapOrder.j0 k t217 true a0_0 a0_1 a0_2 a0_3 a0_4 a0_5 a1_0 a1_1 a1_2 a1_3 a1_4 a1_5 a2_0 a2_1 a2_2 a2_3 a2_4 a2_5)) else (seizinlaw02_CapOrder.j0 k t217 true a0_0 a0_1 a0_2 a0_3 a0_4 a0_5 a1_0 a1_1 a1_2 a1_3 a1_4 a1_5 a2_0 a2_1 a2_2 a2_3 a2_4 a2_5))) else (seizinlaw02_CapOrder.j0 k t217 true a0_0 a0_1 a0_2 a0_3 a0_4 a0_5 a1_0 a1_1 a1_2 a1_3 a1_4 a1_5 a2_0 a2_1 a2_2 a2_3 a2_4 a2_5))) else (seizinlaw02_CapOrder.j0 k t217 true a0_0 a0_1 a0_2 a0_3 a0_4 a0_5 a1_0 a1_1 a1_2 a1_3 a1_4 a1_5 a2_0 a2_1 a2_2 a2_3 a2_4 a2_5)))) = some r := h
 clear h
 replace H := Option.bind_eq_some_iff.mp H
 obtain ⟨t217, A40, H⟩ := H
 replace H : ((cap_Right.f a0_0 a0_1 a0_2 a0_3 a0_4 a0_5).bind fun t218 => (if t218 = true then ((cap_Right.f a1_0 a1_1 a1_2 a1_3 a1_4 a1_5).bind fun t219 => (if t219 = true then ((cap_Right.f a2_0 a2_1 a2_2 a2_3 a2_4 a2_5).bind fun t220 => (if t220 = true then (if a0_0 = true then (if a1_0 = true then (seizinlaw02_CapOrder.j0 k t217 (!a2_0) a0_0 a0_1 a0_2 a0_3 a0_4 a0_5 a1_0 a1_1 a1_2 a1_3 a1_4 a1_5 a2_0 a2_1 a2_2 a2_3 a2_4 a2_5) else (seizinlaw02_CapOrder.j0 k t217 true a0_0 a0_1 a0_2 a0_3 a0_4 a0_5 a1_0 a1_1 a1_2 a1_3 a1_4 a1_5 a2_0 a2_1 a2_2 a2_3 a2_4 a2_5)) else (seizinlaw02_CapOrder.j0 k t217 true a0_0 a0_1 a0_2 a0_3 a0_4 a0_5 a1_0 a1_1 a1_2 a1_3 a1_4 a1_5 a2_0 a2_1 a2_2 a2_3 a2_4 a2_5)) else (seizinlaw02_CapOrder.j0 k t217 true a0_0 a0_1 a0_2 a0_3 a0_4 a0_5 a1_0 a1_1 a1_2 a1_3 a1_4 a1_5 a2_0 a2_1 a2_2 a2_3 a2_4 a2_5))) else (seizinlaw02_CapOrder.j0 k t217 true a0_0 a0_1 a0_2 a0_3 a0_4 a0_5 a1_0 a1_1 a1_2 a1_3 a1_4 a1_5 a2_0 a2_1 a2_2 a2_3 a2_4 a2_5))) else (seizinlaw02_CapOrder.j0 k t217 true a0_0 a0_1 a0_2 a0_3 a0_4 a0_5 a1_0 a1_1 a1_2 a1_3 a1_4 a1_5 a2_0 a2_1 a2_2 a2_3 a2_4 a2_5))) = some r := H
 have A4 := Aside0.mk A40
 clear A40
 have HC5 := Aside0.mk H
 clear H
 go_enter Try.func9, Try.ntmps9
 go_upto_region 2 with (first | ((with_reducible refine gate_dst (N := 3) rfl ?_); refine box_event ?hg (N := 3) ?hd (cs := #[.bool a0_0, .int .i64 a0_1, .int .i64 a0_2, .int .i64 a0_3, .int .i64 a0_4, .int .i64 a0_5]) (t := 39) ?hr ?_; (case hd => rfl); (case hg => rfl); (case hr => first | (go_simp; done) | (go_simp; rfl)); intro gb214 hg w6 hbox hb; have n0_ := q2_ HB hb; have n1_ := Aside0.mk (hbox); have n2_ := Aside0.mk ((by rw [hg]; exact (below_size (by repeat (first | (with_reducible first | exact HB.out | apply below_alloc | apply pw_below_drewN | apply below_drew1) | exact HB.out))) : w.heap.size ≤ gb214)); have n3_ := Aside0.mk ((by rw [hg]; exact (below_size (by repeat (first | (with_reducible first | exact HB.out | apply below_alloc | apply pw_below_drewN | apply below_drew1) | exact HB.out))) : w.heap.size ≤ gb214)); clear HB; have HB := n0_; have BK214 := n1_; have GW214 := n2_; have GE214 := n3_; clear n0_ n1_ n2_ n3_; clear hb hbox hg) | ((with_reducible refine gate_dst (N := 4) rfl ?_); refine box_event ?hg (N := 4) ?hd (cs := #[.bool a1_0, .int .i64 a1_1, .int .i64 a1_2, .int .i64 a1_3, .int .i64 a1_4, .int .i64 a1_5]) (t := 39) ?hr ?_; (case hd => rfl); (case hg => rfl); (case hr => first | (go_simp; done) | (go_simp; rfl)); intro gb215 hg w7 hbox hb; have n0_ := q1_ BK214 hb; have n1_ := q2_ HB hb; have n2_ := Aside0.mk (hbox); have n3_ := Aside0.mk ((by rw [hg]; exact (below_size (by repeat (first | (with_reducible first | exact HB.out | apply below_alloc | apply pw_below_drewN | apply below_drew1 | refine below_set ?_ GE214.out) | exact HB.out))) : w.heap.size ≤ gb215)); have n4_ := Aside0.mk ((by rw [hg]; exact (below_size (by repeat (first | (with_reducible first | exact HB.out | apply below_alloc | apply pw_below_drewN | apply below_drew1 | refine below_set ?_ GE214.out) | exact HB.out))) : w.heap.size ≤ gb215)); have n5_ := Aside0.mk ((by rw [hg]; exact Nat.ne_of_lt (blk_lt (g := gb214) (o := .cells #[.bool a0_0, .int .i64 a0_1, .int .i64 a0_2, .int .i64 a0_3, .int .i64 a0_4, .int .i64 a0_5] 39 (0, 0)) (by (with_reducible repeat (first | refine blk_drewN ?_ _ | refine blk_drew ?_ | refine blk_alloc ?_ _)); exact BK214.out)) : gb214 ≠ gb215)); have n6_ := Aside0.mk ((by rw [hg]; exact Nat.ne_of_gt (blk_lt (g := gb214) (o := .cells #[.bool a0_0, .int .i64 a0_1, .int .i64 a0_2, .int .i64 a0_3, .int .i64 a0_4, .int .i64 a0_5] 39 (0, 0)) (by (with_reducible repeat (first | refine blk_drewN ?_ _ | refine blk_drew ?_ | refine blk_alloc ?_ _)); exact BK214.out)) : gb215 ≠ gb214)); clear BK214; clear HB; have BK214 := n0_; have HB := n1_; have BK215 := n2_; have GW215 := n3_; have GE215 := n4_; have NB214_215 := n5_; have NB215_214 := n6_; clear n0_ n1_ n2_ n3_ n4_ n5_ n6_; clear hb hbox hg) | ((with_reducible refine gate_dst (N := 5) rfl ?_); refine box_event ?hg (N := 5) ?hd (cs := #[.bool a2_0, .int .i64 a2_1, .int .i64 a2_2, .int .i64 a2_3, .int .i64 a2_4, .int .i64 a2_5]) (t := 39) ?hr ?_; (case hd => rfl); (case hg => rfl); (case hr => first | (go_simp; done) | (go_simp; rfl)); intro gb216 hg w8 hbox hb; have n0_ := q1_ BK214 hb; have n1_ := q1_ BK215 hb; have n2_ := q2_ HB hb; have n3_ := Aside0.mk (hbox); have n4_ := Aside0.mk ((by rw [hg]; exact (below_size (by repeat (first | (with_reducible first | exact HB.out | apply below_alloc | apply pw_below_drewN | apply below_drew1 | refine below_set ?_ GE214.out | refine below_set ?_ GE215.out) | exact HB.out))) : w.heap.size ≤ gb216)); have n5_ := Aside0.mk ((by rw [hg]; exact (below_size (by repeat (first | (with_reducible first | exact HB.out | apply below_alloc | apply pw_below_drewN | apply below_drew1 | refine below_set ?_ GE214.out | refine below_set ?_ GE215.out) | exact HB.out))) : w.heap.size ≤ gb216)); have n6_ := Aside0.mk ((by rw [hg]; exact Nat.ne_of_lt (blk_lt (g := gb214) (o := .cells #[.bool a0_0, .int .i64 a0_1, .int .i64 a0_2, .int .i64 a0_3, .int .i64 a0_4, .int .i64 a0_5] 39 (0, 0)) (by (with_reducible repeat (first | refine blk_drewN ?_ _ | refine blk_drew ?_ | refine blk_alloc ?_ _)); exact BK214.out)) : gb214 ≠ gb216)); have n7_ := Aside0.mk ((by rw [hg]; exact Nat.ne_of_gt (blk_lt (g := gb214) (o := .cells #[.bool a0_0, .int .i64 a0_1, .int .i64 a0_2, .int .i64 a0_3, .int .i64 a0_4, .int .i64 a0_5] 39 (0, 0)) (by (with_reducible repeat (first | refine blk_drewN ?_ _ | refine blk_drew ?_ | refine blk_alloc ?_ _)); exact BK214.out)) : gb216 ≠ gb214)); have n8_ := Aside0.mk ((by rw [hg]; exact Nat.ne_of_lt (blk_lt (g := gb215) (o := .cells #[.bool a1_0, .int .i64 a1_1, .int .i64 a1_2, .int .i64 a1_3, .int .i64 a1_4, .int .i64 a1_5] 39 (0, 0)) (by (with_reducible repeat (first | refine blk_drewN ?_ _ | refine blk_drew ?_ | refine blk_alloc ?_ _)); exact BK215.out)) : gb215 ≠ gb216)); have n9_ := Aside0.mk ((by rw [hg]; exact Nat.ne_of_gt (blk_lt (g := gb215) (o := .cells #[.bool a1_0, .int .i64 a1_1, .int .i64 a1_2, .int .i64 a1_3, .int .i64 a1_4, .int .i64 a1_5] 39 (0, 0)) (by (with_reducible repeat (first | refine blk_drewN ?_ _ | refine blk_drew ?_ | refine blk_alloc ?_ _)); exact BK215.out)) : gb216 ≠ gb215)); clear BK214; clear BK215; clear HB; have BK214 := n0_; have BK215 := n1_; have HB := n2_; have BK216 := n3_; have GW216 := n4_; have GE216 := n5_; have NB214_216 := n6_; have NB216_214 := n7_; have NB215_216 := n8_; have NB216_215 := n9_; clear n0_ n1_ n2_ n3_ n4_ n5_ n6_ n7_ n8_ n9_; clear hb hbox hg) | ((with_reducible refine gate_callee (f := 30) rfl ?_); refine goesL_ (some 9) rfl rfl Try.func30 (by kernel_rfl) rfl #[] rfl (by (try simp only [List.map_toArray, List.map_cons, List.map_nil]); first | done | rfl | (simp only [List.length_drop, List.length_take]; rfl)) ?_; (with_reducible refine (seizinlaw02_head.calls  t217 _ A4.out).mono ?_); rintro e w9 ⟨rfl, hb⟩; refine ⟨_, rfl, ?_⟩; have n0_ := q1_ BK214 hb; have n1_ := q1_ BK215 hb; have n2_ := q1_ BK216 hb; have n3_ := q2_ HB hb; clear BK214; clear BK215; clear BK216; clear HB; have BK214 := n0_; have BK215 := n1_; have BK216 := n2_; have HB := n3_; clear n0_ n1_ n2_ n3_; (try clear hb); (try clear hb2); (try clear hk); (try clear hi)))
 (try simp only [Act.put, q4_, q5_, q6_])
 go_cut [37] (fun v37 wc => ∃ (kq : Nat) (x37_4 : Bool), v37 = .bool x37_4 ∧ Aside0 (seizinlaw02_CapOrder.j0 kq t217 x37_4 a0_0 a0_1 a0_2 a0_3 a0_4 a0_5 a1_0 a1_1 a1_2 a1_3 a1_4 a1_5 a2_0 a2_1 a2_2 a2_3 a2_4 a2_5 = some r) ∧ Aside0 (kq ≤ k) ∧ Aside0 (wc.heap[gb214]? = some (.cells #[.bool a0_0, .int .i64 a0_1, .int .i64 a0_2, .int .i64 a0_3, .int .i64 a0_4, .int .i64 a0_5] 39 (0, 0))) ∧ Aside0 (wc.heap[gb215]? = some (.cells #[.bool a1_0, .int .i64 a1_1, .int .i64 a1_2, .int .i64 a1_3, .int .i64 a1_4, .int .i64 a1_5] 39 (0, 0))) ∧ Aside0 (wc.heap[gb216]? = some (.cells #[.bool a2_0, .int .i64 a2_1, .int .i64 a2_2, .int .i64 a2_3, .int .i64 a2_4, .int .i64 a2_5] 39 (0, 0))) ∧ Aside0 (Below w.heap.size w wc))
 case first =>
  have H := HC5.out
  clear HC5
  replace H := Option.bind_eq_some_iff.mp H
  obtain ⟨t218, A100, H⟩ := H
  replace H : (if t218 = true then ((cap_Right.f a1_0 a1_1 a1_2 a1_3 a1_4 a1_5).bind fun t219 => (if t219 = true then ((cap_Right.f a2_0 a2_1 a2_2 a2_3 a2_4 a2_5).bind fun t220 => (if t220 = true then (if a0_0 = true then (if a1_0 = true then (seizinlaw02_CapOrder.j0 k t217 (!a2_0) a0_0 a0_1 a0_2 a0_3 a0_4 a0_5 a1_0 a1_1 a1_2 a1_3 a1_4 a1_5 a2_0 a2_1 a2_2 a2_3 a2_4 a2_5) else (seizinlaw02_CapOrder.j0 k t217 true a0_0 a0_1 a0_2 a0_3 a0_4 a0_5 a1_0 a1_1 a1_2 a1_3 a1_4 a1_5 a2_0 a2_1 a2_2 a2_3 a2_4 a2_5)) else (seizinlaw02_CapOrder.j0 k t217 true a0_0 a0_1 a0_2 a0_3 a0_4 a0_5 a1_0 a1_1 a1_2 a1_3 a1_4 a1_5 a2_0 a2_1 a2_2 a2_3 a2_4 a2_5)) else (seizinlaw02_CapOrder.j0 k t217 true a0_0 a0_1 a0_2 a0_3 a0_4 a0_5 a1_0 a1_1 a1_2 a1_3 a1_4 a1_5 a2_0 a2_1 a2_2 a2_3 a2_4 a2_5))) else (seizinlaw02_CapOrder.j0 k t217 true a0_0 a0_1 a0_2 a0_3 a0_4 a0_5 a1_0 a1_1 a1_2 a1_3 a1_4 a1_5 a2_0 a2_1 a2_2 a2_3 a2_4 a2_5))) else (seizinlaw02_CapOrder.j0 k t217 true a0_0 a0_1 a0_2 a0_3 a0_4 a0_5 a1_0 a1_1 a1_2 a1_3 a1_4 a1_5 a2_0 a2_1 a2_2 a2_3 a2_4 a2_5)) = some r := H
  have A10 := Aside0.mk A100
  clear A100
  by_cases c11 : t218 = true
  ·subst c11
   have H1 : ((cap_Right.f a1_0 a1_1 a1_2 a1_3 a1_4 a1_5).bind fun t219 => (if t219 = true then ((cap_Right.f a2_0 a2_1 a2_2 a2_3 a2_4 a2_5).bind fun t220 => (if t220 = true then (if a0_0 = true then (if a1_0 = true then (seizinlaw02_CapOrder.j0 k t217 (!a2_0) a0_0 a0_1 a0_2 a0_3 a0_4 a0_5 a1_0 a1_1 a1_2 a1_3 a1_4 a1_5 a2_0 a2_1 a2_2 a2_3 a2_4 a2_5) else (seizinlaw02_CapOrder.j0 k t217 true a0_0 a0_1 a0_2 a0_3 a0_4 a0_5 a1_0 a1_1 a1_2 a1_3 a1_4 a1_5 a2_0 a2_1 a2_2 a2_3 a2_4 a2_5)) else (seizinlaw02_CapOrder.j0 k t217 true a0_0 a0_1 a0_2 a0_3 a0_4 a0_5 a1_0 a1_1 a1_2 a1_3 a1_4 a1_5 a2_0 a2_1 a2_2 a2_3 a2_4 a2_5)) else (seizinlaw02_CapOrder.j0 k t217 true a0_0 a0_1 a0_2 a0_3 a0_4 a0_5 a1_0 a1_1 a1_2 a1_3 a1_4 a1_5 a2_0 a2_1 a2_2 a2_3 a2_4 a2_5))) else (seizinlaw02_CapOrder.j0 k t217 true a0_0 a0_1 a0_2 a0_3 a0_4 a0_5 a1_0 a1_1 a1_2 a1_3 a1_4 a1_5 a2_0 a2_1 a2_2 a2_3 a2_4 a2_5))) = some r := by rw [if_pos rfl] at H; exact H
   clear H
   have H := H1
   clear H1
   replace H := Option.bind_eq_some_iff.mp H
   obtain ⟨t219, A120, H⟩ := H
   replace H : (if t219 = true then ((cap_Right.f a2_0 a2_1 a2_2 a2_3 a2_4 a2_5).bind fun t220 => (if t220 = true then (if a0_0 = true then (if a1_0 = true then (seizinlaw02_CapOrder.j0 k t217 (!a2_0) a0_0 a0_1 a0_2 a0_3 a0_4 a0_5 a1_0 a1_1 a1_2 a1_3 a1_4 a1_5 a2_0 a2_1 a2_2 a2_3 a2_4 a2_5) else (seizinlaw02_CapOrder.j0 k t217 true a0_0 a0_1 a0_2 a0_3 a0_4 a0_5 a1_0 a1_1 a1_2 a1_3 a1_4 a1_5 a2_0 a2_1 a2_2 a2_3 a2_4 a2_5)) else (seizinlaw02_CapOrder.j0 k t217 true a0_0 a0_1 a0_2 a0_3 a0_4 a0_5 a1_0 a1_1 a1_2 a1_3 a1_4 a1_5 a2_0 a2_1 a2_2 a2_3 a2_4 a2_5)) else (seizinlaw02_CapOrder.j0 k t217 true a0_0 a0_1 a0_2 a0_3 a0_4 a0_5 a1_0 a1_1 a1_2 a1_3 a1_4 a1_5 a2_0 a2_1 a2_2 a2_3 a2_4 a2_5))) else (seizinlaw02_CapOrder.j0 k t217 true a0_0 a0_1 a0_2 a0_3 a0_4 a0_5 a1_0 a1_1 a1_2 a1_3 a1_4 a1_5 a2_0 a2_1 a2_2 a2_3 a2_4 a2_5)) = some r := H
   have A12 := Aside0.mk A120
   clear A120
   by_cases c13 : t219 = true
   ·subst c13
    have H1 : ((cap_Right.f a2_0 a2_1 a2_2 a2_3 a2_4 a2_5).bind fun t220 => (if t220 = true then (if a0_0 = true then (if a1_0 = true then (seizinlaw02_CapOrder.j0 k t217 (!a2_0) a0_0 a0_1 a0_2 a0_3 a0_4 a0_5 a1_0 a1_1 a1_2 a1_3 a1_4 a1_5 a2_0 a2_1 a2_2 a2_3 a2_4 a2_5) else (seizinlaw02_CapOrder.j0 k t217 true a0_0 a0_1 a0_2 a0_3 a0_4 a0_5 a1_0 a1_1 a1_2 a1_3 a1_4 a1_5 a2_0 a2_1 a2_2 a2_3 a2_4 a2_5)) else (seizinlaw02_CapOrder.j0 k t217 true a0_0 a0_1 a0_2 a0_3 a0_4 a0_5 a1_0 a1_1 a1_2 a1_3 a1_4 a1_5 a2_0 a2_1 a2_2 a2_3 a2_4 a2_5)) else (seizinlaw02_CapOrder.j0 k t217 true a0_0 a0_1 a0_2 a0_3 a0_4 a0_5 a1_0 a1_1 a1_2 a1_3 a1_4 a1_5 a2_0 a2_1 a2_2 a2_3 a2_4 a2_5))) = some r := by rw [if_pos rfl] at H; exact H
    clear H
    have H := H1
    clear H1
    replace H := Option.bind_eq_some_iff.mp H
    obtain ⟨t220, A140, H⟩ := H
    replace H : (if t220 = true then (if a0_0 = true then (if a1_0 = true then (seizinlaw02_CapOrder.j0 k t217 (!a2_0) a0_0 a0_1 a0_2 a0_3 a0_4 a0_5 a1_0 a1_1 a1_2 a1_3 a1_4 a1_5 a2_0 a2_1 a2_2 a2_3 a2_4 a2_5) else (seizinlaw02_CapOrder.j0 k t217 true a0_0 a0_1 a0_2 a0_3 a0_4 a0_5 a1_0 a1_1 a1_2 a1_3 a1_4 a1_5 a2_0 a2_1 a2_2 a2_3 a2_4 a2_5)) else (seizinlaw02_CapOrder.j0 k t217 true a0_0 a0_1 a0_2 a0_3 a0_4 a0_5 a1_0 a1_1 a1_2 a1_3 a1_4 a1_5 a2_0 a2_1 a2_2 a2_3 a2_4 a2_5)) else (seizinlaw02_CapOrder.j0 k t217 true a0_0 a0_1 a0_2 a0_3 a0_4 a0_5 a1_0 a1_1 a1_2 a1_3 a1_4 a1_5 a2_0 a2_1 a2_2 a2_3 a2_4 a2_5)) = some r := H
    have A14 := Aside0.mk A140
    clear A140
    by_cases c15 : t220 = true
    ·subst c15
     have H1 : (if a0_0 = true then (if a1_0 = true then (seizinlaw02_CapOrder.j0 k t217 (!a2_0) a0_0 a0_1 a0_2 a0_3 a0_4 a0_5 a1_0 a1_1 a1_2 a1_3 a1_4 a1_5 a2_0 a2_1 a2_2 a2_3 a2_4 a2_5) else (seizinlaw02_CapOrder.j0 k t217 true a0_0 a0_1 a0_2 a0_3 a0_4 a0_5 a1_0 a1_1 a1_2 a1_3 a1_4 a1_5 a2_0 a2_1 a2_2 a2_3 a2_4 a2_5)) else (seizinlaw02_CapOrder.j0 k t217 true a0_0 a0_1 a0_2 a0_3 a0_4 a0_5 a1_0 a1_1 a1_2 a1_3 a1_4 a1_5 a2_0 a2_1 a2_2 a2_3 a2_4 a2_5)) = some r := by rw [if_pos rfl] at H; exact H
     clear H
     have H := H1
     clear H1
     by_cases c16 : a0_0 = true
     ·subst c16
      have H1 : (if a1_0 = true then (seizinlaw02_CapOrder.j0 k t217 (!a2_0) true a0_1 a0_2 a0_3 a0_4 a0_5 a1_0 a1_1 a1_2 a1_3 a1_4 a1_5 a2_0 a2_1 a2_2 a2_3 a2_4 a2_5) else (seizinlaw02_CapOrder.j0 k t217 true true a0_1 a0_2 a0_3 a0_4 a0_5 a1_0 a1_1 a1_2 a1_3 a1_4 a1_5 a2_0 a2_1 a2_2 a2_3 a2_4 a2_5)) = some r := by rw [if_pos rfl] at H; exact H
      clear H
      have H := H1
      clear H1
      by_cases c17 : a1_0 = true
      ·subst c17
       have H1 : (seizinlaw02_CapOrder.j0 k t217 (!a2_0) true a0_1 a0_2 a0_3 a0_4 a0_5 true a1_1 a1_2 a1_3 a1_4 a1_5 a2_0 a2_1 a2_2 a2_3 a2_4 a2_5) = some r := by rw [if_pos rfl] at H; exact H
       clear H
       have H := H1
       clear H1
       have H' := Aside0.mk H
       clear H
       have hnb18 := NB214_215.out
       have hnc18 := NB215_214.out
       have hnb19 := NB214_216.out
       have hnc19 := NB216_214.out
       have hcz20_0 : w9.cell? ⟨gb214, 0, none⟩ = some (.bool true) := q7_ BK214 0 rfl
       have hcz20_1 : w9.cell? ⟨gb214, 1, none⟩ = some (.int .i64 a0_1) := q7_ BK214 1 rfl
       have hcz20_2 : w9.cell? ⟨gb214, 2, none⟩ = some (.int .i64 a0_2) := q7_ BK214 2 rfl
       have hcz20_3 : w9.cell? ⟨gb214, 3, none⟩ = some (.int .i64 a0_3) := q7_ BK214 3 rfl
       have hcz20_4 : w9.cell? ⟨gb214, 4, none⟩ = some (.int .i64 a0_4) := q7_ BK214 4 rfl
       have hcz20_5 : w9.cell? ⟨gb214, 5, none⟩ = some (.int .i64 a0_5) := q7_ BK214 5 rfl
       have hfz20_0 := blk_frozen BK214.out 0
       have hfz20_1 := blk_frozen BK214.out 1
       have hfz20_2 := blk_frozen BK214.out 2
       have hfz20_3 := blk_frozen BK214.out 3
       have hfz20_4 := blk_frozen BK214.out 4
       have hfz20_5 := blk_frozen BK214.out 5
       go_wp2_with (first | ((with_reducible refine gate_callee (f := 31) rfl ?_); refine goesL_ (some 11) rfl rfl Try.func31 (by kernel_rfl) rfl #[.agg #[.bool true, .int .i64 a0_1, .int .i64 a0_2, .int .i64 a0_3, .int .i64 a0_4, .int .i64 a0_5]] rfl (by (try simp only [List.map_toArray, List.map_cons, List.map_nil]); first | done | rfl | (simp only [List.length_drop, List.length_take]; rfl)) ?_; (with_reducible refine (cap_Right.calls true a0_1 a0_2 a0_3 a0_4 a0_5 true _ A10.out).mono ?_); rintro e w21 ⟨rfl, hb⟩; refine ⟨_, rfl, ?_⟩; have n0_ := q1_ BK214 hb; have n1_ := q1_ BK215 hb; have n2_ := q1_ BK216 hb; have n3_ := q2_ HB hb; clear BK214; clear BK215; clear BK216; clear HB; have BK214 := n0_; have BK215 := n1_; have BK216 := n2_; have HB := n3_; clear n0_ n1_ n2_ n3_; (try clear hb); (try clear hb2); (try clear hk); (try clear hi); have hnb22 := NB215_216.out; have hnc22 := NB216_215.out; have hcz23_0 : w21.cell? ⟨gb215, 0, none⟩ = some (.bool true) := q7_ BK215 0 rfl; have hcz23_1 : w21.cell? ⟨gb215, 1, none⟩ = some (.int .i64 a1_1) := q7_ BK215 1 rfl; have hcz23_2 : w21.cell? ⟨gb215, 2, none⟩ = some (.int .i64 a1_2) := q7_ BK215 2 rfl; have hcz23_3 : w21.cell? ⟨gb215, 3, none⟩ = some (.int .i64 a1_3) := q7_ BK215 3 rfl; have hcz23_4 : w21.cell? ⟨gb215, 4, none⟩ = some (.int .i64 a1_4) := q7_ BK215 4 rfl; have hcz23_5 : w21.cell? ⟨gb215, 5, none⟩ = some (.int .i64 a1_5) := q7_ BK215 5 rfl; have hfz23_0 := blk_frozen BK215.out 0; have hfz23_1 := blk_frozen BK215.out 1; have hfz23_2 := blk_frozen BK215.out 2; have hfz23_3 := blk_frozen BK215.out 3; have hfz23_4 := blk_frozen BK215.out 4; have hfz23_5 := blk_frozen BK215.out 5) | (go_at_call 31; (with_reducible refine (cap_Right.calls true a1_1 a1_2 a1_3 a1_4 a1_5 true _ A12.out).mono ?_); rintro e w24 ⟨rfl, hb⟩; have n0_ := q1_ BK214 hb; have n1_ := q1_ BK215 hb; have n2_ := q1_ BK216 hb; have n3_ := q2_ HB hb; clear BK214; clear BK215; clear BK216; clear HB; have BK214 := n0_; have BK215 := n1_; have BK216 := n2_; have HB := n3_; clear n0_ n1_ n2_ n3_; (try clear hb); (try clear hb2); (try clear hk); (try clear hi); have hcz25_0 : w24.cell? ⟨gb216, 0, none⟩ = some (.bool a2_0) := q7_ BK216 0 rfl; have hcz25_1 : w24.cell? ⟨gb216, 1, none⟩ = some (.int .i64 a2_1) := q7_ BK216 1 rfl; have hcz25_2 : w24.cell? ⟨gb216, 2, none⟩ = some (.int .i64 a2_2) := q7_ BK216 2 rfl; have hcz25_3 : w24.cell? ⟨gb216, 3, none⟩ = some (.int .i64 a2_3) := q7_ BK216 3 rfl; have hcz25_4 : w24.cell? ⟨gb216, 4, none⟩ = some (.int .i64 a2_4) := q7_ BK216 4 rfl; have hcz25_5 : w24.cell? ⟨gb216, 5, none⟩ = some (.int .i64 a2_5) := q7_ BK216 5 rfl; have hfz25_0 := blk_frozen BK216.out 0; have hfz25_1 := blk_frozen BK216.out 1; have hfz25_2 := blk_frozen BK216.out 2; have hfz25_3 := blk_frozen BK216.out 3; have hfz25_4 := blk_frozen BK216.out 4; have hfz25_5 := blk_frozen BK216.out 5) | (go_at_call 31; (with_reducible refine (cap_Right.calls a2_0 a2_1 a2_2 a2_3 a2_4 a2_5 true _ A14.out).mono ?_); rintro e w26 ⟨rfl, hb⟩; have n0_ := q1_ BK214 hb; have n1_ := q1_ BK215 hb; have n2_ := q1_ BK216 hb; have n3_ := q2_ HB hb; clear BK214; clear BK215; clear BK216; clear HB; have BK214 := n0_; have BK215 := n1_; have BK216 := n2_; have HB := n3_; clear n0_ n1_ n2_ n3_; (try clear hb); (try clear hb2); (try clear hk); (try clear hi); have hcz27_0 : w26.cell? ⟨gb214, 0, none⟩ = some (.bool true) := q7_ BK214 0 rfl; have hcz27_1 : w26.cell? ⟨gb214, 1, none⟩ = some (.int .i64 a0_1) := q7_ BK214 1 rfl; have hcz27_2 : w26.cell? ⟨gb214, 2, none⟩ = some (.int .i64 a0_2) := q7_ BK214 2 rfl; have hcz27_3 : w26.cell? ⟨gb214, 3, none⟩ = some (.int .i64 a0_3) := q7_ BK214 3 rfl; have hcz27_4 : w26.cell? ⟨gb214, 4, none⟩ = some (.int .i64 a0_4) := q7_ BK214 4 rfl; have hcz27_5 : w26.cell? ⟨gb214, 5, none⟩ = some (.int .i64 a0_5) := q7_ BK214 5 rfl; have hfz27_0 := blk_frozen BK214.out 0; have hfz27_1 := blk_frozen BK214.out 1; have hfz27_2 := blk_frozen BK214.out 2; have hfz27_3 := blk_frozen BK214.out 3; have hfz27_4 := blk_frozen BK214.out 4; have hfz27_5 := blk_frozen BK214.out 5; have hcz28_0 : w26.cell? ⟨gb215, 0, none⟩ = some (.bool true) := q7_ BK215 0 rfl; have hcz28_1 : w26.cell? ⟨gb215, 1, none⟩ = some (.int .i64 a1_1) := q7_ BK215 1 rfl; have hcz28_2 : w26.cell? ⟨gb215, 2, none⟩ = some (.int .i64 a1_2) := q7_ BK215 2 rfl; have hcz28_3 : w26.cell? ⟨gb215, 3, none⟩ = some (.int .i64 a1_3) := q7_ BK215 3 rfl; have hcz28_4 : w26.cell? ⟨gb215, 4, none⟩ = some (.int .i64 a1_4) := q7_ BK215 4 rfl; have hcz28_5 : w26.cell? ⟨gb215, 5, none⟩ = some (.int .i64 a1_5) := q7_ BK215 5 rfl; have hfz28_0 := blk_frozen BK215.out 0; have hfz28_1 := blk_frozen BK215.out 1; have hfz28_2 := blk_frozen BK215.out 2; have hfz28_3 := blk_frozen BK215.out 3; have hfz28_4 := blk_frozen BK215.out 4; have hfz28_5 := blk_frozen BK215.out 5; have hcz29_0 : w26.cell? ⟨gb216, 0, none⟩ = some (.bool a2_0) := q7_ BK216 0 rfl; have hcz29_1 : w26.cell? ⟨gb216, 1, none⟩ = some (.int .i64 a2_1) := q7_ BK216 1 rfl; have hcz29_2 : w26.cell? ⟨gb216, 2, none⟩ = some (.int .i64 a2_2) := q7_ BK216 2 rfl; have hcz29_3 : w26.cell? ⟨gb216, 3, none⟩ = some (.int .i64 a2_3) := q7_ BK216 3 rfl; have hcz29_4 : w26.cell? ⟨gb216, 4, none⟩ = some (.int .i64 a2_4) := q7_ BK216 4 rfl; have hcz29_5 : w26.cell? ⟨gb216, 5, none⟩ = some (.int .i64 a2_5) := q7_ BK216 5 rfl; have hfz29_0 := blk_frozen BK216.out 0; have hfz29_1 := blk_frozen BK216.out 1; have hfz29_2 := blk_frozen BK216.out 2; have hfz29_3 := blk_frozen BK216.out 3; have hfz29_4 := blk_frozen BK216.out 4; have hfz29_5 := blk_frozen BK216.out 5))
       go_meet
       case rel => exact ⟨_, (!a2_0), (by first | rfl | (simp; done) | (simp [*]; done)), H', ⟨by first | omega | exact Nat.le_refl _⟩, q3_ BK214, q3_ BK215, q3_ BK216, ⟨by repeat (first | (with_reducible first | exact HB.out | apply below_alloc | apply pw_below_drewN | apply below_drew1 | refine below_set ?_ GE214.out | refine below_set ?_ GE215.out | refine below_set ?_ GE216.out) | exact HB.out)⟩⟩
      ·replace c17 := Bool.eq_false_iff.mpr c17
       subst c17
       have H1 : (seizinlaw02_CapOrder.j0 k t217 true true a0_1 a0_2 a0_3 a0_4 a0_5 false a1_1 a1_2 a1_3 a1_4 a1_5 a2_0 a2_1 a2_2 a2_3 a2_4 a2_5) = some r := by rw [if_neg (show ¬ (false = true) by decide)] at H; exact H
       clear H
       have H := H1
       clear H1
       have H' := Aside0.mk H
       clear H
       have hnb30 := NB214_215.out
       have hnc30 := NB215_214.out
       have hnb31 := NB214_216.out
       have hnc31 := NB216_214.out
       have hcz32_0 : w9.cell? ⟨gb214, 0, none⟩ = some (.bool true) := q7_ BK214 0 rfl
       have hcz32_1 : w9.cell? ⟨gb214, 1, none⟩ = some (.int .i64 a0_1) := q7_ BK214 1 rfl
       have hcz32_2 : w9.cell? ⟨gb214, 2, none⟩ = some (.int .i64 a0_2) := q7_ BK214 2 rfl
       have hcz32_3 : w9.cell? ⟨gb214, 3, none⟩ = some (.int .i64 a0_3) := q7_ BK214 3 rfl
       have hcz32_4 : w9.cell? ⟨gb214, 4, none⟩ = some (.int .i64 a0_4) := q7_ BK214 4 rfl
       have hcz32_5 : w9.cell? ⟨gb214, 5, none⟩ = some (.int .i64 a0_5) := q7_ BK214 5 rfl
       have hfz32_0 := blk_frozen BK214.out 0
       have hfz32_1 := blk_frozen BK214.out 1
       have hfz32_2 := blk_frozen BK214.out 2
       have hfz32_3 := blk_frozen BK214.out 3
       have hfz32_4 := blk_frozen BK214.out 4
       have hfz32_5 := blk_frozen BK214.out 5
       go_wp2_with (first | ((with_reducible refine gate_callee (f := 31) rfl ?_); refine goesL_ (some 11) rfl rfl Try.func31 (by kernel_rfl) rfl #[.agg #[.bool true, .int .i64 a0_1, .int .i64 a0_2, .int .i64 a0_3, .int .i64 a0_4, .int .i64 a0_5]] rfl (by (try simp only [List.map_toArray, List.map_cons, List.map_nil]); first | done | rfl | (simp only [List.length_drop, List.length_take]; rfl)) ?_; (with_reducible refine (cap_Right.calls true a0_1 a0_2 a0_3 a0_4 a0_5 true _ A10.out).mono ?_); rintro e w33 ⟨rfl, hb⟩; refine ⟨_, rfl, ?_⟩; have n0_ := q1_ BK214 hb; have n1_ := q1_ BK215 hb; have n2_ := q1_ BK216 hb; have n3_ := q2_ HB hb; clear BK214; clear BK215; clear BK216; clear HB; have BK214 := n0_; have BK215 := n1_; have BK216 := n2_; have HB := n3_; clear n0_ n1_ n2_ n3_; (try clear hb); (try clear hb2); (try clear hk); (try clear hi); have hnb34 := NB215_216.out; have hnc34 := NB216_215.out; have hcz35_0 : w33.cell? ⟨gb215, 0, none⟩ = some (.bool false) := q7_ BK215 0 rfl; have hcz35_1 : w33.cell? ⟨gb215, 1, none⟩ = some (.int .i64 a1_1) := q7_ BK215 1 rfl; have hcz35_2 : w33.cell? ⟨gb215, 2, none⟩ = some (.int .i64 a1_2) := q7_ BK215 2 rfl; have hcz35_3 : w33.cell? ⟨gb215, 3, none⟩ = some (.int .i64 a1_3) := q7_ BK215 3 rfl; have hcz35_4 : w33.cell? ⟨gb215, 4, none⟩ = some (.int .i64 a1_4) := q7_ BK215 4 rfl; have hcz35_5 : w33.cell? ⟨gb215, 5, none⟩ = some (.int .i64 a1_5) := q7_ BK215 5 rfl; have hfz35_0 := blk_frozen BK215.out 0; have hfz35_1 := blk_frozen BK215.out 1; have hfz35_2 := blk_frozen BK215.out 2; have hfz35_3 := blk_frozen BK215.out 3; have hfz35_4 := blk_frozen BK215.out 4; have hfz35_5 := blk_frozen BK215.out 5) | (go_at_call 31; (with_reducible refine (cap_Right.calls false a1_1 a1_2 a1_3 a1_4 a1_5 true _ A12.out).mono ?_); rintro e w36 ⟨rfl, hb⟩; have n0_ := q1_ BK214 hb; have n1_ := q1_ BK215 hb; have n2_ := q1_ BK216 hb; have n3_ := q2_ HB hb; clear BK214; clear BK215; clear BK216; clear HB; have BK214 := n0_; have BK215 := n1_; have BK216 := n2_; have HB := n3_; clear n0_ n1_ n2_ n3_; (try clear hb); (try clear hb2); (try clear hk); (try clear hi); have hcz37_0 : w36.cell? ⟨gb216, 0, none⟩ = some (.bool a2_0) := q7_ BK216 0 rfl; have hcz37_1 : w36.cell? ⟨gb216, 1, none⟩ = some (.int .i64 a2_1) := q7_ BK216 1 rfl; have hcz37_2 : w36.cell? ⟨gb216, 2, none⟩ = some (.int .i64 a2_2) := q7_ BK216 2 rfl; have hcz37_3 : w36.cell? ⟨gb216, 3, none⟩ = some (.int .i64 a2_3) := q7_ BK216 3 rfl; have hcz37_4 : w36.cell? ⟨gb216, 4, none⟩ = some (.int .i64 a2_4) := q7_ BK216 4 rfl; have hcz37_5 : w36.cell? ⟨gb216, 5, none⟩ = some (.int .i64 a2_5) := q7_ BK216 5 rfl; have hfz37_0 := blk_frozen BK216.out 0; have hfz37_1 := blk_frozen BK216.out 1; have hfz37_2 := blk_frozen BK216.out 2; have hfz37_3 := blk_frozen BK216.out 3; have hfz37_4 := blk_frozen BK216.out 4; have hfz37_5 := blk_frozen BK216.out 5) | (go_at_call 31; (with_reducible refine (cap_Right.calls a2_0 a2_1 a2_2 a2_3 a2_4 a2_5 true _ A14.out).mono ?_); rintro e w38 ⟨rfl, hb⟩; have n0_ := q1_ BK214 hb; have n1_ := q1_ BK215 hb; have n2_ := q1_ BK216 hb; have n3_ := q2_ HB hb; clear BK214; clear BK215; clear BK216; clear HB; have BK214 := n0_; have BK215 := n1_; have BK216 := n2_; have HB := n3_; clear n0_ n1_ n2_ n3_; (try clear hb); (try clear hb2); (try clear hk); (try clear hi); have hcz39_0 : w38.cell? ⟨gb214, 0, none⟩ = some (.bool true) := q7_ BK214 0 rfl; have hcz39_1 : w38.cell? ⟨gb214, 1, none⟩ = some (.int .i64 a0_1) := q7_ BK214 1 rfl; have hcz39_2 : w38.cell? ⟨gb214, 2, none⟩ = some (.int .i64 a0_2) := q7_ BK214 2 rfl; have hcz39_3 : w38.cell? ⟨gb214, 3, none⟩ = some (.int .i64 a0_3) := q7_ BK214 3 rfl; have hcz39_4 : w38.cell? ⟨gb214, 4, none⟩ = some (.int .i64 a0_4) := q7_ BK214 4 rfl; have hcz39_5 : w38.cell? ⟨gb214, 5, none⟩ = some (.int .i64 a0_5) := q7_ BK214 5 rfl; have hfz39_0 := blk_frozen BK214.out 0; have hfz39_1 := blk_frozen BK214.out 1; have hfz39_2 := blk_frozen BK214.out 2; have hfz39_3 := blk_frozen BK214.out 3; have hfz39_4 := blk_frozen BK214.out 4; have hfz39_5 := blk_frozen BK214.out 5; have hcz40_0 : w38.cell? ⟨gb215, 0, none⟩ = some (.bool false) := q7_ BK215 0 rfl; have hcz40_1 : w38.cell? ⟨gb215, 1, none⟩ = some (.int .i64 a1_1) := q7_ BK215 1 rfl; have hcz40_2 : w38.cell? ⟨gb215, 2, none⟩ = some (.int .i64 a1_2) := q7_ BK215 2 rfl; have hcz40_3 : w38.cell? ⟨gb215, 3, none⟩ = some (.int .i64 a1_3) := q7_ BK215 3 rfl; have hcz40_4 : w38.cell? ⟨gb215, 4, none⟩ = some (.int .i64 a1_4) := q7_ BK215 4 rfl; have hcz40_5 : w38.cell? ⟨gb215, 5, none⟩ = some (.int .i64 a1_5) := q7_ BK215 5 rfl; have hfz40_0 := blk_frozen BK215.out 0; have hfz40_1 := blk_frozen BK215.out 1; have hfz40_2 := blk_frozen BK215.out 2; have hfz40_3 := blk_frozen BK215.out 3; have hfz40_4 := blk_frozen BK215.out 4; have hfz40_5 := blk_frozen BK215.out 5))
       go_meet
       case rel => exact ⟨_, (true), (by first | rfl | (simp; done) | (simp [*]; done)), H', ⟨by first | omega | exact Nat.le_refl _⟩, q3_ BK214, q3_ BK215, q3_ BK216, ⟨by repeat (first | (with_reducible first | exact HB.out | apply below_alloc | apply pw_below_drewN | apply below_drew1 | refine below_set ?_ GE214.out | refine below_set ?_ GE215.out | refine below_set ?_ GE216.out) | exact HB.out)⟩⟩
     ·replace c16 := Bool.eq_false_iff.mpr c16
      subst c16
      have H1 : (seizinlaw02_CapOrder.j0 k t217 true false a0_1 a0_2 a0_3 a0_4 a0_5 a1_0 a1_1 a1_2 a1_3 a1_4 a1_5 a2_0 a2_1 a2_2 a2_3 a2_4 a2_5) = some r := by rw [if_neg (show ¬ (false = true) by decide)] at H; exact H
      clear H
      have H := H1
      clear H1
      have H' := Aside0.mk H
      clear H
      have hnb41 := NB214_215.out
      have hnc41 := NB215_214.out
      have hnb42 := NB214_216.out
      have hnc42 := NB216_214.out
      have hcz43_0 : w9.cell? ⟨gb214, 0, none⟩ = some (.bool false) := q7_ BK214 0 rfl
      have hcz43_1 : w9.cell? ⟨gb214, 1, none⟩ = some (.int .i64 a0_1) := q7_ BK214 1 rfl
      have hcz43_2 : w9.cell? ⟨gb214, 2, none⟩ = some (.int .i64 a0_2) := q7_ BK214 2 rfl
      have hcz43_3 : w9.cell? ⟨gb214, 3, none⟩ = some (.int .i64 a0_3) := q7_ BK214 3 rfl
      have hcz43_4 : w9.cell? ⟨gb214, 4, none⟩ = some (.int .i64 a0_4) := q7_ BK214 4 rfl
      have hcz43_5 : w9.cell? ⟨gb214, 5, none⟩ = some (.int .i64 a0_5) := q7_ BK214 5 rfl
      have hfz43_0 := blk_frozen BK214.out 0
      have hfz43_1 := blk_frozen BK214.out 1
      have hfz43_2 := blk_frozen BK214.out 2
      have hfz43_3 := blk_frozen BK214.out 3
      have hfz43_4 := blk_frozen BK214.out 4
      have hfz43_5 := blk_frozen BK214.out 5
      go_wp2_with (first | ((with_reducible refine gate_callee (f := 31) rfl ?_); refine goesL_ (some 11) rfl rfl Try.func31 (by kernel_rfl) rfl #[.agg #[.bool false, .int .i64 a0_1, .int .i64 a0_2, .int .i64 a0_3, .int .i64 a0_4, .int .i64 a0_5]] rfl (by (try simp only [List.map_toArray, List.map_cons, List.map_nil]); first | done | rfl | (simp only [List.length_drop, List.length_take]; rfl)) ?_; (with_reducible refine (cap_Right.calls false a0_1 a0_2 a0_3 a0_4 a0_5 true _ A10.out).mono ?_); rintro e w44 ⟨rfl, hb⟩; refine ⟨_, rfl, ?_⟩; have n0_ := q1_ BK214 hb; have n1_ := q1_ BK215 hb; have n2_ := q1_ BK216 hb; have n3_ := q2_ HB hb; clear BK214; clear BK215; clear BK216; clear HB; have BK214 := n0_; have BK215 := n1_; have BK216 := n2_; have HB := n3_; clear n0_ n1_ n2_ n3_; (try clear hb); (try clear hb2); (try clear hk); (try clear hi); have hnb45 := NB215_216.out; have hnc45 := NB216_215.out; have hcz46_0 : w44.cell? ⟨gb215, 0, none⟩ = some (.bool a1_0) := q7_ BK215 0 rfl; have hcz46_1 : w44.cell? ⟨gb215, 1, none⟩ = some (.int .i64 a1_1) := q7_ BK215 1 rfl; have hcz46_2 : w44.cell? ⟨gb215, 2, none⟩ = some (.int .i64 a1_2) := q7_ BK215 2 rfl; have hcz46_3 : w44.cell? ⟨gb215, 3, none⟩ = some (.int .i64 a1_3) := q7_ BK215 3 rfl; have hcz46_4 : w44.cell? ⟨gb215, 4, none⟩ = some (.int .i64 a1_4) := q7_ BK215 4 rfl; have hcz46_5 : w44.cell? ⟨gb215, 5, none⟩ = some (.int .i64 a1_5) := q7_ BK215 5 rfl; have hfz46_0 := blk_frozen BK215.out 0; have hfz46_1 := blk_frozen BK215.out 1; have hfz46_2 := blk_frozen BK215.out 2; have hfz46_3 := blk_frozen BK215.out 3; have hfz46_4 := blk_frozen BK215.out 4; have hfz46_5 := blk_frozen BK215.out 5) | (go_at_call 31; (with_reducible refine (cap_Right.calls a1_0 a1_1 a1_2 a1_3 a1_4 a1_5 true _ A12.out).mono ?_); rintro e w47 ⟨rfl, hb⟩; have n0_ := q1_ BK214 hb; have n1_ := q1_ BK215 hb; have n2_ := q1_ BK216 hb; have n3_ := q2_ HB hb; clear BK214; clear BK215; clear BK216; clear HB; have BK214 := n0_; have BK215 := n1_; have BK216 := n2_; have HB := n3_; clear n0_ n1_ n2_ n3_; (try clear hb); (try clear hb2); (try clear hk); (try clear hi); have hcz48_0 : w47.cell? ⟨gb216, 0, none⟩ = some (.bool a2_0) := q7_ BK216 0 rfl; have hcz48_1 : w47.cell? ⟨gb216, 1, none⟩ = some (.int .i64 a2_1) := q7_ BK216 1 rfl; have hcz48_2 : w47.cell? ⟨gb216, 2, none⟩ = some (.int .i64 a2_2) := q7_ BK216 2 rfl; have hcz48_3 : w47.cell? ⟨gb216, 3, none⟩ = some (.int .i64 a2_3) := q7_ BK216 3 rfl; have hcz48_4 : w47.cell? ⟨gb216, 4, none⟩ = some (.int .i64 a2_4) := q7_ BK216 4 rfl; have hcz48_5 : w47.cell? ⟨gb216, 5, none⟩ = some (.int .i64 a2_5) := q7_ BK216 5 rfl; have hfz48_0 := blk_frozen BK216.out 0; have hfz48_1 := blk_frozen BK216.out 1; have hfz48_2 := blk_frozen BK216.out 2; have hfz48_3 := blk_frozen BK216.out 3; have hfz48_4 := blk_frozen BK216.out 4; have hfz48_5 := blk_frozen BK216.out 5) | (go_at_call 31; (with_reducible refine (cap_Right.calls a2_0 a2_1 a2_2 a2_3 a2_4 a2_5 true _ A14.out).mono ?_); rintro e w49 ⟨rfl, hb⟩; have n0_ := q1_ BK214 hb; have n1_ := q1_ BK215 hb; have n2_ := q1_ BK216 hb; have n3_ := q2_ HB hb; clear BK214; clear BK215; clear BK216; clear HB; have BK214 := n0_; have BK215 := n1_; have BK216 := n2_; have HB := n3_; clear n0_ n1_ n2_ n3_; (try clear hb); (try clear hb2); (try clear hk); (try clear hi); have hcz50_0 : w49.cell? ⟨gb214, 0, none⟩ = some (.bool false) := q7_ BK214 0 rfl; have hcz50_1 : w49.cell? ⟨gb214, 1, none⟩ = some (.int .i64 a0_1) := q7_ BK214 1 rfl; have hcz50_2 : w49.cell? ⟨gb214, 2, none⟩ = some (.int .i64 a0_2) := q7_ BK214 2 rfl; have hcz50_3 : w49.cell? ⟨gb214, 3, none⟩ = some (.int .i64 a0_3) := q7_ BK214 3 rfl; have hcz50_4 : w49.cell? ⟨gb214, 4, none⟩ = some (.int .i64 a0_4) := q7_ BK214 4 rfl; have hcz50_5 : w49.cell? ⟨gb214, 5, none⟩ = some (.int .i64 a0_5) := q7_ BK214 5 rfl; have hfz50_0 := blk_frozen BK214.out 0; have hfz50_1 := blk_frozen BK214.out 1; have hfz50_2 := blk_frozen BK214.out 2; have hfz50_3 := blk_frozen BK214.out 3; have hfz50_4 := blk_frozen BK214.out 4; have hfz50_5 := blk_frozen BK214.out 5))
      go_meet
      case rel => exact ⟨_, (true), (by first | rfl | (simp; done) | (simp [*]; done)), H', ⟨by first | omega | exact Nat.le_refl _⟩, q3_ BK214, q3_ BK215, q3_ BK216, ⟨by repeat (first | (with_reducible first | exact HB.out | apply below_alloc | apply pw_below_drewN | apply below_drew1 | refine below_set ?_ GE214.out | refine below_set ?_ GE215.out | refine below_set ?_ GE216.out) | exact HB.out)⟩⟩
    ·replace c15 := Bool.eq_false_iff.mpr c15
     subst c15
     have H1 : (seizinlaw02_CapOrder.j0 k t217 true a0_0 a0_1 a0_2 a0_3 a0_4 a0_5 a1_0 a1_1 a1_2 a1_3 a1_4 a1_5 a2_0 a2_1 a2_2 a2_3 a2_4 a2_5) = some r := by rw [if_neg (show ¬ (false = true) by decide)] at H; exact H
     clear H
     have H := H1
     clear H1
     have H' := Aside0.mk H
     clear H
     have hnb51 := NB214_215.out
     have hnc51 := NB215_214.out
     have hnb52 := NB214_216.out
     have hnc52 := NB216_214.out
     have hcz53_0 : w9.cell? ⟨gb214, 0, none⟩ = some (.bool a0_0) := q7_ BK214 0 rfl
     have hcz53_1 : w9.cell? ⟨gb214, 1, none⟩ = some (.int .i64 a0_1) := q7_ BK214 1 rfl
     have hcz53_2 : w9.cell? ⟨gb214, 2, none⟩ = some (.int .i64 a0_2) := q7_ BK214 2 rfl
     have hcz53_3 : w9.cell? ⟨gb214, 3, none⟩ = some (.int .i64 a0_3) := q7_ BK214 3 rfl
     have hcz53_4 : w9.cell? ⟨gb214, 4, none⟩ = some (.int .i64 a0_4) := q7_ BK214 4 rfl
     have hcz53_5 : w9.cell? ⟨gb214, 5, none⟩ = some (.int .i64 a0_5) := q7_ BK214 5 rfl
     have hfz53_0 := blk_frozen BK214.out 0
     have hfz53_1 := blk_frozen BK214.out 1
     have hfz53_2 := blk_frozen BK214.out 2
     have hfz53_3 := blk_frozen BK214.out 3
     have hfz53_4 := blk_frozen BK214.out 4
     have hfz53_5 := blk_frozen BK214.out 5
     go_wp2_with (first | ((with_reducible refine gate_callee (f := 31) rfl ?_); refine goesL_ (some 11) rfl rfl Try.func31 (by kernel_rfl) rfl #[.agg #[.bool a0_0, .int .i64 a0_1, .int .i64 a0_2, .int .i64 a0_3, .int .i64 a0_4, .int .i64 a0_5]] rfl (by (try simp only [List.map_toArray, List.map_cons, List.map_nil]); first | done | rfl | (simp only [List.length_drop, List.length_take]; rfl)) ?_; (with_reducible refine (cap_Right.calls a0_0 a0_1 a0_2 a0_3 a0_4 a0_5 true _ A10.out).mono ?_); rintro e w54 ⟨rfl, hb⟩; refine ⟨_, rfl, ?_⟩; have n0_ := q1_ BK214 hb; have n1_ := q1_ BK215 hb; have n2_ := q1_ BK216 hb; have n3_ := q2_ HB hb; clear BK214; clear BK215; clear BK216; clear HB; have BK214 := n0_; have BK215 := n1_; have BK216 := n2_; have HB := n3_; clear n0_ n1_ n2_ n3_; (try clear hb); (try clear hb2); (try clear hk); (try clear hi); have hnb55 := NB215_216.out; have hnc55 := NB216_215.out; have hcz56_0 : w54.cell? ⟨gb215, 0, none⟩ = some (.bool a1_0) := q7_ BK215 0 rfl; have hcz56_1 : w54.cell? ⟨gb215, 1, none⟩ = some (.int .i64 a1_1) := q7_ BK215 1 rfl; have hcz56_2 : w54.cell? ⟨gb215, 2, none⟩ = some (.int .i64 a1_2) := q7_ BK215 2 rfl; have hcz56_3 : w54.cell? ⟨gb215, 3, none⟩ = some (.int .i64 a1_3) := q7_ BK215 3 rfl; have hcz56_4 : w54.cell? ⟨gb215, 4, none⟩ = some (.int .i64 a1_4) := q7_ BK215 4 rfl; have hcz56_5 : w54.cell? ⟨gb215, 5, none⟩ = some (.int .i64 a1_5) := q7_ BK215 5 rfl; have hfz56_0 := blk_frozen BK215.out 0; have hfz56_1 := blk_frozen BK215.out 1; have hfz56_2 := blk_frozen BK215.out 2; have hfz56_3 := blk_frozen BK215.out 3; have hfz56_4 := blk_frozen BK215.out 4; have hfz56_5 := blk_frozen BK215.out 5) | (go_at_call 31; (with_reducible refine (cap_Right.calls a1_0 a1_1 a1_2 a1_3 a1_4 a1_5 true _ A12.out).mono ?_); rintro e w57 ⟨rfl, hb⟩; have n0_ := q1_ BK214 hb; have n1_ := q1_ BK215 hb; have n2_ := q1_ BK216 hb; have n3_ := q2_ HB hb; clear BK214; clear BK215; clear BK216; clear HB; have BK214 := n0_; have BK215 := n1_; have BK216 := n2_; have HB := n3_; clear n0_ n1_ n2_ n3_; (try clear hb); (try clear hb2); (try clear hk); (try clear hi); have hcz58_0 : w57.cell? ⟨gb216, 0, none⟩ = some (.bool a2_0) := q7_ BK216 0 rfl; have hcz58_1 : w57.cell? ⟨gb216, 1, none⟩ = some (.int .i64 a2_1) := q7_ BK216 1 rfl; have hcz58_2 : w57.cell? ⟨gb216, 2, none⟩ = some (.int .i64 a2_2) := q7_ BK216 2 rfl; have hcz58_3 : w57.cell? ⟨gb216, 3, none⟩ = some (.int .i64 a2_3) := q7_ BK216 3 rfl; have hcz58_4 : w57.cell? ⟨gb216, 4, none⟩ = some (.int .i64 a2_4) := q7_ BK216 4 rfl; have hcz58_5 : w57.cell? ⟨gb216, 5, none⟩ = some (.int .i64 a2_5) := q7_ BK216 5 rfl; have hfz58_0 := blk_frozen BK216.out 0; have hfz58_1 := blk_frozen BK216.out 1; have hfz58_2 := blk_frozen BK216.out 2; have hfz58_3 := blk_frozen BK216.out 3; have hfz58_4 := blk_frozen BK216.out 4; have hfz58_5 := blk_frozen BK216.out 5) | (go_at_call 31; (with_reducible refine (cap_Right.calls a2_0 a2_1 a2_2 a2_3 a2_4 a2_5 false _ A14.out).mono ?_); rintro e w59 ⟨rfl, hb⟩; have n0_ := q1_ BK214 hb; have n1_ := q1_ BK215 hb; have n2_ := q1_ BK216 hb; have n3_ := q2_ HB hb; clear BK214; clear BK215; clear BK216; clear HB; have BK214 := n0_; have BK215 := n1_; have BK216 := n2_; have HB := n3_; clear n0_ n1_ n2_ n3_; (try clear hb); (try clear hb2); (try clear hk); (try clear hi)))
     go_meet
     case rel => exact ⟨_, (true), (by first | rfl | (simp; done) | (simp [*]; done)), H', ⟨by first | omega | exact Nat.le_refl _⟩, q3_ BK214, q3_ BK215, q3_ BK216, ⟨by repeat (first | (with_reducible first | exact HB.out | apply below_alloc | apply pw_below_drewN | apply below_drew1 | refine below_set ?_ GE214.out | refine below_set ?_ GE215.out | refine below_set ?_ GE216.out) | exact HB.out)⟩⟩
   ·replace c13 := Bool.eq_false_iff.mpr c13
    subst c13
    have H1 : (seizinlaw02_CapOrder.j0 k t217 true a0_0 a0_1 a0_2 a0_3 a0_4 a0_5 a1_0 a1_1 a1_2 a1_3 a1_4 a1_5 a2_0 a2_1 a2_2 a2_3 a2_4 a2_5) = some r := by rw [if_neg (show ¬ (false = true) by decide)] at H; exact H
    clear H
    have H := H1
    clear H1
    have H' := Aside0.mk H
    clear H
    have hnb60 := NB214_215.out
    have hnc60 := NB215_214.out
    have hnb61 := NB214_216.out
    have hnc61 := NB216_214.out
    have hcz62_0 : w9.cell? ⟨gb214, 0, none⟩ = some (.bool a0_0) := q7_ BK214 0 rfl
    have hcz62_1 : w9.cell? ⟨gb214, 1, none⟩ = some (.int .i64 a0_1) := q7_ BK214 1 rfl
    have hcz62_2 : w9.cell? ⟨gb214, 2, none⟩ = some (.int .i64 a0_2) := q7_ BK214 2 rfl
    have hcz62_3 : w9.cell? ⟨gb214, 3, none⟩ = some (.int .i64 a0_3) := q7_ BK214 3 rfl
    have hcz62_4 : w9.cell? ⟨gb214, 4, none⟩ = some (.int .i64 a0_4) := q7_ BK214 4 rfl
    have hcz62_5 : w9.cell? ⟨gb214, 5, none⟩ = some (.int .i64 a0_5) := q7_ BK214 5 rfl
    have hfz62_0 := blk_frozen BK214.out 0
    have hfz62_1 := blk_frozen BK214.out 1
    have hfz62_2 := blk_frozen BK214.out 2
    have hfz62_3 := blk_frozen BK214.out 3
    have hfz62_4 := blk_frozen BK214.out 4
    have hfz62_5 := blk_frozen BK214.out 5
    go_wp2_with (first | ((with_reducible refine gate_callee (f := 31) rfl ?_); refine goesL_ (some 11) rfl rfl Try.func31 (by kernel_rfl) rfl #[.agg #[.bool a0_0, .int .i64 a0_1, .int .i64 a0_2, .int .i64 a0_3, .int .i64 a0_4, .int .i64 a0_5]] rfl (by (try simp only [List.map_toArray, List.map_cons, List.map_nil]); first | done | rfl | (simp only [List.length_drop, List.length_take]; rfl)) ?_; (with_reducible refine (cap_Right.calls a0_0 a0_1 a0_2 a0_3 a0_4 a0_5 true _ A10.out).mono ?_); rintro e w63 ⟨rfl, hb⟩; refine ⟨_, rfl, ?_⟩; have n0_ := q1_ BK214 hb; have n1_ := q1_ BK215 hb; have n2_ := q1_ BK216 hb; have n3_ := q2_ HB hb; clear BK214; clear BK215; clear BK216; clear HB; have BK214 := n0_; have BK215 := n1_; have BK216 := n2_; have HB := n3_; clear n0_ n1_ n2_ n3_; (try clear hb); (try clear hb2); (try clear hk); (try clear hi); have hnb64 := NB215_216.out; have hnc64 := NB216_215.out; have hcz65_0 : w63.cell? ⟨gb215, 0, none⟩ = some (.bool a1_0) := q7_ BK215 0 rfl; have hcz65_1 : w63.cell? ⟨gb215, 1, none⟩ = some (.int .i64 a1_1) := q7_ BK215 1 rfl; have hcz65_2 : w63.cell? ⟨gb215, 2, none⟩ = some (.int .i64 a1_2) := q7_ BK215 2 rfl; have hcz65_3 : w63.cell? ⟨gb215, 3, none⟩ = some (.int .i64 a1_3) := q7_ BK215 3 rfl; have hcz65_4 : w63.cell? ⟨gb215, 4, none⟩ = some (.int .i64 a1_4) := q7_ BK215 4 rfl; have hcz65_5 : w63.cell? ⟨gb215, 5, none⟩ = some (.int .i64 a1_5) := q7_ BK215 5 rfl; have hfz65_0 := blk_frozen BK215.out 0; have hfz65_1 := blk_frozen BK215.out 1; have hfz65_2 := blk_frozen BK215.out 2; have hfz65_3 := blk_frozen BK215.out 3; have hfz65_4 := blk_frozen BK215.out 4; have hfz65_5 := blk_frozen BK215.out 5) | (go_at_call 31; (with_reducible refine (cap_Right.calls a1_0 a1_1 a1_2 a1_3 a1_4 a1_5 false _ A12.out).mono ?_); rintro e w66 ⟨rfl, hb⟩; have n0_ := q1_ BK214 hb; have n1_ := q1_ BK215 hb; have n2_ := q1_ BK216 hb; have n3_ := q2_ HB hb; clear BK214; clear BK215; clear BK216; clear HB; have BK214 := n0_; have BK215 := n1_; have BK216 := n2_; have HB := n3_; clear n0_ n1_ n2_ n3_; (try clear hb); (try clear hb2); (try clear hk); (try clear hi)))
    go_meet
    case rel => exact ⟨_, (true), (by first | rfl | (simp; done) | (simp [*]; done)), H', ⟨by first | omega | exact Nat.le_refl _⟩, q3_ BK214, q3_ BK215, q3_ BK216, ⟨by repeat (first | (with_reducible first | exact HB.out | apply below_alloc | apply pw_below_drewN | apply below_drew1 | refine below_set ?_ GE214.out | refine below_set ?_ GE215.out | refine below_set ?_ GE216.out) | exact HB.out)⟩⟩
  ·replace c11 := Bool.eq_false_iff.mpr c11
   subst c11
   have H1 : (seizinlaw02_CapOrder.j0 k t217 true a0_0 a0_1 a0_2 a0_3 a0_4 a0_5 a1_0 a1_1 a1_2 a1_3 a1_4 a1_5 a2_0 a2_1 a2_2 a2_3 a2_4 a2_5) = some r := by rw [if_neg (show ¬ (false = true) by decide)] at H; exact H
   clear H
   have H := H1
   clear H1
   have H' := Aside0.mk H
   clear H
   have hnb67 := NB214_215.out
   have hnc67 := NB215_214.out
   have hnb68 := NB214_216.out
   have hnc68 := NB216_214.out
   have hcz69_0 : w9.cell? ⟨gb214, 0, none⟩ = some (.bool a0_0) := q7_ BK214 0 rfl
   have hcz69_1 : w9.cell? ⟨gb214, 1, none⟩ = some (.int .i64 a0_1) := q7_ BK214 1 rfl
   have hcz69_2 : w9.cell? ⟨gb214, 2, none⟩ = some (.int .i64 a0_2) := q7_ BK214 2 rfl
   have hcz69_3 : w9.cell? ⟨gb214, 3, none⟩ = some (.int .i64 a0_3) := q7_ BK214 3 rfl
   have hcz69_4 : w9.cell? ⟨gb214, 4, none⟩ = some (.int .i64 a0_4) := q7_ BK214 4 rfl
   have hcz69_5 : w9.cell? ⟨gb214, 5, none⟩ = some (.int .i64 a0_5) := q7_ BK214 5 rfl
   have hfz69_0 := blk_frozen BK214.out 0
   have hfz69_1 := blk_frozen BK214.out 1
   have hfz69_2 := blk_frozen BK214.out 2
   have hfz69_3 := blk_frozen BK214.out 3
   have hfz69_4 := blk_frozen BK214.out 4
   have hfz69_5 := blk_frozen BK214.out 5
   go_wp2_with (first | ((with_reducible refine gate_callee (f := 31) rfl ?_); refine goesL_ (some 11) rfl rfl Try.func31 (by kernel_rfl) rfl #[.agg #[.bool a0_0, .int .i64 a0_1, .int .i64 a0_2, .int .i64 a0_3, .int .i64 a0_4, .int .i64 a0_5]] rfl (by (try simp only [List.map_toArray, List.map_cons, List.map_nil]); first | done | rfl | (simp only [List.length_drop, List.length_take]; rfl)) ?_; (with_reducible refine (cap_Right.calls a0_0 a0_1 a0_2 a0_3 a0_4 a0_5 false _ A10.out).mono ?_); rintro e w70 ⟨rfl, hb⟩; refine ⟨_, rfl, ?_⟩; have n0_ := q1_ BK214 hb; have n1_ := q1_ BK215 hb; have n2_ := q1_ BK216 hb; have n3_ := q2_ HB hb; clear BK214; clear BK215; clear BK216; clear HB; have BK214 := n0_; have BK215 := n1_; have BK216 := n2_; have HB := n3_; clear n0_ n1_ n2_ n3_; (try clear hb); (try clear hb2); (try clear hk); (try clear hi)))
   go_meet
   case rel => exact ⟨_, (true), (by first | rfl | (simp; done) | (simp [*]; done)), H', ⟨by first | omega | exact Nat.le_refl _⟩, q3_ BK214, q3_ BK215, q3_ BK216, ⟨by repeat (first | (with_reducible first | exact HB.out | apply below_alloc | apply pw_below_drewN | apply below_drew1 | refine below_set ?_ GE214.out | refine below_set ?_ GE215.out | refine below_set ?_ GE216.out) | exact HB.out)⟩⟩
 case rest =>
  clear HC5
  try clear c1
  try clear c2
  try clear p2
  try clear c3
  try clear c4
  try clear c5
  try clear c6
  try clear c9
  try clear c11
  try clear c13
  try clear c15
  try clear c16
  try clear c17
  try clear c18
  try clear c19
  try clear c22
  try clear c30
  try clear c31
  try clear c34
  try clear c41
  try clear c42
  try clear c45
  try clear c51
  try clear c52
  try clear c55
  try clear c60
  try clear c61
  try clear c64
  try clear c67
  try clear c68
  try clear hcz20_0
  try clear hcz20_1
  try clear hcz20_2
  try clear hcz20_3
  try clear hcz20_4
  try clear hcz20_5
  try clear hcz23_0
  try clear hcz23_1
  try clear hcz23_2
  try clear hcz23_3
  try clear hcz23_4
  try clear hcz23_5
  try clear hcz25_0
  try clear hcz25_1
  try clear hcz25_2
  try clear hcz25_3
  try clear hcz25_4
  try clear hcz25_5
  try clear hcz27_0
  try clear hcz27_1
  try clear hcz27_2
  try clear hcz27_3
  try clear hcz27_4
  try clear hcz27_5
  try clear hcz28_0
  try clear hcz28_1
  try clear hcz28_2
  try clear hcz28_3
  try clear hcz28_4
  try clear hcz28_5
  try clear hcz29_0
  try clear hcz29_1
  try clear hcz29_2
  try clear hcz29_3
  try clear hcz29_4
  try clear hcz29_5
  try clear hcz32_0
  try clear hcz32_1
  try clear hcz32_2
  try clear hcz32_3
  try clear hcz32_4
  try clear hcz32_5
  try clear hcz35_0
  try clear hcz35_1
  try clear hcz35_2
  try clear hcz35_3
  try clear hcz35_4
  try clear hcz35_5
  try clear hcz37_0
  try clear hcz37_1
  try clear hcz37_2
  try clear hcz37_3
  try clear hcz37_4
  try clear hcz37_5
  try clear hcz39_0
  try clear hcz39_1
  try clear hcz39_2
  try clear hcz39_3
  try clear hcz39_4
  try clear hcz39_5
  try clear hcz40_0
  try clear hcz40_1
  try clear hcz40_2
  try clear hcz40_3
  try clear hcz40_4
  try clear hcz40_5
  try clear hcz43_0
  try clear hcz43_1
  try clear hcz43_2
  try clear hcz43_3
  try clear hcz43_4
  try clear hcz43_5
  try clear hcz46_0
  try clear hcz46_1
  try clear hcz46_2
  try clear hcz46_3
  try clear hcz46_4
  try clear hcz46_5
  try clear hcz48_0
  try clear hcz48_1
  try clear hcz48_2
  try clear hcz48_3
  try clear hcz48_4
  try clear hcz48_5
  try clear hcz50_0
  try clear hcz50_1
  try clear hcz50_2
  try clear hcz50_3
  try clear hcz50_4
  try clear hcz50_5
  try clear hcz53_0
  try clear hcz53_1
  try clear hcz53_2
  try clear hcz53_3
  try clear hcz53_4
  try clear hcz53_5
  try clear hcz56_0
  try clear hcz56_1
  try clear hcz56_2
  try clear hcz56_3
  try clear hcz56_4
  try clear hcz56_5
  try clear hcz58_0
  try clear hcz58_1
  try clear hcz58_2
  try clear hcz58_3
  try clear hcz58_4
  try clear hcz58_5
  try clear hcz62_0
  try clear hcz62_1
  try clear hcz62_2
  try clear hcz62_3
  try clear hcz62_4
  try clear hcz62_5
  try clear hcz65_0
  try clear hcz65_1
  try clear hcz65_2
  try clear hcz65_3
  try clear hcz65_4
  try clear hcz65_5
  try clear hcz69_0
  try clear hcz69_1
  try clear hcz69_2
  try clear hcz69_3
  try clear hcz69_4
  try clear hcz69_5
  try clear hfz20_0
  try clear hfz20_1
  try clear hfz20_2
  try clear hfz20_3
  try clear hfz20_4
  try clear hfz20_5
  try clear hfz23_0
  try clear hfz23_1
  try clear hfz23_2
  try clear hfz23_3
  try clear hfz23_4
  try clear hfz23_5
  try clear hfz25_0
  try clear hfz25_1
  try clear hfz25_2
  try clear hfz25_3
  try clear hfz25_4
  try clear hfz25_5
  try clear hfz27_0
  try clear hfz27_1
  try clear hfz27_2
  try clear hfz27_3
  try clear hfz27_4
  try clear hfz27_5
  try clear hfz28_0
  try clear hfz28_1
  try clear hfz28_2
  try clear hfz28_3
  try clear hfz28_4
  try clear hfz28_5
  try clear hfz29_0
  try clear hfz29_1
  try clear hfz29_2
  try clear hfz29_3
  try clear hfz29_4
  try clear hfz29_5
  try clear hfz32_0
  try clear hfz32_1
  try clear hfz32_2
  try clear hfz32_3
  try clear hfz32_4
  try clear hfz32_5
  try clear hfz35_0
  try clear hfz35_1
  try clear hfz35_2
  try clear hfz35_3
  try clear hfz35_4
  try clear hfz35_5
  try clear hfz37_0
  try clear hfz37_1
  try clear hfz37_2
  try clear hfz37_3
  try clear hfz37_4
  try clear hfz37_5
  try clear hfz39_0
  try clear hfz39_1
  try clear hfz39_2
  try clear hfz39_3
  try clear hfz39_4
  try clear hfz39_5
  try clear hfz40_0
  try clear hfz40_1
  try clear hfz40_2
  try clear hfz40_3
  try clear hfz40_4
  try clear hfz40_5
  try clear hfz43_0
  try clear hfz43_1
  try clear hfz43_2
  try clear hfz43_3
  try clear hfz43_4
  try clear hfz43_5
  try clear hfz46_0
  try clear hfz46_1
  try clear hfz46_2
  try clear hfz46_3
  try clear hfz46_4
  try clear hfz46_5
  try clear hfz48_0
  try clear hfz48_1
  try clear hfz48_2
  try clear hfz48_3
  try clear hfz48_4
  try clear hfz48_5
  try clear hfz50_0
  try clear hfz50_1
  try clear hfz50_2
  try clear hfz50_3
  try clear hfz50_4
  try clear hfz50_5
  try clear hfz53_0
  try clear hfz53_1
  try clear hfz53_2
  try clear hfz53_3
  try clear hfz53_4
  try clear hfz53_5
  try clear hfz56_0
  try clear hfz56_1
  try clear hfz56_2
  try clear hfz56_3
  try clear hfz56_4
  try clear hfz56_5
  try clear hfz58_0
  try clear hfz58_1
  try clear hfz58_2
  try clear hfz58_3
  try clear hfz58_4
  try clear hfz58_5
  try clear hfz62_0
  try clear hfz62_1
  try clear hfz62_2
  try clear hfz62_3
  try clear hfz62_4
  try clear hfz62_5
  try clear hfz65_0
  try clear hfz65_1
  try clear hfz65_2
  try clear hfz65_3
  try clear hfz65_4
  try clear hfz65_5
  try clear hfz69_0
  try clear hfz69_1
  try clear hfz69_2
  try clear hfz69_3
  try clear hfz69_4
  try clear hfz69_5
  obtain ⟨kq, x37_4, rfl, HA, HJ4, BK214, BK215, BK216, HB⟩ := hcut
  cases kq with
  | zero => exact absurd HA.out (by simp [seizinlaw02_CapOrder.j0])
  | succ kj4 =>
   have H := HA.out
   clear HA
   simp only [seizinlaw02_CapOrder.j0] at H
   by_cases c71 : x37_4 = true
   ·subst c71
    have H1 : (some t217) = some r := by rw [if_pos rfl] at H; exact H
    clear H
    have H := H1
    clear H1
    clear hr_
    obtain rfl := Option.some.inj H
    go_wp2
    go_ret
    exact ⟨by first | rfl | (simp [errW_none, errW_some] <;> rfl) | (simp [*, errW_none, errW_some] <;> rfl), by repeat (first | (with_reducible first | exact HB.out | apply below_alloc | apply pw_below_drewN | apply below_drew1 | refine below_set ?_ GE214.out | refine below_set ?_ GE215.out | refine below_set ?_ GE216.out) | exact HB.out)⟩
   ·replace c71 := Bool.eq_false_iff.mpr c71
    subst c71
    have H1 : (if a0_1 = a1_1 then (if a0_2 = a1_2 then (seizinlaw02_CapOrder.j1 kj4 t217 (a0_4 == a1_4) a0_0 a0_1 a0_2 a0_3 a0_4 a0_5 a1_0 a1_1 a1_2 a1_3 a1_4 a1_5 a2_0 a2_1 a2_2 a2_3 a2_4 a2_5) else (seizinlaw02_CapOrder.j1 kj4 t217 false a0_0 a0_1 a0_2 a0_3 a0_4 a0_5 a1_0 a1_1 a1_2 a1_3 a1_4 a1_5 a2_0 a2_1 a2_2 a2_3 a2_4 a2_5)) else (seizinlaw02_CapOrder.j1 kj4 t217 false a0_0 a0_1 a0_2 a0_3 a0_4 a0_5 a1_0 a1_1 a1_2 a1_3 a1_4 a1_5 a2_0 a2_1 a2_2 a2_3 a2_4 a2_5)) = some r := by rw [if_neg (show ¬ (false = true) by decide)] at H; exact H
    clear H
    have H := H1
    clear H1
    have HC72 := Aside0.mk H
    clear H
    go_upto_region 4 with (fail)
    go_cut [8] (fun v8 wc => ∃ (kq : Nat) (x8_71 : Bool), v8 = .bool x8_71 ∧ Aside0 (seizinlaw02_CapOrder.j1 kq t217 x8_71 a0_0 a0_1 a0_2 a0_3 a0_4 a0_5 a1_0 a1_1 a1_2 a1_3 a1_4 a1_5 a2_0 a2_1 a2_2 a2_3 a2_4 a2_5 = some r) ∧ Aside0 (kq ≤ kj4) ∧ Aside0 (wc.heap[gb214]? = some (.cells #[.bool a0_0, .int .i64 a0_1, .int .i64 a0_2, .int .i64 a0_3, .int .i64 a0_4, .int .i64 a0_5] 39 (0, 0))) ∧ Aside0 (wc.heap[gb215]? = some (.cells #[.bool a1_0, .int .i64 a1_1, .int .i64 a1_2, .int .i64 a1_3, .int .i64 a1_4, .int .i64 a1_5] 39 (0, 0))) ∧ Aside0 (wc.heap[gb216]? = some (.cells #[.bool a2_0, .int .i64 a2_1, .int .i64 a2_2, .int .i64 a2_3, .int .i64 a2_4, .int .i64 a2_5] 39 (0, 0))) ∧ Aside0 (Below w.heap.size w wc))
    case first =>
     have H := HC72.out
     clear HC72
     by_cases c73 : a0_1 = a1_1
     ·rw [if_pos c73] at H
      have c73b0 : (a0_1 == a1_1) = true := beq_iff_eq.mpr c73
      have c73b1 : (a0_1 != a1_1) = false := bne_eq_false_iff_eq.mpr c73
      clear c73
      (first | rw [c73b0] | (simp only [i64_w, i32_w]; rw [c73b0]) | skip)
      by_cases c74 : a0_2 = a1_2
      ·rw [if_pos c74] at H
       have c74b0 : (a0_2 == a1_2) = true := beq_iff_eq.mpr c74
       have c74b1 : (a0_2 != a1_2) = false := bne_eq_false_iff_eq.mpr c74
       clear c74
       have H' := Aside0.mk H
       clear H
       have hnb75 := NB214_215.out
       have hnc75 := NB215_214.out
       have hnb76 := NB214_216.out
       have hnc76 := NB216_214.out
       have hcz77_0 : wc.cell? ⟨gb214, 0, none⟩ = some (.bool a0_0) := q7_ BK214 0 rfl
       have hcz77_1 : wc.cell? ⟨gb214, 1, none⟩ = some (.int .i64 a0_1) := q7_ BK214 1 rfl
       have hcz77_2 : wc.cell? ⟨gb214, 2, none⟩ = some (.int .i64 a0_2) := q7_ BK214 2 rfl
       have hcz77_3 : wc.cell? ⟨gb214, 3, none⟩ = some (.int .i64 a0_3) := q7_ BK214 3 rfl
       have hcz77_4 : wc.cell? ⟨gb214, 4, none⟩ = some (.int .i64 a0_4) := q7_ BK214 4 rfl
       have hcz77_5 : wc.cell? ⟨gb214, 5, none⟩ = some (.int .i64 a0_5) := q7_ BK214 5 rfl
       have hfz77_0 := blk_frozen BK214.out 0
       have hfz77_1 := blk_frozen BK214.out 1
       have hfz77_2 := blk_frozen BK214.out 2
       have hfz77_3 := blk_frozen BK214.out 3
       have hfz77_4 := blk_frozen BK214.out 4
       have hfz77_5 := blk_frozen BK214.out 5
       have hnb78 := NB215_216.out
       have hnc78 := NB216_215.out
       have hcz79_0 : wc.cell? ⟨gb215, 0, none⟩ = some (.bool a1_0) := q7_ BK215 0 rfl
       have hcz79_1 : wc.cell? ⟨gb215, 1, none⟩ = some (.int .i64 a1_1) := q7_ BK215 1 rfl
       have hcz79_2 : wc.cell? ⟨gb215, 2, none⟩ = some (.int .i64 a1_2) := q7_ BK215 2 rfl
       have hcz79_3 : wc.cell? ⟨gb215, 3, none⟩ = some (.int .i64 a1_3) := q7_ BK215 3 rfl
       have hcz79_4 : wc.cell? ⟨gb215, 4, none⟩ = some (.int .i64 a1_4) := q7_ BK215 4 rfl
       have hcz79_5 : wc.cell? ⟨gb215, 5, none⟩ = some (.int .i64 a1_5) := q7_ BK215 5 rfl
       have hfz79_0 := blk_frozen BK215.out 0
       have hfz79_1 := blk_frozen BK215.out 1
       have hfz79_2 := blk_frozen BK215.out 2
       have hfz79_3 := blk_frozen BK215.out 3
       have hfz79_4 := blk_frozen BK215.out 4
       have hfz79_5 := blk_frozen BK215.out 5
       go_wp2
       go_meet
       case rel => exact ⟨_, ((a0_4 == a1_4)), (by first | rfl | (simp; done) | (simp [*]; done)), H', ⟨by have := HJ4.out; first | omega | exact Nat.le_refl _⟩, q3_ BK214, q3_ BK215, q3_ BK216, ⟨by repeat (first | (with_reducible first | exact HB.out | apply below_alloc | apply pw_below_drewN | apply below_drew1 | refine below_set ?_ GE214.out | refine below_set ?_ GE215.out | refine below_set ?_ GE216.out) | exact HB.out)⟩⟩
      ·rw [if_neg c74] at H
       have c74b0 : (a0_2 == a1_2) = false := beq_eq_false_iff_ne.mpr c74
       have c74b1 : (a0_2 != a1_2) = true := bne_iff_ne.mpr c74
       have H' := Aside0.mk H
       clear H
       have hnb80 := NB214_215.out
       have hnc80 := NB215_214.out
       have hnb81 := NB214_216.out
       have hnc81 := NB216_214.out
       have hcz82_0 : wc.cell? ⟨gb214, 0, none⟩ = some (.bool a0_0) := q7_ BK214 0 rfl
       have hcz82_1 : wc.cell? ⟨gb214, 1, none⟩ = some (.int .i64 a0_1) := q7_ BK214 1 rfl
       have hcz82_2 : wc.cell? ⟨gb214, 2, none⟩ = some (.int .i64 a0_2) := q7_ BK214 2 rfl
       have hcz82_3 : wc.cell? ⟨gb214, 3, none⟩ = some (.int .i64 a0_3) := q7_ BK214 3 rfl
       have hcz82_4 : wc.cell? ⟨gb214, 4, none⟩ = some (.int .i64 a0_4) := q7_ BK214 4 rfl
       have hcz82_5 : wc.cell? ⟨gb214, 5, none⟩ = some (.int .i64 a0_5) := q7_ BK214 5 rfl
       have hfz82_0 := blk_frozen BK214.out 0
       have hfz82_1 := blk_frozen BK214.out 1
       have hfz82_2 := blk_frozen BK214.out 2
       have hfz82_3 := blk_frozen BK214.out 3
       have hfz82_4 := blk_frozen BK214.out 4
       have hfz82_5 := blk_frozen BK214.out 5
       have hnb83 := NB215_216.out
       have hnc83 := NB216_215.out
       have hcz84_0 : wc.cell? ⟨gb215, 0, none⟩ = some (.bool a1_0) := q7_ BK215 0 rfl
       have hcz84_1 : wc.cell? ⟨gb215, 1, none⟩ = some (.int .i64 a1_1) := q7_ BK215 1 rfl
       have hcz84_2 : wc.cell? ⟨gb215, 2, none⟩ = some (.int .i64 a1_2) := q7_ BK215 2 rfl
       have hcz84_3 : wc.cell? ⟨gb215, 3, none⟩ = some (.int .i64 a1_3) := q7_ BK215 3 rfl
       have hcz84_4 : wc.cell? ⟨gb215, 4, none⟩ = some (.int .i64 a1_4) := q7_ BK215 4 rfl
       have hcz84_5 : wc.cell? ⟨gb215, 5, none⟩ = some (.int .i64 a1_5) := q7_ BK215 5 rfl
       have hfz84_0 := blk_frozen BK215.out 0
       have hfz84_1 := blk_frozen BK215.out 1
       have hfz84_2 := blk_frozen BK215.out 2
       have hfz84_3 := blk_frozen BK215.out 3
       have hfz84_4 := blk_frozen BK215.out 4
       have hfz84_5 := blk_frozen BK215.out 5
       go_wp2
       go_meet
       case rel => exact ⟨_, (false), (by first | rfl | (simp; done) | (simp [*]; done)), H', ⟨by have := HJ4.out; first | omega | exact Nat.le_refl _⟩, q3_ BK214, q3_ BK215, q3_ BK216, ⟨by repeat (first | (with_reducible first | exact HB.out | apply below_alloc | apply pw_below_drewN | apply below_drew1 | refine below_set ?_ GE214.out | refine below_set ?_ GE215.out | refine below_set ?_ GE216.out) | exact HB.out)⟩⟩
     ·rw [if_neg c73] at H
      have c73b0 : (a0_1 == a1_1) = false := beq_eq_false_iff_ne.mpr c73
      have c73b1 : (a0_1 != a1_1) = true := bne_iff_ne.mpr c73
      (first | rw [c73b0] | (simp only [i64_w, i32_w]; rw [c73b0]) | skip)
      have H' := Aside0.mk H
      clear H
      have hnb85 := NB214_215.out
      have hnc85 := NB215_214.out
      have hnb86 := NB214_216.out
      have hnc86 := NB216_214.out
      have hcz87_0 : wc.cell? ⟨gb214, 0, none⟩ = some (.bool a0_0) := q7_ BK214 0 rfl
      have hcz87_1 : wc.cell? ⟨gb214, 1, none⟩ = some (.int .i64 a0_1) := q7_ BK214 1 rfl
      have hcz87_2 : wc.cell? ⟨gb214, 2, none⟩ = some (.int .i64 a0_2) := q7_ BK214 2 rfl
      have hcz87_3 : wc.cell? ⟨gb214, 3, none⟩ = some (.int .i64 a0_3) := q7_ BK214 3 rfl
      have hcz87_4 : wc.cell? ⟨gb214, 4, none⟩ = some (.int .i64 a0_4) := q7_ BK214 4 rfl
      have hcz87_5 : wc.cell? ⟨gb214, 5, none⟩ = some (.int .i64 a0_5) := q7_ BK214 5 rfl
      have hfz87_0 := blk_frozen BK214.out 0
      have hfz87_1 := blk_frozen BK214.out 1
      have hfz87_2 := blk_frozen BK214.out 2
      have hfz87_3 := blk_frozen BK214.out 3
      have hfz87_4 := blk_frozen BK214.out 4
      have hfz87_5 := blk_frozen BK214.out 5
      have hnb88 := NB215_216.out
      have hnc88 := NB216_215.out
      have hcz89_0 : wc.cell? ⟨gb215, 0, none⟩ = some (.bool a1_0) := q7_ BK215 0 rfl
      have hcz89_1 : wc.cell? ⟨gb215, 1, none⟩ = some (.int .i64 a1_1) := q7_ BK215 1 rfl
      have hcz89_2 : wc.cell? ⟨gb215, 2, none⟩ = some (.int .i64 a1_2) := q7_ BK215 2 rfl
      have hcz89_3 : wc.cell? ⟨gb215, 3, none⟩ = some (.int .i64 a1_3) := q7_ BK215 3 rfl
      have hcz89_4 : wc.cell? ⟨gb215, 4, none⟩ = some (.int .i64 a1_4) := q7_ BK215 4 rfl
      have hcz89_5 : wc.cell? ⟨gb215, 5, none⟩ = some (.int .i64 a1_5) := q7_ BK215 5 rfl
      have hfz89_0 := blk_frozen BK215.out 0
      have hfz89_1 := blk_frozen BK215.out 1
      have hfz89_2 := blk_frozen BK215.out 2
      have hfz89_3 := blk_frozen BK215.out 3
      have hfz89_4 := blk_frozen BK215.out 4
      have hfz89_5 := blk_frozen BK215.out 5
      go_wp2
      go_meet
      case rel => exact ⟨_, (false), (by first | rfl | (simp; done) | (simp [*]; done)), H', ⟨by have := HJ4.out; first | omega | exact Nat.le_refl _⟩, q3_ BK214, q3_ BK215, q3_ BK216, ⟨by repeat (first | (with_reducible first | exact HB.out | apply below_alloc | apply pw_below_drewN | apply below_drew1 | refine below_set ?_ GE214.out | refine below_set ?_ GE215.out | refine below_set ?_ GE216.out) | exact HB.out)⟩⟩
    case rest =>
     clear HC72
     try clear c1
     try clear c2
     try clear p2
     try clear c3
     try clear c4
     try clear c5
     try clear c6
     try clear c7
     try clear c8
     try clear c9
     try clear c11
     try clear c13
     try clear c15
     try clear c16
     try clear c17
     try clear c18
     try clear c19
     try clear c22
     try clear c30
     try clear c31
     try clear c34
     try clear c41
     try clear c42
     try clear c45
     try clear c51
     try clear c52
     try clear c55
     try clear c60
     try clear c61
     try clear c64
     try clear c67
     try clear c68
     try clear c71
     try clear c73
     try clear c73b0
     try clear c73b1
     try clear c74
     try clear c74b0
     try clear c74b1
     try clear c75
     try clear c76
     try clear c78
     try clear c80
     try clear c81
     try clear c83
     try clear c85
     try clear c86
     try clear c88
     try clear hcz20_0
     try clear hcz20_1
     try clear hcz20_2
     try clear hcz20_3
     try clear hcz20_4
     try clear hcz20_5
     try clear hcz23_0
     try clear hcz23_1
     try clear hcz23_2
     try clear hcz23_3
     try clear hcz23_4
     try clear hcz23_5
     try clear hcz25_0
     try clear hcz25_1
     try clear hcz25_2
     try clear hcz25_3
     try clear hcz25_4
     try clear hcz25_5
     try clear hcz27_0
     try clear hcz27_1
     try clear hcz27_2
     try clear hcz27_3
     try clear hcz27_4
     try clear hcz27_5
     try clear hcz28_0
     try clear hcz28_1
     try clear hcz28_2
     try clear hcz28_3
     try clear hcz28_4
     try clear hcz28_5
     try clear hcz29_0
     try clear hcz29_1
     try clear hcz29_2
     try clear hcz29_3
     try clear hcz29_4
     try clear hcz29_5
     try clear hcz32_0
     try clear hcz32_1
     try clear hcz32_2
     try clear hcz32_3
     try clear hcz32_4
     try clear hcz32_5
     try clear hcz35_0
     try clear hcz35_1
     try clear hcz35_2
     try clear hcz35_3
     try clear hcz35_4
     try clear hcz35_5
     try clear hcz37_0
     try clear hcz37_1
     try clear hcz37_2
     try clear hcz37_3
     try clear hcz37_4
     try clear hcz37_5
     try clear hcz39_0
     try clear hcz39_1
     try clear hcz39_2
     try clear hcz39_3
     try clear hcz39_4
     try clear hcz39_5
     try clear hcz40_0
     try clear hcz40_1
     try clear hcz40_2
     try clear hcz40_3
     try clear hcz40_4
     try clear hcz40_5
     try clear hcz43_0
     try clear hcz43_1
     try clear hcz43_2
     try clear hcz43_3
     try clear hcz43_4
     try clear hcz43_5
     try clear hcz46_0
     try clear hcz46_1
     try clear hcz46_2
     try clear hcz46_3
     try clear hcz46_4
     try clear hcz46_5
     try clear hcz48_0
     try clear hcz48_1
     try clear hcz48_2
     try clear hcz48_3
     try clear hcz48_4
     try clear hcz48_5
     try clear hcz50_0
     try clear hcz50_1
     try clear hcz50_2
     try clear hcz50_3
     try clear hcz50_4
     try clear hcz50_5
     try clear hcz53_0
     try clear hcz53_1
     try clear hcz53_2
     try clear hcz53_3
     try clear hcz53_4
     try clear hcz53_5
     try clear hcz56_0
     try clear hcz56_1
     try clear hcz56_2
     try clear hcz56_3
     try clear hcz56_4
     try clear hcz56_5
     try clear hcz58_0
     try clear hcz58_1
     try clear hcz58_2
     try clear hcz58_3
     try clear hcz58_4
     try clear hcz58_5
     try clear hcz62_0
     try clear hcz62_1
     try clear hcz62_2
     try clear hcz62_3
     try clear hcz62_4
     try clear hcz62_5
     try clear hcz65_0
     try clear hcz65_1
     try clear hcz65_2
     try clear hcz65_3
     try clear hcz65_4
     try clear hcz65_5
     try clear hcz69_0
     try clear hcz69_1
     try clear hcz69_2
     try clear hcz69_3
     try clear hcz69_4
     try clear hcz69_5
     try clear hcz77_0
     try clear hcz77_1
     try clear hcz77_2
     try clear hcz77_3
     try clear hcz77_4
     try clear hcz77_5
     try clear hcz79_0
     try clear hcz79_1
     try clear hcz79_2
     try clear hcz79_3
     try clear hcz79_4
     try clear hcz79_5
     try clear hcz82_0
     try clear hcz82_1
     try clear hcz82_2
     try clear hcz82_3
     try clear hcz82_4
     try clear hcz82_5
     try clear hcz84_0
     try clear hcz84_1
     try clear hcz84_2
     try clear hcz84_3
     try clear hcz84_4
     try clear hcz84_5
     try clear hcz87_0
     try clear hcz87_1
     try clear hcz87_2
     try clear hcz87_3
     try clear hcz87_4
     try clear hcz87_5
     try clear hcz89_0
     try clear hcz89_1
     try clear hcz89_2
     try clear hcz89_3
     try clear hcz89_4
     try clear hcz89_5
     try clear hfz20_0
     try clear hfz20_1
     try clear hfz20_2
     try clear hfz20_3
     try clear hfz20_4
     try clear hfz20_5
     try clear hfz23_0
     try clear hfz23_1
     try clear hfz23_2
     try clear hfz23_3
     try clear hfz23_4
     try clear hfz23_5
     try clear hfz25_0
     try clear hfz25_1
     try clear hfz25_2
     try clear hfz25_3
     try clear hfz25_4
     try clear hfz25_5
     try clear hfz27_0
     try clear hfz27_1
     try clear hfz27_2
     try clear hfz27_3
     try clear hfz27_4
     try clear hfz27_5
     try clear hfz28_0
     try clear hfz28_1
     try clear hfz28_2
     try clear hfz28_3
     try clear hfz28_4
     try clear hfz28_5
     try clear hfz29_0
     try clear hfz29_1
     try clear hfz29_2
     try clear hfz29_3
     try clear hfz29_4
     try clear hfz29_5
     try clear hfz32_0
     try clear hfz32_1
     try clear hfz32_2
     try clear hfz32_3
     try clear hfz32_4
     try clear hfz32_5
     try clear hfz35_0
     try clear hfz35_1
     try clear hfz35_2
     try clear hfz35_3
     try clear hfz35_4
     try clear hfz35_5
     try clear hfz37_0
     try clear hfz37_1
     try clear hfz37_2
     try clear hfz37_3
     try clear hfz37_4
     try clear hfz37_5
     try clear hfz39_0
     try clear hfz39_1
     try clear hfz39_2
     try clear hfz39_3
     try clear hfz39_4
     try clear hfz39_5
     try clear hfz40_0
     try clear hfz40_1
     try clear hfz40_2
     try clear hfz40_3
     try clear hfz40_4
     try clear hfz40_5
     try clear hfz43_0
     try clear hfz43_1
     try clear hfz43_2
     try clear hfz43_3
     try clear hfz43_4
     try clear hfz43_5
     try clear hfz46_0
     try clear hfz46_1
     try clear hfz46_2
     try clear hfz46_3
     try clear hfz46_4
     try clear hfz46_5
     try clear hfz48_0
     try clear hfz48_1
     try clear hfz48_2
     try clear hfz48_3
     try clear hfz48_4
     try clear hfz48_5
     try clear hfz50_0
     try clear hfz50_1
     try clear hfz50_2
     try clear hfz50_3
     try clear hfz50_4
     try clear hfz50_5
     try clear hfz53_0
     try clear hfz53_1
     try clear hfz53_2
     try clear hfz53_3
     try clear hfz53_4
     try clear hfz53_5
     try clear hfz56_0
     try clear hfz56_1
     try clear hfz56_2
     try clear hfz56_3
     try clear hfz56_4
     try clear hfz56_5
     try clear hfz58_0
     try clear hfz58_1
     try clear hfz58_2
     try clear hfz58_3
     try clear hfz58_4
     try clear hfz58_5
     try clear hfz62_0
     try clear hfz62_1
     try clear hfz62_2
     try clear hfz62_3
     try clear hfz62_4
     try clear hfz62_5
     try clear hfz65_0
     try clear hfz65_1
     try clear hfz65_2
     try clear hfz65_3
     try clear hfz65_4
     try clear hfz65_5
     try clear hfz69_0
     try clear hfz69_1
     try clear hfz69_2
     try clear hfz69_3
     try clear hfz69_4
     try clear hfz69_5
     try clear hfz77_0
     try clear hfz77_1
     try clear hfz77_2
     try clear hfz77_3
     try clear hfz77_4
     try clear hfz77_5
     try clear hfz79_0
     try clear hfz79_1
     try clear hfz79_2
     try clear hfz79_3
     try clear hfz79_4
     try clear hfz79_5
     try clear hfz82_0
     try clear hfz82_1
     try clear hfz82_2
     try clear hfz82_3
     try clear hfz82_4
     try clear hfz82_5
     try clear hfz84_0
     try clear hfz84_1
     try clear hfz84_2
     try clear hfz84_3
     try clear hfz84_4
     try clear hfz84_5
     try clear hfz87_0
     try clear hfz87_1
     try clear hfz87_2
     try clear hfz87_3
     try clear hfz87_4
     try clear hfz87_5
     try clear hfz89_0
     try clear hfz89_1
     try clear hfz89_2
     try clear hfz89_3
     try clear hfz89_4
     try clear hfz89_5
     try clear p2
     obtain ⟨kq, x8_71, rfl, HA, HJ71, BK214, BK215, BK216, HB⟩ := hcut
     cases kq with
     | zero => exact absurd HA.out (by simp [seizinlaw02_CapOrder.j1])
     | succ kj71 =>
      have H := HA.out
      clear HA
      simp only [seizinlaw02_CapOrder.j1] at H
      by_cases c90 : t217 = true
      ·subst c90
       have H1 : ((cap_Under.f a0_0 a0_1 a0_2 a0_3 a0_4 a0_5 a0_0 a0_1 a0_2 a0_3 a0_4 a0_5).bind fun t221 => (if t221 = true then ((cap_Under.f a0_0 a0_1 a0_2 a0_3 a0_4 a0_5 a1_0 a1_1 a1_2 a1_3 a1_4 a1_5).bind fun t222 => (if t222 = true then ((cap_Under.f a1_0 a1_1 a1_2 a1_3 a1_4 a1_5 a2_0 a2_1 a2_2 a2_3 a2_4 a2_5).bind fun t223 => (if t223 = true then ((cap_Under.f a0_0 a0_1 a0_2 a0_3 a0_4 a0_5 a2_0 a2_1 a2_2 a2_3 a2_4 a2_5).bind fun t224 => (if t224 = true then ((cap_Under.f a0_0 a0_1 a0_2 a0_3 a0_4 a0_5 a1_0 a1_1 a1_2 a1_3 a1_4 a1_5).bind fun t225 => (if t225 = true then ((cap_Under.f a1_0 a1_1 a1_2 a1_3 a1_4 a1_5 a0_0 a0_1 a0_2 a0_3 a0_4 a0_5).bind fun t226 => (if (t226 == x8_71) = true then ((cap_Root.f 16777216).bind fun bt227 => ((cap_Under.f a0_0 a0_1 a0_2 a0_3 a0_4 a0_5 bt227.1 bt227.2.1 bt227.2.2.1 bt227.2.2.2.1 bt227.2.2.2.2.1 bt227.2.2.2.2.2).bind fun t233 => (some t233))) else (some false))) else (if (false == x8_71) = true then ((cap_Root.f 16777216).bind fun bt234 => ((cap_Under.f a0_0 a0_1 a0_2 a0_3 a0_4 a0_5 bt234.1 bt234.2.1 bt234.2.2.1 bt234.2.2.2.1 bt234.2.2.2.2.1 bt234.2.2.2.2.2).bind fun t240 => (some t240))) else (some false)))) else (some false))) else ((cap_Under.f a0_0 a0_1 a0_2 a0_3 a0_4 a0_5 a1_0 a1_1 a1_2 a1_3 a1_4 a1_5).bind fun t241 => (if t241 = true then ((cap_Under.f a1_0 a1_1 a1_2 a1_3 a1_4 a1_5 a0_0 a0_1 a0_2 a0_3 a0_4 a0_5).bind fun t242 => (if (t242 == x8_71) = true then ((cap_Root.f 16777216).bind fun bt243 => ((cap_Under.f a0_0 a0_1 a0_2 a0_3 a0_4 a0_5 bt243.1 bt243.2.1 bt243.2.2.1 bt243.2.2.2.1 bt243.2.2.2.2.1 bt243.2.2.2.2.2).bind fun t249 => (some t249))) else (some false))) else (if (false == x8_71) = true then ((cap_Root.f 16777216).bind fun bt250 => ((cap_Under.f a0_0 a0_1 a0_2 a0_3 a0_4 a0_5 bt250.1 bt250.2.1 bt250.2.2.1 bt250.2.2.2.1 bt250.2.2.2.2.1 bt250.2.2.2.2.2).bind fun t256 => (some t256))) else (some false)))))) else ((cap_Under.f a0_0 a0_1 a0_2 a0_3 a0_4 a0_5 a1_0 a1_1 a1_2 a1_3 a1_4 a1_5).bind fun t257 => (if t257 = true then ((cap_Under.f a1_0 a1_1 a1_2 a1_3 a1_4 a1_5 a0_0 a0_1 a0_2 a0_3 a0_4 a0_5).bind fun t258 => (if (t258 == x8_71) = true then ((cap_Root.f 16777216).bind fun bt259 => ((cap_Under.f a0_0 a0_1 a0_2 a0_3 a0_4 a0_5 bt259.1 bt259.2.1 bt259.2.2.1 bt259.2.2.2.1 bt259.2.2.2.2.1 bt259.2.2.2.2.2).bind fun t265 => (some t265))) else (some false))) else (if (false == x8_71) = true then ((cap_Root.f 16777216).bind fun bt266 => ((cap_Under.f a0_0 a0_1 a0_2 a0_3 a0_4 a0_5 bt266.1 bt266.2.1 bt266.2.2.1 bt266.2.2.2.1 bt266.2.2.2.2.1 bt266.2.2.2.2.2).bind fun t272 => (some t272))) else (some false)))))) else (some false))) = some r := by rw [if_pos rfl] at H; exact H
       clear H
       have H := H1
       clear H1
       replace H := Option.bind_eq_some_iff.mp H
       obtain ⟨t221, A910, H⟩ := H
       replace H : (if t221 = true then ((cap_Under.f a0_0 a0_1 a0_2 a0_3 a0_4 a0_5 a1_0 a1_1 a1_2 a1_3 a1_4 a1_5).bind fun t222 => (if t222 = true then ((cap_Under.f a1_0 a1_1 a1_2 a1_3 a1_4 a1_5 a2_0 a2_1 a2_2 a2_3 a2_4 a2_5).bind fun t223 => (if t223 = true then ((cap_Under.f a0_0 a0_1 a0_2 a0_3 a0_4 a0_5 a2_0 a2_1 a2_2 a2_3 a2_4 a2_5).bind fun t224 => (if t224 = true then ((cap_Under.f a0_0 a0_1 a0_2 a0_3 a0_4 a0_5 a1_0 a1_1 a1_2 a1_3 a1_4 a1_5).bind fun t225 => (if t225 = true then ((cap_Under.f a1_0 a1_1 a1_2 a1_3 a1_4 a1_5 a0_0 a0_1 a0_2 a0_3 a0_4 a0_5).bind fun t226 => (if (t226 == x8_71) = true then ((cap_Root.f 16777216).bind fun bt227 => ((cap_Under.f a0_0 a0_1 a0_2 a0_3 a0_4 a0_5 bt227.1 bt227.2.1 bt227.2.2.1 bt227.2.2.2.1 bt227.2.2.2.2.1 bt227.2.2.2.2.2).bind fun t233 => (some t233))) else (some false))) else (if (false == x8_71) = true then ((cap_Root.f 16777216).bind fun bt234 => ((cap_Under.f a0_0 a0_1 a0_2 a0_3 a0_4 a0_5 bt234.1 bt234.2.1 bt234.2.2.1 bt234.2.2.2.1 bt234.2.2.2.2.1 bt234.2.2.2.2.2).bind fun t240 => (some t240))) else (some false)))) else (some false))) else ((cap_Under.f a0_0 a0_1 a0_2 a0_3 a0_4 a0_5 a1_0 a1_1 a1_2 a1_3 a1_4 a1_5).bind fun t241 => (if t241 = true then ((cap_Under.f a1_0 a1_1 a1_2 a1_3 a1_4 a1_5 a0_0 a0_1 a0_2 a0_3 a0_4 a0_5).bind fun t242 => (if (t242 == x8_71) = true then ((cap_Root.f 16777216).bind fun bt243 => ((cap_Under.f a0_0 a0_1 a0_2 a0_3 a0_4 a0_5 bt243.1 bt243.2.1 bt243.2.2.1 bt243.2.2.2.1 bt243.2.2.2.2.1 bt243.2.2.2.2.2).bind fun t249 => (some t249))) else (some false))) else (if (false == x8_71) = true then ((cap_Root.f 16777216).bind fun bt250 => ((cap_Under.f a0_0 a0_1 a0_2 a0_3 a0_4 a0_5 bt250.1 bt250.2.1 bt250.2.2.1 bt250.2.2.2.1 bt250.2.2.2.2.1 bt250.2.2.2.2.2).bind fun t256 => (some t256))) else (some false)))))) else ((cap_Under.f a0_0 a0_1 a0_2 a0_3 a0_4 a0_5 a1_0 a1_1 a1_2 a1_3 a1_4 a1_5).bind fun t257 => (if t257 = true then ((cap_Under.f a1_0 a1_1 a1_2 a1_3 a1_4 a1_5 a0_0 a0_1 a0_2 a0_3 a0_4 a0_5).bind fun t258 => (if (t258 == x8_71) = true then ((cap_Root.f 16777216).bind fun bt259 => ((cap_Under.f a0_0 a0_1 a0_2 a0_3 a0_4 a0_5 bt259.1 bt259.2.1 bt259.2.2.1 bt259.2.2.2.1 bt259.2.2.2.2.1 bt259.2.2.2.2.2).bind fun t265 => (some t265))) else (some false))) else (if (false == x8_71) = true then ((cap_Root.f 16777216).bind fun bt266 => ((cap_Under.f a0_0 a0_1 a0_2 a0_3 a0_4 a0_5 bt266.1 bt266.2.1 bt266.2.2.1 bt266.2.2.2.1 bt266.2.2.2.2.1 bt266.2.2.2.2.2).bind fun t272 => (some t272))) else (some false)))))) else (some false)) = some r := H
       have A91 := Aside0.mk A910
       clear A910
       by_cases c92 : t221 = true
       ·subst c92
        have H1 : ((cap_Under.f a0_0 a0_1 a0_2 a0_3 a0_4 a0_5 a1_0 a1_1 a1_2 a1_3 a1_4 a1_5).bind fun t222 => (if t222 = true then ((cap_Under.f a1_0 a1_1 a1_2 a1_3 a1_4 a1_5 a2_0 a2_1 a2_2 a2_3 a2_4 a2_5).bind fun t223 => (if t223 = true then ((cap_Under.f a0_0 a0_1 a0_2 a0_3 a0_4 a0_5 a2_0 a2_1 a2_2 a2_3 a2_4 a2_5).bind fun t224 => (if t224 = true then ((cap_Under.f a0_0 a0_1 a0_2 a0_3 a0_4 a0_5 a1_0 a1_1 a1_2 a1_3 a1_4 a1_5).bind fun t225 => (if t225 = true then ((cap_Under.f a1_0 a1_1 a1_2 a1_3 a1_4 a1_5 a0_0 a0_1 a0_2 a0_3 a0_4 a0_5).bind fun t226 => (if (t226 == x8_71) = true then ((cap_Root.f 16777216).bind fun bt227 => ((cap_Under.f a0_0 a0_1 a0_2 a0_3 a0_4 a0_5 bt227.1 bt227.2.1 bt227.2.2.1 bt227.2.2.2.1 bt227.2.2.2.2.1 bt227.2.2.2.2.2).bind fun t233 => (some t233))) else (some false))) else (if (false == x8_71) = true then ((cap_Root.f 16777216).bind fun bt234 => ((cap_Under.f a0_0 a0_1 a0_2 a0_3 a0_4 a0_5 bt234.1 bt234.2.1 bt234.2.2.1 bt234.2.2.2.1 bt234.2.2.2.2.1 bt234.2.2.2.2.2).bind fun t240 => (some t240))) else (some false)))) else (some false))) else ((cap_Under.f a0_0 a0_1 a0_2 a0_3 a0_4 a0_5 a1_0 a1_1 a1_2 a1_3 a1_4 a1_5).bind fun t241 => (if t241 = true then ((cap_Under.f a1_0 a1_1 a1_2 a1_3 a1_4 a1_5 a0_0 a0_1 a0_2 a0_3 a0_4 a0_5).bind fun t242 => (if (t242 == x8_71) = true then ((cap_Root.f 16777216).bind fun bt243 => ((cap_Under.f a0_0 a0_1 a0_2 a0_3 a0_4 a0_5 bt243.1 bt243.2.1 bt243.2.2.1 bt243.2.2.2.1 bt243.2.2.2.2.1 bt243.2.2.2.2.2).bind fun t249 => (some t249))) else (some false))) else (if (false == x8_71) = true then ((cap_Root.f 16777216).bind fun bt250 => ((cap_Under.f a0_0 a0_1 a0_2 a0_3 a0_4 a0_5 bt250.1 bt250.2.1 bt250.2.2.1 bt250.2.2.2.1 bt250.2.2.2.2.1 bt250.2.2.2.2.2).bind fun t256 => (some t256))) else (some false)))))) else ((cap_Under.f a0_0 a0_1 a0_2 a0_3 a0_4 a0_5 a1_0 a1_1 a1_2 a1_3 a1_4 a1_5).bind fun t257 => (if t257 = true then ((cap_Under.f a1_0 a1_1 a1_2 a1_3 a1_4 a1_5 a0_0 a0_1 a0_2 a0_3 a0_4 a0_5).bind fun t258 => (if (t258 == x8_71) = true then ((cap_Root.f 16777216).bind fun bt259 => ((cap_Under.f a0_0 a0_1 a0_2 a0_3 a0_4 a0_5 bt259.1 bt259.2.1 bt259.2.2.1 bt259.2.2.2.1 bt259.2.2.2.2.1 bt259.2.2.2.2.2).bind fun t265 => (some t265))) else (some false))) else (if (false == x8_71) = true then ((cap_Root.f 16777216).bind fun bt266 => ((cap_Under.f a0_0 a0_1 a0_2 a0_3 a0_4 a0_5 bt266.1 bt266.2.1 bt266.2.2.1 bt266.2.2.2.1 bt266.2.2.2.2.1 bt266.2.2.2.2.2).bind fun t272 => (some t272))) else (some false)))))) = some r := by rw [if_pos rfl] at H; exact H
        clear H
        have H := H1
        clear H1
        replace H := Option.bind_eq_some_iff.mp H
        obtain ⟨t222, A930, H⟩ := H
        replace H : (if t222 = true then ((cap_Under.f a1_0 a1_1 a1_2 a1_3 a1_4 a1_5 a2_0 a2_1 a2_2 a2_3 a2_4 a2_5).bind fun t223 => (if t223 = true then ((cap_Under.f a0_0 a0_1 a0_2 a0_3 a0_4 a0_5 a2_0 a2_1 a2_2 a2_3 a2_4 a2_5).bind fun t224 => (if t224 = true then ((cap_Under.f a0_0 a0_1 a0_2 a0_3 a0_4 a0_5 a1_0 a1_1 a1_2 a1_3 a1_4 a1_5).bind fun t225 => (if t225 = true then ((cap_Under.f a1_0 a1_1 a1_2 a1_3 a1_4 a1_5 a0_0 a0_1 a0_2 a0_3 a0_4 a0_5).bind fun t226 => (if (t226 == x8_71) = true then ((cap_Root.f 16777216).bind fun bt227 => ((cap_Under.f a0_0 a0_1 a0_2 a0_3 a0_4 a0_5 bt227.1 bt227.2.1 bt227.2.2.1 bt227.2.2.2.1 bt227.2.2.2.2.1 bt227.2.2.2.2.2).bind fun t233 => (some t233))) else (some false))) else (if (false == x8_71) = true then ((cap_Root.f 16777216).bind fun bt234 => ((cap_Under.f a0_0 a0_1 a0_2 a0_3 a0_4 a0_5 bt234.1 bt234.2.1 bt234.2.2.1 bt234.2.2.2.1 bt234.2.2.2.2.1 bt234.2.2.2.2.2).bind fun t240 => (some t240))) else (some false)))) else (some false))) else ((cap_Under.f a0_0 a0_1 a0_2 a0_3 a0_4 a0_5 a1_0 a1_1 a1_2 a1_3 a1_4 a1_5).bind fun t241 => (if t241 = true then ((cap_Under.f a1_0 a1_1 a1_2 a1_3 a1_4 a1_5 a0_0 a0_1 a0_2 a0_3 a0_4 a0_5).bind fun t242 => (if (t242 == x8_71) = true then ((cap_Root.f 16777216).bind fun bt243 => ((cap_Under.f a0_0 a0_1 a0_2 a0_3 a0_4 a0_5 bt243.1 bt243.2.1 bt243.2.2.1 bt243.2.2.2.1 bt243.2.2.2.2.1 bt243.2.2.2.2.2).bind fun t249 => (some t249))) else (some false))) else (if (false == x8_71) = true then ((cap_Root.f 16777216).bind fun bt250 => ((cap_Under.f a0_0 a0_1 a0_2 a0_3 a0_4 a0_5 bt250.1 bt250.2.1 bt250.2.2.1 bt250.2.2.2.1 bt250.2.2.2.2.1 bt250.2.2.2.2.2).bind fun t256 => (some t256))) else (some false)))))) else ((cap_Under.f a0_0 a0_1 a0_2 a0_3 a0_4 a0_5 a1_0 a1_1 a1_2 a1_3 a1_4 a1_5).bind fun t257 => (if t257 = true then ((cap_Under.f a1_0 a1_1 a1_2 a1_3 a1_4 a1_5 a0_0 a0_1 a0_2 a0_3 a0_4 a0_5).bind fun t258 => (if (t258 == x8_71) = true then ((cap_Root.f 16777216).bind fun bt259 => ((cap_Under.f a0_0 a0_1 a0_2 a0_3 a0_4 a0_5 bt259.1 bt259.2.1 bt259.2.2.1 bt259.2.2.2.1 bt259.2.2.2.2.1 bt259.2.2.2.2.2).bind fun t265 => (some t265))) else (some false))) else (if (false == x8_71) = true then ((cap_Root.f 16777216).bind fun bt266 => ((cap_Under.f a0_0 a0_1 a0_2 a0_3 a0_4 a0_5 bt266.1 bt266.2.1 bt266.2.2.1 bt266.2.2.2.1 bt266.2.2.2.2.1 bt266.2.2.2.2.2).bind fun t272 => (some t272))) else (some false))))) = some r := H
        have A93 := Aside0.mk A930
        clear A930
        by_cases c94 : t222 = true
        ·subst c94
         have H1 : ((cap_Under.f a1_0 a1_1 a1_2 a1_3 a1_4 a1_5 a2_0 a2_1 a2_2 a2_3 a2_4 a2_5).bind fun t223 => (if t223 = true then ((cap_Under.f a0_0 a0_1 a0_2 a0_3 a0_4 a0_5 a2_0 a2_1 a2_2 a2_3 a2_4 a2_5).bind fun t224 => (if t224 = true then ((cap_Under.f a0_0 a0_1 a0_2 a0_3 a0_4 a0_5 a1_0 a1_1 a1_2 a1_3 a1_4 a1_5).bind fun t225 => (if t225 = true then ((cap_Under.f a1_0 a1_1 a1_2 a1_3 a1_4 a1_5 a0_0 a0_1 a0_2 a0_3 a0_4 a0_5).bind fun t226 => (if (t226 == x8_71) = true then ((cap_Root.f 16777216).bind fun bt227 => ((cap_Under.f a0_0 a0_1 a0_2 a0_3 a0_4 a0_5 bt227.1 bt227.2.1 bt227.2.2.1 bt227.2.2.2.1 bt227.2.2.2.2.1 bt227.2.2.2.2.2).bind fun t233 => (some t233))) else (some false))) else (if (false == x8_71) = true then ((cap_Root.f 16777216).bind fun bt234 => ((cap_Under.f a0_0 a0_1 a0_2 a0_3 a0_4 a0_5 bt234.1 bt234.2.1 bt234.2.2.1 bt234.2.2.2.1 bt234.2.2.2.2.1 bt234.2.2.2.2.2).bind fun t240 => (some t240))) else (some false)))) else (some false))) else ((cap_Under.f a0_0 a0_1 a0_2 a0_3 a0_4 a0_5 a1_0 a1_1 a1_2 a1_3 a1_4 a1_5).bind fun t241 => (if t241 = true then ((cap_Under.f a1_0 a1_1 a1_2 a1_3 a1_4 a1_5 a0_0 a0_1 a0_2 a0_3 a0_4 a0_5).bind fun t242 => (if (t242 == x8_71) = true then ((cap_Root.f 16777216).bind fun bt243 => ((cap_Under.f a0_0 a0_1 a0_2 a0_3 a0_4 a0_5 bt243.1 bt243.2.1 bt243.2.2.1 bt243.2.2.2.1 bt243.2.2.2.2.1 bt243.2.2.2.2.2).bind fun t249 => (some t249))) else (some false))) else (if (false == x8_71) = true then ((cap_Root.f 16777216).bind fun bt250 => ((cap_Under.f a0_0 a0_1 a0_2 a0_3 a0_4 a0_5 bt250.1 bt250.2.1 bt250.2.2.1 bt250.2.2.2.1 bt250.2.2.2.2.1 bt250.2.2.2.2.2).bind fun t256 => (some t256))) else (some false)))))) = some r := by rw [if_pos rfl] at H; exact H
         clear H
         have H := H1
         clear H1
         replace H := Option.bind_eq_some_iff.mp H
         obtain ⟨t223, A950, H⟩ := H
         replace H : (if t223 = true then ((cap_Under.f a0_0 a0_1 a0_2 a0_3 a0_4 a0_5 a2_0 a2_1 a2_2 a2_3 a2_4 a2_5).bind fun t224 => (if t224 = true then ((cap_Under.f a0_0 a0_1 a0_2 a0_3 a0_4 a0_5 a1_0 a1_1 a1_2 a1_3 a1_4 a1_5).bind fun t225 => (if t225 = true then ((cap_Under.f a1_0 a1_1 a1_2 a1_3 a1_4 a1_5 a0_0 a0_1 a0_2 a0_3 a0_4 a0_5).bind fun t226 => (if (t226 == x8_71) = true then ((cap_Root.f 16777216).bind fun bt227 => ((cap_Under.f a0_0 a0_1 a0_2 a0_3 a0_4 a0_5 bt227.1 bt227.2.1 bt227.2.2.1 bt227.2.2.2.1 bt227.2.2.2.2.1 bt227.2.2.2.2.2).bind fun t233 => (some t233))) else (some false))) else (if (false == x8_71) = true then ((cap_Root.f 16777216).bind fun bt234 => ((cap_Under.f a0_0 a0_1 a0_2 a0_3 a0_4 a0_5 bt234.1 bt234.2.1 bt234.2.2.1 bt234.2.2.2.1 bt234.2.2.2.2.1 bt234.2.2.2.2.2).bind fun t240 => (some t240))) else (some false)))) else (some false))) else ((cap_Under.f a0_0 a0_1 a0_2 a0_3 a0_4 a0_5 a1_0 a1_1 a1_2 a1_3 a1_4 a1_5).bind fun t241 => (if t241 = true then ((cap_Under.f a1_0 a1_1 a1_2 a1_3 a1_4 a1_5 a0_0 a0_1 a0_2 a0_3 a0_4 a0_5).bind fun t242 => (if (t242 == x8_71) = true then ((cap_Root.f 16777216).bind fun bt243 => ((cap_Under.f a0_0 a0_1 a0_2 a0_3 a0_4 a0_5 bt243.1 bt243.2.1 bt243.2.2.1 bt243.2.2.2.1 bt243.2.2.2.2.1 bt243.2.2.2.2.2).bind fun t249 => (some t249))) else (some false))) else (if (false == x8_71) = true then ((cap_Root.f 16777216).bind fun bt250 => ((cap_Under.f a0_0 a0_1 a0_2 a0_3 a0_4 a0_5 bt250.1 bt250.2.1 bt250.2.2.1 bt250.2.2.2.1 bt250.2.2.2.2.1 bt250.2.2.2.2.2).bind fun t256 => (some t256))) else (some false))))) = some r := H
         have A95 := Aside0.mk A950
         clear A950
         by_cases c96 : t223 = true
         ·subst c96
          have H1 : ((cap_Under.f a0_0 a0_1 a0_2 a0_3 a0_4 a0_5 a2_0 a2_1 a2_2 a2_3 a2_4 a2_5).bind fun t224 => (if t224 = true then ((cap_Under.f a0_0 a0_1 a0_2 a0_3 a0_4 a0_5 a1_0 a1_1 a1_2 a1_3 a1_4 a1_5).bind fun t225 => (if t225 = true then ((cap_Under.f a1_0 a1_1 a1_2 a1_3 a1_4 a1_5 a0_0 a0_1 a0_2 a0_3 a0_4 a0_5).bind fun t226 => (if (t226 == x8_71) = true then ((cap_Root.f 16777216).bind fun bt227 => ((cap_Under.f a0_0 a0_1 a0_2 a0_3 a0_4 a0_5 bt227.1 bt227.2.1 bt227.2.2.1 bt227.2.2.2.1 bt227.2.2.2.2.1 bt227.2.2.2.2.2).bind fun t233 => (some t233))) else (some false))) else (if (false == x8_71) = true then ((cap_Root.f 16777216).bind fun bt234 => ((cap_Under.f a0_0 a0_1 a0_2 a0_3 a0_4 a0_5 bt234.1 bt234.2.1 bt234.2.2.1 bt234.2.2.2.1 bt234.2.2.2.2.1 bt234.2.2.2.2.2).bind fun t240 => (some t240))) else (some false)))) else (some false))) = some r := by rw [if_pos rfl] at H; exact H
          clear H
          have H := H1
          clear H1
          replace H := Option.bind_eq_some_iff.mp H
          obtain ⟨t224, A970, H⟩ := H
          replace H : (if t224 = true then ((cap_Under.f a0_0 a0_1 a0_2 a0_3 a0_4 a0_5 a1_0 a1_1 a1_2 a1_3 a1_4 a1_5).bind fun t225 => (if t225 = true then ((cap_Under.f a1_0 a1_1 a1_2 a1_3 a1_4 a1_5 a0_0 a0_1 a0_2 a0_3 a0_4 a0_5).bind fun t226 => (if (t226 == x8_71) = true then ((cap_Root.f 16777216).bind fun bt227 => ((cap_Under.f a0_0 a0_1 a0_2 a0_3 a0_4 a0_5 bt227.1 bt227.2.1 bt227.2.2.1 bt227.2.2.2.1 bt227.2.2.2.2.1 bt227.2.2.2.2.2).bind fun t233 => (some t233))) else (some false))) else (if (false == x8_71) = true then ((cap_Root.f 16777216).bind fun bt234 => ((cap_Under.f a0_0 a0_1 a0_2 a0_3 a0_4 a0_5 bt234.1 bt234.2.1 bt234.2.2.1 bt234.2.2.2.1 bt234.2.2.2.2.1 bt234.2.2.2.2.2).bind fun t240 => (some t240))) else (some false)))) else (some false)) = some r := H
          have A97 := Aside0.mk A970
          clear A970
          by_cases c98 : t224 = true
          ·subst c98
           have H1 : ((cap_Under.f a0_0 a0_1 a0_2 a0_3 a0_4 a0_5 a1_0 a1_1 a1_2 a1_3 a1_4 a1_5).bind fun t225 => (if t225 = true then ((cap_Under.f a1_0 a1_1 a1_2 a1_3 a1_4 a1_5 a0_0 a0_1 a0_2 a0_3 a0_4 a0_5).bind fun t226 => (if (t226 == x8_71) = true then ((cap_Root.f 16777216).bind fun bt227 => ((cap_Under.f a0_0 a0_1 a0_2 a0_3 a0_4 a0_5 bt227.1 bt227.2.1 bt227.2.2.1 bt227.2.2.2.1 bt227.2.2.2.2.1 bt227.2.2.2.2.2).bind fun t233 => (some t233))) else (some false))) else (if (false == x8_71) = true then ((cap_Root.f 16777216).bind fun bt234 => ((cap_Under.f a0_0 a0_1 a0_2 a0_3 a0_4 a0_5 bt234.1 bt234.2.1 bt234.2.2.1 bt234.2.2.2.1 bt234.2.2.2.2.1 bt234.2.2.2.2.2).bind fun t240 => (some t240))) else (some false)))) = some r := by rw [if_pos rfl] at H; exact H
           clear H
           have H := H1
           clear H1
           replace H := Option.bind_eq_some_iff.mp H
           obtain ⟨t225, A990, H⟩ := H
           replace H : (if t225 = true then ((cap_Under.f a1_0 a1_1 a1_2 a1_3 a1_4 a1_5 a0_0 a0_1 a0_2 a0_3 a0_4 a0_5).bind fun t226 => (if (t226 == x8_71) = true then ((cap_Root.f 16777216).bind fun bt227 => ((cap_Under.f a0_0 a0_1 a0_2 a0_3 a0_4 a0_5 bt227.1 bt227.2.1 bt227.2.2.1 bt227.2.2.2.1 bt227.2.2.2.2.1 bt227.2.2.2.2.2).bind fun t233 => (some t233))) else (some false))) else (if (false == x8_71) = true then ((cap_Root.f 16777216).bind fun bt234 => ((cap_Under.f a0_0 a0_1 a0_2 a0_3 a0_4 a0_5 bt234.1 bt234.2.1 bt234.2.2.1 bt234.2.2.2.1 bt234.2.2.2.2.1 bt234.2.2.2.2.2).bind fun t240 => (some t240))) else (some false))) = some r := H
           have A99 := Aside0.mk A990
           clear A990
           by_cases c100 : t225 = true
           ·subst c100
            have H1 : ((cap_Under.f a1_0 a1_1 a1_2 a1_3 a1_4 a1_5 a0_0 a0_1 a0_2 a0_3 a0_4 a0_5).bind fun t226 => (if (t226 == x8_71) = true then ((cap_Root.f 16777216).bind fun bt227 => ((cap_Under.f a0_0 a0_1 a0_2 a0_3 a0_4 a0_5 bt227.1 bt227.2.1 bt227.2.2.1 bt227.2.2.2.1 bt227.2.2.2.2.1 bt227.2.2.2.2.2).bind fun t233 => (some t233))) else (some false))) = some r := by rw [if_pos rfl] at H; exact H
            clear H
            have H := H1
            clear H1
            replace H := Option.bind_eq_some_iff.mp H
            obtain ⟨t226, A1010, H⟩ := H
            replace H : (if (t226 == x8_71) = true then ((cap_Root.f 16777216).bind fun bt227 => ((cap_Under.f a0_0 a0_1 a0_2 a0_3 a0_4 a0_5 bt227.1 bt227.2.1 bt227.2.2.1 bt227.2.2.2.1 bt227.2.2.2.2.1 bt227.2.2.2.2.2).bind fun t233 => (some t233))) else (some false)) = some r := H
            have A101 := Aside0.mk A1010
            clear A1010
            by_cases c102 : (t226 == x8_71) = true
            ·rw [if_pos c102] at H
             have c102b0 : (t226 == x8_71) = true := c102
             (try (have c102b1 : decide (t226 = x8_71) = true := by simpa using c102))
             (try (have c102b2 : (t226 == x8_71) = true := by simpa using c102))
             clear c102
             replace H := Option.bind_eq_some_iff.mp H
             obtain ⟨⟨t227, t228, t229, t230, t231, t232⟩, A1030, H⟩ := H
             replace H : ((cap_Under.f a0_0 a0_1 a0_2 a0_3 a0_4 a0_5 t227 t228 t229 t230 t231 t232).bind fun t233 => (some t233)) = some r := H
             have A103 := Aside0.mk A1030
             clear A1030
             replace H := Option.bind_eq_some_iff.mp H
             obtain ⟨t233, A1040, H⟩ := H
             replace H : (some t233) = some r := H
             have A104 := Aside0.mk A1040
             clear A1040
             clear hr_
             obtain rfl := Option.some.inj H
             try go_wp2
             have n0_ := Aside0.mk (blk_drew BK214.out)
             have n1_ := Aside0.mk (blk_drew BK215.out)
             have n2_ := Aside0.mk (blk_drew BK216.out)
             have n3_ := Aside0.mk (below_drew1 HB.out)
             clear BK214
             clear BK215
             clear BK216
             clear HB
             have BK214 := n0_
             have BK215 := n1_
             have BK216 := n2_
             have HB := n3_
             clear n0_ n1_ n2_ n3_
             refine start_ (n := 41) (S := fun w' => w'.cell? ⟨gb214, 0, none⟩ = some (.bool a0_0) ∧ w'.cell? ⟨gb214, 1, none⟩ = some (.int .i64 a0_1) ∧ w'.cell? ⟨gb214, 2, none⟩ = some (.int .i64 a0_2) ∧ w'.cell? ⟨gb214, 3, none⟩ = some (.int .i64 a0_3) ∧ w'.cell? ⟨gb214, 4, none⟩ = some (.int .i64 a0_4) ∧ w'.cell? ⟨gb214, 5, none⟩ = some (.int .i64 a0_5) ∧ w'.cell? ⟨gb215, 0, none⟩ = some (.bool a1_0) ∧ w'.cell? ⟨gb215, 1, none⟩ = some (.int .i64 a1_1) ∧ w'.cell? ⟨gb215, 2, none⟩ = some (.int .i64 a1_2) ∧ w'.cell? ⟨gb215, 3, none⟩ = some (.int .i64 a1_3) ∧ w'.cell? ⟨gb215, 4, none⟩ = some (.int .i64 a1_4) ∧ w'.cell? ⟨gb215, 5, none⟩ = some (.int .i64 a1_5) ∧ w'.cell? ⟨gb216, 0, none⟩ = some (.bool a2_0) ∧ w'.cell? ⟨gb216, 1, none⟩ = some (.int .i64 a2_1) ∧ w'.cell? ⟨gb216, 2, none⟩ = some (.int .i64 a2_2) ∧ w'.cell? ⟨gb216, 3, none⟩ = some (.int .i64 a2_3) ∧ w'.cell? ⟨gb216, 4, none⟩ = some (.int .i64 a2_4) ∧ w'.cell? ⟨gb216, 5, none⟩ = some (.int .i64 a2_5)) (ds := []) m0_ (by kernel_rfl) rfl rfl ⟨q7_ BK214 0 rfl, q7_ BK214 1 rfl, q7_ BK214 2 rfl, q7_ BK214 3 rfl, q7_ BK214 4 rfl, q7_ BK214 5 rfl, q7_ BK215 0 rfl, q7_ BK215 1 rfl, q7_ BK215 2 rfl, q7_ BK215 3 rfl, q7_ BK215 4 rfl, q7_ BK215 5 rfl, q7_ BK216 0 rfl, q7_ BK216 1 rfl, q7_ BK216 2 rfl, q7_ BK216 3 rfl, q7_ BK216 4 rfl, q7_ BK216 5 rfl⟩ (fun hHeld => ?_); refine with_tabW seizinlaw02_CapOrder.tab5 seizinlaw02_CapOrder.bits5 (fun HT_ HW_ => ?_)
             generalize wc.drew = w105 at BK214 BK215 BK216 HB hHeld ⊢
             refine pure_ (i := 0) (N := some 58) (v := ?_) (a' := ?_) m1_ rfl rfl (any_of HT_.out (by kernel_rfl)) (fun _ _ _ h => h) (Or.inl ⟨by rfl, ?_⟩) ?_ ?_
             rotate_left
             ·intro w'
              go_simp
              with_reducible rfl
             rotate_left
             ·simp only [Act.put, q4_, q5_, q6_, i64_w, i32_w]
              rfl
             refine pure_ (i := 1) (N := some 59) (v := ?_) (a' := ?_) m2_ rfl rfl (any_of HT_.out (by kernel_rfl)) (fun _ _ _ h => h) (Or.inl ⟨by rfl, ?_⟩) ?_ ?_
             rotate_left
             ·intro w'
              go_simp
              with_reducible rfl
             rotate_left
             ·simp only [Act.put, q4_, q5_, q6_, i64_w, i32_w]
              rfl
             refine take_ (i := 2) (N := some 60) (v := ?_) (a' := ?_) m3_ rfl rfl (take_ofW HT_.out HW_.out (by kernel_rfl)) (fun _ _ _ h => h) (Or.inl ⟨by rfl, ?_⟩) hHeld ?_ ?_
             rotate_left
             ·rintro w' ⟨s0, s1, s2, s3, s4, s5, s6, s7, s8, s9, s10, s11, s12, s13, s14, s15, s16, s17⟩
              go_simp
              with_reducible rfl
             rotate_left
             ·simp only [Act.put, q4_, q5_, q6_, i64_w, i32_w]
              rfl
             refine take_ (i := 3) (N := some 61) (v := ?_) (a' := ?_) m4_ rfl rfl (take_ofW HT_.out HW_.out (by kernel_rfl)) (fun _ _ _ h => h) (Or.inl ⟨by rfl, ?_⟩) hHeld ?_ ?_
             rotate_left
             ·rintro w' ⟨s0, s1, s2, s3, s4, s5, s6, s7, s8, s9, s10, s11, s12, s13, s14, s15, s16, s17⟩
              go_simp
              with_reducible rfl
             rotate_left
             ·simp only [Act.put, q4_, q5_, q6_, i64_w, i32_w]
              rfl
             refine one_ (i := 4) (N := some 62) m5_ rfl rfl (one_of HT_.out (by kernel_rfl)) (by decide) (fun K hK => ?_)
             refine goes_ Try.func41 (by kernel_rfl) rfl #[.agg #[.bool a0_0, .int .i64 a0_1, .int .i64 a0_2, .int .i64 a0_3, .int .i64 a0_4, .int .i64 a0_5], .agg #[.bool a0_0, .int .i64 a0_1, .int .i64 a0_2, .int .i64 a0_3, .int .i64 a0_4, .int .i64 a0_5]] (by rfl) rfl rfl (by (try simp only [List.map_toArray, List.map_cons, List.map_nil]); first | done | rfl | (simp only [List.length_drop, List.length_take]; rfl)) ?_
             with_reducible refine (cap_Under.calls a0_0 a0_1 a0_2 a0_3 a0_4 a0_5 a0_0 a0_1 a0_2 a0_3 a0_4 a0_5 true _ A91.out).mono ?_
             rintro e w106 ⟨rfl, hb⟩
             refine ⟨_, rfl, ?_⟩
             have n0_ := q1_ BK214 hb
             have n1_ := q1_ BK215 hb
             have n2_ := q1_ BK216 hb
             have n3_ := q2_ HB hb
             clear BK214
             clear BK215
             clear BK216
             clear HB
             have BK214 := n0_
             have BK215 := n1_
             have BK216 := n2_
             have HB := n3_
             clear n0_ n1_ n2_ n3_
             (try clear hb)
             (try clear hb2)
             (try clear hk)
             (try clear hi)
             refine hK.out _ _ ⟨q7_ BK214 0 rfl, q7_ BK214 1 rfl, q7_ BK214 2 rfl, q7_ BK214 3 rfl, q7_ BK214 4 rfl, q7_ BK214 5 rfl, q7_ BK215 0 rfl, q7_ BK215 1 rfl, q7_ BK215 2 rfl, q7_ BK215 3 rfl, q7_ BK215 4 rfl, q7_ BK215 5 rfl, q7_ BK216 0 rfl, q7_ BK216 1 rfl, q7_ BK216 2 rfl, q7_ BK216 3 rfl, q7_ BK216 4 rfl, q7_ BK216 5 rfl⟩ (fun hHeld => ?_)
             clear hK K
             refine norm_ (a' := ?_) ?_ ?_
             rotate_left
             ·show Act.put _ (some 62) _ = _
              simp only [Act.put, q4_, q5_, q6_, i64_w, i32_w]
              rfl
             refine pure_ (i := 5) (N := some 63) (v := ?_) (a' := ?_) m6_ rfl rfl (any_of HT_.out (by kernel_rfl)) (fun _ _ _ h => h) (Or.inl ⟨by rfl, ?_⟩) ?_ ?_
             rotate_left
             ·intro w'
              go_simp
              with_reducible rfl
             rotate_left
             ·simp only [Act.put, q4_, q5_, q6_, i64_w, i32_w]
              rfl
             refine pure_ (i := 6) (N := some 64) (v := ?_) (a' := ?_) m7_ rfl rfl (any_of HT_.out (by kernel_rfl)) (fun _ _ _ h => h) (Or.inl ⟨by rfl, ?_⟩) ?_ ?_
             rotate_left
             ·intro w'
              go_simp
              with_reducible rfl
             rotate_left
             ·simp only [Act.put, q4_, q5_, q6_, i64_w, i32_w]
              rfl
             refine take_ (i := 7) (N := some 65) (v := ?_) (a' := ?_) m8_ rfl rfl (take_ofW HT_.out HW_.out (by kernel_rfl)) (fun _ _ _ h => h) (Or.inl ⟨by rfl, ?_⟩) hHeld ?_ ?_
             rotate_left
             ·rintro w' ⟨s0, s1, s2, s3, s4, s5, s6, s7, s8, s9, s10, s11, s12, s13, s14, s15, s16, s17⟩
              go_simp
              with_reducible rfl
             rotate_left
             ·simp only [Act.put, q4_, q5_, q6_, i64_w, i32_w]
              rfl
             refine take_ (i := 8) (N := some 66) (v := ?_) (a' := ?_) m9_ rfl rfl (take_ofW HT_.out HW_.out (by kernel_rfl)) (fun _ _ _ h => h) (Or.inl ⟨by rfl, ?_⟩) hHeld ?_ ?_
             rotate_left
             ·rintro w' ⟨s0, s1, s2, s3, s4, s5, s6, s7, s8, s9, s10, s11, s12, s13, s14, s15, s16, s17⟩
              go_simp
              with_reducible rfl
             rotate_left
             ·simp only [Act.put, q4_, q5_, q6_, i64_w, i32_w]
              rfl
             refine one_ (i := 9) (N := some 67) m10_ rfl rfl (one_of HT_.out (by kernel_rfl)) (by decide) (fun K hK => ?_)
             refine goes_ Try.func41 (by kernel_rfl) rfl #[.agg #[.bool a0_0, .int .i64 a0_1, .int .i64 a0_2, .int .i64 a0_3, .int .i64 a0_4, .int .i64 a0_5], .agg #[.bool a1_0, .int .i64 a1_1, .int .i64 a1_2, .int .i64 a1_3, .int .i64 a1_4, .int .i64 a1_5]] (by rfl) rfl rfl (by (try simp only [List.map_toArray, List.map_cons, List.map_nil]); first | done | rfl | (simp only [List.length_drop, List.length_take]; rfl)) ?_
             with_reducible refine (cap_Under.calls a0_0 a0_1 a0_2 a0_3 a0_4 a0_5 a1_0 a1_1 a1_2 a1_3 a1_4 a1_5 true _ A93.out).mono ?_
             rintro e w107 ⟨rfl, hb⟩
             refine ⟨_, rfl, ?_⟩
             have n0_ := q1_ BK214 hb
             have n1_ := q1_ BK215 hb
             have n2_ := q1_ BK216 hb
             have n3_ := q2_ HB hb
             clear BK214
             clear BK215
             clear BK216
             clear HB
             have BK214 := n0_
             have BK215 := n1_
             have BK216 := n2_
             have HB := n3_
             clear n0_ n1_ n2_ n3_
             (try clear hb)
             (try clear hb2)
             (try clear hk)
             (try clear hi)
             refine hK.out _ _ ⟨q7_ BK214 0 rfl, q7_ BK214 1 rfl, q7_ BK214 2 rfl, q7_ BK214 3 rfl, q7_ BK214 4 rfl, q7_ BK214 5 rfl, q7_ BK215 0 rfl, q7_ BK215 1 rfl, q7_ BK215 2 rfl, q7_ BK215 3 rfl, q7_ BK215 4 rfl, q7_ BK215 5 rfl, q7_ BK216 0 rfl, q7_ BK216 1 rfl, q7_ BK216 2 rfl, q7_ BK216 3 rfl, q7_ BK216 4 rfl, q7_ BK216 5 rfl⟩ (fun hHeld => ?_)
             clear hK K
             refine norm_ (a' := ?_) ?_ ?_
             rotate_left
             ·show Act.put _ (some 67) _ = _
              simp only [Act.put, q4_, q5_, q6_, i64_w, i32_w]
              rfl
             refine pure_ (i := 10) (N := some 68) (v := ?_) (a' := ?_) m11_ rfl rfl (any_of HT_.out (by kernel_rfl)) (fun _ _ _ h => h) (Or.inl ⟨by rfl, ?_⟩) ?_ ?_
             rotate_left
             ·intro w'
              go_simp
              with_reducible rfl
             rotate_left
             ·simp only [Act.put, q4_, q5_, q6_, i64_w, i32_w]
              rfl
             refine pure_ (i := 11) (N := some 69) (v := ?_) (a' := ?_) m12_ rfl rfl (any_of HT_.out (by kernel_rfl)) (fun _ _ _ h => h) (Or.inl ⟨by rfl, ?_⟩) ?_ ?_
             rotate_left
             ·intro w'
              go_simp
              with_reducible rfl
             rotate_left
             ·simp only [Act.put, q4_, q5_, q6_, i64_w, i32_w]
              rfl
             refine take_ (i := 12) (N := some 70) (v := ?_) (a' := ?_) m13_ rfl rfl (take_ofW HT_.out HW_.out (by kernel_rfl)) (fun _ _ _ h => h) (Or.inl ⟨by rfl, ?_⟩) hHeld ?_ ?_
             rotate_left
             ·rintro w' ⟨s0, s1, s2, s3, s4, s5, s6, s7, s8, s9, s10, s11, s12, s13, s14, s15, s16, s17⟩
              go_simp
              with_reducible rfl
             rotate_left
             ·simp only [Act.put, q4_, q5_, q6_, i64_w, i32_w]
              rfl
             refine take_ (i := 13) (N := some 71) (v := ?_) (a' := ?_) m14_ rfl rfl (take_ofW HT_.out HW_.out (by kernel_rfl)) (fun _ _ _ h => h) (Or.inl ⟨by rfl, ?_⟩) hHeld ?_ ?_
             rotate_left
             ·rintro w' ⟨s0, s1, s2, s3, s4, s5, s6, s7, s8, s9, s10, s11, s12, s13, s14, s15, s16, s17⟩
              go_simp
              with_reducible rfl
             rotate_left
             ·simp only [Act.put, q4_, q5_, q6_, i64_w, i32_w]
              rfl
             refine one_ (i := 14) (N := some 72) m15_ rfl rfl (one_of HT_.out (by kernel_rfl)) (by decide) (fun K hK => ?_)
             refine goes_ Try.func41 (by kernel_rfl) rfl #[.agg #[.bool a1_0, .int .i64 a1_1, .int .i64 a1_2, .int .i64 a1_3, .int .i64 a1_4, .int .i64 a1_5], .agg #[.bool a2_0, .int .i64 a2_1, .int .i64 a2_2, .int .i64 a2_3, .int .i64 a2_4, .int .i64 a2_5]] (by rfl) rfl rfl (by (try simp only [List.map_toArray, List.map_cons, List.map_nil]); first | done | rfl | (simp only [List.length_drop, List.length_take]; rfl)) ?_
             with_reducible refine (cap_Under.calls a1_0 a1_1 a1_2 a1_3 a1_4 a1_5 a2_0 a2_1 a2_2 a2_3 a2_4 a2_5 true _ A95.out).mono ?_
             rintro e w108 ⟨rfl, hb⟩
             refine ⟨_, rfl, ?_⟩
             have n0_ := q1_ BK214 hb
             have n1_ := q1_ BK215 hb
             have n2_ := q1_ BK216 hb
             have n3_ := q2_ HB hb
             clear BK214
             clear BK215
             clear BK216
             clear HB
             have BK214 := n0_
             have BK215 := n1_
             have BK216 := n2_
             have HB := n3_
             clear n0_ n1_ n2_ n3_
             (try clear hb)
             (try clear hb2)
             (try clear hk)
             (try clear hi)
             refine hK.out _ _ ⟨q7_ BK214 0 rfl, q7_ BK214 1 rfl, q7_ BK214 2 rfl, q7_ BK214 3 rfl, q7_ BK214 4 rfl, q7_ BK214 5 rfl, q7_ BK215 0 rfl, q7_ BK215 1 rfl, q7_ BK215 2 rfl, q7_ BK215 3 rfl, q7_ BK215 4 rfl, q7_ BK215 5 rfl, q7_ BK216 0 rfl, q7_ BK216 1 rfl, q7_ BK216 2 rfl, q7_ BK216 3 rfl, q7_ BK216 4 rfl, q7_ BK216 5 rfl⟩ (fun hHeld => ?_)
             clear hK K
             refine norm_ (a' := ?_) ?_ ?_
             rotate_left
             ·show Act.put _ (some 72) _ = _
              simp only [Act.put, q4_, q5_, q6_, i64_w, i32_w]
              rfl
             refine pure_ (i := 15) (N := some 73) (v := ?_) (a' := ?_) m16_ rfl rfl (any_of HT_.out (by kernel_rfl)) (fun _ _ _ h => h) (Or.inl ⟨by rfl, ?_⟩) ?_ ?_
             rotate_left
             ·intro w'
              go_simp
              with_reducible rfl
             rotate_left
             ·simp only [Act.put, q4_, q5_, q6_, i64_w, i32_w]
              rfl
             refine pure_ (i := 16) (N := some 74) (v := ?_) (a' := ?_) m17_ rfl rfl (any_of HT_.out (by kernel_rfl)) (fun _ _ _ h => h) (Or.inl ⟨by rfl, ?_⟩) ?_ ?_
             rotate_left
             ·intro w'
              go_simp
              with_reducible rfl
             rotate_left
             ·simp only [Act.put, q4_, q5_, q6_, i64_w, i32_w]
              rfl
             refine pure_ (i := 17) (N := some 75) (v := ?_) (a' := ?_) m18_ rfl rfl (any_of HT_.out (by kernel_rfl)) (fun _ _ _ h => h) (Or.inl ⟨by rfl, ?_⟩) ?_ ?_
             rotate_left
             ·intro w'
              go_simp
              with_reducible rfl
             rotate_left
             ·simp only [Act.put, q4_, q5_, q6_, i64_w, i32_w]
              rfl
             refine take_ (i := 18) (N := some 76) (v := ?_) (a' := ?_) m19_ rfl rfl (take_ofW HT_.out HW_.out (by kernel_rfl)) (fun _ _ _ h => h) (Or.inl ⟨by rfl, ?_⟩) hHeld ?_ ?_
             rotate_left
             ·rintro w' ⟨s0, s1, s2, s3, s4, s5, s6, s7, s8, s9, s10, s11, s12, s13, s14, s15, s16, s17⟩
              go_simp
              with_reducible rfl
             rotate_left
             ·simp only [Act.put, q4_, q5_, q6_, i64_w, i32_w]
              rfl
             refine take_ (i := 19) (N := some 77) (v := ?_) (a' := ?_) m20_ rfl rfl (take_ofW HT_.out HW_.out (by kernel_rfl)) (fun _ _ _ h => h) (Or.inl ⟨by rfl, ?_⟩) hHeld ?_ ?_
             rotate_left
             ·rintro w' ⟨s0, s1, s2, s3, s4, s5, s6, s7, s8, s9, s10, s11, s12, s13, s14, s15, s16, s17⟩
              go_simp
              with_reducible rfl
             rotate_left
             ·simp only [Act.put, q4_, q5_, q6_, i64_w, i32_w]
              rfl
             refine one_ (i := 20) (N := some 78) m21_ rfl rfl (one_of HT_.out (by kernel_rfl)) (by decide) (fun K hK => ?_)
             refine goes_ Try.func41 (by kernel_rfl) rfl #[.agg #[.bool a0_0, .int .i64 a0_1, .int .i64 a0_2, .int .i64 a0_3, .int .i64 a0_4, .int .i64 a0_5], .agg #[.bool a2_0, .int .i64 a2_1, .int .i64 a2_2, .int .i64 a2_3, .int .i64 a2_4, .int .i64 a2_5]] (by rfl) rfl rfl (by (try simp only [List.map_toArray, List.map_cons, List.map_nil]); first | done | rfl | (simp only [List.length_drop, List.length_take]; rfl)) ?_
             with_reducible refine (cap_Under.calls a0_0 a0_1 a0_2 a0_3 a0_4 a0_5 a2_0 a2_1 a2_2 a2_3 a2_4 a2_5 true _ A97.out).mono ?_
             rintro e w109 ⟨rfl, hb⟩
             refine ⟨_, rfl, ?_⟩
             have n0_ := q1_ BK214 hb
             have n1_ := q1_ BK215 hb
             have n2_ := q1_ BK216 hb
             have n3_ := q2_ HB hb
             clear BK214
             clear BK215
             clear BK216
             clear HB
             have BK214 := n0_
             have BK215 := n1_
             have BK216 := n2_
             have HB := n3_
             clear n0_ n1_ n2_ n3_
             (try clear hb)
             (try clear hb2)
             (try clear hk)
             (try clear hi)
             refine hK.out _ _ ⟨q7_ BK214 0 rfl, q7_ BK214 1 rfl, q7_ BK214 2 rfl, q7_ BK214 3 rfl, q7_ BK214 4 rfl, q7_ BK214 5 rfl, q7_ BK215 0 rfl, q7_ BK215 1 rfl, q7_ BK215 2 rfl, q7_ BK215 3 rfl, q7_ BK215 4 rfl, q7_ BK215 5 rfl, q7_ BK216 0 rfl, q7_ BK216 1 rfl, q7_ BK216 2 rfl, q7_ BK216 3 rfl, q7_ BK216 4 rfl, q7_ BK216 5 rfl⟩ (fun hHeld => ?_)
             clear hK K
             refine norm_ (a' := ?_) ?_ ?_
             rotate_left
             ·show Act.put _ (some 78) _ = _
              simp only [Act.put, q4_, q5_, q6_, i64_w, i32_w]
              rfl
             refine pure_ (i := 21) (N := some 79) (v := ?_) (a' := ?_) m22_ rfl rfl (any_of HT_.out (by kernel_rfl)) (fun _ _ _ h => h) (Or.inl ⟨by rfl, ?_⟩) ?_ ?_
             rotate_left
             ·intro w'
              go_simp
              with_reducible rfl
             rotate_left
             ·simp only [Act.put, q4_, q5_, q6_, i64_w, i32_w]
              rfl
             refine pure_ (i := 22) (N := some 80) (v := ?_) (a' := ?_) m23_ rfl rfl (any_of HT_.out (by kernel_rfl)) (fun _ _ _ h => h) (Or.inl ⟨by rfl, ?_⟩) ?_ ?_
             rotate_left
             ·intro w'
              go_simp
              with_reducible rfl
             rotate_left
             ·simp only [Act.put, q4_, q5_, q6_, i64_w, i32_w]
              rfl
             refine pure_ (i := 23) (N := some 81) (v := ?_) (a' := ?_) m24_ rfl rfl (any_of HT_.out (by kernel_rfl)) (fun _ _ _ h => h) (Or.inl ⟨by rfl, ?_⟩) ?_ ?_
             rotate_left
             ·intro w'
              go_simp
              with_reducible rfl
             rotate_left
             ·simp only [Act.put, q4_, q5_, q6_, i64_w, i32_w]
              rfl
             refine pure_ (i := 32) (N := some 90) (v := ?_) (a' := ?_) m25_ rfl rfl (any_of HT_.out (by kernel_rfl)) (fun _ _ _ h => h) (Or.inl ⟨by rfl, ?_⟩) ?_ ?_
             rotate_left
             ·intro w'
              go_simp
              with_reducible rfl
             rotate_left
             ·simp only [Act.put, q4_, q5_, q6_, i64_w, i32_w]
              rfl
             refine take_ (i := 24) (N := some 82) (v := ?_) (a' := ?_) m26_ rfl rfl (take_ofW HT_.out HW_.out (by kernel_rfl)) (fun _ _ _ h => h) (Or.inl ⟨by rfl, ?_⟩) hHeld ?_ ?_
             rotate_left
             ·rintro w' ⟨s0, s1, s2, s3, s4, s5, s6, s7, s8, s9, s10, s11, s12, s13, s14, s15, s16, s17⟩
              go_simp
              with_reducible rfl
             rotate_left
             ·simp only [Act.put, q4_, q5_, q6_, i64_w, i32_w]
              rfl
             refine take_ (i := 25) (N := some 83) (v := ?_) (a' := ?_) m27_ rfl rfl (take_ofW HT_.out HW_.out (by kernel_rfl)) (fun _ _ _ h => h) (Or.inl ⟨by rfl, ?_⟩) hHeld ?_ ?_
             rotate_left
             ·rintro w' ⟨s0, s1, s2, s3, s4, s5, s6, s7, s8, s9, s10, s11, s12, s13, s14, s15, s16, s17⟩
              go_simp
              with_reducible rfl
             rotate_left
             ·simp only [Act.put, q4_, q5_, q6_, i64_w, i32_w]
              rfl
             refine one_ (i := 26) (N := some 84) m28_ rfl rfl (one_of HT_.out (by kernel_rfl)) (by decide) (fun K hK => ?_)
             refine goes_ Try.func41 (by kernel_rfl) rfl #[.agg #[.bool a0_0, .int .i64 a0_1, .int .i64 a0_2, .int .i64 a0_3, .int .i64 a0_4, .int .i64 a0_5], .agg #[.bool a1_0, .int .i64 a1_1, .int .i64 a1_2, .int .i64 a1_3, .int .i64 a1_4, .int .i64 a1_5]] (by rfl) rfl rfl (by (try simp only [List.map_toArray, List.map_cons, List.map_nil]); first | done | rfl | (simp only [List.length_drop, List.length_take]; rfl)) ?_
             with_reducible refine (cap_Under.calls a0_0 a0_1 a0_2 a0_3 a0_4 a0_5 a1_0 a1_1 a1_2 a1_3 a1_4 a1_5 true _ A99.out).mono ?_
             rintro e w110 ⟨rfl, hb⟩
             refine ⟨_, rfl, ?_⟩
             have n0_ := q1_ BK214 hb
             have n1_ := q1_ BK215 hb
             have n2_ := q1_ BK216 hb
             have n3_ := q2_ HB hb
             clear BK214
             clear BK215
             clear BK216
             clear HB
             have BK214 := n0_
             have BK215 := n1_
             have BK216 := n2_
             have HB := n3_
             clear n0_ n1_ n2_ n3_
             (try clear hb)
             (try clear hb2)
             (try clear hk)
             (try clear hi)
             refine hK.out _ _ ⟨q7_ BK214 0 rfl, q7_ BK214 1 rfl, q7_ BK214 2 rfl, q7_ BK214 3 rfl, q7_ BK214 4 rfl, q7_ BK214 5 rfl, q7_ BK215 0 rfl, q7_ BK215 1 rfl, q7_ BK215 2 rfl, q7_ BK215 3 rfl, q7_ BK215 4 rfl, q7_ BK215 5 rfl, q7_ BK216 0 rfl, q7_ BK216 1 rfl, q7_ BK216 2 rfl, q7_ BK216 3 rfl, q7_ BK216 4 rfl, q7_ BK216 5 rfl⟩ (fun hHeld => ?_)
             clear hK K
             refine norm_ (a' := ?_) ?_ ?_
             rotate_left
             ·show Act.put _ (some 84) _ = _
              simp only [Act.put, q4_, q5_, q6_, i64_w, i32_w]
              rfl
             refine pure_ (i := 27) (N := some 85) (v := ?_) (a' := ?_) m29_ rfl rfl (any_of HT_.out (by kernel_rfl)) (fun _ _ _ h => h) (Or.inl ⟨by rfl, ?_⟩) ?_ ?_
             rotate_left
             ·intro w'
              go_simp
              with_reducible rfl
             rotate_left
             ·simp only [Act.put, q4_, q5_, q6_, i64_w, i32_w]
              rfl
             refine take_ (i := 28) (N := some 86) (v := ?_) (a' := ?_) m30_ rfl rfl (take_ofW HT_.out HW_.out (by kernel_rfl)) (fun _ _ _ h => h) (Or.inl ⟨by rfl, ?_⟩) hHeld ?_ ?_
             rotate_left
             ·rintro w' ⟨s0, s1, s2, s3, s4, s5, s6, s7, s8, s9, s10, s11, s12, s13, s14, s15, s16, s17⟩
              go_simp
              with_reducible rfl
             rotate_left
             ·simp only [Act.put, q4_, q5_, q6_, i64_w, i32_w]
              rfl
             refine take_ (i := 29) (N := some 87) (v := ?_) (a' := ?_) m31_ rfl rfl (take_ofW HT_.out HW_.out (by kernel_rfl)) (fun _ _ _ h => h) (Or.inl ⟨by rfl, ?_⟩) hHeld ?_ ?_
             rotate_left
             ·rintro w' ⟨s0, s1, s2, s3, s4, s5, s6, s7, s8, s9, s10, s11, s12, s13, s14, s15, s16, s17⟩
              go_simp
              with_reducible rfl
             rotate_left
             ·simp only [Act.put, q4_, q5_, q6_, i64_w, i32_w]
              rfl
             refine one_ (i := 30) (N := some 88) m32_ rfl rfl (one_of HT_.out (by kernel_rfl)) (by decide) (fun K hK => ?_)
             refine goes_ Try.func41 (by kernel_rfl) rfl #[.agg #[.bool a1_0, .int .i64 a1_1, .int .i64 a1_2, .int .i64 a1_3, .int .i64 a1_4, .int .i64 a1_5], .agg #[.bool a0_0, .int .i64 a0_1, .int .i64 a0_2, .int .i64 a0_3, .int .i64 a0_4, .int .i64 a0_5]] (by rfl) rfl rfl (by (try simp only [List.map_toArray, List.map_cons, List.map_nil]); first | done | rfl | (simp only [List.length_drop, List.length_take]; rfl)) ?_
             with_reducible refine (cap_Under.calls a1_0 a1_1 a1_2 a1_3 a1_4 a1_5 a0_0 a0_1 a0_2 a0_3 a0_4 a0_5 t226 _ A101.out).mono ?_
             rintro e w111 ⟨rfl, hb⟩
             refine ⟨_, rfl, ?_⟩
             have n0_ := q1_ BK214 hb
             have n1_ := q1_ BK215 hb
             have n2_ := q1_ BK216 hb
             have n3_ := q2_ HB hb
             clear BK214
             clear BK215
             clear BK216
             clear HB
             have BK214 := n0_
             have BK215 := n1_
             have BK216 := n2_
             have HB := n3_
             clear n0_ n1_ n2_ n3_
             (try clear hb)
             (try clear hb2)
             (try clear hk)
             (try clear hi)
             refine hK.out _ _ ⟨q7_ BK214 0 rfl, q7_ BK214 1 rfl, q7_ BK214 2 rfl, q7_ BK214 3 rfl, q7_ BK214 4 rfl, q7_ BK214 5 rfl, q7_ BK215 0 rfl, q7_ BK215 1 rfl, q7_ BK215 2 rfl, q7_ BK215 3 rfl, q7_ BK215 4 rfl, q7_ BK215 5 rfl, q7_ BK216 0 rfl, q7_ BK216 1 rfl, q7_ BK216 2 rfl, q7_ BK216 3 rfl, q7_ BK216 4 rfl, q7_ BK216 5 rfl⟩ (fun hHeld => ?_)
             clear hK K
             refine norm_ (a' := ?_) ?_ ?_
             rotate_left
             ·show Act.put _ (some 88) _ = _
              simp only [Act.put, q4_, q5_, q6_, i64_w, i32_w]
              rfl
             refine pure_ (i := 31) (N := some 89) (v := ?_) (a' := ?_) m33_ rfl rfl (any_of HT_.out (by kernel_rfl)) (fun _ _ _ h => h) (Or.inl ⟨by rfl, ?_⟩) ?_ ?_
             rotate_left
             ·intro w'
              go_simp
              with_reducible rfl
             rotate_left
             ·simp only [Act.put, q4_, q5_, q6_, i64_w, i32_w]
              rfl
             refine pure_ (i := 33) (N := some 91) (v := ?_) (a' := ?_) m34_ rfl rfl (any_of HT_.out (by kernel_rfl)) (fun _ _ _ h => h) (Or.inl ⟨by rfl, ?_⟩) ?_ ?_
             rotate_left
             ·intro w'
              go_simp
              with_reducible rfl
             rotate_left
             ·simp only [Act.put, q4_, q5_, q6_, i64_w, i32_w]
              rfl
             refine pure_ (i := 34) (N := some 92) (v := ?_) (a' := ?_) m35_ rfl rfl (any_of HT_.out (by kernel_rfl)) (fun _ _ _ h => h) (Or.inl ⟨by rfl, ?_⟩) ?_ ?_
             rotate_left
             ·intro w'
              go_simp
              with_reducible rfl
             rotate_left
             ·simp only [Act.put, q4_, q5_, q6_, i64_w, i32_w]
              rfl
             refine pure_ (i := 35) (N := some 93) (v := ?_) (a' := ?_) m36_ rfl rfl (any_of HT_.out (by kernel_rfl)) (fun _ _ _ h => h) (Or.inl ⟨by rfl, ?_⟩) ?_ ?_
             rotate_left
             ·intro w'
              go_simp
              with_reducible rfl
             rotate_left
             ·simp only [Act.put, q4_, q5_, q6_, i64_w, i32_w]
              rfl
             refine take_ (i := 36) (N := some 94) (v := ?_) (a' := ?_) m37_ rfl rfl (take_ofW HT_.out HW_.out (by kernel_rfl)) (fun _ _ _ h => h) (Or.inl ⟨by rfl, ?_⟩) hHeld ?_ ?_
             rotate_left
             ·rintro w' ⟨s0, s1, s2, s3, s4, s5, s6, s7, s8, s9, s10, s11, s12, s13, s14, s15, s16, s17⟩
              go_simp
              with_reducible rfl
             rotate_left
             ·simp only [Act.put, q4_, q5_, q6_, i64_w, i32_w]
              rfl
             refine one_ (i := 37) (N := some 95) m38_ rfl rfl (one_of HT_.out (by kernel_rfl)) (by decide) (fun K hK => ?_)
             refine goes_ Try.func45 (by kernel_rfl) rfl #[.int .i64 16777216] (by rfl) rfl rfl (by (try simp only [List.map_toArray, List.map_cons, List.map_nil]); first | done | rfl | (simp only [List.length_drop, List.length_take]; rfl)) ?_
             with_reducible refine (cap_Root.calls 16777216 t227 t228 t229 t230 t231 t232 _ A103.out).mono ?_
             rintro e w112 ⟨rfl, hb⟩
             refine ⟨_, rfl, ?_⟩
             have n0_ := q1_ BK214 hb
             have n1_ := q1_ BK215 hb
             have n2_ := q1_ BK216 hb
             have n3_ := q2_ HB hb
             clear BK214
             clear BK215
             clear BK216
             clear HB
             have BK214 := n0_
             have BK215 := n1_
             have BK216 := n2_
             have HB := n3_
             clear n0_ n1_ n2_ n3_
             (try clear hb)
             (try clear hb2)
             (try clear hk)
             (try clear hi)
             refine hK.out _ _ ⟨q7_ BK214 0 rfl, q7_ BK214 1 rfl, q7_ BK214 2 rfl, q7_ BK214 3 rfl, q7_ BK214 4 rfl, q7_ BK214 5 rfl, q7_ BK215 0 rfl, q7_ BK215 1 rfl, q7_ BK215 2 rfl, q7_ BK215 3 rfl, q7_ BK215 4 rfl, q7_ BK215 5 rfl, q7_ BK216 0 rfl, q7_ BK216 1 rfl, q7_ BK216 2 rfl, q7_ BK216 3 rfl, q7_ BK216 4 rfl, q7_ BK216 5 rfl⟩ (fun hHeld => ?_)
             clear hK K
             refine norm_ (a' := ?_) ?_ ?_
             rotate_left
             ·show Act.put _ (some 95) _ = _
              simp only [Act.put, q4_, q5_, q6_, i64_w, i32_w]
              rfl
             refine one_ (i := 38) (N := some 96) m39_ rfl rfl (one_of HT_.out (by kernel_rfl)) (by decide) (fun K hK => ?_)
             refine goes_ Try.func41 (by kernel_rfl) rfl #[.agg #[.bool a0_0, .int .i64 a0_1, .int .i64 a0_2, .int .i64 a0_3, .int .i64 a0_4, .int .i64 a0_5], .agg #[.bool t227, .int .i64 t228, .int .i64 t229, .int .i64 t230, .int .i64 t231, .int .i64 t232]] (by rfl) rfl rfl (by (try simp only [List.map_toArray, List.map_cons, List.map_nil]); first | done | rfl | (simp only [List.length_drop, List.length_take]; rfl)) ?_
             with_reducible refine (cap_Under.calls a0_0 a0_1 a0_2 a0_3 a0_4 a0_5 t227 t228 t229 t230 t231 t232 t233 _ A104.out).mono ?_
             rintro e w113 ⟨rfl, hb⟩
             refine ⟨_, rfl, ?_⟩
             have n0_ := q1_ BK214 hb
             have n1_ := q1_ BK215 hb
             have n2_ := q1_ BK216 hb
             have n3_ := q2_ HB hb
             clear BK214
             clear BK215
             clear BK216
             clear HB
             have BK214 := n0_
             have BK215 := n1_
             have BK216 := n2_
             have HB := n3_
             clear n0_ n1_ n2_ n3_
             (try clear hb)
             (try clear hb2)
             (try clear hk)
             (try clear hi)
             refine hK.out _ _ ⟨q7_ BK214 0 rfl, q7_ BK214 1 rfl, q7_ BK214 2 rfl, q7_ BK214 3 rfl, q7_ BK214 4 rfl, q7_ BK214 5 rfl, q7_ BK215 0 rfl, q7_ BK215 1 rfl, q7_ BK215 2 rfl, q7_ BK215 3 rfl, q7_ BK215 4 rfl, q7_ BK215 5 rfl, q7_ BK216 0 rfl, q7_ BK216 1 rfl, q7_ BK216 2 rfl, q7_ BK216 3 rfl, q7_ BK216 4 rfl, q7_ BK216 5 rfl⟩ (fun hHeld => ?_)
             clear hK K
             refine norm_ (a' := ?_) ?_ ?_
             rotate_left
             ·show Act.put _ (some 96) _ = _
              simp only [Act.put, q4_, q5_, q6_, i64_w, i32_w]
              rfl
             refine pure_ (i := 39) (N := some 97) (v := ?_) (a' := ?_) m40_ rfl rfl (any_of HT_.out (by kernel_rfl)) (fun _ _ _ h => h) (Or.inl ⟨by rfl, ?_⟩) ?_ ?_
             rotate_left
             ·intro w'
              go_simp
              with_reducible rfl
             rotate_left
             ·simp only [Act.put, q4_, q5_, q6_, i64_w, i32_w]
              rfl
             refine pure_ (i := 40) (N := some 6) (v := ?_) (a' := ?_) m41_ rfl rfl (any_of HT_.out (by kernel_rfl)) (fun _ _ _ h => h) (Or.inl ⟨by rfl, ?_⟩) ?_ ?_
             rotate_left
             ·intro w'
              go_simp
              with_reducible rfl
             rotate_left
             ·simp only [Act.put, q4_, q5_, q6_, i64_w, i32_w]
              rfl
             refine done_ (done_of HT_.out (by kernel_rfl)) ?_
             try go_wp2
             go_ret
             exact ⟨by first | rfl | (simp [errW_none, errW_some] <;> rfl) | (simp [*, errW_none, errW_some] <;> rfl), by repeat (first | (with_reducible first | exact HB.out | apply below_alloc | apply pw_below_drewN | apply below_drew1 | refine below_set ?_ GE214.out | refine below_set ?_ GE215.out | refine below_set ?_ GE216.out) | exact HB.out)⟩
            ·rw [if_neg c102] at H
             have c102b0 : (t226 == x8_71) = false := by simpa using c102
             (try (have c102b1 : decide (t226 = x8_71) = false := by simpa using c102))
             (try (have c102b2 : (t226 == x8_71) = false := by simpa using c102))
             (try (have c102b3 : ¬ (t226 = x8_71) := by simpa using c102))
             clear c102
             exact absurd ((Option.some.inj H).trans hr_) (by decide)
           ·replace c100 := Bool.eq_false_iff.mpr c100
            subst c100
            have H1 : (if (false == x8_71) = true then ((cap_Root.f 16777216).bind fun bt234 => ((cap_Under.f a0_0 a0_1 a0_2 a0_3 a0_4 a0_5 bt234.1 bt234.2.1 bt234.2.2.1 bt234.2.2.2.1 bt234.2.2.2.2.1 bt234.2.2.2.2.2).bind fun t240 => (some t240))) else (some false)) = some r := by rw [if_neg (show ¬ (false = true) by decide)] at H; exact H
            clear H
            have H := H1
            clear H1
            by_cases c114 : (false == x8_71) = true
            ·rw [if_pos c114] at H
             have c114b0 : (false == x8_71) = true := c114
             (try (have c114b1 : decide (false = x8_71) = true := by simpa using c114))
             (try (have c114b2 : (false == x8_71) = true := by simpa using c114))
             clear c114
             replace H := Option.bind_eq_some_iff.mp H
             obtain ⟨⟨t234, t235, t236, t237, t238, t239⟩, A1150, H⟩ := H
             replace H : ((cap_Under.f a0_0 a0_1 a0_2 a0_3 a0_4 a0_5 t234 t235 t236 t237 t238 t239).bind fun t240 => (some t240)) = some r := H
             have A115 := Aside0.mk A1150
             clear A1150
             replace H := Option.bind_eq_some_iff.mp H
             obtain ⟨t240, A1160, H⟩ := H
             replace H : (some t240) = some r := H
             have A116 := Aside0.mk A1160
             clear A1160
             clear hr_
             obtain rfl := Option.some.inj H
             try go_wp2
             have n0_ := Aside0.mk (blk_drew BK214.out)
             have n1_ := Aside0.mk (blk_drew BK215.out)
             have n2_ := Aside0.mk (blk_drew BK216.out)
             have n3_ := Aside0.mk (below_drew1 HB.out)
             clear BK214
             clear BK215
             clear BK216
             clear HB
             have BK214 := n0_
             have BK215 := n1_
             have BK216 := n2_
             have HB := n3_
             clear n0_ n1_ n2_ n3_
             refine start_ (n := 41) (S := fun w' => w'.cell? ⟨gb214, 0, none⟩ = some (.bool a0_0) ∧ w'.cell? ⟨gb214, 1, none⟩ = some (.int .i64 a0_1) ∧ w'.cell? ⟨gb214, 2, none⟩ = some (.int .i64 a0_2) ∧ w'.cell? ⟨gb214, 3, none⟩ = some (.int .i64 a0_3) ∧ w'.cell? ⟨gb214, 4, none⟩ = some (.int .i64 a0_4) ∧ w'.cell? ⟨gb214, 5, none⟩ = some (.int .i64 a0_5) ∧ w'.cell? ⟨gb215, 0, none⟩ = some (.bool a1_0) ∧ w'.cell? ⟨gb215, 1, none⟩ = some (.int .i64 a1_1) ∧ w'.cell? ⟨gb215, 2, none⟩ = some (.int .i64 a1_2) ∧ w'.cell? ⟨gb215, 3, none⟩ = some (.int .i64 a1_3) ∧ w'.cell? ⟨gb215, 4, none⟩ = some (.int .i64 a1_4) ∧ w'.cell? ⟨gb215, 5, none⟩ = some (.int .i64 a1_5) ∧ w'.cell? ⟨gb216, 0, none⟩ = some (.bool a2_0) ∧ w'.cell? ⟨gb216, 1, none⟩ = some (.int .i64 a2_1) ∧ w'.cell? ⟨gb216, 2, none⟩ = some (.int .i64 a2_2) ∧ w'.cell? ⟨gb216, 3, none⟩ = some (.int .i64 a2_3) ∧ w'.cell? ⟨gb216, 4, none⟩ = some (.int .i64 a2_4) ∧ w'.cell? ⟨gb216, 5, none⟩ = some (.int .i64 a2_5)) (ds := []) m0_ (by kernel_rfl) rfl rfl ⟨q7_ BK214 0 rfl, q7_ BK214 1 rfl, q7_ BK214 2 rfl, q7_ BK214 3 rfl, q7_ BK214 4 rfl, q7_ BK214 5 rfl, q7_ BK215 0 rfl, q7_ BK215 1 rfl, q7_ BK215 2 rfl, q7_ BK215 3 rfl, q7_ BK215 4 rfl, q7_ BK215 5 rfl, q7_ BK216 0 rfl, q7_ BK216 1 rfl, q7_ BK216 2 rfl, q7_ BK216 3 rfl, q7_ BK216 4 rfl, q7_ BK216 5 rfl⟩ (fun hHeld => ?_); refine with_tabW seizinlaw02_CapOrder.tab5 seizinlaw02_CapOrder.bits5 (fun HT_ HW_ => ?_)
             generalize wc.drew = w117 at BK214 BK215 BK216 HB hHeld ⊢
             refine pure_ (i := 0) (N := some 58) (v := ?_) (a' := ?_) m1_ rfl rfl (any_of HT_.out (by kernel_rfl)) (fun _ _ _ h => h) (Or.inl ⟨by rfl, ?_⟩) ?_ ?_
             rotate_left
             ·intro w'
              go_simp
              with_reducible rfl
             rotate_left
             ·simp only [Act.put, q4_, q5_, q6_, i64_w, i32_w]
              rfl
             refine pure_ (i := 1) (N := some 59) (v := ?_) (a' := ?_) m2_ rfl rfl (any_of HT_.out (by kernel_rfl)) (fun _ _ _ h => h) (Or.inl ⟨by rfl, ?_⟩) ?_ ?_
             rotate_left
             ·intro w'
              go_simp
              with_reducible rfl
             rotate_left
             ·simp only [Act.put, q4_, q5_, q6_, i64_w, i32_w]
              rfl
             refine take_ (i := 2) (N := some 60) (v := ?_) (a' := ?_) m3_ rfl rfl (take_ofW HT_.out HW_.out (by kernel_rfl)) (fun _ _ _ h => h) (Or.inl ⟨by rfl, ?_⟩) hHeld ?_ ?_
             rotate_left
             ·rintro w' ⟨s0, s1, s2, s3, s4, s5, s6, s7, s8, s9, s10, s11, s12, s13, s14, s15, s16, s17⟩
              go_simp
              with_reducible rfl
             rotate_left
             ·simp only [Act.put, q4_, q5_, q6_, i64_w, i32_w]
              rfl
             refine take_ (i := 3) (N := some 61) (v := ?_) (a' := ?_) m4_ rfl rfl (take_ofW HT_.out HW_.out (by kernel_rfl)) (fun _ _ _ h => h) (Or.inl ⟨by rfl, ?_⟩) hHeld ?_ ?_
             rotate_left
             ·rintro w' ⟨s0, s1, s2, s3, s4, s5, s6, s7, s8, s9, s10, s11, s12, s13, s14, s15, s16, s17⟩
              go_simp
              with_reducible rfl
             rotate_left
             ·simp only [Act.put, q4_, q5_, q6_, i64_w, i32_w]
              rfl
             refine one_ (i := 4) (N := some 62) m5_ rfl rfl (one_of HT_.out (by kernel_rfl)) (by decide) (fun K hK => ?_)
             refine goes_ Try.func41 (by kernel_rfl) rfl #[.agg #[.bool a0_0, .int .i64 a0_1, .int .i64 a0_2, .int .i64 a0_3, .int .i64 a0_4, .int .i64 a0_5], .agg #[.bool a0_0, .int .i64 a0_1, .int .i64 a0_2, .int .i64 a0_3, .int .i64 a0_4, .int .i64 a0_5]] (by rfl) rfl rfl (by (try simp only [List.map_toArray, List.map_cons, List.map_nil]); first | done | rfl | (simp only [List.length_drop, List.length_take]; rfl)) ?_
             with_reducible refine (cap_Under.calls a0_0 a0_1 a0_2 a0_3 a0_4 a0_5 a0_0 a0_1 a0_2 a0_3 a0_4 a0_5 true _ A91.out).mono ?_
             rintro e w118 ⟨rfl, hb⟩
             refine ⟨_, rfl, ?_⟩
             have n0_ := q1_ BK214 hb
             have n1_ := q1_ BK215 hb
             have n2_ := q1_ BK216 hb
             have n3_ := q2_ HB hb
             clear BK214
             clear BK215
             clear BK216
             clear HB
             have BK214 := n0_
             have BK215 := n1_
             have BK216 := n2_
             have HB := n3_
             clear n0_ n1_ n2_ n3_
             (try clear hb)
             (try clear hb2)
             (try clear hk)
             (try clear hi)
             refine hK.out _ _ ⟨q7_ BK214 0 rfl, q7_ BK214 1 rfl, q7_ BK214 2 rfl, q7_ BK214 3 rfl, q7_ BK214 4 rfl, q7_ BK214 5 rfl, q7_ BK215 0 rfl, q7_ BK215 1 rfl, q7_ BK215 2 rfl, q7_ BK215 3 rfl, q7_ BK215 4 rfl, q7_ BK215 5 rfl, q7_ BK216 0 rfl, q7_ BK216 1 rfl, q7_ BK216 2 rfl, q7_ BK216 3 rfl, q7_ BK216 4 rfl, q7_ BK216 5 rfl⟩ (fun hHeld => ?_)
             clear hK K
             refine norm_ (a' := ?_) ?_ ?_
             rotate_left
             ·show Act.put _ (some 62) _ = _
              simp only [Act.put, q4_, q5_, q6_, i64_w, i32_w]
              rfl
             refine pure_ (i := 5) (N := some 63) (v := ?_) (a' := ?_) m6_ rfl rfl (any_of HT_.out (by kernel_rfl)) (fun _ _ _ h => h) (Or.inl ⟨by rfl, ?_⟩) ?_ ?_
             rotate_left
             ·intro w'
              go_simp
              with_reducible rfl
             rotate_left
             ·simp only [Act.put, q4_, q5_, q6_, i64_w, i32_w]
              rfl
             refine pure_ (i := 6) (N := some 64) (v := ?_) (a' := ?_) m7_ rfl rfl (any_of HT_.out (by kernel_rfl)) (fun _ _ _ h => h) (Or.inl ⟨by rfl, ?_⟩) ?_ ?_
             rotate_left
             ·intro w'
              go_simp
              with_reducible rfl
             rotate_left
             ·simp only [Act.put, q4_, q5_, q6_, i64_w, i32_w]
              rfl
             refine take_ (i := 7) (N := some 65) (v := ?_) (a' := ?_) m8_ rfl rfl (take_ofW HT_.out HW_.out (by kernel_rfl)) (fun _ _ _ h => h) (Or.inl ⟨by rfl, ?_⟩) hHeld ?_ ?_
             rotate_left
             ·rintro w' ⟨s0, s1, s2, s3, s4, s5, s6, s7, s8, s9, s10, s11, s12, s13, s14, s15, s16, s17⟩
              go_simp
              with_reducible rfl
             rotate_left
             ·simp only [Act.put, q4_, q5_, q6_, i64_w, i32_w]
              rfl
             refine take_ (i := 8) (N := some 66) (v := ?_) (a' := ?_) m9_ rfl rfl (take_ofW HT_.out HW_.out (by kernel_rfl)) (fun _ _ _ h => h) (Or.inl ⟨by rfl, ?_⟩) hHeld ?_ ?_
             rotate_left
             ·rintro w' ⟨s0, s1, s2, s3, s4, s5, s6, s7, s8, s9, s10, s11, s12, s13, s14, s15, s16, s17⟩
              go_simp
              with_reducible rfl
             rotate_left
             ·simp only [Act.put, q4_, q5_, q6_, i64_w, i32_w]
              rfl
             refine one_ (i := 9) (N := some 67) m10_ rfl rfl (one_of HT_.out (by kernel_rfl)) (by decide) (fun K hK => ?_)
             refine goes_ Try.func41 (by kernel_rfl) rfl #[.agg #[.bool a0_0, .int .i64 a0_1, .int .i64 a0_2, .int .i64 a0_3, .int .i64 a0_4, .int .i64 a0_5], .agg #[.bool a1_0, .int .i64 a1_1, .int .i64 a1_2, .int .i64 a1_3, .int .i64 a1_4, .int .i64 a1_5]] (by rfl) rfl rfl (by (try simp only [List.map_toArray, List.map_cons, List.map_nil]); first | done | rfl | (simp only [List.length_drop, List.length_take]; rfl)) ?_
             with_reducible refine (cap_Under.calls a0_0 a0_1 a0_2 a0_3 a0_4 a0_5 a1_0 a1_1 a1_2 a1_3 a1_4 a1_5 true _ A93.out).mono ?_
             rintro e w119 ⟨rfl, hb⟩
             refine ⟨_, rfl, ?_⟩
             have n0_ := q1_ BK214 hb
             have n1_ := q1_ BK215 hb
             have n2_ := q1_ BK216 hb
             have n3_ := q2_ HB hb
             clear BK214
             clear BK215
             clear BK216
             clear HB
             have BK214 := n0_
             have BK215 := n1_
             have BK216 := n2_
             have HB := n3_
             clear n0_ n1_ n2_ n3_
             (try clear hb)
             (try clear hb2)
             (try clear hk)
             (try clear hi)
             refine hK.out _ _ ⟨q7_ BK214 0 rfl, q7_ BK214 1 rfl, q7_ BK214 2 rfl, q7_ BK214 3 rfl, q7_ BK214 4 rfl, q7_ BK214 5 rfl, q7_ BK215 0 rfl, q7_ BK215 1 rfl, q7_ BK215 2 rfl, q7_ BK215 3 rfl, q7_ BK215 4 rfl, q7_ BK215 5 rfl, q7_ BK216 0 rfl, q7_ BK216 1 rfl, q7_ BK216 2 rfl, q7_ BK216 3 rfl, q7_ BK216 4 rfl, q7_ BK216 5 rfl⟩ (fun hHeld => ?_)
             clear hK K
             refine norm_ (a' := ?_) ?_ ?_
             rotate_left
             ·show Act.put _ (some 67) _ = _
              simp only [Act.put, q4_, q5_, q6_, i64_w, i32_w]
              rfl
             refine pure_ (i := 10) (N := some 68) (v := ?_) (a' := ?_) m11_ rfl rfl (any_of HT_.out (by kernel_rfl)) (fun _ _ _ h => h) (Or.inl ⟨by rfl, ?_⟩) ?_ ?_
             rotate_left
             ·intro w'
              go_simp
              with_reducible rfl
             rotate_left
             ·simp only [Act.put, q4_, q5_, q6_, i64_w, i32_w]
              rfl
             refine pure_ (i := 11) (N := some 69) (v := ?_) (a' := ?_) m12_ rfl rfl (any_of HT_.out (by kernel_rfl)) (fun _ _ _ h => h) (Or.inl ⟨by rfl, ?_⟩) ?_ ?_
             rotate_left
             ·intro w'
              go_simp
              with_reducible rfl
             rotate_left
             ·simp only [Act.put, q4_, q5_, q6_, i64_w, i32_w]
              rfl
             refine take_ (i := 12) (N := some 70) (v := ?_) (a' := ?_) m13_ rfl rfl (take_ofW HT_.out HW_.out (by kernel_rfl)) (fun _ _ _ h => h) (Or.inl ⟨by rfl, ?_⟩) hHeld ?_ ?_
             rotate_left
             ·rintro w' ⟨s0, s1, s2, s3, s4, s5, s6, s7, s8, s9, s10, s11, s12, s13, s14, s15, s16, s17⟩
              go_simp
              with_reducible rfl
             rotate_left
             ·simp only [Act.put, q4_, q5_, q6_, i64_w, i32_w]
              rfl
             refine take_ (i := 13) (N := some 71) (v := ?_) (a' := ?_) m14_ rfl rfl (take_ofW HT_.out HW_.out (by kernel_rfl)) (fun _ _ _ h => h) (Or.inl ⟨by rfl, ?_⟩) hHeld ?_ ?_
             rotate_left
             ·rintro w' ⟨s0, s1, s2, s3, s4, s5, s6, s7, s8, s9, s10, s11, s12, s13, s14, s15, s16, s17⟩
              go_simp
              with_reducible rfl
             rotate_left
             ·simp only [Act.put, q4_, q5_, q6_, i64_w, i32_w]
              rfl
             refine one_ (i := 14) (N := some 72) m15_ rfl rfl (one_of HT_.out (by kernel_rfl)) (by decide) (fun K hK => ?_)
             refine goes_ Try.func41 (by kernel_rfl) rfl #[.agg #[.bool a1_0, .int .i64 a1_1, .int .i64 a1_2, .int .i64 a1_3, .int .i64 a1_4, .int .i64 a1_5], .agg #[.bool a2_0, .int .i64 a2_1, .int .i64 a2_2, .int .i64 a2_3, .int .i64 a2_4, .int .i64 a2_5]] (by rfl) rfl rfl (by (try simp only [List.map_toArray, List.map_cons, List.map_nil]); first | done | rfl | (simp only [List.length_drop, List.length_take]; rfl)) ?_
             with_reducible refine (cap_Under.calls a1_0 a1_1 a1_2 a1_3 a1_4 a1_5 a2_0 a2_1 a2_2 a2_3 a2_4 a2_5 true _ A95.out).mono ?_
             rintro e w120 ⟨rfl, hb⟩
             refine ⟨_, rfl, ?_⟩
             have n0_ := q1_ BK214 hb
             have n1_ := q1_ BK215 hb
             have n2_ := q1_ BK216 hb
             have n3_ := q2_ HB hb
             clear BK214
             clear BK215
             clear BK216
             clear HB
             have BK214 := n0_
             have BK215 := n1_
             have BK216 := n2_
             have HB := n3_
             clear n0_ n1_ n2_ n3_
             (try clear hb)
             (try clear hb2)
             (try clear hk)
             (try clear hi)
             refine hK.out _ _ ⟨q7_ BK214 0 rfl, q7_ BK214 1 rfl, q7_ BK214 2 rfl, q7_ BK214 3 rfl, q7_ BK214 4 rfl, q7_ BK214 5 rfl, q7_ BK215 0 rfl, q7_ BK215 1 rfl, q7_ BK215 2 rfl, q7_ BK215 3 rfl, q7_ BK215 4 rfl, q7_ BK215 5 rfl, q7_ BK216 0 rfl, q7_ BK216 1 rfl, q7_ BK216 2 rfl, q7_ BK216 3 rfl, q7_ BK216 4 rfl, q7_ BK216 5 rfl⟩ (fun hHeld => ?_)
             clear hK K
             refine norm_ (a' := ?_) ?_ ?_
             rotate_left
             ·show Act.put _ (some 72) _ = _
              simp only [Act.put, q4_, q5_, q6_, i64_w, i32_w]
              rfl
             refine pure_ (i := 15) (N := some 73) (v := ?_) (a' := ?_) m16_ rfl rfl (any_of HT_.out (by kernel_rfl)) (fun _ _ _ h => h) (Or.inl ⟨by rfl, ?_⟩) ?_ ?_
             rotate_left
             ·intro w'
              go_simp
              with_reducible rfl
             rotate_left
             ·simp only [Act.put, q4_, q5_, q6_, i64_w, i32_w]
              rfl
             refine pure_ (i := 16) (N := some 74) (v := ?_) (a' := ?_) m17_ rfl rfl (any_of HT_.out (by kernel_rfl)) (fun _ _ _ h => h) (Or.inl ⟨by rfl, ?_⟩) ?_ ?_
             rotate_left
             ·intro w'
              go_simp
              with_reducible rfl
             rotate_left
             ·simp only [Act.put, q4_, q5_, q6_, i64_w, i32_w]
              rfl
             refine pure_ (i := 17) (N := some 75) (v := ?_) (a' := ?_) m18_ rfl rfl (any_of HT_.out (by kernel_rfl)) (fun _ _ _ h => h) (Or.inl ⟨by rfl, ?_⟩) ?_ ?_
             rotate_left
             ·intro w'
              go_simp
              with_reducible rfl
             rotate_left
             ·simp only [Act.put, q4_, q5_, q6_, i64_w, i32_w]
              rfl
             refine take_ (i := 18) (N := some 76) (v := ?_) (a' := ?_) m19_ rfl rfl (take_ofW HT_.out HW_.out (by kernel_rfl)) (fun _ _ _ h => h) (Or.inl ⟨by rfl, ?_⟩) hHeld ?_ ?_
             rotate_left
             ·rintro w' ⟨s0, s1, s2, s3, s4, s5, s6, s7, s8, s9, s10, s11, s12, s13, s14, s15, s16, s17⟩
              go_simp
              with_reducible rfl
             rotate_left
             ·simp only [Act.put, q4_, q5_, q6_, i64_w, i32_w]
              rfl
             refine take_ (i := 19) (N := some 77) (v := ?_) (a' := ?_) m20_ rfl rfl (take_ofW HT_.out HW_.out (by kernel_rfl)) (fun _ _ _ h => h) (Or.inl ⟨by rfl, ?_⟩) hHeld ?_ ?_
             rotate_left
             ·rintro w' ⟨s0, s1, s2, s3, s4, s5, s6, s7, s8, s9, s10, s11, s12, s13, s14, s15, s16, s17⟩
              go_simp
              with_reducible rfl
             rotate_left
             ·simp only [Act.put, q4_, q5_, q6_, i64_w, i32_w]
              rfl
             refine one_ (i := 20) (N := some 78) m21_ rfl rfl (one_of HT_.out (by kernel_rfl)) (by decide) (fun K hK => ?_)
             refine goes_ Try.func41 (by kernel_rfl) rfl #[.agg #[.bool a0_0, .int .i64 a0_1, .int .i64 a0_2, .int .i64 a0_3, .int .i64 a0_4, .int .i64 a0_5], .agg #[.bool a2_0, .int .i64 a2_1, .int .i64 a2_2, .int .i64 a2_3, .int .i64 a2_4, .int .i64 a2_5]] (by rfl) rfl rfl (by (try simp only [List.map_toArray, List.map_cons, List.map_nil]); first | done | rfl | (simp only [List.length_drop, List.length_take]; rfl)) ?_
             with_reducible refine (cap_Under.calls a0_0 a0_1 a0_2 a0_3 a0_4 a0_5 a2_0 a2_1 a2_2 a2_3 a2_4 a2_5 true _ A97.out).mono ?_
             rintro e w121 ⟨rfl, hb⟩
             refine ⟨_, rfl, ?_⟩
             have n0_ := q1_ BK214 hb
             have n1_ := q1_ BK215 hb
             have n2_ := q1_ BK216 hb
             have n3_ := q2_ HB hb
             clear BK214
             clear BK215
             clear BK216
             clear HB
             have BK214 := n0_
             have BK215 := n1_
             have BK216 := n2_
             have HB := n3_
             clear n0_ n1_ n2_ n3_
             (try clear hb)
             (try clear hb2)
             (try clear hk)
             (try clear hi)
             refine hK.out _ _ ⟨q7_ BK214 0 rfl, q7_ BK214 1 rfl, q7_ BK214 2 rfl, q7_ BK214 3 rfl, q7_ BK214 4 rfl, q7_ BK214 5 rfl, q7_ BK215 0 rfl, q7_ BK215 1 rfl, q7_ BK215 2 rfl, q7_ BK215 3 rfl, q7_ BK215 4 rfl, q7_ BK215 5 rfl, q7_ BK216 0 rfl, q7_ BK216 1 rfl, q7_ BK216 2 rfl, q7_ BK216 3 rfl, q7_ BK216 4 rfl, q7_ BK216 5 rfl⟩ (fun hHeld => ?_)
             clear hK K
             refine norm_ (a' := ?_) ?_ ?_
             rotate_left
             ·show Act.put _ (some 78) _ = _
              simp only [Act.put, q4_, q5_, q6_, i64_w, i32_w]
              rfl
             refine pure_ (i := 21) (N := some 79) (v := ?_) (a' := ?_) m22_ rfl rfl (any_of HT_.out (by kernel_rfl)) (fun _ _ _ h => h) (Or.inl ⟨by rfl, ?_⟩) ?_ ?_
             rotate_left
             ·intro w'
              go_simp
              with_reducible rfl
             rotate_left
             ·simp only [Act.put, q4_, q5_, q6_, i64_w, i32_w]
              rfl
             refine pure_ (i := 22) (N := some 80) (v := ?_) (a' := ?_) m23_ rfl rfl (any_of HT_.out (by kernel_rfl)) (fun _ _ _ h => h) (Or.inl ⟨by rfl, ?_⟩) ?_ ?_
             rotate_left
             ·intro w'
              go_simp
              with_reducible rfl
             rotate_left
             ·simp only [Act.put, q4_, q5_, q6_, i64_w, i32_w]
              rfl
             refine pure_ (i := 23) (N := some 81) (v := ?_) (a' := ?_) m24_ rfl rfl (any_of HT_.out (by kernel_rfl)) (fun _ _ _ h => h) (Or.inl ⟨by rfl, ?_⟩) ?_ ?_
             rotate_left
             ·intro w'
              go_simp
              with_reducible rfl
             rotate_left
             ·simp only [Act.put, q4_, q5_, q6_, i64_w, i32_w]
              rfl
             refine pure_ (i := 32) (N := some 90) (v := ?_) (a' := ?_) m25_ rfl rfl (any_of HT_.out (by kernel_rfl)) (fun _ _ _ h => h) (Or.inl ⟨by rfl, ?_⟩) ?_ ?_
             rotate_left
             ·intro w'
              go_simp
              with_reducible rfl
             rotate_left
             ·simp only [Act.put, q4_, q5_, q6_, i64_w, i32_w]
              rfl
             refine take_ (i := 24) (N := some 82) (v := ?_) (a' := ?_) m26_ rfl rfl (take_ofW HT_.out HW_.out (by kernel_rfl)) (fun _ _ _ h => h) (Or.inl ⟨by rfl, ?_⟩) hHeld ?_ ?_
             rotate_left
             ·rintro w' ⟨s0, s1, s2, s3, s4, s5, s6, s7, s8, s9, s10, s11, s12, s13, s14, s15, s16, s17⟩
              go_simp
              with_reducible rfl
             rotate_left
             ·simp only [Act.put, q4_, q5_, q6_, i64_w, i32_w]
              rfl
             refine take_ (i := 25) (N := some 83) (v := ?_) (a' := ?_) m27_ rfl rfl (take_ofW HT_.out HW_.out (by kernel_rfl)) (fun _ _ _ h => h) (Or.inl ⟨by rfl, ?_⟩) hHeld ?_ ?_
             rotate_left
             ·rintro w' ⟨s0, s1, s2, s3, s4, s5, s6, s7, s8, s9, s10, s11, s12, s13, s14, s15, s16, s17⟩
              go_simp
              with_reducible rfl
             rotate_left
             ·simp only [Act.put, q4_, q5_, q6_, i64_w, i32_w]
              rfl
             refine one_ (i := 26) (N := some 84) m28_ rfl rfl (one_of HT_.out (by kernel_rfl)) (by decide) (fun K hK => ?_)
             refine goes_ Try.func41 (by kernel_rfl) rfl #[.agg #[.bool a0_0, .int .i64 a0_1, .int .i64 a0_2, .int .i64 a0_3, .int .i64 a0_4, .int .i64 a0_5], .agg #[.bool a1_0, .int .i64 a1_1, .int .i64 a1_2, .int .i64 a1_3, .int .i64 a1_4, .int .i64 a1_5]] (by rfl) rfl rfl (by (try simp only [List.map_toArray, List.map_cons, List.map_nil]); first | done | rfl | (simp only [List.length_drop, List.length_take]; rfl)) ?_
             with_reducible refine (cap_Under.calls a0_0 a0_1 a0_2 a0_3 a0_4 a0_5 a1_0 a1_1 a1_2 a1_3 a1_4 a1_5 false _ A99.out).mono ?_
             rintro e w122 ⟨rfl, hb⟩
             refine ⟨_, rfl, ?_⟩
             have n0_ := q1_ BK214 hb
             have n1_ := q1_ BK215 hb
             have n2_ := q1_ BK216 hb
             have n3_ := q2_ HB hb
             clear BK214
             clear BK215
             clear BK216
             clear HB
             have BK214 := n0_
             have BK215 := n1_
             have BK216 := n2_
             have HB := n3_
             clear n0_ n1_ n2_ n3_
             (try clear hb)
             (try clear hb2)
             (try clear hk)
             (try clear hi)
             refine hK.out _ _ ⟨q7_ BK214 0 rfl, q7_ BK214 1 rfl, q7_ BK214 2 rfl, q7_ BK214 3 rfl, q7_ BK214 4 rfl, q7_ BK214 5 rfl, q7_ BK215 0 rfl, q7_ BK215 1 rfl, q7_ BK215 2 rfl, q7_ BK215 3 rfl, q7_ BK215 4 rfl, q7_ BK215 5 rfl, q7_ BK216 0 rfl, q7_ BK216 1 rfl, q7_ BK216 2 rfl, q7_ BK216 3 rfl, q7_ BK216 4 rfl, q7_ BK216 5 rfl⟩ (fun hHeld => ?_)
             clear hK K
             refine norm_ (a' := ?_) ?_ ?_
             rotate_left
             ·show Act.put _ (some 84) _ = _
              simp only [Act.put, q4_, q5_, q6_, i64_w, i32_w]
              rfl
             refine pure_ (i := 27) (N := some 85) (v := ?_) (a' := ?_) m29_ rfl rfl (any_of HT_.out (by kernel_rfl)) (fun _ _ _ h => h) (Or.inl ⟨by rfl, ?_⟩) ?_ ?_
             rotate_left
             ·intro w'
              go_simp
              with_reducible rfl
             rotate_left
             ·simp only [Act.put, q4_, q5_, q6_, i64_w, i32_w]
              rfl
             refine pure_ (i := 28) (N := some 86) (v := undef) (a' := ?_) m30_ rfl rfl (any_of HT_.out (by kernel_rfl)) (fun _ _ _ h => h) (Or.inr ⟨by rfl, rfl⟩) ?_ ?_
             rotate_left
             ·simp only [Act.put, q4_, q5_, q6_, i64_w, i32_w]
              rfl
             refine pure_ (i := 29) (N := some 87) (v := undef) (a' := ?_) m31_ rfl rfl (any_of HT_.out (by kernel_rfl)) (fun _ _ _ h => h) (Or.inr ⟨by rfl, rfl⟩) ?_ ?_
             rotate_left
             ·simp only [Act.put, q4_, q5_, q6_, i64_w, i32_w]
              rfl
             refine pure_ (i := 30) (N := some 88) (v := undef) (a' := ?_) m32_ rfl rfl (any_of HT_.out (by kernel_rfl)) (fun _ _ _ h => h) (Or.inr ⟨by rfl, rfl⟩) ?_ ?_
             rotate_left
             ·simp only [Act.put, q4_, q5_, q6_, i64_w, i32_w]
              rfl
             refine pure_ (i := 31) (N := some 89) (v := ?_) (a' := ?_) m33_ rfl rfl (any_of HT_.out (by kernel_rfl)) (fun _ _ _ h => h) (Or.inl ⟨by rfl, ?_⟩) ?_ ?_
             rotate_left
             ·intro w'
              go_simp
              with_reducible rfl
             rotate_left
             ·simp only [Act.put, q4_, q5_, q6_, i64_w, i32_w]
              rfl
             refine pure_ (i := 33) (N := some 91) (v := ?_) (a' := ?_) m34_ rfl rfl (any_of HT_.out (by kernel_rfl)) (fun _ _ _ h => h) (Or.inl ⟨by rfl, ?_⟩) ?_ ?_
             rotate_left
             ·intro w'
              go_simp
              with_reducible rfl
             rotate_left
             ·simp only [Act.put, q4_, q5_, q6_, i64_w, i32_w]
              rfl
             refine pure_ (i := 34) (N := some 92) (v := ?_) (a' := ?_) m35_ rfl rfl (any_of HT_.out (by kernel_rfl)) (fun _ _ _ h => h) (Or.inl ⟨by rfl, ?_⟩) ?_ ?_
             rotate_left
             ·intro w'
              go_simp
              with_reducible rfl
             rotate_left
             ·simp only [Act.put, q4_, q5_, q6_, i64_w, i32_w]
              rfl
             refine pure_ (i := 35) (N := some 93) (v := ?_) (a' := ?_) m36_ rfl rfl (any_of HT_.out (by kernel_rfl)) (fun _ _ _ h => h) (Or.inl ⟨by rfl, ?_⟩) ?_ ?_
             rotate_left
             ·intro w'
              go_simp
              with_reducible rfl
             rotate_left
             ·simp only [Act.put, q4_, q5_, q6_, i64_w, i32_w]
              rfl
             refine take_ (i := 36) (N := some 94) (v := ?_) (a' := ?_) m37_ rfl rfl (take_ofW HT_.out HW_.out (by kernel_rfl)) (fun _ _ _ h => h) (Or.inl ⟨by rfl, ?_⟩) hHeld ?_ ?_
             rotate_left
             ·rintro w' ⟨s0, s1, s2, s3, s4, s5, s6, s7, s8, s9, s10, s11, s12, s13, s14, s15, s16, s17⟩
              go_simp
              with_reducible rfl
             rotate_left
             ·simp only [Act.put, q4_, q5_, q6_, i64_w, i32_w]
              rfl
             refine one_ (i := 37) (N := some 95) m38_ rfl rfl (one_of HT_.out (by kernel_rfl)) (by decide) (fun K hK => ?_)
             refine goes_ Try.func45 (by kernel_rfl) rfl #[.int .i64 16777216] (by rfl) rfl rfl (by (try simp only [List.map_toArray, List.map_cons, List.map_nil]); first | done | rfl | (simp only [List.length_drop, List.length_take]; rfl)) ?_
             with_reducible refine (cap_Root.calls 16777216 t234 t235 t236 t237 t238 t239 _ A115.out).mono ?_
             rintro e w123 ⟨rfl, hb⟩
             refine ⟨_, rfl, ?_⟩
             have n0_ := q1_ BK214 hb
             have n1_ := q1_ BK215 hb
             have n2_ := q1_ BK216 hb
             have n3_ := q2_ HB hb
             clear BK214
             clear BK215
             clear BK216
             clear HB
             have BK214 := n0_
             have BK215 := n1_
             have BK216 := n2_
             have HB := n3_
             clear n0_ n1_ n2_ n3_
             (try clear hb)
             (try clear hb2)
             (try clear hk)
             (try clear hi)
             refine hK.out _ _ ⟨q7_ BK214 0 rfl, q7_ BK214 1 rfl, q7_ BK214 2 rfl, q7_ BK214 3 rfl, q7_ BK214 4 rfl, q7_ BK214 5 rfl, q7_ BK215 0 rfl, q7_ BK215 1 rfl, q7_ BK215 2 rfl, q7_ BK215 3 rfl, q7_ BK215 4 rfl, q7_ BK215 5 rfl, q7_ BK216 0 rfl, q7_ BK216 1 rfl, q7_ BK216 2 rfl, q7_ BK216 3 rfl, q7_ BK216 4 rfl, q7_ BK216 5 rfl⟩ (fun hHeld => ?_)
             clear hK K
             refine norm_ (a' := ?_) ?_ ?_
             rotate_left
             ·show Act.put _ (some 95) _ = _
              simp only [Act.put, q4_, q5_, q6_, i64_w, i32_w]
              rfl
             refine one_ (i := 38) (N := some 96) m39_ rfl rfl (one_of HT_.out (by kernel_rfl)) (by decide) (fun K hK => ?_)
             refine goes_ Try.func41 (by kernel_rfl) rfl #[.agg #[.bool a0_0, .int .i64 a0_1, .int .i64 a0_2, .int .i64 a0_3, .int .i64 a0_4, .int .i64 a0_5], .agg #[.bool t234, .int .i64 t235, .int .i64 t236, .int .i64 t237, .int .i64 t238, .int .i64 t239]] (by rfl) rfl rfl (by (try simp only [List.map_toArray, List.map_cons, List.map_nil]); first | done | rfl | (simp only [List.length_drop, List.length_take]; rfl)) ?_
             with_reducible refine (cap_Under.calls a0_0 a0_1 a0_2 a0_3 a0_4 a0_5 t234 t235 t236 t237 t238 t239 t240 _ A116.out).mono ?_
             rintro e w124 ⟨rfl, hb⟩
             refine ⟨_, rfl, ?_⟩
             have n0_ := q1_ BK214 hb
             have n1_ := q1_ BK215 hb
             have n2_ := q1_ BK216 hb
             have n3_ := q2_ HB hb
             clear BK214
             clear BK215
             clear BK216
             clear HB
             have BK214 := n0_
             have BK215 := n1_
             have BK216 := n2_
             have HB := n3_
             clear n0_ n1_ n2_ n3_
             (try clear hb)
             (try clear hb2)
             (try clear hk)
             (try clear hi)
             refine hK.out _ _ ⟨q7_ BK214 0 rfl, q7_ BK214 1 rfl, q7_ BK214 2 rfl, q7_ BK214 3 rfl, q7_ BK214 4 rfl, q7_ BK214 5 rfl, q7_ BK215 0 rfl, q7_ BK215 1 rfl, q7_ BK215 2 rfl, q7_ BK215 3 rfl, q7_ BK215 4 rfl, q7_ BK215 5 rfl, q7_ BK216 0 rfl, q7_ BK216 1 rfl, q7_ BK216 2 rfl, q7_ BK216 3 rfl, q7_ BK216 4 rfl, q7_ BK216 5 rfl⟩ (fun hHeld => ?_)
             clear hK K
             refine norm_ (a' := ?_) ?_ ?_
             rotate_left
             ·show Act.put _ (some 96) _ = _
              simp only [Act.put, q4_, q5_, q6_, i64_w, i32_w]
              rfl
             refine pure_ (i := 39) (N := some 97) (v := ?_) (a' := ?_) m40_ rfl rfl (any_of HT_.out (by kernel_rfl)) (fun _ _ _ h => h) (Or.inl ⟨by rfl, ?_⟩) ?_ ?_
             rotate_left
             ·intro w'
              go_simp
              with_reducible rfl
             rotate_left
             ·simp only [Act.put, q4_, q5_, q6_, i64_w, i32_w]
              rfl
             refine pure_ (i := 40) (N := some 6) (v := ?_) (a' := ?_) m41_ rfl rfl (any_of HT_.out (by kernel_rfl)) (fun _ _ _ h => h) (Or.inl ⟨by rfl, ?_⟩) ?_ ?_
             rotate_left
             ·intro w'
              go_simp
              with_reducible rfl
             rotate_left
             ·simp only [Act.put, q4_, q5_, q6_, i64_w, i32_w]
              rfl
             refine done_ (done_of HT_.out (by kernel_rfl)) ?_
             try go_wp2
             go_ret
             exact ⟨by first | rfl | (simp [errW_none, errW_some] <;> rfl) | (simp [*, errW_none, errW_some] <;> rfl), by repeat (first | (with_reducible first | exact HB.out | apply below_alloc | apply pw_below_drewN | apply below_drew1 | refine below_set ?_ GE214.out | refine below_set ?_ GE215.out | refine below_set ?_ GE216.out) | exact HB.out)⟩
            ·rw [if_neg c114] at H
             have c114b0 : (false == x8_71) = false := by simpa using c114
             (try (have c114b1 : decide (false = x8_71) = false := by simpa using c114))
             (try (have c114b2 : (false == x8_71) = false := by simpa using c114))
             (try (have c114b3 : ¬ (false = x8_71) := by simpa using c114))
             clear c114
             exact absurd ((Option.some.inj H).trans hr_) (by decide)
          ·replace c98 := Bool.eq_false_iff.mpr c98
           subst c98
           have H1 : (some false) = some r := by rw [if_neg (show ¬ (false = true) by decide)] at H; exact H
           clear H
           have H := H1
           clear H1
           exact absurd ((Option.some.inj H).trans hr_) (by decide)
         ·replace c96 := Bool.eq_false_iff.mpr c96
          subst c96
          have H1 : ((cap_Under.f a0_0 a0_1 a0_2 a0_3 a0_4 a0_5 a1_0 a1_1 a1_2 a1_3 a1_4 a1_5).bind fun t241 => (if t241 = true then ((cap_Under.f a1_0 a1_1 a1_2 a1_3 a1_4 a1_5 a0_0 a0_1 a0_2 a0_3 a0_4 a0_5).bind fun t242 => (if (t242 == x8_71) = true then ((cap_Root.f 16777216).bind fun bt243 => ((cap_Under.f a0_0 a0_1 a0_2 a0_3 a0_4 a0_5 bt243.1 bt243.2.1 bt243.2.2.1 bt243.2.2.2.1 bt243.2.2.2.2.1 bt243.2.2.2.2.2).bind fun t249 => (some t249))) else (some false))) else (if (false == x8_71) = true then ((cap_Root.f 16777216).bind fun bt250 => ((cap_Under.f a0_0 a0_1 a0_2 a0_3 a0_4 a0_5 bt250.1 bt250.2.1 bt250.2.2.1 bt250.2.2.2.1 bt250.2.2.2.2.1 bt250.2.2.2.2.2).bind fun t256 => (some t256))) else (some false)))) = some r := by rw [if_neg (show ¬ (false = true) by decide)] at H; exact H
          clear H
          have H := H1
          clear H1
          replace H := Option.bind_eq_some_iff.mp H
          obtain ⟨t241, A1250, H⟩ := H
          replace H : (if t241 = true then ((cap_Under.f a1_0 a1_1 a1_2 a1_3 a1_4 a1_5 a0_0 a0_1 a0_2 a0_3 a0_4 a0_5).bind fun t242 => (if (t242 == x8_71) = true then ((cap_Root.f 16777216).bind fun bt243 => ((cap_Under.f a0_0 a0_1 a0_2 a0_3 a0_4 a0_5 bt243.1 bt243.2.1 bt243.2.2.1 bt243.2.2.2.1 bt243.2.2.2.2.1 bt243.2.2.2.2.2).bind fun t249 => (some t249))) else (some false))) else (if (false == x8_71) = true then ((cap_Root.f 16777216).bind fun bt250 => ((cap_Under.f a0_0 a0_1 a0_2 a0_3 a0_4 a0_5 bt250.1 bt250.2.1 bt250.2.2.1 bt250.2.2.2.1 bt250.2.2.2.2.1 bt250.2.2.2.2.2).bind fun t256 => (some t256))) else (some false))) = some r := H
          have A125 := Aside0.mk A1250
          clear A1250
          by_cases c126 : t241 = true
          ·subst c126
           have H1 : ((cap_Under.f a1_0 a1_1 a1_2 a1_3 a1_4 a1_5 a0_0 a0_1 a0_2 a0_3 a0_4 a0_5).bind fun t242 => (if (t242 == x8_71) = true then ((cap_Root.f 16777216).bind fun bt243 => ((cap_Under.f a0_0 a0_1 a0_2 a0_3 a0_4 a0_5 bt243.1 bt243.2.1 bt243.2.2.1 bt243.2.2.2.1 bt243.2.2.2.2.1 bt243.2.2.2.2.2).bind fun t249 => (some t249))) else (some false))) = some r := by rw [if_pos rfl] at H; exact H
           clear H
           have H := H1
           clear H1
           replace H := Option.bind_eq_some_iff.mp H
           obtain ⟨t242, A1270, H⟩ := H
           replace H : (if (t242 == x8_71) = true then ((cap_Root.f 16777216).bind fun bt243 => ((cap_Under.f a0_0 a0_1 a0_2 a0_3 a0_4 a0_5 bt243.1 bt243.2.1 bt243.2.2.1 bt243.2.2.2.1 bt243.2.2.2.2.1 bt243.2.2.2.2.2).bind fun t249 => (some t249))) else (some false)) = some r := H
           have A127 := Aside0.mk A1270
           clear A1270
           by_cases c128 : (t242 == x8_71) = true
           ·rw [if_pos c128] at H
            have c128b0 : (t242 == x8_71) = true := c128
            (try (have c128b1 : decide (t242 = x8_71) = true := by simpa using c128))
            (try (have c128b2 : (t242 == x8_71) = true := by simpa using c128))
            clear c128
            replace H := Option.bind_eq_some_iff.mp H
            obtain ⟨⟨t243, t244, t245, t246, t247, t248⟩, A1290, H⟩ := H
            replace H : ((cap_Under.f a0_0 a0_1 a0_2 a0_3 a0_4 a0_5 t243 t244 t245 t246 t247 t248).bind fun t249 => (some t249)) = some r := H
            have A129 := Aside0.mk A1290
            clear A1290
            replace H := Option.bind_eq_some_iff.mp H
            obtain ⟨t249, A1300, H⟩ := H
            replace H : (some t249) = some r := H
            have A130 := Aside0.mk A1300
            clear A1300
            clear hr_
            obtain rfl := Option.some.inj H
            try go_wp2
            have n0_ := Aside0.mk (blk_drew BK214.out)
            have n1_ := Aside0.mk (blk_drew BK215.out)
            have n2_ := Aside0.mk (blk_drew BK216.out)
            have n3_ := Aside0.mk (below_drew1 HB.out)
            clear BK214
            clear BK215
            clear BK216
            clear HB
            have BK214 := n0_
            have BK215 := n1_
            have BK216 := n2_
            have HB := n3_
            clear n0_ n1_ n2_ n3_
            refine start_ (n := 41) (S := fun w' => w'.cell? ⟨gb214, 0, none⟩ = some (.bool a0_0) ∧ w'.cell? ⟨gb214, 1, none⟩ = some (.int .i64 a0_1) ∧ w'.cell? ⟨gb214, 2, none⟩ = some (.int .i64 a0_2) ∧ w'.cell? ⟨gb214, 3, none⟩ = some (.int .i64 a0_3) ∧ w'.cell? ⟨gb214, 4, none⟩ = some (.int .i64 a0_4) ∧ w'.cell? ⟨gb214, 5, none⟩ = some (.int .i64 a0_5) ∧ w'.cell? ⟨gb215, 0, none⟩ = some (.bool a1_0) ∧ w'.cell? ⟨gb215, 1, none⟩ = some (.int .i64 a1_1) ∧ w'.cell? ⟨gb215, 2, none⟩ = some (.int .i64 a1_2) ∧ w'.cell? ⟨gb215, 3, none⟩ = some (.int .i64 a1_3) ∧ w'.cell? ⟨gb215, 4, none⟩ = some (.int .i64 a1_4) ∧ w'.cell? ⟨gb215, 5, none⟩ = some (.int .i64 a1_5) ∧ w'.cell? ⟨gb216, 0, none⟩ = some (.bool a2_0) ∧ w'.cell? ⟨gb216, 1, none⟩ = some (.int .i64 a2_1) ∧ w'.cell? ⟨gb216, 2, none⟩ = some (.int .i64 a2_2) ∧ w'.cell? ⟨gb216, 3, none⟩ = some (.int .i64 a2_3) ∧ w'.cell? ⟨gb216, 4, none⟩ = some (.int .i64 a2_4) ∧ w'.cell? ⟨gb216, 5, none⟩ = some (.int .i64 a2_5)) (ds := []) m0_ (by kernel_rfl) rfl rfl ⟨q7_ BK214 0 rfl, q7_ BK214 1 rfl, q7_ BK214 2 rfl, q7_ BK214 3 rfl, q7_ BK214 4 rfl, q7_ BK214 5 rfl, q7_ BK215 0 rfl, q7_ BK215 1 rfl, q7_ BK215 2 rfl, q7_ BK215 3 rfl, q7_ BK215 4 rfl, q7_ BK215 5 rfl, q7_ BK216 0 rfl, q7_ BK216 1 rfl, q7_ BK216 2 rfl, q7_ BK216 3 rfl, q7_ BK216 4 rfl, q7_ BK216 5 rfl⟩ (fun hHeld => ?_); refine with_tabW seizinlaw02_CapOrder.tab5 seizinlaw02_CapOrder.bits5 (fun HT_ HW_ => ?_)
            generalize wc.drew = w131 at BK214 BK215 BK216 HB hHeld ⊢
            refine pure_ (i := 0) (N := some 58) (v := ?_) (a' := ?_) m1_ rfl rfl (any_of HT_.out (by kernel_rfl)) (fun _ _ _ h => h) (Or.inl ⟨by rfl, ?_⟩) ?_ ?_
            rotate_left
            ·intro w'
             go_simp
             with_reducible rfl
            rotate_left
            ·simp only [Act.put, q4_, q5_, q6_, i64_w, i32_w]
             rfl
            refine pure_ (i := 1) (N := some 59) (v := ?_) (a' := ?_) m2_ rfl rfl (any_of HT_.out (by kernel_rfl)) (fun _ _ _ h => h) (Or.inl ⟨by rfl, ?_⟩) ?_ ?_
            rotate_left
            ·intro w'
             go_simp
             with_reducible rfl
            rotate_left
            ·simp only [Act.put, q4_, q5_, q6_, i64_w, i32_w]
             rfl
            refine take_ (i := 2) (N := some 60) (v := ?_) (a' := ?_) m3_ rfl rfl (take_ofW HT_.out HW_.out (by kernel_rfl)) (fun _ _ _ h => h) (Or.inl ⟨by rfl, ?_⟩) hHeld ?_ ?_
            rotate_left
            ·rintro w' ⟨s0, s1, s2, s3, s4, s5, s6, s7, s8, s9, s10, s11, s12, s13, s14, s15, s16, s17⟩
             go_simp
             with_reducible rfl
            rotate_left
            ·simp only [Act.put, q4_, q5_, q6_, i64_w, i32_w]
             rfl
            refine take_ (i := 3) (N := some 61) (v := ?_) (a' := ?_) m4_ rfl rfl (take_ofW HT_.out HW_.out (by kernel_rfl)) (fun _ _ _ h => h) (Or.inl ⟨by rfl, ?_⟩) hHeld ?_ ?_
            rotate_left
            ·rintro w' ⟨s0, s1, s2, s3, s4, s5, s6, s7, s8, s9, s10, s11, s12, s13, s14, s15, s16, s17⟩
             go_simp
             with_reducible rfl
            rotate_left
            ·simp only [Act.put, q4_, q5_, q6_, i64_w, i32_w]
             rfl
            refine one_ (i := 4) (N := some 62) m5_ rfl rfl (one_of HT_.out (by kernel_rfl)) (by decide) (fun K hK => ?_)
            refine goes_ Try.func41 (by kernel_rfl) rfl #[.agg #[.bool a0_0, .int .i64 a0_1, .int .i64 a0_2, .int .i64 a0_3, .int .i64 a0_4, .int .i64 a0_5], .agg #[.bool a0_0, .int .i64 a0_1, .int .i64 a0_2, .int .i64 a0_3, .int .i64 a0_4, .int .i64 a0_5]] (by rfl) rfl rfl (by (try simp only [List.map_toArray, List.map_cons, List.map_nil]); first | done | rfl | (simp only [List.length_drop, List.length_take]; rfl)) ?_
            with_reducible refine (cap_Under.calls a0_0 a0_1 a0_2 a0_3 a0_4 a0_5 a0_0 a0_1 a0_2 a0_3 a0_4 a0_5 true _ A91.out).mono ?_
            rintro e w132 ⟨rfl, hb⟩
            refine ⟨_, rfl, ?_⟩
            have n0_ := q1_ BK214 hb
            have n1_ := q1_ BK215 hb
            have n2_ := q1_ BK216 hb
            have n3_ := q2_ HB hb
            clear BK214
            clear BK215
            clear BK216
            clear HB
            have BK214 := n0_
            have BK215 := n1_
            have BK216 := n2_
            have HB := n3_
            clear n0_ n1_ n2_ n3_
            (try clear hb)
            (try clear hb2)
            (try clear hk)
            (try clear hi)
            refine hK.out _ _ ⟨q7_ BK214 0 rfl, q7_ BK214 1 rfl, q7_ BK214 2 rfl, q7_ BK214 3 rfl, q7_ BK214 4 rfl, q7_ BK214 5 rfl, q7_ BK215 0 rfl, q7_ BK215 1 rfl, q7_ BK215 2 rfl, q7_ BK215 3 rfl, q7_ BK215 4 rfl, q7_ BK215 5 rfl, q7_ BK216 0 rfl, q7_ BK216 1 rfl, q7_ BK216 2 rfl, q7_ BK216 3 rfl, q7_ BK216 4 rfl, q7_ BK216 5 rfl⟩ (fun hHeld => ?_)
            clear hK K
            refine norm_ (a' := ?_) ?_ ?_
            rotate_left
            ·show Act.put _ (some 62) _ = _
             simp only [Act.put, q4_, q5_, q6_, i64_w, i32_w]
             rfl
            refine pure_ (i := 5) (N := some 63) (v := ?_) (a' := ?_) m6_ rfl rfl (any_of HT_.out (by kernel_rfl)) (fun _ _ _ h => h) (Or.inl ⟨by rfl, ?_⟩) ?_ ?_
            rotate_left
            ·intro w'
             go_simp
             with_reducible rfl
            rotate_left
            ·simp only [Act.put, q4_, q5_, q6_, i64_w, i32_w]
             rfl
            refine pure_ (i := 6) (N := some 64) (v := ?_) (a' := ?_) m7_ rfl rfl (any_of HT_.out (by kernel_rfl)) (fun _ _ _ h => h) (Or.inl ⟨by rfl, ?_⟩) ?_ ?_
            rotate_left
            ·intro w'
             go_simp
             with_reducible rfl
            rotate_left
            ·simp only [Act.put, q4_, q5_, q6_, i64_w, i32_w]
             rfl
            refine take_ (i := 7) (N := some 65) (v := ?_) (a' := ?_) m8_ rfl rfl (take_ofW HT_.out HW_.out (by kernel_rfl)) (fun _ _ _ h => h) (Or.inl ⟨by rfl, ?_⟩) hHeld ?_ ?_
            rotate_left
            ·rintro w' ⟨s0, s1, s2, s3, s4, s5, s6, s7, s8, s9, s10, s11, s12, s13, s14, s15, s16, s17⟩
             go_simp
             with_reducible rfl
            rotate_left
            ·simp only [Act.put, q4_, q5_, q6_, i64_w, i32_w]
             rfl
            refine take_ (i := 8) (N := some 66) (v := ?_) (a' := ?_) m9_ rfl rfl (take_ofW HT_.out HW_.out (by kernel_rfl)) (fun _ _ _ h => h) (Or.inl ⟨by rfl, ?_⟩) hHeld ?_ ?_
            rotate_left
            ·rintro w' ⟨s0, s1, s2, s3, s4, s5, s6, s7, s8, s9, s10, s11, s12, s13, s14, s15, s16, s17⟩
             go_simp
             with_reducible rfl
            rotate_left
            ·simp only [Act.put, q4_, q5_, q6_, i64_w, i32_w]
             rfl
            refine one_ (i := 9) (N := some 67) m10_ rfl rfl (one_of HT_.out (by kernel_rfl)) (by decide) (fun K hK => ?_)
            refine goes_ Try.func41 (by kernel_rfl) rfl #[.agg #[.bool a0_0, .int .i64 a0_1, .int .i64 a0_2, .int .i64 a0_3, .int .i64 a0_4, .int .i64 a0_5], .agg #[.bool a1_0, .int .i64 a1_1, .int .i64 a1_2, .int .i64 a1_3, .int .i64 a1_4, .int .i64 a1_5]] (by rfl) rfl rfl (by (try simp only [List.map_toArray, List.map_cons, List.map_nil]); first | done | rfl | (simp only [List.length_drop, List.length_take]; rfl)) ?_
            with_reducible refine (cap_Under.calls a0_0 a0_1 a0_2 a0_3 a0_4 a0_5 a1_0 a1_1 a1_2 a1_3 a1_4 a1_5 true _ A93.out).mono ?_
            rintro e w133 ⟨rfl, hb⟩
            refine ⟨_, rfl, ?_⟩
            have n0_ := q1_ BK214 hb
            have n1_ := q1_ BK215 hb
            have n2_ := q1_ BK216 hb
            have n3_ := q2_ HB hb
            clear BK214
            clear BK215
            clear BK216
            clear HB
            have BK214 := n0_
            have BK215 := n1_
            have BK216 := n2_
            have HB := n3_
            clear n0_ n1_ n2_ n3_
            (try clear hb)
            (try clear hb2)
            (try clear hk)
            (try clear hi)
            refine hK.out _ _ ⟨q7_ BK214 0 rfl, q7_ BK214 1 rfl, q7_ BK214 2 rfl, q7_ BK214 3 rfl, q7_ BK214 4 rfl, q7_ BK214 5 rfl, q7_ BK215 0 rfl, q7_ BK215 1 rfl, q7_ BK215 2 rfl, q7_ BK215 3 rfl, q7_ BK215 4 rfl, q7_ BK215 5 rfl, q7_ BK216 0 rfl, q7_ BK216 1 rfl, q7_ BK216 2 rfl, q7_ BK216 3 rfl, q7_ BK216 4 rfl, q7_ BK216 5 rfl⟩ (fun hHeld => ?_)
            clear hK K
            refine norm_ (a' := ?_) ?_ ?_
            rotate_left
            ·show Act.put _ (some 67) _ = _
             simp only [Act.put, q4_, q5_, q6_, i64_w, i32_w]
             rfl
            refine pure_ (i := 10) (N := some 68) (v := ?_) (a' := ?_) m11_ rfl rfl (any_of HT_.out (by kernel_rfl)) (fun _ _ _ h => h) (Or.inl ⟨by rfl, ?_⟩) ?_ ?_
            rotate_left
            ·intro w'
             go_simp
             with_reducible rfl
            rotate_left
            ·simp only [Act.put, q4_, q5_, q6_, i64_w, i32_w]
             rfl
            refine pure_ (i := 11) (N := some 69) (v := ?_) (a' := ?_) m12_ rfl rfl (any_of HT_.out (by kernel_rfl)) (fun _ _ _ h => h) (Or.inl ⟨by rfl, ?_⟩) ?_ ?_
            rotate_left
            ·intro w'
             go_simp
             with_reducible rfl
            rotate_left
            ·simp only [Act.put, q4_, q5_, q6_, i64_w, i32_w]
             rfl
            refine take_ (i := 12) (N := some 70) (v := ?_) (a' := ?_) m13_ rfl rfl (take_ofW HT_.out HW_.out (by kernel_rfl)) (fun _ _ _ h => h) (Or.inl ⟨by rfl, ?_⟩) hHeld ?_ ?_
            rotate_left
            ·rintro w' ⟨s0, s1, s2, s3, s4, s5, s6, s7, s8, s9, s10, s11, s12, s13, s14, s15, s16, s17⟩
             go_simp
             with_reducible rfl
            rotate_left
            ·simp only [Act.put, q4_, q5_, q6_, i64_w, i32_w]
             rfl
            refine take_ (i := 13) (N := some 71) (v := ?_) (a' := ?_) m14_ rfl rfl (take_ofW HT_.out HW_.out (by kernel_rfl)) (fun _ _ _ h => h) (Or.inl ⟨by rfl, ?_⟩) hHeld ?_ ?_
            rotate_left
            ·rintro w' ⟨s0, s1, s2, s3, s4, s5, s6, s7, s8, s9, s10, s11, s12, s13, s14, s15, s16, s17⟩
             go_simp
             with_reducible rfl
            rotate_left
            ·simp only [Act.put, q4_, q5_, q6_, i64_w, i32_w]
             rfl
            refine one_ (i := 14) (N := some 72) m15_ rfl rfl (one_of HT_.out (by kernel_rfl)) (by decide) (fun K hK => ?_)
            refine goes_ Try.func41 (by kernel_rfl) rfl #[.agg #[.bool a1_0, .int .i64 a1_1, .int .i64 a1_2, .int .i64 a1_3, .int .i64 a1_4, .int .i64 a1_5], .agg #[.bool a2_0, .int .i64 a2_1, .int .i64 a2_2, .int .i64 a2_3, .int .i64 a2_4, .int .i64 a2_5]] (by rfl) rfl rfl (by (try simp only [List.map_toArray, List.map_cons, List.map_nil]); first | done | rfl | (simp only [List.length_drop, List.length_take]; rfl)) ?_
            with_reducible refine (cap_Under.calls a1_0 a1_1 a1_2 a1_3 a1_4 a1_5 a2_0 a2_1 a2_2 a2_3 a2_4 a2_5 false _ A95.out).mono ?_
            rintro e w134 ⟨rfl, hb⟩
            refine ⟨_, rfl, ?_⟩
            have n0_ := q1_ BK214 hb
            have n1_ := q1_ BK215 hb
            have n2_ := q1_ BK216 hb
            have n3_ := q2_ HB hb
            clear BK214
            clear BK215
            clear BK216
            clear HB
            have BK214 := n0_
            have BK215 := n1_
            have BK216 := n2_
            have HB := n3_
            clear n0_ n1_ n2_ n3_
            (try clear hb)
            (try clear hb2)
            (try clear hk)
            (try clear hi)
            refine hK.out _ _ ⟨q7_ BK214 0 rfl, q7_ BK214 1 rfl, q7_ BK214 2 rfl, q7_ BK214 3 rfl, q7_ BK214 4 rfl, q7_ BK214 5 rfl, q7_ BK215 0 rfl, q7_ BK215 1 rfl, q7_ BK215 2 rfl, q7_ BK215 3 rfl, q7_ BK215 4 rfl, q7_ BK215 5 rfl, q7_ BK216 0 rfl, q7_ BK216 1 rfl, q7_ BK216 2 rfl, q7_ BK216 3 rfl, q7_ BK216 4 rfl, q7_ BK216 5 rfl⟩ (fun hHeld => ?_)
            clear hK K
            refine norm_ (a' := ?_) ?_ ?_
            rotate_left
            ·show Act.put _ (some 72) _ = _
             simp only [Act.put, q4_, q5_, q6_, i64_w, i32_w]
             rfl
            refine pure_ (i := 15) (N := some 73) (v := ?_) (a' := ?_) m16_ rfl rfl (any_of HT_.out (by kernel_rfl)) (fun _ _ _ h => h) (Or.inl ⟨by rfl, ?_⟩) ?_ ?_
            rotate_left
            ·intro w'
             go_simp
             with_reducible rfl
            rotate_left
            ·simp only [Act.put, q4_, q5_, q6_, i64_w, i32_w]
             rfl
            refine pure_ (i := 16) (N := some 74) (v := ?_) (a' := ?_) m17_ rfl rfl (any_of HT_.out (by kernel_rfl)) (fun _ _ _ h => h) (Or.inl ⟨by rfl, ?_⟩) ?_ ?_
            rotate_left
            ·intro w'
             go_simp
             with_reducible rfl
            rotate_left
            ·simp only [Act.put, q4_, q5_, q6_, i64_w, i32_w]
             rfl
            refine pure_ (i := 17) (N := some 75) (v := ?_) (a' := ?_) m18_ rfl rfl (any_of HT_.out (by kernel_rfl)) (fun _ _ _ h => h) (Or.inl ⟨by rfl, ?_⟩) ?_ ?_
            rotate_left
            ·intro w'
             go_simp
             with_reducible rfl
            rotate_left
            ·simp only [Act.put, q4_, q5_, q6_, i64_w, i32_w]
             rfl
            refine pure_ (i := 18) (N := some 76) (v := undef) (a' := ?_) m19_ rfl rfl (any_of HT_.out (by kernel_rfl)) (fun _ _ _ h => h) (Or.inr ⟨by rfl, rfl⟩) ?_ ?_
            rotate_left
            ·simp only [Act.put, q4_, q5_, q6_, i64_w, i32_w]
             rfl
            refine pure_ (i := 19) (N := some 77) (v := undef) (a' := ?_) m20_ rfl rfl (any_of HT_.out (by kernel_rfl)) (fun _ _ _ h => h) (Or.inr ⟨by rfl, rfl⟩) ?_ ?_
            rotate_left
            ·simp only [Act.put, q4_, q5_, q6_, i64_w, i32_w]
             rfl
            refine pure_ (i := 20) (N := some 78) (v := undef) (a' := ?_) m21_ rfl rfl (any_of HT_.out (by kernel_rfl)) (fun _ _ _ h => h) (Or.inr ⟨by rfl, rfl⟩) ?_ ?_
            rotate_left
            ·simp only [Act.put, q4_, q5_, q6_, i64_w, i32_w]
             rfl
            refine pure_ (i := 21) (N := some 79) (v := ?_) (a' := ?_) m22_ rfl rfl (any_of HT_.out (by kernel_rfl)) (fun _ _ _ h => h) (Or.inl ⟨by rfl, ?_⟩) ?_ ?_
            rotate_left
            ·intro w'
             go_simp
             with_reducible rfl
            rotate_left
            ·simp only [Act.put, q4_, q5_, q6_, i64_w, i32_w]
             rfl
            refine pure_ (i := 22) (N := some 80) (v := ?_) (a' := ?_) m23_ rfl rfl (any_of HT_.out (by kernel_rfl)) (fun _ _ _ h => h) (Or.inl ⟨by rfl, ?_⟩) ?_ ?_
            rotate_left
            ·intro w'
             go_simp
             with_reducible rfl
            rotate_left
            ·simp only [Act.put, q4_, q5_, q6_, i64_w, i32_w]
             rfl
            refine pure_ (i := 23) (N := some 81) (v := ?_) (a' := ?_) m24_ rfl rfl (any_of HT_.out (by kernel_rfl)) (fun _ _ _ h => h) (Or.inl ⟨by rfl, ?_⟩) ?_ ?_
            rotate_left
            ·intro w'
             go_simp
             with_reducible rfl
            rotate_left
            ·simp only [Act.put, q4_, q5_, q6_, i64_w, i32_w]
             rfl
            refine pure_ (i := 32) (N := some 90) (v := ?_) (a' := ?_) m25_ rfl rfl (any_of HT_.out (by kernel_rfl)) (fun _ _ _ h => h) (Or.inl ⟨by rfl, ?_⟩) ?_ ?_
            rotate_left
            ·intro w'
             go_simp
             with_reducible rfl
            rotate_left
            ·simp only [Act.put, q4_, q5_, q6_, i64_w, i32_w]
             rfl
            refine take_ (i := 24) (N := some 82) (v := ?_) (a' := ?_) m26_ rfl rfl (take_ofW HT_.out HW_.out (by kernel_rfl)) (fun _ _ _ h => h) (Or.inl ⟨by rfl, ?_⟩) hHeld ?_ ?_
            rotate_left
            ·rintro w' ⟨s0, s1, s2, s3, s4, s5, s6, s7, s8, s9, s10, s11, s12, s13, s14, s15, s16, s17⟩
             go_simp
             with_reducible rfl
            rotate_left
            ·simp only [Act.put, q4_, q5_, q6_, i64_w, i32_w]
             rfl
            refine take_ (i := 25) (N := some 83) (v := ?_) (a' := ?_) m27_ rfl rfl (take_ofW HT_.out HW_.out (by kernel_rfl)) (fun _ _ _ h => h) (Or.inl ⟨by rfl, ?_⟩) hHeld ?_ ?_
            rotate_left
            ·rintro w' ⟨s0, s1, s2, s3, s4, s5, s6, s7, s8, s9, s10, s11, s12, s13, s14, s15, s16, s17⟩
             go_simp
             with_reducible rfl
            rotate_left
            ·simp only [Act.put, q4_, q5_, q6_, i64_w, i32_w]
             rfl
            refine one_ (i := 26) (N := some 84) m28_ rfl rfl (one_of HT_.out (by kernel_rfl)) (by decide) (fun K hK => ?_)
            refine goes_ Try.func41 (by kernel_rfl) rfl #[.agg #[.bool a0_0, .int .i64 a0_1, .int .i64 a0_2, .int .i64 a0_3, .int .i64 a0_4, .int .i64 a0_5], .agg #[.bool a1_0, .int .i64 a1_1, .int .i64 a1_2, .int .i64 a1_3, .int .i64 a1_4, .int .i64 a1_5]] (by rfl) rfl rfl (by (try simp only [List.map_toArray, List.map_cons, List.map_nil]); first | done | rfl | (simp only [List.length_drop, List.length_take]; rfl)) ?_
            with_reducible refine (cap_Under.calls a0_0 a0_1 a0_2 a0_3 a0_4 a0_5 a1_0 a1_1 a1_2 a1_3 a1_4 a1_5 true _ A125.out).mono ?_
            rintro e w135 ⟨rfl, hb⟩
            refine ⟨_, rfl, ?_⟩
            have n0_ := q1_ BK214 hb
            have n1_ := q1_ BK215 hb
            have n2_ := q1_ BK216 hb
            have n3_ := q2_ HB hb
            clear BK214
            clear BK215
            clear BK216
            clear HB
            have BK214 := n0_
            have BK215 := n1_
            have BK216 := n2_
            have HB := n3_
            clear n0_ n1_ n2_ n3_
            (try clear hb)
            (try clear hb2)
            (try clear hk)
            (try clear hi)
            refine hK.out _ _ ⟨q7_ BK214 0 rfl, q7_ BK214 1 rfl, q7_ BK214 2 rfl, q7_ BK214 3 rfl, q7_ BK214 4 rfl, q7_ BK214 5 rfl, q7_ BK215 0 rfl, q7_ BK215 1 rfl, q7_ BK215 2 rfl, q7_ BK215 3 rfl, q7_ BK215 4 rfl, q7_ BK215 5 rfl, q7_ BK216 0 rfl, q7_ BK216 1 rfl, q7_ BK216 2 rfl, q7_ BK216 3 rfl, q7_ BK216 4 rfl, q7_ BK216 5 rfl⟩ (fun hHeld => ?_)
            clear hK K
            refine norm_ (a' := ?_) ?_ ?_
            rotate_left
            ·show Act.put _ (some 84) _ = _
             simp only [Act.put, q4_, q5_, q6_, i64_w, i32_w]
             rfl
            refine pure_ (i := 27) (N := some 85) (v := ?_) (a' := ?_) m29_ rfl rfl (any_of HT_.out (by kernel_rfl)) (fun _ _ _ h => h) (Or.inl ⟨by rfl, ?_⟩) ?_ ?_
            rotate_left
            ·intro w'
             go_simp
             with_reducible rfl
            rotate_left
            ·simp only [Act.put, q4_, q5_, q6_, i64_w, i32_w]
             rfl
            refine take_ (i := 28) (N := some 86) (v := ?_) (a' := ?_) m30_ rfl rfl (take_ofW HT_.out HW_.out (by kernel_rfl)) (fun _ _ _ h => h) (Or.inl ⟨by rfl, ?_⟩) hHeld ?_ ?_
            rotate_left
            ·rintro w' ⟨s0, s1, s2, s3, s4, s5, s6, s7, s8, s9, s10, s11, s12, s13, s14, s15, s16, s17⟩
             go_simp
             with_reducible rfl
            rotate_left
            ·simp only [Act.put, q4_, q5_, q6_, i64_w, i32_w]
             rfl
            refine take_ (i := 29) (N := some 87) (v := ?_) (a' := ?_) m31_ rfl rfl (take_ofW HT_.out HW_.out (by kernel_rfl)) (fun _ _ _ h => h) (Or.inl ⟨by rfl, ?_⟩) hHeld ?_ ?_
            rotate_left
            ·rintro w' ⟨s0, s1, s2, s3, s4, s5, s6, s7, s8, s9, s10, s11, s12, s13, s14, s15, s16, s17⟩
             go_simp
             with_reducible rfl
            rotate_left
            ·simp only [Act.put, q4_, q5_, q6_, i64_w, i32_w]
             rfl
            refine one_ (i := 30) (N := some 88) m32_ rfl rfl (one_of HT_.out (by kernel_rfl)) (by decide) (fun K hK => ?_)
            refine goes_ Try.func41 (by kernel_rfl) rfl #[.agg #[.bool a1_0, .int .i64 a1_1, .int .i64 a1_2, .int .i64 a1_3, .int .i64 a1_4, .int .i64 a1_5], .agg #[.bool a0_0, .int .i64 a0_1, .int .i64 a0_2, .int .i64 a0_3, .int .i64 a0_4, .int .i64 a0_5]] (by rfl) rfl rfl (by (try simp only [List.map_toArray, List.map_cons, List.map_nil]); first | done | rfl | (simp only [List.length_drop, List.length_take]; rfl)) ?_
            with_reducible refine (cap_Under.calls a1_0 a1_1 a1_2 a1_3 a1_4 a1_5 a0_0 a0_1 a0_2 a0_3 a0_4 a0_5 t242 _ A127.out).mono ?_
            rintro e w136 ⟨rfl, hb⟩
            refine ⟨_, rfl, ?_⟩
            have n0_ := q1_ BK214 hb
            have n1_ := q1_ BK215 hb
            have n2_ := q1_ BK216 hb
            have n3_ := q2_ HB hb
            clear BK214
            clear BK215
            clear BK216
            clear HB
            have BK214 := n0_
            have BK215 := n1_
            have BK216 := n2_
            have HB := n3_
            clear n0_ n1_ n2_ n3_
            (try clear hb)
            (try clear hb2)
            (try clear hk)
            (try clear hi)
            refine hK.out _ _ ⟨q7_ BK214 0 rfl, q7_ BK214 1 rfl, q7_ BK214 2 rfl, q7_ BK214 3 rfl, q7_ BK214 4 rfl, q7_ BK214 5 rfl, q7_ BK215 0 rfl, q7_ BK215 1 rfl, q7_ BK215 2 rfl, q7_ BK215 3 rfl, q7_ BK215 4 rfl, q7_ BK215 5 rfl, q7_ BK216 0 rfl, q7_ BK216 1 rfl, q7_ BK216 2 rfl, q7_ BK216 3 rfl, q7_ BK216 4 rfl, q7_ BK216 5 rfl⟩ (fun hHeld => ?_)
            clear hK K
            refine norm_ (a' := ?_) ?_ ?_
            rotate_left
            ·show Act.put _ (some 88) _ = _
             simp only [Act.put, q4_, q5_, q6_, i64_w, i32_w]
             rfl
            refine pure_ (i := 31) (N := some 89) (v := ?_) (a' := ?_) m33_ rfl rfl (any_of HT_.out (by kernel_rfl)) (fun _ _ _ h => h) (Or.inl ⟨by rfl, ?_⟩) ?_ ?_
            rotate_left
            ·intro w'
             go_simp
             with_reducible rfl
            rotate_left
            ·simp only [Act.put, q4_, q5_, q6_, i64_w, i32_w]
             rfl
            refine pure_ (i := 33) (N := some 91) (v := ?_) (a' := ?_) m34_ rfl rfl (any_of HT_.out (by kernel_rfl)) (fun _ _ _ h => h) (Or.inl ⟨by rfl, ?_⟩) ?_ ?_
            rotate_left
            ·intro w'
             go_simp
             with_reducible rfl
            rotate_left
            ·simp only [Act.put, q4_, q5_, q6_, i64_w, i32_w]
             rfl
            refine pure_ (i := 34) (N := some 92) (v := ?_) (a' := ?_) m35_ rfl rfl (any_of HT_.out (by kernel_rfl)) (fun _ _ _ h => h) (Or.inl ⟨by rfl, ?_⟩) ?_ ?_
            rotate_left
            ·intro w'
             go_simp
             with_reducible rfl
            rotate_left
            ·simp only [Act.put, q4_, q5_, q6_, i64_w, i32_w]
             rfl
            refine pure_ (i := 35) (N := some 93) (v := ?_) (a' := ?_) m36_ rfl rfl (any_of HT_.out (by kernel_rfl)) (fun _ _ _ h => h) (Or.inl ⟨by rfl, ?_⟩) ?_ ?_
            rotate_left
            ·intro w'
             go_simp
             with_reducible rfl
            rotate_left
            ·simp only [Act.put, q4_, q5_, q6_, i64_w, i32_w]
             rfl
            refine take_ (i := 36) (N := some 94) (v := ?_) (a' := ?_) m37_ rfl rfl (take_ofW HT_.out HW_.out (by kernel_rfl)) (fun _ _ _ h => h) (Or.inl ⟨by rfl, ?_⟩) hHeld ?_ ?_
            rotate_left
            ·rintro w' ⟨s0, s1, s2, s3, s4, s5, s6, s7, s8, s9, s10, s11, s12, s13, s14, s15, s16, s17⟩
             go_simp
             with_reducible rfl
            rotate_left
            ·simp only [Act.put, q4_, q5_, q6_, i64_w, i32_w]
             rfl
            refine one_ (i := 37) (N := some 95) m38_ rfl rfl (one_of HT_.out (by kernel_rfl)) (by decide) (fun K hK => ?_)
            refine goes_ Try.func45 (by kernel_rfl) rfl #[.int .i64 16777216] (by rfl) rfl rfl (by (try simp only [List.map_toArray, List.map_cons, List.map_nil]); first | done | rfl | (simp only [List.length_drop, List.length_take]; rfl)) ?_
            with_reducible refine (cap_Root.calls 16777216 t243 t244 t245 t246 t247 t248 _ A129.out).mono ?_
            rintro e w137 ⟨rfl, hb⟩
            refine ⟨_, rfl, ?_⟩
            have n0_ := q1_ BK214 hb
            have n1_ := q1_ BK215 hb
            have n2_ := q1_ BK216 hb
            have n3_ := q2_ HB hb
            clear BK214
            clear BK215
            clear BK216
            clear HB
            have BK214 := n0_
            have BK215 := n1_
            have BK216 := n2_
            have HB := n3_
            clear n0_ n1_ n2_ n3_
            (try clear hb)
            (try clear hb2)
            (try clear hk)
            (try clear hi)
            refine hK.out _ _ ⟨q7_ BK214 0 rfl, q7_ BK214 1 rfl, q7_ BK214 2 rfl, q7_ BK214 3 rfl, q7_ BK214 4 rfl, q7_ BK214 5 rfl, q7_ BK215 0 rfl, q7_ BK215 1 rfl, q7_ BK215 2 rfl, q7_ BK215 3 rfl, q7_ BK215 4 rfl, q7_ BK215 5 rfl, q7_ BK216 0 rfl, q7_ BK216 1 rfl, q7_ BK216 2 rfl, q7_ BK216 3 rfl, q7_ BK216 4 rfl, q7_ BK216 5 rfl⟩ (fun hHeld => ?_)
            clear hK K
            refine norm_ (a' := ?_) ?_ ?_
            rotate_left
            ·show Act.put _ (some 95) _ = _
             simp only [Act.put, q4_, q5_, q6_, i64_w, i32_w]
             rfl
            refine one_ (i := 38) (N := some 96) m39_ rfl rfl (one_of HT_.out (by kernel_rfl)) (by decide) (fun K hK => ?_)
            refine goes_ Try.func41 (by kernel_rfl) rfl #[.agg #[.bool a0_0, .int .i64 a0_1, .int .i64 a0_2, .int .i64 a0_3, .int .i64 a0_4, .int .i64 a0_5], .agg #[.bool t243, .int .i64 t244, .int .i64 t245, .int .i64 t246, .int .i64 t247, .int .i64 t248]] (by rfl) rfl rfl (by (try simp only [List.map_toArray, List.map_cons, List.map_nil]); first | done | rfl | (simp only [List.length_drop, List.length_take]; rfl)) ?_
            with_reducible refine (cap_Under.calls a0_0 a0_1 a0_2 a0_3 a0_4 a0_5 t243 t244 t245 t246 t247 t248 t249 _ A130.out).mono ?_
            rintro e w138 ⟨rfl, hb⟩
            refine ⟨_, rfl, ?_⟩
            have n0_ := q1_ BK214 hb
            have n1_ := q1_ BK215 hb
            have n2_ := q1_ BK216 hb
            have n3_ := q2_ HB hb
            clear BK214
            clear BK215
            clear BK216
            clear HB
            have BK214 := n0_
            have BK215 := n1_
            have BK216 := n2_
            have HB := n3_
            clear n0_ n1_ n2_ n3_
            (try clear hb)
            (try clear hb2)
            (try clear hk)
            (try clear hi)
            refine hK.out _ _ ⟨q7_ BK214 0 rfl, q7_ BK214 1 rfl, q7_ BK214 2 rfl, q7_ BK214 3 rfl, q7_ BK214 4 rfl, q7_ BK214 5 rfl, q7_ BK215 0 rfl, q7_ BK215 1 rfl, q7_ BK215 2 rfl, q7_ BK215 3 rfl, q7_ BK215 4 rfl, q7_ BK215 5 rfl, q7_ BK216 0 rfl, q7_ BK216 1 rfl, q7_ BK216 2 rfl, q7_ BK216 3 rfl, q7_ BK216 4 rfl, q7_ BK216 5 rfl⟩ (fun hHeld => ?_)
            clear hK K
            refine norm_ (a' := ?_) ?_ ?_
            rotate_left
            ·show Act.put _ (some 96) _ = _
             simp only [Act.put, q4_, q5_, q6_, i64_w, i32_w]
             rfl
            refine pure_ (i := 39) (N := some 97) (v := ?_) (a' := ?_) m40_ rfl rfl (any_of HT_.out (by kernel_rfl)) (fun _ _ _ h => h) (Or.inl ⟨by rfl, ?_⟩) ?_ ?_
            rotate_left
            ·intro w'
             go_simp
             with_reducible rfl
            rotate_left
            ·simp only [Act.put, q4_, q5_, q6_, i64_w, i32_w]
             rfl
            refine pure_ (i := 40) (N := some 6) (v := ?_) (a' := ?_) m41_ rfl rfl (any_of HT_.out (by kernel_rfl)) (fun _ _ _ h => h) (Or.inl ⟨by rfl, ?_⟩) ?_ ?_
            rotate_left
            ·intro w'
             go_simp
             with_reducible rfl
            rotate_left
            ·simp only [Act.put, q4_, q5_, q6_, i64_w, i32_w]
             rfl
            refine done_ (done_of HT_.out (by kernel_rfl)) ?_
            try go_wp2
            go_ret
            exact ⟨by first | rfl | (simp [errW_none, errW_some] <;> rfl) | (simp [*, errW_none, errW_some] <;> rfl), by repeat (first | (with_reducible first | exact HB.out | apply below_alloc | apply pw_below_drewN | apply below_drew1 | refine below_set ?_ GE214.out | refine below_set ?_ GE215.out | refine below_set ?_ GE216.out) | exact HB.out)⟩
           ·rw [if_neg c128] at H
            have c128b0 : (t242 == x8_71) = false := by simpa using c128
            (try (have c128b1 : decide (t242 = x8_71) = false := by simpa using c128))
            (try (have c128b2 : (t242 == x8_71) = false := by simpa using c128))
            (try (have c128b3 : ¬ (t242 = x8_71) := by simpa using c128))
            clear c128
            exact absurd ((Option.some.inj H).trans hr_) (by decide)
          ·replace c126 := Bool.eq_false_iff.mpr c126
           subst c126
           have H1 : (if (false == x8_71) = true then ((cap_Root.f 16777216).bind fun bt250 => ((cap_Under.f a0_0 a0_1 a0_2 a0_3 a0_4 a0_5 bt250.1 bt250.2.1 bt250.2.2.1 bt250.2.2.2.1 bt250.2.2.2.2.1 bt250.2.2.2.2.2).bind fun t256 => (some t256))) else (some false)) = some r := by rw [if_neg (show ¬ (false = true) by decide)] at H; exact H
           clear H
           have H := H1
           clear H1
           by_cases c139 : (false == x8_71) = true
           ·rw [if_pos c139] at H
            have c139b0 : (false == x8_71) = true := c139
            (try (have c139b1 : decide (false = x8_71) = true := by simpa using c139))
            (try (have c139b2 : (false == x8_71) = true := by simpa using c139))
            clear c139
            replace H := Option.bind_eq_some_iff.mp H
            obtain ⟨⟨t250, t251, t252, t253, t254, t255⟩, A1400, H⟩ := H
            replace H : ((cap_Under.f a0_0 a0_1 a0_2 a0_3 a0_4 a0_5 t250 t251 t252 t253 t254 t255).bind fun t256 => (some t256)) = some r := H
            have A140 := Aside0.mk A1400
            clear A1400
            replace H := Option.bind_eq_some_iff.mp H
            obtain ⟨t256, A1410, H⟩ := H
            replace H : (some t256) = some r := H
            have A141 := Aside0.mk A1410
            clear A1410
            clear hr_
            obtain rfl := Option.some.inj H
            try go_wp2
            have n0_ := Aside0.mk (blk_drew BK214.out)
            have n1_ := Aside0.mk (blk_drew BK215.out)
            have n2_ := Aside0.mk (blk_drew BK216.out)
            have n3_ := Aside0.mk (below_drew1 HB.out)
            clear BK214
            clear BK215
            clear BK216
            clear HB
            have BK214 := n0_
            have BK215 := n1_
            have BK216 := n2_
            have HB := n3_
            clear n0_ n1_ n2_ n3_
            refine start_ (n := 41) (S := fun w' => w'.cell? ⟨gb214, 0, none⟩ = some (.bool a0_0) ∧ w'.cell? ⟨gb214, 1, none⟩ = some (.int .i64 a0_1) ∧ w'.cell? ⟨gb214, 2, none⟩ = some (.int .i64 a0_2) ∧ w'.cell? ⟨gb214, 3, none⟩ = some (.int .i64 a0_3) ∧ w'.cell? ⟨gb214, 4, none⟩ = some (.int .i64 a0_4) ∧ w'.cell? ⟨gb214, 5, none⟩ = some (.int .i64 a0_5) ∧ w'.cell? ⟨gb215, 0, none⟩ = some (.bool a1_0) ∧ w'.cell? ⟨gb215, 1, none⟩ = some (.int .i64 a1_1) ∧ w'.cell? ⟨gb215, 2, none⟩ = some (.int .i64 a1_2) ∧ w'.cell? ⟨gb215, 3, none⟩ = some (.int .i64 a1_3) ∧ w'.cell? ⟨gb215, 4, none⟩ = some (.int .i64 a1_4) ∧ w'.cell? ⟨gb215, 5, none⟩ = some (.int .i64 a1_5) ∧ w'.cell? ⟨gb216, 0, none⟩ = some (.bool a2_0) ∧ w'.cell? ⟨gb216, 1, none⟩ = some (.int .i64 a2_1) ∧ w'.cell? ⟨gb216, 2, none⟩ = some (.int .i64 a2_2) ∧ w'.cell? ⟨gb216, 3, none⟩ = some (.int .i64 a2_3) ∧ w'.cell? ⟨gb216, 4, none⟩ = some (.int .i64 a2_4) ∧ w'.cell? ⟨gb216, 5, none⟩ = some (.int .i64 a2_5)) (ds := []) m0_ (by kernel_rfl) rfl rfl ⟨q7_ BK214 0 rfl, q7_ BK214 1 rfl, q7_ BK214 2 rfl, q7_ BK214 3 rfl, q7_ BK214 4 rfl, q7_ BK214 5 rfl, q7_ BK215 0 rfl, q7_ BK215 1 rfl, q7_ BK215 2 rfl, q7_ BK215 3 rfl, q7_ BK215 4 rfl, q7_ BK215 5 rfl, q7_ BK216 0 rfl, q7_ BK216 1 rfl, q7_ BK216 2 rfl, q7_ BK216 3 rfl, q7_ BK216 4 rfl, q7_ BK216 5 rfl⟩ (fun hHeld => ?_); refine with_tabW seizinlaw02_CapOrder.tab5 seizinlaw02_CapOrder.bits5 (fun HT_ HW_ => ?_)
            generalize wc.drew = w142 at BK214 BK215 BK216 HB hHeld ⊢
            refine pure_ (i := 0) (N := some 58) (v := ?_) (a' := ?_) m1_ rfl rfl (any_of HT_.out (by kernel_rfl)) (fun _ _ _ h => h) (Or.inl ⟨by rfl, ?_⟩) ?_ ?_
            rotate_left
            ·intro w'
             go_simp
             with_reducible rfl
            rotate_left
            ·simp only [Act.put, q4_, q5_, q6_, i64_w, i32_w]
             rfl
            refine pure_ (i := 1) (N := some 59) (v := ?_) (a' := ?_) m2_ rfl rfl (any_of HT_.out (by kernel_rfl)) (fun _ _ _ h => h) (Or.inl ⟨by rfl, ?_⟩) ?_ ?_
            rotate_left
            ·intro w'
             go_simp
             with_reducible rfl
            rotate_left
            ·simp only [Act.put, q4_, q5_, q6_, i64_w, i32_w]
             rfl
            refine take_ (i := 2) (N := some 60) (v := ?_) (a' := ?_) m3_ rfl rfl (take_ofW HT_.out HW_.out (by kernel_rfl)) (fun _ _ _ h => h) (Or.inl ⟨by rfl, ?_⟩) hHeld ?_ ?_
            rotate_left
            ·rintro w' ⟨s0, s1, s2, s3, s4, s5, s6, s7, s8, s9, s10, s11, s12, s13, s14, s15, s16, s17⟩
             go_simp
             with_reducible rfl
            rotate_left
            ·simp only [Act.put, q4_, q5_, q6_, i64_w, i32_w]
             rfl
            refine take_ (i := 3) (N := some 61) (v := ?_) (a' := ?_) m4_ rfl rfl (take_ofW HT_.out HW_.out (by kernel_rfl)) (fun _ _ _ h => h) (Or.inl ⟨by rfl, ?_⟩) hHeld ?_ ?_
            rotate_left
            ·rintro w' ⟨s0, s1, s2, s3, s4, s5, s6, s7, s8, s9, s10, s11, s12, s13, s14, s15, s16, s17⟩
             go_simp
             with_reducible rfl
            rotate_left
            ·simp only [Act.put, q4_, q5_, q6_, i64_w, i32_w]
             rfl
            refine one_ (i := 4) (N := some 62) m5_ rfl rfl (one_of HT_.out (by kernel_rfl)) (by decide) (fun K hK => ?_)
            refine goes_ Try.func41 (by kernel_rfl) rfl #[.agg #[.bool a0_0, .int .i64 a0_1, .int .i64 a0_2, .int .i64 a0_3, .int .i64 a0_4, .int .i64 a0_5], .agg #[.bool a0_0, .int .i64 a0_1, .int .i64 a0_2, .int .i64 a0_3, .int .i64 a0_4, .int .i64 a0_5]] (by rfl) rfl rfl (by (try simp only [List.map_toArray, List.map_cons, List.map_nil]); first | done | rfl | (simp only [List.length_drop, List.length_take]; rfl)) ?_
            with_reducible refine (cap_Under.calls a0_0 a0_1 a0_2 a0_3 a0_4 a0_5 a0_0 a0_1 a0_2 a0_3 a0_4 a0_5 true _ A91.out).mono ?_
            rintro e w143 ⟨rfl, hb⟩
            refine ⟨_, rfl, ?_⟩
            have n0_ := q1_ BK214 hb
            have n1_ := q1_ BK215 hb
            have n2_ := q1_ BK216 hb
            have n3_ := q2_ HB hb
            clear BK214
            clear BK215
            clear BK216
            clear HB
            have BK214 := n0_
            have BK215 := n1_
            have BK216 := n2_
            have HB := n3_
            clear n0_ n1_ n2_ n3_
            (try clear hb)
            (try clear hb2)
            (try clear hk)
            (try clear hi)
            refine hK.out _ _ ⟨q7_ BK214 0 rfl, q7_ BK214 1 rfl, q7_ BK214 2 rfl, q7_ BK214 3 rfl, q7_ BK214 4 rfl, q7_ BK214 5 rfl, q7_ BK215 0 rfl, q7_ BK215 1 rfl, q7_ BK215 2 rfl, q7_ BK215 3 rfl, q7_ BK215 4 rfl, q7_ BK215 5 rfl, q7_ BK216 0 rfl, q7_ BK216 1 rfl, q7_ BK216 2 rfl, q7_ BK216 3 rfl, q7_ BK216 4 rfl, q7_ BK216 5 rfl⟩ (fun hHeld => ?_)
            clear hK K
            refine norm_ (a' := ?_) ?_ ?_
            rotate_left
            ·show Act.put _ (some 62) _ = _
             simp only [Act.put, q4_, q5_, q6_, i64_w, i32_w]
             rfl
            refine pure_ (i := 5) (N := some 63) (v := ?_) (a' := ?_) m6_ rfl rfl (any_of HT_.out (by kernel_rfl)) (fun _ _ _ h => h) (Or.inl ⟨by rfl, ?_⟩) ?_ ?_
            rotate_left
            ·intro w'
             go_simp
             with_reducible rfl
            rotate_left
            ·simp only [Act.put, q4_, q5_, q6_, i64_w, i32_w]
             rfl
            refine pure_ (i := 6) (N := some 64) (v := ?_) (a' := ?_) m7_ rfl rfl (any_of HT_.out (by kernel_rfl)) (fun _ _ _ h => h) (Or.inl ⟨by rfl, ?_⟩) ?_ ?_
            rotate_left
            ·intro w'
             go_simp
             with_reducible rfl
            rotate_left
            ·simp only [Act.put, q4_, q5_, q6_, i64_w, i32_w]
             rfl
            refine take_ (i := 7) (N := some 65) (v := ?_) (a' := ?_) m8_ rfl rfl (take_ofW HT_.out HW_.out (by kernel_rfl)) (fun _ _ _ h => h) (Or.inl ⟨by rfl, ?_⟩) hHeld ?_ ?_
            rotate_left
            ·rintro w' ⟨s0, s1, s2, s3, s4, s5, s6, s7, s8, s9, s10, s11, s12, s13, s14, s15, s16, s17⟩
             go_simp
             with_reducible rfl
            rotate_left
            ·simp only [Act.put, q4_, q5_, q6_, i64_w, i32_w]
             rfl
            refine take_ (i := 8) (N := some 66) (v := ?_) (a' := ?_) m9_ rfl rfl (take_ofW HT_.out HW_.out (by kernel_rfl)) (fun _ _ _ h => h) (Or.inl ⟨by rfl, ?_⟩) hHeld ?_ ?_
            rotate_left
            ·rintro w' ⟨s0, s1, s2, s3, s4, s5, s6, s7, s8, s9, s10, s11, s12, s13, s14, s15, s16, s17⟩
             go_simp
             with_reducible rfl
            rotate_left
            ·simp only [Act.put, q4_, q5_, q6_, i64_w, i32_w]
             rfl
            refine one_ (i := 9) (N := some 67) m10_ rfl rfl (one_of HT_.out (by kernel_rfl)) (by decide) (fun K hK => ?_)
            refine goes_ Try.func41 (by kernel_rfl) rfl #[.agg #[.bool a0_0, .int .i64 a0_1, .int .i64 a0_2, .int .i64 a0_3, .int .i64 a0_4, .int .i64 a0_5], .agg #[.bool a1_0, .int .i64 a1_1, .int .i64 a1_2, .int .i64 a1_3, .int .i64 a1_4, .int .i64 a1_5]] (by rfl) rfl rfl (by (try simp only [List.map_toArray, List.map_cons, List.map_nil]); first | done | rfl | (simp only [List.length_drop, List.length_take]; rfl)) ?_
            with_reducible refine (cap_Under.calls a0_0 a0_1 a0_2 a0_3 a0_4 a0_5 a1_0 a1_1 a1_2 a1_3 a1_4 a1_5 true _ A93.out).mono ?_
            rintro e w144 ⟨rfl, hb⟩
            refine ⟨_, rfl, ?_⟩
            have n0_ := q1_ BK214 hb
            have n1_ := q1_ BK215 hb
            have n2_ := q1_ BK216 hb
            have n3_ := q2_ HB hb
            clear BK214
            clear BK215
            clear BK216
            clear HB
            have BK214 := n0_
            have BK215 := n1_
            have BK216 := n2_
            have HB := n3_
            clear n0_ n1_ n2_ n3_
            (try clear hb)
            (try clear hb2)
            (try clear hk)
            (try clear hi)
            refine hK.out _ _ ⟨q7_ BK214 0 rfl, q7_ BK214 1 rfl, q7_ BK214 2 rfl, q7_ BK214 3 rfl, q7_ BK214 4 rfl, q7_ BK214 5 rfl, q7_ BK215 0 rfl, q7_ BK215 1 rfl, q7_ BK215 2 rfl, q7_ BK215 3 rfl, q7_ BK215 4 rfl, q7_ BK215 5 rfl, q7_ BK216 0 rfl, q7_ BK216 1 rfl, q7_ BK216 2 rfl, q7_ BK216 3 rfl, q7_ BK216 4 rfl, q7_ BK216 5 rfl⟩ (fun hHeld => ?_)
            clear hK K
            refine norm_ (a' := ?_) ?_ ?_
            rotate_left
            ·show Act.put _ (some 67) _ = _
             simp only [Act.put, q4_, q5_, q6_, i64_w, i32_w]
             rfl
            refine pure_ (i := 10) (N := some 68) (v := ?_) (a' := ?_) m11_ rfl rfl (any_of HT_.out (by kernel_rfl)) (fun _ _ _ h => h) (Or.inl ⟨by rfl, ?_⟩) ?_ ?_
            rotate_left
            ·intro w'
             go_simp
             with_reducible rfl
            rotate_left
            ·simp only [Act.put, q4_, q5_, q6_, i64_w, i32_w]
             rfl
            refine pure_ (i := 11) (N := some 69) (v := ?_) (a' := ?_) m12_ rfl rfl (any_of HT_.out (by kernel_rfl)) (fun _ _ _ h => h) (Or.inl ⟨by rfl, ?_⟩) ?_ ?_
            rotate_left
            ·intro w'
             go_simp
             with_reducible rfl
            rotate_left
            ·simp only [Act.put, q4_, q5_, q6_, i64_w, i32_w]
             rfl
            refine take_ (i := 12) (N := some 70) (v := ?_) (a' := ?_) m13_ rfl rfl (take_ofW HT_.out HW_.out (by kernel_rfl)) (fun _ _ _ h => h) (Or.inl ⟨by rfl, ?_⟩) hHeld ?_ ?_
            rotate_left
            ·rintro w' ⟨s0, s1, s2, s3, s4, s5, s6, s7, s8, s9, s10, s11, s12, s13, s14, s15, s16, s17⟩
             go_simp
             with_reducible rfl
            rotate_left
            ·simp only [Act.put, q4_, q5_, q6_, i64_w, i32_w]
             rfl
            refine take_ (i := 13) (N := some 71) (v := ?_) (a' := ?_) m14_ rfl rfl (take_ofW HT_.out HW_.out (by kernel_rfl)) (fun _ _ _ h => h) (Or.inl ⟨by rfl, ?_⟩) hHeld ?_ ?_
            rotate_left
            ·rintro w' ⟨s0, s1, s2, s3, s4, s5, s6, s7, s8, s9, s10, s11, s12, s13, s14, s15, s16, s17⟩
             go_simp
             with_reducible rfl
            rotate_left
            ·simp only [Act.put, q4_, q5_, q6_, i64_w, i32_w]
             rfl
            refine one_ (i := 14) (N := some 72) m15_ rfl rfl (one_of HT_.out (by kernel_rfl)) (by decide) (fun K hK => ?_)
            refine goes_ Try.func41 (by kernel_rfl) rfl #[.agg #[.bool a1_0, .int .i64 a1_1, .int .i64 a1_2, .int .i64 a1_3, .int .i64 a1_4, .int .i64 a1_5], .agg #[.bool a2_0, .int .i64 a2_1, .int .i64 a2_2, .int .i64 a2_3, .int .i64 a2_4, .int .i64 a2_5]] (by rfl) rfl rfl (by (try simp only [List.map_toArray, List.map_cons, List.map_nil]); first | done | rfl | (simp only [List.length_drop, List.length_take]; rfl)) ?_
            with_reducible refine (cap_Under.calls a1_0 a1_1 a1_2 a1_3 a1_4 a1_5 a2_0 a2_1 a2_2 a2_3 a2_4 a2_5 false _ A95.out).mono ?_
            rintro e w145 ⟨rfl, hb⟩
            refine ⟨_, rfl, ?_⟩
            have n0_ := q1_ BK214 hb
            have n1_ := q1_ BK215 hb
            have n2_ := q1_ BK216 hb
            have n3_ := q2_ HB hb
            clear BK214
            clear BK215
            clear BK216
            clear HB
            have BK214 := n0_
            have BK215 := n1_
            have BK216 := n2_
            have HB := n3_
            clear n0_ n1_ n2_ n3_
            (try clear hb)
            (try clear hb2)
            (try clear hk)
            (try clear hi)
            refine hK.out _ _ ⟨q7_ BK214 0 rfl, q7_ BK214 1 rfl, q7_ BK214 2 rfl, q7_ BK214 3 rfl, q7_ BK214 4 rfl, q7_ BK214 5 rfl, q7_ BK215 0 rfl, q7_ BK215 1 rfl, q7_ BK215 2 rfl, q7_ BK215 3 rfl, q7_ BK215 4 rfl, q7_ BK215 5 rfl, q7_ BK216 0 rfl, q7_ BK216 1 rfl, q7_ BK216 2 rfl, q7_ BK216 3 rfl, q7_ BK216 4 rfl, q7_ BK216 5 rfl⟩ (fun hHeld => ?_)
            clear hK K
            refine norm_ (a' := ?_) ?_ ?_
            rotate_left
            ·show Act.put _ (some 72) _ = _
             simp only [Act.put, q4_, q5_, q6_, i64_w, i32_w]
             rfl
            refine pure_ (i := 15) (N := some 73) (v := ?_) (a' := ?_) m16_ rfl rfl (any_of HT_.out (by kernel_rfl)) (fun _ _ _ h => h) (Or.inl ⟨by rfl, ?_⟩) ?_ ?_
            rotate_left
            ·intro w'
             go_simp
             with_reducible rfl
            rotate_left
            ·simp only [Act.put, q4_, q5_, q6_, i64_w, i32_w]
             rfl
            refine pure_ (i := 16) (N := some 74) (v := ?_) (a' := ?_) m17_ rfl rfl (any_of HT_.out (by kernel_rfl)) (fun _ _ _ h => h) (Or.inl ⟨by rfl, ?_⟩) ?_ ?_
            rotate_left
            ·intro w'
             go_simp
             with_reducible rfl
            rotate_left
            ·simp only [Act.put, q4_, q5_, q6_, i64_w, i32_w]
             rfl
            refine pure_ (i := 17) (N := some 75) (v := ?_) (a' := ?_) m18_ rfl rfl (any_of HT_.out (by kernel_rfl)) (fun _ _ _ h => h) (Or.inl ⟨by rfl, ?_⟩) ?_ ?_
            rotate_left
            ·intro w'
             go_simp
             with_reducible rfl
            rotate_left
            ·simp only [Act.put, q4_, q5_, q6_, i64_w, i32_w]
             rfl
            refine pure_ (i := 18) (N := some 76) (v := undef) (a' := ?_) m19_ rfl rfl (any_of HT_.out (by kernel_rfl)) (fun _ _ _ h => h) (Or.inr ⟨by rfl, rfl⟩) ?_ ?_
            rotate_left
            ·simp only [Act.put, q4_, q5_, q6_, i64_w, i32_w]
             rfl
            refine pure_ (i := 19) (N := some 77) (v := undef) (a' := ?_) m20_ rfl rfl (any_of HT_.out (by kernel_rfl)) (fun _ _ _ h => h) (Or.inr ⟨by rfl, rfl⟩) ?_ ?_
            rotate_left
            ·simp only [Act.put, q4_, q5_, q6_, i64_w, i32_w]
             rfl
            refine pure_ (i := 20) (N := some 78) (v := undef) (a' := ?_) m21_ rfl rfl (any_of HT_.out (by kernel_rfl)) (fun _ _ _ h => h) (Or.inr ⟨by rfl, rfl⟩) ?_ ?_
            rotate_left
            ·simp only [Act.put, q4_, q5_, q6_, i64_w, i32_w]
             rfl
            refine pure_ (i := 21) (N := some 79) (v := ?_) (a' := ?_) m22_ rfl rfl (any_of HT_.out (by kernel_rfl)) (fun _ _ _ h => h) (Or.inl ⟨by rfl, ?_⟩) ?_ ?_
            rotate_left
            ·intro w'
             go_simp
             with_reducible rfl
            rotate_left
            ·simp only [Act.put, q4_, q5_, q6_, i64_w, i32_w]
             rfl
            refine pure_ (i := 22) (N := some 80) (v := ?_) (a' := ?_) m23_ rfl rfl (any_of HT_.out (by kernel_rfl)) (fun _ _ _ h => h) (Or.inl ⟨by rfl, ?_⟩) ?_ ?_
            rotate_left
            ·intro w'
             go_simp
             with_reducible rfl
            rotate_left
            ·simp only [Act.put, q4_, q5_, q6_, i64_w, i32_w]
             rfl
            refine pure_ (i := 23) (N := some 81) (v := ?_) (a' := ?_) m24_ rfl rfl (any_of HT_.out (by kernel_rfl)) (fun _ _ _ h => h) (Or.inl ⟨by rfl, ?_⟩) ?_ ?_
            rotate_left
            ·intro w'
             go_simp
             with_reducible rfl
            rotate_left
            ·simp only [Act.put, q4_, q5_, q6_, i64_w, i32_w]
             rfl
            refine pure_ (i := 32) (N := some 90) (v := ?_) (a' := ?_) m25_ rfl rfl (any_of HT_.out (by kernel_rfl)) (fun _ _ _ h => h) (Or.inl ⟨by rfl, ?_⟩) ?_ ?_
            rotate_left
            ·intro w'
             go_simp
             with_reducible rfl
            rotate_left
            ·simp only [Act.put, q4_, q5_, q6_, i64_w, i32_w]
             rfl
            refine take_ (i := 24) (N := some 82) (v := ?_) (a' := ?_) m26_ rfl rfl (take_ofW HT_.out HW_.out (by kernel_rfl)) (fun _ _ _ h => h) (Or.inl ⟨by rfl, ?_⟩) hHeld ?_ ?_
            rotate_left
            ·rintro w' ⟨s0, s1, s2, s3, s4, s5, s6, s7, s8, s9, s10, s11, s12, s13, s14, s15, s16, s17⟩
             go_simp
             with_reducible rfl
            rotate_left
            ·simp only [Act.put, q4_, q5_, q6_, i64_w, i32_w]
             rfl
            refine take_ (i := 25) (N := some 83) (v := ?_) (a' := ?_) m27_ rfl rfl (take_ofW HT_.out HW_.out (by kernel_rfl)) (fun _ _ _ h => h) (Or.inl ⟨by rfl, ?_⟩) hHeld ?_ ?_
            rotate_left
            ·rintro w' ⟨s0, s1, s2, s3, s4, s5, s6, s7, s8, s9, s10, s11, s12, s13, s14, s15, s16, s17⟩
             go_simp
             with_reducible rfl
            rotate_left
            ·simp only [Act.put, q4_, q5_, q6_, i64_w, i32_w]
             rfl
            refine one_ (i := 26) (N := some 84) m28_ rfl rfl (one_of HT_.out (by kernel_rfl)) (by decide) (fun K hK => ?_)
            refine goes_ Try.func41 (by kernel_rfl) rfl #[.agg #[.bool a0_0, .int .i64 a0_1, .int .i64 a0_2, .int .i64 a0_3, .int .i64 a0_4, .int .i64 a0_5], .agg #[.bool a1_0, .int .i64 a1_1, .int .i64 a1_2, .int .i64 a1_3, .int .i64 a1_4, .int .i64 a1_5]] (by rfl) rfl rfl (by (try simp only [List.map_toArray, List.map_cons, List.map_nil]); first | done | rfl | (simp only [List.length_drop, List.length_take]; rfl)) ?_
            with_reducible refine (cap_Under.calls a0_0 a0_1 a0_2 a0_3 a0_4 a0_5 a1_0 a1_1 a1_2 a1_3 a1_4 a1_5 false _ A125.out).mono ?_
            rintro e w146 ⟨rfl, hb⟩
            refine ⟨_, rfl, ?_⟩
            have n0_ := q1_ BK214 hb
            have n1_ := q1_ BK215 hb
            have n2_ := q1_ BK216 hb
            have n3_ := q2_ HB hb
            clear BK214
            clear BK215
            clear BK216
            clear HB
            have BK214 := n0_
            have BK215 := n1_
            have BK216 := n2_
            have HB := n3_
            clear n0_ n1_ n2_ n3_
            (try clear hb)
            (try clear hb2)
            (try clear hk)
            (try clear hi)
            refine hK.out _ _ ⟨q7_ BK214 0 rfl, q7_ BK214 1 rfl, q7_ BK214 2 rfl, q7_ BK214 3 rfl, q7_ BK214 4 rfl, q7_ BK214 5 rfl, q7_ BK215 0 rfl, q7_ BK215 1 rfl, q7_ BK215 2 rfl, q7_ BK215 3 rfl, q7_ BK215 4 rfl, q7_ BK215 5 rfl, q7_ BK216 0 rfl, q7_ BK216 1 rfl, q7_ BK216 2 rfl, q7_ BK216 3 rfl, q7_ BK216 4 rfl, q7_ BK216 5 rfl⟩ (fun hHeld => ?_)
            clear hK K
            refine norm_ (a' := ?_) ?_ ?_
            rotate_left
            ·show Act.put _ (some 84) _ = _
             simp only [Act.put, q4_, q5_, q6_, i64_w, i32_w]
             rfl
            refine pure_ (i := 27) (N := some 85) (v := ?_) (a' := ?_) m29_ rfl rfl (any_of HT_.out (by kernel_rfl)) (fun _ _ _ h => h) (Or.inl ⟨by rfl, ?_⟩) ?_ ?_
            rotate_left
            ·intro w'
             go_simp
             with_reducible rfl
            rotate_left
            ·simp only [Act.put, q4_, q5_, q6_, i64_w, i32_w]
             rfl
            refine pure_ (i := 28) (N := some 86) (v := undef) (a' := ?_) m30_ rfl rfl (any_of HT_.out (by kernel_rfl)) (fun _ _ _ h => h) (Or.inr ⟨by rfl, rfl⟩) ?_ ?_
            rotate_left
            ·simp only [Act.put, q4_, q5_, q6_, i64_w, i32_w]
             rfl
            refine pure_ (i := 29) (N := some 87) (v := undef) (a' := ?_) m31_ rfl rfl (any_of HT_.out (by kernel_rfl)) (fun _ _ _ h => h) (Or.inr ⟨by rfl, rfl⟩) ?_ ?_
            rotate_left
            ·simp only [Act.put, q4_, q5_, q6_, i64_w, i32_w]
             rfl
            refine pure_ (i := 30) (N := some 88) (v := undef) (a' := ?_) m32_ rfl rfl (any_of HT_.out (by kernel_rfl)) (fun _ _ _ h => h) (Or.inr ⟨by rfl, rfl⟩) ?_ ?_
            rotate_left
            ·simp only [Act.put, q4_, q5_, q6_, i64_w, i32_w]
             rfl
            refine pure_ (i := 31) (N := some 89) (v := ?_) (a' := ?_) m33_ rfl rfl (any_of HT_.out (by kernel_rfl)) (fun _ _ _ h => h) (Or.inl ⟨by rfl, ?_⟩) ?_ ?_
            rotate_left
            ·intro w'
             go_simp
             with_reducible rfl
            rotate_left
            ·simp only [Act.put, q4_, q5_, q6_, i64_w, i32_w]
             rfl
            refine pure_ (i := 33) (N := some 91) (v := ?_) (a' := ?_) m34_ rfl rfl (any_of HT_.out (by kernel_rfl)) (fun _ _ _ h => h) (Or.inl ⟨by rfl, ?_⟩) ?_ ?_
            rotate_left
            ·intro w'
             go_simp
             with_reducible rfl
            rotate_left
            ·simp only [Act.put, q4_, q5_, q6_, i64_w, i32_w]
             rfl
            refine pure_ (i := 34) (N := some 92) (v := ?_) (a' := ?_) m35_ rfl rfl (any_of HT_.out (by kernel_rfl)) (fun _ _ _ h => h) (Or.inl ⟨by rfl, ?_⟩) ?_ ?_
            rotate_left
            ·intro w'
             go_simp
             with_reducible rfl
            rotate_left
            ·simp only [Act.put, q4_, q5_, q6_, i64_w, i32_w]
             rfl
            refine pure_ (i := 35) (N := some 93) (v := ?_) (a' := ?_) m36_ rfl rfl (any_of HT_.out (by kernel_rfl)) (fun _ _ _ h => h) (Or.inl ⟨by rfl, ?_⟩) ?_ ?_
            rotate_left
            ·intro w'
             go_simp
             with_reducible rfl
            rotate_left
            ·simp only [Act.put, q4_, q5_, q6_, i64_w, i32_w]
             rfl
            refine take_ (i := 36) (N := some 94) (v := ?_) (a' := ?_) m37_ rfl rfl (take_ofW HT_.out HW_.out (by kernel_rfl)) (fun _ _ _ h => h) (Or.inl ⟨by rfl, ?_⟩) hHeld ?_ ?_
            rotate_left
            ·rintro w' ⟨s0, s1, s2, s3, s4, s5, s6, s7, s8, s9, s10, s11, s12, s13, s14, s15, s16, s17⟩
             go_simp
             with_reducible rfl
            rotate_left
            ·simp only [Act.put, q4_, q5_, q6_, i64_w, i32_w]
             rfl
            refine one_ (i := 37) (N := some 95) m38_ rfl rfl (one_of HT_.out (by kernel_rfl)) (by decide) (fun K hK => ?_)
            refine goes_ Try.func45 (by kernel_rfl) rfl #[.int .i64 16777216] (by rfl) rfl rfl (by (try simp only [List.map_toArray, List.map_cons, List.map_nil]); first | done | rfl | (simp only [List.length_drop, List.length_take]; rfl)) ?_
            with_reducible refine (cap_Root.calls 16777216 t250 t251 t252 t253 t254 t255 _ A140.out).mono ?_
            rintro e w147 ⟨rfl, hb⟩
            refine ⟨_, rfl, ?_⟩
            have n0_ := q1_ BK214 hb
            have n1_ := q1_ BK215 hb
            have n2_ := q1_ BK216 hb
            have n3_ := q2_ HB hb
            clear BK214
            clear BK215
            clear BK216
            clear HB
            have BK214 := n0_
            have BK215 := n1_
            have BK216 := n2_
            have HB := n3_
            clear n0_ n1_ n2_ n3_
            (try clear hb)
            (try clear hb2)
            (try clear hk)
            (try clear hi)
            refine hK.out _ _ ⟨q7_ BK214 0 rfl, q7_ BK214 1 rfl, q7_ BK214 2 rfl, q7_ BK214 3 rfl, q7_ BK214 4 rfl, q7_ BK214 5 rfl, q7_ BK215 0 rfl, q7_ BK215 1 rfl, q7_ BK215 2 rfl, q7_ BK215 3 rfl, q7_ BK215 4 rfl, q7_ BK215 5 rfl, q7_ BK216 0 rfl, q7_ BK216 1 rfl, q7_ BK216 2 rfl, q7_ BK216 3 rfl, q7_ BK216 4 rfl, q7_ BK216 5 rfl⟩ (fun hHeld => ?_)
            clear hK K
            refine norm_ (a' := ?_) ?_ ?_
            rotate_left
            ·show Act.put _ (some 95) _ = _
             simp only [Act.put, q4_, q5_, q6_, i64_w, i32_w]
             rfl
            refine one_ (i := 38) (N := some 96) m39_ rfl rfl (one_of HT_.out (by kernel_rfl)) (by decide) (fun K hK => ?_)
            refine goes_ Try.func41 (by kernel_rfl) rfl #[.agg #[.bool a0_0, .int .i64 a0_1, .int .i64 a0_2, .int .i64 a0_3, .int .i64 a0_4, .int .i64 a0_5], .agg #[.bool t250, .int .i64 t251, .int .i64 t252, .int .i64 t253, .int .i64 t254, .int .i64 t255]] (by rfl) rfl rfl (by (try simp only [List.map_toArray, List.map_cons, List.map_nil]); first | done | rfl | (simp only [List.length_drop, List.length_take]; rfl)) ?_
            with_reducible refine (cap_Under.calls a0_0 a0_1 a0_2 a0_3 a0_4 a0_5 t250 t251 t252 t253 t254 t255 t256 _ A141.out).mono ?_
            rintro e w148 ⟨rfl, hb⟩
            refine ⟨_, rfl, ?_⟩
            have n0_ := q1_ BK214 hb
            have n1_ := q1_ BK215 hb
            have n2_ := q1_ BK216 hb
            have n3_ := q2_ HB hb
            clear BK214
            clear BK215
            clear BK216
            clear HB
            have BK214 := n0_
            have BK215 := n1_
            have BK216 := n2_
            have HB := n3_
            clear n0_ n1_ n2_ n3_
            (try clear hb)
            (try clear hb2)
            (try clear hk)
            (try clear hi)
            refine hK.out _ _ ⟨q7_ BK214 0 rfl, q7_ BK214 1 rfl, q7_ BK214 2 rfl, q7_ BK214 3 rfl, q7_ BK214 4 rfl, q7_ BK214 5 rfl, q7_ BK215 0 rfl, q7_ BK215 1 rfl, q7_ BK215 2 rfl, q7_ BK215 3 rfl, q7_ BK215 4 rfl, q7_ BK215 5 rfl, q7_ BK216 0 rfl, q7_ BK216 1 rfl, q7_ BK216 2 rfl, q7_ BK216 3 rfl, q7_ BK216 4 rfl, q7_ BK216 5 rfl⟩ (fun hHeld => ?_)
            clear hK K
            refine norm_ (a' := ?_) ?_ ?_
            rotate_left
            ·show Act.put _ (some 96) _ = _
             simp only [Act.put, q4_, q5_, q6_, i64_w, i32_w]
             rfl
            refine pure_ (i := 39) (N := some 97) (v := ?_) (a' := ?_) m40_ rfl rfl (any_of HT_.out (by kernel_rfl)) (fun _ _ _ h => h) (Or.inl ⟨by rfl, ?_⟩) ?_ ?_
            rotate_left
            ·intro w'
             go_simp
             with_reducible rfl
            rotate_left
            ·simp only [Act.put, q4_, q5_, q6_, i64_w, i32_w]
             rfl
            refine pure_ (i := 40) (N := some 6) (v := ?_) (a' := ?_) m41_ rfl rfl (any_of HT_.out (by kernel_rfl)) (fun _ _ _ h => h) (Or.inl ⟨by rfl, ?_⟩) ?_ ?_
            rotate_left
            ·intro w'
             go_simp
             with_reducible rfl
            rotate_left
            ·simp only [Act.put, q4_, q5_, q6_, i64_w, i32_w]
             rfl
            refine done_ (done_of HT_.out (by kernel_rfl)) ?_
            try go_wp2
            go_ret
            exact ⟨by first | rfl | (simp [errW_none, errW_some] <;> rfl) | (simp [*, errW_none, errW_some] <;> rfl), by repeat (first | (with_reducible first | exact HB.out | apply below_alloc | apply pw_below_drewN | apply below_drew1 | refine below_set ?_ GE214.out | refine below_set ?_ GE215.out | refine below_set ?_ GE216.out) | exact HB.out)⟩
           ·rw [if_neg c139] at H
            have c139b0 : (false == x8_71) = false := by simpa using c139
            (try (have c139b1 : decide (false = x8_71) = false := by simpa using c139))
            (try (have c139b2 : (false == x8_71) = false := by simpa using c139))
            (try (have c139b3 : ¬ (false = x8_71) := by simpa using c139))
            clear c139
            exact absurd ((Option.some.inj H).trans hr_) (by decide)
        ·replace c94 := Bool.eq_false_iff.mpr c94
         subst c94
         have H1 : ((cap_Under.f a0_0 a0_1 a0_2 a0_3 a0_4 a0_5 a1_0 a1_1 a1_2 a1_3 a1_4 a1_5).bind fun t257 => (if t257 = true then ((cap_Under.f a1_0 a1_1 a1_2 a1_3 a1_4 a1_5 a0_0 a0_1 a0_2 a0_3 a0_4 a0_5).bind fun t258 => (if (t258 == x8_71) = true then ((cap_Root.f 16777216).bind fun bt259 => ((cap_Under.f a0_0 a0_1 a0_2 a0_3 a0_4 a0_5 bt259.1 bt259.2.1 bt259.2.2.1 bt259.2.2.2.1 bt259.2.2.2.2.1 bt259.2.2.2.2.2).bind fun t265 => (some t265))) else (some false))) else (if (false == x8_71) = true then ((cap_Root.f 16777216).bind fun bt266 => ((cap_Under.f a0_0 a0_1 a0_2 a0_3 a0_4 a0_5 bt266.1 bt266.2.1 bt266.2.2.1 bt266.2.2.2.1 bt266.2.2.2.2.1 bt266.2.2.2.2.2).bind fun t272 => (some t272))) else (some false)))) = some r := by rw [if_neg (show ¬ (false = true) by decide)] at H; exact H
         clear H
         have H := H1
         clear H1
         replace H := Option.bind_eq_some_iff.mp H
         obtain ⟨t257, A1490, H⟩ := H
         replace H : (if t257 = true then ((cap_Under.f a1_0 a1_1 a1_2 a1_3 a1_4 a1_5 a0_0 a0_1 a0_2 a0_3 a0_4 a0_5).bind fun t258 => (if (t258 == x8_71) = true then ((cap_Root.f 16777216).bind fun bt259 => ((cap_Under.f a0_0 a0_1 a0_2 a0_3 a0_4 a0_5 bt259.1 bt259.2.1 bt259.2.2.1 bt259.2.2.2.1 bt259.2.2.2.2.1 bt259.2.2.2.2.2).bind fun t265 => (some t265))) else (some false))) else (if (false == x8_71) = true then ((cap_Root.f 16777216).bind fun bt266 => ((cap_Under.f a0_0 a0_1 a0_2 a0_3 a0_4 a0_5 bt266.1 bt266.2.1 bt266.2.2.1 bt266.2.2.2.1 bt266.2.2.2.2.1 bt266.2.2.2.2.2).bind fun t272 => (some t272))) else (some false))) = some r := H
         have A149 := Aside0.mk A1490
         clear A1490
         by_cases c150 : t257 = true
         ·subst c150
          have H1 : ((cap_Under.f a1_0 a1_1 a1_2 a1_3 a1_4 a1_5 a0_0 a0_1 a0_2 a0_3 a0_4 a0_5).bind fun t258 => (if (t258 == x8_71) = true then ((cap_Root.f 16777216).bind fun bt259 => ((cap_Under.f a0_0 a0_1 a0_2 a0_3 a0_4 a0_5 bt259.1 bt259.2.1 bt259.2.2.1 bt259.2.2.2.1 bt259.2.2.2.2.1 bt259.2.2.2.2.2).bind fun t265 => (some t265))) else (some false))) = some r := by rw [if_pos rfl] at H; exact H
          clear H
          have H := H1
          clear H1
          replace H := Option.bind_eq_some_iff.mp H
          obtain ⟨t258, A1510, H⟩ := H
          replace H : (if (t258 == x8_71) = true then ((cap_Root.f 16777216).bind fun bt259 => ((cap_Under.f a0_0 a0_1 a0_2 a0_3 a0_4 a0_5 bt259.1 bt259.2.1 bt259.2.2.1 bt259.2.2.2.1 bt259.2.2.2.2.1 bt259.2.2.2.2.2).bind fun t265 => (some t265))) else (some false)) = some r := H
          have A151 := Aside0.mk A1510
          clear A1510
          by_cases c152 : (t258 == x8_71) = true
          ·rw [if_pos c152] at H
           have c152b0 : (t258 == x8_71) = true := c152
           (try (have c152b1 : decide (t258 = x8_71) = true := by simpa using c152))
           (try (have c152b2 : (t258 == x8_71) = true := by simpa using c152))
           clear c152
           replace H := Option.bind_eq_some_iff.mp H
           obtain ⟨⟨t259, t260, t261, t262, t263, t264⟩, A1530, H⟩ := H
           replace H : ((cap_Under.f a0_0 a0_1 a0_2 a0_3 a0_4 a0_5 t259 t260 t261 t262 t263 t264).bind fun t265 => (some t265)) = some r := H
           have A153 := Aside0.mk A1530
           clear A1530
           replace H := Option.bind_eq_some_iff.mp H
           obtain ⟨t265, A1540, H⟩ := H
           replace H : (some t265) = some r := H
           have A154 := Aside0.mk A1540
           clear A1540
           clear hr_
           obtain rfl := Option.some.inj H
           try go_wp2
           have n0_ := Aside0.mk (blk_drew BK214.out)
           have n1_ := Aside0.mk (blk_drew BK215.out)
           have n2_ := Aside0.mk (blk_drew BK216.out)
           have n3_ := Aside0.mk (below_drew1 HB.out)
           clear BK214
           clear BK215
           clear BK216
           clear HB
           have BK214 := n0_
           have BK215 := n1_
           have BK216 := n2_
           have HB := n3_
           clear n0_ n1_ n2_ n3_
           refine start_ (n := 41) (S := fun w' => w'.cell? ⟨gb214, 0, none⟩ = some (.bool a0_0) ∧ w'.cell? ⟨gb214, 1, none⟩ = some (.int .i64 a0_1) ∧ w'.cell? ⟨gb214, 2, none⟩ = some (.int .i64 a0_2) ∧ w'.cell? ⟨gb214, 3, none⟩ = some (.int .i64 a0_3) ∧ w'.cell? ⟨gb214, 4, none⟩ = some (.int .i64 a0_4) ∧ w'.cell? ⟨gb214, 5, none⟩ = some (.int .i64 a0_5) ∧ w'.cell? ⟨gb215, 0, none⟩ = some (.bool a1_0) ∧ w'.cell? ⟨gb215, 1, none⟩ = some (.int .i64 a1_1) ∧ w'.cell? ⟨gb215, 2, none⟩ = some (.int .i64 a1_2) ∧ w'.cell? ⟨gb215, 3, none⟩ = some (.int .i64 a1_3) ∧ w'.cell? ⟨gb215, 4, none⟩ = some (.int .i64 a1_4) ∧ w'.cell? ⟨gb215, 5, none⟩ = some (.int .i64 a1_5)) (ds := []) m0_ (by kernel_rfl) rfl rfl ⟨q7_ BK214 0 rfl, q7_ BK214 1 rfl, q7_ BK214 2 rfl, q7_ BK214 3 rfl, q7_ BK214 4 rfl, q7_ BK214 5 rfl, q7_ BK215 0 rfl, q7_ BK215 1 rfl, q7_ BK215 2 rfl, q7_ BK215 3 rfl, q7_ BK215 4 rfl, q7_ BK215 5 rfl⟩ (fun hHeld => ?_); refine with_tabW seizinlaw02_CapOrder.tab5 seizinlaw02_CapOrder.bits5 (fun HT_ HW_ => ?_)
           generalize wc.drew = w155 at BK214 BK215 BK216 HB hHeld ⊢
           refine pure_ (i := 0) (N := some 58) (v := ?_) (a' := ?_) m1_ rfl rfl (any_of HT_.out (by kernel_rfl)) (fun _ _ _ h => h) (Or.inl ⟨by rfl, ?_⟩) ?_ ?_
           rotate_left
           ·intro w'
            go_simp
            with_reducible rfl
           rotate_left
           ·simp only [Act.put, q4_, q5_, q6_, i64_w, i32_w]
            rfl
           refine pure_ (i := 1) (N := some 59) (v := ?_) (a' := ?_) m2_ rfl rfl (any_of HT_.out (by kernel_rfl)) (fun _ _ _ h => h) (Or.inl ⟨by rfl, ?_⟩) ?_ ?_
           rotate_left
           ·intro w'
            go_simp
            with_reducible rfl
           rotate_left
           ·simp only [Act.put, q4_, q5_, q6_, i64_w, i32_w]
            rfl
           refine take_ (i := 2) (N := some 60) (v := ?_) (a' := ?_) m3_ rfl rfl (take_ofW HT_.out HW_.out (by kernel_rfl)) (fun _ _ _ h => h) (Or.inl ⟨by rfl, ?_⟩) hHeld ?_ ?_
           rotate_left
           ·rintro w' ⟨s0, s1, s2, s3, s4, s5, s6, s7, s8, s9, s10, s11⟩
            go_simp
            with_reducible rfl
           rotate_left
           ·simp only [Act.put, q4_, q5_, q6_, i64_w, i32_w]
            rfl
           refine take_ (i := 3) (N := some 61) (v := ?_) (a' := ?_) m4_ rfl rfl (take_ofW HT_.out HW_.out (by kernel_rfl)) (fun _ _ _ h => h) (Or.inl ⟨by rfl, ?_⟩) hHeld ?_ ?_
           rotate_left
           ·rintro w' ⟨s0, s1, s2, s3, s4, s5, s6, s7, s8, s9, s10, s11⟩
            go_simp
            with_reducible rfl
           rotate_left
           ·simp only [Act.put, q4_, q5_, q6_, i64_w, i32_w]
            rfl
           refine one_ (i := 4) (N := some 62) m5_ rfl rfl (one_of HT_.out (by kernel_rfl)) (by decide) (fun K hK => ?_)
           refine goes_ Try.func41 (by kernel_rfl) rfl #[.agg #[.bool a0_0, .int .i64 a0_1, .int .i64 a0_2, .int .i64 a0_3, .int .i64 a0_4, .int .i64 a0_5], .agg #[.bool a0_0, .int .i64 a0_1, .int .i64 a0_2, .int .i64 a0_3, .int .i64 a0_4, .int .i64 a0_5]] (by rfl) rfl rfl (by (try simp only [List.map_toArray, List.map_cons, List.map_nil]); first | done | rfl | (simp only [List.length_drop, List.length_take]; rfl)) ?_
           with_reducible refine (cap_Under.calls a0_0 a0_1 a0_2 a0_3 a0_4 a0_5 a0_0 a0_1 a0_2 a0_3 a0_4 a0_5 true _ A91.out).mono ?_
           rintro e w156 ⟨rfl, hb⟩
           refine ⟨_, rfl, ?_⟩
           have n0_ := q1_ BK214 hb
           have n1_ := q1_ BK215 hb
           have n2_ := q1_ BK216 hb
           have n3_ := q2_ HB hb
           clear BK214
           clear BK215
           clear BK216
           clear HB
           have BK214 := n0_
           have BK215 := n1_
           have BK216 := n2_
           have HB := n3_
           clear n0_ n1_ n2_ n3_
           (try clear hb)
           (try clear hb2)
           (try clear hk)
           (try clear hi)
           refine hK.out _ _ ⟨q7_ BK214 0 rfl, q7_ BK214 1 rfl, q7_ BK214 2 rfl, q7_ BK214 3 rfl, q7_ BK214 4 rfl, q7_ BK214 5 rfl, q7_ BK215 0 rfl, q7_ BK215 1 rfl, q7_ BK215 2 rfl, q7_ BK215 3 rfl, q7_ BK215 4 rfl, q7_ BK215 5 rfl⟩ (fun hHeld => ?_)
           clear hK K
           refine norm_ (a' := ?_) ?_ ?_
           rotate_left
           ·show Act.put _ (some 62) _ = _
            simp only [Act.put, q4_, q5_, q6_, i64_w, i32_w]
            rfl
           refine pure_ (i := 5) (N := some 63) (v := ?_) (a' := ?_) m6_ rfl rfl (any_of HT_.out (by kernel_rfl)) (fun _ _ _ h => h) (Or.inl ⟨by rfl, ?_⟩) ?_ ?_
           rotate_left
           ·intro w'
            go_simp
            with_reducible rfl
           rotate_left
           ·simp only [Act.put, q4_, q5_, q6_, i64_w, i32_w]
            rfl
           refine pure_ (i := 6) (N := some 64) (v := ?_) (a' := ?_) m7_ rfl rfl (any_of HT_.out (by kernel_rfl)) (fun _ _ _ h => h) (Or.inl ⟨by rfl, ?_⟩) ?_ ?_
           rotate_left
           ·intro w'
            go_simp
            with_reducible rfl
           rotate_left
           ·simp only [Act.put, q4_, q5_, q6_, i64_w, i32_w]
            rfl
           refine take_ (i := 7) (N := some 65) (v := ?_) (a' := ?_) m8_ rfl rfl (take_ofW HT_.out HW_.out (by kernel_rfl)) (fun _ _ _ h => h) (Or.inl ⟨by rfl, ?_⟩) hHeld ?_ ?_
           rotate_left
           ·rintro w' ⟨s0, s1, s2, s3, s4, s5, s6, s7, s8, s9, s10, s11⟩
            go_simp
            with_reducible rfl
           rotate_left
           ·simp only [Act.put, q4_, q5_, q6_, i64_w, i32_w]
            rfl
           refine take_ (i := 8) (N := some 66) (v := ?_) (a' := ?_) m9_ rfl rfl (take_ofW HT_.out HW_.out (by kernel_rfl)) (fun _ _ _ h => h) (Or.inl ⟨by rfl, ?_⟩) hHeld ?_ ?_
           rotate_left
           ·rintro w' ⟨s0, s1, s2, s3, s4, s5, s6, s7, s8, s9, s10, s11⟩
            go_simp
            with_reducible rfl
           rotate_left
           ·simp only [Act.put, q4_, q5_, q6_, i64_w, i32_w]
            rfl
           refine one_ (i := 9) (N := some 67) m10_ rfl rfl (one_of HT_.out (by kernel_rfl)) (by decide) (fun K hK => ?_)
           refine goes_ Try.func41 (by kernel_rfl) rfl #[.agg #[.bool a0_0, .int .i64 a0_1, .int .i64 a0_2, .int .i64 a0_3, .int .i64 a0_4, .int .i64 a0_5], .agg #[.bool a1_0, .int .i64 a1_1, .int .i64 a1_2, .int .i64 a1_3, .int .i64 a1_4, .int .i64 a1_5]] (by rfl) rfl rfl (by (try simp only [List.map_toArray, List.map_cons, List.map_nil]); first | done | rfl | (simp only [List.length_drop, List.length_take]; rfl)) ?_
           with_reducible refine (cap_Under.calls a0_0 a0_1 a0_2 a0_3 a0_4 a0_5 a1_0 a1_1 a1_2 a1_3 a1_4 a1_5 false _ A93.out).mono ?_
           rintro e w157 ⟨rfl, hb⟩
           refine ⟨_, rfl, ?_⟩
           have n0_ := q1_ BK214 hb
           have n1_ := q1_ BK215 hb
           have n2_ := q1_ BK216 hb
           have n3_ := q2_ HB hb
           clear BK214
           clear BK215
           clear BK216
           clear HB
           have BK214 := n0_
           have BK215 := n1_
           have BK216 := n2_
           have HB := n3_
           clear n0_ n1_ n2_ n3_
           (try clear hb)
           (try clear hb2)
           (try clear hk)
           (try clear hi)
           refine hK.out _ _ ⟨q7_ BK214 0 rfl, q7_ BK214 1 rfl, q7_ BK214 2 rfl, q7_ BK214 3 rfl, q7_ BK214 4 rfl, q7_ BK214 5 rfl, q7_ BK215 0 rfl, q7_ BK215 1 rfl, q7_ BK215 2 rfl, q7_ BK215 3 rfl, q7_ BK215 4 rfl, q7_ BK215 5 rfl⟩ (fun hHeld => ?_)
           clear hK K
           refine norm_ (a' := ?_) ?_ ?_
           rotate_left
           ·show Act.put _ (some 67) _ = _
            simp only [Act.put, q4_, q5_, q6_, i64_w, i32_w]
            rfl
           refine pure_ (i := 10) (N := some 68) (v := ?_) (a' := ?_) m11_ rfl rfl (any_of HT_.out (by kernel_rfl)) (fun _ _ _ h => h) (Or.inl ⟨by rfl, ?_⟩) ?_ ?_
           rotate_left
           ·intro w'
            go_simp
            with_reducible rfl
           rotate_left
           ·simp only [Act.put, q4_, q5_, q6_, i64_w, i32_w]
            rfl
           refine pure_ (i := 11) (N := some 69) (v := ?_) (a' := ?_) m12_ rfl rfl (any_of HT_.out (by kernel_rfl)) (fun _ _ _ h => h) (Or.inl ⟨by rfl, ?_⟩) ?_ ?_
           rotate_left
           ·intro w'
            go_simp
            with_reducible rfl
           rotate_left
           ·simp only [Act.put, q4_, q5_, q6_, i64_w, i32_w]
            rfl
           refine pure_ (i := 12) (N := some 70) (v := undef) (a' := ?_) m13_ rfl rfl (any_of HT_.out (by kernel_rfl)) (fun _ _ _ h => h) (Or.inr ⟨by rfl, rfl⟩) ?_ ?_
           rotate_left
           ·simp only [Act.put, q4_, q5_, q6_, i64_w, i32_w]
            rfl
           refine pure_ (i := 13) (N := some 71) (v := undef) (a' := ?_) m14_ rfl rfl (any_of HT_.out (by kernel_rfl)) (fun _ _ _ h => h) (Or.inr ⟨by rfl, rfl⟩) ?_ ?_
           rotate_left
           ·simp only [Act.put, q4_, q5_, q6_, i64_w, i32_w]
            rfl
           refine pure_ (i := 14) (N := some 72) (v := undef) (a' := ?_) m15_ rfl rfl (any_of HT_.out (by kernel_rfl)) (fun _ _ _ h => h) (Or.inr ⟨by rfl, rfl⟩) ?_ ?_
           rotate_left
           ·simp only [Act.put, q4_, q5_, q6_, i64_w, i32_w]
            rfl
           refine pure_ (i := 15) (N := some 73) (v := undef) (a' := ?_) m16_ rfl rfl (any_of HT_.out (by kernel_rfl)) (fun _ _ _ h => h) (Or.inr ⟨by rfl, rfl⟩) ?_ ?_
           rotate_left
           ·simp only [Act.put, q4_, q5_, q6_, i64_w, i32_w]
            rfl
           refine pure_ (i := 16) (N := some 74) (v := ?_) (a' := ?_) m17_ rfl rfl (any_of HT_.out (by kernel_rfl)) (fun _ _ _ h => h) (Or.inl ⟨by rfl, ?_⟩) ?_ ?_
           rotate_left
           ·intro w'
            go_simp
            with_reducible rfl
           rotate_left
           ·simp only [Act.put, q4_, q5_, q6_, i64_w, i32_w]
            rfl
           refine pure_ (i := 17) (N := some 75) (v := ?_) (a' := ?_) m18_ rfl rfl (any_of HT_.out (by kernel_rfl)) (fun _ _ _ h => h) (Or.inl ⟨by rfl, ?_⟩) ?_ ?_
           rotate_left
           ·intro w'
            go_simp
            with_reducible rfl
           rotate_left
           ·simp only [Act.put, q4_, q5_, q6_, i64_w, i32_w]
            rfl
           refine pure_ (i := 18) (N := some 76) (v := undef) (a' := ?_) m19_ rfl rfl (any_of HT_.out (by kernel_rfl)) (fun _ _ _ h => h) (Or.inr ⟨by rfl, rfl⟩) ?_ ?_
           rotate_left
           ·simp only [Act.put, q4_, q5_, q6_, i64_w, i32_w]
            rfl
           refine pure_ (i := 19) (N := some 77) (v := undef) (a' := ?_) m20_ rfl rfl (any_of HT_.out (by kernel_rfl)) (fun _ _ _ h => h) (Or.inr ⟨by rfl, rfl⟩) ?_ ?_
           rotate_left
           ·simp only [Act.put, q4_, q5_, q6_, i64_w, i32_w]
            rfl
           refine pure_ (i := 20) (N := some 78) (v := undef) (a' := ?_) m21_ rfl rfl (any_of HT_.out (by kernel_rfl)) (fun _ _ _ h => h) (Or.inr ⟨by rfl, rfl⟩) ?_ ?_
           rotate_left
           ·simp only [Act.put, q4_, q5_, q6_, i64_w, i32_w]
            rfl
           refine pure_ (i := 21) (N := some 79) (v := ?_) (a' := ?_) m22_ rfl rfl (any_of HT_.out (by kernel_rfl)) (fun _ _ _ h => h) (Or.inl ⟨by rfl, ?_⟩) ?_ ?_
           rotate_left
           ·intro w'
            go_simp
            with_reducible rfl
           rotate_left
           ·simp only [Act.put, q4_, q5_, q6_, i64_w, i32_w]
            rfl
           refine pure_ (i := 22) (N := some 80) (v := ?_) (a' := ?_) m23_ rfl rfl (any_of HT_.out (by kernel_rfl)) (fun _ _ _ h => h) (Or.inl ⟨by rfl, ?_⟩) ?_ ?_
           rotate_left
           ·intro w'
            go_simp
            with_reducible rfl
           rotate_left
           ·simp only [Act.put, q4_, q5_, q6_, i64_w, i32_w]
            rfl
           refine pure_ (i := 23) (N := some 81) (v := ?_) (a' := ?_) m24_ rfl rfl (any_of HT_.out (by kernel_rfl)) (fun _ _ _ h => h) (Or.inl ⟨by rfl, ?_⟩) ?_ ?_
           rotate_left
           ·intro w'
            go_simp
            with_reducible rfl
           rotate_left
           ·simp only [Act.put, q4_, q5_, q6_, i64_w, i32_w]
            rfl
           refine pure_ (i := 32) (N := some 90) (v := ?_) (a' := ?_) m25_ rfl rfl (any_of HT_.out (by kernel_rfl)) (fun _ _ _ h => h) (Or.inl ⟨by rfl, ?_⟩) ?_ ?_
           rotate_left
           ·intro w'
            go_simp
            with_reducible rfl
           rotate_left
           ·simp only [Act.put, q4_, q5_, q6_, i64_w, i32_w]
            rfl
           refine take_ (i := 24) (N := some 82) (v := ?_) (a' := ?_) m26_ rfl rfl (take_ofW HT_.out HW_.out (by kernel_rfl)) (fun _ _ _ h => h) (Or.inl ⟨by rfl, ?_⟩) hHeld ?_ ?_
           rotate_left
           ·rintro w' ⟨s0, s1, s2, s3, s4, s5, s6, s7, s8, s9, s10, s11⟩
            go_simp
            with_reducible rfl
           rotate_left
           ·simp only [Act.put, q4_, q5_, q6_, i64_w, i32_w]
            rfl
           refine take_ (i := 25) (N := some 83) (v := ?_) (a' := ?_) m27_ rfl rfl (take_ofW HT_.out HW_.out (by kernel_rfl)) (fun _ _ _ h => h) (Or.inl ⟨by rfl, ?_⟩) hHeld ?_ ?_
           rotate_left
           ·rintro w' ⟨s0, s1, s2, s3, s4, s5, s6, s7, s8, s9, s10, s11⟩
            go_simp
            with_reducible rfl
           rotate_left
           ·simp only [Act.put, q4_, q5_, q6_, i64_w, i32_w]
            rfl
           refine one_ (i := 26) (N := some 84) m28_ rfl rfl (one_of HT_.out (by kernel_rfl)) (by decide) (fun K hK => ?_)
           refine goes_ Try.func41 (by kernel_rfl) rfl #[.agg #[.bool a0_0, .int .i64 a0_1, .int .i64 a0_2, .int .i64 a0_3, .int .i64 a0_4, .int .i64 a0_5], .agg #[.bool a1_0, .int .i64 a1_1, .int .i64 a1_2, .int .i64 a1_3, .int .i64 a1_4, .int .i64 a1_5]] (by rfl) rfl rfl (by (try simp only [List.map_toArray, List.map_cons, List.map_nil]); first | done | rfl | (simp only [List.length_drop, List.length_take]; rfl)) ?_
           with_reducible refine (cap_Under.calls a0_0 a0_1 a0_2 a0_3 a0_4 a0_5 a1_0 a1_1 a1_2 a1_3 a1_4 a1_5 true _ A149.out).mono ?_
           rintro e w158 ⟨rfl, hb⟩
           refine ⟨_, rfl, ?_⟩
           have n0_ := q1_ BK214 hb
           have n1_ := q1_ BK215 hb
           have n2_ := q1_ BK216 hb
           have n3_ := q2_ HB hb
           clear BK214
           clear BK215
           clear BK216
           clear HB
           have BK214 := n0_
           have BK215 := n1_
           have BK216 := n2_
           have HB := n3_
           clear n0_ n1_ n2_ n3_
           (try clear hb)
           (try clear hb2)
           (try clear hk)
           (try clear hi)
           refine hK.out _ _ ⟨q7_ BK214 0 rfl, q7_ BK214 1 rfl, q7_ BK214 2 rfl, q7_ BK214 3 rfl, q7_ BK214 4 rfl, q7_ BK214 5 rfl, q7_ BK215 0 rfl, q7_ BK215 1 rfl, q7_ BK215 2 rfl, q7_ BK215 3 rfl, q7_ BK215 4 rfl, q7_ BK215 5 rfl⟩ (fun hHeld => ?_)
           clear hK K
           refine norm_ (a' := ?_) ?_ ?_
           rotate_left
           ·show Act.put _ (some 84) _ = _
            simp only [Act.put, q4_, q5_, q6_, i64_w, i32_w]
            rfl
           refine pure_ (i := 27) (N := some 85) (v := ?_) (a' := ?_) m29_ rfl rfl (any_of HT_.out (by kernel_rfl)) (fun _ _ _ h => h) (Or.inl ⟨by rfl, ?_⟩) ?_ ?_
           rotate_left
           ·intro w'
            go_simp
            with_reducible rfl
           rotate_left
           ·simp only [Act.put, q4_, q5_, q6_, i64_w, i32_w]
            rfl
           refine take_ (i := 28) (N := some 86) (v := ?_) (a' := ?_) m30_ rfl rfl (take_ofW HT_.out HW_.out (by kernel_rfl)) (fun _ _ _ h => h) (Or.inl ⟨by rfl, ?_⟩) hHeld ?_ ?_
           rotate_left
           ·rintro w' ⟨s0, s1, s2, s3, s4, s5, s6, s7, s8, s9, s10, s11⟩
            go_simp
            with_reducible rfl
           rotate_left
           ·simp only [Act.put, q4_, q5_, q6_, i64_w, i32_w]
            rfl
           refine take_ (i := 29) (N := some 87) (v := ?_) (a' := ?_) m31_ rfl rfl (take_ofW HT_.out HW_.out (by kernel_rfl)) (fun _ _ _ h => h) (Or.inl ⟨by rfl, ?_⟩) hHeld ?_ ?_
           rotate_left
           ·rintro w' ⟨s0, s1, s2, s3, s4, s5, s6, s7, s8, s9, s10, s11⟩
            go_simp
            with_reducible rfl
           rotate_left
           ·simp only [Act.put, q4_, q5_, q6_, i64_w, i32_w]
            rfl
           refine one_ (i := 30) (N := some 88) m32_ rfl rfl (one_of HT_.out (by kernel_rfl)) (by decide) (fun K hK => ?_)
           refine goes_ Try.func41 (by kernel_rfl) rfl #[.agg #[.bool a1_0, .int .i64 a1_1, .int .i64 a1_2, .int .i64 a1_3, .int .i64 a1_4, .int .i64 a1_5], .agg #[.bool a0_0, .int .i64 a0_1, .int .i64 a0_2, .int .i64 a0_3, .int .i64 a0_4, .int .i64 a0_5]] (by rfl) rfl rfl (by (try simp only [List.map_toArray, List.map_cons, List.map_nil]); first | done | rfl | (simp only [List.length_drop, List.length_take]; rfl)) ?_
           with_reducible refine (cap_Under.calls a1_0 a1_1 a1_2 a1_3 a1_4 a1_5 a0_0 a0_1 a0_2 a0_3 a0_4 a0_5 t258 _ A151.out).mono ?_
           rintro e w159 ⟨rfl, hb⟩
           refine ⟨_, rfl, ?_⟩
           have n0_ := q1_ BK214 hb
           have n1_ := q1_ BK215 hb
           have n2_ := q1_ BK216 hb
           have n3_ := q2_ HB hb
           clear BK214
           clear BK215
           clear BK216
           clear HB
           have BK214 := n0_
           have BK215 := n1_
           have BK216 := n2_
           have HB := n3_
           clear n0_ n1_ n2_ n3_
           (try clear hb)
           (try clear hb2)
           (try clear hk)
           (try clear hi)
           refine hK.out _ _ ⟨q7_ BK214 0 rfl, q7_ BK214 1 rfl, q7_ BK214 2 rfl, q7_ BK214 3 rfl, q7_ BK214 4 rfl, q7_ BK214 5 rfl, q7_ BK215 0 rfl, q7_ BK215 1 rfl, q7_ BK215 2 rfl, q7_ BK215 3 rfl, q7_ BK215 4 rfl, q7_ BK215 5 rfl⟩ (fun hHeld => ?_)
           clear hK K
           refine norm_ (a' := ?_) ?_ ?_
           rotate_left
           ·show Act.put _ (some 88) _ = _
            simp only [Act.put, q4_, q5_, q6_, i64_w, i32_w]
            rfl
           refine pure_ (i := 31) (N := some 89) (v := ?_) (a' := ?_) m33_ rfl rfl (any_of HT_.out (by kernel_rfl)) (fun _ _ _ h => h) (Or.inl ⟨by rfl, ?_⟩) ?_ ?_
           rotate_left
           ·intro w'
            go_simp
            with_reducible rfl
           rotate_left
           ·simp only [Act.put, q4_, q5_, q6_, i64_w, i32_w]
            rfl
           refine pure_ (i := 33) (N := some 91) (v := ?_) (a' := ?_) m34_ rfl rfl (any_of HT_.out (by kernel_rfl)) (fun _ _ _ h => h) (Or.inl ⟨by rfl, ?_⟩) ?_ ?_
           rotate_left
           ·intro w'
            go_simp
            with_reducible rfl
           rotate_left
           ·simp only [Act.put, q4_, q5_, q6_, i64_w, i32_w]
            rfl
           refine pure_ (i := 34) (N := some 92) (v := ?_) (a' := ?_) m35_ rfl rfl (any_of HT_.out (by kernel_rfl)) (fun _ _ _ h => h) (Or.inl ⟨by rfl, ?_⟩) ?_ ?_
           rotate_left
           ·intro w'
            go_simp
            with_reducible rfl
           rotate_left
           ·simp only [Act.put, q4_, q5_, q6_, i64_w, i32_w]
            rfl
           refine pure_ (i := 35) (N := some 93) (v := ?_) (a' := ?_) m36_ rfl rfl (any_of HT_.out (by kernel_rfl)) (fun _ _ _ h => h) (Or.inl ⟨by rfl, ?_⟩) ?_ ?_
           rotate_left
           ·intro w'
            go_simp
            with_reducible rfl
           rotate_left
           ·simp only [Act.put, q4_, q5_, q6_, i64_w, i32_w]
            rfl
           refine take_ (i := 36) (N := some 94) (v := ?_) (a' := ?_) m37_ rfl rfl (take_ofW HT_.out HW_.out (by kernel_rfl)) (fun _ _ _ h => h) (Or.inl ⟨by rfl, ?_⟩) hHeld ?_ ?_
           rotate_left
           ·rintro w' ⟨s0, s1, s2, s3, s4, s5, s6, s7, s8, s9, s10, s11⟩
            go_simp
            with_reducible rfl
           rotate_left
           ·simp only [Act.put, q4_, q5_, q6_, i64_w, i32_w]
            rfl
           refine one_ (i := 37) (N := some 95) m38_ rfl rfl (one_of HT_.out (by kernel_rfl)) (by decide) (fun K hK => ?_)
           refine goes_ Try.func45 (by kernel_rfl) rfl #[.int .i64 16777216] (by rfl) rfl rfl (by (try simp only [List.map_toArray, List.map_cons, List.map_nil]); first | done | rfl | (simp only [List.length_drop, List.length_take]; rfl)) ?_
           with_reducible refine (cap_Root.calls 16777216 t259 t260 t261 t262 t263 t264 _ A153.out).mono ?_
           rintro e w160 ⟨rfl, hb⟩
           refine ⟨_, rfl, ?_⟩
           have n0_ := q1_ BK214 hb
           have n1_ := q1_ BK215 hb
           have n2_ := q1_ BK216 hb
           have n3_ := q2_ HB hb
           clear BK214
           clear BK215
           clear BK216
           clear HB
           have BK214 := n0_
           have BK215 := n1_
           have BK216 := n2_
           have HB := n3_
           clear n0_ n1_ n2_ n3_
           (try clear hb)
           (try clear hb2)
           (try clear hk)
           (try clear hi)
           refine hK.out _ _ ⟨q7_ BK214 0 rfl, q7_ BK214 1 rfl, q7_ BK214 2 rfl, q7_ BK214 3 rfl, q7_ BK214 4 rfl, q7_ BK214 5 rfl, q7_ BK215 0 rfl, q7_ BK215 1 rfl, q7_ BK215 2 rfl, q7_ BK215 3 rfl, q7_ BK215 4 rfl, q7_ BK215 5 rfl⟩ (fun hHeld => ?_)
           clear hK K
           refine norm_ (a' := ?_) ?_ ?_
           rotate_left
           ·show Act.put _ (some 95) _ = _
            simp only [Act.put, q4_, q5_, q6_, i64_w, i32_w]
            rfl
           refine one_ (i := 38) (N := some 96) m39_ rfl rfl (one_of HT_.out (by kernel_rfl)) (by decide) (fun K hK => ?_)
           refine goes_ Try.func41 (by kernel_rfl) rfl #[.agg #[.bool a0_0, .int .i64 a0_1, .int .i64 a0_2, .int .i64 a0_3, .int .i64 a0_4, .int .i64 a0_5], .agg #[.bool t259, .int .i64 t260, .int .i64 t261, .int .i64 t262, .int .i64 t263, .int .i64 t264]] (by rfl) rfl rfl (by (try simp only [List.map_toArray, List.map_cons, List.map_nil]); first | done | rfl | (simp only [List.length_drop, List.length_take]; rfl)) ?_
           with_reducible refine (cap_Under.calls a0_0 a0_1 a0_2 a0_3 a0_4 a0_5 t259 t260 t261 t262 t263 t264 t265 _ A154.out).mono ?_
           rintro e w161 ⟨rfl, hb⟩
           refine ⟨_, rfl, ?_⟩
           have n0_ := q1_ BK214 hb
           have n1_ := q1_ BK215 hb
           have n2_ := q1_ BK216 hb
           have n3_ := q2_ HB hb
           clear BK214
           clear BK215
           clear BK216
           clear HB
           have BK214 := n0_
           have BK215 := n1_
           have BK216 := n2_
           have HB := n3_
           clear n0_ n1_ n2_ n3_
           (try clear hb)
           (try clear hb2)
           (try clear hk)
           (try clear hi)
           refine hK.out _ _ ⟨q7_ BK214 0 rfl, q7_ BK214 1 rfl, q7_ BK214 2 rfl, q7_ BK214 3 rfl, q7_ BK214 4 rfl, q7_ BK214 5 rfl, q7_ BK215 0 rfl, q7_ BK215 1 rfl, q7_ BK215 2 rfl, q7_ BK215 3 rfl, q7_ BK215 4 rfl, q7_ BK215 5 rfl⟩ (fun hHeld => ?_)
           clear hK K
           refine norm_ (a' := ?_) ?_ ?_
           rotate_left
           ·show Act.put _ (some 96) _ = _
            simp only [Act.put, q4_, q5_, q6_, i64_w, i32_w]
            rfl
           refine pure_ (i := 39) (N := some 97) (v := ?_) (a' := ?_) m40_ rfl rfl (any_of HT_.out (by kernel_rfl)) (fun _ _ _ h => h) (Or.inl ⟨by rfl, ?_⟩) ?_ ?_
           rotate_left
           ·intro w'
            go_simp
            with_reducible rfl
           rotate_left
           ·simp only [Act.put, q4_, q5_, q6_, i64_w, i32_w]
            rfl
           refine pure_ (i := 40) (N := some 6) (v := ?_) (a' := ?_) m41_ rfl rfl (any_of HT_.out (by kernel_rfl)) (fun _ _ _ h => h) (Or.inl ⟨by rfl, ?_⟩) ?_ ?_
           rotate_left
           ·intro w'
            go_simp
            with_reducible rfl
           rotate_left
           ·simp only [Act.put, q4_, q5_, q6_, i64_w, i32_w]
            rfl
           refine done_ (done_of HT_.out (by kernel_rfl)) ?_
           try go_wp2
           go_ret
           exact ⟨by first | rfl | (simp [errW_none, errW_some] <;> rfl) | (simp [*, errW_none, errW_some] <;> rfl), by repeat (first | (with_reducible first | exact HB.out | apply below_alloc | apply pw_below_drewN | apply below_drew1 | refine below_set ?_ GE214.out | refine below_set ?_ GE215.out | refine below_set ?_ GE216.out) | exact HB.out)⟩
          ·rw [if_neg c152] at H
           have c152b0 : (t258 == x8_71) = false := by simpa using c152
           (try (have c152b1 : decide (t258 = x8_71) = false := by simpa using c152))
           (try (have c152b2 : (t258 == x8_71) = false := by simpa using c152))
           (try (have c152b3 : ¬ (t258 = x8_71) := by simpa using c152))
           clear c152
           exact absurd ((Option.some.inj H).trans hr_) (by decide)
         ·replace c150 := Bool.eq_false_iff.mpr c150
          subst c150
          have H1 : (if (false == x8_71) = true then ((cap_Root.f 16777216).bind fun bt266 => ((cap_Under.f a0_0 a0_1 a0_2 a0_3 a0_4 a0_5 bt266.1 bt266.2.1 bt266.2.2.1 bt266.2.2.2.1 bt266.2.2.2.2.1 bt266.2.2.2.2.2).bind fun t272 => (some t272))) else (some false)) = some r := by rw [if_neg (show ¬ (false = true) by decide)] at H; exact H
          clear H
          have H := H1
          clear H1
          by_cases c162 : (false == x8_71) = true
          ·rw [if_pos c162] at H
           have c162b0 : (false == x8_71) = true := c162
           (try (have c162b1 : decide (false = x8_71) = true := by simpa using c162))
           (try (have c162b2 : (false == x8_71) = true := by simpa using c162))
           clear c162
           replace H := Option.bind_eq_some_iff.mp H
           obtain ⟨⟨t266, t267, t268, t269, t270, t271⟩, A1630, H⟩ := H
           replace H : ((cap_Under.f a0_0 a0_1 a0_2 a0_3 a0_4 a0_5 t266 t267 t268 t269 t270 t271).bind fun t272 => (some t272)) = some r := H
           have A163 := Aside0.mk A1630
           clear A1630
           replace H := Option.bind_eq_some_iff.mp H
           obtain ⟨t272, A1640, H⟩ := H
           replace H : (some t272) = some r := H
           have A164 := Aside0.mk A1640
           clear A1640
           clear hr_
           obtain rfl := Option.some.inj H
           try go_wp2
           have n0_ := Aside0.mk (blk_drew BK214.out)
           have n1_ := Aside0.mk (blk_drew BK215.out)
           have n2_ := Aside0.mk (blk_drew BK216.out)
           have n3_ := Aside0.mk (below_drew1 HB.out)
           clear BK214
           clear BK215
           clear BK216
           clear HB
           have BK214 := n0_
           have BK215 := n1_
           have BK216 := n2_
           have HB := n3_
           clear n0_ n1_ n2_ n3_
           refine start_ (n := 41) (S := fun w' => w'.cell? ⟨gb214, 0, none⟩ = some (.bool a0_0) ∧ w'.cell? ⟨gb214, 1, none⟩ = some (.int .i64 a0_1) ∧ w'.cell? ⟨gb214, 2, none⟩ = some (.int .i64 a0_2) ∧ w'.cell? ⟨gb214, 3, none⟩ = some (.int .i64 a0_3) ∧ w'.cell? ⟨gb214, 4, none⟩ = some (.int .i64 a0_4) ∧ w'.cell? ⟨gb214, 5, none⟩ = some (.int .i64 a0_5) ∧ w'.cell? ⟨gb215, 0, none⟩ = some (.bool a1_0) ∧ w'.cell? ⟨gb215, 1, none⟩ = some (.int .i64 a1_1) ∧ w'.cell? ⟨gb215, 2, none⟩ = some (.int .i64 a1_2) ∧ w'.cell? ⟨gb215, 3, none⟩ = some (.int .i64 a1_3) ∧ w'.cell? ⟨gb215, 4, none⟩ = some (.int .i64 a1_4) ∧ w'.cell? ⟨gb215, 5, none⟩ = some (.int .i64 a1_5)) (ds := []) m0_ (by kernel_rfl) rfl rfl ⟨q7_ BK214 0 rfl, q7_ BK214 1 rfl, q7_ BK214 2 rfl, q7_ BK214 3 rfl, q7_ BK214 4 rfl, q7_ BK214 5 rfl, q7_ BK215 0 rfl, q7_ BK215 1 rfl, q7_ BK215 2 rfl, q7_ BK215 3 rfl, q7_ BK215 4 rfl, q7_ BK215 5 rfl⟩ (fun hHeld => ?_); refine with_tabW seizinlaw02_CapOrder.tab5 seizinlaw02_CapOrder.bits5 (fun HT_ HW_ => ?_)
           generalize wc.drew = w165 at BK214 BK215 BK216 HB hHeld ⊢
           refine pure_ (i := 0) (N := some 58) (v := ?_) (a' := ?_) m1_ rfl rfl (any_of HT_.out (by kernel_rfl)) (fun _ _ _ h => h) (Or.inl ⟨by rfl, ?_⟩) ?_ ?_
           rotate_left
           ·intro w'
            go_simp
            with_reducible rfl
           rotate_left
           ·simp only [Act.put, q4_, q5_, q6_, i64_w, i32_w]
            rfl
           refine pure_ (i := 1) (N := some 59) (v := ?_) (a' := ?_) m2_ rfl rfl (any_of HT_.out (by kernel_rfl)) (fun _ _ _ h => h) (Or.inl ⟨by rfl, ?_⟩) ?_ ?_
           rotate_left
           ·intro w'
            go_simp
            with_reducible rfl
           rotate_left
           ·simp only [Act.put, q4_, q5_, q6_, i64_w, i32_w]
            rfl
           refine take_ (i := 2) (N := some 60) (v := ?_) (a' := ?_) m3_ rfl rfl (take_ofW HT_.out HW_.out (by kernel_rfl)) (fun _ _ _ h => h) (Or.inl ⟨by rfl, ?_⟩) hHeld ?_ ?_
           rotate_left
           ·rintro w' ⟨s0, s1, s2, s3, s4, s5, s6, s7, s8, s9, s10, s11⟩
            go_simp
            with_reducible rfl
           rotate_left
           ·simp only [Act.put, q4_, q5_, q6_, i64_w, i32_w]
            rfl
           refine take_ (i := 3) (N := some 61) (v := ?_) (a' := ?_) m4_ rfl rfl (take_ofW HT_.out HW_.out (by kernel_rfl)) (fun _ _ _ h => h) (Or.inl ⟨by rfl, ?_⟩) hHeld ?_ ?_
           rotate_left
           ·rintro w' ⟨s0, s1, s2, s3, s4, s5, s6, s7, s8, s9, s10, s11⟩
            go_simp
            with_reducible rfl
           rotate_left
           ·simp only [Act.put, q4_, q5_, q6_, i64_w, i32_w]
            rfl
           refine one_ (i := 4) (N := some 62) m5_ rfl rfl (one_of HT_.out (by kernel_rfl)) (by decide) (fun K hK => ?_)
           refine goes_ Try.func41 (by kernel_rfl) rfl #[.agg #[.bool a0_0, .int .i64 a0_1, .int .i64 a0_2, .int .i64 a0_3, .int .i64 a0_4, .int .i64 a0_5], .agg #[.bool a0_0, .int .i64 a0_1, .int .i64 a0_2, .int .i64 a0_3, .int .i64 a0_4, .int .i64 a0_5]] (by rfl) rfl rfl (by (try simp only [List.map_toArray, List.map_cons, List.map_nil]); first | done | rfl | (simp only [List.length_drop, List.length_take]; rfl)) ?_
           with_reducible refine (cap_Under.calls a0_0 a0_1 a0_2 a0_3 a0_4 a0_5 a0_0 a0_1 a0_2 a0_3 a0_4 a0_5 true _ A91.out).mono ?_
           rintro e w166 ⟨rfl, hb⟩
           refine ⟨_, rfl, ?_⟩
           have n0_ := q1_ BK214 hb
           have n1_ := q1_ BK215 hb
           have n2_ := q1_ BK216 hb
           have n3_ := q2_ HB hb
           clear BK214
           clear BK215
           clear BK216
           clear HB
           have BK214 := n0_
           have BK215 := n1_
           have BK216 := n2_
           have HB := n3_
           clear n0_ n1_ n2_ n3_
           (try clear hb)
           (try clear hb2)
           (try clear hk)
           (try clear hi)
           refine hK.out _ _ ⟨q7_ BK214 0 rfl, q7_ BK214 1 rfl, q7_ BK214 2 rfl, q7_ BK214 3 rfl, q7_ BK214 4 rfl, q7_ BK214 5 rfl, q7_ BK215 0 rfl, q7_ BK215 1 rfl, q7_ BK215 2 rfl, q7_ BK215 3 rfl, q7_ BK215 4 rfl, q7_ BK215 5 rfl⟩ (fun hHeld => ?_)
           clear hK K
           refine norm_ (a' := ?_) ?_ ?_
           rotate_left
           ·show Act.put _ (some 62) _ = _
            simp only [Act.put, q4_, q5_, q6_, i64_w, i32_w]
            rfl
           refine pure_ (i := 5) (N := some 63) (v := ?_) (a' := ?_) m6_ rfl rfl (any_of HT_.out (by kernel_rfl)) (fun _ _ _ h => h) (Or.inl ⟨by rfl, ?_⟩) ?_ ?_
           rotate_left
           ·intro w'
            go_simp
            with_reducible rfl
           rotate_left
           ·simp only [Act.put, q4_, q5_, q6_, i64_w, i32_w]
            rfl
           refine pure_ (i := 6) (N := some 64) (v := ?_) (a' := ?_) m7_ rfl rfl (any_of HT_.out (by kernel_rfl)) (fun _ _ _ h => h) (Or.inl ⟨by rfl, ?_⟩) ?_ ?_
           rotate_left
           ·intro w'
            go_simp
            with_reducible rfl
           rotate_left
           ·simp only [Act.put, q4_, q5_, q6_, i64_w, i32_w]
            rfl
           refine take_ (i := 7) (N := some 65) (v := ?_) (a' := ?_) m8_ rfl rfl (take_ofW HT_.out HW_.out (by kernel_rfl)) (fun _ _ _ h => h) (Or.inl ⟨by rfl, ?_⟩) hHeld ?_ ?_
           rotate_left
           ·rintro w' ⟨s0, s1, s2, s3, s4, s5, s6, s7, s8, s9, s10, s11⟩
            go_simp
            with_reducible rfl
           rotate_left
           ·simp only [Act.put, q4_, q5_, q6_, i64_w, i32_w]
            rfl
           refine take_ (i := 8) (N := some 66) (v := ?_) (a' := ?_) m9_ rfl rfl (take_ofW HT_.out HW_.out (by kernel_rfl)) (fun _ _ _ h => h) (Or.inl ⟨by rfl, ?_⟩) hHeld ?_ ?_
           rotate_left
           ·rintro w' ⟨s0, s1, s2, s3, s4, s5, s6, s7, s8, s9, s10, s11⟩
            go_simp
            with_reducible rfl
           rotate_left
           ·simp only [Act.put, q4_, q5_, q6_, i64_w, i32_w]
            rfl
           refine one_ (i := 9) (N := some 67) m10_ rfl rfl (one_of HT_.out (by kernel_rfl)) (by decide) (fun K hK => ?_)
           refine goes_ Try.func41 (by kernel_rfl) rfl #[.agg #[.bool a0_0, .int .i64 a0_1, .int .i64 a0_2, .int .i64 a0_3, .int .i64 a0_4, .int .i64 a0_5], .agg #[.bool a1_0, .int .i64 a1_1, .int .i64 a1_2, .int .i64 a1_3, .int .i64 a1_4, .int .i64 a1_5]] (by rfl) rfl rfl (by (try simp only [List.map_toArray, List.map_cons, List.map_nil]); first | done | rfl | (simp only [List.length_drop, List.length_take]; rfl)) ?_
           with_reducible refine (cap_Under.calls a0_0 a0_1 a0_2 a0_3 a0_4 a0_5 a1_0 a1_1 a1_2 a1_3 a1_4 a1_5 false _ A93.out).mono ?_
           rintro e w167 ⟨rfl, hb⟩
           refine ⟨_, rfl, ?_⟩
           have n0_ := q1_ BK214 hb
           have n1_ := q1_ BK215 hb
           have n2_ := q1_ BK216 hb
           have n3_ := q2_ HB hb
           clear BK214
           clear BK215
           clear BK216
           clear HB
           have BK214 := n0_
           have BK215 := n1_
           have BK216 := n2_
           have HB := n3_
           clear n0_ n1_ n2_ n3_
           (try clear hb)
           (try clear hb2)
           (try clear hk)
           (try clear hi)
           refine hK.out _ _ ⟨q7_ BK214 0 rfl, q7_ BK214 1 rfl, q7_ BK214 2 rfl, q7_ BK214 3 rfl, q7_ BK214 4 rfl, q7_ BK214 5 rfl, q7_ BK215 0 rfl, q7_ BK215 1 rfl, q7_ BK215 2 rfl, q7_ BK215 3 rfl, q7_ BK215 4 rfl, q7_ BK215 5 rfl⟩ (fun hHeld => ?_)
           clear hK K
           refine norm_ (a' := ?_) ?_ ?_
           rotate_left
           ·show Act.put _ (some 67) _ = _
            simp only [Act.put, q4_, q5_, q6_, i64_w, i32_w]
            rfl
           refine pure_ (i := 10) (N := some 68) (v := ?_) (a' := ?_) m11_ rfl rfl (any_of HT_.out (by kernel_rfl)) (fun _ _ _ h => h) (Or.inl ⟨by rfl, ?_⟩) ?_ ?_
           rotate_left
           ·intro w'
            go_simp
            with_reducible rfl
           rotate_left
           ·simp only [Act.put, q4_, q5_, q6_, i64_w, i32_w]
            rfl
           refine pure_ (i := 11) (N := some 69) (v := ?_) (a' := ?_) m12_ rfl rfl (any_of HT_.out (by kernel_rfl)) (fun _ _ _ h => h) (Or.inl ⟨by rfl, ?_⟩) ?_ ?_
           rotate_left
           ·intro w'
            go_simp
            with_reducible rfl
           rotate_left
           ·simp only [Act.put, q4_, q5_, q6_, i64_w, i32_w]
            rfl
           refine pure_ (i := 12) (N := some 70) (v := undef) (a' := ?_) m13_ rfl rfl (any_of HT_.out (by kernel_rfl)) (fun _ _ _ h => h) (Or.inr ⟨by rfl, rfl⟩) ?_ ?_
           rotate_left
           ·simp only [Act.put, q4_, q5_, q6_, i64_w, i32_w]
            rfl
           refine pure_ (i := 13) (N := some 71) (v := undef) (a' := ?_) m14_ rfl rfl (any_of HT_.out (by kernel_rfl)) (fun _ _ _ h => h) (Or.inr ⟨by rfl, rfl⟩) ?_ ?_
           rotate_left
           ·simp only [Act.put, q4_, q5_, q6_, i64_w, i32_w]
            rfl
           refine pure_ (i := 14) (N := some 72) (v := undef) (a' := ?_) m15_ rfl rfl (any_of HT_.out (by kernel_rfl)) (fun _ _ _ h => h) (Or.inr ⟨by rfl, rfl⟩) ?_ ?_
           rotate_left
           ·simp only [Act.put, q4_, q5_, q6_, i64_w, i32_w]
            rfl
           refine pure_ (i := 15) (N := some 73) (v := undef) (a' := ?_) m16_ rfl rfl (any_of HT_.out (by kernel_rfl)) (fun _ _ _ h => h) (Or.inr ⟨by rfl, rfl⟩) ?_ ?_
           rotate_left
           ·simp only [Act.put, q4_, q5_, q6_, i64_w, i32_w]
            rfl
           refine pure_ (i := 16) (N := some 74) (v := ?_) (a' := ?_) m17_ rfl rfl (any_of HT_.out (by kernel_rfl)) (fun _ _ _ h => h) (Or.inl ⟨by rfl, ?_⟩) ?_ ?_
           rotate_left
           ·intro w'
            go_simp
            with_reducible rfl
           rotate_left
           ·simp only [Act.put, q4_, q5_, q6_, i64_w, i32_w]
            rfl
           refine pure_ (i := 17) (N := some 75) (v := ?_) (a' := ?_) m18_ rfl rfl (any_of HT_.out (by kernel_rfl)) (fun _ _ _ h => h) (Or.inl ⟨by rfl, ?_⟩) ?_ ?_
           rotate_left
           ·intro w'
            go_simp
            with_reducible rfl
           rotate_left
           ·simp only [Act.put, q4_, q5_, q6_, i64_w, i32_w]
            rfl
           refine pure_ (i := 18) (N := some 76) (v := undef) (a' := ?_) m19_ rfl rfl (any_of HT_.out (by kernel_rfl)) (fun _ _ _ h => h) (Or.inr ⟨by rfl, rfl⟩) ?_ ?_
           rotate_left
           ·simp only [Act.put, q4_, q5_, q6_, i64_w, i32_w]
            rfl
           refine pure_ (i := 19) (N := some 77) (v := undef) (a' := ?_) m20_ rfl rfl (any_of HT_.out (by kernel_rfl)) (fun _ _ _ h => h) (Or.inr ⟨by rfl, rfl⟩) ?_ ?_
           rotate_left
           ·simp only [Act.put, q4_, q5_, q6_, i64_w, i32_w]
            rfl
           refine pure_ (i := 20) (N := some 78) (v := undef) (a' := ?_) m21_ rfl rfl (any_of HT_.out (by kernel_rfl)) (fun _ _ _ h => h) (Or.inr ⟨by rfl, rfl⟩) ?_ ?_
           rotate_left
           ·simp only [Act.put, q4_, q5_, q6_, i64_w, i32_w]
            rfl
           refine pure_ (i := 21) (N := some 79) (v := ?_) (a' := ?_) m22_ rfl rfl (any_of HT_.out (by kernel_rfl)) (fun _ _ _ h => h) (Or.inl ⟨by rfl, ?_⟩) ?_ ?_
           rotate_left
           ·intro w'
            go_simp
            with_reducible rfl
           rotate_left
           ·simp only [Act.put, q4_, q5_, q6_, i64_w, i32_w]
            rfl
           refine pure_ (i := 22) (N := some 80) (v := ?_) (a' := ?_) m23_ rfl rfl (any_of HT_.out (by kernel_rfl)) (fun _ _ _ h => h) (Or.inl ⟨by rfl, ?_⟩) ?_ ?_
           rotate_left
           ·intro w'
            go_simp
            with_reducible rfl
           rotate_left
           ·simp only [Act.put, q4_, q5_, q6_, i64_w, i32_w]
            rfl
           refine pure_ (i := 23) (N := some 81) (v := ?_) (a' := ?_) m24_ rfl rfl (any_of HT_.out (by kernel_rfl)) (fun _ _ _ h => h) (Or.inl ⟨by rfl, ?_⟩) ?_ ?_
           rotate_left
           ·intro w'
            go_simp
            with_reducible rfl
           rotate_left
           ·simp only [Act.put, q4_, q5_, q6_, i64_w, i32_w]
            rfl
           refine pure_ (i := 32) (N := some 90) (v := ?_) (a' := ?_) m25_ rfl rfl (any_of HT_.out (by kernel_rfl)) (fun _ _ _ h => h) (Or.inl ⟨by rfl, ?_⟩) ?_ ?_
           rotate_left
           ·intro w'
            go_simp
            with_reducible rfl
           rotate_left
           ·simp only [Act.put, q4_, q5_, q6_, i64_w, i32_w]
            rfl
           refine take_ (i := 24) (N := some 82) (v := ?_) (a' := ?_) m26_ rfl rfl (take_ofW HT_.out HW_.out (by kernel_rfl)) (fun _ _ _ h => h) (Or.inl ⟨by rfl, ?_⟩) hHeld ?_ ?_
           rotate_left
           ·rintro w' ⟨s0, s1, s2, s3, s4, s5, s6, s7, s8, s9, s10, s11⟩
            go_simp
            with_reducible rfl
           rotate_left
           ·simp only [Act.put, q4_, q5_, q6_, i64_w, i32_w]
            rfl
           refine take_ (i := 25) (N := some 83) (v := ?_) (a' := ?_) m27_ rfl rfl (take_ofW HT_.out HW_.out (by kernel_rfl)) (fun _ _ _ h => h) (Or.inl ⟨by rfl, ?_⟩) hHeld ?_ ?_
           rotate_left
           ·rintro w' ⟨s0, s1, s2, s3, s4, s5, s6, s7, s8, s9, s10, s11⟩
            go_simp
            with_reducible rfl
           rotate_left
           ·simp only [Act.put, q4_, q5_, q6_, i64_w, i32_w]
            rfl
           refine one_ (i := 26) (N := some 84) m28_ rfl rfl (one_of HT_.out (by kernel_rfl)) (by decide) (fun K hK => ?_)
           refine goes_ Try.func41 (by kernel_rfl) rfl #[.agg #[.bool a0_0, .int .i64 a0_1, .int .i64 a0_2, .int .i64 a0_3, .int .i64 a0_4, .int .i64 a0_5], .agg #[.bool a1_0, .int .i64 a1_1, .int .i64 a1_2, .int .i64 a1_3, .int .i64 a1_4, .int .i64 a1_5]] (by rfl) rfl rfl (by (try simp only [List.map_toArray, List.map_cons, List.map_nil]); first | done | rfl | (simp only [List.length_drop, List.length_take]; rfl)) ?_
           with_reducible refine (cap_Under.calls a0_0 a0_1 a0_2 a0_3 a0_4 a0_5 a1_0 a1_1 a1_2 a1_3 a1_4 a1_5 false _ A149.out).mono ?_
           rintro e w168 ⟨rfl, hb⟩
           refine ⟨_, rfl, ?_⟩
           have n0_ := q1_ BK214 hb
           have n1_ := q1_ BK215 hb
           have n2_ := q1_ BK216 hb
           have n3_ := q2_ HB hb
           clear BK214
           clear BK215
           clear BK216
           clear HB
           have BK214 := n0_
           have BK215 := n1_
           have BK216 := n2_
           have HB := n3_
           clear n0_ n1_ n2_ n3_
           (try clear hb)
           (try clear hb2)
           (try clear hk)
           (try clear hi)
           refine hK.out _ _ ⟨q7_ BK214 0 rfl, q7_ BK214 1 rfl, q7_ BK214 2 rfl, q7_ BK214 3 rfl, q7_ BK214 4 rfl, q7_ BK214 5 rfl, q7_ BK215 0 rfl, q7_ BK215 1 rfl, q7_ BK215 2 rfl, q7_ BK215 3 rfl, q7_ BK215 4 rfl, q7_ BK215 5 rfl⟩ (fun hHeld => ?_)
           clear hK K
           refine norm_ (a' := ?_) ?_ ?_
           rotate_left
           ·show Act.put _ (some 84) _ = _
            simp only [Act.put, q4_, q5_, q6_, i64_w, i32_w]
            rfl
           refine pure_ (i := 27) (N := some 85) (v := ?_) (a' := ?_) m29_ rfl rfl (any_of HT_.out (by kernel_rfl)) (fun _ _ _ h => h) (Or.inl ⟨by rfl, ?_⟩) ?_ ?_
           rotate_left
           ·intro w'
            go_simp
            with_reducible rfl
           rotate_left
           ·simp only [Act.put, q4_, q5_, q6_, i64_w, i32_w]
            rfl
           refine pure_ (i := 28) (N := some 86) (v := undef) (a' := ?_) m30_ rfl rfl (any_of HT_.out (by kernel_rfl)) (fun _ _ _ h => h) (Or.inr ⟨by rfl, rfl⟩) ?_ ?_
           rotate_left
           ·simp only [Act.put, q4_, q5_, q6_, i64_w, i32_w]
            rfl
           refine pure_ (i := 29) (N := some 87) (v := undef) (a' := ?_) m31_ rfl rfl (any_of HT_.out (by kernel_rfl)) (fun _ _ _ h => h) (Or.inr ⟨by rfl, rfl⟩) ?_ ?_
           rotate_left
           ·simp only [Act.put, q4_, q5_, q6_, i64_w, i32_w]
            rfl
           refine pure_ (i := 30) (N := some 88) (v := undef) (a' := ?_) m32_ rfl rfl (any_of HT_.out (by kernel_rfl)) (fun _ _ _ h => h) (Or.inr ⟨by rfl, rfl⟩) ?_ ?_
           rotate_left
           ·simp only [Act.put, q4_, q5_, q6_, i64_w, i32_w]
            rfl
           refine pure_ (i := 31) (N := some 89) (v := ?_) (a' := ?_) m33_ rfl rfl (any_of HT_.out (by kernel_rfl)) (fun _ _ _ h => h) (Or.inl ⟨by rfl, ?_⟩) ?_ ?_
           rotate_left
           ·intro w'
            go_simp
            with_reducible rfl
           rotate_left
           ·simp only [Act.put, q4_, q5_, q6_, i64_w, i32_w]
            rfl
           refine pure_ (i := 33) (N := some 91) (v := ?_) (a' := ?_) m34_ rfl rfl (any_of HT_.out (by kernel_rfl)) (fun _ _ _ h => h) (Or.inl ⟨by rfl, ?_⟩) ?_ ?_
           rotate_left
           ·intro w'
            go_simp
            with_reducible rfl
           rotate_left
           ·simp only [Act.put, q4_, q5_, q6_, i64_w, i32_w]
            rfl
           refine pure_ (i := 34) (N := some 92) (v := ?_) (a' := ?_) m35_ rfl rfl (any_of HT_.out (by kernel_rfl)) (fun _ _ _ h => h) (Or.inl ⟨by rfl, ?_⟩) ?_ ?_
           rotate_left
           ·intro w'
            go_simp
            with_reducible rfl
           rotate_left
           ·simp only [Act.put, q4_, q5_, q6_, i64_w, i32_w]
            rfl
           refine pure_ (i := 35) (N := some 93) (v := ?_) (a' := ?_) m36_ rfl rfl (any_of HT_.out (by kernel_rfl)) (fun _ _ _ h => h) (Or.inl ⟨by rfl, ?_⟩) ?_ ?_
           rotate_left
           ·intro w'
            go_simp
            with_reducible rfl
           rotate_left
           ·simp only [Act.put, q4_, q5_, q6_, i64_w, i32_w]
            rfl
           refine take_ (i := 36) (N := some 94) (v := ?_) (a' := ?_) m37_ rfl rfl (take_ofW HT_.out HW_.out (by kernel_rfl)) (fun _ _ _ h => h) (Or.inl ⟨by rfl, ?_⟩) hHeld ?_ ?_
           rotate_left
           ·rintro w' ⟨s0, s1, s2, s3, s4, s5, s6, s7, s8, s9, s10, s11⟩
            go_simp
            with_reducible rfl
           rotate_left
           ·simp only [Act.put, q4_, q5_, q6_, i64_w, i32_w]
            rfl
           refine one_ (i := 37) (N := some 95) m38_ rfl rfl (one_of HT_.out (by kernel_rfl)) (by decide) (fun K hK => ?_)
           refine goes_ Try.func45 (by kernel_rfl) rfl #[.int .i64 16777216] (by rfl) rfl rfl (by (try simp only [List.map_toArray, List.map_cons, List.map_nil]); first | done | rfl | (simp only [List.length_drop, List.length_take]; rfl)) ?_
           with_reducible refine (cap_Root.calls 16777216 t266 t267 t268 t269 t270 t271 _ A163.out).mono ?_
           rintro e w169 ⟨rfl, hb⟩
           refine ⟨_, rfl, ?_⟩
           have n0_ := q1_ BK214 hb
           have n1_ := q1_ BK215 hb
           have n2_ := q1_ BK216 hb
           have n3_ := q2_ HB hb
           clear BK214
           clear BK215
           clear BK216
           clear HB
           have BK214 := n0_
           have BK215 := n1_
           have BK216 := n2_
           have HB := n3_
           clear n0_ n1_ n2_ n3_
           (try clear hb)
           (try clear hb2)
           (try clear hk)
           (try clear hi)
           refine hK.out _ _ ⟨q7_ BK214 0 rfl, q7_ BK214 1 rfl, q7_ BK214 2 rfl, q7_ BK214 3 rfl, q7_ BK214 4 rfl, q7_ BK214 5 rfl, q7_ BK215 0 rfl, q7_ BK215 1 rfl, q7_ BK215 2 rfl, q7_ BK215 3 rfl, q7_ BK215 4 rfl, q7_ BK215 5 rfl⟩ (fun hHeld => ?_)
           clear hK K
           refine norm_ (a' := ?_) ?_ ?_
           rotate_left
           ·show Act.put _ (some 95) _ = _
            simp only [Act.put, q4_, q5_, q6_, i64_w, i32_w]
            rfl
           refine one_ (i := 38) (N := some 96) m39_ rfl rfl (one_of HT_.out (by kernel_rfl)) (by decide) (fun K hK => ?_)
           refine goes_ Try.func41 (by kernel_rfl) rfl #[.agg #[.bool a0_0, .int .i64 a0_1, .int .i64 a0_2, .int .i64 a0_3, .int .i64 a0_4, .int .i64 a0_5], .agg #[.bool t266, .int .i64 t267, .int .i64 t268, .int .i64 t269, .int .i64 t270, .int .i64 t271]] (by rfl) rfl rfl (by (try simp only [List.map_toArray, List.map_cons, List.map_nil]); first | done | rfl | (simp only [List.length_drop, List.length_take]; rfl)) ?_
           with_reducible refine (cap_Under.calls a0_0 a0_1 a0_2 a0_3 a0_4 a0_5 t266 t267 t268 t269 t270 t271 t272 _ A164.out).mono ?_
           rintro e w170 ⟨rfl, hb⟩
           refine ⟨_, rfl, ?_⟩
           have n0_ := q1_ BK214 hb
           have n1_ := q1_ BK215 hb
           have n2_ := q1_ BK216 hb
           have n3_ := q2_ HB hb
           clear BK214
           clear BK215
           clear BK216
           clear HB
           have BK214 := n0_
           have BK215 := n1_
           have BK216 := n2_
           have HB := n3_
           clear n0_ n1_ n2_ n3_
           (try clear hb)
           (try clear hb2)
           (try clear hk)
           (try clear hi)
           refine hK.out _ _ ⟨q7_ BK214 0 rfl, q7_ BK214 1 rfl, q7_ BK214 2 rfl, q7_ BK214 3 rfl, q7_ BK214 4 rfl, q7_ BK214 5 rfl, q7_ BK215 0 rfl, q7_ BK215 1 rfl, q7_ BK215 2 rfl, q7_ BK215 3 rfl, q7_ BK215 4 rfl, q7_ BK215 5 rfl⟩ (fun hHeld => ?_)
           clear hK K
           refine norm_ (a' := ?_) ?_ ?_
           rotate_left
           ·show Act.put _ (some 96) _ = _
            simp only [Act.put, q4_, q5_, q6_, i64_w, i32_w]
            rfl
           refine pure_ (i := 39) (N := some 97) (v := ?_) (a' := ?_) m40_ rfl rfl (any_of HT_.out (by kernel_rfl)) (fun _ _ _ h => h) (Or.inl ⟨by rfl, ?_⟩) ?_ ?_
           rotate_left
           ·intro w'
            go_simp
            with_reducible rfl
           rotate_left
           ·simp only [Act.put, q4_, q5_, q6_, i64_w, i32_w]
            rfl
           refine pure_ (i := 40) (N := some 6) (v := ?_) (a' := ?_) m41_ rfl rfl (any_of HT_.out (by kernel_rfl)) (fun _ _ _ h => h) (Or.inl ⟨by rfl, ?_⟩) ?_ ?_
           rotate_left
           ·intro w'
            go_simp
            with_reducible rfl
           rotate_left
           ·simp only [Act.put, q4_, q5_, q6_, i64_w, i32_w]
            rfl
           refine done_ (done_of HT_.out (by kernel_rfl)) ?_
           try go_wp2
           go_ret
           exact ⟨by first | rfl | (simp [errW_none, errW_some] <;> rfl) | (simp [*, errW_none, errW_some] <;> rfl), by repeat (first | (with_reducible first | exact HB.out | apply below_alloc | apply pw_below_drewN | apply below_drew1 | refine below_set ?_ GE214.out | refine below_set ?_ GE215.out | refine below_set ?_ GE216.out) | exact HB.out)⟩
          ·rw [if_neg c162] at H
           have c162b0 : (false == x8_71) = false := by simpa using c162
           (try (have c162b1 : decide (false = x8_71) = false := by simpa using c162))
           (try (have c162b2 : (false == x8_71) = false := by simpa using c162))
           (try (have c162b3 : ¬ (false = x8_71) := by simpa using c162))
           clear c162
           exact absurd ((Option.some.inj H).trans hr_) (by decide)
       ·replace c92 := Bool.eq_false_iff.mpr c92
        subst c92
        have H1 : (some false) = some r := by rw [if_neg (show ¬ (false = true) by decide)] at H; exact H
        clear H
        have H := H1
        clear H1
        exact absurd ((Option.some.inj H).trans hr_) (by decide)
      ·replace c90 := Bool.eq_false_iff.mpr c90
       subst c90
       have H1 : (some false) = some r := by rw [if_neg (show ¬ (false = true) by decide)] at H; exact H
       clear H
       have H := H1
       clear H1
       exact absurd ((Option.some.inj H).trans hr_) (by decide)

end Go.Proofs.Ytgilagbfgbgplaa.PCap
