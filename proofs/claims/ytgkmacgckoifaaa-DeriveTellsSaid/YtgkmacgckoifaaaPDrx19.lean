-- written by a changed copy of the kit's print program, for this claim
import Derived.Test.YtgkmacgckoifaaaPDrx0
import Derived.Test.YtgkmacgckoifaaaPDrx1
import Derived.Test.YtgkmacgckoifaaaPDrx5
import Derived.Test.YtgkmacgckoifaaaPDrx6
import Derived.Test.YtgkmacgckoifaaaPDrx7
import Derived.Test.YtgkmacgckoifaaaPDrx8
import Derived.Test.YtgkmacgckoifaaaPDrx15
import Derived.Test.YtgkmacgckoifaaaPDrx17
import Derived.Test.YtgkmacgckoifaaaPDrx18
namespace Go.Proofs.Ytgkmacgckoifaaa.PDr
open Go.RowKit Go.Proofs.YtgkmacgckoifaaaW.PrintWords Go.Proofs.YtgkmacgckoifaaaW.PrintLast Go.Proofs.YtgkmacgckoifaaaW.PrintMore
attribute [local go_sem] max2_int min2_int max_two min_two max_three min_three max_four min_four   -- for this text's walks alone
set_option linter.unusedVariables false
set_option linter.unusedSimpArgs false

attribute [local go_sem high] eqA23
abbrev m19_0 : Array Bool := #[false, false, false, false, false, false, false, false, false, false, false, false, false, false, false, false, false, false, false, false, false, false, false, false, false, false, false, false, false, false, false, false, false, false, false, false]
abbrev m19_1 : Array Bool := #[true, false, false, false, false, false, false, false, false, false, false, false, false, false, false, false, false, false, false, false, false, false, false, false, false, false, false, false, false, false, false, false, false, false, false, false]
abbrev m19_2 : Array Bool := #[true, true, false, false, false, false, false, false, false, false, false, false, false, false, false, false, false, false, false, false, false, false, false, false, false, false, false, false, false, false, false, false, false, false, false, false]
abbrev m19_3 : Array Bool := #[true, true, true, false, false, false, false, false, false, false, false, false, false, false, false, false, false, false, false, false, false, false, false, false, false, false, false, false, false, false, false, false, false, false, false, false]
abbrev m19_4 : Array Bool := #[true, true, true, true, false, false, false, false, false, false, false, false, false, false, false, false, false, false, false, false, false, false, false, false, false, false, false, false, false, false, false, false, false, false, false, false]
abbrev m19_5 : Array Bool := #[true, true, true, true, true, false, false, false, false, false, false, false, false, false, false, false, false, false, false, false, false, false, false, false, false, false, false, false, false, false, false, false, false, false, false, false]
abbrev m19_6 : Array Bool := #[true, true, true, true, true, true, false, false, false, false, false, false, false, false, false, false, false, false, false, false, false, false, false, false, false, false, false, false, false, false, false, false, false, false, false, false]
abbrev m19_7 : Array Bool := #[true, true, true, true, true, true, true, false, false, false, false, false, false, false, false, false, false, false, false, false, false, false, false, false, false, false, false, false, false, false, false, false, false, false, false, false]
abbrev m19_8 : Array Bool := #[true, true, true, true, true, true, true, true, false, false, false, false, false, false, false, false, false, false, false, false, false, false, false, false, false, false, false, false, false, false, false, false, false, false, false, false]
abbrev m19_9 : Array Bool := #[true, true, true, true, true, true, true, true, true, false, false, false, false, false, false, false, false, false, false, false, false, false, false, false, false, false, false, false, false, false, false, false, false, false, false, false]
abbrev m19_10 : Array Bool := #[true, true, true, true, true, true, true, true, true, true, false, false, false, false, false, false, false, false, false, false, false, false, false, false, false, false, false, false, false, false, false, false, false, false, false, false]
abbrev m19_11 : Array Bool := #[true, true, true, true, true, true, true, true, true, true, true, false, false, false, false, false, false, false, false, false, false, false, false, false, false, false, false, false, false, false, false, false, false, false, false, false]
abbrev m19_12 : Array Bool := #[true, true, true, true, true, true, true, true, true, true, true, true, false, false, false, false, false, false, false, false, false, false, false, false, false, false, false, false, false, false, false, false, false, false, false, false]
abbrev m19_13 : Array Bool := #[true, true, true, true, true, true, true, true, true, true, true, true, true, false, false, false, false, false, false, false, false, false, false, false, false, false, false, false, false, false, false, false, false, false, false, false]
abbrev m19_14 : Array Bool := #[true, true, true, true, true, true, true, true, true, true, true, true, true, true, false, false, false, false, false, false, false, false, false, false, false, false, false, false, false, false, false, false, false, false, false, false]
abbrev m19_15 : Array Bool := #[true, true, true, true, true, true, true, true, true, true, true, true, true, true, true, false, false, false, false, false, false, false, false, false, false, false, false, false, false, false, false, false, false, false, false, false]
abbrev m19_16 : Array Bool := #[true, true, true, true, true, true, true, true, true, true, true, true, true, true, true, true, false, false, false, false, false, false, false, false, false, false, false, false, false, false, false, false, false, false, false, false]
abbrev m19_17 : Array Bool := #[true, true, true, true, true, true, true, true, true, true, true, true, true, true, true, true, true, false, false, false, false, false, false, false, false, false, false, false, false, false, false, false, false, false, false, false]
abbrev m19_18 : Array Bool := #[true, true, true, true, true, true, true, true, true, true, true, true, true, true, true, true, true, true, false, false, false, false, false, false, false, false, false, false, false, false, false, false, false, false, false, false]
abbrev m19_19 : Array Bool := #[true, true, true, true, true, true, true, true, true, true, true, true, true, true, true, true, true, true, true, false, false, false, false, false, false, false, false, false, false, false, false, false, false, false, false, false]
abbrev m19_20 : Array Bool := #[true, true, true, true, true, true, true, true, true, true, true, true, true, true, true, true, true, true, true, true, false, false, false, false, false, false, false, false, false, false, false, false, false, false, false, false]
abbrev m19_21 : Array Bool := #[true, true, true, true, true, true, true, true, true, true, true, true, true, true, true, true, true, true, true, true, true, false, false, false, false, false, false, false, false, false, false, false, false, false, false, false]
abbrev m19_22 : Array Bool := #[true, true, true, true, true, true, true, true, true, true, true, true, true, true, true, true, true, true, true, true, true, true, false, false, false, false, false, false, false, false, false, false, false, false, false, false]
abbrev m19_23 : Array Bool := #[true, true, true, true, true, true, true, true, true, true, true, true, true, true, true, true, true, true, true, true, true, true, true, false, false, false, false, false, false, false, false, false, false, false, false, false]
abbrev m19_24 : Array Bool := #[true, true, true, true, true, true, true, true, true, true, true, true, true, true, true, true, true, true, true, true, true, true, true, false, true, false, false, false, false, false, false, false, false, false, false, false]
abbrev m19_25 : Array Bool := #[true, true, true, true, true, true, true, true, true, true, true, true, true, true, true, true, true, true, true, true, true, true, true, true, true, false, false, false, false, false, false, false, false, false, false, false]
abbrev m19_26 : Array Bool := #[true, true, true, true, true, true, true, true, true, true, true, true, true, true, true, true, true, true, true, true, true, true, true, true, true, true, false, false, false, false, false, false, false, false, false, false]
abbrev m19_27 : Array Bool := #[true, true, true, true, true, true, true, true, true, true, true, true, true, true, true, true, true, true, true, true, true, true, true, true, true, true, true, false, false, false, false, false, false, false, false, false]
abbrev m19_28 : Array Bool := #[true, true, true, true, true, true, true, true, true, true, true, true, true, true, true, true, true, true, true, true, true, true, true, true, true, true, true, true, false, false, false, false, false, false, false, false]
abbrev m19_29 : Array Bool := #[true, true, true, true, true, true, true, true, true, true, true, true, true, true, true, true, true, true, true, true, true, true, true, true, true, true, true, true, true, false, false, false, false, false, false, false]
abbrev m19_30 : Array Bool := #[true, true, true, true, true, true, true, true, true, true, true, true, true, true, true, true, true, true, true, true, true, true, true, true, true, true, true, true, true, true, false, false, false, false, false, false]
abbrev m19_31 : Array Bool := #[true, true, true, true, true, true, true, true, true, true, true, true, true, true, true, true, true, true, true, true, true, true, true, true, true, true, true, true, true, true, false, true, false, false, false, false]
abbrev m19_32 : Array Bool := #[true, true, true, true, true, true, true, true, true, true, true, true, true, true, true, true, true, true, true, true, true, true, true, true, true, true, true, true, true, true, true, true, false, false, false, false]
abbrev m19_33 : Array Bool := #[true, true, true, true, true, true, true, true, true, true, true, true, true, true, true, true, true, true, true, true, true, true, true, true, true, true, true, true, true, true, true, true, true, false, false, false]
abbrev m19_34 : Array Bool := #[true, true, true, true, true, true, true, true, true, true, true, true, true, true, true, true, true, true, true, true, true, true, true, true, true, true, true, true, true, true, true, true, true, true, false, false]
abbrev m19_35 : Array Bool := #[true, true, true, true, true, true, true, true, true, true, true, true, true, true, true, true, true, true, true, true, true, true, true, true, true, true, true, true, true, true, true, true, true, true, true, false]
abbrev m19_36 : Array Bool := #[true, true, true, true, true, true, true, true, true, true, true, true, true, true, true, true, true, true, true, true, true, true, true, true, true, true, true, true, true, true, true, true, true, true, true, true]
/-! ### seizinlaw04_DeriveTells: function 3 -/
def seizinlaw04_DeriveTells.j0 : Nat → Int → Bool → Bool → Bool → Int → Int → Int → Int → Int → Bool → Int → Int → Int → Int → Int → Option (Bool)
 | 0, _, _, _, _, _, _, _, _, _, _, _, _, _, _, _ => none
 | k + 1, x2, x7, x40, x299000, x299001, x299002, x299003, x299004, x299005, x300000, x300001, x300002, x300003, x300004, x300005 => if x40 = true then (some false) else ((derive_Perms.f x299000 x299001 x299002 x299003 x299004 x299005 x2).bind fun bt317 => ((seizinref04_Perms.f x299000 x299001 x299002 x299003 x299004 x299005 x2).bind fun bt325 => ((derive_Move.f x299000 x299001 x299002 x299003 x299004 x299005 x2).bind fun bt333 => ((seizinref04_Move.f x299000 x299001 x299002 x299003 x299004 x299005 x2).bind fun bt341 => (if x7 = true then (if (bt317.1 == bt325.1 && (bt317.2.1 == bt325.2.1 && (bt317.2.2.1 == bt325.2.2.1 && (bt317.2.2.2.1 == bt325.2.2.2.1 && (bt317.2.2.2.2.1 == bt325.2.2.2.2.1 && (bt317.2.2.2.2.2.1 == bt325.2.2.2.2.2.1)))))) = true then (if bt317.2.2.2.2.2.2 = bt325.2.2.2.2.2.2 then (if (bt333.1 == bt341.1 && (bt333.2.1 == bt341.2.1 && (bt333.2.2.1 == bt341.2.2.1 && (bt333.2.2.2.1 == bt341.2.2.2.1 && (bt333.2.2.2.2.1 == bt341.2.2.2.2.1 && (bt333.2.2.2.2.2.1 == bt341.2.2.2.2.2.1)))))) = true then (if bt333.2.2.2.2.2.2 = bt341.2.2.2.2.2.2 then ((derive_Clear.f x299000 x299001 x299002 x299003 x299004 x299005).bind fun bt349 => ((seizinref04_Clear.f x299000 x299001 x299002 x299003 x299004 x299005).bind fun bt355 => (if (bt349.1 == bt355.1 && (bt349.2.1 == bt355.2.1 && (bt349.2.2.1 == bt355.2.2.1 && (bt349.2.2.2.1 == bt355.2.2.2.1 && (bt349.2.2.2.2.1 == bt355.2.2.2.2.1 && (bt349.2.2.2.2.2 == bt355.2.2.2.2.2)))))) = true then ((derive_Clear.f x300000 x300001 x300002 x300003 x300004 x300005).bind fun bt361 => ((seizinref04_Clear.f x300000 x300001 x300002 x300003 x300004 x300005).bind fun bt367 => (some (bt361.1 == bt367.1 && (bt361.2.1 == bt367.2.1 && (bt361.2.2.1 == bt367.2.2.1 && (bt361.2.2.2.1 == bt367.2.2.2.1 && (bt361.2.2.2.2.1 == bt367.2.2.2.2.1 && (bt361.2.2.2.2.2 == bt367.2.2.2.2.2))))))))) else (some false)))) else (some false)) else (some false)) else (some false)) else (some false)) else (some false))))))
def seizinlaw04_DeriveTells.f (k : Nat) (a0_0 : Bool) (a0_1 : Int) (a0_2 : Int) (a0_3 : Int) (a0_4 : Int) (a0_5 : Int) (a1_0 : Bool) (a1_1 : Int) (a1_2 : Int) (a1_3 : Int) (a1_4 : Int) (a1_5 : Int) (a2 : Int) : Option (Bool) := (seizinlaw04_head.f).bind fun t300 => ((derive_Bounds.f a0_0 a0_1 a0_2 a0_3 a0_4 a0_5 a2).bind fun bt301 => ((seizinref04_Bounds.f a0_0 a0_1 a0_2 a0_3 a0_4 a0_5 a2).bind fun bt309 => (if (!(bt301.1 == bt309.1) || (!(bt301.2.1 == bt309.2.1) || (!(bt301.2.2.1 == bt309.2.2.1) || (!(bt301.2.2.2.1 == bt309.2.2.2.1) || (!(bt301.2.2.2.2.1 == bt309.2.2.2.2.1) || (!(bt301.2.2.2.2.2.1 == bt309.2.2.2.2.2.1))))))) = true then (seizinlaw04_DeriveTells.j0 k a2 t300 true a0_0 a0_1 a0_2 a0_3 a0_4 a0_5 a1_0 a1_1 a1_2 a1_3 a1_4 a1_5) else (seizinlaw04_DeriveTells.j0 k a2 t300 (bt301.2.2.2.2.2.2 != bt309.2.2.2.2.2.2) a0_0 a0_1 a0_2 a0_3 a0_4 a0_5 a1_0 a1_1 a1_2 a1_3 a1_4 a1_5))))
theorem seizinlaw04_DeriveTells.mono_l : ∀ k, (∀ y0 y1 y2 y3 y4 y5 y6 y7 y8 y9 y10 y11 y12 y13 y14, LeO (seizinlaw04_DeriveTells.j0 k y0 y1 y2 y3 y4 y5 y6 y7 y8 y9 y10 y11 y12 y13 y14) (seizinlaw04_DeriveTells.j0 (k + 1) y0 y1 y2 y3 y4 y5 y6 y7 y8 y9 y10 y11 y12 y13 y14))
 | 0 => fun _ _ _ _ _ _ _ _ _ _ _ _ _ _ _ r h => by simp [seizinlaw04_DeriveTells.j0] at h
 | k + 1 => by
  have ih0 := seizinlaw04_DeriveTells.mono_l k
  ·intro y0 y1 y2 y3 y4 y5 y6 y7 y8 y9 y10 y11 y12 y13 y14
   unfold seizinlaw04_DeriveTells.j0
   repeat' first
   | (with_reducible exact ih0 _ _ _ _ _ _ _ _ _ _ _ _ _ _ _)
   | (with_reducible exact LeO.refl _)
   | (with_reducible exact LeO.none _)
   | (with_reducible refine LeO.ite ?_ ?_)
   | (with_reducible refine LeO.bind ?_ (fun _ => ?_))
   | exact ih0 _ _ _ _ _ _ _ _ _ _ _ _ _ _ _
   | exact LeO.none _
   | refine LeO.ite ?_ ?_
   | refine LeO.bind ?_ (fun _ => ?_)
theorem seizinlaw04_DeriveTells.mono : ∀ a0 a1 a2 a3 a4 a5 a6 a7 a8 a9 a10 a11 a12 k, LeO (seizinlaw04_DeriveTells.f k a0 a1 a2 a3 a4 a5 a6 a7 a8 a9 a10 a11 a12) (seizinlaw04_DeriveTells.f (k + 1) a0 a1 a2 a3 a4 a5 a6 a7 a8 a9 a10 a11 a12) := by
 intro a0 a1 a2 a3 a4 a5 a6 a7 a8 a9 a10 a11 a12 k
 have ih0 := seizinlaw04_DeriveTells.mono_l k
 unfold seizinlaw04_DeriveTells.f
 repeat' first
   | (with_reducible exact ih0 _ _ _ _ _ _ _ _ _ _ _ _ _ _ _)
   | (with_reducible exact LeO.refl _)
   | (with_reducible exact LeO.none _)
   | (with_reducible refine LeO.ite ?_ ?_)
   | (with_reducible refine LeO.bind ?_ (fun _ => ?_))
   | exact ih0 _ _ _ _ _ _ _ _ _ _ _ _ _ _ _
   | exact LeO.none _
   | refine LeO.ite ?_ ?_
   | refine LeO.bind ?_ (fun _ => ?_)
def seizinlaw04_DeriveTells.T10 : Bool × List (List Nat × List Nat) := (true, [([], []), ([0], [0]), ([1], [1]), ([1], [1]), ([2, 3, 1], [1, 2, 3]), ([1, 4], [1, 4]), ([5, 1], [5]), ([6], [6]), ([6], [6]), ([7, 8, 6], [6, 7, 8]), ([6, 9], [6, 9]), ([10, 6], [10]), ([11], [11]), ([11], [11]), ([12, 13, 11], [11, 12, 13]), ([11, 14], [11, 14]), ([15, 11], [15]), ([16], [16]), ([16], [16]), ([17, 18, 16], [16, 17, 18]), ([16, 19], [16, 19]), ([20, 16], [20]), ([21], [21]), ([22, 21, 21], [21, 22]), ([21], [21]), ([24, 23, 21], [21, 24]), ([23, 25, 21], [21, 23, 25]), ([21, 26], [21, 26]), ([27, 25], [27]), ([28], [28]), ([29, 28, 28], [28, 29]), ([28], [28]), ([31, 30, 28], [28, 31]), ([30, 32, 28], [28, 30, 32]), ([28, 33], [28, 33]), ([34, 32, 0, 1, 2, 3, 4, 5, 6, 7, 8, 9, 10, 11, 12, 13, 14, 15, 16, 17, 18, 19, 20, 21, 22, 23, 24, 25, 26, 27, 28, 29, 30, 31, 32, 33, 34], [34])])
def seizinlaw04_DeriveTells.B10 : List Nat := [0, 1, 3, 3, 15, 31, 63, 127, 127, 511, 1023, 2047, 4095, 4095, 16383, 32767, 65535, 131071, 131071, 524287, 1048575, 2097151, 4194303, 8388607, 4194303, 33554431, 67108863, 134217727, 268435455, 536870911, 1073741823, 536870911, 4294967295, 8589934591, 17179869183, 34359738367]
theorem seizinlaw04_DeriveTells.tab10 : rtab .any (opsOf Try.f3 10) = seizinlaw04_DeriveTells.T10 := by kernel_rfl
theorem seizinlaw04_DeriveTells.bits10 : waitsOk seizinlaw04_DeriveTells.T10.2 seizinlaw04_DeriveTells.B10 = true := by kernel_rfl
set_option maxHeartbeats 8000000 in
set_option maxRecDepth 100000 in
theorem seizinlaw04_DeriveTells.calls (k : Nat) (a0_0 : Bool) (a0_1 : Int) (a0_2 : Int) (a0_3 : Int) (a0_4 : Int) (a0_5 : Int) (a1_0 : Bool) (a1_1 : Int) (a1_2 : Int) (a1_3 : Int) (a1_4 : Int) (a1_5 : Int) (a2 : Int) (r : Bool) (w : World) (h : seizinlaw04_DeriveTells.f k a0_0 a0_1 a0_2 a0_3 a0_4 a0_5 a1_0 a1_1 a1_2 a1_3 a1_4 a1_5 a2 = some r) (hr_ : r = true) :
  Calls Try.prog 3 #[.agg #[.bool a0_0, .int .i64 a0_1, .int .i64 a0_2, .int .i64 a0_3, .int .i64 a0_4, .int .i64 a0_5], .agg #[.bool a1_0, .int .i64 a1_1, .int .i64 a1_2, .int .i64 a1_3, .int .i64 a1_4, .int .i64 a1_5], .int .i64 a2] w fun e w' => e = .returned (.bool r) ∧ Below w.heap.size w w' := by
 have hu23 := Try.underlying23
 have HB := Aside0.mk (Below.refl w.heap.size w)
 have H : ((seizinlaw04_head.f).bind fun t300 => ((derive_Bounds.f a0_0 a0_1 a0_2 a0_3 a0_4 a0_5 a2).bind fun bt301 => ((seizinref04_Bounds.f a0_0 a0_1 a0_2 a0_3 a0_4 a0_5 a2).bind fun bt309 => (if (!(bt301.1 == bt309.1) || (!(bt301.2.1 == bt309.2.1) || (!(bt301.2.2.1 == bt309.2.2.1) || (!(bt301.2.2.2.1 == bt309.2.2.2.1) || (!(bt301.2.2.2.2.1 == bt309.2.2.2.2.1) || (!(bt301.2.2.2.2.2.1 == bt309.2.2.2.2.2.1))))))) = true then (seizinlaw04_DeriveTells.j0 k a2 t300 true a0_0 a0_1 a0_2 a0_3 a0_4 a0_5 a1_0 a1_1 a1_2 a1_3 a1_4 a1_5) else (seizinlaw04_DeriveTells.j0 k a2 t300 (bt301.2.2.2.2.2.2 != bt309.2.2.2.2.2.2) a0_0 a0_1 a0_2 a0_3 a0_4 a0_5 a1_0 a1_1 a1_2 a1_3 a1_4 a1_5))))) = some r := h
 clear h
 replace H := Option.bind_eq_some_iff.mp H
 obtain ⟨t300, A40, H⟩ := H
 replace H : ((derive_Bounds.f a0_0 a0_1 a0_2 a0_3 a0_4 a0_5 a2).bind fun bt301 => ((seizinref04_Bounds.f a0_0 a0_1 a0_2 a0_3 a0_4 a0_5 a2).bind fun bt309 => (if (!(bt301.1 == bt309.1) || (!(bt301.2.1 == bt309.2.1) || (!(bt301.2.2.1 == bt309.2.2.1) || (!(bt301.2.2.2.1 == bt309.2.2.2.1) || (!(bt301.2.2.2.2.1 == bt309.2.2.2.2.1) || (!(bt301.2.2.2.2.2.1 == bt309.2.2.2.2.2.1))))))) = true then (seizinlaw04_DeriveTells.j0 k a2 t300 true a0_0 a0_1 a0_2 a0_3 a0_4 a0_5 a1_0 a1_1 a1_2 a1_3 a1_4 a1_5) else (seizinlaw04_DeriveTells.j0 k a2 t300 (bt301.2.2.2.2.2.2 != bt309.2.2.2.2.2.2) a0_0 a0_1 a0_2 a0_3 a0_4 a0_5 a1_0 a1_1 a1_2 a1_3 a1_4 a1_5)))) = some r := H
 have A4 := Aside0.mk A40
 clear A40
 replace H := Option.bind_eq_some_iff.mp H
 obtain ⟨⟨t301, t302, t303, t304, t305, t306, t307⟩, A50, H⟩ := H
 replace H : ((seizinref04_Bounds.f a0_0 a0_1 a0_2 a0_3 a0_4 a0_5 a2).bind fun bt309 => (if (!(t301 == bt309.1) || (!(t302 == bt309.2.1) || (!(t303 == bt309.2.2.1) || (!(t304 == bt309.2.2.2.1) || (!(t305 == bt309.2.2.2.2.1) || (!(t306 == bt309.2.2.2.2.2.1))))))) = true then (seizinlaw04_DeriveTells.j0 k a2 t300 true a0_0 a0_1 a0_2 a0_3 a0_4 a0_5 a1_0 a1_1 a1_2 a1_3 a1_4 a1_5) else (seizinlaw04_DeriveTells.j0 k a2 t300 (t307 != bt309.2.2.2.2.2.2) a0_0 a0_1 a0_2 a0_3 a0_4 a0_5 a1_0 a1_1 a1_2 a1_3 a1_4 a1_5))) = some r := H
 have A5 := Aside0.mk A50
 clear A50
 replace H := Option.bind_eq_some_iff.mp H
 obtain ⟨⟨t309, t310, t311, t312, t313, t314, t315⟩, A60, H⟩ := H
 replace H : (if (!(t301 == t309) || (!(t302 == t310) || (!(t303 == t311) || (!(t304 == t312) || (!(t305 == t313) || (!(t306 == t314))))))) = true then (seizinlaw04_DeriveTells.j0 k a2 t300 true a0_0 a0_1 a0_2 a0_3 a0_4 a0_5 a1_0 a1_1 a1_2 a1_3 a1_4 a1_5) else (seizinlaw04_DeriveTells.j0 k a2 t300 (t307 != t315) a0_0 a0_1 a0_2 a0_3 a0_4 a0_5 a1_0 a1_1 a1_2 a1_3 a1_4 a1_5)) = some r := H
 have A6 := Aside0.mk A60
 clear A60
 have HC7 := Aside0.mk H
 clear H
 go_enter Try.func3, Try.ntmps3
 go_upto_region 4 with (first | ((with_reducible refine gate_dst (N := 3) rfl ?_); refine box_event ?hg (N := 3) ?hd (cs := #[.bool a0_0, .int .i64 a0_1, .int .i64 a0_2, .int .i64 a0_3, .int .i64 a0_4, .int .i64 a0_5]) (t := 23) ?hr ?_; (case hd => rfl); (case hg => rfl); (case hr => first | (go_simp; done) | (go_simp; rfl)); intro gb298 hg w8 hbox hb; have n0_ := q2_ HB hb; have n1_ := Aside0.mk (hbox); have n2_ := q11_ HB hg; have n3_ := q11_ HB hg; clear HB; have HB := n0_; have BK298 := n1_; have GW298 := n2_; have GE298 := n3_; clear n0_ n1_ n2_ n3_; clear hb hbox hg) | ((with_reducible refine gate_dst (N := 4) rfl ?_); refine box_event ?hg (N := 4) ?hd (cs := #[.bool a1_0, .int .i64 a1_1, .int .i64 a1_2, .int .i64 a1_3, .int .i64 a1_4, .int .i64 a1_5]) (t := 23) ?hr ?_; (case hd => rfl); (case hg => rfl); (case hr => first | (go_simp; done) | (go_simp; rfl)); intro gb299 hg w9 hbox hb; have n0_ := q1_ BK298 hb; have n1_ := q2_ HB hb; have n2_ := Aside0.mk (hbox); have n3_ := q11_ HB hg; have n4_ := q11_ HB hg; have n5_ := q12_ BK298 hg; have n6_ := q13_ BK298 hg; clear BK298; clear HB; have BK298 := n0_; have HB := n1_; have BK299 := n2_; have GW299 := n3_; have GE299 := n4_; have NB298_299 := n5_; have NB299_298 := n6_; clear n0_ n1_ n2_ n3_ n4_ n5_ n6_; clear hb hbox hg) | ((with_reducible refine gate_callee (f := 10) rfl ?_); refine goesL_ (some 20) rfl rfl Try.func10 (by kernel_rfl) rfl #[] rfl (by (try simp only [List.map_toArray, List.map_cons, List.map_nil]); first | done | rfl | (simp only [List.length_drop, List.length_take]; rfl)) ?_; (with_reducible refine (seizinlaw04_head.calls  t300 _ A4.out).mono ?_); rintro e w10 ⟨rfl, hb⟩; refine ⟨_, rfl, ?_⟩; have n0_ := q1_ BK298 hb; have n1_ := q1_ BK299 hb; have n2_ := q2_ HB hb; clear BK298; clear BK299; clear HB; have BK298 := n0_; have BK299 := n1_; have HB := n2_; clear n0_ n1_ n2_; (try clear hb); (try clear hb2); (try clear hk); (try clear hi); have hnb11 := NB298_299.out; have hnc11 := NB299_298.out; obtain ⟨hcz12_0, hcz12_1, hcz12_2, hcz12_3, hcz12_4, hcz12_5⟩ := q9_ BK298; obtain ⟨hfz12_0, hfz12_1, hfz12_2, hfz12_3, hfz12_4, hfz12_5⟩ := q10_ BK298) | ((with_reducible refine gate_callee (f := 11) rfl ?_); refine goesL_ (some 24) rfl rfl Try.func11 (by kernel_rfl) rfl #[.agg #[.bool a0_0, .int .i64 a0_1, .int .i64 a0_2, .int .i64 a0_3, .int .i64 a0_4, .int .i64 a0_5], .int .i64 a2] rfl (by (try simp only [List.map_toArray, List.map_cons, List.map_nil]); first | done | rfl | (simp only [List.length_drop, List.length_take]; rfl)) ?_; (with_reducible refine (derive_Bounds.calls a0_0 a0_1 a0_2 a0_3 a0_4 a0_5 a2 t301 t302 t303 t304 t305 t306 t307 _ A5.out).mono ?_); rintro e w13 ⟨rfl, hb⟩; refine ⟨_, rfl, ?_⟩; have n0_ := q1_ BK298 hb; have n1_ := q1_ BK299 hb; have n2_ := q2_ HB hb; clear BK298; clear BK299; clear HB; have BK298 := n0_; have BK299 := n1_; have HB := n2_; clear n0_ n1_ n2_; (try clear hb); (try clear hb2); (try clear hk); (try clear hi)) | ((with_reducible refine gate_dst (N := 8) rfl ?_); refine box_event ?hg (N := 8) ?hd (cs := #[.bool false, .int .i64 0, .int .i64 0, .int .i64 0, .int .i64 0, .int .i64 0]) (t := 23) ?hr ?_; (case hd => rfl); (case hg => rfl); (case hr => first | (go_simp; done) | (go_simp; rfl)); intro gb308 hg w14 hbox hb; have n0_ := q1_ BK298 hb; have n1_ := q1_ BK299 hb; have n2_ := q2_ HB hb; have n3_ := Aside0.mk (hbox); have n4_ := q11_ HB hg; have n5_ := q11_ HB hg; have n6_ := q12_ BK298 hg; have n7_ := q13_ BK298 hg; have n8_ := q12_ BK299 hg; have n9_ := q13_ BK299 hg; clear BK298; clear BK299; clear HB; have BK298 := n0_; have BK299 := n1_; have HB := n2_; have BK308 := n3_; have GW308 := n4_; have GE308 := n5_; have NB298_308 := n6_; have NB308_298 := n7_; have NB299_308 := n8_; have NB308_299 := n9_; clear n0_ n1_ n2_ n3_ n4_ n5_ n6_ n7_ n8_ n9_; clear hb hbox hg; have hnb15 := NB308_298.out; have hnc15 := NB298_308.out; have hnb16 := NB308_299.out; have hnc16 := NB299_308.out; obtain ⟨hcz17_0, hcz17_1, hcz17_2, hcz17_3, hcz17_4, hcz17_5⟩ := q9_ BK308; obtain ⟨hfz17_0, hfz17_1, hfz17_2, hfz17_3, hfz17_4, hfz17_5⟩ := q10_ BK308; obtain ⟨hcz18_0, hcz18_1, hcz18_2, hcz18_3, hcz18_4, hcz18_5⟩ := q9_ BK298; obtain ⟨hfz18_0, hfz18_1, hfz18_2, hfz18_3, hfz18_4, hfz18_5⟩ := q10_ BK298) | ((with_reducible refine gate_callee (f := 12) rfl ?_); refine goesL_ (some 30) rfl rfl Try.func12 (by kernel_rfl) rfl #[.agg #[.bool a0_0, .int .i64 a0_1, .int .i64 a0_2, .int .i64 a0_3, .int .i64 a0_4, .int .i64 a0_5], .int .i64 a2] rfl (by (try simp only [List.map_toArray, List.map_cons, List.map_nil]); first | done | rfl | (simp only [List.length_drop, List.length_take]; rfl)) ?_; (with_reducible refine (seizinref04_Bounds.calls a0_0 a0_1 a0_2 a0_3 a0_4 a0_5 a2 t309 t310 t311 t312 t313 t314 t315 _ A6.out).mono ?_); rintro e w19 ⟨rfl, hb⟩; refine ⟨_, rfl, ?_⟩; have n0_ := Aside0.mk (blk_below (g := gb298) (o := .cells #[.bool a0_0, .int .i64 a0_1, .int .i64 a0_2, .int .i64 a0_3, .int .i64 a0_4, .int .i64 a0_5] 23 (0, 0)) (by (with_reducible repeat (first | refine blk_drewN ?_ _ | refine blk_drew ?_ | refine blk_alloc ?_ _)); refine blk_far ?_ NB298_308.out _; (with_reducible repeat (first | refine blk_drewN ?_ _ | refine blk_drew ?_ | refine blk_alloc ?_ _)); refine blk_far ?_ NB298_308.out _; (with_reducible repeat (first | refine blk_drewN ?_ _ | refine blk_drew ?_ | refine blk_alloc ?_ _)); refine blk_far ?_ NB298_308.out _; (with_reducible repeat (first | refine blk_drewN ?_ _ | refine blk_drew ?_ | refine blk_alloc ?_ _)); refine blk_far ?_ NB298_308.out _; (with_reducible repeat (first | refine blk_drewN ?_ _ | refine blk_drew ?_ | refine blk_alloc ?_ _)); refine blk_far ?_ NB298_308.out _; (with_reducible repeat (first | refine blk_drewN ?_ _ | refine blk_drew ?_ | refine blk_alloc ?_ _)); refine blk_far ?_ NB298_308.out _; (with_reducible repeat (first | refine blk_drewN ?_ _ | refine blk_drew ?_ | refine blk_alloc ?_ _)); exact BK298.out) hb); have n1_ := Aside0.mk (blk_below (g := gb299) (o := .cells #[.bool a1_0, .int .i64 a1_1, .int .i64 a1_2, .int .i64 a1_3, .int .i64 a1_4, .int .i64 a1_5] 23 (0, 0)) (by (with_reducible repeat (first | refine blk_drewN ?_ _ | refine blk_drew ?_ | refine blk_alloc ?_ _)); refine blk_far ?_ NB299_308.out _; (with_reducible repeat (first | refine blk_drewN ?_ _ | refine blk_drew ?_ | refine blk_alloc ?_ _)); refine blk_far ?_ NB299_308.out _; (with_reducible repeat (first | refine blk_drewN ?_ _ | refine blk_drew ?_ | refine blk_alloc ?_ _)); refine blk_far ?_ NB299_308.out _; (with_reducible repeat (first | refine blk_drewN ?_ _ | refine blk_drew ?_ | refine blk_alloc ?_ _)); refine blk_far ?_ NB299_308.out _; (with_reducible repeat (first | refine blk_drewN ?_ _ | refine blk_drew ?_ | refine blk_alloc ?_ _)); refine blk_far ?_ NB299_308.out _; (with_reducible repeat (first | refine blk_drewN ?_ _ | refine blk_drew ?_ | refine blk_alloc ?_ _)); refine blk_far ?_ NB299_308.out _; (with_reducible repeat (first | refine blk_drewN ?_ _ | refine blk_drew ?_ | refine blk_alloc ?_ _)); exact BK299.out) hb); have n2_ := Aside0.mk (blk_below (g := gb308) (o := .cells #[.bool t301, .int .i64 t302, .int .i64 t303, .int .i64 t304, .int .i64 t305, .int .i64 t306] 23 (0, 0)) (by (with_reducible repeat (first | refine blk_drewN ?_ _ | refine blk_drew ?_ | refine blk_alloc ?_ _)); refine blk_put (cs := #[.bool t301, .int .i64 t302, .int .i64 t303, .int .i64 t304, .int .i64 t305, .int .i64 0]) ?_ 5 _ rfl; refine blk_put (cs := #[.bool t301, .int .i64 t302, .int .i64 t303, .int .i64 t304, .int .i64 0, .int .i64 0]) ?_ 4 _ rfl; refine blk_put (cs := #[.bool t301, .int .i64 t302, .int .i64 t303, .int .i64 0, .int .i64 0, .int .i64 0]) ?_ 3 _ rfl; refine blk_put (cs := #[.bool t301, .int .i64 t302, .int .i64 0, .int .i64 0, .int .i64 0, .int .i64 0]) ?_ 2 _ rfl; refine blk_put (cs := #[.bool t301, .int .i64 0, .int .i64 0, .int .i64 0, .int .i64 0, .int .i64 0]) ?_ 1 _ rfl; refine blk_put (cs := #[.bool false, .int .i64 0, .int .i64 0, .int .i64 0, .int .i64 0, .int .i64 0]) ?_ 0 _ rfl; (with_reducible repeat (first | refine blk_drewN ?_ _ | refine blk_drew ?_ | refine blk_alloc ?_ _)); exact BK308.out) hb); have n3_ := q2_ HB hb; clear BK298; clear BK299; clear BK308; clear HB; have BK298 := n0_; have BK299 := n1_; have BK308 := n2_; have HB := n3_; clear n0_ n1_ n2_ n3_; (try clear hb); (try clear hb2); (try clear hk); (try clear hi)) | ((with_reducible refine gate_dst (N := 10) rfl ?_); refine box_event ?hg (N := 10) ?hd (cs := #[.bool false, .int .i64 0, .int .i64 0, .int .i64 0, .int .i64 0, .int .i64 0]) (t := 23) ?hr ?_; (case hd => rfl); (case hg => rfl); (case hr => first | (go_simp; done) | (go_simp; rfl)); intro gb316 hg w20 hbox hb; have n0_ := q1_ BK298 hb; have n1_ := q1_ BK299 hb; have n2_ := q1_ BK308 hb; have n3_ := q2_ HB hb; have n4_ := Aside0.mk (hbox); have n5_ := q11_ HB hg; have n6_ := q11_ HB hg; have n7_ := q12_ BK298 hg; have n8_ := q13_ BK298 hg; have n9_ := q12_ BK299 hg; have n10_ := q13_ BK299 hg; have n11_ := q12_ BK308 hg; have n12_ := q13_ BK308 hg; clear BK298; clear BK299; clear BK308; clear HB; have BK298 := n0_; have BK299 := n1_; have BK308 := n2_; have HB := n3_; have BK316 := n4_; have GW316 := n5_; have GE316 := n6_; have NB298_316 := n7_; have NB316_298 := n8_; have NB299_316 := n9_; have NB316_299 := n10_; have NB308_316 := n11_; have NB316_308 := n12_; clear n0_ n1_ n2_ n3_ n4_ n5_ n6_ n7_ n8_ n9_ n10_ n11_ n12_; clear hb hbox hg; have hnb21 := NB316_298.out; have hnc21 := NB298_316.out; have hnb22 := NB316_299.out; have hnc22 := NB299_316.out; have hnb23 := NB316_308.out; have hnc23 := NB308_316.out; obtain ⟨hcz24_0, hcz24_1, hcz24_2, hcz24_3, hcz24_4, hcz24_5⟩ := q9_ BK316; obtain ⟨hfz24_0, hfz24_1, hfz24_2, hfz24_3, hfz24_4, hfz24_5⟩ := q10_ BK316))
 (try simp only [Act.put, q4_, q5_, q6_])
 go_cut [40] (fun v40 wc => ∃ (kq : Nat) (x40_6 : Bool), v40 = .bool x40_6 ∧ Aside0 (seizinlaw04_DeriveTells.j0 kq a2 t300 x40_6 a0_0 a0_1 a0_2 a0_3 a0_4 a0_5 a1_0 a1_1 a1_2 a1_3 a1_4 a1_5 = some r) ∧ Aside0 (kq ≤ k) ∧ Aside0 (wc.heap[gb298]? = some (.cells #[.bool a0_0, .int .i64 a0_1, .int .i64 a0_2, .int .i64 a0_3, .int .i64 a0_4, .int .i64 a0_5] 23 (0, 0))) ∧ Aside0 (wc.heap[gb299]? = some (.cells #[.bool a1_0, .int .i64 a1_1, .int .i64 a1_2, .int .i64 a1_3, .int .i64 a1_4, .int .i64 a1_5] 23 (0, 0))) ∧ Aside0 (wc.heap[gb308]? = some (.cells #[.bool t301, .int .i64 t302, .int .i64 t303, .int .i64 t304, .int .i64 t305, .int .i64 t306] 23 (0, 0))) ∧ Aside0 (wc.heap[gb316]? = some (.cells #[.bool t309, .int .i64 t310, .int .i64 t311, .int .i64 t312, .int .i64 t313, .int .i64 t314] 23 (0, 0))) ∧ Aside0 (Below w.heap.size w wc))
 case first =>
  have H := HC7.out
  clear HC7
  by_cases c25 : (!(t301 == t309) || (!(t302 == t310) || (!(t303 == t311) || (!(t304 == t312) || (!(t305 == t313) || (!(t306 == t314))))))) = true
  ·rw [if_pos c25] at H
   have c25b0 : (!(t301 == t309) || (!(t302 == t310) || (!(t303 == t311) || (!(t304 == t312) || (!(t305 == t313) || (!(t306 == t314))))))) = true := c25
   clear c25
   (first | rw [c25b0] | (simp only [i64_w, i32_w]; rw [c25b0]) | skip)
   have H' := Aside0.mk H
   clear H
   have hnb26 := NB308_298.out
   have hnc26 := NB298_308.out
   have hnb27 := NB308_299.out
   have hnc27 := NB299_308.out
   have hnb28 := NB308_316.out
   have hnc28 := NB316_308.out
   obtain ⟨hcz29_0, hcz29_1, hcz29_2, hcz29_3, hcz29_4, hcz29_5⟩ := q9_ BK308
   obtain ⟨hfz29_0, hfz29_1, hfz29_2, hfz29_3, hfz29_4, hfz29_5⟩ := q10_ BK308
   have hnb30 := NB316_298.out
   have hnc30 := NB298_316.out
   have hnb31 := NB316_299.out
   have hnc31 := NB299_316.out
   obtain ⟨hcz32_0, hcz32_1, hcz32_2, hcz32_3, hcz32_4, hcz32_5⟩ := q9_ BK316
   obtain ⟨hfz32_0, hfz32_1, hfz32_2, hfz32_3, hfz32_4, hfz32_5⟩ := q10_ BK316
   go_wp2
   go_meet
   case rel => exact ⟨_, (true), (by first | rfl | (simp; done) | (simp [*]; done)), H', ⟨by first | omega | exact Nat.le_refl _⟩, ⟨by (with_reducible repeat (first | refine blk_drewN ?_ _ | refine blk_drew ?_ | refine blk_alloc ?_ _)); refine blk_far ?_ NB298_316.out _; (with_reducible repeat (first | refine blk_drewN ?_ _ | refine blk_drew ?_ | refine blk_alloc ?_ _)); refine blk_far ?_ NB298_316.out _; (with_reducible repeat (first | refine blk_drewN ?_ _ | refine blk_drew ?_ | refine blk_alloc ?_ _)); refine blk_far ?_ NB298_316.out _; (with_reducible repeat (first | refine blk_drewN ?_ _ | refine blk_drew ?_ | refine blk_alloc ?_ _)); refine blk_far ?_ NB298_316.out _; (with_reducible repeat (first | refine blk_drewN ?_ _ | refine blk_drew ?_ | refine blk_alloc ?_ _)); refine blk_far ?_ NB298_316.out _; (with_reducible repeat (first | refine blk_drewN ?_ _ | refine blk_drew ?_ | refine blk_alloc ?_ _)); refine blk_far ?_ NB298_316.out _; (with_reducible repeat (first | refine blk_drewN ?_ _ | refine blk_drew ?_ | refine blk_alloc ?_ _)); exact BK298.out⟩, ⟨by (with_reducible repeat (first | refine blk_drewN ?_ _ | refine blk_drew ?_ | refine blk_alloc ?_ _)); refine blk_far ?_ NB299_316.out _; (with_reducible repeat (first | refine blk_drewN ?_ _ | refine blk_drew ?_ | refine blk_alloc ?_ _)); refine blk_far ?_ NB299_316.out _; (with_reducible repeat (first | refine blk_drewN ?_ _ | refine blk_drew ?_ | refine blk_alloc ?_ _)); refine blk_far ?_ NB299_316.out _; (with_reducible repeat (first | refine blk_drewN ?_ _ | refine blk_drew ?_ | refine blk_alloc ?_ _)); refine blk_far ?_ NB299_316.out _; (with_reducible repeat (first | refine blk_drewN ?_ _ | refine blk_drew ?_ | refine blk_alloc ?_ _)); refine blk_far ?_ NB299_316.out _; (with_reducible repeat (first | refine blk_drewN ?_ _ | refine blk_drew ?_ | refine blk_alloc ?_ _)); refine blk_far ?_ NB299_316.out _; (with_reducible repeat (first | refine blk_drewN ?_ _ | refine blk_drew ?_ | refine blk_alloc ?_ _)); exact BK299.out⟩, ⟨by (with_reducible repeat (first | refine blk_drewN ?_ _ | refine blk_drew ?_ | refine blk_alloc ?_ _)); refine blk_far ?_ NB308_316.out _; (with_reducible repeat (first | refine blk_drewN ?_ _ | refine blk_drew ?_ | refine blk_alloc ?_ _)); refine blk_far ?_ NB308_316.out _; (with_reducible repeat (first | refine blk_drewN ?_ _ | refine blk_drew ?_ | refine blk_alloc ?_ _)); refine blk_far ?_ NB308_316.out _; (with_reducible repeat (first | refine blk_drewN ?_ _ | refine blk_drew ?_ | refine blk_alloc ?_ _)); refine blk_far ?_ NB308_316.out _; (with_reducible repeat (first | refine blk_drewN ?_ _ | refine blk_drew ?_ | refine blk_alloc ?_ _)); refine blk_far ?_ NB308_316.out _; (with_reducible repeat (first | refine blk_drewN ?_ _ | refine blk_drew ?_ | refine blk_alloc ?_ _)); refine blk_far ?_ NB308_316.out _; (with_reducible repeat (first | refine blk_drewN ?_ _ | refine blk_drew ?_ | refine blk_alloc ?_ _)); exact BK308.out⟩, ⟨by (with_reducible repeat (first | refine blk_drewN ?_ _ | refine blk_drew ?_ | refine blk_alloc ?_ _)); refine blk_put (cs := #[.bool t309, .int .i64 t310, .int .i64 t311, .int .i64 t312, .int .i64 t313, .int .i64 0]) ?_ 5 _ rfl; refine blk_put (cs := #[.bool t309, .int .i64 t310, .int .i64 t311, .int .i64 t312, .int .i64 0, .int .i64 0]) ?_ 4 _ rfl; refine blk_put (cs := #[.bool t309, .int .i64 t310, .int .i64 t311, .int .i64 0, .int .i64 0, .int .i64 0]) ?_ 3 _ rfl; refine blk_put (cs := #[.bool t309, .int .i64 t310, .int .i64 0, .int .i64 0, .int .i64 0, .int .i64 0]) ?_ 2 _ rfl; refine blk_put (cs := #[.bool t309, .int .i64 0, .int .i64 0, .int .i64 0, .int .i64 0, .int .i64 0]) ?_ 1 _ rfl; refine blk_put (cs := #[.bool false, .int .i64 0, .int .i64 0, .int .i64 0, .int .i64 0, .int .i64 0]) ?_ 0 _ rfl; (with_reducible repeat (first | refine blk_drewN ?_ _ | refine blk_drew ?_ | refine blk_alloc ?_ _)); exact BK316.out⟩, ⟨by repeat (first | (with_reducible first | exact HB.out | apply below_alloc | apply pw_below_drewN | apply below_drew1 | refine below_set ?_ GE298.out | refine below_set ?_ GE299.out | refine below_set ?_ GE308.out | refine below_set ?_ GE316.out) | exact HB.out)⟩⟩
  ·rw [if_neg c25] at H
   have c25b0 : (!(t301 == t309) || (!(t302 == t310) || (!(t303 == t311) || (!(t304 == t312) || (!(t305 == t313) || (!(t306 == t314))))))) = false := by simpa using c25
   clear c25
   (first | rw [c25b0] | (simp only [i64_w, i32_w]; rw [c25b0]) | skip)
   have H' := Aside0.mk H
   clear H
   have hnb33 := NB308_298.out
   have hnc33 := NB298_308.out
   have hnb34 := NB308_299.out
   have hnc34 := NB299_308.out
   have hnb35 := NB308_316.out
   have hnc35 := NB316_308.out
   obtain ⟨hcz36_0, hcz36_1, hcz36_2, hcz36_3, hcz36_4, hcz36_5⟩ := q9_ BK308
   obtain ⟨hfz36_0, hfz36_1, hfz36_2, hfz36_3, hfz36_4, hfz36_5⟩ := q10_ BK308
   have hnb37 := NB316_298.out
   have hnc37 := NB298_316.out
   have hnb38 := NB316_299.out
   have hnc38 := NB299_316.out
   obtain ⟨hcz39_0, hcz39_1, hcz39_2, hcz39_3, hcz39_4, hcz39_5⟩ := q9_ BK316
   obtain ⟨hfz39_0, hfz39_1, hfz39_2, hfz39_3, hfz39_4, hfz39_5⟩ := q10_ BK316
   go_wp2
   go_meet
   case rel => exact ⟨_, ((t307 != t315)), (by first | rfl | (simp; done) | (simp [*]; done)), H', ⟨by first | omega | exact Nat.le_refl _⟩, ⟨by (with_reducible repeat (first | refine blk_drewN ?_ _ | refine blk_drew ?_ | refine blk_alloc ?_ _)); refine blk_far ?_ NB298_316.out _; (with_reducible repeat (first | refine blk_drewN ?_ _ | refine blk_drew ?_ | refine blk_alloc ?_ _)); refine blk_far ?_ NB298_316.out _; (with_reducible repeat (first | refine blk_drewN ?_ _ | refine blk_drew ?_ | refine blk_alloc ?_ _)); refine blk_far ?_ NB298_316.out _; (with_reducible repeat (first | refine blk_drewN ?_ _ | refine blk_drew ?_ | refine blk_alloc ?_ _)); refine blk_far ?_ NB298_316.out _; (with_reducible repeat (first | refine blk_drewN ?_ _ | refine blk_drew ?_ | refine blk_alloc ?_ _)); refine blk_far ?_ NB298_316.out _; (with_reducible repeat (first | refine blk_drewN ?_ _ | refine blk_drew ?_ | refine blk_alloc ?_ _)); refine blk_far ?_ NB298_316.out _; (with_reducible repeat (first | refine blk_drewN ?_ _ | refine blk_drew ?_ | refine blk_alloc ?_ _)); exact BK298.out⟩, ⟨by (with_reducible repeat (first | refine blk_drewN ?_ _ | refine blk_drew ?_ | refine blk_alloc ?_ _)); refine blk_far ?_ NB299_316.out _; (with_reducible repeat (first | refine blk_drewN ?_ _ | refine blk_drew ?_ | refine blk_alloc ?_ _)); refine blk_far ?_ NB299_316.out _; (with_reducible repeat (first | refine blk_drewN ?_ _ | refine blk_drew ?_ | refine blk_alloc ?_ _)); refine blk_far ?_ NB299_316.out _; (with_reducible repeat (first | refine blk_drewN ?_ _ | refine blk_drew ?_ | refine blk_alloc ?_ _)); refine blk_far ?_ NB299_316.out _; (with_reducible repeat (first | refine blk_drewN ?_ _ | refine blk_drew ?_ | refine blk_alloc ?_ _)); refine blk_far ?_ NB299_316.out _; (with_reducible repeat (first | refine blk_drewN ?_ _ | refine blk_drew ?_ | refine blk_alloc ?_ _)); refine blk_far ?_ NB299_316.out _; (with_reducible repeat (first | refine blk_drewN ?_ _ | refine blk_drew ?_ | refine blk_alloc ?_ _)); exact BK299.out⟩, ⟨by (with_reducible repeat (first | refine blk_drewN ?_ _ | refine blk_drew ?_ | refine blk_alloc ?_ _)); refine blk_far ?_ NB308_316.out _; (with_reducible repeat (first | refine blk_drewN ?_ _ | refine blk_drew ?_ | refine blk_alloc ?_ _)); refine blk_far ?_ NB308_316.out _; (with_reducible repeat (first | refine blk_drewN ?_ _ | refine blk_drew ?_ | refine blk_alloc ?_ _)); refine blk_far ?_ NB308_316.out _; (with_reducible repeat (first | refine blk_drewN ?_ _ | refine blk_drew ?_ | refine blk_alloc ?_ _)); refine blk_far ?_ NB308_316.out _; (with_reducible repeat (first | refine blk_drewN ?_ _ | refine blk_drew ?_ | refine blk_alloc ?_ _)); refine blk_far ?_ NB308_316.out _; (with_reducible repeat (first | refine blk_drewN ?_ _ | refine blk_drew ?_ | refine blk_alloc ?_ _)); refine blk_far ?_ NB308_316.out _; (with_reducible repeat (first | refine blk_drewN ?_ _ | refine blk_drew ?_ | refine blk_alloc ?_ _)); exact BK308.out⟩, ⟨by (with_reducible repeat (first | refine blk_drewN ?_ _ | refine blk_drew ?_ | refine blk_alloc ?_ _)); refine blk_put (cs := #[.bool t309, .int .i64 t310, .int .i64 t311, .int .i64 t312, .int .i64 t313, .int .i64 0]) ?_ 5 _ rfl; refine blk_put (cs := #[.bool t309, .int .i64 t310, .int .i64 t311, .int .i64 t312, .int .i64 0, .int .i64 0]) ?_ 4 _ rfl; refine blk_put (cs := #[.bool t309, .int .i64 t310, .int .i64 t311, .int .i64 0, .int .i64 0, .int .i64 0]) ?_ 3 _ rfl; refine blk_put (cs := #[.bool t309, .int .i64 t310, .int .i64 0, .int .i64 0, .int .i64 0, .int .i64 0]) ?_ 2 _ rfl; refine blk_put (cs := #[.bool t309, .int .i64 0, .int .i64 0, .int .i64 0, .int .i64 0, .int .i64 0]) ?_ 1 _ rfl; refine blk_put (cs := #[.bool false, .int .i64 0, .int .i64 0, .int .i64 0, .int .i64 0, .int .i64 0]) ?_ 0 _ rfl; (with_reducible repeat (first | refine blk_drewN ?_ _ | refine blk_drew ?_ | refine blk_alloc ?_ _)); exact BK316.out⟩, ⟨by repeat (first | (with_reducible first | exact HB.out | apply below_alloc | apply pw_below_drewN | apply below_drew1 | refine below_set ?_ GE298.out | refine below_set ?_ GE299.out | refine below_set ?_ GE308.out | refine below_set ?_ GE316.out) | exact HB.out)⟩⟩
 case rest =>
  clear HC7
  try clear c1
  try clear c2
  try clear p2
  try clear c3
  try clear c10
  try clear c11
  try clear c12
  try clear c15
  try clear c16
  try clear c21
  try clear c22
  try clear c23
  try clear c25
  try clear c25b0
  try clear c26
  try clear c27
  try clear c28
  try clear c30
  try clear c31
  try clear c33
  try clear c34
  try clear c35
  try clear c37
  try clear c38
  try clear hcz12_0
  try clear hcz12_1
  try clear hcz12_2
  try clear hcz12_3
  try clear hcz12_4
  try clear hcz12_5
  try clear hcz17_0
  try clear hcz17_1
  try clear hcz17_2
  try clear hcz17_3
  try clear hcz17_4
  try clear hcz17_5
  try clear hcz18_0
  try clear hcz18_1
  try clear hcz18_2
  try clear hcz18_3
  try clear hcz18_4
  try clear hcz18_5
  try clear hcz24_0
  try clear hcz24_1
  try clear hcz24_2
  try clear hcz24_3
  try clear hcz24_4
  try clear hcz24_5
  try clear hcz29_0
  try clear hcz29_1
  try clear hcz29_2
  try clear hcz29_3
  try clear hcz29_4
  try clear hcz29_5
  try clear hcz32_0
  try clear hcz32_1
  try clear hcz32_2
  try clear hcz32_3
  try clear hcz32_4
  try clear hcz32_5
  try clear hcz36_0
  try clear hcz36_1
  try clear hcz36_2
  try clear hcz36_3
  try clear hcz36_4
  try clear hcz36_5
  try clear hcz39_0
  try clear hcz39_1
  try clear hcz39_2
  try clear hcz39_3
  try clear hcz39_4
  try clear hcz39_5
  try clear hfz12_0
  try clear hfz12_1
  try clear hfz12_2
  try clear hfz12_3
  try clear hfz12_4
  try clear hfz12_5
  try clear hfz17_0
  try clear hfz17_1
  try clear hfz17_2
  try clear hfz17_3
  try clear hfz17_4
  try clear hfz17_5
  try clear hfz18_0
  try clear hfz18_1
  try clear hfz18_2
  try clear hfz18_3
  try clear hfz18_4
  try clear hfz18_5
  try clear hfz24_0
  try clear hfz24_1
  try clear hfz24_2
  try clear hfz24_3
  try clear hfz24_4
  try clear hfz24_5
  try clear hfz29_0
  try clear hfz29_1
  try clear hfz29_2
  try clear hfz29_3
  try clear hfz29_4
  try clear hfz29_5
  try clear hfz32_0
  try clear hfz32_1
  try clear hfz32_2
  try clear hfz32_3
  try clear hfz32_4
  try clear hfz32_5
  try clear hfz36_0
  try clear hfz36_1
  try clear hfz36_2
  try clear hfz36_3
  try clear hfz36_4
  try clear hfz36_5
  try clear hfz39_0
  try clear hfz39_1
  try clear hfz39_2
  try clear hfz39_3
  try clear hfz39_4
  try clear hfz39_5
  obtain ⟨kq, x40_6, rfl, HA, HJ6, BK298, BK299, BK308, BK316, HB⟩ := hcut
  cases kq with
  | zero => exact absurd HA.out (by simp [seizinlaw04_DeriveTells.j0])
  | succ kj6 =>
   have H := HA.out
   clear HA
   simp only [seizinlaw04_DeriveTells.j0] at H
   by_cases c40 : x40_6 = true
   ·subst c40
    have H1 : (some false) = some r := by rw [if_pos rfl] at H; exact H
    clear H
    have H := H1
    clear H1
    exact absurd ((Option.some.inj H).trans hr_) (by decide)
   ·replace c40 := Bool.eq_false_iff.mpr c40
    subst c40
    have H1 : ((derive_Perms.f a0_0 a0_1 a0_2 a0_3 a0_4 a0_5 a2).bind fun bt317 => ((seizinref04_Perms.f a0_0 a0_1 a0_2 a0_3 a0_4 a0_5 a2).bind fun bt325 => ((derive_Move.f a0_0 a0_1 a0_2 a0_3 a0_4 a0_5 a2).bind fun bt333 => ((seizinref04_Move.f a0_0 a0_1 a0_2 a0_3 a0_4 a0_5 a2).bind fun bt341 => (if t300 = true then (if (bt317.1 == bt325.1 && (bt317.2.1 == bt325.2.1 && (bt317.2.2.1 == bt325.2.2.1 && (bt317.2.2.2.1 == bt325.2.2.2.1 && (bt317.2.2.2.2.1 == bt325.2.2.2.2.1 && (bt317.2.2.2.2.2.1 == bt325.2.2.2.2.2.1)))))) = true then (if bt317.2.2.2.2.2.2 = bt325.2.2.2.2.2.2 then (if (bt333.1 == bt341.1 && (bt333.2.1 == bt341.2.1 && (bt333.2.2.1 == bt341.2.2.1 && (bt333.2.2.2.1 == bt341.2.2.2.1 && (bt333.2.2.2.2.1 == bt341.2.2.2.2.1 && (bt333.2.2.2.2.2.1 == bt341.2.2.2.2.2.1)))))) = true then (if bt333.2.2.2.2.2.2 = bt341.2.2.2.2.2.2 then ((derive_Clear.f a0_0 a0_1 a0_2 a0_3 a0_4 a0_5).bind fun bt349 => ((seizinref04_Clear.f a0_0 a0_1 a0_2 a0_3 a0_4 a0_5).bind fun bt355 => (if (bt349.1 == bt355.1 && (bt349.2.1 == bt355.2.1 && (bt349.2.2.1 == bt355.2.2.1 && (bt349.2.2.2.1 == bt355.2.2.2.1 && (bt349.2.2.2.2.1 == bt355.2.2.2.2.1 && (bt349.2.2.2.2.2 == bt355.2.2.2.2.2)))))) = true then ((derive_Clear.f a1_0 a1_1 a1_2 a1_3 a1_4 a1_5).bind fun bt361 => ((seizinref04_Clear.f a1_0 a1_1 a1_2 a1_3 a1_4 a1_5).bind fun bt367 => (some (bt361.1 == bt367.1 && (bt361.2.1 == bt367.2.1 && (bt361.2.2.1 == bt367.2.2.1 && (bt361.2.2.2.1 == bt367.2.2.2.1 && (bt361.2.2.2.2.1 == bt367.2.2.2.2.1 && (bt361.2.2.2.2.2 == bt367.2.2.2.2.2))))))))) else (some false)))) else (some false)) else (some false)) else (some false)) else (some false)) else (some false)))))) = some r := by rw [if_neg (show ¬ (false = true) by decide)] at H; exact H
    clear H
    have H := H1
    clear H1
    replace H := Option.bind_eq_some_iff.mp H
    obtain ⟨⟨t317, t318, t319, t320, t321, t322, t323⟩, A410, H⟩ := H
    replace H : ((seizinref04_Perms.f a0_0 a0_1 a0_2 a0_3 a0_4 a0_5 a2).bind fun bt325 => ((derive_Move.f a0_0 a0_1 a0_2 a0_3 a0_4 a0_5 a2).bind fun bt333 => ((seizinref04_Move.f a0_0 a0_1 a0_2 a0_3 a0_4 a0_5 a2).bind fun bt341 => (if t300 = true then (if (t317 == bt325.1 && (t318 == bt325.2.1 && (t319 == bt325.2.2.1 && (t320 == bt325.2.2.2.1 && (t321 == bt325.2.2.2.2.1 && (t322 == bt325.2.2.2.2.2.1)))))) = true then (if t323 = bt325.2.2.2.2.2.2 then (if (bt333.1 == bt341.1 && (bt333.2.1 == bt341.2.1 && (bt333.2.2.1 == bt341.2.2.1 && (bt333.2.2.2.1 == bt341.2.2.2.1 && (bt333.2.2.2.2.1 == bt341.2.2.2.2.1 && (bt333.2.2.2.2.2.1 == bt341.2.2.2.2.2.1)))))) = true then (if bt333.2.2.2.2.2.2 = bt341.2.2.2.2.2.2 then ((derive_Clear.f a0_0 a0_1 a0_2 a0_3 a0_4 a0_5).bind fun bt349 => ((seizinref04_Clear.f a0_0 a0_1 a0_2 a0_3 a0_4 a0_5).bind fun bt355 => (if (bt349.1 == bt355.1 && (bt349.2.1 == bt355.2.1 && (bt349.2.2.1 == bt355.2.2.1 && (bt349.2.2.2.1 == bt355.2.2.2.1 && (bt349.2.2.2.2.1 == bt355.2.2.2.2.1 && (bt349.2.2.2.2.2 == bt355.2.2.2.2.2)))))) = true then ((derive_Clear.f a1_0 a1_1 a1_2 a1_3 a1_4 a1_5).bind fun bt361 => ((seizinref04_Clear.f a1_0 a1_1 a1_2 a1_3 a1_4 a1_5).bind fun bt367 => (some (bt361.1 == bt367.1 && (bt361.2.1 == bt367.2.1 && (bt361.2.2.1 == bt367.2.2.1 && (bt361.2.2.2.1 == bt367.2.2.2.1 && (bt361.2.2.2.2.1 == bt367.2.2.2.2.1 && (bt361.2.2.2.2.2 == bt367.2.2.2.2.2))))))))) else (some false)))) else (some false)) else (some false)) else (some false)) else (some false)) else (some false))))) = some r := H
    have A41 := Aside0.mk A410
    clear A410
    replace H := Option.bind_eq_some_iff.mp H
    obtain ⟨⟨t325, t326, t327, t328, t329, t330, t331⟩, A420, H⟩ := H
    replace H : ((derive_Move.f a0_0 a0_1 a0_2 a0_3 a0_4 a0_5 a2).bind fun bt333 => ((seizinref04_Move.f a0_0 a0_1 a0_2 a0_3 a0_4 a0_5 a2).bind fun bt341 => (if t300 = true then (if (t317 == t325 && (t318 == t326 && (t319 == t327 && (t320 == t328 && (t321 == t329 && (t322 == t330)))))) = true then (if t323 = t331 then (if (bt333.1 == bt341.1 && (bt333.2.1 == bt341.2.1 && (bt333.2.2.1 == bt341.2.2.1 && (bt333.2.2.2.1 == bt341.2.2.2.1 && (bt333.2.2.2.2.1 == bt341.2.2.2.2.1 && (bt333.2.2.2.2.2.1 == bt341.2.2.2.2.2.1)))))) = true then (if bt333.2.2.2.2.2.2 = bt341.2.2.2.2.2.2 then ((derive_Clear.f a0_0 a0_1 a0_2 a0_3 a0_4 a0_5).bind fun bt349 => ((seizinref04_Clear.f a0_0 a0_1 a0_2 a0_3 a0_4 a0_5).bind fun bt355 => (if (bt349.1 == bt355.1 && (bt349.2.1 == bt355.2.1 && (bt349.2.2.1 == bt355.2.2.1 && (bt349.2.2.2.1 == bt355.2.2.2.1 && (bt349.2.2.2.2.1 == bt355.2.2.2.2.1 && (bt349.2.2.2.2.2 == bt355.2.2.2.2.2)))))) = true then ((derive_Clear.f a1_0 a1_1 a1_2 a1_3 a1_4 a1_5).bind fun bt361 => ((seizinref04_Clear.f a1_0 a1_1 a1_2 a1_3 a1_4 a1_5).bind fun bt367 => (some (bt361.1 == bt367.1 && (bt361.2.1 == bt367.2.1 && (bt361.2.2.1 == bt367.2.2.1 && (bt361.2.2.2.1 == bt367.2.2.2.1 && (bt361.2.2.2.2.1 == bt367.2.2.2.2.1 && (bt361.2.2.2.2.2 == bt367.2.2.2.2.2))))))))) else (some false)))) else (some false)) else (some false)) else (some false)) else (some false)) else (some false)))) = some r := H
    have A42 := Aside0.mk A420
    clear A420
    replace H := Option.bind_eq_some_iff.mp H
    obtain ⟨⟨t333, t334, t335, t336, t337, t338, t339⟩, A430, H⟩ := H
    replace H : ((seizinref04_Move.f a0_0 a0_1 a0_2 a0_3 a0_4 a0_5 a2).bind fun bt341 => (if t300 = true then (if (t317 == t325 && (t318 == t326 && (t319 == t327 && (t320 == t328 && (t321 == t329 && (t322 == t330)))))) = true then (if t323 = t331 then (if (t333 == bt341.1 && (t334 == bt341.2.1 && (t335 == bt341.2.2.1 && (t336 == bt341.2.2.2.1 && (t337 == bt341.2.2.2.2.1 && (t338 == bt341.2.2.2.2.2.1)))))) = true then (if t339 = bt341.2.2.2.2.2.2 then ((derive_Clear.f a0_0 a0_1 a0_2 a0_3 a0_4 a0_5).bind fun bt349 => ((seizinref04_Clear.f a0_0 a0_1 a0_2 a0_3 a0_4 a0_5).bind fun bt355 => (if (bt349.1 == bt355.1 && (bt349.2.1 == bt355.2.1 && (bt349.2.2.1 == bt355.2.2.1 && (bt349.2.2.2.1 == bt355.2.2.2.1 && (bt349.2.2.2.2.1 == bt355.2.2.2.2.1 && (bt349.2.2.2.2.2 == bt355.2.2.2.2.2)))))) = true then ((derive_Clear.f a1_0 a1_1 a1_2 a1_3 a1_4 a1_5).bind fun bt361 => ((seizinref04_Clear.f a1_0 a1_1 a1_2 a1_3 a1_4 a1_5).bind fun bt367 => (some (bt361.1 == bt367.1 && (bt361.2.1 == bt367.2.1 && (bt361.2.2.1 == bt367.2.2.1 && (bt361.2.2.2.1 == bt367.2.2.2.1 && (bt361.2.2.2.2.1 == bt367.2.2.2.2.1 && (bt361.2.2.2.2.2 == bt367.2.2.2.2.2))))))))) else (some false)))) else (some false)) else (some false)) else (some false)) else (some false)) else (some false))) = some r := H
    have A43 := Aside0.mk A430
    clear A430
    replace H := Option.bind_eq_some_iff.mp H
    obtain ⟨⟨t341, t342, t343, t344, t345, t346, t347⟩, A440, H⟩ := H
    replace H : (if t300 = true then (if (t317 == t325 && (t318 == t326 && (t319 == t327 && (t320 == t328 && (t321 == t329 && (t322 == t330)))))) = true then (if t323 = t331 then (if (t333 == t341 && (t334 == t342 && (t335 == t343 && (t336 == t344 && (t337 == t345 && (t338 == t346)))))) = true then (if t339 = t347 then ((derive_Clear.f a0_0 a0_1 a0_2 a0_3 a0_4 a0_5).bind fun bt349 => ((seizinref04_Clear.f a0_0 a0_1 a0_2 a0_3 a0_4 a0_5).bind fun bt355 => (if (bt349.1 == bt355.1 && (bt349.2.1 == bt355.2.1 && (bt349.2.2.1 == bt355.2.2.1 && (bt349.2.2.2.1 == bt355.2.2.2.1 && (bt349.2.2.2.2.1 == bt355.2.2.2.2.1 && (bt349.2.2.2.2.2 == bt355.2.2.2.2.2)))))) = true then ((derive_Clear.f a1_0 a1_1 a1_2 a1_3 a1_4 a1_5).bind fun bt361 => ((seizinref04_Clear.f a1_0 a1_1 a1_2 a1_3 a1_4 a1_5).bind fun bt367 => (some (bt361.1 == bt367.1 && (bt361.2.1 == bt367.2.1 && (bt361.2.2.1 == bt367.2.2.1 && (bt361.2.2.2.1 == bt367.2.2.2.1 && (bt361.2.2.2.2.1 == bt367.2.2.2.2.1 && (bt361.2.2.2.2.2 == bt367.2.2.2.2.2))))))))) else (some false)))) else (some false)) else (some false)) else (some false)) else (some false)) else (some false)) = some r := H
    have A44 := Aside0.mk A440
    clear A440
    by_cases c45 : t300 = true
    ·subst c45
     have H1 : (if (t317 == t325 && (t318 == t326 && (t319 == t327 && (t320 == t328 && (t321 == t329 && (t322 == t330)))))) = true then (if t323 = t331 then (if (t333 == t341 && (t334 == t342 && (t335 == t343 && (t336 == t344 && (t337 == t345 && (t338 == t346)))))) = true then (if t339 = t347 then ((derive_Clear.f a0_0 a0_1 a0_2 a0_3 a0_4 a0_5).bind fun bt349 => ((seizinref04_Clear.f a0_0 a0_1 a0_2 a0_3 a0_4 a0_5).bind fun bt355 => (if (bt349.1 == bt355.1 && (bt349.2.1 == bt355.2.1 && (bt349.2.2.1 == bt355.2.2.1 && (bt349.2.2.2.1 == bt355.2.2.2.1 && (bt349.2.2.2.2.1 == bt355.2.2.2.2.1 && (bt349.2.2.2.2.2 == bt355.2.2.2.2.2)))))) = true then ((derive_Clear.f a1_0 a1_1 a1_2 a1_3 a1_4 a1_5).bind fun bt361 => ((seizinref04_Clear.f a1_0 a1_1 a1_2 a1_3 a1_4 a1_5).bind fun bt367 => (some (bt361.1 == bt367.1 && (bt361.2.1 == bt367.2.1 && (bt361.2.2.1 == bt367.2.2.1 && (bt361.2.2.2.1 == bt367.2.2.2.1 && (bt361.2.2.2.2.1 == bt367.2.2.2.2.1 && (bt361.2.2.2.2.2 == bt367.2.2.2.2.2))))))))) else (some false)))) else (some false)) else (some false)) else (some false)) else (some false)) = some r := by rw [if_pos rfl] at H; exact H
     clear H
     have H := H1
     clear H1
     by_cases c46 : (t317 == t325 && (t318 == t326 && (t319 == t327 && (t320 == t328 && (t321 == t329 && (t322 == t330)))))) = true
     ·rw [if_pos c46] at H
      have c46b0 : (t317 == t325 && (t318 == t326 && (t319 == t327 && (t320 == t328 && (t321 == t329 && (t322 == t330)))))) = true := c46
      (try (have c46b1 : decide (t317 = t325 && (t318 == t326 && (t319 == t327 && (t320 == t328 && (t321 == t329 && (t322 == t330)))))) = true := by simpa using c46))
      (try (have c46b2 : (t317 == t325 && (t318 == t326 && (t319 == t327 && (t320 == t328 && (t321 == t329 && (t322 == t330)))))) = true := by simpa using c46))
      clear c46
      by_cases c47 : t323 = t331
      ·rw [if_pos c47] at H
       have c47b0 : (t323 == t331) = true := beq_iff_eq.mpr c47
       have c47b1 : (t323 != t331) = false := bne_eq_false_iff_eq.mpr c47
       clear c47
       by_cases c48 : (t333 == t341 && (t334 == t342 && (t335 == t343 && (t336 == t344 && (t337 == t345 && (t338 == t346)))))) = true
       ·rw [if_pos c48] at H
        have c48b0 : (t333 == t341 && (t334 == t342 && (t335 == t343 && (t336 == t344 && (t337 == t345 && (t338 == t346)))))) = true := c48
        (try (have c48b1 : decide (t333 = t341 && (t334 == t342 && (t335 == t343 && (t336 == t344 && (t337 == t345 && (t338 == t346)))))) = true := by simpa using c48))
        (try (have c48b2 : (t333 == t341 && (t334 == t342 && (t335 == t343 && (t336 == t344 && (t337 == t345 && (t338 == t346)))))) = true := by simpa using c48))
        clear c48
        by_cases c49 : t339 = t347
        ·rw [if_pos c49] at H
         have c49b0 : (t339 == t347) = true := beq_iff_eq.mpr c49
         have c49b1 : (t339 != t347) = false := bne_eq_false_iff_eq.mpr c49
         clear c49
         replace H := Option.bind_eq_some_iff.mp H
         obtain ⟨⟨t349, t350, t351, t352, t353, t354⟩, A500, H⟩ := H
         replace H : ((seizinref04_Clear.f a0_0 a0_1 a0_2 a0_3 a0_4 a0_5).bind fun bt355 => (if (t349 == bt355.1 && (t350 == bt355.2.1 && (t351 == bt355.2.2.1 && (t352 == bt355.2.2.2.1 && (t353 == bt355.2.2.2.2.1 && (t354 == bt355.2.2.2.2.2)))))) = true then ((derive_Clear.f a1_0 a1_1 a1_2 a1_3 a1_4 a1_5).bind fun bt361 => ((seizinref04_Clear.f a1_0 a1_1 a1_2 a1_3 a1_4 a1_5).bind fun bt367 => (some (bt361.1 == bt367.1 && (bt361.2.1 == bt367.2.1 && (bt361.2.2.1 == bt367.2.2.1 && (bt361.2.2.2.1 == bt367.2.2.2.1 && (bt361.2.2.2.2.1 == bt367.2.2.2.2.1 && (bt361.2.2.2.2.2 == bt367.2.2.2.2.2))))))))) else (some false))) = some r := H
         have A50 := Aside0.mk A500
         clear A500
         replace H := Option.bind_eq_some_iff.mp H
         obtain ⟨⟨t355, t356, t357, t358, t359, t360⟩, A510, H⟩ := H
         replace H : (if (t349 == t355 && (t350 == t356 && (t351 == t357 && (t352 == t358 && (t353 == t359 && (t354 == t360)))))) = true then ((derive_Clear.f a1_0 a1_1 a1_2 a1_3 a1_4 a1_5).bind fun bt361 => ((seizinref04_Clear.f a1_0 a1_1 a1_2 a1_3 a1_4 a1_5).bind fun bt367 => (some (bt361.1 == bt367.1 && (bt361.2.1 == bt367.2.1 && (bt361.2.2.1 == bt367.2.2.1 && (bt361.2.2.2.1 == bt367.2.2.2.1 && (bt361.2.2.2.2.1 == bt367.2.2.2.2.1 && (bt361.2.2.2.2.2 == bt367.2.2.2.2.2))))))))) else (some false)) = some r := H
         have A51 := Aside0.mk A510
         clear A510
         by_cases c52 : (t349 == t355 && (t350 == t356 && (t351 == t357 && (t352 == t358 && (t353 == t359 && (t354 == t360)))))) = true
         ·rw [if_pos c52] at H
          have c52b0 : (t349 == t355 && (t350 == t356 && (t351 == t357 && (t352 == t358 && (t353 == t359 && (t354 == t360)))))) = true := c52
          (try (have c52b1 : decide (t349 = t355 && (t350 == t356 && (t351 == t357 && (t352 == t358 && (t353 == t359 && (t354 == t360)))))) = true := by simpa using c52))
          (try (have c52b2 : (t349 == t355 && (t350 == t356 && (t351 == t357 && (t352 == t358 && (t353 == t359 && (t354 == t360)))))) = true := by simpa using c52))
          clear c52
          replace H := Option.bind_eq_some_iff.mp H
          obtain ⟨⟨t361, t362, t363, t364, t365, t366⟩, A530, H⟩ := H
          replace H : ((seizinref04_Clear.f a1_0 a1_1 a1_2 a1_3 a1_4 a1_5).bind fun bt367 => (some (t361 == bt367.1 && (t362 == bt367.2.1 && (t363 == bt367.2.2.1 && (t364 == bt367.2.2.2.1 && (t365 == bt367.2.2.2.2.1 && (t366 == bt367.2.2.2.2.2)))))))) = some r := H
          have A53 := Aside0.mk A530
          clear A530
          replace H := Option.bind_eq_some_iff.mp H
          obtain ⟨⟨t367, t368, t369, t370, t371, t372⟩, A540, H⟩ := H
          replace H : (some (t361 == t367 && (t362 == t368 && (t363 == t369 && (t364 == t370 && (t365 == t371 && (t366 == t372))))))) = some r := H
          have A54 := Aside0.mk A540
          clear A540
          clear hr_
          obtain rfl := Option.some.inj H
          have hnb55 := NB298_299.out
          have hnc55 := NB299_298.out
          have hnb56 := NB298_308.out
          have hnc56 := NB308_298.out
          have hnb57 := NB298_316.out
          have hnc57 := NB316_298.out
          obtain ⟨hcz58_0, hcz58_1, hcz58_2, hcz58_3, hcz58_4, hcz58_5⟩ := q9_ BK298
          obtain ⟨hfz58_0, hfz58_1, hfz58_2, hfz58_3, hfz58_4, hfz58_5⟩ := q10_ BK298
          try go_wp2_with (first | ((with_reducible refine gate_callee (f := 13) rfl ?_); refine goesL_ (some 44) rfl rfl Try.func13 (by kernel_rfl) rfl #[.agg #[.bool a0_0, .int .i64 a0_1, .int .i64 a0_2, .int .i64 a0_3, .int .i64 a0_4, .int .i64 a0_5], .int .i64 a2] rfl (by (try simp only [List.map_toArray, List.map_cons, List.map_nil]); first | done | rfl | (simp only [List.length_drop, List.length_take]; rfl)) ?_; (with_reducible refine (derive_Perms.calls a0_0 a0_1 a0_2 a0_3 a0_4 a0_5 a2 t317 t318 t319 t320 t321 t322 t323 _ A41.out).mono ?_); rintro e w59 ⟨rfl, hb⟩; refine ⟨_, rfl, ?_⟩; have n0_ := q1_ BK298 hb; have n1_ := q1_ BK299 hb; have n2_ := q1_ BK308 hb; have n3_ := q1_ BK316 hb; have n4_ := q2_ HB hb; clear BK298; clear BK299; clear BK308; clear BK316; clear HB; have BK298 := n0_; have BK299 := n1_; have BK308 := n2_; have BK316 := n3_; have HB := n4_; clear n0_ n1_ n2_ n3_ n4_; (try clear hb); (try clear hb2); (try clear hk); (try clear hi)) | ((with_reducible refine gate_dst (N := 12) rfl ?_); refine box_event ?hg (N := 12) ?hd (cs := #[.bool false, .int .i64 0, .int .i64 0, .int .i64 0, .int .i64 0, .int .i64 0]) (t := 23) ?hr ?_; (case hd => rfl); (case hg => rfl); (case hr => first | (go_simp; done) | (go_simp; rfl)); intro gb324 hg w60 hbox hb; have n0_ := q1_ BK298 hb; have n1_ := q1_ BK299 hb; have n2_ := q1_ BK308 hb; have n3_ := q1_ BK316 hb; have n4_ := q2_ HB hb; have n5_ := Aside0.mk (hbox); have n6_ := q11_ HB hg; have n7_ := q11_ HB hg; have n8_ := q12_ BK298 hg; have n9_ := q13_ BK298 hg; have n10_ := q12_ BK299 hg; have n11_ := q13_ BK299 hg; have n12_ := q12_ BK308 hg; have n13_ := q13_ BK308 hg; have n14_ := q12_ BK316 hg; have n15_ := q13_ BK316 hg; clear BK298; clear BK299; clear BK308; clear BK316; clear HB; have BK298 := n0_; have BK299 := n1_; have BK308 := n2_; have BK316 := n3_; have HB := n4_; have BK324 := n5_; have GW324 := n6_; have GE324 := n7_; have NB298_324 := n8_; have NB324_298 := n9_; have NB299_324 := n10_; have NB324_299 := n11_; have NB308_324 := n12_; have NB324_308 := n13_; have NB316_324 := n14_; have NB324_316 := n15_; clear n0_ n1_ n2_ n3_ n4_ n5_ n6_ n7_ n8_ n9_ n10_ n11_ n12_ n13_ n14_ n15_; clear hb hbox hg; have hnb61 := NB324_298.out; have hnc61 := NB298_324.out; have hnb62 := NB324_299.out; have hnc62 := NB299_324.out; have hnb63 := NB324_308.out; have hnc63 := NB308_324.out; have hnb64 := NB324_316.out; have hnc64 := NB316_324.out; obtain ⟨hcz65_0, hcz65_1, hcz65_2, hcz65_3, hcz65_4, hcz65_5⟩ := q9_ BK324; obtain ⟨hfz65_0, hfz65_1, hfz65_2, hfz65_3, hfz65_4, hfz65_5⟩ := q10_ BK324; obtain ⟨hcz66_0, hcz66_1, hcz66_2, hcz66_3, hcz66_4, hcz66_5⟩ := q9_ BK298; obtain ⟨hfz66_0, hfz66_1, hfz66_2, hfz66_3, hfz66_4, hfz66_5⟩ := q10_ BK298) | ((with_reducible refine gate_callee (f := 14) rfl ?_); refine goesL_ (some 50) rfl rfl Try.func14 (by kernel_rfl) rfl #[.agg #[.bool a0_0, .int .i64 a0_1, .int .i64 a0_2, .int .i64 a0_3, .int .i64 a0_4, .int .i64 a0_5], .int .i64 a2] rfl (by (try simp only [List.map_toArray, List.map_cons, List.map_nil]); first | done | rfl | (simp only [List.length_drop, List.length_take]; rfl)) ?_; (with_reducible refine (seizinref04_Perms.calls a0_0 a0_1 a0_2 a0_3 a0_4 a0_5 a2 t325 t326 t327 t328 t329 t330 t331 _ A42.out).mono ?_); rintro e w67 ⟨rfl, hb⟩; refine ⟨_, rfl, ?_⟩; have n0_ := Aside0.mk (blk_below (g := gb298) (o := .cells #[.bool a0_0, .int .i64 a0_1, .int .i64 a0_2, .int .i64 a0_3, .int .i64 a0_4, .int .i64 a0_5] 23 (0, 0)) (by (with_reducible repeat (first | refine blk_drewN ?_ _ | refine blk_drew ?_ | refine blk_alloc ?_ _)); refine blk_far ?_ NB298_324.out _; (with_reducible repeat (first | refine blk_drewN ?_ _ | refine blk_drew ?_ | refine blk_alloc ?_ _)); refine blk_far ?_ NB298_324.out _; (with_reducible repeat (first | refine blk_drewN ?_ _ | refine blk_drew ?_ | refine blk_alloc ?_ _)); refine blk_far ?_ NB298_324.out _; (with_reducible repeat (first | refine blk_drewN ?_ _ | refine blk_drew ?_ | refine blk_alloc ?_ _)); refine blk_far ?_ NB298_324.out _; (with_reducible repeat (first | refine blk_drewN ?_ _ | refine blk_drew ?_ | refine blk_alloc ?_ _)); refine blk_far ?_ NB298_324.out _; (with_reducible repeat (first | refine blk_drewN ?_ _ | refine blk_drew ?_ | refine blk_alloc ?_ _)); refine blk_far ?_ NB298_324.out _; (with_reducible repeat (first | refine blk_drewN ?_ _ | refine blk_drew ?_ | refine blk_alloc ?_ _)); exact BK298.out) hb); have n1_ := Aside0.mk (blk_below (g := gb299) (o := .cells #[.bool a1_0, .int .i64 a1_1, .int .i64 a1_2, .int .i64 a1_3, .int .i64 a1_4, .int .i64 a1_5] 23 (0, 0)) (by (with_reducible repeat (first | refine blk_drewN ?_ _ | refine blk_drew ?_ | refine blk_alloc ?_ _)); refine blk_far ?_ NB299_324.out _; (with_reducible repeat (first | refine blk_drewN ?_ _ | refine blk_drew ?_ | refine blk_alloc ?_ _)); refine blk_far ?_ NB299_324.out _; (with_reducible repeat (first | refine blk_drewN ?_ _ | refine blk_drew ?_ | refine blk_alloc ?_ _)); refine blk_far ?_ NB299_324.out _; (with_reducible repeat (first | refine blk_drewN ?_ _ | refine blk_drew ?_ | refine blk_alloc ?_ _)); refine blk_far ?_ NB299_324.out _; (with_reducible repeat (first | refine blk_drewN ?_ _ | refine blk_drew ?_ | refine blk_alloc ?_ _)); refine blk_far ?_ NB299_324.out _; (with_reducible repeat (first | refine blk_drewN ?_ _ | refine blk_drew ?_ | refine blk_alloc ?_ _)); refine blk_far ?_ NB299_324.out _; (with_reducible repeat (first | refine blk_drewN ?_ _ | refine blk_drew ?_ | refine blk_alloc ?_ _)); exact BK299.out) hb); have n2_ := Aside0.mk (blk_below (g := gb308) (o := .cells #[.bool t301, .int .i64 t302, .int .i64 t303, .int .i64 t304, .int .i64 t305, .int .i64 t306] 23 (0, 0)) (by (with_reducible repeat (first | refine blk_drewN ?_ _ | refine blk_drew ?_ | refine blk_alloc ?_ _)); refine blk_far ?_ NB308_324.out _; (with_reducible repeat (first | refine blk_drewN ?_ _ | refine blk_drew ?_ | refine blk_alloc ?_ _)); refine blk_far ?_ NB308_324.out _; (with_reducible repeat (first | refine blk_drewN ?_ _ | refine blk_drew ?_ | refine blk_alloc ?_ _)); refine blk_far ?_ NB308_324.out _; (with_reducible repeat (first | refine blk_drewN ?_ _ | refine blk_drew ?_ | refine blk_alloc ?_ _)); refine blk_far ?_ NB308_324.out _; (with_reducible repeat (first | refine blk_drewN ?_ _ | refine blk_drew ?_ | refine blk_alloc ?_ _)); refine blk_far ?_ NB308_324.out _; (with_reducible repeat (first | refine blk_drewN ?_ _ | refine blk_drew ?_ | refine blk_alloc ?_ _)); refine blk_far ?_ NB308_324.out _; (with_reducible repeat (first | refine blk_drewN ?_ _ | refine blk_drew ?_ | refine blk_alloc ?_ _)); exact BK308.out) hb); have n3_ := Aside0.mk (blk_below (g := gb316) (o := .cells #[.bool t309, .int .i64 t310, .int .i64 t311, .int .i64 t312, .int .i64 t313, .int .i64 t314] 23 (0, 0)) (by (with_reducible repeat (first | refine blk_drewN ?_ _ | refine blk_drew ?_ | refine blk_alloc ?_ _)); refine blk_far ?_ NB316_324.out _; (with_reducible repeat (first | refine blk_drewN ?_ _ | refine blk_drew ?_ | refine blk_alloc ?_ _)); refine blk_far ?_ NB316_324.out _; (with_reducible repeat (first | refine blk_drewN ?_ _ | refine blk_drew ?_ | refine blk_alloc ?_ _)); refine blk_far ?_ NB316_324.out _; (with_reducible repeat (first | refine blk_drewN ?_ _ | refine blk_drew ?_ | refine blk_alloc ?_ _)); refine blk_far ?_ NB316_324.out _; (with_reducible repeat (first | refine blk_drewN ?_ _ | refine blk_drew ?_ | refine blk_alloc ?_ _)); refine blk_far ?_ NB316_324.out _; (with_reducible repeat (first | refine blk_drewN ?_ _ | refine blk_drew ?_ | refine blk_alloc ?_ _)); refine blk_far ?_ NB316_324.out _; (with_reducible repeat (first | refine blk_drewN ?_ _ | refine blk_drew ?_ | refine blk_alloc ?_ _)); exact BK316.out) hb); have n4_ := Aside0.mk (blk_below (g := gb324) (o := .cells #[.bool t317, .int .i64 t318, .int .i64 t319, .int .i64 t320, .int .i64 t321, .int .i64 t322] 23 (0, 0)) (by (with_reducible repeat (first | refine blk_drewN ?_ _ | refine blk_drew ?_ | refine blk_alloc ?_ _)); refine blk_put (cs := #[.bool t317, .int .i64 t318, .int .i64 t319, .int .i64 t320, .int .i64 t321, .int .i64 0]) ?_ 5 _ rfl; refine blk_put (cs := #[.bool t317, .int .i64 t318, .int .i64 t319, .int .i64 t320, .int .i64 0, .int .i64 0]) ?_ 4 _ rfl; refine blk_put (cs := #[.bool t317, .int .i64 t318, .int .i64 t319, .int .i64 0, .int .i64 0, .int .i64 0]) ?_ 3 _ rfl; refine blk_put (cs := #[.bool t317, .int .i64 t318, .int .i64 0, .int .i64 0, .int .i64 0, .int .i64 0]) ?_ 2 _ rfl; refine blk_put (cs := #[.bool t317, .int .i64 0, .int .i64 0, .int .i64 0, .int .i64 0, .int .i64 0]) ?_ 1 _ rfl; refine blk_put (cs := #[.bool false, .int .i64 0, .int .i64 0, .int .i64 0, .int .i64 0, .int .i64 0]) ?_ 0 _ rfl; (with_reducible repeat (first | refine blk_drewN ?_ _ | refine blk_drew ?_ | refine blk_alloc ?_ _)); exact BK324.out) hb); have n5_ := q2_ HB hb; clear BK298; clear BK299; clear BK308; clear BK316; clear BK324; clear HB; have BK298 := n0_; have BK299 := n1_; have BK308 := n2_; have BK316 := n3_; have BK324 := n4_; have HB := n5_; clear n0_ n1_ n2_ n3_ n4_ n5_; (try clear hb); (try clear hb2); (try clear hk); (try clear hi)) | ((with_reducible refine gate_dst (N := 14) rfl ?_); refine box_event ?hg (N := 14) ?hd (cs := #[.bool false, .int .i64 0, .int .i64 0, .int .i64 0, .int .i64 0, .int .i64 0]) (t := 23) ?hr ?_; (case hd => rfl); (case hg => rfl); (case hr => first | (go_simp; done) | (go_simp; rfl)); intro gb332 hg w68 hbox hb; have n0_ := q1_ BK298 hb; have n1_ := q1_ BK299 hb; have n2_ := q1_ BK308 hb; have n3_ := q1_ BK316 hb; have n4_ := q1_ BK324 hb; have n5_ := q2_ HB hb; have n6_ := Aside0.mk (hbox); have n7_ := q11_ HB hg; have n8_ := q11_ HB hg; have n9_ := q12_ BK298 hg; have n10_ := q13_ BK298 hg; have n11_ := q12_ BK299 hg; have n12_ := q13_ BK299 hg; have n13_ := q12_ BK308 hg; have n14_ := q13_ BK308 hg; have n15_ := q12_ BK316 hg; have n16_ := q13_ BK316 hg; have n17_ := q12_ BK324 hg; have n18_ := q13_ BK324 hg; clear BK298; clear BK299; clear BK308; clear BK316; clear BK324; clear HB; have BK298 := n0_; have BK299 := n1_; have BK308 := n2_; have BK316 := n3_; have BK324 := n4_; have HB := n5_; have BK332 := n6_; have GW332 := n7_; have GE332 := n8_; have NB298_332 := n9_; have NB332_298 := n10_; have NB299_332 := n11_; have NB332_299 := n12_; have NB308_332 := n13_; have NB332_308 := n14_; have NB316_332 := n15_; have NB332_316 := n16_; have NB324_332 := n17_; have NB332_324 := n18_; clear n0_ n1_ n2_ n3_ n4_ n5_ n6_ n7_ n8_ n9_ n10_ n11_ n12_ n13_ n14_ n15_ n16_ n17_ n18_; clear hb hbox hg; have hnb69 := NB332_298.out; have hnc69 := NB298_332.out; have hnb70 := NB332_299.out; have hnc70 := NB299_332.out; have hnb71 := NB332_308.out; have hnc71 := NB308_332.out; have hnb72 := NB332_316.out; have hnc72 := NB316_332.out; have hnb73 := NB332_324.out; have hnc73 := NB324_332.out; obtain ⟨hcz74_0, hcz74_1, hcz74_2, hcz74_3, hcz74_4, hcz74_5⟩ := q9_ BK332; obtain ⟨hfz74_0, hfz74_1, hfz74_2, hfz74_3, hfz74_4, hfz74_5⟩ := q10_ BK332; obtain ⟨hcz75_0, hcz75_1, hcz75_2, hcz75_3, hcz75_4, hcz75_5⟩ := q9_ BK298; obtain ⟨hfz75_0, hfz75_1, hfz75_2, hfz75_3, hfz75_4, hfz75_5⟩ := q10_ BK298) | ((with_reducible refine gate_callee (f := 15) rfl ?_); refine goesL_ (some 56) rfl rfl Try.func15 (by kernel_rfl) rfl #[.agg #[.bool a0_0, .int .i64 a0_1, .int .i64 a0_2, .int .i64 a0_3, .int .i64 a0_4, .int .i64 a0_5], .int .i64 a2] rfl (by (try simp only [List.map_toArray, List.map_cons, List.map_nil]); first | done | rfl | (simp only [List.length_drop, List.length_take]; rfl)) ?_; (with_reducible refine (derive_Move.calls a0_0 a0_1 a0_2 a0_3 a0_4 a0_5 a2 t333 t334 t335 t336 t337 t338 t339 _ A43.out).mono ?_); rintro e w76 ⟨rfl, hb⟩; refine ⟨_, rfl, ?_⟩; have n0_ := Aside0.mk (blk_below (g := gb298) (o := .cells #[.bool a0_0, .int .i64 a0_1, .int .i64 a0_2, .int .i64 a0_3, .int .i64 a0_4, .int .i64 a0_5] 23 (0, 0)) (by (with_reducible repeat (first | refine blk_drewN ?_ _ | refine blk_drew ?_ | refine blk_alloc ?_ _)); refine blk_far ?_ NB298_332.out _; (with_reducible repeat (first | refine blk_drewN ?_ _ | refine blk_drew ?_ | refine blk_alloc ?_ _)); refine blk_far ?_ NB298_332.out _; (with_reducible repeat (first | refine blk_drewN ?_ _ | refine blk_drew ?_ | refine blk_alloc ?_ _)); refine blk_far ?_ NB298_332.out _; (with_reducible repeat (first | refine blk_drewN ?_ _ | refine blk_drew ?_ | refine blk_alloc ?_ _)); refine blk_far ?_ NB298_332.out _; (with_reducible repeat (first | refine blk_drewN ?_ _ | refine blk_drew ?_ | refine blk_alloc ?_ _)); refine blk_far ?_ NB298_332.out _; (with_reducible repeat (first | refine blk_drewN ?_ _ | refine blk_drew ?_ | refine blk_alloc ?_ _)); refine blk_far ?_ NB298_332.out _; (with_reducible repeat (first | refine blk_drewN ?_ _ | refine blk_drew ?_ | refine blk_alloc ?_ _)); exact BK298.out) hb); have n1_ := Aside0.mk (blk_below (g := gb299) (o := .cells #[.bool a1_0, .int .i64 a1_1, .int .i64 a1_2, .int .i64 a1_3, .int .i64 a1_4, .int .i64 a1_5] 23 (0, 0)) (by (with_reducible repeat (first | refine blk_drewN ?_ _ | refine blk_drew ?_ | refine blk_alloc ?_ _)); refine blk_far ?_ NB299_332.out _; (with_reducible repeat (first | refine blk_drewN ?_ _ | refine blk_drew ?_ | refine blk_alloc ?_ _)); refine blk_far ?_ NB299_332.out _; (with_reducible repeat (first | refine blk_drewN ?_ _ | refine blk_drew ?_ | refine blk_alloc ?_ _)); refine blk_far ?_ NB299_332.out _; (with_reducible repeat (first | refine blk_drewN ?_ _ | refine blk_drew ?_ | refine blk_alloc ?_ _)); refine blk_far ?_ NB299_332.out _; (with_reducible repeat (first | refine blk_drewN ?_ _ | refine blk_drew ?_ | refine blk_alloc ?_ _)); refine blk_far ?_ NB299_332.out _; (with_reducible repeat (first | refine blk_drewN ?_ _ | refine blk_drew ?_ | refine blk_alloc ?_ _)); refine blk_far ?_ NB299_332.out _; (with_reducible repeat (first | refine blk_drewN ?_ _ | refine blk_drew ?_ | refine blk_alloc ?_ _)); exact BK299.out) hb); have n2_ := Aside0.mk (blk_below (g := gb308) (o := .cells #[.bool t301, .int .i64 t302, .int .i64 t303, .int .i64 t304, .int .i64 t305, .int .i64 t306] 23 (0, 0)) (by (with_reducible repeat (first | refine blk_drewN ?_ _ | refine blk_drew ?_ | refine blk_alloc ?_ _)); refine blk_far ?_ NB308_332.out _; (with_reducible repeat (first | refine blk_drewN ?_ _ | refine blk_drew ?_ | refine blk_alloc ?_ _)); refine blk_far ?_ NB308_332.out _; (with_reducible repeat (first | refine blk_drewN ?_ _ | refine blk_drew ?_ | refine blk_alloc ?_ _)); refine blk_far ?_ NB308_332.out _; (with_reducible repeat (first | refine blk_drewN ?_ _ | refine blk_drew ?_ | refine blk_alloc ?_ _)); refine blk_far ?_ NB308_332.out _; (with_reducible repeat (first | refine blk_drewN ?_ _ | refine blk_drew ?_ | refine blk_alloc ?_ _)); refine blk_far ?_ NB308_332.out _; (with_reducible repeat (first | refine blk_drewN ?_ _ | refine blk_drew ?_ | refine blk_alloc ?_ _)); refine blk_far ?_ NB308_332.out _; (with_reducible repeat (first | refine blk_drewN ?_ _ | refine blk_drew ?_ | refine blk_alloc ?_ _)); exact BK308.out) hb); have n3_ := Aside0.mk (blk_below (g := gb316) (o := .cells #[.bool t309, .int .i64 t310, .int .i64 t311, .int .i64 t312, .int .i64 t313, .int .i64 t314] 23 (0, 0)) (by (with_reducible repeat (first | refine blk_drewN ?_ _ | refine blk_drew ?_ | refine blk_alloc ?_ _)); refine blk_far ?_ NB316_332.out _; (with_reducible repeat (first | refine blk_drewN ?_ _ | refine blk_drew ?_ | refine blk_alloc ?_ _)); refine blk_far ?_ NB316_332.out _; (with_reducible repeat (first | refine blk_drewN ?_ _ | refine blk_drew ?_ | refine blk_alloc ?_ _)); refine blk_far ?_ NB316_332.out _; (with_reducible repeat (first | refine blk_drewN ?_ _ | refine blk_drew ?_ | refine blk_alloc ?_ _)); refine blk_far ?_ NB316_332.out _; (with_reducible repeat (first | refine blk_drewN ?_ _ | refine blk_drew ?_ | refine blk_alloc ?_ _)); refine blk_far ?_ NB316_332.out _; (with_reducible repeat (first | refine blk_drewN ?_ _ | refine blk_drew ?_ | refine blk_alloc ?_ _)); refine blk_far ?_ NB316_332.out _; (with_reducible repeat (first | refine blk_drewN ?_ _ | refine blk_drew ?_ | refine blk_alloc ?_ _)); exact BK316.out) hb); have n4_ := Aside0.mk (blk_below (g := gb324) (o := .cells #[.bool t317, .int .i64 t318, .int .i64 t319, .int .i64 t320, .int .i64 t321, .int .i64 t322] 23 (0, 0)) (by (with_reducible repeat (first | refine blk_drewN ?_ _ | refine blk_drew ?_ | refine blk_alloc ?_ _)); refine blk_far ?_ NB324_332.out _; (with_reducible repeat (first | refine blk_drewN ?_ _ | refine blk_drew ?_ | refine blk_alloc ?_ _)); refine blk_far ?_ NB324_332.out _; (with_reducible repeat (first | refine blk_drewN ?_ _ | refine blk_drew ?_ | refine blk_alloc ?_ _)); refine blk_far ?_ NB324_332.out _; (with_reducible repeat (first | refine blk_drewN ?_ _ | refine blk_drew ?_ | refine blk_alloc ?_ _)); refine blk_far ?_ NB324_332.out _; (with_reducible repeat (first | refine blk_drewN ?_ _ | refine blk_drew ?_ | refine blk_alloc ?_ _)); refine blk_far ?_ NB324_332.out _; (with_reducible repeat (first | refine blk_drewN ?_ _ | refine blk_drew ?_ | refine blk_alloc ?_ _)); refine blk_far ?_ NB324_332.out _; (with_reducible repeat (first | refine blk_drewN ?_ _ | refine blk_drew ?_ | refine blk_alloc ?_ _)); exact BK324.out) hb); have n5_ := Aside0.mk (blk_below (g := gb332) (o := .cells #[.bool t325, .int .i64 t326, .int .i64 t327, .int .i64 t328, .int .i64 t329, .int .i64 t330] 23 (0, 0)) (by (with_reducible repeat (first | refine blk_drewN ?_ _ | refine blk_drew ?_ | refine blk_alloc ?_ _)); refine blk_put (cs := #[.bool t325, .int .i64 t326, .int .i64 t327, .int .i64 t328, .int .i64 t329, .int .i64 0]) ?_ 5 _ rfl; refine blk_put (cs := #[.bool t325, .int .i64 t326, .int .i64 t327, .int .i64 t328, .int .i64 0, .int .i64 0]) ?_ 4 _ rfl; refine blk_put (cs := #[.bool t325, .int .i64 t326, .int .i64 t327, .int .i64 0, .int .i64 0, .int .i64 0]) ?_ 3 _ rfl; refine blk_put (cs := #[.bool t325, .int .i64 t326, .int .i64 0, .int .i64 0, .int .i64 0, .int .i64 0]) ?_ 2 _ rfl; refine blk_put (cs := #[.bool t325, .int .i64 0, .int .i64 0, .int .i64 0, .int .i64 0, .int .i64 0]) ?_ 1 _ rfl; refine blk_put (cs := #[.bool false, .int .i64 0, .int .i64 0, .int .i64 0, .int .i64 0, .int .i64 0]) ?_ 0 _ rfl; (with_reducible repeat (first | refine blk_drewN ?_ _ | refine blk_drew ?_ | refine blk_alloc ?_ _)); exact BK332.out) hb); have n6_ := q2_ HB hb; clear BK298; clear BK299; clear BK308; clear BK316; clear BK324; clear BK332; clear HB; have BK298 := n0_; have BK299 := n1_; have BK308 := n2_; have BK316 := n3_; have BK324 := n4_; have BK332 := n5_; have HB := n6_; clear n0_ n1_ n2_ n3_ n4_ n5_ n6_; (try clear hb); (try clear hb2); (try clear hk); (try clear hi)) | ((with_reducible refine gate_dst (N := 16) rfl ?_); refine box_event ?hg (N := 16) ?hd (cs := #[.bool false, .int .i64 0, .int .i64 0, .int .i64 0, .int .i64 0, .int .i64 0]) (t := 23) ?hr ?_; (case hd => rfl); (case hg => rfl); (case hr => first | (go_simp; done) | (go_simp; rfl)); intro gb340 hg w77 hbox hb; have n0_ := q1_ BK298 hb; have n1_ := q1_ BK299 hb; have n2_ := q1_ BK308 hb; have n3_ := q1_ BK316 hb; have n4_ := q1_ BK324 hb; have n5_ := q1_ BK332 hb; have n6_ := q2_ HB hb; have n7_ := Aside0.mk (hbox); have n8_ := q11_ HB hg; have n9_ := q11_ HB hg; have n10_ := q12_ BK298 hg; have n11_ := q13_ BK298 hg; have n12_ := q12_ BK299 hg; have n13_ := q13_ BK299 hg; have n14_ := q12_ BK308 hg; have n15_ := q13_ BK308 hg; have n16_ := q12_ BK316 hg; have n17_ := q13_ BK316 hg; have n18_ := q12_ BK324 hg; have n19_ := q13_ BK324 hg; have n20_ := q12_ BK332 hg; have n21_ := q13_ BK332 hg; clear BK298; clear BK299; clear BK308; clear BK316; clear BK324; clear BK332; clear HB; have BK298 := n0_; have BK299 := n1_; have BK308 := n2_; have BK316 := n3_; have BK324 := n4_; have BK332 := n5_; have HB := n6_; have BK340 := n7_; have GW340 := n8_; have GE340 := n9_; have NB298_340 := n10_; have NB340_298 := n11_; have NB299_340 := n12_; have NB340_299 := n13_; have NB308_340 := n14_; have NB340_308 := n15_; have NB316_340 := n16_; have NB340_316 := n17_; have NB324_340 := n18_; have NB340_324 := n19_; have NB332_340 := n20_; have NB340_332 := n21_; clear n0_ n1_ n2_ n3_ n4_ n5_ n6_ n7_ n8_ n9_ n10_ n11_ n12_ n13_ n14_ n15_ n16_ n17_ n18_ n19_ n20_ n21_; clear hb hbox hg; have hnb78 := NB340_298.out; have hnc78 := NB298_340.out; have hnb79 := NB340_299.out; have hnc79 := NB299_340.out; have hnb80 := NB340_308.out; have hnc80 := NB308_340.out; have hnb81 := NB340_316.out; have hnc81 := NB316_340.out; have hnb82 := NB340_324.out; have hnc82 := NB324_340.out; have hnb83 := NB340_332.out; have hnc83 := NB332_340.out; obtain ⟨hcz84_0, hcz84_1, hcz84_2, hcz84_3, hcz84_4, hcz84_5⟩ := q9_ BK340; obtain ⟨hfz84_0, hfz84_1, hfz84_2, hfz84_3, hfz84_4, hfz84_5⟩ := q10_ BK340; obtain ⟨hcz85_0, hcz85_1, hcz85_2, hcz85_3, hcz85_4, hcz85_5⟩ := q9_ BK298; obtain ⟨hfz85_0, hfz85_1, hfz85_2, hfz85_3, hfz85_4, hfz85_5⟩ := q10_ BK298) | ((with_reducible refine gate_callee (f := 16) rfl ?_); refine goesL_ (some 62) rfl rfl Try.func16 (by kernel_rfl) rfl #[.agg #[.bool a0_0, .int .i64 a0_1, .int .i64 a0_2, .int .i64 a0_3, .int .i64 a0_4, .int .i64 a0_5], .int .i64 a2] rfl (by (try simp only [List.map_toArray, List.map_cons, List.map_nil]); first | done | rfl | (simp only [List.length_drop, List.length_take]; rfl)) ?_; (with_reducible refine (seizinref04_Move.calls a0_0 a0_1 a0_2 a0_3 a0_4 a0_5 a2 t341 t342 t343 t344 t345 t346 t347 _ A44.out).mono ?_); rintro e w86 ⟨rfl, hb⟩; refine ⟨_, rfl, ?_⟩; have n0_ := Aside0.mk (blk_below (g := gb298) (o := .cells #[.bool a0_0, .int .i64 a0_1, .int .i64 a0_2, .int .i64 a0_3, .int .i64 a0_4, .int .i64 a0_5] 23 (0, 0)) (by (with_reducible repeat (first | refine blk_drewN ?_ _ | refine blk_drew ?_ | refine blk_alloc ?_ _)); refine blk_far ?_ NB298_340.out _; (with_reducible repeat (first | refine blk_drewN ?_ _ | refine blk_drew ?_ | refine blk_alloc ?_ _)); refine blk_far ?_ NB298_340.out _; (with_reducible repeat (first | refine blk_drewN ?_ _ | refine blk_drew ?_ | refine blk_alloc ?_ _)); refine blk_far ?_ NB298_340.out _; (with_reducible repeat (first | refine blk_drewN ?_ _ | refine blk_drew ?_ | refine blk_alloc ?_ _)); refine blk_far ?_ NB298_340.out _; (with_reducible repeat (first | refine blk_drewN ?_ _ | refine blk_drew ?_ | refine blk_alloc ?_ _)); refine blk_far ?_ NB298_340.out _; (with_reducible repeat (first | refine blk_drewN ?_ _ | refine blk_drew ?_ | refine blk_alloc ?_ _)); refine blk_far ?_ NB298_340.out _; (with_reducible repeat (first | refine blk_drewN ?_ _ | refine blk_drew ?_ | refine blk_alloc ?_ _)); exact BK298.out) hb); have n1_ := Aside0.mk (blk_below (g := gb299) (o := .cells #[.bool a1_0, .int .i64 a1_1, .int .i64 a1_2, .int .i64 a1_3, .int .i64 a1_4, .int .i64 a1_5] 23 (0, 0)) (by (with_reducible repeat (first | refine blk_drewN ?_ _ | refine blk_drew ?_ | refine blk_alloc ?_ _)); refine blk_far ?_ NB299_340.out _; (with_reducible repeat (first | refine blk_drewN ?_ _ | refine blk_drew ?_ | refine blk_alloc ?_ _)); refine blk_far ?_ NB299_340.out _; (with_reducible repeat (first | refine blk_drewN ?_ _ | refine blk_drew ?_ | refine blk_alloc ?_ _)); refine blk_far ?_ NB299_340.out _; (with_reducible repeat (first | refine blk_drewN ?_ _ | refine blk_drew ?_ | refine blk_alloc ?_ _)); refine blk_far ?_ NB299_340.out _; (with_reducible repeat (first | refine blk_drewN ?_ _ | refine blk_drew ?_ | refine blk_alloc ?_ _)); refine blk_far ?_ NB299_340.out _; (with_reducible repeat (first | refine blk_drewN ?_ _ | refine blk_drew ?_ | refine blk_alloc ?_ _)); refine blk_far ?_ NB299_340.out _; (with_reducible repeat (first | refine blk_drewN ?_ _ | refine blk_drew ?_ | refine blk_alloc ?_ _)); exact BK299.out) hb); have n2_ := Aside0.mk (blk_below (g := gb308) (o := .cells #[.bool t301, .int .i64 t302, .int .i64 t303, .int .i64 t304, .int .i64 t305, .int .i64 t306] 23 (0, 0)) (by (with_reducible repeat (first | refine blk_drewN ?_ _ | refine blk_drew ?_ | refine blk_alloc ?_ _)); refine blk_far ?_ NB308_340.out _; (with_reducible repeat (first | refine blk_drewN ?_ _ | refine blk_drew ?_ | refine blk_alloc ?_ _)); refine blk_far ?_ NB308_340.out _; (with_reducible repeat (first | refine blk_drewN ?_ _ | refine blk_drew ?_ | refine blk_alloc ?_ _)); refine blk_far ?_ NB308_340.out _; (with_reducible repeat (first | refine blk_drewN ?_ _ | refine blk_drew ?_ | refine blk_alloc ?_ _)); refine blk_far ?_ NB308_340.out _; (with_reducible repeat (first | refine blk_drewN ?_ _ | refine blk_drew ?_ | refine blk_alloc ?_ _)); refine blk_far ?_ NB308_340.out _; (with_reducible repeat (first | refine blk_drewN ?_ _ | refine blk_drew ?_ | refine blk_alloc ?_ _)); refine blk_far ?_ NB308_340.out _; (with_reducible repeat (first | refine blk_drewN ?_ _ | refine blk_drew ?_ | refine blk_alloc ?_ _)); exact BK308.out) hb); have n3_ := Aside0.mk (blk_below (g := gb316) (o := .cells #[.bool t309, .int .i64 t310, .int .i64 t311, .int .i64 t312, .int .i64 t313, .int .i64 t314] 23 (0, 0)) (by (with_reducible repeat (first | refine blk_drewN ?_ _ | refine blk_drew ?_ | refine blk_alloc ?_ _)); refine blk_far ?_ NB316_340.out _; (with_reducible repeat (first | refine blk_drewN ?_ _ | refine blk_drew ?_ | refine blk_alloc ?_ _)); refine blk_far ?_ NB316_340.out _; (with_reducible repeat (first | refine blk_drewN ?_ _ | refine blk_drew ?_ | refine blk_alloc ?_ _)); refine blk_far ?_ NB316_340.out _; (with_reducible repeat (first | refine blk_drewN ?_ _ | refine blk_drew ?_ | refine blk_alloc ?_ _)); refine blk_far ?_ NB316_340.out _; (with_reducible repeat (first | refine blk_drewN ?_ _ | refine blk_drew ?_ | refine blk_alloc ?_ _)); refine blk_far ?_ NB316_340.out _; (with_reducible repeat (first | refine blk_drewN ?_ _ | refine blk_drew ?_ | refine blk_alloc ?_ _)); refine blk_far ?_ NB316_340.out _; (with_reducible repeat (first | refine blk_drewN ?_ _ | refine blk_drew ?_ | refine blk_alloc ?_ _)); exact BK316.out) hb); have n4_ := Aside0.mk (blk_below (g := gb324) (o := .cells #[.bool t317, .int .i64 t318, .int .i64 t319, .int .i64 t320, .int .i64 t321, .int .i64 t322] 23 (0, 0)) (by (with_reducible repeat (first | refine blk_drewN ?_ _ | refine blk_drew ?_ | refine blk_alloc ?_ _)); refine blk_far ?_ NB324_340.out _; (with_reducible repeat (first | refine blk_drewN ?_ _ | refine blk_drew ?_ | refine blk_alloc ?_ _)); refine blk_far ?_ NB324_340.out _; (with_reducible repeat (first | refine blk_drewN ?_ _ | refine blk_drew ?_ | refine blk_alloc ?_ _)); refine blk_far ?_ NB324_340.out _; (with_reducible repeat (first | refine blk_drewN ?_ _ | refine blk_drew ?_ | refine blk_alloc ?_ _)); refine blk_far ?_ NB324_340.out _; (with_reducible repeat (first | refine blk_drewN ?_ _ | refine blk_drew ?_ | refine blk_alloc ?_ _)); refine blk_far ?_ NB324_340.out _; (with_reducible repeat (first | refine blk_drewN ?_ _ | refine blk_drew ?_ | refine blk_alloc ?_ _)); refine blk_far ?_ NB324_340.out _; (with_reducible repeat (first | refine blk_drewN ?_ _ | refine blk_drew ?_ | refine blk_alloc ?_ _)); exact BK324.out) hb); have n5_ := Aside0.mk (blk_below (g := gb332) (o := .cells #[.bool t325, .int .i64 t326, .int .i64 t327, .int .i64 t328, .int .i64 t329, .int .i64 t330] 23 (0, 0)) (by (with_reducible repeat (first | refine blk_drewN ?_ _ | refine blk_drew ?_ | refine blk_alloc ?_ _)); refine blk_far ?_ NB332_340.out _; (with_reducible repeat (first | refine blk_drewN ?_ _ | refine blk_drew ?_ | refine blk_alloc ?_ _)); refine blk_far ?_ NB332_340.out _; (with_reducible repeat (first | refine blk_drewN ?_ _ | refine blk_drew ?_ | refine blk_alloc ?_ _)); refine blk_far ?_ NB332_340.out _; (with_reducible repeat (first | refine blk_drewN ?_ _ | refine blk_drew ?_ | refine blk_alloc ?_ _)); refine blk_far ?_ NB332_340.out _; (with_reducible repeat (first | refine blk_drewN ?_ _ | refine blk_drew ?_ | refine blk_alloc ?_ _)); refine blk_far ?_ NB332_340.out _; (with_reducible repeat (first | refine blk_drewN ?_ _ | refine blk_drew ?_ | refine blk_alloc ?_ _)); refine blk_far ?_ NB332_340.out _; (with_reducible repeat (first | refine blk_drewN ?_ _ | refine blk_drew ?_ | refine blk_alloc ?_ _)); exact BK332.out) hb); have n6_ := Aside0.mk (blk_below (g := gb340) (o := .cells #[.bool t333, .int .i64 t334, .int .i64 t335, .int .i64 t336, .int .i64 t337, .int .i64 t338] 23 (0, 0)) (by (with_reducible repeat (first | refine blk_drewN ?_ _ | refine blk_drew ?_ | refine blk_alloc ?_ _)); refine blk_put (cs := #[.bool t333, .int .i64 t334, .int .i64 t335, .int .i64 t336, .int .i64 t337, .int .i64 0]) ?_ 5 _ rfl; refine blk_put (cs := #[.bool t333, .int .i64 t334, .int .i64 t335, .int .i64 t336, .int .i64 0, .int .i64 0]) ?_ 4 _ rfl; refine blk_put (cs := #[.bool t333, .int .i64 t334, .int .i64 t335, .int .i64 0, .int .i64 0, .int .i64 0]) ?_ 3 _ rfl; refine blk_put (cs := #[.bool t333, .int .i64 t334, .int .i64 0, .int .i64 0, .int .i64 0, .int .i64 0]) ?_ 2 _ rfl; refine blk_put (cs := #[.bool t333, .int .i64 0, .int .i64 0, .int .i64 0, .int .i64 0, .int .i64 0]) ?_ 1 _ rfl; refine blk_put (cs := #[.bool false, .int .i64 0, .int .i64 0, .int .i64 0, .int .i64 0, .int .i64 0]) ?_ 0 _ rfl; (with_reducible repeat (first | refine blk_drewN ?_ _ | refine blk_drew ?_ | refine blk_alloc ?_ _)); exact BK340.out) hb); have n7_ := q2_ HB hb; clear BK298; clear BK299; clear BK308; clear BK316; clear BK324; clear BK332; clear BK340; clear HB; have BK298 := n0_; have BK299 := n1_; have BK308 := n2_; have BK316 := n3_; have BK324 := n4_; have BK332 := n5_; have BK340 := n6_; have HB := n7_; clear n0_ n1_ n2_ n3_ n4_ n5_ n6_ n7_; (try clear hb); (try clear hb2); (try clear hk); (try clear hi)) | ((with_reducible refine gate_dst (N := 18) rfl ?_); refine box_event ?hg (N := 18) ?hd (cs := #[.bool false, .int .i64 0, .int .i64 0, .int .i64 0, .int .i64 0, .int .i64 0]) (t := 23) ?hr ?_; (case hd => rfl); (case hg => rfl); (case hr => first | (go_simp; done) | (go_simp; rfl)); intro gb348 hg w87 hbox hb; have n0_ := q1_ BK298 hb; have n1_ := q1_ BK299 hb; have n2_ := q1_ BK308 hb; have n3_ := q1_ BK316 hb; have n4_ := q1_ BK324 hb; have n5_ := q1_ BK332 hb; have n6_ := q1_ BK340 hb; have n7_ := q2_ HB hb; have n8_ := Aside0.mk (hbox); have n9_ := q11_ HB hg; have n10_ := q11_ HB hg; have n11_ := q12_ BK298 hg; have n12_ := q13_ BK298 hg; have n13_ := q12_ BK299 hg; have n14_ := q13_ BK299 hg; have n15_ := q12_ BK308 hg; have n16_ := q13_ BK308 hg; have n17_ := q12_ BK316 hg; have n18_ := q13_ BK316 hg; have n19_ := q12_ BK324 hg; have n20_ := q13_ BK324 hg; have n21_ := q12_ BK332 hg; have n22_ := q13_ BK332 hg; have n23_ := q12_ BK340 hg; have n24_ := q13_ BK340 hg; clear BK298; clear BK299; clear BK308; clear BK316; clear BK324; clear BK332; clear BK340; clear HB; have BK298 := n0_; have BK299 := n1_; have BK308 := n2_; have BK316 := n3_; have BK324 := n4_; have BK332 := n5_; have BK340 := n6_; have HB := n7_; have BK348 := n8_; have GW348 := n9_; have GE348 := n10_; have NB298_348 := n11_; have NB348_298 := n12_; have NB299_348 := n13_; have NB348_299 := n14_; have NB308_348 := n15_; have NB348_308 := n16_; have NB316_348 := n17_; have NB348_316 := n18_; have NB324_348 := n19_; have NB348_324 := n20_; have NB332_348 := n21_; have NB348_332 := n22_; have NB340_348 := n23_; have NB348_340 := n24_; clear n0_ n1_ n2_ n3_ n4_ n5_ n6_ n7_ n8_ n9_ n10_ n11_ n12_ n13_ n14_ n15_ n16_ n17_ n18_ n19_ n20_ n21_ n22_ n23_ n24_; clear hb hbox hg; have hnb88 := NB348_298.out; have hnc88 := NB298_348.out; have hnb89 := NB348_299.out; have hnc89 := NB299_348.out; have hnb90 := NB348_308.out; have hnc90 := NB308_348.out; have hnb91 := NB348_316.out; have hnc91 := NB316_348.out; have hnb92 := NB348_324.out; have hnc92 := NB324_348.out; have hnb93 := NB348_332.out; have hnc93 := NB332_348.out; have hnb94 := NB348_340.out; have hnc94 := NB340_348.out; obtain ⟨hcz95_0, hcz95_1, hcz95_2, hcz95_3, hcz95_4, hcz95_5⟩ := q9_ BK348; obtain ⟨hfz95_0, hfz95_1, hfz95_2, hfz95_3, hfz95_4, hfz95_5⟩ := q10_ BK348))
          have n0_ : Aside0 (((((((w87.setCell ⟨gb348, 0, none⟩ (.bool t341)).setCell ⟨gb348, 1, none⟩ (.int .i64 t342)).setCell ⟨gb348, 2, none⟩ (.int .i64 t343)).setCell ⟨gb348, 3, none⟩ (.int .i64 t344)).setCell ⟨gb348, 4, none⟩ (.int .i64 t345)).setCell ⟨gb348, 5, none⟩ (.int .i64 t346)).heap[gb298]? = some (.cells #[.bool a0_0, .int .i64 a0_1, .int .i64 a0_2, .int .i64 a0_3, .int .i64 a0_4, .int .i64 a0_5] 23 (0, 0))) := ⟨by (with_reducible repeat (first | refine blk_drewN ?_ _ | refine blk_drew ?_ | refine blk_alloc ?_ _)); refine blk_far ?_ NB298_348.out _; (with_reducible repeat (first | refine blk_drewN ?_ _ | refine blk_drew ?_ | refine blk_alloc ?_ _)); refine blk_far ?_ NB298_348.out _; (with_reducible repeat (first | refine blk_drewN ?_ _ | refine blk_drew ?_ | refine blk_alloc ?_ _)); refine blk_far ?_ NB298_348.out _; (with_reducible repeat (first | refine blk_drewN ?_ _ | refine blk_drew ?_ | refine blk_alloc ?_ _)); refine blk_far ?_ NB298_348.out _; (with_reducible repeat (first | refine blk_drewN ?_ _ | refine blk_drew ?_ | refine blk_alloc ?_ _)); refine blk_far ?_ NB298_348.out _; (with_reducible repeat (first | refine blk_drewN ?_ _ | refine blk_drew ?_ | refine blk_alloc ?_ _)); refine blk_far ?_ NB298_348.out _; (with_reducible repeat (first | refine blk_drewN ?_ _ | refine blk_drew ?_ | refine blk_alloc ?_ _)); exact BK298.out⟩
          have n1_ : Aside0 (((((((w87.setCell ⟨gb348, 0, none⟩ (.bool t341)).setCell ⟨gb348, 1, none⟩ (.int .i64 t342)).setCell ⟨gb348, 2, none⟩ (.int .i64 t343)).setCell ⟨gb348, 3, none⟩ (.int .i64 t344)).setCell ⟨gb348, 4, none⟩ (.int .i64 t345)).setCell ⟨gb348, 5, none⟩ (.int .i64 t346)).heap[gb299]? = some (.cells #[.bool a1_0, .int .i64 a1_1, .int .i64 a1_2, .int .i64 a1_3, .int .i64 a1_4, .int .i64 a1_5] 23 (0, 0))) := ⟨by (with_reducible repeat (first | refine blk_drewN ?_ _ | refine blk_drew ?_ | refine blk_alloc ?_ _)); refine blk_far ?_ NB299_348.out _; (with_reducible repeat (first | refine blk_drewN ?_ _ | refine blk_drew ?_ | refine blk_alloc ?_ _)); refine blk_far ?_ NB299_348.out _; (with_reducible repeat (first | refine blk_drewN ?_ _ | refine blk_drew ?_ | refine blk_alloc ?_ _)); refine blk_far ?_ NB299_348.out _; (with_reducible repeat (first | refine blk_drewN ?_ _ | refine blk_drew ?_ | refine blk_alloc ?_ _)); refine blk_far ?_ NB299_348.out _; (with_reducible repeat (first | refine blk_drewN ?_ _ | refine blk_drew ?_ | refine blk_alloc ?_ _)); refine blk_far ?_ NB299_348.out _; (with_reducible repeat (first | refine blk_drewN ?_ _ | refine blk_drew ?_ | refine blk_alloc ?_ _)); refine blk_far ?_ NB299_348.out _; (with_reducible repeat (first | refine blk_drewN ?_ _ | refine blk_drew ?_ | refine blk_alloc ?_ _)); exact BK299.out⟩
          have n2_ : Aside0 (((((((w87.setCell ⟨gb348, 0, none⟩ (.bool t341)).setCell ⟨gb348, 1, none⟩ (.int .i64 t342)).setCell ⟨gb348, 2, none⟩ (.int .i64 t343)).setCell ⟨gb348, 3, none⟩ (.int .i64 t344)).setCell ⟨gb348, 4, none⟩ (.int .i64 t345)).setCell ⟨gb348, 5, none⟩ (.int .i64 t346)).heap[gb308]? = some (.cells #[.bool t301, .int .i64 t302, .int .i64 t303, .int .i64 t304, .int .i64 t305, .int .i64 t306] 23 (0, 0))) := ⟨by (with_reducible repeat (first | refine blk_drewN ?_ _ | refine blk_drew ?_ | refine blk_alloc ?_ _)); refine blk_far ?_ NB308_348.out _; (with_reducible repeat (first | refine blk_drewN ?_ _ | refine blk_drew ?_ | refine blk_alloc ?_ _)); refine blk_far ?_ NB308_348.out _; (with_reducible repeat (first | refine blk_drewN ?_ _ | refine blk_drew ?_ | refine blk_alloc ?_ _)); refine blk_far ?_ NB308_348.out _; (with_reducible repeat (first | refine blk_drewN ?_ _ | refine blk_drew ?_ | refine blk_alloc ?_ _)); refine blk_far ?_ NB308_348.out _; (with_reducible repeat (first | refine blk_drewN ?_ _ | refine blk_drew ?_ | refine blk_alloc ?_ _)); refine blk_far ?_ NB308_348.out _; (with_reducible repeat (first | refine blk_drewN ?_ _ | refine blk_drew ?_ | refine blk_alloc ?_ _)); refine blk_far ?_ NB308_348.out _; (with_reducible repeat (first | refine blk_drewN ?_ _ | refine blk_drew ?_ | refine blk_alloc ?_ _)); exact BK308.out⟩
          have n3_ : Aside0 (((((((w87.setCell ⟨gb348, 0, none⟩ (.bool t341)).setCell ⟨gb348, 1, none⟩ (.int .i64 t342)).setCell ⟨gb348, 2, none⟩ (.int .i64 t343)).setCell ⟨gb348, 3, none⟩ (.int .i64 t344)).setCell ⟨gb348, 4, none⟩ (.int .i64 t345)).setCell ⟨gb348, 5, none⟩ (.int .i64 t346)).heap[gb316]? = some (.cells #[.bool t309, .int .i64 t310, .int .i64 t311, .int .i64 t312, .int .i64 t313, .int .i64 t314] 23 (0, 0))) := ⟨by (with_reducible repeat (first | refine blk_drewN ?_ _ | refine blk_drew ?_ | refine blk_alloc ?_ _)); refine blk_far ?_ NB316_348.out _; (with_reducible repeat (first | refine blk_drewN ?_ _ | refine blk_drew ?_ | refine blk_alloc ?_ _)); refine blk_far ?_ NB316_348.out _; (with_reducible repeat (first | refine blk_drewN ?_ _ | refine blk_drew ?_ | refine blk_alloc ?_ _)); refine blk_far ?_ NB316_348.out _; (with_reducible repeat (first | refine blk_drewN ?_ _ | refine blk_drew ?_ | refine blk_alloc ?_ _)); refine blk_far ?_ NB316_348.out _; (with_reducible repeat (first | refine blk_drewN ?_ _ | refine blk_drew ?_ | refine blk_alloc ?_ _)); refine blk_far ?_ NB316_348.out _; (with_reducible repeat (first | refine blk_drewN ?_ _ | refine blk_drew ?_ | refine blk_alloc ?_ _)); refine blk_far ?_ NB316_348.out _; (with_reducible repeat (first | refine blk_drewN ?_ _ | refine blk_drew ?_ | refine blk_alloc ?_ _)); exact BK316.out⟩
          have n4_ : Aside0 (((((((w87.setCell ⟨gb348, 0, none⟩ (.bool t341)).setCell ⟨gb348, 1, none⟩ (.int .i64 t342)).setCell ⟨gb348, 2, none⟩ (.int .i64 t343)).setCell ⟨gb348, 3, none⟩ (.int .i64 t344)).setCell ⟨gb348, 4, none⟩ (.int .i64 t345)).setCell ⟨gb348, 5, none⟩ (.int .i64 t346)).heap[gb324]? = some (.cells #[.bool t317, .int .i64 t318, .int .i64 t319, .int .i64 t320, .int .i64 t321, .int .i64 t322] 23 (0, 0))) := ⟨by (with_reducible repeat (first | refine blk_drewN ?_ _ | refine blk_drew ?_ | refine blk_alloc ?_ _)); refine blk_far ?_ NB324_348.out _; (with_reducible repeat (first | refine blk_drewN ?_ _ | refine blk_drew ?_ | refine blk_alloc ?_ _)); refine blk_far ?_ NB324_348.out _; (with_reducible repeat (first | refine blk_drewN ?_ _ | refine blk_drew ?_ | refine blk_alloc ?_ _)); refine blk_far ?_ NB324_348.out _; (with_reducible repeat (first | refine blk_drewN ?_ _ | refine blk_drew ?_ | refine blk_alloc ?_ _)); refine blk_far ?_ NB324_348.out _; (with_reducible repeat (first | refine blk_drewN ?_ _ | refine blk_drew ?_ | refine blk_alloc ?_ _)); refine blk_far ?_ NB324_348.out _; (with_reducible repeat (first | refine blk_drewN ?_ _ | refine blk_drew ?_ | refine blk_alloc ?_ _)); refine blk_far ?_ NB324_348.out _; (with_reducible repeat (first | refine blk_drewN ?_ _ | refine blk_drew ?_ | refine blk_alloc ?_ _)); exact BK324.out⟩
          have n5_ : Aside0 (((((((w87.setCell ⟨gb348, 0, none⟩ (.bool t341)).setCell ⟨gb348, 1, none⟩ (.int .i64 t342)).setCell ⟨gb348, 2, none⟩ (.int .i64 t343)).setCell ⟨gb348, 3, none⟩ (.int .i64 t344)).setCell ⟨gb348, 4, none⟩ (.int .i64 t345)).setCell ⟨gb348, 5, none⟩ (.int .i64 t346)).heap[gb332]? = some (.cells #[.bool t325, .int .i64 t326, .int .i64 t327, .int .i64 t328, .int .i64 t329, .int .i64 t330] 23 (0, 0))) := ⟨by (with_reducible repeat (first | refine blk_drewN ?_ _ | refine blk_drew ?_ | refine blk_alloc ?_ _)); refine blk_far ?_ NB332_348.out _; (with_reducible repeat (first | refine blk_drewN ?_ _ | refine blk_drew ?_ | refine blk_alloc ?_ _)); refine blk_far ?_ NB332_348.out _; (with_reducible repeat (first | refine blk_drewN ?_ _ | refine blk_drew ?_ | refine blk_alloc ?_ _)); refine blk_far ?_ NB332_348.out _; (with_reducible repeat (first | refine blk_drewN ?_ _ | refine blk_drew ?_ | refine blk_alloc ?_ _)); refine blk_far ?_ NB332_348.out _; (with_reducible repeat (first | refine blk_drewN ?_ _ | refine blk_drew ?_ | refine blk_alloc ?_ _)); refine blk_far ?_ NB332_348.out _; (with_reducible repeat (first | refine blk_drewN ?_ _ | refine blk_drew ?_ | refine blk_alloc ?_ _)); refine blk_far ?_ NB332_348.out _; (with_reducible repeat (first | refine blk_drewN ?_ _ | refine blk_drew ?_ | refine blk_alloc ?_ _)); exact BK332.out⟩
          have n6_ : Aside0 (((((((w87.setCell ⟨gb348, 0, none⟩ (.bool t341)).setCell ⟨gb348, 1, none⟩ (.int .i64 t342)).setCell ⟨gb348, 2, none⟩ (.int .i64 t343)).setCell ⟨gb348, 3, none⟩ (.int .i64 t344)).setCell ⟨gb348, 4, none⟩ (.int .i64 t345)).setCell ⟨gb348, 5, none⟩ (.int .i64 t346)).heap[gb340]? = some (.cells #[.bool t333, .int .i64 t334, .int .i64 t335, .int .i64 t336, .int .i64 t337, .int .i64 t338] 23 (0, 0))) := ⟨by (with_reducible repeat (first | refine blk_drewN ?_ _ | refine blk_drew ?_ | refine blk_alloc ?_ _)); refine blk_far ?_ NB340_348.out _; (with_reducible repeat (first | refine blk_drewN ?_ _ | refine blk_drew ?_ | refine blk_alloc ?_ _)); refine blk_far ?_ NB340_348.out _; (with_reducible repeat (first | refine blk_drewN ?_ _ | refine blk_drew ?_ | refine blk_alloc ?_ _)); refine blk_far ?_ NB340_348.out _; (with_reducible repeat (first | refine blk_drewN ?_ _ | refine blk_drew ?_ | refine blk_alloc ?_ _)); refine blk_far ?_ NB340_348.out _; (with_reducible repeat (first | refine blk_drewN ?_ _ | refine blk_drew ?_ | refine blk_alloc ?_ _)); refine blk_far ?_ NB340_348.out _; (with_reducible repeat (first | refine blk_drewN ?_ _ | refine blk_drew ?_ | refine blk_alloc ?_ _)); refine blk_far ?_ NB340_348.out _; (with_reducible repeat (first | refine blk_drewN ?_ _ | refine blk_drew ?_ | refine blk_alloc ?_ _)); exact BK340.out⟩
          have n7_ : Aside0 (((((((w87.setCell ⟨gb348, 0, none⟩ (.bool t341)).setCell ⟨gb348, 1, none⟩ (.int .i64 t342)).setCell ⟨gb348, 2, none⟩ (.int .i64 t343)).setCell ⟨gb348, 3, none⟩ (.int .i64 t344)).setCell ⟨gb348, 4, none⟩ (.int .i64 t345)).setCell ⟨gb348, 5, none⟩ (.int .i64 t346)).heap[gb348]? = some (.cells #[.bool t341, .int .i64 t342, .int .i64 t343, .int .i64 t344, .int .i64 t345, .int .i64 t346] 23 (0, 0))) := ⟨by (with_reducible repeat (first | refine blk_drewN ?_ _ | refine blk_drew ?_ | refine blk_alloc ?_ _)); refine blk_put (cs := #[.bool t341, .int .i64 t342, .int .i64 t343, .int .i64 t344, .int .i64 t345, .int .i64 0]) ?_ 5 _ rfl; refine blk_put (cs := #[.bool t341, .int .i64 t342, .int .i64 t343, .int .i64 t344, .int .i64 0, .int .i64 0]) ?_ 4 _ rfl; refine blk_put (cs := #[.bool t341, .int .i64 t342, .int .i64 t343, .int .i64 0, .int .i64 0, .int .i64 0]) ?_ 3 _ rfl; refine blk_put (cs := #[.bool t341, .int .i64 t342, .int .i64 0, .int .i64 0, .int .i64 0, .int .i64 0]) ?_ 2 _ rfl; refine blk_put (cs := #[.bool t341, .int .i64 0, .int .i64 0, .int .i64 0, .int .i64 0, .int .i64 0]) ?_ 1 _ rfl; refine blk_put (cs := #[.bool false, .int .i64 0, .int .i64 0, .int .i64 0, .int .i64 0, .int .i64 0]) ?_ 0 _ rfl; (with_reducible repeat (first | refine blk_drewN ?_ _ | refine blk_drew ?_ | refine blk_alloc ?_ _)); exact BK348.out⟩
          have n8_ : Aside0 (Below w.heap.size w ((((((w87.setCell ⟨gb348, 0, none⟩ (.bool t341)).setCell ⟨gb348, 1, none⟩ (.int .i64 t342)).setCell ⟨gb348, 2, none⟩ (.int .i64 t343)).setCell ⟨gb348, 3, none⟩ (.int .i64 t344)).setCell ⟨gb348, 4, none⟩ (.int .i64 t345)).setCell ⟨gb348, 5, none⟩ (.int .i64 t346))) := ⟨by repeat (first | (with_reducible first | exact HB.out | apply below_alloc | apply pw_below_drewN | apply below_drew1 | refine below_set ?_ GE298.out | refine below_set ?_ GE299.out | refine below_set ?_ GE308.out | refine below_set ?_ GE316.out | refine below_set ?_ GE324.out | refine below_set ?_ GE332.out | refine below_set ?_ GE340.out | refine below_set ?_ GE348.out) | exact HB.out)⟩
          (try clear BK298)
          (try clear BK299)
          (try clear BK308)
          (try clear BK316)
          (try clear BK324)
          (try clear BK332)
          (try clear BK340)
          (try clear BK348)
          (try clear HB)
          generalize ((((((w87.setCell ⟨gb348, 0, none⟩ (.bool t341)).setCell ⟨gb348, 1, none⟩ (.int .i64 t342)).setCell ⟨gb348, 2, none⟩ (.int .i64 t343)).setCell ⟨gb348, 3, none⟩ (.int .i64 t344)).setCell ⟨gb348, 4, none⟩ (.int .i64 t345)).setCell ⟨gb348, 5, none⟩ (.int .i64 t346)) = w96 at n0_ n1_ n2_ n3_ n4_ n5_ n6_ n7_ n8_ ⊢
          have BK298 := n0_
          have BK299 := n1_
          have BK308 := n2_
          have BK316 := n3_
          have BK324 := n4_
          have BK332 := n5_
          have BK340 := n6_
          have BK348 := n7_
          have HB := n8_
          clear n0_ n1_ n2_ n3_ n4_ n5_ n6_ n7_ n8_
          have n0_ := Aside0.mk (blk_drew BK298.out)
          have n1_ := Aside0.mk (blk_drew BK299.out)
          have n2_ := Aside0.mk (blk_drew BK308.out)
          have n3_ := Aside0.mk (blk_drew BK316.out)
          have n4_ := Aside0.mk (blk_drew BK324.out)
          have n5_ := Aside0.mk (blk_drew BK332.out)
          have n6_ := Aside0.mk (blk_drew BK340.out)
          have n7_ := Aside0.mk (blk_drew BK348.out)
          have n8_ := Aside0.mk (below_drew1 HB.out)
          clear BK298
          clear BK299
          clear BK308
          clear BK316
          clear BK324
          clear BK332
          clear BK340
          clear BK348
          clear HB
          have BK298 := n0_
          have BK299 := n1_
          have BK308 := n2_
          have BK316 := n3_
          have BK324 := n4_
          have BK332 := n5_
          have BK340 := n6_
          have BK348 := n7_
          have HB := n8_
          clear n0_ n1_ n2_ n3_ n4_ n5_ n6_ n7_ n8_
          refine start_ (n := 36) (S := fun w' => w'.cell? ⟨gb324, 0, none⟩ = some (.bool t317) ∧ w'.cell? ⟨gb324, 1, none⟩ = some (.int .i64 t318) ∧ w'.cell? ⟨gb324, 2, none⟩ = some (.int .i64 t319) ∧ w'.cell? ⟨gb324, 3, none⟩ = some (.int .i64 t320) ∧ w'.cell? ⟨gb324, 4, none⟩ = some (.int .i64 t321) ∧ w'.cell? ⟨gb324, 5, none⟩ = some (.int .i64 t322) ∧ w'.cell? ⟨gb332, 0, none⟩ = some (.bool t325) ∧ w'.cell? ⟨gb332, 1, none⟩ = some (.int .i64 t326) ∧ w'.cell? ⟨gb332, 2, none⟩ = some (.int .i64 t327) ∧ w'.cell? ⟨gb332, 3, none⟩ = some (.int .i64 t328) ∧ w'.cell? ⟨gb332, 4, none⟩ = some (.int .i64 t329) ∧ w'.cell? ⟨gb332, 5, none⟩ = some (.int .i64 t330) ∧ w'.cell? ⟨gb340, 0, none⟩ = some (.bool t333) ∧ w'.cell? ⟨gb340, 1, none⟩ = some (.int .i64 t334) ∧ w'.cell? ⟨gb340, 2, none⟩ = some (.int .i64 t335) ∧ w'.cell? ⟨gb340, 3, none⟩ = some (.int .i64 t336) ∧ w'.cell? ⟨gb340, 4, none⟩ = some (.int .i64 t337) ∧ w'.cell? ⟨gb340, 5, none⟩ = some (.int .i64 t338) ∧ w'.cell? ⟨gb348, 0, none⟩ = some (.bool t341) ∧ w'.cell? ⟨gb348, 1, none⟩ = some (.int .i64 t342) ∧ w'.cell? ⟨gb348, 2, none⟩ = some (.int .i64 t343) ∧ w'.cell? ⟨gb348, 3, none⟩ = some (.int .i64 t344) ∧ w'.cell? ⟨gb348, 4, none⟩ = some (.int .i64 t345) ∧ w'.cell? ⟨gb348, 5, none⟩ = some (.int .i64 t346) ∧ w'.cell? ⟨gb298, 0, none⟩ = some (.bool a0_0) ∧ w'.cell? ⟨gb298, 1, none⟩ = some (.int .i64 a0_1) ∧ w'.cell? ⟨gb298, 2, none⟩ = some (.int .i64 a0_2) ∧ w'.cell? ⟨gb298, 3, none⟩ = some (.int .i64 a0_3) ∧ w'.cell? ⟨gb298, 4, none⟩ = some (.int .i64 a0_4) ∧ w'.cell? ⟨gb298, 5, none⟩ = some (.int .i64 a0_5) ∧ w'.cell? ⟨gb299, 0, none⟩ = some (.bool a1_0) ∧ w'.cell? ⟨gb299, 1, none⟩ = some (.int .i64 a1_1) ∧ w'.cell? ⟨gb299, 2, none⟩ = some (.int .i64 a1_2) ∧ w'.cell? ⟨gb299, 3, none⟩ = some (.int .i64 a1_3) ∧ w'.cell? ⟨gb299, 4, none⟩ = some (.int .i64 a1_4) ∧ w'.cell? ⟨gb299, 5, none⟩ = some (.int .i64 a1_5)) (ds := []) m19_0 (by kernel_rfl) rfl rfl ⟨q7_ BK324 0 rfl, q7_ BK324 1 rfl, q7_ BK324 2 rfl, q7_ BK324 3 rfl, q7_ BK324 4 rfl, q7_ BK324 5 rfl, q7_ BK332 0 rfl, q7_ BK332 1 rfl, q7_ BK332 2 rfl, q7_ BK332 3 rfl, q7_ BK332 4 rfl, q7_ BK332 5 rfl, q7_ BK340 0 rfl, q7_ BK340 1 rfl, q7_ BK340 2 rfl, q7_ BK340 3 rfl, q7_ BK340 4 rfl, q7_ BK340 5 rfl, q7_ BK348 0 rfl, q7_ BK348 1 rfl, q7_ BK348 2 rfl, q7_ BK348 3 rfl, q7_ BK348 4 rfl, q7_ BK348 5 rfl, q7_ BK298 0 rfl, q7_ BK298 1 rfl, q7_ BK298 2 rfl, q7_ BK298 3 rfl, q7_ BK298 4 rfl, q7_ BK298 5 rfl, q7_ BK299 0 rfl, q7_ BK299 1 rfl, q7_ BK299 2 rfl, q7_ BK299 3 rfl, q7_ BK299 4 rfl, q7_ BK299 5 rfl⟩ (fun hHeld => ?_); refine with_tabW seizinlaw04_DeriveTells.tab10 seizinlaw04_DeriveTells.bits10 (fun HT_ HW_ => ?_)
          generalize w96.drew = w97 at BK298 BK299 BK308 BK316 BK324 BK332 BK340 BK348 HB hHeld ⊢
          refine pure_ (i := 0) (N := some 65) (v := ?_) (a' := ?_) m19_1 rfl rfl (any_of HT_.out (by kernel_rfl)) (fun _ _ _ h => h) (Or.inl ⟨by rfl, ?_⟩) ?_ ?_
          rotate_left
          ·intro w'
           go_simp
           with_reducible rfl
          rotate_left
          ·simp only [Act.put, q4_, q5_, q6_, i64_w, i32_w]
           rfl
          refine pure_ (i := 1) (N := some 66) (v := ?_) (a' := ?_) m19_2 rfl rfl (any_of HT_.out (by kernel_rfl)) (fun _ _ _ h => h) (Or.inl ⟨by rfl, ?_⟩) ?_ ?_
          rotate_left
          ·intro w'
           go_simp
           with_reducible rfl
          rotate_left
          ·simp only [Act.put, q4_, q5_, q6_, i64_w, i32_w]
           rfl
          refine take_ (i := 2) (N := some 67) (v := ?_) (a' := ?_) m19_3 rfl rfl (take_ofW HT_.out HW_.out (by kernel_rfl)) (fun _ _ _ h => h) (Or.inl ⟨by rfl, ?_⟩) hHeld ?_ ?_
          rotate_left
          ·rintro w' ⟨s0, s1, s2, s3, s4, s5, s6, s7, s8, s9, s10, s11, s12, s13, s14, s15, s16, s17, s18, s19, s20, s21, s22, s23, s24, s25, s26, s27, s28, s29, s30, s31, s32, s33, s34, s35⟩
           go_simp
           with_reducible rfl
          rotate_left
          ·simp only [Act.put, q4_, q5_, q6_, i64_w, i32_w]
           rfl
          refine take_ (i := 3) (N := some 68) (v := ?_) (a' := ?_) m19_4 rfl rfl (take_ofW HT_.out HW_.out (by kernel_rfl)) (fun _ _ _ h => h) (Or.inl ⟨by rfl, ?_⟩) hHeld ?_ ?_
          rotate_left
          ·rintro w' ⟨s0, s1, s2, s3, s4, s5, s6, s7, s8, s9, s10, s11, s12, s13, s14, s15, s16, s17, s18, s19, s20, s21, s22, s23, s24, s25, s26, s27, s28, s29, s30, s31, s32, s33, s34, s35⟩
           go_simp
           with_reducible rfl
          rotate_left
          ·simp only [Act.put, q4_, q5_, q6_, i64_w, i32_w]
           rfl
          refine pure_ (i := 4) (N := some 69) (v := ?_) (a' := ?_) m19_5 rfl rfl (any_of HT_.out (by kernel_rfl)) (fun _ _ _ h => h) (Or.inl ⟨by rfl, ?_⟩) ?_ ?_
          rotate_left
          ·intro w'
           go_simp
           with_reducible rfl
          rotate_left
          ·simp only [Act.put, q4_, q5_, q6_, i64_w, i32_w]
           rfl
          refine pure_ (i := 5) (N := some 70) (v := ?_) (a' := ?_) m19_6 rfl rfl (any_of HT_.out (by kernel_rfl)) (fun _ _ _ h => h) (Or.inl ⟨by rfl, ?_⟩) ?_ ?_
          rotate_left
          ·intro w'
           go_simp
           with_reducible rfl
          rotate_left
          ·simp only [Act.put, q4_, q5_, q6_, i64_w, i32_w]
           rfl
          refine pure_ (i := 6) (N := some 71) (v := ?_) (a' := ?_) m19_7 rfl rfl (any_of HT_.out (by kernel_rfl)) (fun _ _ _ h => h) (Or.inl ⟨by rfl, ?_⟩) ?_ ?_
          rotate_left
          ·intro w'
           go_simp
           with_reducible rfl
          rotate_left
          ·simp only [Act.put, q4_, q5_, q6_, i64_w, i32_w]
           rfl
          refine pure_ (i := 7) (N := some 72) (v := ?_) (a' := ?_) m19_8 rfl rfl (any_of HT_.out (by kernel_rfl)) (fun _ _ _ h => h) (Or.inl ⟨by rfl, ?_⟩) ?_ ?_
          rotate_left
          ·intro w'
           go_simp
           with_reducible rfl
          rotate_left
          ·simp only [Act.put, q4_, q5_, q6_, i64_w, i32_w]
           rfl
          refine pure_ (i := 8) (N := some 73) (v := ?_) (a' := ?_) m19_9 rfl rfl (any_of HT_.out (by kernel_rfl)) (fun _ _ _ h => h) (Or.inl ⟨by rfl, ?_⟩) ?_ ?_
          rotate_left
          ·intro w'
           go_simp
           with_reducible rfl
          rotate_left
          ·simp only [Act.put, q4_, q5_, q6_, i64_w, i32_w]
           rfl
          refine pure_ (i := 9) (N := some 74) (v := ?_) (a' := ?_) m19_10 rfl rfl (any_of HT_.out (by kernel_rfl)) (fun _ _ _ h => h) (Or.inl ⟨by rfl, ?_⟩) ?_ ?_
          rotate_left
          ·intro w'
           go_simp
           with_reducible rfl
          rotate_left
          ·simp only [Act.put, q4_, q5_, q6_, i64_w, i32_w]
           rfl
          refine pure_ (i := 10) (N := some 75) (v := ?_) (a' := ?_) m19_11 rfl rfl (any_of HT_.out (by kernel_rfl)) (fun _ _ _ h => h) (Or.inl ⟨by rfl, ?_⟩) ?_ ?_
          rotate_left
          ·intro w'
           go_simp
           with_reducible rfl
          rotate_left
          ·simp only [Act.put, q4_, q5_, q6_, i64_w, i32_w]
           rfl
          refine pure_ (i := 11) (N := some 76) (v := ?_) (a' := ?_) m19_12 rfl rfl (any_of HT_.out (by kernel_rfl)) (fun _ _ _ h => h) (Or.inl ⟨by rfl, ?_⟩) ?_ ?_
          rotate_left
          ·intro w'
           go_simp
           with_reducible rfl
          rotate_left
          ·simp only [Act.put, q4_, q5_, q6_, i64_w, i32_w]
           rfl
          refine take_ (i := 12) (N := some 77) (v := ?_) (a' := ?_) m19_13 rfl rfl (take_ofW HT_.out HW_.out (by kernel_rfl)) (fun _ _ _ h => h) (Or.inl ⟨by rfl, ?_⟩) hHeld ?_ ?_
          rotate_left
          ·rintro w' ⟨s0, s1, s2, s3, s4, s5, s6, s7, s8, s9, s10, s11, s12, s13, s14, s15, s16, s17, s18, s19, s20, s21, s22, s23, s24, s25, s26, s27, s28, s29, s30, s31, s32, s33, s34, s35⟩
           go_simp
           with_reducible rfl
          rotate_left
          ·simp only [Act.put, q4_, q5_, q6_, i64_w, i32_w]
           rfl
          refine take_ (i := 13) (N := some 78) (v := ?_) (a' := ?_) m19_14 rfl rfl (take_ofW HT_.out HW_.out (by kernel_rfl)) (fun _ _ _ h => h) (Or.inl ⟨by rfl, ?_⟩) hHeld ?_ ?_
          rotate_left
          ·rintro w' ⟨s0, s1, s2, s3, s4, s5, s6, s7, s8, s9, s10, s11, s12, s13, s14, s15, s16, s17, s18, s19, s20, s21, s22, s23, s24, s25, s26, s27, s28, s29, s30, s31, s32, s33, s34, s35⟩
           go_simp
           with_reducible rfl
          rotate_left
          ·simp only [Act.put, q4_, q5_, q6_, i64_w, i32_w]
           rfl
          refine pure_ (i := 14) (N := some 79) (v := ?_) (a' := ?_) m19_15 rfl rfl (any_of HT_.out (by kernel_rfl)) (fun _ _ _ h => h) (Or.inl ⟨by rfl, ?_⟩) ?_ ?_
          rotate_left
          ·intro w'
           go_simp
           with_reducible rfl
          rotate_left
          ·simp only [Act.put, q4_, q5_, q6_, i64_w, i32_w]
           rfl
          refine pure_ (i := 15) (N := some 80) (v := ?_) (a' := ?_) m19_16 rfl rfl (any_of HT_.out (by kernel_rfl)) (fun _ _ _ h => h) (Or.inl ⟨by rfl, ?_⟩) ?_ ?_
          rotate_left
          ·intro w'
           go_simp
           with_reducible rfl
          rotate_left
          ·simp only [Act.put, q4_, q5_, q6_, i64_w, i32_w]
           rfl
          refine pure_ (i := 16) (N := some 81) (v := ?_) (a' := ?_) m19_17 rfl rfl (any_of HT_.out (by kernel_rfl)) (fun _ _ _ h => h) (Or.inl ⟨by rfl, ?_⟩) ?_ ?_
          rotate_left
          ·intro w'
           go_simp
           with_reducible rfl
          rotate_left
          ·simp only [Act.put, q4_, q5_, q6_, i64_w, i32_w]
           rfl
          refine pure_ (i := 17) (N := some 82) (v := ?_) (a' := ?_) m19_18 rfl rfl (any_of HT_.out (by kernel_rfl)) (fun _ _ _ h => h) (Or.inl ⟨by rfl, ?_⟩) ?_ ?_
          rotate_left
          ·intro w'
           go_simp
           with_reducible rfl
          rotate_left
          ·simp only [Act.put, q4_, q5_, q6_, i64_w, i32_w]
           rfl
          refine pure_ (i := 18) (N := some 83) (v := ?_) (a' := ?_) m19_19 rfl rfl (any_of HT_.out (by kernel_rfl)) (fun _ _ _ h => h) (Or.inl ⟨by rfl, ?_⟩) ?_ ?_
          rotate_left
          ·intro w'
           go_simp
           with_reducible rfl
          rotate_left
          ·simp only [Act.put, q4_, q5_, q6_, i64_w, i32_w]
           rfl
          refine pure_ (i := 19) (N := some 84) (v := ?_) (a' := ?_) m19_20 rfl rfl (any_of HT_.out (by kernel_rfl)) (fun _ _ _ h => h) (Or.inl ⟨by rfl, ?_⟩) ?_ ?_
          rotate_left
          ·intro w'
           go_simp
           with_reducible rfl
          rotate_left
          ·simp only [Act.put, q4_, q5_, q6_, i64_w, i32_w]
           rfl
          refine pure_ (i := 20) (N := some 85) (v := ?_) (a' := ?_) m19_21 rfl rfl (any_of HT_.out (by kernel_rfl)) (fun _ _ _ h => h) (Or.inl ⟨by rfl, ?_⟩) ?_ ?_
          rotate_left
          ·intro w'
           go_simp
           with_reducible rfl
          rotate_left
          ·simp only [Act.put, q4_, q5_, q6_, i64_w, i32_w]
           rfl
          refine pure_ (i := 21) (N := some 86) (v := ?_) (a' := ?_) m19_22 rfl rfl (any_of HT_.out (by kernel_rfl)) (fun _ _ _ h => h) (Or.inl ⟨by rfl, ?_⟩) ?_ ?_
          rotate_left
          ·intro w'
           go_simp
           with_reducible rfl
          rotate_left
          ·simp only [Act.put, q4_, q5_, q6_, i64_w, i32_w]
           rfl
          refine take_ (i := 22) (N := some 87) (v := ?_) (a' := ?_) m19_23 rfl rfl (take_ofW HT_.out HW_.out (by kernel_rfl)) (fun _ _ _ h => h) (Or.inl ⟨by rfl, ?_⟩) hHeld ?_ ?_
          rotate_left
          ·rintro w' ⟨s0, s1, s2, s3, s4, s5, s6, s7, s8, s9, s10, s11, s12, s13, s14, s15, s16, s17, s18, s19, s20, s21, s22, s23, s24, s25, s26, s27, s28, s29, s30, s31, s32, s33, s34, s35⟩
           go_simp
           with_reducible rfl
          rotate_left
          ·simp only [Act.put, q4_, q5_, q6_, i64_w, i32_w]
           rfl
          refine take_ (i := 24) (N := some 89) (v := ?_) (a' := ?_) m19_24 rfl rfl (take_ofW HT_.out HW_.out (by kernel_rfl)) (fun _ _ _ h => h) (Or.inl ⟨by rfl, ?_⟩) hHeld ?_ ?_
          rotate_left
          ·rintro w' ⟨s0, s1, s2, s3, s4, s5, s6, s7, s8, s9, s10, s11, s12, s13, s14, s15, s16, s17, s18, s19, s20, s21, s22, s23, s24, s25, s26, s27, s28, s29, s30, s31, s32, s33, s34, s35⟩
           go_simp
           with_reducible rfl
          rotate_left
          ·simp only [Act.put, q4_, q5_, q6_, i64_w, i32_w]
           rfl
          refine one_ (i := 23) (N := some 88) m19_25 rfl rfl (one_of HT_.out (by kernel_rfl)) (by decide) (fun K hK => ?_)
          refine goes_ Try.func17 (by kernel_rfl) rfl #[.agg #[.bool a0_0, .int .i64 a0_1, .int .i64 a0_2, .int .i64 a0_3, .int .i64 a0_4, .int .i64 a0_5]] (by rfl) rfl rfl (by (try simp only [List.map_toArray, List.map_cons, List.map_nil]); first | done | rfl | (simp only [List.length_drop, List.length_take]; rfl)) ?_
          with_reducible refine (derive_Clear.calls a0_0 a0_1 a0_2 a0_3 a0_4 a0_5 t349 t350 t351 t352 t353 t354 _ A50.out).mono ?_
          rintro e w98 ⟨rfl, hb⟩
          refine ⟨_, rfl, ?_⟩
          have n0_ := q1_ BK298 hb
          have n1_ := q1_ BK299 hb
          have n2_ := q1_ BK308 hb
          have n3_ := q1_ BK316 hb
          have n4_ := q1_ BK324 hb
          have n5_ := q1_ BK332 hb
          have n6_ := q1_ BK340 hb
          have n7_ := q1_ BK348 hb
          have n8_ := q2_ HB hb
          clear BK298
          clear BK299
          clear BK308
          clear BK316
          clear BK324
          clear BK332
          clear BK340
          clear BK348
          clear HB
          have BK298 := n0_
          have BK299 := n1_
          have BK308 := n2_
          have BK316 := n3_
          have BK324 := n4_
          have BK332 := n5_
          have BK340 := n6_
          have BK348 := n7_
          have HB := n8_
          clear n0_ n1_ n2_ n3_ n4_ n5_ n6_ n7_ n8_
          (try clear hb)
          (try clear hb2)
          (try clear hk)
          (try clear hi)
          refine hK.out _ _ ⟨q7_ BK324 0 rfl, q7_ BK324 1 rfl, q7_ BK324 2 rfl, q7_ BK324 3 rfl, q7_ BK324 4 rfl, q7_ BK324 5 rfl, q7_ BK332 0 rfl, q7_ BK332 1 rfl, q7_ BK332 2 rfl, q7_ BK332 3 rfl, q7_ BK332 4 rfl, q7_ BK332 5 rfl, q7_ BK340 0 rfl, q7_ BK340 1 rfl, q7_ BK340 2 rfl, q7_ BK340 3 rfl, q7_ BK340 4 rfl, q7_ BK340 5 rfl, q7_ BK348 0 rfl, q7_ BK348 1 rfl, q7_ BK348 2 rfl, q7_ BK348 3 rfl, q7_ BK348 4 rfl, q7_ BK348 5 rfl, q7_ BK298 0 rfl, q7_ BK298 1 rfl, q7_ BK298 2 rfl, q7_ BK298 3 rfl, q7_ BK298 4 rfl, q7_ BK298 5 rfl, q7_ BK299 0 rfl, q7_ BK299 1 rfl, q7_ BK299 2 rfl, q7_ BK299 3 rfl, q7_ BK299 4 rfl, q7_ BK299 5 rfl⟩ (fun hHeld => ?_)
          clear hK K
          refine norm_ (a' := ?_) ?_ ?_
          rotate_left
          ·show Act.put _ (some 88) _ = _
           simp only [Act.put, q4_, q5_, q6_, i64_w, i32_w]
           rfl
          refine one_ (i := 25) (N := some 90) m19_26 rfl rfl (one_of HT_.out (by kernel_rfl)) (by decide) (fun K hK => ?_)
          refine goes_ Try.func18 (by kernel_rfl) rfl #[.agg #[.bool a0_0, .int .i64 a0_1, .int .i64 a0_2, .int .i64 a0_3, .int .i64 a0_4, .int .i64 a0_5]] (by rfl) rfl rfl (by (try simp only [List.map_toArray, List.map_cons, List.map_nil]); first | done | rfl | (simp only [List.length_drop, List.length_take]; rfl)) ?_
          with_reducible refine (seizinref04_Clear.calls a0_0 a0_1 a0_2 a0_3 a0_4 a0_5 t355 t356 t357 t358 t359 t360 _ A51.out).mono ?_
          rintro e w99 ⟨rfl, hb⟩
          refine ⟨_, rfl, ?_⟩
          have n0_ := q1_ BK298 hb
          have n1_ := q1_ BK299 hb
          have n2_ := q1_ BK308 hb
          have n3_ := q1_ BK316 hb
          have n4_ := q1_ BK324 hb
          have n5_ := q1_ BK332 hb
          have n6_ := q1_ BK340 hb
          have n7_ := q1_ BK348 hb
          have n8_ := q2_ HB hb
          clear BK298
          clear BK299
          clear BK308
          clear BK316
          clear BK324
          clear BK332
          clear BK340
          clear BK348
          clear HB
          have BK298 := n0_
          have BK299 := n1_
          have BK308 := n2_
          have BK316 := n3_
          have BK324 := n4_
          have BK332 := n5_
          have BK340 := n6_
          have BK348 := n7_
          have HB := n8_
          clear n0_ n1_ n2_ n3_ n4_ n5_ n6_ n7_ n8_
          (try clear hb)
          (try clear hb2)
          (try clear hk)
          (try clear hi)
          refine hK.out _ _ ⟨q7_ BK324 0 rfl, q7_ BK324 1 rfl, q7_ BK324 2 rfl, q7_ BK324 3 rfl, q7_ BK324 4 rfl, q7_ BK324 5 rfl, q7_ BK332 0 rfl, q7_ BK332 1 rfl, q7_ BK332 2 rfl, q7_ BK332 3 rfl, q7_ BK332 4 rfl, q7_ BK332 5 rfl, q7_ BK340 0 rfl, q7_ BK340 1 rfl, q7_ BK340 2 rfl, q7_ BK340 3 rfl, q7_ BK340 4 rfl, q7_ BK340 5 rfl, q7_ BK348 0 rfl, q7_ BK348 1 rfl, q7_ BK348 2 rfl, q7_ BK348 3 rfl, q7_ BK348 4 rfl, q7_ BK348 5 rfl, q7_ BK298 0 rfl, q7_ BK298 1 rfl, q7_ BK298 2 rfl, q7_ BK298 3 rfl, q7_ BK298 4 rfl, q7_ BK298 5 rfl, q7_ BK299 0 rfl, q7_ BK299 1 rfl, q7_ BK299 2 rfl, q7_ BK299 3 rfl, q7_ BK299 4 rfl, q7_ BK299 5 rfl⟩ (fun hHeld => ?_)
          clear hK K
          refine norm_ (a' := ?_) ?_ ?_
          rotate_left
          ·show Act.put _ (some 90) _ = _
           simp only [Act.put, q4_, q5_, q6_, i64_w, i32_w]
           rfl
          refine pure_ (i := 26) (N := some 91) (v := ?_) (a' := ?_) m19_27 rfl rfl (any_of HT_.out (by kernel_rfl)) (fun _ _ _ h => h) (Or.inl ⟨by rfl, ?_⟩) ?_ ?_
          rotate_left
          ·intro w'
           go_simp
           with_reducible rfl
          rotate_left
          ·simp only [Act.put, q4_, q5_, q6_, i64_w, i32_w]
           rfl
          refine pure_ (i := 27) (N := some 92) (v := ?_) (a' := ?_) m19_28 rfl rfl (any_of HT_.out (by kernel_rfl)) (fun _ _ _ h => h) (Or.inl ⟨by rfl, ?_⟩) ?_ ?_
          rotate_left
          ·intro w'
           go_simp
           with_reducible rfl
          rotate_left
          ·simp only [Act.put, q4_, q5_, q6_, i64_w, i32_w]
           rfl
          refine pure_ (i := 28) (N := some 93) (v := ?_) (a' := ?_) m19_29 rfl rfl (any_of HT_.out (by kernel_rfl)) (fun _ _ _ h => h) (Or.inl ⟨by rfl, ?_⟩) ?_ ?_
          rotate_left
          ·intro w'
           go_simp
           with_reducible rfl
          rotate_left
          ·simp only [Act.put, q4_, q5_, q6_, i64_w, i32_w]
           rfl
          refine take_ (i := 29) (N := some 94) (v := ?_) (a' := ?_) m19_30 rfl rfl (take_ofW HT_.out HW_.out (by kernel_rfl)) (fun _ _ _ h => h) (Or.inl ⟨by rfl, ?_⟩) hHeld ?_ ?_
          rotate_left
          ·rintro w' ⟨s0, s1, s2, s3, s4, s5, s6, s7, s8, s9, s10, s11, s12, s13, s14, s15, s16, s17, s18, s19, s20, s21, s22, s23, s24, s25, s26, s27, s28, s29, s30, s31, s32, s33, s34, s35⟩
           go_simp
           with_reducible rfl
          rotate_left
          ·simp only [Act.put, q4_, q5_, q6_, i64_w, i32_w]
           rfl
          refine take_ (i := 31) (N := some 96) (v := ?_) (a' := ?_) m19_31 rfl rfl (take_ofW HT_.out HW_.out (by kernel_rfl)) (fun _ _ _ h => h) (Or.inl ⟨by rfl, ?_⟩) hHeld ?_ ?_
          rotate_left
          ·rintro w' ⟨s0, s1, s2, s3, s4, s5, s6, s7, s8, s9, s10, s11, s12, s13, s14, s15, s16, s17, s18, s19, s20, s21, s22, s23, s24, s25, s26, s27, s28, s29, s30, s31, s32, s33, s34, s35⟩
           go_simp
           with_reducible rfl
          rotate_left
          ·simp only [Act.put, q4_, q5_, q6_, i64_w, i32_w]
           rfl
          refine one_ (i := 30) (N := some 95) m19_32 rfl rfl (one_of HT_.out (by kernel_rfl)) (by decide) (fun K hK => ?_)
          refine goes_ Try.func17 (by kernel_rfl) rfl #[.agg #[.bool a1_0, .int .i64 a1_1, .int .i64 a1_2, .int .i64 a1_3, .int .i64 a1_4, .int .i64 a1_5]] (by rfl) rfl rfl (by (try simp only [List.map_toArray, List.map_cons, List.map_nil]); first | done | rfl | (simp only [List.length_drop, List.length_take]; rfl)) ?_
          with_reducible refine (derive_Clear.calls a1_0 a1_1 a1_2 a1_3 a1_4 a1_5 t361 t362 t363 t364 t365 t366 _ A53.out).mono ?_
          rintro e w100 ⟨rfl, hb⟩
          refine ⟨_, rfl, ?_⟩
          have n0_ := q1_ BK298 hb
          have n1_ := q1_ BK299 hb
          have n2_ := q1_ BK308 hb
          have n3_ := q1_ BK316 hb
          have n4_ := q1_ BK324 hb
          have n5_ := q1_ BK332 hb
          have n6_ := q1_ BK340 hb
          have n7_ := q1_ BK348 hb
          have n8_ := q2_ HB hb
          clear BK298
          clear BK299
          clear BK308
          clear BK316
          clear BK324
          clear BK332
          clear BK340
          clear BK348
          clear HB
          have BK298 := n0_
          have BK299 := n1_
          have BK308 := n2_
          have BK316 := n3_
          have BK324 := n4_
          have BK332 := n5_
          have BK340 := n6_
          have BK348 := n7_
          have HB := n8_
          clear n0_ n1_ n2_ n3_ n4_ n5_ n6_ n7_ n8_
          (try clear hb)
          (try clear hb2)
          (try clear hk)
          (try clear hi)
          refine hK.out _ _ ⟨q7_ BK324 0 rfl, q7_ BK324 1 rfl, q7_ BK324 2 rfl, q7_ BK324 3 rfl, q7_ BK324 4 rfl, q7_ BK324 5 rfl, q7_ BK332 0 rfl, q7_ BK332 1 rfl, q7_ BK332 2 rfl, q7_ BK332 3 rfl, q7_ BK332 4 rfl, q7_ BK332 5 rfl, q7_ BK340 0 rfl, q7_ BK340 1 rfl, q7_ BK340 2 rfl, q7_ BK340 3 rfl, q7_ BK340 4 rfl, q7_ BK340 5 rfl, q7_ BK348 0 rfl, q7_ BK348 1 rfl, q7_ BK348 2 rfl, q7_ BK348 3 rfl, q7_ BK348 4 rfl, q7_ BK348 5 rfl, q7_ BK298 0 rfl, q7_ BK298 1 rfl, q7_ BK298 2 rfl, q7_ BK298 3 rfl, q7_ BK298 4 rfl, q7_ BK298 5 rfl, q7_ BK299 0 rfl, q7_ BK299 1 rfl, q7_ BK299 2 rfl, q7_ BK299 3 rfl, q7_ BK299 4 rfl, q7_ BK299 5 rfl⟩ (fun hHeld => ?_)
          clear hK K
          refine norm_ (a' := ?_) ?_ ?_
          rotate_left
          ·show Act.put _ (some 95) _ = _
           simp only [Act.put, q4_, q5_, q6_, i64_w, i32_w]
           rfl
          refine one_ (i := 32) (N := some 97) m19_33 rfl rfl (one_of HT_.out (by kernel_rfl)) (by decide) (fun K hK => ?_)
          refine goes_ Try.func18 (by kernel_rfl) rfl #[.agg #[.bool a1_0, .int .i64 a1_1, .int .i64 a1_2, .int .i64 a1_3, .int .i64 a1_4, .int .i64 a1_5]] (by rfl) rfl rfl (by (try simp only [List.map_toArray, List.map_cons, List.map_nil]); first | done | rfl | (simp only [List.length_drop, List.length_take]; rfl)) ?_
          with_reducible refine (seizinref04_Clear.calls a1_0 a1_1 a1_2 a1_3 a1_4 a1_5 t367 t368 t369 t370 t371 t372 _ A54.out).mono ?_
          rintro e w101 ⟨rfl, hb⟩
          refine ⟨_, rfl, ?_⟩
          have n0_ := q1_ BK298 hb
          have n1_ := q1_ BK299 hb
          have n2_ := q1_ BK308 hb
          have n3_ := q1_ BK316 hb
          have n4_ := q1_ BK324 hb
          have n5_ := q1_ BK332 hb
          have n6_ := q1_ BK340 hb
          have n7_ := q1_ BK348 hb
          have n8_ := q2_ HB hb
          clear BK298
          clear BK299
          clear BK308
          clear BK316
          clear BK324
          clear BK332
          clear BK340
          clear BK348
          clear HB
          have BK298 := n0_
          have BK299 := n1_
          have BK308 := n2_
          have BK316 := n3_
          have BK324 := n4_
          have BK332 := n5_
          have BK340 := n6_
          have BK348 := n7_
          have HB := n8_
          clear n0_ n1_ n2_ n3_ n4_ n5_ n6_ n7_ n8_
          (try clear hb)
          (try clear hb2)
          (try clear hk)
          (try clear hi)
          refine hK.out _ _ ⟨q7_ BK324 0 rfl, q7_ BK324 1 rfl, q7_ BK324 2 rfl, q7_ BK324 3 rfl, q7_ BK324 4 rfl, q7_ BK324 5 rfl, q7_ BK332 0 rfl, q7_ BK332 1 rfl, q7_ BK332 2 rfl, q7_ BK332 3 rfl, q7_ BK332 4 rfl, q7_ BK332 5 rfl, q7_ BK340 0 rfl, q7_ BK340 1 rfl, q7_ BK340 2 rfl, q7_ BK340 3 rfl, q7_ BK340 4 rfl, q7_ BK340 5 rfl, q7_ BK348 0 rfl, q7_ BK348 1 rfl, q7_ BK348 2 rfl, q7_ BK348 3 rfl, q7_ BK348 4 rfl, q7_ BK348 5 rfl, q7_ BK298 0 rfl, q7_ BK298 1 rfl, q7_ BK298 2 rfl, q7_ BK298 3 rfl, q7_ BK298 4 rfl, q7_ BK298 5 rfl, q7_ BK299 0 rfl, q7_ BK299 1 rfl, q7_ BK299 2 rfl, q7_ BK299 3 rfl, q7_ BK299 4 rfl, q7_ BK299 5 rfl⟩ (fun hHeld => ?_)
          clear hK K
          refine norm_ (a' := ?_) ?_ ?_
          rotate_left
          ·show Act.put _ (some 97) _ = _
           simp only [Act.put, q4_, q5_, q6_, i64_w, i32_w]
           rfl
          refine pure_ (i := 33) (N := some 98) (v := ?_) (a' := ?_) m19_34 rfl rfl (any_of HT_.out (by kernel_rfl)) (fun _ _ _ h => h) (Or.inl ⟨by rfl, ?_⟩) ?_ ?_
          rotate_left
          ·intro w'
           go_simp
           with_reducible rfl
          rotate_left
          ·simp only [Act.put, q4_, q5_, q6_, i64_w, i32_w]
           rfl
          refine pure_ (i := 34) (N := some 99) (v := ?_) (a' := ?_) m19_35 rfl rfl (any_of HT_.out (by kernel_rfl)) (fun _ _ _ h => h) (Or.inl ⟨by rfl, ?_⟩) ?_ ?_
          rotate_left
          ·intro w'
           go_simp
           with_reducible rfl
          rotate_left
          ·simp only [Act.put, q4_, q5_, q6_, i64_w, i32_w]
           rfl
          refine pure_ (i := 35) (N := some 6) (v := ?_) (a' := ?_) m19_36 rfl rfl (any_of HT_.out (by kernel_rfl)) (fun _ _ _ h => h) (Or.inl ⟨by rfl, ?_⟩) ?_ ?_
          rotate_left
          ·intro w'
           go_simp
           with_reducible rfl
          rotate_left
          ·simp only [Act.put, q4_, q5_, q6_, i64_w, i32_w]
           rfl
          refine done_ (done_of HT_.out (by kernel_rfl)) ?_
          try go_wp2
          go_ret
          exact ⟨by first | rfl | (simp [errW_none, errW_some] <;> rfl) | (simp [*, errW_none, errW_some] <;> rfl), by repeat (first | (with_reducible first | exact HB.out | apply below_alloc | apply pw_below_drewN | apply below_drew1 | refine below_set ?_ GE298.out | refine below_set ?_ GE299.out | refine below_set ?_ GE308.out | refine below_set ?_ GE316.out | refine below_set ?_ GE324.out | refine below_set ?_ GE332.out | refine below_set ?_ GE340.out | refine below_set ?_ GE348.out) | exact HB.out)⟩
         ·rw [if_neg c52] at H
          have c52b0 : (t349 == t355 && (t350 == t356 && (t351 == t357 && (t352 == t358 && (t353 == t359 && (t354 == t360)))))) = false := by simpa using c52
          (try (have c52b1 : decide (t349 = t355 && (t350 == t356 && (t351 == t357 && (t352 == t358 && (t353 == t359 && (t354 == t360)))))) = false := by simpa using c52))
          (try (have c52b2 : (t349 == t355 && (t350 == t356 && (t351 == t357 && (t352 == t358 && (t353 == t359 && (t354 == t360)))))) = false := by simpa using c52))
          (try (have c52b3 : ¬ (t349 = t355 && (t350 == t356 && (t351 == t357 && (t352 == t358 && (t353 == t359 && (t354 == t360)))))) := by simpa using c52))
          clear c52
          exact absurd ((Option.some.inj H).trans hr_) (by decide)
        ·rw [if_neg c49] at H
         have c49b0 : (t339 == t347) = false := beq_eq_false_iff_ne.mpr c49
         have c49b1 : (t339 != t347) = true := bne_iff_ne.mpr c49
         exact absurd ((Option.some.inj H).trans hr_) (by decide)
       ·rw [if_neg c48] at H
        have c48b0 : (t333 == t341 && (t334 == t342 && (t335 == t343 && (t336 == t344 && (t337 == t345 && (t338 == t346)))))) = false := by simpa using c48
        (try (have c48b1 : decide (t333 = t341 && (t334 == t342 && (t335 == t343 && (t336 == t344 && (t337 == t345 && (t338 == t346)))))) = false := by simpa using c48))
        (try (have c48b2 : (t333 == t341 && (t334 == t342 && (t335 == t343 && (t336 == t344 && (t337 == t345 && (t338 == t346)))))) = false := by simpa using c48))
        (try (have c48b3 : ¬ (t333 = t341 && (t334 == t342 && (t335 == t343 && (t336 == t344 && (t337 == t345 && (t338 == t346)))))) := by simpa using c48))
        clear c48
        exact absurd ((Option.some.inj H).trans hr_) (by decide)
      ·rw [if_neg c47] at H
       have c47b0 : (t323 == t331) = false := beq_eq_false_iff_ne.mpr c47
       have c47b1 : (t323 != t331) = true := bne_iff_ne.mpr c47
       exact absurd ((Option.some.inj H).trans hr_) (by decide)
     ·rw [if_neg c46] at H
      have c46b0 : (t317 == t325 && (t318 == t326 && (t319 == t327 && (t320 == t328 && (t321 == t329 && (t322 == t330)))))) = false := by simpa using c46
      (try (have c46b1 : decide (t317 = t325 && (t318 == t326 && (t319 == t327 && (t320 == t328 && (t321 == t329 && (t322 == t330)))))) = false := by simpa using c46))
      (try (have c46b2 : (t317 == t325 && (t318 == t326 && (t319 == t327 && (t320 == t328 && (t321 == t329 && (t322 == t330)))))) = false := by simpa using c46))
      (try (have c46b3 : ¬ (t317 = t325 && (t318 == t326 && (t319 == t327 && (t320 == t328 && (t321 == t329 && (t322 == t330)))))) := by simpa using c46))
      clear c46
      exact absurd ((Option.some.inj H).trans hr_) (by decide)
    ·replace c45 := Bool.eq_false_iff.mpr c45
     subst c45
     have H1 : (some false) = some r := by rw [if_neg (show ¬ (false = true) by decide)] at H; exact H
     clear H
     have H := H1
     clear H1
     exact absurd ((Option.some.inj H).trans hr_) (by decide)

end Go.Proofs.Ytgkmacgckoifaaa.PDr
-- shorter
