-- written by a changed copy of the kit's print program, for this claim
import Derived.Test.YtgkmacgckoifaaaPDrx0
import Derived.Test.YtgkmacgckoifaaaPDrx1
import Derived.Test.YtgkmacgckoifaaaPDrx5
import Derived.Test.YtgkmacgckoifaaaPDrx6
import Derived.Test.YtgkmacgckoifaaaPDrx7
import Derived.Test.YtgkmacgckoifaaaPDrx8
import Derived.Test.YtgkmacgckoifaaaPDrx10
import Derived.Test.YtgkmacgckoifaaaPDrx11
import Derived.Test.YtgkmacgckoifaaaPDrx12
import Derived.Test.YtgkmacgckoifaaaPDrx14
namespace Go.Proofs.Ytgkmacgckoifaaa.PDr
open Go.RowKit Go.Proofs.YtgkmacgckoifaaaW.PrintWords Go.Proofs.YtgkmacgckoifaaaW.PrintLast Go.Proofs.YtgkmacgckoifaaaW.PrintMore
attribute [local go_sem] max2_int min2_int max_two min_two max_three min_three max_four min_four   -- for this text's walks alone
set_option linter.unusedVariables false
set_option linter.unusedSimpArgs false

attribute [local go_sem high] eqA23
abbrev m15_0 : Array Bool := #[false, false, false, false, false, false, false, false, false, false]
abbrev m15_1 : Array Bool := #[true, false, false, false, false, false, false, false, false, false]
abbrev m15_2 : Array Bool := #[true, false, true, false, false, false, false, false, false, false]
abbrev m15_3 : Array Bool := #[true, true, true, true, true, true, true, true, false, false]
abbrev m15_4 : Array Bool := #[true, true, true, false, false, false, false, false, false, false]
abbrev m15_5 : Array Bool := #[true, false, true, false, false, false, false, true, false, false]
abbrev m15_6 : Array Bool := #[true, true, true, true, false, false, false, false, false, false]
abbrev m15_7 : Array Bool := #[true, true, true, false, false, false, false, true, false, false]
abbrev m15_8 : Array Bool := #[true, true, true, true, true, false, false, false, false, false]
abbrev m15_9 : Array Bool := #[true, true, true, true, true, true, false, false, false, false]
abbrev m15_10 : Array Bool := #[true, true, true, true, true, true, true, false, false, false]
abbrev m15_11 : Array Bool := #[true, true, true, true, false, false, false, true, false, false]
abbrev m15_12 : Array Bool := #[true, true, true, true, true, false, false, true, false, false]
abbrev m15_13 : Array Bool := #[true, true, true, true, true, true, false, true, false, false]
abbrev m15_14 : Array Bool := #[true, true, true, true, true, true, true, true, true, false]
abbrev m15_15 : Array Bool := #[true, true, true, true, true, true, true, true, true, true]
/-! ### seizinlaw04_head: function 10 -/
def seizinlaw04_head.f  : Option (Bool) := (derive_Bounds.f true 16 48 20 7 0 28).bind fun bt197 => ((derive_Bounds.f true 16 48 20 7 0 29).bind fun bt205 => ((derive_Perms.f true 16 48 20 7 0 1).bind fun bt213 => ((derive_Move.f true 16 48 20 7 0 (-1)).bind fun bt221 => ((derive_Seal.f true 16 48 20 7 0 true 0 256 9 96 0).bind fun bt229 => ((derive_Unseal.f bt229.1 bt229.2.1 bt229.2.2.1 bt229.2.2.2.1 bt229.2.2.2.2.1 bt229.2.2.2.2.2.1 true 0 256 9 96 0).bind fun bt237 => ((derive_Bounds.f bt229.1 bt229.2.1 bt229.2.2.1 bt229.2.2.2.1 bt229.2.2.2.2.1 bt229.2.2.2.2.2.1 1).bind fun bt245 => ((derive_Enter.f true 16 48 20 7 0).bind fun bt253 => ((derive_Clear.f bt197.1 bt197.2.1 bt197.2.2.1 bt197.2.2.2.1 bt197.2.2.2.2.1 bt197.2.2.2.2.2.1).bind fun bt261 => ((derive_Build.f bt261.1 bt261.2.1 bt261.2.2.1 bt261.2.2.2.1 bt261.2.2.2.2.1 bt261.2.2.2.2.2 true 16 48 20 7 0).bind fun bt267 => (if (bt197.1 && (bt197.2.1 == 20 && (bt197.2.2.1 == 48 && (bt197.2.2.2.1 == 20 && (bt197.2.2.2.2.1 == 7 && (bt197.2.2.2.2.2.1 == 0)))))) = true then (if bt197.2.2.2.2.2.2 = 0 then (if bt205.2.2.2.2.2.2 = 43 then (if bt213.2.2.2.2.1 = 1 then (if bt221.2.2.2.1 = 4294967295 then (if bt221.1 = true then (if bt229.2.2.2.2.2.1 = 9 then (if bt229.2.2.2.2.2.2 = 0 then (if (bt237.1 && (bt237.2.1 == 16 && (bt237.2.2.1 == 48 && (bt237.2.2.2.1 == 20 && (bt237.2.2.2.2.1 == 7 && (bt237.2.2.2.2.2.1 == 0)))))) = true then (if bt237.2.2.2.2.2.2 = 0 then (if bt245.2.2.2.2.2.2 = 42 then (if bt253.2.2.2.2.2.1 = 1 then (if bt253.2.2.2.2.2.2 = 0 then (if (bt267.1 == bt197.1 && (bt267.2.1 == bt197.2.1 && (bt267.2.2.1 == bt197.2.2.1 && (bt267.2.2.2.1 == bt197.2.2.2.1 && (bt267.2.2.2.2.1 == bt197.2.2.2.2.1 && (bt267.2.2.2.2.2.1 == bt197.2.2.2.2.2.1)))))) = true then (some (bt267.2.2.2.2.2.2 == 0)) else (some false)) else (some false)) else (some false)) else (some false)) else (some false)) else (some false)) else (some false)) else (some false)) else (some false)) else (some false)) else (some false)) else (some false)) else (some false)) else (some false)))))))))))
def seizinlaw04_head.T11 : Bool × List (List Nat × List Nat) := (true, [([], []), ([0], [0]), ([], []), ([1, 2, 1], [1, 2]), ([3], [3]), ([4], [4]), ([4], [4]), ([], []), ([7, 5, 3, 0, 1, 2, 3, 4, 5, 7], [5, 7]), ([6, 8, 0, 1, 2, 3, 4, 5, 6, 7, 8], [6])])
def seizinlaw04_head.B11 : List Nat := [0, 1, 0, 7, 15, 31, 31, 0, 191, 511]
theorem seizinlaw04_head.tab11 : rtab .any (opsOf Try.f10 11) = seizinlaw04_head.T11 := by kernel_rfl
theorem seizinlaw04_head.bits11 : waitsOk seizinlaw04_head.T11.2 seizinlaw04_head.B11 = true := by kernel_rfl
set_option maxHeartbeats 8000000 in
set_option maxRecDepth 100000 in
theorem seizinlaw04_head.calls  (r : Bool) (w : World) (h : seizinlaw04_head.f  = some r) :
  Calls Try.prog 10 #[] w fun e w' => e = .returned (.bool r) ∧ Below w.heap.size w w' := by
 have hu23 := Try.underlying23
 have HB := Aside0.mk (Below.refl w.heap.size w)
 have hr_ : r = true := by
  have h0 : seizinlaw04_head.f = some true := by kernel_rfl
  rw [h0] at h; exact (Option.some.inj h).symm
 have H : ((derive_Bounds.f true 16 48 20 7 0 28).bind fun bt197 => ((derive_Bounds.f true 16 48 20 7 0 29).bind fun bt205 => ((derive_Perms.f true 16 48 20 7 0 1).bind fun bt213 => ((derive_Move.f true 16 48 20 7 0 (-1)).bind fun bt221 => ((derive_Seal.f true 16 48 20 7 0 true 0 256 9 96 0).bind fun bt229 => ((derive_Unseal.f bt229.1 bt229.2.1 bt229.2.2.1 bt229.2.2.2.1 bt229.2.2.2.2.1 bt229.2.2.2.2.2.1 true 0 256 9 96 0).bind fun bt237 => ((derive_Bounds.f bt229.1 bt229.2.1 bt229.2.2.1 bt229.2.2.2.1 bt229.2.2.2.2.1 bt229.2.2.2.2.2.1 1).bind fun bt245 => ((derive_Enter.f true 16 48 20 7 0).bind fun bt253 => ((derive_Clear.f bt197.1 bt197.2.1 bt197.2.2.1 bt197.2.2.2.1 bt197.2.2.2.2.1 bt197.2.2.2.2.2.1).bind fun bt261 => ((derive_Build.f bt261.1 bt261.2.1 bt261.2.2.1 bt261.2.2.2.1 bt261.2.2.2.2.1 bt261.2.2.2.2.2 true 16 48 20 7 0).bind fun bt267 => (if (bt197.1 && (bt197.2.1 == 20 && (bt197.2.2.1 == 48 && (bt197.2.2.2.1 == 20 && (bt197.2.2.2.2.1 == 7 && (bt197.2.2.2.2.2.1 == 0)))))) = true then (if bt197.2.2.2.2.2.2 = 0 then (if bt205.2.2.2.2.2.2 = 43 then (if bt213.2.2.2.2.1 = 1 then (if bt221.2.2.2.1 = 4294967295 then (if bt221.1 = true then (if bt229.2.2.2.2.2.1 = 9 then (if bt229.2.2.2.2.2.2 = 0 then (if (bt237.1 && (bt237.2.1 == 16 && (bt237.2.2.1 == 48 && (bt237.2.2.2.1 == 20 && (bt237.2.2.2.2.1 == 7 && (bt237.2.2.2.2.2.1 == 0)))))) = true then (if bt237.2.2.2.2.2.2 = 0 then (if bt245.2.2.2.2.2.2 = 42 then (if bt253.2.2.2.2.2.1 = 1 then (if bt253.2.2.2.2.2.2 = 0 then (if (bt267.1 == bt197.1 && (bt267.2.1 == bt197.2.1 && (bt267.2.2.1 == bt197.2.2.1 && (bt267.2.2.2.1 == bt197.2.2.2.1 && (bt267.2.2.2.2.1 == bt197.2.2.2.2.1 && (bt267.2.2.2.2.2.1 == bt197.2.2.2.2.2.1)))))) = true then (some (bt267.2.2.2.2.2.2 == 0)) else (some false)) else (some false)) else (some false)) else (some false)) else (some false)) else (some false)) else (some false)) else (some false)) else (some false)) else (some false)) else (some false)) else (some false)) else (some false)) else (some false)))))))))))) = some r := h
 clear h
 replace H := Option.bind_eq_some_iff.mp H
 obtain ⟨⟨t197, t198, t199, t200, t201, t202, t203⟩, A10, H⟩ := H
 replace H : ((derive_Bounds.f true 16 48 20 7 0 29).bind fun bt205 => ((derive_Perms.f true 16 48 20 7 0 1).bind fun bt213 => ((derive_Move.f true 16 48 20 7 0 (-1)).bind fun bt221 => ((derive_Seal.f true 16 48 20 7 0 true 0 256 9 96 0).bind fun bt229 => ((derive_Unseal.f bt229.1 bt229.2.1 bt229.2.2.1 bt229.2.2.2.1 bt229.2.2.2.2.1 bt229.2.2.2.2.2.1 true 0 256 9 96 0).bind fun bt237 => ((derive_Bounds.f bt229.1 bt229.2.1 bt229.2.2.1 bt229.2.2.2.1 bt229.2.2.2.2.1 bt229.2.2.2.2.2.1 1).bind fun bt245 => ((derive_Enter.f true 16 48 20 7 0).bind fun bt253 => ((derive_Clear.f t197 t198 t199 t200 t201 t202).bind fun bt261 => ((derive_Build.f bt261.1 bt261.2.1 bt261.2.2.1 bt261.2.2.2.1 bt261.2.2.2.2.1 bt261.2.2.2.2.2 true 16 48 20 7 0).bind fun bt267 => (if (t197 && (t198 == 20 && (t199 == 48 && (t200 == 20 && (t201 == 7 && (t202 == 0)))))) = true then (if t203 = 0 then (if bt205.2.2.2.2.2.2 = 43 then (if bt213.2.2.2.2.1 = 1 then (if bt221.2.2.2.1 = 4294967295 then (if bt221.1 = true then (if bt229.2.2.2.2.2.1 = 9 then (if bt229.2.2.2.2.2.2 = 0 then (if (bt237.1 && (bt237.2.1 == 16 && (bt237.2.2.1 == 48 && (bt237.2.2.2.1 == 20 && (bt237.2.2.2.2.1 == 7 && (bt237.2.2.2.2.2.1 == 0)))))) = true then (if bt237.2.2.2.2.2.2 = 0 then (if bt245.2.2.2.2.2.2 = 42 then (if bt253.2.2.2.2.2.1 = 1 then (if bt253.2.2.2.2.2.2 = 0 then (if (bt267.1 == t197 && (bt267.2.1 == t198 && (bt267.2.2.1 == t199 && (bt267.2.2.2.1 == t200 && (bt267.2.2.2.2.1 == t201 && (bt267.2.2.2.2.2.1 == t202)))))) = true then (some (bt267.2.2.2.2.2.2 == 0)) else (some false)) else (some false)) else (some false)) else (some false)) else (some false)) else (some false)) else (some false)) else (some false)) else (some false)) else (some false)) else (some false)) else (some false)) else (some false)) else (some false))))))))))) = some r := H
 have A1 := Aside0.mk A10
 clear A10
 replace H := Option.bind_eq_some_iff.mp H
 obtain ⟨⟨t205, t206, t207, t208, t209, t210, t211⟩, A20, H⟩ := H
 replace H : ((derive_Perms.f true 16 48 20 7 0 1).bind fun bt213 => ((derive_Move.f true 16 48 20 7 0 (-1)).bind fun bt221 => ((derive_Seal.f true 16 48 20 7 0 true 0 256 9 96 0).bind fun bt229 => ((derive_Unseal.f bt229.1 bt229.2.1 bt229.2.2.1 bt229.2.2.2.1 bt229.2.2.2.2.1 bt229.2.2.2.2.2.1 true 0 256 9 96 0).bind fun bt237 => ((derive_Bounds.f bt229.1 bt229.2.1 bt229.2.2.1 bt229.2.2.2.1 bt229.2.2.2.2.1 bt229.2.2.2.2.2.1 1).bind fun bt245 => ((derive_Enter.f true 16 48 20 7 0).bind fun bt253 => ((derive_Clear.f t197 t198 t199 t200 t201 t202).bind fun bt261 => ((derive_Build.f bt261.1 bt261.2.1 bt261.2.2.1 bt261.2.2.2.1 bt261.2.2.2.2.1 bt261.2.2.2.2.2 true 16 48 20 7 0).bind fun bt267 => (if (t197 && (t198 == 20 && (t199 == 48 && (t200 == 20 && (t201 == 7 && (t202 == 0)))))) = true then (if t203 = 0 then (if t211 = 43 then (if bt213.2.2.2.2.1 = 1 then (if bt221.2.2.2.1 = 4294967295 then (if bt221.1 = true then (if bt229.2.2.2.2.2.1 = 9 then (if bt229.2.2.2.2.2.2 = 0 then (if (bt237.1 && (bt237.2.1 == 16 && (bt237.2.2.1 == 48 && (bt237.2.2.2.1 == 20 && (bt237.2.2.2.2.1 == 7 && (bt237.2.2.2.2.2.1 == 0)))))) = true then (if bt237.2.2.2.2.2.2 = 0 then (if bt245.2.2.2.2.2.2 = 42 then (if bt253.2.2.2.2.2.1 = 1 then (if bt253.2.2.2.2.2.2 = 0 then (if (bt267.1 == t197 && (bt267.2.1 == t198 && (bt267.2.2.1 == t199 && (bt267.2.2.2.1 == t200 && (bt267.2.2.2.2.1 == t201 && (bt267.2.2.2.2.2.1 == t202)))))) = true then (some (bt267.2.2.2.2.2.2 == 0)) else (some false)) else (some false)) else (some false)) else (some false)) else (some false)) else (some false)) else (some false)) else (some false)) else (some false)) else (some false)) else (some false)) else (some false)) else (some false)) else (some false)))))))))) = some r := H
 have A2 := Aside0.mk A20
 clear A20
 replace H := Option.bind_eq_some_iff.mp H
 obtain ⟨⟨t213, t214, t215, t216, t217, t218, t219⟩, A30, H⟩ := H
 replace H : ((derive_Move.f true 16 48 20 7 0 (-1)).bind fun bt221 => ((derive_Seal.f true 16 48 20 7 0 true 0 256 9 96 0).bind fun bt229 => ((derive_Unseal.f bt229.1 bt229.2.1 bt229.2.2.1 bt229.2.2.2.1 bt229.2.2.2.2.1 bt229.2.2.2.2.2.1 true 0 256 9 96 0).bind fun bt237 => ((derive_Bounds.f bt229.1 bt229.2.1 bt229.2.2.1 bt229.2.2.2.1 bt229.2.2.2.2.1 bt229.2.2.2.2.2.1 1).bind fun bt245 => ((derive_Enter.f true 16 48 20 7 0).bind fun bt253 => ((derive_Clear.f t197 t198 t199 t200 t201 t202).bind fun bt261 => ((derive_Build.f bt261.1 bt261.2.1 bt261.2.2.1 bt261.2.2.2.1 bt261.2.2.2.2.1 bt261.2.2.2.2.2 true 16 48 20 7 0).bind fun bt267 => (if (t197 && (t198 == 20 && (t199 == 48 && (t200 == 20 && (t201 == 7 && (t202 == 0)))))) = true then (if t203 = 0 then (if t211 = 43 then (if t217 = 1 then (if bt221.2.2.2.1 = 4294967295 then (if bt221.1 = true then (if bt229.2.2.2.2.2.1 = 9 then (if bt229.2.2.2.2.2.2 = 0 then (if (bt237.1 && (bt237.2.1 == 16 && (bt237.2.2.1 == 48 && (bt237.2.2.2.1 == 20 && (bt237.2.2.2.2.1 == 7 && (bt237.2.2.2.2.2.1 == 0)))))) = true then (if bt237.2.2.2.2.2.2 = 0 then (if bt245.2.2.2.2.2.2 = 42 then (if bt253.2.2.2.2.2.1 = 1 then (if bt253.2.2.2.2.2.2 = 0 then (if (bt267.1 == t197 && (bt267.2.1 == t198 && (bt267.2.2.1 == t199 && (bt267.2.2.2.1 == t200 && (bt267.2.2.2.2.1 == t201 && (bt267.2.2.2.2.2.1 == t202)))))) = true then (some (bt267.2.2.2.2.2.2 == 0)) else (some false)) else (some false)) else (some false)) else (some false)) else (some false)) else (some false)) else (some false)) else (some false)) else (some false)) else (some false)) else (some false)) else (some false)) else (some false)) else (some false))))))))) = some r := H
 have A3 := Aside0.mk A30
 clear A30
 replace H := Option.bind_eq_some_iff.mp H
 obtain ⟨⟨t221, t222, t223, t224, t225, t226, t227⟩, A40, H⟩ := H
 replace H : ((derive_Seal.f true 16 48 20 7 0 true 0 256 9 96 0).bind fun bt229 => ((derive_Unseal.f bt229.1 bt229.2.1 bt229.2.2.1 bt229.2.2.2.1 bt229.2.2.2.2.1 bt229.2.2.2.2.2.1 true 0 256 9 96 0).bind fun bt237 => ((derive_Bounds.f bt229.1 bt229.2.1 bt229.2.2.1 bt229.2.2.2.1 bt229.2.2.2.2.1 bt229.2.2.2.2.2.1 1).bind fun bt245 => ((derive_Enter.f true 16 48 20 7 0).bind fun bt253 => ((derive_Clear.f t197 t198 t199 t200 t201 t202).bind fun bt261 => ((derive_Build.f bt261.1 bt261.2.1 bt261.2.2.1 bt261.2.2.2.1 bt261.2.2.2.2.1 bt261.2.2.2.2.2 true 16 48 20 7 0).bind fun bt267 => (if (t197 && (t198 == 20 && (t199 == 48 && (t200 == 20 && (t201 == 7 && (t202 == 0)))))) = true then (if t203 = 0 then (if t211 = 43 then (if t217 = 1 then (if t224 = 4294967295 then (if t221 = true then (if bt229.2.2.2.2.2.1 = 9 then (if bt229.2.2.2.2.2.2 = 0 then (if (bt237.1 && (bt237.2.1 == 16 && (bt237.2.2.1 == 48 && (bt237.2.2.2.1 == 20 && (bt237.2.2.2.2.1 == 7 && (bt237.2.2.2.2.2.1 == 0)))))) = true then (if bt237.2.2.2.2.2.2 = 0 then (if bt245.2.2.2.2.2.2 = 42 then (if bt253.2.2.2.2.2.1 = 1 then (if bt253.2.2.2.2.2.2 = 0 then (if (bt267.1 == t197 && (bt267.2.1 == t198 && (bt267.2.2.1 == t199 && (bt267.2.2.2.1 == t200 && (bt267.2.2.2.2.1 == t201 && (bt267.2.2.2.2.2.1 == t202)))))) = true then (some (bt267.2.2.2.2.2.2 == 0)) else (some false)) else (some false)) else (some false)) else (some false)) else (some false)) else (some false)) else (some false)) else (some false)) else (some false)) else (some false)) else (some false)) else (some false)) else (some false)) else (some false)))))))) = some r := H
 have A4 := Aside0.mk A40
 clear A40
 replace H := Option.bind_eq_some_iff.mp H
 obtain ⟨⟨t229, t230, t231, t232, t233, t234, t235⟩, A50, H⟩ := H
 replace H : ((derive_Unseal.f t229 t230 t231 t232 t233 t234 true 0 256 9 96 0).bind fun bt237 => ((derive_Bounds.f t229 t230 t231 t232 t233 t234 1).bind fun bt245 => ((derive_Enter.f true 16 48 20 7 0).bind fun bt253 => ((derive_Clear.f t197 t198 t199 t200 t201 t202).bind fun bt261 => ((derive_Build.f bt261.1 bt261.2.1 bt261.2.2.1 bt261.2.2.2.1 bt261.2.2.2.2.1 bt261.2.2.2.2.2 true 16 48 20 7 0).bind fun bt267 => (if (t197 && (t198 == 20 && (t199 == 48 && (t200 == 20 && (t201 == 7 && (t202 == 0)))))) = true then (if t203 = 0 then (if t211 = 43 then (if t217 = 1 then (if t224 = 4294967295 then (if t221 = true then (if t234 = 9 then (if t235 = 0 then (if (bt237.1 && (bt237.2.1 == 16 && (bt237.2.2.1 == 48 && (bt237.2.2.2.1 == 20 && (bt237.2.2.2.2.1 == 7 && (bt237.2.2.2.2.2.1 == 0)))))) = true then (if bt237.2.2.2.2.2.2 = 0 then (if bt245.2.2.2.2.2.2 = 42 then (if bt253.2.2.2.2.2.1 = 1 then (if bt253.2.2.2.2.2.2 = 0 then (if (bt267.1 == t197 && (bt267.2.1 == t198 && (bt267.2.2.1 == t199 && (bt267.2.2.2.1 == t200 && (bt267.2.2.2.2.1 == t201 && (bt267.2.2.2.2.2.1 == t202)))))) = true then (some (bt267.2.2.2.2.2.2 == 0)) else (some false)) else (some false)) else (some false)) else (some false)) else (some false)) else (some false)) else (some false)) else (some false)) else (some false)) else (some false)) else (some false)) else (some false)) else (some false)) else (some false))))))) = some r := H
 have A5 := Aside0.mk A50
 clear A50
 replace H := Option.bind_eq_some_iff.mp H
 obtain ⟨⟨t237, t238, t239, t240, t241, t242, t243⟩, A60, H⟩ := H
 replace H : ((derive_Bounds.f t229 t230 t231 t232 t233 t234 1).bind fun bt245 => ((derive_Enter.f true 16 48 20 7 0).bind fun bt253 => ((derive_Clear.f t197 t198 t199 t200 t201 t202).bind fun bt261 => ((derive_Build.f bt261.1 bt261.2.1 bt261.2.2.1 bt261.2.2.2.1 bt261.2.2.2.2.1 bt261.2.2.2.2.2 true 16 48 20 7 0).bind fun bt267 => (if (t197 && (t198 == 20 && (t199 == 48 && (t200 == 20 && (t201 == 7 && (t202 == 0)))))) = true then (if t203 = 0 then (if t211 = 43 then (if t217 = 1 then (if t224 = 4294967295 then (if t221 = true then (if t234 = 9 then (if t235 = 0 then (if (t237 && (t238 == 16 && (t239 == 48 && (t240 == 20 && (t241 == 7 && (t242 == 0)))))) = true then (if t243 = 0 then (if bt245.2.2.2.2.2.2 = 42 then (if bt253.2.2.2.2.2.1 = 1 then (if bt253.2.2.2.2.2.2 = 0 then (if (bt267.1 == t197 && (bt267.2.1 == t198 && (bt267.2.2.1 == t199 && (bt267.2.2.2.1 == t200 && (bt267.2.2.2.2.1 == t201 && (bt267.2.2.2.2.2.1 == t202)))))) = true then (some (bt267.2.2.2.2.2.2 == 0)) else (some false)) else (some false)) else (some false)) else (some false)) else (some false)) else (some false)) else (some false)) else (some false)) else (some false)) else (some false)) else (some false)) else (some false)) else (some false)) else (some false)))))) = some r := H
 have A6 := Aside0.mk A60
 clear A60
 replace H := Option.bind_eq_some_iff.mp H
 obtain ⟨⟨t245, t246, t247, t248, t249, t250, t251⟩, A70, H⟩ := H
 replace H : ((derive_Enter.f true 16 48 20 7 0).bind fun bt253 => ((derive_Clear.f t197 t198 t199 t200 t201 t202).bind fun bt261 => ((derive_Build.f bt261.1 bt261.2.1 bt261.2.2.1 bt261.2.2.2.1 bt261.2.2.2.2.1 bt261.2.2.2.2.2 true 16 48 20 7 0).bind fun bt267 => (if (t197 && (t198 == 20 && (t199 == 48 && (t200 == 20 && (t201 == 7 && (t202 == 0)))))) = true then (if t203 = 0 then (if t211 = 43 then (if t217 = 1 then (if t224 = 4294967295 then (if t221 = true then (if t234 = 9 then (if t235 = 0 then (if (t237 && (t238 == 16 && (t239 == 48 && (t240 == 20 && (t241 == 7 && (t242 == 0)))))) = true then (if t243 = 0 then (if t251 = 42 then (if bt253.2.2.2.2.2.1 = 1 then (if bt253.2.2.2.2.2.2 = 0 then (if (bt267.1 == t197 && (bt267.2.1 == t198 && (bt267.2.2.1 == t199 && (bt267.2.2.2.1 == t200 && (bt267.2.2.2.2.1 == t201 && (bt267.2.2.2.2.2.1 == t202)))))) = true then (some (bt267.2.2.2.2.2.2 == 0)) else (some false)) else (some false)) else (some false)) else (some false)) else (some false)) else (some false)) else (some false)) else (some false)) else (some false)) else (some false)) else (some false)) else (some false)) else (some false)) else (some false))))) = some r := H
 have A7 := Aside0.mk A70
 clear A70
 replace H := Option.bind_eq_some_iff.mp H
 obtain ⟨⟨t253, t254, t255, t256, t257, t258, t259⟩, A80, H⟩ := H
 replace H : ((derive_Clear.f t197 t198 t199 t200 t201 t202).bind fun bt261 => ((derive_Build.f bt261.1 bt261.2.1 bt261.2.2.1 bt261.2.2.2.1 bt261.2.2.2.2.1 bt261.2.2.2.2.2 true 16 48 20 7 0).bind fun bt267 => (if (t197 && (t198 == 20 && (t199 == 48 && (t200 == 20 && (t201 == 7 && (t202 == 0)))))) = true then (if t203 = 0 then (if t211 = 43 then (if t217 = 1 then (if t224 = 4294967295 then (if t221 = true then (if t234 = 9 then (if t235 = 0 then (if (t237 && (t238 == 16 && (t239 == 48 && (t240 == 20 && (t241 == 7 && (t242 == 0)))))) = true then (if t243 = 0 then (if t251 = 42 then (if t258 = 1 then (if t259 = 0 then (if (bt267.1 == t197 && (bt267.2.1 == t198 && (bt267.2.2.1 == t199 && (bt267.2.2.2.1 == t200 && (bt267.2.2.2.2.1 == t201 && (bt267.2.2.2.2.2.1 == t202)))))) = true then (some (bt267.2.2.2.2.2.2 == 0)) else (some false)) else (some false)) else (some false)) else (some false)) else (some false)) else (some false)) else (some false)) else (some false)) else (some false)) else (some false)) else (some false)) else (some false)) else (some false)) else (some false)))) = some r := H
 have A8 := Aside0.mk A80
 clear A80
 replace H := Option.bind_eq_some_iff.mp H
 obtain ⟨⟨t261, t262, t263, t264, t265, t266⟩, A90, H⟩ := H
 replace H : ((derive_Build.f t261 t262 t263 t264 t265 t266 true 16 48 20 7 0).bind fun bt267 => (if (t197 && (t198 == 20 && (t199 == 48 && (t200 == 20 && (t201 == 7 && (t202 == 0)))))) = true then (if t203 = 0 then (if t211 = 43 then (if t217 = 1 then (if t224 = 4294967295 then (if t221 = true then (if t234 = 9 then (if t235 = 0 then (if (t237 && (t238 == 16 && (t239 == 48 && (t240 == 20 && (t241 == 7 && (t242 == 0)))))) = true then (if t243 = 0 then (if t251 = 42 then (if t258 = 1 then (if t259 = 0 then (if (bt267.1 == t197 && (bt267.2.1 == t198 && (bt267.2.2.1 == t199 && (bt267.2.2.2.1 == t200 && (bt267.2.2.2.2.1 == t201 && (bt267.2.2.2.2.2.1 == t202)))))) = true then (some (bt267.2.2.2.2.2.2 == 0)) else (some false)) else (some false)) else (some false)) else (some false)) else (some false)) else (some false)) else (some false)) else (some false)) else (some false)) else (some false)) else (some false)) else (some false)) else (some false)) else (some false))) = some r := H
 have A9 := Aside0.mk A90
 clear A90
 replace H := Option.bind_eq_some_iff.mp H
 obtain ⟨⟨t267, t268, t269, t270, t271, t272, t273⟩, A100, H⟩ := H
 replace H : (if (t197 && (t198 == 20 && (t199 == 48 && (t200 == 20 && (t201 == 7 && (t202 == 0)))))) = true then (if t203 = 0 then (if t211 = 43 then (if t217 = 1 then (if t224 = 4294967295 then (if t221 = true then (if t234 = 9 then (if t235 = 0 then (if (t237 && (t238 == 16 && (t239 == 48 && (t240 == 20 && (t241 == 7 && (t242 == 0)))))) = true then (if t243 = 0 then (if t251 = 42 then (if t258 = 1 then (if t259 = 0 then (if (t267 == t197 && (t268 == t198 && (t269 == t199 && (t270 == t200 && (t271 == t201 && (t272 == t202)))))) = true then (some (t273 == 0)) else (some false)) else (some false)) else (some false)) else (some false)) else (some false)) else (some false)) else (some false)) else (some false)) else (some false)) else (some false)) else (some false)) else (some false)) else (some false)) else (some false)) = some r := H
 have A10 := Aside0.mk A100
 clear A100
 by_cases c11 : (t197 && (t198 == 20 && (t199 == 48 && (t200 == 20 && (t201 == 7 && (t202 == 0)))))) = true
 ·rw [if_pos c11] at H
  have c11b0 : (t197 && (t198 == 20 && (t199 == 48 && (t200 == 20 && (t201 == 7 && (t202 == 0)))))) = true := c11
  clear c11
  by_cases c12 : t203 = 0
  ·rw [if_pos c12] at H
   have c12b0 : (t203 == 0) = true := beq_iff_eq.mpr c12
   have c12b1 : (t203 != 0) = false := bne_eq_false_iff_eq.mpr c12
   clear c12
   by_cases c13 : t211 = 43
   ·rw [if_pos c13] at H
    have c13b0 : (t211 == 43) = true := beq_iff_eq.mpr c13
    have c13b1 : (t211 != 43) = false := bne_eq_false_iff_eq.mpr c13
    clear c13
    by_cases c14 : t217 = 1
    ·rw [if_pos c14] at H
     have c14b0 : (t217 == 1) = true := beq_iff_eq.mpr c14
     have c14b1 : (t217 != 1) = false := bne_eq_false_iff_eq.mpr c14
     clear c14
     by_cases c15 : t224 = 4294967295
     ·rw [if_pos c15] at H
      have c15b0 : (t224 == 4294967295) = true := beq_iff_eq.mpr c15
      have c15b1 : (t224 != 4294967295) = false := bne_eq_false_iff_eq.mpr c15
      clear c15
      by_cases c16 : t221 = true
      ·subst c16
       have H1 : (if t234 = 9 then (if t235 = 0 then (if (t237 && (t238 == 16 && (t239 == 48 && (t240 == 20 && (t241 == 7 && (t242 == 0)))))) = true then (if t243 = 0 then (if t251 = 42 then (if t258 = 1 then (if t259 = 0 then (if (t267 == t197 && (t268 == t198 && (t269 == t199 && (t270 == t200 && (t271 == t201 && (t272 == t202)))))) = true then (some (t273 == 0)) else (some false)) else (some false)) else (some false)) else (some false)) else (some false)) else (some false)) else (some false)) else (some false)) = some r := by rw [if_pos rfl] at H; exact H
       clear H
       have H := H1
       clear H1
       by_cases c17 : t234 = 9
       ·rw [if_pos c17] at H
        have c17b0 : (t234 == 9) = true := beq_iff_eq.mpr c17
        have c17b1 : (t234 != 9) = false := bne_eq_false_iff_eq.mpr c17
        clear c17
        by_cases c18 : t235 = 0
        ·rw [if_pos c18] at H
         have c18b0 : (t235 == 0) = true := beq_iff_eq.mpr c18
         have c18b1 : (t235 != 0) = false := bne_eq_false_iff_eq.mpr c18
         clear c18
         by_cases c19 : (t237 && (t238 == 16 && (t239 == 48 && (t240 == 20 && (t241 == 7 && (t242 == 0)))))) = true
         ·rw [if_pos c19] at H
          have c19b0 : (t237 && (t238 == 16 && (t239 == 48 && (t240 == 20 && (t241 == 7 && (t242 == 0)))))) = true := c19
          clear c19
          by_cases c20 : t243 = 0
          ·rw [if_pos c20] at H
           have c20b0 : (t243 == 0) = true := beq_iff_eq.mpr c20
           have c20b1 : (t243 != 0) = false := bne_eq_false_iff_eq.mpr c20
           clear c20
           by_cases c21 : t251 = 42
           ·rw [if_pos c21] at H
            have c21b0 : (t251 == 42) = true := beq_iff_eq.mpr c21
            have c21b1 : (t251 != 42) = false := bne_eq_false_iff_eq.mpr c21
            clear c21
            by_cases c22 : t258 = 1
            ·rw [if_pos c22] at H
             have c22b0 : (t258 == 1) = true := beq_iff_eq.mpr c22
             have c22b1 : (t258 != 1) = false := bne_eq_false_iff_eq.mpr c22
             clear c22
             by_cases c23 : t259 = 0
             ·rw [if_pos c23] at H
              have c23b0 : (t259 == 0) = true := beq_iff_eq.mpr c23
              have c23b1 : (t259 != 0) = false := bne_eq_false_iff_eq.mpr c23
              clear c23
              by_cases c24 : (t267 == t197 && (t268 == t198 && (t269 == t199 && (t270 == t200 && (t271 == t201 && (t272 == t202)))))) = true
              ·rw [if_pos c24] at H
               have c24b0 : (t267 == t197 && (t268 == t198 && (t269 == t199 && (t270 == t200 && (t271 == t201 && (t272 == t202)))))) = true := c24
               (try (have c24b1 : decide (t267 = t197 && (t268 == t198 && (t269 == t199 && (t270 == t200 && (t271 == t201 && (t272 == t202)))))) = true := by simpa using c24))
               (try (have c24b2 : (t267 == t197 && (t268 == t198 && (t269 == t199 && (t270 == t200 && (t271 == t201 && (t272 == t202)))))) = true := by simpa using c24))
               clear c24
               clear hr_
               obtain rfl := Option.some.inj H
               go_enter Try.func10, Try.ntmps10
               try go_wp2_with (first | ((with_reducible refine gate_dst (N := 1) rfl ?_); refine box_event ?hg (N := 1) ?hd (cs := #[.bool false, .int .i64 0, .int .i64 0, .int .i64 0, .int .i64 0, .int .i64 0]) (t := 23) ?hr ?_; (case hd => rfl); (case hg => rfl); (case hr => first | (go_simp; done) | (go_simp; rfl)); intro gb195 hg w25 hbox hb; have n0_ := q2_ HB hb; have n1_ := Aside0.mk (hbox); have n2_ := q11_ HB hg; have n3_ := q11_ HB hg; clear HB; have HB := n0_; have BK195 := n1_; have GW195 := n2_; have GE195 := n3_; clear n0_ n1_ n2_ n3_; clear hb hbox hg; obtain ⟨hcz26_0, hcz26_1, hcz26_2, hcz26_3, hcz26_4, hcz26_5⟩ := q9_ BK195; obtain ⟨hfz26_0, hfz26_1, hfz26_2, hfz26_3, hfz26_4, hfz26_5⟩ := q10_ BK195) | ((with_reducible refine gate_dst (N := 2) rfl ?_); refine box_event ?hg (N := 2) ?hd (cs := #[.bool false, .int .i64 0, .int .i64 0, .int .i64 0, .int .i64 0, .int .i64 0]) (t := 23) ?hr ?_; (case hd => rfl); (case hg => rfl); (case hr => first | (go_simp; done) | (go_simp; rfl)); intro gb196 hg w27 hbox hb; have n0_ := Aside0.mk (blk_below (g := gb195) (o := .cells #[.bool true, .int .i64 16, .int .i64 48, .int .i64 20, .int .i64 7, .int .i64 0] 23 (0, 0)) (by (with_reducible repeat (first | refine blk_drewN ?_ _ | refine blk_drew ?_ | refine blk_alloc ?_ _)); refine blk_put (cs := #[.bool true, .int .i64 16, .int .i64 48, .int .i64 20, .int .i64 7, .int .i64 0]) ?_ 5 _ rfl; refine blk_put (cs := #[.bool true, .int .i64 16, .int .i64 48, .int .i64 20, .int .i64 0, .int .i64 0]) ?_ 4 _ rfl; refine blk_put (cs := #[.bool true, .int .i64 16, .int .i64 48, .int .i64 0, .int .i64 0, .int .i64 0]) ?_ 3 _ rfl; refine blk_put (cs := #[.bool true, .int .i64 16, .int .i64 0, .int .i64 0, .int .i64 0, .int .i64 0]) ?_ 2 _ rfl; refine blk_put (cs := #[.bool true, .int .i64 0, .int .i64 0, .int .i64 0, .int .i64 0, .int .i64 0]) ?_ 1 _ rfl; refine blk_put (cs := #[.bool false, .int .i64 0, .int .i64 0, .int .i64 0, .int .i64 0, .int .i64 0]) ?_ 0 _ rfl; (with_reducible repeat (first | refine blk_drewN ?_ _ | refine blk_drew ?_ | refine blk_alloc ?_ _)); exact BK195.out) hb); have n1_ := q2_ HB hb; have n2_ := Aside0.mk (hbox); have n3_ := q11_ HB hg; have n4_ := q11_ HB hg; have n5_ := Aside0.mk ((by rw [hg]; exact Nat.ne_of_lt (blk_lt (g := gb195) (o := .cells #[.bool true, .int .i64 16, .int .i64 48, .int .i64 20, .int .i64 7, .int .i64 0] 23 (0, 0)) (by (with_reducible repeat (first | refine blk_drewN ?_ _ | refine blk_drew ?_ | refine blk_alloc ?_ _)); refine blk_put (cs := #[.bool true, .int .i64 16, .int .i64 48, .int .i64 20, .int .i64 7, .int .i64 0]) ?_ 5 _ rfl; refine blk_put (cs := #[.bool true, .int .i64 16, .int .i64 48, .int .i64 20, .int .i64 0, .int .i64 0]) ?_ 4 _ rfl; refine blk_put (cs := #[.bool true, .int .i64 16, .int .i64 48, .int .i64 0, .int .i64 0, .int .i64 0]) ?_ 3 _ rfl; refine blk_put (cs := #[.bool true, .int .i64 16, .int .i64 0, .int .i64 0, .int .i64 0, .int .i64 0]) ?_ 2 _ rfl; refine blk_put (cs := #[.bool true, .int .i64 0, .int .i64 0, .int .i64 0, .int .i64 0, .int .i64 0]) ?_ 1 _ rfl; refine blk_put (cs := #[.bool false, .int .i64 0, .int .i64 0, .int .i64 0, .int .i64 0, .int .i64 0]) ?_ 0 _ rfl; (with_reducible repeat (first | refine blk_drewN ?_ _ | refine blk_drew ?_ | refine blk_alloc ?_ _)); exact BK195.out)) : gb195 ≠ gb196)); have n6_ := Aside0.mk ((by rw [hg]; exact Nat.ne_of_gt (blk_lt (g := gb195) (o := .cells #[.bool true, .int .i64 16, .int .i64 48, .int .i64 20, .int .i64 7, .int .i64 0] 23 (0, 0)) (by (with_reducible repeat (first | refine blk_drewN ?_ _ | refine blk_drew ?_ | refine blk_alloc ?_ _)); refine blk_put (cs := #[.bool true, .int .i64 16, .int .i64 48, .int .i64 20, .int .i64 7, .int .i64 0]) ?_ 5 _ rfl; refine blk_put (cs := #[.bool true, .int .i64 16, .int .i64 48, .int .i64 20, .int .i64 0, .int .i64 0]) ?_ 4 _ rfl; refine blk_put (cs := #[.bool true, .int .i64 16, .int .i64 48, .int .i64 0, .int .i64 0, .int .i64 0]) ?_ 3 _ rfl; refine blk_put (cs := #[.bool true, .int .i64 16, .int .i64 0, .int .i64 0, .int .i64 0, .int .i64 0]) ?_ 2 _ rfl; refine blk_put (cs := #[.bool true, .int .i64 0, .int .i64 0, .int .i64 0, .int .i64 0, .int .i64 0]) ?_ 1 _ rfl; refine blk_put (cs := #[.bool false, .int .i64 0, .int .i64 0, .int .i64 0, .int .i64 0, .int .i64 0]) ?_ 0 _ rfl; (with_reducible repeat (first | refine blk_drewN ?_ _ | refine blk_drew ?_ | refine blk_alloc ?_ _)); exact BK195.out)) : gb196 ≠ gb195)); clear BK195; clear HB; have BK195 := n0_; have HB := n1_; have BK196 := n2_; have GW196 := n3_; have GE196 := n4_; have NB195_196 := n5_; have NB196_195 := n6_; clear n0_ n1_ n2_ n3_ n4_ n5_ n6_; clear hb hbox hg; have hnb28 := NB196_195.out; have hnc28 := NB195_196.out; obtain ⟨hcz29_0, hcz29_1, hcz29_2, hcz29_3, hcz29_4, hcz29_5⟩ := q9_ BK196; obtain ⟨hfz29_0, hfz29_1, hfz29_2, hfz29_3, hfz29_4, hfz29_5⟩ := q10_ BK196; obtain ⟨hcz30_0, hcz30_1, hcz30_2, hcz30_3, hcz30_4, hcz30_5⟩ := q9_ BK195; obtain ⟨hfz30_0, hfz30_1, hfz30_2, hfz30_3, hfz30_4, hfz30_5⟩ := q10_ BK195) | ((with_reducible refine gate_callee (f := 11) rfl ?_); refine goesL_ (some 25) rfl rfl Try.func11 (by kernel_rfl) rfl #[.agg #[.bool true, .int .i64 16, .int .i64 48, .int .i64 20, .int .i64 7, .int .i64 0], .int .i64 28] rfl (by (try simp only [List.map_toArray, List.map_cons, List.map_nil]); first | done | rfl | (simp only [List.length_drop, List.length_take]; rfl)) ?_; (with_reducible refine (derive_Bounds.calls true 16 48 20 7 0 28 t197 t198 t199 t200 t201 t202 t203 _ A1.out).mono ?_); rintro e w31 ⟨rfl, hb⟩; refine ⟨_, rfl, ?_⟩; have n0_ := Aside0.mk (blk_below (g := gb195) (o := .cells #[.bool true, .int .i64 16, .int .i64 48, .int .i64 20, .int .i64 7, .int .i64 0] 23 (0, 0)) (by (with_reducible repeat (first | refine blk_drewN ?_ _ | refine blk_drew ?_ | refine blk_alloc ?_ _)); refine blk_far ?_ NB195_196.out _; (with_reducible repeat (first | refine blk_drewN ?_ _ | refine blk_drew ?_ | refine blk_alloc ?_ _)); refine blk_far ?_ NB195_196.out _; (with_reducible repeat (first | refine blk_drewN ?_ _ | refine blk_drew ?_ | refine blk_alloc ?_ _)); refine blk_far ?_ NB195_196.out _; (with_reducible repeat (first | refine blk_drewN ?_ _ | refine blk_drew ?_ | refine blk_alloc ?_ _)); refine blk_far ?_ NB195_196.out _; (with_reducible repeat (first | refine blk_drewN ?_ _ | refine blk_drew ?_ | refine blk_alloc ?_ _)); refine blk_far ?_ NB195_196.out _; (with_reducible repeat (first | refine blk_drewN ?_ _ | refine blk_drew ?_ | refine blk_alloc ?_ _)); refine blk_far ?_ NB195_196.out _; (with_reducible repeat (first | refine blk_drewN ?_ _ | refine blk_drew ?_ | refine blk_alloc ?_ _)); exact BK195.out) hb); have n1_ := Aside0.mk (blk_below (g := gb196) (o := .cells #[.bool true, .int .i64 0, .int .i64 256, .int .i64 9, .int .i64 96, .int .i64 0] 23 (0, 0)) (by (with_reducible repeat (first | refine blk_drewN ?_ _ | refine blk_drew ?_ | refine blk_alloc ?_ _)); refine blk_put (cs := #[.bool true, .int .i64 0, .int .i64 256, .int .i64 9, .int .i64 96, .int .i64 0]) ?_ 5 _ rfl; refine blk_put (cs := #[.bool true, .int .i64 0, .int .i64 256, .int .i64 9, .int .i64 0, .int .i64 0]) ?_ 4 _ rfl; refine blk_put (cs := #[.bool true, .int .i64 0, .int .i64 256, .int .i64 0, .int .i64 0, .int .i64 0]) ?_ 3 _ rfl; refine blk_put (cs := #[.bool true, .int .i64 0, .int .i64 0, .int .i64 0, .int .i64 0, .int .i64 0]) ?_ 2 _ rfl; refine blk_put (cs := #[.bool true, .int .i64 0, .int .i64 0, .int .i64 0, .int .i64 0, .int .i64 0]) ?_ 1 _ rfl; refine blk_put (cs := #[.bool false, .int .i64 0, .int .i64 0, .int .i64 0, .int .i64 0, .int .i64 0]) ?_ 0 _ rfl; (with_reducible repeat (first | refine blk_drewN ?_ _ | refine blk_drew ?_ | refine blk_alloc ?_ _)); exact BK196.out) hb); have n2_ := q2_ HB hb; clear BK195; clear BK196; clear HB; have BK195 := n0_; have BK196 := n1_; have HB := n2_; clear n0_ n1_ n2_; (try clear hb); (try clear hb2); (try clear hk); (try clear hi)) | ((with_reducible refine gate_dst (N := 3) rfl ?_); refine box_event ?hg (N := 3) ?hd (cs := #[.bool false, .int .i64 0, .int .i64 0, .int .i64 0, .int .i64 0, .int .i64 0]) (t := 23) ?hr ?_; (case hd => rfl); (case hg => rfl); (case hr => first | (go_simp; done) | (go_simp; rfl)); intro gb204 hg w32 hbox hb; have n0_ := q1_ BK195 hb; have n1_ := q1_ BK196 hb; have n2_ := q2_ HB hb; have n3_ := Aside0.mk (hbox); have n4_ := q11_ HB hg; have n5_ := q11_ HB hg; have n6_ := q12_ BK195 hg; have n7_ := q13_ BK195 hg; have n8_ := q12_ BK196 hg; have n9_ := q13_ BK196 hg; clear BK195; clear BK196; clear HB; have BK195 := n0_; have BK196 := n1_; have HB := n2_; have BK204 := n3_; have GW204 := n4_; have GE204 := n5_; have NB195_204 := n6_; have NB204_195 := n7_; have NB196_204 := n8_; have NB204_196 := n9_; clear n0_ n1_ n2_ n3_ n4_ n5_ n6_ n7_ n8_ n9_; clear hb hbox hg; have hnb33 := NB204_195.out; have hnc33 := NB195_204.out; have hnb34 := NB204_196.out; have hnc34 := NB196_204.out; obtain ⟨hcz35_0, hcz35_1, hcz35_2, hcz35_3, hcz35_4, hcz35_5⟩ := q9_ BK204; obtain ⟨hfz35_0, hfz35_1, hfz35_2, hfz35_3, hfz35_4, hfz35_5⟩ := q10_ BK204; obtain ⟨hcz36_0, hcz36_1, hcz36_2, hcz36_3, hcz36_4, hcz36_5⟩ := q9_ BK195; obtain ⟨hfz36_0, hfz36_1, hfz36_2, hfz36_3, hfz36_4, hfz36_5⟩ := q10_ BK195) | ((with_reducible refine gate_callee (f := 11) rfl ?_); refine goesL_ (some 30) rfl rfl Try.func11 (by kernel_rfl) rfl #[.agg #[.bool true, .int .i64 16, .int .i64 48, .int .i64 20, .int .i64 7, .int .i64 0], .int .i64 29] rfl (by (try simp only [List.map_toArray, List.map_cons, List.map_nil]); first | done | rfl | (simp only [List.length_drop, List.length_take]; rfl)) ?_; (with_reducible refine (derive_Bounds.calls true 16 48 20 7 0 29 t205 t206 t207 t208 t209 t210 t211 _ A2.out).mono ?_); rintro e w37 ⟨rfl, hb⟩; refine ⟨_, rfl, ?_⟩; have n0_ := Aside0.mk (blk_below (g := gb195) (o := .cells #[.bool true, .int .i64 16, .int .i64 48, .int .i64 20, .int .i64 7, .int .i64 0] 23 (0, 0)) (by (with_reducible repeat (first | refine blk_drewN ?_ _ | refine blk_drew ?_ | refine blk_alloc ?_ _)); refine blk_far ?_ NB195_204.out _; (with_reducible repeat (first | refine blk_drewN ?_ _ | refine blk_drew ?_ | refine blk_alloc ?_ _)); refine blk_far ?_ NB195_204.out _; (with_reducible repeat (first | refine blk_drewN ?_ _ | refine blk_drew ?_ | refine blk_alloc ?_ _)); refine blk_far ?_ NB195_204.out _; (with_reducible repeat (first | refine blk_drewN ?_ _ | refine blk_drew ?_ | refine blk_alloc ?_ _)); refine blk_far ?_ NB195_204.out _; (with_reducible repeat (first | refine blk_drewN ?_ _ | refine blk_drew ?_ | refine blk_alloc ?_ _)); refine blk_far ?_ NB195_204.out _; (with_reducible repeat (first | refine blk_drewN ?_ _ | refine blk_drew ?_ | refine blk_alloc ?_ _)); refine blk_far ?_ NB195_204.out _; (with_reducible repeat (first | refine blk_drewN ?_ _ | refine blk_drew ?_ | refine blk_alloc ?_ _)); exact BK195.out) hb); have n1_ := Aside0.mk (blk_below (g := gb196) (o := .cells #[.bool true, .int .i64 0, .int .i64 256, .int .i64 9, .int .i64 96, .int .i64 0] 23 (0, 0)) (by (with_reducible repeat (first | refine blk_drewN ?_ _ | refine blk_drew ?_ | refine blk_alloc ?_ _)); refine blk_far ?_ NB196_204.out _; (with_reducible repeat (first | refine blk_drewN ?_ _ | refine blk_drew ?_ | refine blk_alloc ?_ _)); refine blk_far ?_ NB196_204.out _; (with_reducible repeat (first | refine blk_drewN ?_ _ | refine blk_drew ?_ | refine blk_alloc ?_ _)); refine blk_far ?_ NB196_204.out _; (with_reducible repeat (first | refine blk_drewN ?_ _ | refine blk_drew ?_ | refine blk_alloc ?_ _)); refine blk_far ?_ NB196_204.out _; (with_reducible repeat (first | refine blk_drewN ?_ _ | refine blk_drew ?_ | refine blk_alloc ?_ _)); refine blk_far ?_ NB196_204.out _; (with_reducible repeat (first | refine blk_drewN ?_ _ | refine blk_drew ?_ | refine blk_alloc ?_ _)); refine blk_far ?_ NB196_204.out _; (with_reducible repeat (first | refine blk_drewN ?_ _ | refine blk_drew ?_ | refine blk_alloc ?_ _)); exact BK196.out) hb); have n2_ := Aside0.mk (blk_below (g := gb204) (o := .cells #[.bool t197, .int .i64 t198, .int .i64 t199, .int .i64 t200, .int .i64 t201, .int .i64 t202] 23 (0, 0)) (by (with_reducible repeat (first | refine blk_drewN ?_ _ | refine blk_drew ?_ | refine blk_alloc ?_ _)); refine blk_put (cs := #[.bool t197, .int .i64 t198, .int .i64 t199, .int .i64 t200, .int .i64 t201, .int .i64 0]) ?_ 5 _ rfl; refine blk_put (cs := #[.bool t197, .int .i64 t198, .int .i64 t199, .int .i64 t200, .int .i64 0, .int .i64 0]) ?_ 4 _ rfl; refine blk_put (cs := #[.bool t197, .int .i64 t198, .int .i64 t199, .int .i64 0, .int .i64 0, .int .i64 0]) ?_ 3 _ rfl; refine blk_put (cs := #[.bool t197, .int .i64 t198, .int .i64 0, .int .i64 0, .int .i64 0, .int .i64 0]) ?_ 2 _ rfl; refine blk_put (cs := #[.bool t197, .int .i64 0, .int .i64 0, .int .i64 0, .int .i64 0, .int .i64 0]) ?_ 1 _ rfl; refine blk_put (cs := #[.bool false, .int .i64 0, .int .i64 0, .int .i64 0, .int .i64 0, .int .i64 0]) ?_ 0 _ rfl; (with_reducible repeat (first | refine blk_drewN ?_ _ | refine blk_drew ?_ | refine blk_alloc ?_ _)); exact BK204.out) hb); have n3_ := q2_ HB hb; clear BK195; clear BK196; clear BK204; clear HB; have BK195 := n0_; have BK196 := n1_; have BK204 := n2_; have HB := n3_; clear n0_ n1_ n2_ n3_; (try clear hb); (try clear hb2); (try clear hk); (try clear hi)) | ((with_reducible refine gate_dst (N := 5) rfl ?_); refine box_event ?hg (N := 5) ?hd (cs := #[.bool false, .int .i64 0, .int .i64 0, .int .i64 0, .int .i64 0, .int .i64 0]) (t := 23) ?hr ?_; (case hd => rfl); (case hg => rfl); (case hr => first | (go_simp; done) | (go_simp; rfl)); intro gb212 hg w38 hbox hb; have n0_ := q1_ BK195 hb; have n1_ := q1_ BK196 hb; have n2_ := q1_ BK204 hb; have n3_ := q2_ HB hb; have n4_ := Aside0.mk (hbox); have n5_ := q11_ HB hg; have n6_ := q11_ HB hg; have n7_ := q12_ BK195 hg; have n8_ := q13_ BK195 hg; have n9_ := q12_ BK196 hg; have n10_ := q13_ BK196 hg; have n11_ := q12_ BK204 hg; have n12_ := q13_ BK204 hg; clear BK195; clear BK196; clear BK204; clear HB; have BK195 := n0_; have BK196 := n1_; have BK204 := n2_; have HB := n3_; have BK212 := n4_; have GW212 := n5_; have GE212 := n6_; have NB195_212 := n7_; have NB212_195 := n8_; have NB196_212 := n9_; have NB212_196 := n10_; have NB204_212 := n11_; have NB212_204 := n12_; clear n0_ n1_ n2_ n3_ n4_ n5_ n6_ n7_ n8_ n9_ n10_ n11_ n12_; clear hb hbox hg; have hnb39 := NB212_195.out; have hnc39 := NB195_212.out; have hnb40 := NB212_196.out; have hnc40 := NB196_212.out; have hnb41 := NB212_204.out; have hnc41 := NB204_212.out; obtain ⟨hcz42_0, hcz42_1, hcz42_2, hcz42_3, hcz42_4, hcz42_5⟩ := q9_ BK212; obtain ⟨hfz42_0, hfz42_1, hfz42_2, hfz42_3, hfz42_4, hfz42_5⟩ := q10_ BK212; obtain ⟨hcz43_0, hcz43_1, hcz43_2, hcz43_3, hcz43_4, hcz43_5⟩ := q9_ BK195; obtain ⟨hfz43_0, hfz43_1, hfz43_2, hfz43_3, hfz43_4, hfz43_5⟩ := q10_ BK195) | ((with_reducible refine gate_callee (f := 13) rfl ?_); refine goesL_ (some 35) rfl rfl Try.func13 (by kernel_rfl) rfl #[.agg #[.bool true, .int .i64 16, .int .i64 48, .int .i64 20, .int .i64 7, .int .i64 0], .int .i64 1] rfl (by (try simp only [List.map_toArray, List.map_cons, List.map_nil]); first | done | rfl | (simp only [List.length_drop, List.length_take]; rfl)) ?_; (with_reducible refine (derive_Perms.calls true 16 48 20 7 0 1 t213 t214 t215 t216 t217 t218 t219 _ A3.out).mono ?_); rintro e w44 ⟨rfl, hb⟩; refine ⟨_, rfl, ?_⟩; have n0_ := Aside0.mk (blk_below (g := gb195) (o := .cells #[.bool true, .int .i64 16, .int .i64 48, .int .i64 20, .int .i64 7, .int .i64 0] 23 (0, 0)) (by (with_reducible repeat (first | refine blk_drewN ?_ _ | refine blk_drew ?_ | refine blk_alloc ?_ _)); refine blk_far ?_ NB195_212.out _; (with_reducible repeat (first | refine blk_drewN ?_ _ | refine blk_drew ?_ | refine blk_alloc ?_ _)); refine blk_far ?_ NB195_212.out _; (with_reducible repeat (first | refine blk_drewN ?_ _ | refine blk_drew ?_ | refine blk_alloc ?_ _)); refine blk_far ?_ NB195_212.out _; (with_reducible repeat (first | refine blk_drewN ?_ _ | refine blk_drew ?_ | refine blk_alloc ?_ _)); refine blk_far ?_ NB195_212.out _; (with_reducible repeat (first | refine blk_drewN ?_ _ | refine blk_drew ?_ | refine blk_alloc ?_ _)); refine blk_far ?_ NB195_212.out _; (with_reducible repeat (first | refine blk_drewN ?_ _ | refine blk_drew ?_ | refine blk_alloc ?_ _)); refine blk_far ?_ NB195_212.out _; (with_reducible repeat (first | refine blk_drewN ?_ _ | refine blk_drew ?_ | refine blk_alloc ?_ _)); exact BK195.out) hb); have n1_ := Aside0.mk (blk_below (g := gb196) (o := .cells #[.bool true, .int .i64 0, .int .i64 256, .int .i64 9, .int .i64 96, .int .i64 0] 23 (0, 0)) (by (with_reducible repeat (first | refine blk_drewN ?_ _ | refine blk_drew ?_ | refine blk_alloc ?_ _)); refine blk_far ?_ NB196_212.out _; (with_reducible repeat (first | refine blk_drewN ?_ _ | refine blk_drew ?_ | refine blk_alloc ?_ _)); refine blk_far ?_ NB196_212.out _; (with_reducible repeat (first | refine blk_drewN ?_ _ | refine blk_drew ?_ | refine blk_alloc ?_ _)); refine blk_far ?_ NB196_212.out _; (with_reducible repeat (first | refine blk_drewN ?_ _ | refine blk_drew ?_ | refine blk_alloc ?_ _)); refine blk_far ?_ NB196_212.out _; (with_reducible repeat (first | refine blk_drewN ?_ _ | refine blk_drew ?_ | refine blk_alloc ?_ _)); refine blk_far ?_ NB196_212.out _; (with_reducible repeat (first | refine blk_drewN ?_ _ | refine blk_drew ?_ | refine blk_alloc ?_ _)); refine blk_far ?_ NB196_212.out _; (with_reducible repeat (first | refine blk_drewN ?_ _ | refine blk_drew ?_ | refine blk_alloc ?_ _)); exact BK196.out) hb); have n2_ := Aside0.mk (blk_below (g := gb204) (o := .cells #[.bool t197, .int .i64 t198, .int .i64 t199, .int .i64 t200, .int .i64 t201, .int .i64 t202] 23 (0, 0)) (by (with_reducible repeat (first | refine blk_drewN ?_ _ | refine blk_drew ?_ | refine blk_alloc ?_ _)); refine blk_far ?_ NB204_212.out _; (with_reducible repeat (first | refine blk_drewN ?_ _ | refine blk_drew ?_ | refine blk_alloc ?_ _)); refine blk_far ?_ NB204_212.out _; (with_reducible repeat (first | refine blk_drewN ?_ _ | refine blk_drew ?_ | refine blk_alloc ?_ _)); refine blk_far ?_ NB204_212.out _; (with_reducible repeat (first | refine blk_drewN ?_ _ | refine blk_drew ?_ | refine blk_alloc ?_ _)); refine blk_far ?_ NB204_212.out _; (with_reducible repeat (first | refine blk_drewN ?_ _ | refine blk_drew ?_ | refine blk_alloc ?_ _)); refine blk_far ?_ NB204_212.out _; (with_reducible repeat (first | refine blk_drewN ?_ _ | refine blk_drew ?_ | refine blk_alloc ?_ _)); refine blk_far ?_ NB204_212.out _; (with_reducible repeat (first | refine blk_drewN ?_ _ | refine blk_drew ?_ | refine blk_alloc ?_ _)); exact BK204.out) hb); have n3_ := Aside0.mk (blk_below (g := gb212) (o := .cells #[.bool t205, .int .i64 t206, .int .i64 t207, .int .i64 t208, .int .i64 t209, .int .i64 t210] 23 (0, 0)) (by (with_reducible repeat (first | refine blk_drewN ?_ _ | refine blk_drew ?_ | refine blk_alloc ?_ _)); refine blk_put (cs := #[.bool t205, .int .i64 t206, .int .i64 t207, .int .i64 t208, .int .i64 t209, .int .i64 0]) ?_ 5 _ rfl; refine blk_put (cs := #[.bool t205, .int .i64 t206, .int .i64 t207, .int .i64 t208, .int .i64 0, .int .i64 0]) ?_ 4 _ rfl; refine blk_put (cs := #[.bool t205, .int .i64 t206, .int .i64 t207, .int .i64 0, .int .i64 0, .int .i64 0]) ?_ 3 _ rfl; refine blk_put (cs := #[.bool t205, .int .i64 t206, .int .i64 0, .int .i64 0, .int .i64 0, .int .i64 0]) ?_ 2 _ rfl; refine blk_put (cs := #[.bool t205, .int .i64 0, .int .i64 0, .int .i64 0, .int .i64 0, .int .i64 0]) ?_ 1 _ rfl; refine blk_put (cs := #[.bool false, .int .i64 0, .int .i64 0, .int .i64 0, .int .i64 0, .int .i64 0]) ?_ 0 _ rfl; (with_reducible repeat (first | refine blk_drewN ?_ _ | refine blk_drew ?_ | refine blk_alloc ?_ _)); exact BK212.out) hb); have n4_ := q2_ HB hb; clear BK195; clear BK196; clear BK204; clear BK212; clear HB; have BK195 := n0_; have BK196 := n1_; have BK204 := n2_; have BK212 := n3_; have HB := n4_; clear n0_ n1_ n2_ n3_ n4_; (try clear hb); (try clear hb2); (try clear hk); (try clear hi)) | ((with_reducible refine gate_dst (N := 7) rfl ?_); refine box_event ?hg (N := 7) ?hd (cs := #[.bool false, .int .i64 0, .int .i64 0, .int .i64 0, .int .i64 0, .int .i64 0]) (t := 23) ?hr ?_; (case hd => rfl); (case hg => rfl); (case hr => first | (go_simp; done) | (go_simp; rfl)); intro gb220 hg w45 hbox hb; have n0_ := q1_ BK195 hb; have n1_ := q1_ BK196 hb; have n2_ := q1_ BK204 hb; have n3_ := q1_ BK212 hb; have n4_ := q2_ HB hb; have n5_ := Aside0.mk (hbox); have n6_ := q11_ HB hg; have n7_ := q11_ HB hg; have n8_ := q12_ BK195 hg; have n9_ := q13_ BK195 hg; have n10_ := q12_ BK196 hg; have n11_ := q13_ BK196 hg; have n12_ := q12_ BK204 hg; have n13_ := q13_ BK204 hg; have n14_ := q12_ BK212 hg; have n15_ := q13_ BK212 hg; clear BK195; clear BK196; clear BK204; clear BK212; clear HB; have BK195 := n0_; have BK196 := n1_; have BK204 := n2_; have BK212 := n3_; have HB := n4_; have BK220 := n5_; have GW220 := n6_; have GE220 := n7_; have NB195_220 := n8_; have NB220_195 := n9_; have NB196_220 := n10_; have NB220_196 := n11_; have NB204_220 := n12_; have NB220_204 := n13_; have NB212_220 := n14_; have NB220_212 := n15_; clear n0_ n1_ n2_ n3_ n4_ n5_ n6_ n7_ n8_ n9_ n10_ n11_ n12_ n13_ n14_ n15_; clear hb hbox hg; have hnb46 := NB220_195.out; have hnc46 := NB195_220.out; have hnb47 := NB220_196.out; have hnc47 := NB196_220.out; have hnb48 := NB220_204.out; have hnc48 := NB204_220.out; have hnb49 := NB220_212.out; have hnc49 := NB212_220.out; obtain ⟨hcz50_0, hcz50_1, hcz50_2, hcz50_3, hcz50_4, hcz50_5⟩ := q9_ BK220; obtain ⟨hfz50_0, hfz50_1, hfz50_2, hfz50_3, hfz50_4, hfz50_5⟩ := q10_ BK220; obtain ⟨hcz51_0, hcz51_1, hcz51_2, hcz51_3, hcz51_4, hcz51_5⟩ := q9_ BK195; obtain ⟨hfz51_0, hfz51_1, hfz51_2, hfz51_3, hfz51_4, hfz51_5⟩ := q10_ BK195) | ((with_reducible refine gate_callee (f := 15) rfl ?_); refine goesL_ (some 40) rfl rfl Try.func15 (by kernel_rfl) rfl #[.agg #[.bool true, .int .i64 16, .int .i64 48, .int .i64 20, .int .i64 7, .int .i64 0], .int .i64 (-1)] rfl (by (try simp only [List.map_toArray, List.map_cons, List.map_nil]); first | done | rfl | (simp only [List.length_drop, List.length_take]; rfl)) ?_; (with_reducible refine (derive_Move.calls true 16 48 20 7 0 (-1) true t222 t223 t224 t225 t226 t227 _ A4.out).mono ?_); rintro e w52 ⟨rfl, hb⟩; refine ⟨_, rfl, ?_⟩; have n0_ := Aside0.mk (blk_below (g := gb195) (o := .cells #[.bool true, .int .i64 16, .int .i64 48, .int .i64 20, .int .i64 7, .int .i64 0] 23 (0, 0)) (by (with_reducible repeat (first | refine blk_drewN ?_ _ | refine blk_drew ?_ | refine blk_alloc ?_ _)); refine blk_far ?_ NB195_220.out _; (with_reducible repeat (first | refine blk_drewN ?_ _ | refine blk_drew ?_ | refine blk_alloc ?_ _)); refine blk_far ?_ NB195_220.out _; (with_reducible repeat (first | refine blk_drewN ?_ _ | refine blk_drew ?_ | refine blk_alloc ?_ _)); refine blk_far ?_ NB195_220.out _; (with_reducible repeat (first | refine blk_drewN ?_ _ | refine blk_drew ?_ | refine blk_alloc ?_ _)); refine blk_far ?_ NB195_220.out _; (with_reducible repeat (first | refine blk_drewN ?_ _ | refine blk_drew ?_ | refine blk_alloc ?_ _)); refine blk_far ?_ NB195_220.out _; (with_reducible repeat (first | refine blk_drewN ?_ _ | refine blk_drew ?_ | refine blk_alloc ?_ _)); refine blk_far ?_ NB195_220.out _; (with_reducible repeat (first | refine blk_drewN ?_ _ | refine blk_drew ?_ | refine blk_alloc ?_ _)); exact BK195.out) hb); have n1_ := Aside0.mk (blk_below (g := gb196) (o := .cells #[.bool true, .int .i64 0, .int .i64 256, .int .i64 9, .int .i64 96, .int .i64 0] 23 (0, 0)) (by (with_reducible repeat (first | refine blk_drewN ?_ _ | refine blk_drew ?_ | refine blk_alloc ?_ _)); refine blk_far ?_ NB196_220.out _; (with_reducible repeat (first | refine blk_drewN ?_ _ | refine blk_drew ?_ | refine blk_alloc ?_ _)); refine blk_far ?_ NB196_220.out _; (with_reducible repeat (first | refine blk_drewN ?_ _ | refine blk_drew ?_ | refine blk_alloc ?_ _)); refine blk_far ?_ NB196_220.out _; (with_reducible repeat (first | refine blk_drewN ?_ _ | refine blk_drew ?_ | refine blk_alloc ?_ _)); refine blk_far ?_ NB196_220.out _; (with_reducible repeat (first | refine blk_drewN ?_ _ | refine blk_drew ?_ | refine blk_alloc ?_ _)); refine blk_far ?_ NB196_220.out _; (with_reducible repeat (first | refine blk_drewN ?_ _ | refine blk_drew ?_ | refine blk_alloc ?_ _)); refine blk_far ?_ NB196_220.out _; (with_reducible repeat (first | refine blk_drewN ?_ _ | refine blk_drew ?_ | refine blk_alloc ?_ _)); exact BK196.out) hb); have n2_ := Aside0.mk (blk_below (g := gb204) (o := .cells #[.bool t197, .int .i64 t198, .int .i64 t199, .int .i64 t200, .int .i64 t201, .int .i64 t202] 23 (0, 0)) (by (with_reducible repeat (first | refine blk_drewN ?_ _ | refine blk_drew ?_ | refine blk_alloc ?_ _)); refine blk_far ?_ NB204_220.out _; (with_reducible repeat (first | refine blk_drewN ?_ _ | refine blk_drew ?_ | refine blk_alloc ?_ _)); refine blk_far ?_ NB204_220.out _; (with_reducible repeat (first | refine blk_drewN ?_ _ | refine blk_drew ?_ | refine blk_alloc ?_ _)); refine blk_far ?_ NB204_220.out _; (with_reducible repeat (first | refine blk_drewN ?_ _ | refine blk_drew ?_ | refine blk_alloc ?_ _)); refine blk_far ?_ NB204_220.out _; (with_reducible repeat (first | refine blk_drewN ?_ _ | refine blk_drew ?_ | refine blk_alloc ?_ _)); refine blk_far ?_ NB204_220.out _; (with_reducible repeat (first | refine blk_drewN ?_ _ | refine blk_drew ?_ | refine blk_alloc ?_ _)); refine blk_far ?_ NB204_220.out _; (with_reducible repeat (first | refine blk_drewN ?_ _ | refine blk_drew ?_ | refine blk_alloc ?_ _)); exact BK204.out) hb); have n3_ := Aside0.mk (blk_below (g := gb212) (o := .cells #[.bool t205, .int .i64 t206, .int .i64 t207, .int .i64 t208, .int .i64 t209, .int .i64 t210] 23 (0, 0)) (by (with_reducible repeat (first | refine blk_drewN ?_ _ | refine blk_drew ?_ | refine blk_alloc ?_ _)); refine blk_far ?_ NB212_220.out _; (with_reducible repeat (first | refine blk_drewN ?_ _ | refine blk_drew ?_ | refine blk_alloc ?_ _)); refine blk_far ?_ NB212_220.out _; (with_reducible repeat (first | refine blk_drewN ?_ _ | refine blk_drew ?_ | refine blk_alloc ?_ _)); refine blk_far ?_ NB212_220.out _; (with_reducible repeat (first | refine blk_drewN ?_ _ | refine blk_drew ?_ | refine blk_alloc ?_ _)); refine blk_far ?_ NB212_220.out _; (with_reducible repeat (first | refine blk_drewN ?_ _ | refine blk_drew ?_ | refine blk_alloc ?_ _)); refine blk_far ?_ NB212_220.out _; (with_reducible repeat (first | refine blk_drewN ?_ _ | refine blk_drew ?_ | refine blk_alloc ?_ _)); refine blk_far ?_ NB212_220.out _; (with_reducible repeat (first | refine blk_drewN ?_ _ | refine blk_drew ?_ | refine blk_alloc ?_ _)); exact BK212.out) hb); have n4_ := Aside0.mk (blk_below (g := gb220) (o := .cells #[.bool t213, .int .i64 t214, .int .i64 t215, .int .i64 t216, .int .i64 t217, .int .i64 t218] 23 (0, 0)) (by (with_reducible repeat (first | refine blk_drewN ?_ _ | refine blk_drew ?_ | refine blk_alloc ?_ _)); refine blk_put (cs := #[.bool t213, .int .i64 t214, .int .i64 t215, .int .i64 t216, .int .i64 t217, .int .i64 0]) ?_ 5 _ rfl; refine blk_put (cs := #[.bool t213, .int .i64 t214, .int .i64 t215, .int .i64 t216, .int .i64 0, .int .i64 0]) ?_ 4 _ rfl; refine blk_put (cs := #[.bool t213, .int .i64 t214, .int .i64 t215, .int .i64 0, .int .i64 0, .int .i64 0]) ?_ 3 _ rfl; refine blk_put (cs := #[.bool t213, .int .i64 t214, .int .i64 0, .int .i64 0, .int .i64 0, .int .i64 0]) ?_ 2 _ rfl; refine blk_put (cs := #[.bool t213, .int .i64 0, .int .i64 0, .int .i64 0, .int .i64 0, .int .i64 0]) ?_ 1 _ rfl; refine blk_put (cs := #[.bool false, .int .i64 0, .int .i64 0, .int .i64 0, .int .i64 0, .int .i64 0]) ?_ 0 _ rfl; (with_reducible repeat (first | refine blk_drewN ?_ _ | refine blk_drew ?_ | refine blk_alloc ?_ _)); exact BK220.out) hb); have n5_ := q2_ HB hb; clear BK195; clear BK196; clear BK204; clear BK212; clear BK220; clear HB; have BK195 := n0_; have BK196 := n1_; have BK204 := n2_; have BK212 := n3_; have BK220 := n4_; have HB := n5_; clear n0_ n1_ n2_ n3_ n4_ n5_; (try clear hb); (try clear hb2); (try clear hk); (try clear hi)) | ((with_reducible refine gate_dst (N := 9) rfl ?_); refine box_event ?hg (N := 9) ?hd (cs := #[.bool false, .int .i64 0, .int .i64 0, .int .i64 0, .int .i64 0, .int .i64 0]) (t := 23) ?hr ?_; (case hd => rfl); (case hg => rfl); (case hr => first | (go_simp; done) | (go_simp; rfl)); intro gb228 hg w53 hbox hb; have n0_ := q1_ BK195 hb; have n1_ := q1_ BK196 hb; have n2_ := q1_ BK204 hb; have n3_ := q1_ BK212 hb; have n4_ := q1_ BK220 hb; have n5_ := q2_ HB hb; have n6_ := Aside0.mk (hbox); have n7_ := q11_ HB hg; have n8_ := q11_ HB hg; have n9_ := q12_ BK195 hg; have n10_ := q13_ BK195 hg; have n11_ := q12_ BK196 hg; have n12_ := q13_ BK196 hg; have n13_ := q12_ BK204 hg; have n14_ := q13_ BK204 hg; have n15_ := q12_ BK212 hg; have n16_ := q13_ BK212 hg; have n17_ := q12_ BK220 hg; have n18_ := q13_ BK220 hg; clear BK195; clear BK196; clear BK204; clear BK212; clear BK220; clear HB; have BK195 := n0_; have BK196 := n1_; have BK204 := n2_; have BK212 := n3_; have BK220 := n4_; have HB := n5_; have BK228 := n6_; have GW228 := n7_; have GE228 := n8_; have NB195_228 := n9_; have NB228_195 := n10_; have NB196_228 := n11_; have NB228_196 := n12_; have NB204_228 := n13_; have NB228_204 := n14_; have NB212_228 := n15_; have NB228_212 := n16_; have NB220_228 := n17_; have NB228_220 := n18_; clear n0_ n1_ n2_ n3_ n4_ n5_ n6_ n7_ n8_ n9_ n10_ n11_ n12_ n13_ n14_ n15_ n16_ n17_ n18_; clear hb hbox hg; have hnb54 := NB228_195.out; have hnc54 := NB195_228.out; have hnb55 := NB228_196.out; have hnc55 := NB196_228.out; have hnb56 := NB228_204.out; have hnc56 := NB204_228.out; have hnb57 := NB228_212.out; have hnc57 := NB212_228.out; have hnb58 := NB228_220.out; have hnc58 := NB220_228.out; obtain ⟨hcz59_0, hcz59_1, hcz59_2, hcz59_3, hcz59_4, hcz59_5⟩ := q9_ BK228; obtain ⟨hfz59_0, hfz59_1, hfz59_2, hfz59_3, hfz59_4, hfz59_5⟩ := q10_ BK228; obtain ⟨hcz60_0, hcz60_1, hcz60_2, hcz60_3, hcz60_4, hcz60_5⟩ := q9_ BK195; obtain ⟨hfz60_0, hfz60_1, hfz60_2, hfz60_3, hfz60_4, hfz60_5⟩ := q10_ BK195; obtain ⟨hcz61_0, hcz61_1, hcz61_2, hcz61_3, hcz61_4, hcz61_5⟩ := q9_ BK196; obtain ⟨hfz61_0, hfz61_1, hfz61_2, hfz61_3, hfz61_4, hfz61_5⟩ := q10_ BK196) | ((with_reducible refine gate_callee (f := 19) rfl ?_); refine goesL_ (some 46) rfl rfl Try.func19 (by kernel_rfl) rfl #[.agg #[.bool true, .int .i64 16, .int .i64 48, .int .i64 20, .int .i64 7, .int .i64 0], .agg #[.bool true, .int .i64 0, .int .i64 256, .int .i64 9, .int .i64 96, .int .i64 0]] rfl (by (try simp only [List.map_toArray, List.map_cons, List.map_nil]); first | done | rfl | (simp only [List.length_drop, List.length_take]; rfl)) ?_; (with_reducible refine (derive_Seal.calls true 16 48 20 7 0 true 0 256 9 96 0 t229 t230 t231 t232 t233 t234 t235 _ A5.out).mono ?_); rintro e w62 ⟨rfl, hb⟩; refine ⟨_, rfl, ?_⟩; have n0_ := Aside0.mk (blk_below (g := gb195) (o := .cells #[.bool true, .int .i64 16, .int .i64 48, .int .i64 20, .int .i64 7, .int .i64 0] 23 (0, 0)) (by (with_reducible repeat (first | refine blk_drewN ?_ _ | refine blk_drew ?_ | refine blk_alloc ?_ _)); refine blk_far ?_ NB195_228.out _; (with_reducible repeat (first | refine blk_drewN ?_ _ | refine blk_drew ?_ | refine blk_alloc ?_ _)); refine blk_far ?_ NB195_228.out _; (with_reducible repeat (first | refine blk_drewN ?_ _ | refine blk_drew ?_ | refine blk_alloc ?_ _)); refine blk_far ?_ NB195_228.out _; (with_reducible repeat (first | refine blk_drewN ?_ _ | refine blk_drew ?_ | refine blk_alloc ?_ _)); refine blk_far ?_ NB195_228.out _; (with_reducible repeat (first | refine blk_drewN ?_ _ | refine blk_drew ?_ | refine blk_alloc ?_ _)); refine blk_far ?_ NB195_228.out _; (with_reducible repeat (first | refine blk_drewN ?_ _ | refine blk_drew ?_ | refine blk_alloc ?_ _)); refine blk_far ?_ NB195_228.out _; (with_reducible repeat (first | refine blk_drewN ?_ _ | refine blk_drew ?_ | refine blk_alloc ?_ _)); exact BK195.out) hb); have n1_ := Aside0.mk (blk_below (g := gb196) (o := .cells #[.bool true, .int .i64 0, .int .i64 256, .int .i64 9, .int .i64 96, .int .i64 0] 23 (0, 0)) (by (with_reducible repeat (first | refine blk_drewN ?_ _ | refine blk_drew ?_ | refine blk_alloc ?_ _)); refine blk_far ?_ NB196_228.out _; (with_reducible repeat (first | refine blk_drewN ?_ _ | refine blk_drew ?_ | refine blk_alloc ?_ _)); refine blk_far ?_ NB196_228.out _; (with_reducible repeat (first | refine blk_drewN ?_ _ | refine blk_drew ?_ | refine blk_alloc ?_ _)); refine blk_far ?_ NB196_228.out _; (with_reducible repeat (first | refine blk_drewN ?_ _ | refine blk_drew ?_ | refine blk_alloc ?_ _)); refine blk_far ?_ NB196_228.out _; (with_reducible repeat (first | refine blk_drewN ?_ _ | refine blk_drew ?_ | refine blk_alloc ?_ _)); refine blk_far ?_ NB196_228.out _; (with_reducible repeat (first | refine blk_drewN ?_ _ | refine blk_drew ?_ | refine blk_alloc ?_ _)); refine blk_far ?_ NB196_228.out _; (with_reducible repeat (first | refine blk_drewN ?_ _ | refine blk_drew ?_ | refine blk_alloc ?_ _)); exact BK196.out) hb); have n2_ := Aside0.mk (blk_below (g := gb204) (o := .cells #[.bool t197, .int .i64 t198, .int .i64 t199, .int .i64 t200, .int .i64 t201, .int .i64 t202] 23 (0, 0)) (by (with_reducible repeat (first | refine blk_drewN ?_ _ | refine blk_drew ?_ | refine blk_alloc ?_ _)); refine blk_far ?_ NB204_228.out _; (with_reducible repeat (first | refine blk_drewN ?_ _ | refine blk_drew ?_ | refine blk_alloc ?_ _)); refine blk_far ?_ NB204_228.out _; (with_reducible repeat (first | refine blk_drewN ?_ _ | refine blk_drew ?_ | refine blk_alloc ?_ _)); refine blk_far ?_ NB204_228.out _; (with_reducible repeat (first | refine blk_drewN ?_ _ | refine blk_drew ?_ | refine blk_alloc ?_ _)); refine blk_far ?_ NB204_228.out _; (with_reducible repeat (first | refine blk_drewN ?_ _ | refine blk_drew ?_ | refine blk_alloc ?_ _)); refine blk_far ?_ NB204_228.out _; (with_reducible repeat (first | refine blk_drewN ?_ _ | refine blk_drew ?_ | refine blk_alloc ?_ _)); refine blk_far ?_ NB204_228.out _; (with_reducible repeat (first | refine blk_drewN ?_ _ | refine blk_drew ?_ | refine blk_alloc ?_ _)); exact BK204.out) hb); have n3_ := Aside0.mk (blk_below (g := gb212) (o := .cells #[.bool t205, .int .i64 t206, .int .i64 t207, .int .i64 t208, .int .i64 t209, .int .i64 t210] 23 (0, 0)) (by (with_reducible repeat (first | refine blk_drewN ?_ _ | refine blk_drew ?_ | refine blk_alloc ?_ _)); refine blk_far ?_ NB212_228.out _; (with_reducible repeat (first | refine blk_drewN ?_ _ | refine blk_drew ?_ | refine blk_alloc ?_ _)); refine blk_far ?_ NB212_228.out _; (with_reducible repeat (first | refine blk_drewN ?_ _ | refine blk_drew ?_ | refine blk_alloc ?_ _)); refine blk_far ?_ NB212_228.out _; (with_reducible repeat (first | refine blk_drewN ?_ _ | refine blk_drew ?_ | refine blk_alloc ?_ _)); refine blk_far ?_ NB212_228.out _; (with_reducible repeat (first | refine blk_drewN ?_ _ | refine blk_drew ?_ | refine blk_alloc ?_ _)); refine blk_far ?_ NB212_228.out _; (with_reducible repeat (first | refine blk_drewN ?_ _ | refine blk_drew ?_ | refine blk_alloc ?_ _)); refine blk_far ?_ NB212_228.out _; (with_reducible repeat (first | refine blk_drewN ?_ _ | refine blk_drew ?_ | refine blk_alloc ?_ _)); exact BK212.out) hb); have n4_ := Aside0.mk (blk_below (g := gb220) (o := .cells #[.bool t213, .int .i64 t214, .int .i64 t215, .int .i64 t216, .int .i64 t217, .int .i64 t218] 23 (0, 0)) (by (with_reducible repeat (first | refine blk_drewN ?_ _ | refine blk_drew ?_ | refine blk_alloc ?_ _)); refine blk_far ?_ NB220_228.out _; (with_reducible repeat (first | refine blk_drewN ?_ _ | refine blk_drew ?_ | refine blk_alloc ?_ _)); refine blk_far ?_ NB220_228.out _; (with_reducible repeat (first | refine blk_drewN ?_ _ | refine blk_drew ?_ | refine blk_alloc ?_ _)); refine blk_far ?_ NB220_228.out _; (with_reducible repeat (first | refine blk_drewN ?_ _ | refine blk_drew ?_ | refine blk_alloc ?_ _)); refine blk_far ?_ NB220_228.out _; (with_reducible repeat (first | refine blk_drewN ?_ _ | refine blk_drew ?_ | refine blk_alloc ?_ _)); refine blk_far ?_ NB220_228.out _; (with_reducible repeat (first | refine blk_drewN ?_ _ | refine blk_drew ?_ | refine blk_alloc ?_ _)); refine blk_far ?_ NB220_228.out _; (with_reducible repeat (first | refine blk_drewN ?_ _ | refine blk_drew ?_ | refine blk_alloc ?_ _)); exact BK220.out) hb); have n5_ := Aside0.mk (blk_below (g := gb228) (o := .cells #[.bool true, .int .i64 t222, .int .i64 t223, .int .i64 t224, .int .i64 t225, .int .i64 t226] 23 (0, 0)) (by (with_reducible repeat (first | refine blk_drewN ?_ _ | refine blk_drew ?_ | refine blk_alloc ?_ _)); refine blk_put (cs := #[.bool true, .int .i64 t222, .int .i64 t223, .int .i64 t224, .int .i64 t225, .int .i64 0]) ?_ 5 _ rfl; refine blk_put (cs := #[.bool true, .int .i64 t222, .int .i64 t223, .int .i64 t224, .int .i64 0, .int .i64 0]) ?_ 4 _ rfl; refine blk_put (cs := #[.bool true, .int .i64 t222, .int .i64 t223, .int .i64 0, .int .i64 0, .int .i64 0]) ?_ 3 _ rfl; refine blk_put (cs := #[.bool true, .int .i64 t222, .int .i64 0, .int .i64 0, .int .i64 0, .int .i64 0]) ?_ 2 _ rfl; refine blk_put (cs := #[.bool true, .int .i64 0, .int .i64 0, .int .i64 0, .int .i64 0, .int .i64 0]) ?_ 1 _ rfl; refine blk_put (cs := #[.bool false, .int .i64 0, .int .i64 0, .int .i64 0, .int .i64 0, .int .i64 0]) ?_ 0 _ rfl; (with_reducible repeat (first | refine blk_drewN ?_ _ | refine blk_drew ?_ | refine blk_alloc ?_ _)); exact BK228.out) hb); have n6_ := q2_ HB hb; clear BK195; clear BK196; clear BK204; clear BK212; clear BK220; clear BK228; clear HB; have BK195 := n0_; have BK196 := n1_; have BK204 := n2_; have BK212 := n3_; have BK220 := n4_; have BK228 := n5_; have HB := n6_; clear n0_ n1_ n2_ n3_ n4_ n5_ n6_; (try clear hb); (try clear hb2); (try clear hk); (try clear hi)) | ((with_reducible refine gate_dst (N := 11) rfl ?_); refine box_event ?hg (N := 11) ?hd (cs := #[.bool false, .int .i64 0, .int .i64 0, .int .i64 0, .int .i64 0, .int .i64 0]) (t := 23) ?hr ?_; (case hd => rfl); (case hg => rfl); (case hr => first | (go_simp; done) | (go_simp; rfl)); intro gb236 hg w63 hbox hb; have n0_ := q1_ BK195 hb; have n1_ := q1_ BK196 hb; have n2_ := q1_ BK204 hb; have n3_ := q1_ BK212 hb; have n4_ := q1_ BK220 hb; have n5_ := q1_ BK228 hb; have n6_ := q2_ HB hb; have n7_ := Aside0.mk (hbox); have n8_ := q11_ HB hg; have n9_ := q11_ HB hg; have n10_ := q12_ BK195 hg; have n11_ := q13_ BK195 hg; have n12_ := q12_ BK196 hg; have n13_ := q13_ BK196 hg; have n14_ := q12_ BK204 hg; have n15_ := q13_ BK204 hg; have n16_ := q12_ BK212 hg; have n17_ := q13_ BK212 hg; have n18_ := q12_ BK220 hg; have n19_ := q13_ BK220 hg; have n20_ := q12_ BK228 hg; have n21_ := q13_ BK228 hg; clear BK195; clear BK196; clear BK204; clear BK212; clear BK220; clear BK228; clear HB; have BK195 := n0_; have BK196 := n1_; have BK204 := n2_; have BK212 := n3_; have BK220 := n4_; have BK228 := n5_; have HB := n6_; have BK236 := n7_; have GW236 := n8_; have GE236 := n9_; have NB195_236 := n10_; have NB236_195 := n11_; have NB196_236 := n12_; have NB236_196 := n13_; have NB204_236 := n14_; have NB236_204 := n15_; have NB212_236 := n16_; have NB236_212 := n17_; have NB220_236 := n18_; have NB236_220 := n19_; have NB228_236 := n20_; have NB236_228 := n21_; clear n0_ n1_ n2_ n3_ n4_ n5_ n6_ n7_ n8_ n9_ n10_ n11_ n12_ n13_ n14_ n15_ n16_ n17_ n18_ n19_ n20_ n21_; clear hb hbox hg; have hnb64 := NB236_195.out; have hnc64 := NB195_236.out; have hnb65 := NB236_196.out; have hnc65 := NB196_236.out; have hnb66 := NB236_204.out; have hnc66 := NB204_236.out; have hnb67 := NB236_212.out; have hnc67 := NB212_236.out; have hnb68 := NB236_220.out; have hnc68 := NB220_236.out; have hnb69 := NB236_228.out; have hnc69 := NB228_236.out; obtain ⟨hcz70_0, hcz70_1, hcz70_2, hcz70_3, hcz70_4, hcz70_5⟩ := q9_ BK236; obtain ⟨hfz70_0, hfz70_1, hfz70_2, hfz70_3, hfz70_4, hfz70_5⟩ := q10_ BK236; obtain ⟨hcz71_0, hcz71_1, hcz71_2, hcz71_3, hcz71_4, hcz71_5⟩ := q9_ BK196; obtain ⟨hfz71_0, hfz71_1, hfz71_2, hfz71_3, hfz71_4, hfz71_5⟩ := q10_ BK196) | ((with_reducible refine gate_callee (f := 21) rfl ?_); refine goesL_ (some 52) rfl rfl Try.func21 (by kernel_rfl) rfl #[.agg #[.bool t229, .int .i64 t230, .int .i64 t231, .int .i64 t232, .int .i64 t233, .int .i64 t234], .agg #[.bool true, .int .i64 0, .int .i64 256, .int .i64 9, .int .i64 96, .int .i64 0]] rfl (by (try simp only [List.map_toArray, List.map_cons, List.map_nil]); first | done | rfl | (simp only [List.length_drop, List.length_take]; rfl)) ?_; (with_reducible refine (derive_Unseal.calls t229 t230 t231 t232 t233 t234 true 0 256 9 96 0 t237 t238 t239 t240 t241 t242 t243 _ A6.out).mono ?_); rintro e w72 ⟨rfl, hb⟩; refine ⟨_, rfl, ?_⟩; have n0_ := Aside0.mk (blk_below (g := gb195) (o := .cells #[.bool true, .int .i64 16, .int .i64 48, .int .i64 20, .int .i64 7, .int .i64 0] 23 (0, 0)) (by (with_reducible repeat (first | refine blk_drewN ?_ _ | refine blk_drew ?_ | refine blk_alloc ?_ _)); refine blk_far ?_ NB195_236.out _; (with_reducible repeat (first | refine blk_drewN ?_ _ | refine blk_drew ?_ | refine blk_alloc ?_ _)); refine blk_far ?_ NB195_236.out _; (with_reducible repeat (first | refine blk_drewN ?_ _ | refine blk_drew ?_ | refine blk_alloc ?_ _)); refine blk_far ?_ NB195_236.out _; (with_reducible repeat (first | refine blk_drewN ?_ _ | refine blk_drew ?_ | refine blk_alloc ?_ _)); refine blk_far ?_ NB195_236.out _; (with_reducible repeat (first | refine blk_drewN ?_ _ | refine blk_drew ?_ | refine blk_alloc ?_ _)); refine blk_far ?_ NB195_236.out _; (with_reducible repeat (first | refine blk_drewN ?_ _ | refine blk_drew ?_ | refine blk_alloc ?_ _)); refine blk_far ?_ NB195_236.out _; (with_reducible repeat (first | refine blk_drewN ?_ _ | refine blk_drew ?_ | refine blk_alloc ?_ _)); exact BK195.out) hb); have n1_ := Aside0.mk (blk_below (g := gb196) (o := .cells #[.bool true, .int .i64 0, .int .i64 256, .int .i64 9, .int .i64 96, .int .i64 0] 23 (0, 0)) (by (with_reducible repeat (first | refine blk_drewN ?_ _ | refine blk_drew ?_ | refine blk_alloc ?_ _)); refine blk_far ?_ NB196_236.out _; (with_reducible repeat (first | refine blk_drewN ?_ _ | refine blk_drew ?_ | refine blk_alloc ?_ _)); refine blk_far ?_ NB196_236.out _; (with_reducible repeat (first | refine blk_drewN ?_ _ | refine blk_drew ?_ | refine blk_alloc ?_ _)); refine blk_far ?_ NB196_236.out _; (with_reducible repeat (first | refine blk_drewN ?_ _ | refine blk_drew ?_ | refine blk_alloc ?_ _)); refine blk_far ?_ NB196_236.out _; (with_reducible repeat (first | refine blk_drewN ?_ _ | refine blk_drew ?_ | refine blk_alloc ?_ _)); refine blk_far ?_ NB196_236.out _; (with_reducible repeat (first | refine blk_drewN ?_ _ | refine blk_drew ?_ | refine blk_alloc ?_ _)); refine blk_far ?_ NB196_236.out _; (with_reducible repeat (first | refine blk_drewN ?_ _ | refine blk_drew ?_ | refine blk_alloc ?_ _)); exact BK196.out) hb); have n2_ := Aside0.mk (blk_below (g := gb204) (o := .cells #[.bool t197, .int .i64 t198, .int .i64 t199, .int .i64 t200, .int .i64 t201, .int .i64 t202] 23 (0, 0)) (by (with_reducible repeat (first | refine blk_drewN ?_ _ | refine blk_drew ?_ | refine blk_alloc ?_ _)); refine blk_far ?_ NB204_236.out _; (with_reducible repeat (first | refine blk_drewN ?_ _ | refine blk_drew ?_ | refine blk_alloc ?_ _)); refine blk_far ?_ NB204_236.out _; (with_reducible repeat (first | refine blk_drewN ?_ _ | refine blk_drew ?_ | refine blk_alloc ?_ _)); refine blk_far ?_ NB204_236.out _; (with_reducible repeat (first | refine blk_drewN ?_ _ | refine blk_drew ?_ | refine blk_alloc ?_ _)); refine blk_far ?_ NB204_236.out _; (with_reducible repeat (first | refine blk_drewN ?_ _ | refine blk_drew ?_ | refine blk_alloc ?_ _)); refine blk_far ?_ NB204_236.out _; (with_reducible repeat (first | refine blk_drewN ?_ _ | refine blk_drew ?_ | refine blk_alloc ?_ _)); refine blk_far ?_ NB204_236.out _; (with_reducible repeat (first | refine blk_drewN ?_ _ | refine blk_drew ?_ | refine blk_alloc ?_ _)); exact BK204.out) hb); have n3_ := Aside0.mk (blk_below (g := gb212) (o := .cells #[.bool t205, .int .i64 t206, .int .i64 t207, .int .i64 t208, .int .i64 t209, .int .i64 t210] 23 (0, 0)) (by (with_reducible repeat (first | refine blk_drewN ?_ _ | refine blk_drew ?_ | refine blk_alloc ?_ _)); refine blk_far ?_ NB212_236.out _; (with_reducible repeat (first | refine blk_drewN ?_ _ | refine blk_drew ?_ | refine blk_alloc ?_ _)); refine blk_far ?_ NB212_236.out _; (with_reducible repeat (first | refine blk_drewN ?_ _ | refine blk_drew ?_ | refine blk_alloc ?_ _)); refine blk_far ?_ NB212_236.out _; (with_reducible repeat (first | refine blk_drewN ?_ _ | refine blk_drew ?_ | refine blk_alloc ?_ _)); refine blk_far ?_ NB212_236.out _; (with_reducible repeat (first | refine blk_drewN ?_ _ | refine blk_drew ?_ | refine blk_alloc ?_ _)); refine blk_far ?_ NB212_236.out _; (with_reducible repeat (first | refine blk_drewN ?_ _ | refine blk_drew ?_ | refine blk_alloc ?_ _)); refine blk_far ?_ NB212_236.out _; (with_reducible repeat (first | refine blk_drewN ?_ _ | refine blk_drew ?_ | refine blk_alloc ?_ _)); exact BK212.out) hb); have n4_ := Aside0.mk (blk_below (g := gb220) (o := .cells #[.bool t213, .int .i64 t214, .int .i64 t215, .int .i64 t216, .int .i64 t217, .int .i64 t218] 23 (0, 0)) (by (with_reducible repeat (first | refine blk_drewN ?_ _ | refine blk_drew ?_ | refine blk_alloc ?_ _)); refine blk_far ?_ NB220_236.out _; (with_reducible repeat (first | refine blk_drewN ?_ _ | refine blk_drew ?_ | refine blk_alloc ?_ _)); refine blk_far ?_ NB220_236.out _; (with_reducible repeat (first | refine blk_drewN ?_ _ | refine blk_drew ?_ | refine blk_alloc ?_ _)); refine blk_far ?_ NB220_236.out _; (with_reducible repeat (first | refine blk_drewN ?_ _ | refine blk_drew ?_ | refine blk_alloc ?_ _)); refine blk_far ?_ NB220_236.out _; (with_reducible repeat (first | refine blk_drewN ?_ _ | refine blk_drew ?_ | refine blk_alloc ?_ _)); refine blk_far ?_ NB220_236.out _; (with_reducible repeat (first | refine blk_drewN ?_ _ | refine blk_drew ?_ | refine blk_alloc ?_ _)); refine blk_far ?_ NB220_236.out _; (with_reducible repeat (first | refine blk_drewN ?_ _ | refine blk_drew ?_ | refine blk_alloc ?_ _)); exact BK220.out) hb); have n5_ := Aside0.mk (blk_below (g := gb228) (o := .cells #[.bool true, .int .i64 t222, .int .i64 t223, .int .i64 t224, .int .i64 t225, .int .i64 t226] 23 (0, 0)) (by (with_reducible repeat (first | refine blk_drewN ?_ _ | refine blk_drew ?_ | refine blk_alloc ?_ _)); refine blk_far ?_ NB228_236.out _; (with_reducible repeat (first | refine blk_drewN ?_ _ | refine blk_drew ?_ | refine blk_alloc ?_ _)); refine blk_far ?_ NB228_236.out _; (with_reducible repeat (first | refine blk_drewN ?_ _ | refine blk_drew ?_ | refine blk_alloc ?_ _)); refine blk_far ?_ NB228_236.out _; (with_reducible repeat (first | refine blk_drewN ?_ _ | refine blk_drew ?_ | refine blk_alloc ?_ _)); refine blk_far ?_ NB228_236.out _; (with_reducible repeat (first | refine blk_drewN ?_ _ | refine blk_drew ?_ | refine blk_alloc ?_ _)); refine blk_far ?_ NB228_236.out _; (with_reducible repeat (first | refine blk_drewN ?_ _ | refine blk_drew ?_ | refine blk_alloc ?_ _)); refine blk_far ?_ NB228_236.out _; (with_reducible repeat (first | refine blk_drewN ?_ _ | refine blk_drew ?_ | refine blk_alloc ?_ _)); exact BK228.out) hb); have n6_ := Aside0.mk (blk_below (g := gb236) (o := .cells #[.bool t229, .int .i64 t230, .int .i64 t231, .int .i64 t232, .int .i64 t233, .int .i64 t234] 23 (0, 0)) (by (with_reducible repeat (first | refine blk_drewN ?_ _ | refine blk_drew ?_ | refine blk_alloc ?_ _)); refine blk_put (cs := #[.bool t229, .int .i64 t230, .int .i64 t231, .int .i64 t232, .int .i64 t233, .int .i64 0]) ?_ 5 _ rfl; refine blk_put (cs := #[.bool t229, .int .i64 t230, .int .i64 t231, .int .i64 t232, .int .i64 0, .int .i64 0]) ?_ 4 _ rfl; refine blk_put (cs := #[.bool t229, .int .i64 t230, .int .i64 t231, .int .i64 0, .int .i64 0, .int .i64 0]) ?_ 3 _ rfl; refine blk_put (cs := #[.bool t229, .int .i64 t230, .int .i64 0, .int .i64 0, .int .i64 0, .int .i64 0]) ?_ 2 _ rfl; refine blk_put (cs := #[.bool t229, .int .i64 0, .int .i64 0, .int .i64 0, .int .i64 0, .int .i64 0]) ?_ 1 _ rfl; refine blk_put (cs := #[.bool false, .int .i64 0, .int .i64 0, .int .i64 0, .int .i64 0, .int .i64 0]) ?_ 0 _ rfl; (with_reducible repeat (first | refine blk_drewN ?_ _ | refine blk_drew ?_ | refine blk_alloc ?_ _)); exact BK236.out) hb); have n7_ := q2_ HB hb; clear BK195; clear BK196; clear BK204; clear BK212; clear BK220; clear BK228; clear BK236; clear HB; have BK195 := n0_; have BK196 := n1_; have BK204 := n2_; have BK212 := n3_; have BK220 := n4_; have BK228 := n5_; have BK236 := n6_; have HB := n7_; clear n0_ n1_ n2_ n3_ n4_ n5_ n6_ n7_; (try clear hb); (try clear hb2); (try clear hk); (try clear hi)) | ((with_reducible refine gate_dst (N := 13) rfl ?_); refine box_event ?hg (N := 13) ?hd (cs := #[.bool false, .int .i64 0, .int .i64 0, .int .i64 0, .int .i64 0, .int .i64 0]) (t := 23) ?hr ?_; (case hd => rfl); (case hg => rfl); (case hr => first | (go_simp; done) | (go_simp; rfl)); intro gb244 hg w73 hbox hb; have n0_ := q1_ BK195 hb; have n1_ := q1_ BK196 hb; have n2_ := q1_ BK204 hb; have n3_ := q1_ BK212 hb; have n4_ := q1_ BK220 hb; have n5_ := q1_ BK228 hb; have n6_ := q1_ BK236 hb; have n7_ := q2_ HB hb; have n8_ := Aside0.mk (hbox); have n9_ := q11_ HB hg; have n10_ := q11_ HB hg; have n11_ := q12_ BK195 hg; have n12_ := q13_ BK195 hg; have n13_ := q12_ BK196 hg; have n14_ := q13_ BK196 hg; have n15_ := q12_ BK204 hg; have n16_ := q13_ BK204 hg; have n17_ := q12_ BK212 hg; have n18_ := q13_ BK212 hg; have n19_ := q12_ BK220 hg; have n20_ := q13_ BK220 hg; have n21_ := q12_ BK228 hg; have n22_ := q13_ BK228 hg; have n23_ := q12_ BK236 hg; have n24_ := q13_ BK236 hg; clear BK195; clear BK196; clear BK204; clear BK212; clear BK220; clear BK228; clear BK236; clear HB; have BK195 := n0_; have BK196 := n1_; have BK204 := n2_; have BK212 := n3_; have BK220 := n4_; have BK228 := n5_; have BK236 := n6_; have HB := n7_; have BK244 := n8_; have GW244 := n9_; have GE244 := n10_; have NB195_244 := n11_; have NB244_195 := n12_; have NB196_244 := n13_; have NB244_196 := n14_; have NB204_244 := n15_; have NB244_204 := n16_; have NB212_244 := n17_; have NB244_212 := n18_; have NB220_244 := n19_; have NB244_220 := n20_; have NB228_244 := n21_; have NB244_228 := n22_; have NB236_244 := n23_; have NB244_236 := n24_; clear n0_ n1_ n2_ n3_ n4_ n5_ n6_ n7_ n8_ n9_ n10_ n11_ n12_ n13_ n14_ n15_ n16_ n17_ n18_ n19_ n20_ n21_ n22_ n23_ n24_; clear hb hbox hg; have hnb74 := NB244_195.out; have hnc74 := NB195_244.out; have hnb75 := NB244_196.out; have hnc75 := NB196_244.out; have hnb76 := NB244_204.out; have hnc76 := NB204_244.out; have hnb77 := NB244_212.out; have hnc77 := NB212_244.out; have hnb78 := NB244_220.out; have hnc78 := NB220_244.out; have hnb79 := NB244_228.out; have hnc79 := NB228_244.out; have hnb80 := NB244_236.out; have hnc80 := NB236_244.out; obtain ⟨hcz81_0, hcz81_1, hcz81_2, hcz81_3, hcz81_4, hcz81_5⟩ := q9_ BK244; obtain ⟨hfz81_0, hfz81_1, hfz81_2, hfz81_3, hfz81_4, hfz81_5⟩ := q10_ BK244; obtain ⟨hcz82_0, hcz82_1, hcz82_2, hcz82_3, hcz82_4, hcz82_5⟩ := q9_ BK236; obtain ⟨hfz82_0, hfz82_1, hfz82_2, hfz82_3, hfz82_4, hfz82_5⟩ := q10_ BK236) | ((with_reducible refine gate_callee (f := 11) rfl ?_); refine goesL_ (some 57) rfl rfl Try.func11 (by kernel_rfl) rfl #[.agg #[.bool t229, .int .i64 t230, .int .i64 t231, .int .i64 t232, .int .i64 t233, .int .i64 t234], .int .i64 1] rfl (by (try simp only [List.map_toArray, List.map_cons, List.map_nil]); first | done | rfl | (simp only [List.length_drop, List.length_take]; rfl)) ?_; (with_reducible refine (derive_Bounds.calls t229 t230 t231 t232 t233 t234 1 t245 t246 t247 t248 t249 t250 t251 _ A7.out).mono ?_); rintro e w83 ⟨rfl, hb⟩; refine ⟨_, rfl, ?_⟩; have n0_ := Aside0.mk (blk_below (g := gb195) (o := .cells #[.bool true, .int .i64 16, .int .i64 48, .int .i64 20, .int .i64 7, .int .i64 0] 23 (0, 0)) (by (with_reducible repeat (first | refine blk_drewN ?_ _ | refine blk_drew ?_ | refine blk_alloc ?_ _)); refine blk_far ?_ NB195_244.out _; (with_reducible repeat (first | refine blk_drewN ?_ _ | refine blk_drew ?_ | refine blk_alloc ?_ _)); refine blk_far ?_ NB195_244.out _; (with_reducible repeat (first | refine blk_drewN ?_ _ | refine blk_drew ?_ | refine blk_alloc ?_ _)); refine blk_far ?_ NB195_244.out _; (with_reducible repeat (first | refine blk_drewN ?_ _ | refine blk_drew ?_ | refine blk_alloc ?_ _)); refine blk_far ?_ NB195_244.out _; (with_reducible repeat (first | refine blk_drewN ?_ _ | refine blk_drew ?_ | refine blk_alloc ?_ _)); refine blk_far ?_ NB195_244.out _; (with_reducible repeat (first | refine blk_drewN ?_ _ | refine blk_drew ?_ | refine blk_alloc ?_ _)); refine blk_far ?_ NB195_244.out _; (with_reducible repeat (first | refine blk_drewN ?_ _ | refine blk_drew ?_ | refine blk_alloc ?_ _)); exact BK195.out) hb); have n1_ := Aside0.mk (blk_below (g := gb196) (o := .cells #[.bool true, .int .i64 0, .int .i64 256, .int .i64 9, .int .i64 96, .int .i64 0] 23 (0, 0)) (by (with_reducible repeat (first | refine blk_drewN ?_ _ | refine blk_drew ?_ | refine blk_alloc ?_ _)); refine blk_far ?_ NB196_244.out _; (with_reducible repeat (first | refine blk_drewN ?_ _ | refine blk_drew ?_ | refine blk_alloc ?_ _)); refine blk_far ?_ NB196_244.out _; (with_reducible repeat (first | refine blk_drewN ?_ _ | refine blk_drew ?_ | refine blk_alloc ?_ _)); refine blk_far ?_ NB196_244.out _; (with_reducible repeat (first | refine blk_drewN ?_ _ | refine blk_drew ?_ | refine blk_alloc ?_ _)); refine blk_far ?_ NB196_244.out _; (with_reducible repeat (first | refine blk_drewN ?_ _ | refine blk_drew ?_ | refine blk_alloc ?_ _)); refine blk_far ?_ NB196_244.out _; (with_reducible repeat (first | refine blk_drewN ?_ _ | refine blk_drew ?_ | refine blk_alloc ?_ _)); refine blk_far ?_ NB196_244.out _; (with_reducible repeat (first | refine blk_drewN ?_ _ | refine blk_drew ?_ | refine blk_alloc ?_ _)); exact BK196.out) hb); have n2_ := Aside0.mk (blk_below (g := gb204) (o := .cells #[.bool t197, .int .i64 t198, .int .i64 t199, .int .i64 t200, .int .i64 t201, .int .i64 t202] 23 (0, 0)) (by (with_reducible repeat (first | refine blk_drewN ?_ _ | refine blk_drew ?_ | refine blk_alloc ?_ _)); refine blk_far ?_ NB204_244.out _; (with_reducible repeat (first | refine blk_drewN ?_ _ | refine blk_drew ?_ | refine blk_alloc ?_ _)); refine blk_far ?_ NB204_244.out _; (with_reducible repeat (first | refine blk_drewN ?_ _ | refine blk_drew ?_ | refine blk_alloc ?_ _)); refine blk_far ?_ NB204_244.out _; (with_reducible repeat (first | refine blk_drewN ?_ _ | refine blk_drew ?_ | refine blk_alloc ?_ _)); refine blk_far ?_ NB204_244.out _; (with_reducible repeat (first | refine blk_drewN ?_ _ | refine blk_drew ?_ | refine blk_alloc ?_ _)); refine blk_far ?_ NB204_244.out _; (with_reducible repeat (first | refine blk_drewN ?_ _ | refine blk_drew ?_ | refine blk_alloc ?_ _)); refine blk_far ?_ NB204_244.out _; (with_reducible repeat (first | refine blk_drewN ?_ _ | refine blk_drew ?_ | refine blk_alloc ?_ _)); exact BK204.out) hb); have n3_ := Aside0.mk (blk_below (g := gb212) (o := .cells #[.bool t205, .int .i64 t206, .int .i64 t207, .int .i64 t208, .int .i64 t209, .int .i64 t210] 23 (0, 0)) (by (with_reducible repeat (first | refine blk_drewN ?_ _ | refine blk_drew ?_ | refine blk_alloc ?_ _)); refine blk_far ?_ NB212_244.out _; (with_reducible repeat (first | refine blk_drewN ?_ _ | refine blk_drew ?_ | refine blk_alloc ?_ _)); refine blk_far ?_ NB212_244.out _; (with_reducible repeat (first | refine blk_drewN ?_ _ | refine blk_drew ?_ | refine blk_alloc ?_ _)); refine blk_far ?_ NB212_244.out _; (with_reducible repeat (first | refine blk_drewN ?_ _ | refine blk_drew ?_ | refine blk_alloc ?_ _)); refine blk_far ?_ NB212_244.out _; (with_reducible repeat (first | refine blk_drewN ?_ _ | refine blk_drew ?_ | refine blk_alloc ?_ _)); refine blk_far ?_ NB212_244.out _; (with_reducible repeat (first | refine blk_drewN ?_ _ | refine blk_drew ?_ | refine blk_alloc ?_ _)); refine blk_far ?_ NB212_244.out _; (with_reducible repeat (first | refine blk_drewN ?_ _ | refine blk_drew ?_ | refine blk_alloc ?_ _)); exact BK212.out) hb); have n4_ := Aside0.mk (blk_below (g := gb220) (o := .cells #[.bool t213, .int .i64 t214, .int .i64 t215, .int .i64 t216, .int .i64 t217, .int .i64 t218] 23 (0, 0)) (by (with_reducible repeat (first | refine blk_drewN ?_ _ | refine blk_drew ?_ | refine blk_alloc ?_ _)); refine blk_far ?_ NB220_244.out _; (with_reducible repeat (first | refine blk_drewN ?_ _ | refine blk_drew ?_ | refine blk_alloc ?_ _)); refine blk_far ?_ NB220_244.out _; (with_reducible repeat (first | refine blk_drewN ?_ _ | refine blk_drew ?_ | refine blk_alloc ?_ _)); refine blk_far ?_ NB220_244.out _; (with_reducible repeat (first | refine blk_drewN ?_ _ | refine blk_drew ?_ | refine blk_alloc ?_ _)); refine blk_far ?_ NB220_244.out _; (with_reducible repeat (first | refine blk_drewN ?_ _ | refine blk_drew ?_ | refine blk_alloc ?_ _)); refine blk_far ?_ NB220_244.out _; (with_reducible repeat (first | refine blk_drewN ?_ _ | refine blk_drew ?_ | refine blk_alloc ?_ _)); refine blk_far ?_ NB220_244.out _; (with_reducible repeat (first | refine blk_drewN ?_ _ | refine blk_drew ?_ | refine blk_alloc ?_ _)); exact BK220.out) hb); have n5_ := Aside0.mk (blk_below (g := gb228) (o := .cells #[.bool true, .int .i64 t222, .int .i64 t223, .int .i64 t224, .int .i64 t225, .int .i64 t226] 23 (0, 0)) (by (with_reducible repeat (first | refine blk_drewN ?_ _ | refine blk_drew ?_ | refine blk_alloc ?_ _)); refine blk_far ?_ NB228_244.out _; (with_reducible repeat (first | refine blk_drewN ?_ _ | refine blk_drew ?_ | refine blk_alloc ?_ _)); refine blk_far ?_ NB228_244.out _; (with_reducible repeat (first | refine blk_drewN ?_ _ | refine blk_drew ?_ | refine blk_alloc ?_ _)); refine blk_far ?_ NB228_244.out _; (with_reducible repeat (first | refine blk_drewN ?_ _ | refine blk_drew ?_ | refine blk_alloc ?_ _)); refine blk_far ?_ NB228_244.out _; (with_reducible repeat (first | refine blk_drewN ?_ _ | refine blk_drew ?_ | refine blk_alloc ?_ _)); refine blk_far ?_ NB228_244.out _; (with_reducible repeat (first | refine blk_drewN ?_ _ | refine blk_drew ?_ | refine blk_alloc ?_ _)); refine blk_far ?_ NB228_244.out _; (with_reducible repeat (first | refine blk_drewN ?_ _ | refine blk_drew ?_ | refine blk_alloc ?_ _)); exact BK228.out) hb); have n6_ := Aside0.mk (blk_below (g := gb236) (o := .cells #[.bool t229, .int .i64 t230, .int .i64 t231, .int .i64 t232, .int .i64 t233, .int .i64 t234] 23 (0, 0)) (by (with_reducible repeat (first | refine blk_drewN ?_ _ | refine blk_drew ?_ | refine blk_alloc ?_ _)); refine blk_far ?_ NB236_244.out _; (with_reducible repeat (first | refine blk_drewN ?_ _ | refine blk_drew ?_ | refine blk_alloc ?_ _)); refine blk_far ?_ NB236_244.out _; (with_reducible repeat (first | refine blk_drewN ?_ _ | refine blk_drew ?_ | refine blk_alloc ?_ _)); refine blk_far ?_ NB236_244.out _; (with_reducible repeat (first | refine blk_drewN ?_ _ | refine blk_drew ?_ | refine blk_alloc ?_ _)); refine blk_far ?_ NB236_244.out _; (with_reducible repeat (first | refine blk_drewN ?_ _ | refine blk_drew ?_ | refine blk_alloc ?_ _)); refine blk_far ?_ NB236_244.out _; (with_reducible repeat (first | refine blk_drewN ?_ _ | refine blk_drew ?_ | refine blk_alloc ?_ _)); refine blk_far ?_ NB236_244.out _; (with_reducible repeat (first | refine blk_drewN ?_ _ | refine blk_drew ?_ | refine blk_alloc ?_ _)); exact BK236.out) hb); have n7_ := Aside0.mk (blk_below (g := gb244) (o := .cells #[.bool t237, .int .i64 t238, .int .i64 t239, .int .i64 t240, .int .i64 t241, .int .i64 t242] 23 (0, 0)) (by (with_reducible repeat (first | refine blk_drewN ?_ _ | refine blk_drew ?_ | refine blk_alloc ?_ _)); refine blk_put (cs := #[.bool t237, .int .i64 t238, .int .i64 t239, .int .i64 t240, .int .i64 t241, .int .i64 0]) ?_ 5 _ rfl; refine blk_put (cs := #[.bool t237, .int .i64 t238, .int .i64 t239, .int .i64 t240, .int .i64 0, .int .i64 0]) ?_ 4 _ rfl; refine blk_put (cs := #[.bool t237, .int .i64 t238, .int .i64 t239, .int .i64 0, .int .i64 0, .int .i64 0]) ?_ 3 _ rfl; refine blk_put (cs := #[.bool t237, .int .i64 t238, .int .i64 0, .int .i64 0, .int .i64 0, .int .i64 0]) ?_ 2 _ rfl; refine blk_put (cs := #[.bool t237, .int .i64 0, .int .i64 0, .int .i64 0, .int .i64 0, .int .i64 0]) ?_ 1 _ rfl; refine blk_put (cs := #[.bool false, .int .i64 0, .int .i64 0, .int .i64 0, .int .i64 0, .int .i64 0]) ?_ 0 _ rfl; (with_reducible repeat (first | refine blk_drewN ?_ _ | refine blk_drew ?_ | refine blk_alloc ?_ _)); exact BK244.out) hb); have n8_ := q2_ HB hb; clear BK195; clear BK196; clear BK204; clear BK212; clear BK220; clear BK228; clear BK236; clear BK244; clear HB; have BK195 := n0_; have BK196 := n1_; have BK204 := n2_; have BK212 := n3_; have BK220 := n4_; have BK228 := n5_; have BK236 := n6_; have BK244 := n7_; have HB := n8_; clear n0_ n1_ n2_ n3_ n4_ n5_ n6_ n7_ n8_; (try clear hb); (try clear hb2); (try clear hk); (try clear hi)) | ((with_reducible refine gate_dst (N := 15) rfl ?_); refine box_event ?hg (N := 15) ?hd (cs := #[.bool false, .int .i64 0, .int .i64 0, .int .i64 0, .int .i64 0, .int .i64 0]) (t := 23) ?hr ?_; (case hd => rfl); (case hg => rfl); (case hr => first | (go_simp; done) | (go_simp; rfl)); intro gb252 hg w84 hbox hb; have n0_ := q1_ BK195 hb; have n1_ := q1_ BK196 hb; have n2_ := q1_ BK204 hb; have n3_ := q1_ BK212 hb; have n4_ := q1_ BK220 hb; have n5_ := q1_ BK228 hb; have n6_ := q1_ BK236 hb; have n7_ := q1_ BK244 hb; have n8_ := q2_ HB hb; have n9_ := Aside0.mk (hbox); have n10_ := q11_ HB hg; have n11_ := q11_ HB hg; have n12_ := q12_ BK195 hg; have n13_ := q13_ BK195 hg; have n14_ := q12_ BK196 hg; have n15_ := q13_ BK196 hg; have n16_ := q12_ BK204 hg; have n17_ := q13_ BK204 hg; have n18_ := q12_ BK212 hg; have n19_ := q13_ BK212 hg; have n20_ := q12_ BK220 hg; have n21_ := q13_ BK220 hg; have n22_ := q12_ BK228 hg; have n23_ := q13_ BK228 hg; have n24_ := q12_ BK236 hg; have n25_ := q13_ BK236 hg; have n26_ := q12_ BK244 hg; have n27_ := q13_ BK244 hg; clear BK195; clear BK196; clear BK204; clear BK212; clear BK220; clear BK228; clear BK236; clear BK244; clear HB; have BK195 := n0_; have BK196 := n1_; have BK204 := n2_; have BK212 := n3_; have BK220 := n4_; have BK228 := n5_; have BK236 := n6_; have BK244 := n7_; have HB := n8_; have BK252 := n9_; have GW252 := n10_; have GE252 := n11_; have NB195_252 := n12_; have NB252_195 := n13_; have NB196_252 := n14_; have NB252_196 := n15_; have NB204_252 := n16_; have NB252_204 := n17_; have NB212_252 := n18_; have NB252_212 := n19_; have NB220_252 := n20_; have NB252_220 := n21_; have NB228_252 := n22_; have NB252_228 := n23_; have NB236_252 := n24_; have NB252_236 := n25_; have NB244_252 := n26_; have NB252_244 := n27_; clear n0_ n1_ n2_ n3_ n4_ n5_ n6_ n7_ n8_ n9_ n10_ n11_ n12_ n13_ n14_ n15_ n16_ n17_ n18_ n19_ n20_ n21_ n22_ n23_ n24_ n25_ n26_ n27_; clear hb hbox hg; have hnb85 := NB252_195.out; have hnc85 := NB195_252.out; have hnb86 := NB252_196.out; have hnc86 := NB196_252.out; have hnb87 := NB252_204.out; have hnc87 := NB204_252.out; have hnb88 := NB252_212.out; have hnc88 := NB212_252.out; have hnb89 := NB252_220.out; have hnc89 := NB220_252.out; have hnb90 := NB252_228.out; have hnc90 := NB228_252.out; have hnb91 := NB252_236.out; have hnc91 := NB236_252.out; have hnb92 := NB252_244.out; have hnc92 := NB244_252.out; obtain ⟨hcz93_0, hcz93_1, hcz93_2, hcz93_3, hcz93_4, hcz93_5⟩ := q9_ BK252; obtain ⟨hfz93_0, hfz93_1, hfz93_2, hfz93_3, hfz93_4, hfz93_5⟩ := q10_ BK252; obtain ⟨hcz94_0, hcz94_1, hcz94_2, hcz94_3, hcz94_4, hcz94_5⟩ := q9_ BK195; obtain ⟨hfz94_0, hfz94_1, hfz94_2, hfz94_3, hfz94_4, hfz94_5⟩ := q10_ BK195) | ((with_reducible refine gate_callee (f := 23) rfl ?_); refine goesL_ (some 62) rfl rfl Try.func23 (by kernel_rfl) rfl #[.agg #[.bool true, .int .i64 16, .int .i64 48, .int .i64 20, .int .i64 7, .int .i64 0]] rfl (by (try simp only [List.map_toArray, List.map_cons, List.map_nil]); first | done | rfl | (simp only [List.length_drop, List.length_take]; rfl)) ?_; (with_reducible refine (derive_Enter.calls true 16 48 20 7 0 t253 t254 t255 t256 t257 t258 t259 _ A8.out).mono ?_); rintro e w95 ⟨rfl, hb⟩; refine ⟨_, rfl, ?_⟩; have n0_ := Aside0.mk (blk_below (g := gb195) (o := .cells #[.bool true, .int .i64 16, .int .i64 48, .int .i64 20, .int .i64 7, .int .i64 0] 23 (0, 0)) (by (with_reducible repeat (first | refine blk_drewN ?_ _ | refine blk_drew ?_ | refine blk_alloc ?_ _)); refine blk_far ?_ NB195_252.out _; (with_reducible repeat (first | refine blk_drewN ?_ _ | refine blk_drew ?_ | refine blk_alloc ?_ _)); refine blk_far ?_ NB195_252.out _; (with_reducible repeat (first | refine blk_drewN ?_ _ | refine blk_drew ?_ | refine blk_alloc ?_ _)); refine blk_far ?_ NB195_252.out _; (with_reducible repeat (first | refine blk_drewN ?_ _ | refine blk_drew ?_ | refine blk_alloc ?_ _)); refine blk_far ?_ NB195_252.out _; (with_reducible repeat (first | refine blk_drewN ?_ _ | refine blk_drew ?_ | refine blk_alloc ?_ _)); refine blk_far ?_ NB195_252.out _; (with_reducible repeat (first | refine blk_drewN ?_ _ | refine blk_drew ?_ | refine blk_alloc ?_ _)); refine blk_far ?_ NB195_252.out _; (with_reducible repeat (first | refine blk_drewN ?_ _ | refine blk_drew ?_ | refine blk_alloc ?_ _)); exact BK195.out) hb); have n1_ := Aside0.mk (blk_below (g := gb196) (o := .cells #[.bool true, .int .i64 0, .int .i64 256, .int .i64 9, .int .i64 96, .int .i64 0] 23 (0, 0)) (by (with_reducible repeat (first | refine blk_drewN ?_ _ | refine blk_drew ?_ | refine blk_alloc ?_ _)); refine blk_far ?_ NB196_252.out _; (with_reducible repeat (first | refine blk_drewN ?_ _ | refine blk_drew ?_ | refine blk_alloc ?_ _)); refine blk_far ?_ NB196_252.out _; (with_reducible repeat (first | refine blk_drewN ?_ _ | refine blk_drew ?_ | refine blk_alloc ?_ _)); refine blk_far ?_ NB196_252.out _; (with_reducible repeat (first | refine blk_drewN ?_ _ | refine blk_drew ?_ | refine blk_alloc ?_ _)); refine blk_far ?_ NB196_252.out _; (with_reducible repeat (first | refine blk_drewN ?_ _ | refine blk_drew ?_ | refine blk_alloc ?_ _)); refine blk_far ?_ NB196_252.out _; (with_reducible repeat (first | refine blk_drewN ?_ _ | refine blk_drew ?_ | refine blk_alloc ?_ _)); refine blk_far ?_ NB196_252.out _; (with_reducible repeat (first | refine blk_drewN ?_ _ | refine blk_drew ?_ | refine blk_alloc ?_ _)); exact BK196.out) hb); have n2_ := Aside0.mk (blk_below (g := gb204) (o := .cells #[.bool t197, .int .i64 t198, .int .i64 t199, .int .i64 t200, .int .i64 t201, .int .i64 t202] 23 (0, 0)) (by (with_reducible repeat (first | refine blk_drewN ?_ _ | refine blk_drew ?_ | refine blk_alloc ?_ _)); refine blk_far ?_ NB204_252.out _; (with_reducible repeat (first | refine blk_drewN ?_ _ | refine blk_drew ?_ | refine blk_alloc ?_ _)); refine blk_far ?_ NB204_252.out _; (with_reducible repeat (first | refine blk_drewN ?_ _ | refine blk_drew ?_ | refine blk_alloc ?_ _)); refine blk_far ?_ NB204_252.out _; (with_reducible repeat (first | refine blk_drewN ?_ _ | refine blk_drew ?_ | refine blk_alloc ?_ _)); refine blk_far ?_ NB204_252.out _; (with_reducible repeat (first | refine blk_drewN ?_ _ | refine blk_drew ?_ | refine blk_alloc ?_ _)); refine blk_far ?_ NB204_252.out _; (with_reducible repeat (first | refine blk_drewN ?_ _ | refine blk_drew ?_ | refine blk_alloc ?_ _)); refine blk_far ?_ NB204_252.out _; (with_reducible repeat (first | refine blk_drewN ?_ _ | refine blk_drew ?_ | refine blk_alloc ?_ _)); exact BK204.out) hb); have n3_ := Aside0.mk (blk_below (g := gb212) (o := .cells #[.bool t205, .int .i64 t206, .int .i64 t207, .int .i64 t208, .int .i64 t209, .int .i64 t210] 23 (0, 0)) (by (with_reducible repeat (first | refine blk_drewN ?_ _ | refine blk_drew ?_ | refine blk_alloc ?_ _)); refine blk_far ?_ NB212_252.out _; (with_reducible repeat (first | refine blk_drewN ?_ _ | refine blk_drew ?_ | refine blk_alloc ?_ _)); refine blk_far ?_ NB212_252.out _; (with_reducible repeat (first | refine blk_drewN ?_ _ | refine blk_drew ?_ | refine blk_alloc ?_ _)); refine blk_far ?_ NB212_252.out _; (with_reducible repeat (first | refine blk_drewN ?_ _ | refine blk_drew ?_ | refine blk_alloc ?_ _)); refine blk_far ?_ NB212_252.out _; (with_reducible repeat (first | refine blk_drewN ?_ _ | refine blk_drew ?_ | refine blk_alloc ?_ _)); refine blk_far ?_ NB212_252.out _; (with_reducible repeat (first | refine blk_drewN ?_ _ | refine blk_drew ?_ | refine blk_alloc ?_ _)); refine blk_far ?_ NB212_252.out _; (with_reducible repeat (first | refine blk_drewN ?_ _ | refine blk_drew ?_ | refine blk_alloc ?_ _)); exact BK212.out) hb); have n4_ := Aside0.mk (blk_below (g := gb220) (o := .cells #[.bool t213, .int .i64 t214, .int .i64 t215, .int .i64 t216, .int .i64 t217, .int .i64 t218] 23 (0, 0)) (by (with_reducible repeat (first | refine blk_drewN ?_ _ | refine blk_drew ?_ | refine blk_alloc ?_ _)); refine blk_far ?_ NB220_252.out _; (with_reducible repeat (first | refine blk_drewN ?_ _ | refine blk_drew ?_ | refine blk_alloc ?_ _)); refine blk_far ?_ NB220_252.out _; (with_reducible repeat (first | refine blk_drewN ?_ _ | refine blk_drew ?_ | refine blk_alloc ?_ _)); refine blk_far ?_ NB220_252.out _; (with_reducible repeat (first | refine blk_drewN ?_ _ | refine blk_drew ?_ | refine blk_alloc ?_ _)); refine blk_far ?_ NB220_252.out _; (with_reducible repeat (first | refine blk_drewN ?_ _ | refine blk_drew ?_ | refine blk_alloc ?_ _)); refine blk_far ?_ NB220_252.out _; (with_reducible repeat (first | refine blk_drewN ?_ _ | refine blk_drew ?_ | refine blk_alloc ?_ _)); refine blk_far ?_ NB220_252.out _; (with_reducible repeat (first | refine blk_drewN ?_ _ | refine blk_drew ?_ | refine blk_alloc ?_ _)); exact BK220.out) hb); have n5_ := Aside0.mk (blk_below (g := gb228) (o := .cells #[.bool true, .int .i64 t222, .int .i64 t223, .int .i64 t224, .int .i64 t225, .int .i64 t226] 23 (0, 0)) (by (with_reducible repeat (first | refine blk_drewN ?_ _ | refine blk_drew ?_ | refine blk_alloc ?_ _)); refine blk_far ?_ NB228_252.out _; (with_reducible repeat (first | refine blk_drewN ?_ _ | refine blk_drew ?_ | refine blk_alloc ?_ _)); refine blk_far ?_ NB228_252.out _; (with_reducible repeat (first | refine blk_drewN ?_ _ | refine blk_drew ?_ | refine blk_alloc ?_ _)); refine blk_far ?_ NB228_252.out _; (with_reducible repeat (first | refine blk_drewN ?_ _ | refine blk_drew ?_ | refine blk_alloc ?_ _)); refine blk_far ?_ NB228_252.out _; (with_reducible repeat (first | refine blk_drewN ?_ _ | refine blk_drew ?_ | refine blk_alloc ?_ _)); refine blk_far ?_ NB228_252.out _; (with_reducible repeat (first | refine blk_drewN ?_ _ | refine blk_drew ?_ | refine blk_alloc ?_ _)); refine blk_far ?_ NB228_252.out _; (with_reducible repeat (first | refine blk_drewN ?_ _ | refine blk_drew ?_ | refine blk_alloc ?_ _)); exact BK228.out) hb); have n6_ := Aside0.mk (blk_below (g := gb236) (o := .cells #[.bool t229, .int .i64 t230, .int .i64 t231, .int .i64 t232, .int .i64 t233, .int .i64 t234] 23 (0, 0)) (by (with_reducible repeat (first | refine blk_drewN ?_ _ | refine blk_drew ?_ | refine blk_alloc ?_ _)); refine blk_far ?_ NB236_252.out _; (with_reducible repeat (first | refine blk_drewN ?_ _ | refine blk_drew ?_ | refine blk_alloc ?_ _)); refine blk_far ?_ NB236_252.out _; (with_reducible repeat (first | refine blk_drewN ?_ _ | refine blk_drew ?_ | refine blk_alloc ?_ _)); refine blk_far ?_ NB236_252.out _; (with_reducible repeat (first | refine blk_drewN ?_ _ | refine blk_drew ?_ | refine blk_alloc ?_ _)); refine blk_far ?_ NB236_252.out _; (with_reducible repeat (first | refine blk_drewN ?_ _ | refine blk_drew ?_ | refine blk_alloc ?_ _)); refine blk_far ?_ NB236_252.out _; (with_reducible repeat (first | refine blk_drewN ?_ _ | refine blk_drew ?_ | refine blk_alloc ?_ _)); refine blk_far ?_ NB236_252.out _; (with_reducible repeat (first | refine blk_drewN ?_ _ | refine blk_drew ?_ | refine blk_alloc ?_ _)); exact BK236.out) hb); have n7_ := Aside0.mk (blk_below (g := gb244) (o := .cells #[.bool t237, .int .i64 t238, .int .i64 t239, .int .i64 t240, .int .i64 t241, .int .i64 t242] 23 (0, 0)) (by (with_reducible repeat (first | refine blk_drewN ?_ _ | refine blk_drew ?_ | refine blk_alloc ?_ _)); refine blk_far ?_ NB244_252.out _; (with_reducible repeat (first | refine blk_drewN ?_ _ | refine blk_drew ?_ | refine blk_alloc ?_ _)); refine blk_far ?_ NB244_252.out _; (with_reducible repeat (first | refine blk_drewN ?_ _ | refine blk_drew ?_ | refine blk_alloc ?_ _)); refine blk_far ?_ NB244_252.out _; (with_reducible repeat (first | refine blk_drewN ?_ _ | refine blk_drew ?_ | refine blk_alloc ?_ _)); refine blk_far ?_ NB244_252.out _; (with_reducible repeat (first | refine blk_drewN ?_ _ | refine blk_drew ?_ | refine blk_alloc ?_ _)); refine blk_far ?_ NB244_252.out _; (with_reducible repeat (first | refine blk_drewN ?_ _ | refine blk_drew ?_ | refine blk_alloc ?_ _)); refine blk_far ?_ NB244_252.out _; (with_reducible repeat (first | refine blk_drewN ?_ _ | refine blk_drew ?_ | refine blk_alloc ?_ _)); exact BK244.out) hb); have n8_ := Aside0.mk (blk_below (g := gb252) (o := .cells #[.bool t245, .int .i64 t246, .int .i64 t247, .int .i64 t248, .int .i64 t249, .int .i64 t250] 23 (0, 0)) (by (with_reducible repeat (first | refine blk_drewN ?_ _ | refine blk_drew ?_ | refine blk_alloc ?_ _)); refine blk_put (cs := #[.bool t245, .int .i64 t246, .int .i64 t247, .int .i64 t248, .int .i64 t249, .int .i64 0]) ?_ 5 _ rfl; refine blk_put (cs := #[.bool t245, .int .i64 t246, .int .i64 t247, .int .i64 t248, .int .i64 0, .int .i64 0]) ?_ 4 _ rfl; refine blk_put (cs := #[.bool t245, .int .i64 t246, .int .i64 t247, .int .i64 0, .int .i64 0, .int .i64 0]) ?_ 3 _ rfl; refine blk_put (cs := #[.bool t245, .int .i64 t246, .int .i64 0, .int .i64 0, .int .i64 0, .int .i64 0]) ?_ 2 _ rfl; refine blk_put (cs := #[.bool t245, .int .i64 0, .int .i64 0, .int .i64 0, .int .i64 0, .int .i64 0]) ?_ 1 _ rfl; refine blk_put (cs := #[.bool false, .int .i64 0, .int .i64 0, .int .i64 0, .int .i64 0, .int .i64 0]) ?_ 0 _ rfl; (with_reducible repeat (first | refine blk_drewN ?_ _ | refine blk_drew ?_ | refine blk_alloc ?_ _)); exact BK252.out) hb); have n9_ := q2_ HB hb; clear BK195; clear BK196; clear BK204; clear BK212; clear BK220; clear BK228; clear BK236; clear BK244; clear BK252; clear HB; have BK195 := n0_; have BK196 := n1_; have BK204 := n2_; have BK212 := n3_; have BK220 := n4_; have BK228 := n5_; have BK236 := n6_; have BK244 := n7_; have BK252 := n8_; have HB := n9_; clear n0_ n1_ n2_ n3_ n4_ n5_ n6_ n7_ n8_ n9_; (try clear hb); (try clear hb2); (try clear hk); (try clear hi)) | ((with_reducible refine gate_dst (N := 17) rfl ?_); refine box_event ?hg (N := 17) ?hd (cs := #[.bool false, .int .i64 0, .int .i64 0, .int .i64 0, .int .i64 0, .int .i64 0]) (t := 23) ?hr ?_; (case hd => rfl); (case hg => rfl); (case hr => first | (go_simp; done) | (go_simp; rfl)); intro gb260 hg w96 hbox hb; have n0_ := q1_ BK195 hb; have n1_ := q1_ BK196 hb; have n2_ := q1_ BK204 hb; have n3_ := q1_ BK212 hb; have n4_ := q1_ BK220 hb; have n5_ := q1_ BK228 hb; have n6_ := q1_ BK236 hb; have n7_ := q1_ BK244 hb; have n8_ := q1_ BK252 hb; have n9_ := q2_ HB hb; have n10_ := Aside0.mk (hbox); have n11_ := q11_ HB hg; have n12_ := q11_ HB hg; have n13_ := q12_ BK195 hg; have n14_ := q13_ BK195 hg; have n15_ := q12_ BK196 hg; have n16_ := q13_ BK196 hg; have n17_ := q12_ BK204 hg; have n18_ := q13_ BK204 hg; have n19_ := q12_ BK212 hg; have n20_ := q13_ BK212 hg; have n21_ := q12_ BK220 hg; have n22_ := q13_ BK220 hg; have n23_ := q12_ BK228 hg; have n24_ := q13_ BK228 hg; have n25_ := q12_ BK236 hg; have n26_ := q13_ BK236 hg; have n27_ := q12_ BK244 hg; have n28_ := q13_ BK244 hg; have n29_ := q12_ BK252 hg; have n30_ := q13_ BK252 hg; clear BK195; clear BK196; clear BK204; clear BK212; clear BK220; clear BK228; clear BK236; clear BK244; clear BK252; clear HB; have BK195 := n0_; have BK196 := n1_; have BK204 := n2_; have BK212 := n3_; have BK220 := n4_; have BK228 := n5_; have BK236 := n6_; have BK244 := n7_; have BK252 := n8_; have HB := n9_; have BK260 := n10_; have GW260 := n11_; have GE260 := n12_; have NB195_260 := n13_; have NB260_195 := n14_; have NB196_260 := n15_; have NB260_196 := n16_; have NB204_260 := n17_; have NB260_204 := n18_; have NB212_260 := n19_; have NB260_212 := n20_; have NB220_260 := n21_; have NB260_220 := n22_; have NB228_260 := n23_; have NB260_228 := n24_; have NB236_260 := n25_; have NB260_236 := n26_; have NB244_260 := n27_; have NB260_244 := n28_; have NB252_260 := n29_; have NB260_252 := n30_; clear n0_ n1_ n2_ n3_ n4_ n5_ n6_ n7_ n8_ n9_ n10_ n11_ n12_ n13_ n14_ n15_ n16_ n17_ n18_ n19_ n20_ n21_ n22_ n23_ n24_ n25_ n26_ n27_ n28_ n29_ n30_; clear hb hbox hg; have hnb97 := NB260_195.out; have hnc97 := NB195_260.out; have hnb98 := NB260_196.out; have hnc98 := NB196_260.out; have hnb99 := NB260_204.out; have hnc99 := NB204_260.out; have hnb100 := NB260_212.out; have hnc100 := NB212_260.out; have hnb101 := NB260_220.out; have hnc101 := NB220_260.out; have hnb102 := NB260_228.out; have hnc102 := NB228_260.out; have hnb103 := NB260_236.out; have hnc103 := NB236_260.out; have hnb104 := NB260_244.out; have hnc104 := NB244_260.out; have hnb105 := NB260_252.out; have hnc105 := NB252_260.out; obtain ⟨hcz106_0, hcz106_1, hcz106_2, hcz106_3, hcz106_4, hcz106_5⟩ := q9_ BK260; obtain ⟨hfz106_0, hfz106_1, hfz106_2, hfz106_3, hfz106_4, hfz106_5⟩ := q10_ BK260))
               have n0_ : Aside0 (((((((w96.setCell ⟨gb260, 0, none⟩ (.bool t253)).setCell ⟨gb260, 1, none⟩ (.int .i64 t254)).setCell ⟨gb260, 2, none⟩ (.int .i64 t255)).setCell ⟨gb260, 3, none⟩ (.int .i64 t256)).setCell ⟨gb260, 4, none⟩ (.int .i64 t257)).setCell ⟨gb260, 5, none⟩ (.int .i64 t258)).heap[gb195]? = some (.cells #[.bool true, .int .i64 16, .int .i64 48, .int .i64 20, .int .i64 7, .int .i64 0] 23 (0, 0))) := ⟨by (with_reducible repeat (first | refine blk_drewN ?_ _ | refine blk_drew ?_ | refine blk_alloc ?_ _)); refine blk_far ?_ NB195_260.out _; (with_reducible repeat (first | refine blk_drewN ?_ _ | refine blk_drew ?_ | refine blk_alloc ?_ _)); refine blk_far ?_ NB195_260.out _; (with_reducible repeat (first | refine blk_drewN ?_ _ | refine blk_drew ?_ | refine blk_alloc ?_ _)); refine blk_far ?_ NB195_260.out _; (with_reducible repeat (first | refine blk_drewN ?_ _ | refine blk_drew ?_ | refine blk_alloc ?_ _)); refine blk_far ?_ NB195_260.out _; (with_reducible repeat (first | refine blk_drewN ?_ _ | refine blk_drew ?_ | refine blk_alloc ?_ _)); refine blk_far ?_ NB195_260.out _; (with_reducible repeat (first | refine blk_drewN ?_ _ | refine blk_drew ?_ | refine blk_alloc ?_ _)); refine blk_far ?_ NB195_260.out _; (with_reducible repeat (first | refine blk_drewN ?_ _ | refine blk_drew ?_ | refine blk_alloc ?_ _)); exact BK195.out⟩
               have n1_ : Aside0 (((((((w96.setCell ⟨gb260, 0, none⟩ (.bool t253)).setCell ⟨gb260, 1, none⟩ (.int .i64 t254)).setCell ⟨gb260, 2, none⟩ (.int .i64 t255)).setCell ⟨gb260, 3, none⟩ (.int .i64 t256)).setCell ⟨gb260, 4, none⟩ (.int .i64 t257)).setCell ⟨gb260, 5, none⟩ (.int .i64 t258)).heap[gb196]? = some (.cells #[.bool true, .int .i64 0, .int .i64 256, .int .i64 9, .int .i64 96, .int .i64 0] 23 (0, 0))) := ⟨by (with_reducible repeat (first | refine blk_drewN ?_ _ | refine blk_drew ?_ | refine blk_alloc ?_ _)); refine blk_far ?_ NB196_260.out _; (with_reducible repeat (first | refine blk_drewN ?_ _ | refine blk_drew ?_ | refine blk_alloc ?_ _)); refine blk_far ?_ NB196_260.out _; (with_reducible repeat (first | refine blk_drewN ?_ _ | refine blk_drew ?_ | refine blk_alloc ?_ _)); refine blk_far ?_ NB196_260.out _; (with_reducible repeat (first | refine blk_drewN ?_ _ | refine blk_drew ?_ | refine blk_alloc ?_ _)); refine blk_far ?_ NB196_260.out _; (with_reducible repeat (first | refine blk_drewN ?_ _ | refine blk_drew ?_ | refine blk_alloc ?_ _)); refine blk_far ?_ NB196_260.out _; (with_reducible repeat (first | refine blk_drewN ?_ _ | refine blk_drew ?_ | refine blk_alloc ?_ _)); refine blk_far ?_ NB196_260.out _; (with_reducible repeat (first | refine blk_drewN ?_ _ | refine blk_drew ?_ | refine blk_alloc ?_ _)); exact BK196.out⟩
               have n2_ : Aside0 (((((((w96.setCell ⟨gb260, 0, none⟩ (.bool t253)).setCell ⟨gb260, 1, none⟩ (.int .i64 t254)).setCell ⟨gb260, 2, none⟩ (.int .i64 t255)).setCell ⟨gb260, 3, none⟩ (.int .i64 t256)).setCell ⟨gb260, 4, none⟩ (.int .i64 t257)).setCell ⟨gb260, 5, none⟩ (.int .i64 t258)).heap[gb204]? = some (.cells #[.bool t197, .int .i64 t198, .int .i64 t199, .int .i64 t200, .int .i64 t201, .int .i64 t202] 23 (0, 0))) := ⟨by (with_reducible repeat (first | refine blk_drewN ?_ _ | refine blk_drew ?_ | refine blk_alloc ?_ _)); refine blk_far ?_ NB204_260.out _; (with_reducible repeat (first | refine blk_drewN ?_ _ | refine blk_drew ?_ | refine blk_alloc ?_ _)); refine blk_far ?_ NB204_260.out _; (with_reducible repeat (first | refine blk_drewN ?_ _ | refine blk_drew ?_ | refine blk_alloc ?_ _)); refine blk_far ?_ NB204_260.out _; (with_reducible repeat (first | refine blk_drewN ?_ _ | refine blk_drew ?_ | refine blk_alloc ?_ _)); refine blk_far ?_ NB204_260.out _; (with_reducible repeat (first | refine blk_drewN ?_ _ | refine blk_drew ?_ | refine blk_alloc ?_ _)); refine blk_far ?_ NB204_260.out _; (with_reducible repeat (first | refine blk_drewN ?_ _ | refine blk_drew ?_ | refine blk_alloc ?_ _)); refine blk_far ?_ NB204_260.out _; (with_reducible repeat (first | refine blk_drewN ?_ _ | refine blk_drew ?_ | refine blk_alloc ?_ _)); exact BK204.out⟩
               have n3_ : Aside0 (((((((w96.setCell ⟨gb260, 0, none⟩ (.bool t253)).setCell ⟨gb260, 1, none⟩ (.int .i64 t254)).setCell ⟨gb260, 2, none⟩ (.int .i64 t255)).setCell ⟨gb260, 3, none⟩ (.int .i64 t256)).setCell ⟨gb260, 4, none⟩ (.int .i64 t257)).setCell ⟨gb260, 5, none⟩ (.int .i64 t258)).heap[gb212]? = some (.cells #[.bool t205, .int .i64 t206, .int .i64 t207, .int .i64 t208, .int .i64 t209, .int .i64 t210] 23 (0, 0))) := ⟨by (with_reducible repeat (first | refine blk_drewN ?_ _ | refine blk_drew ?_ | refine blk_alloc ?_ _)); refine blk_far ?_ NB212_260.out _; (with_reducible repeat (first | refine blk_drewN ?_ _ | refine blk_drew ?_ | refine blk_alloc ?_ _)); refine blk_far ?_ NB212_260.out _; (with_reducible repeat (first | refine blk_drewN ?_ _ | refine blk_drew ?_ | refine blk_alloc ?_ _)); refine blk_far ?_ NB212_260.out _; (with_reducible repeat (first | refine blk_drewN ?_ _ | refine blk_drew ?_ | refine blk_alloc ?_ _)); refine blk_far ?_ NB212_260.out _; (with_reducible repeat (first | refine blk_drewN ?_ _ | refine blk_drew ?_ | refine blk_alloc ?_ _)); refine blk_far ?_ NB212_260.out _; (with_reducible repeat (first | refine blk_drewN ?_ _ | refine blk_drew ?_ | refine blk_alloc ?_ _)); refine blk_far ?_ NB212_260.out _; (with_reducible repeat (first | refine blk_drewN ?_ _ | refine blk_drew ?_ | refine blk_alloc ?_ _)); exact BK212.out⟩
               have n4_ : Aside0 (((((((w96.setCell ⟨gb260, 0, none⟩ (.bool t253)).setCell ⟨gb260, 1, none⟩ (.int .i64 t254)).setCell ⟨gb260, 2, none⟩ (.int .i64 t255)).setCell ⟨gb260, 3, none⟩ (.int .i64 t256)).setCell ⟨gb260, 4, none⟩ (.int .i64 t257)).setCell ⟨gb260, 5, none⟩ (.int .i64 t258)).heap[gb220]? = some (.cells #[.bool t213, .int .i64 t214, .int .i64 t215, .int .i64 t216, .int .i64 t217, .int .i64 t218] 23 (0, 0))) := ⟨by (with_reducible repeat (first | refine blk_drewN ?_ _ | refine blk_drew ?_ | refine blk_alloc ?_ _)); refine blk_far ?_ NB220_260.out _; (with_reducible repeat (first | refine blk_drewN ?_ _ | refine blk_drew ?_ | refine blk_alloc ?_ _)); refine blk_far ?_ NB220_260.out _; (with_reducible repeat (first | refine blk_drewN ?_ _ | refine blk_drew ?_ | refine blk_alloc ?_ _)); refine blk_far ?_ NB220_260.out _; (with_reducible repeat (first | refine blk_drewN ?_ _ | refine blk_drew ?_ | refine blk_alloc ?_ _)); refine blk_far ?_ NB220_260.out _; (with_reducible repeat (first | refine blk_drewN ?_ _ | refine blk_drew ?_ | refine blk_alloc ?_ _)); refine blk_far ?_ NB220_260.out _; (with_reducible repeat (first | refine blk_drewN ?_ _ | refine blk_drew ?_ | refine blk_alloc ?_ _)); refine blk_far ?_ NB220_260.out _; (with_reducible repeat (first | refine blk_drewN ?_ _ | refine blk_drew ?_ | refine blk_alloc ?_ _)); exact BK220.out⟩
               have n5_ : Aside0 (((((((w96.setCell ⟨gb260, 0, none⟩ (.bool t253)).setCell ⟨gb260, 1, none⟩ (.int .i64 t254)).setCell ⟨gb260, 2, none⟩ (.int .i64 t255)).setCell ⟨gb260, 3, none⟩ (.int .i64 t256)).setCell ⟨gb260, 4, none⟩ (.int .i64 t257)).setCell ⟨gb260, 5, none⟩ (.int .i64 t258)).heap[gb228]? = some (.cells #[.bool true, .int .i64 t222, .int .i64 t223, .int .i64 t224, .int .i64 t225, .int .i64 t226] 23 (0, 0))) := ⟨by (with_reducible repeat (first | refine blk_drewN ?_ _ | refine blk_drew ?_ | refine blk_alloc ?_ _)); refine blk_far ?_ NB228_260.out _; (with_reducible repeat (first | refine blk_drewN ?_ _ | refine blk_drew ?_ | refine blk_alloc ?_ _)); refine blk_far ?_ NB228_260.out _; (with_reducible repeat (first | refine blk_drewN ?_ _ | refine blk_drew ?_ | refine blk_alloc ?_ _)); refine blk_far ?_ NB228_260.out _; (with_reducible repeat (first | refine blk_drewN ?_ _ | refine blk_drew ?_ | refine blk_alloc ?_ _)); refine blk_far ?_ NB228_260.out _; (with_reducible repeat (first | refine blk_drewN ?_ _ | refine blk_drew ?_ | refine blk_alloc ?_ _)); refine blk_far ?_ NB228_260.out _; (with_reducible repeat (first | refine blk_drewN ?_ _ | refine blk_drew ?_ | refine blk_alloc ?_ _)); refine blk_far ?_ NB228_260.out _; (with_reducible repeat (first | refine blk_drewN ?_ _ | refine blk_drew ?_ | refine blk_alloc ?_ _)); exact BK228.out⟩
               have n6_ : Aside0 (((((((w96.setCell ⟨gb260, 0, none⟩ (.bool t253)).setCell ⟨gb260, 1, none⟩ (.int .i64 t254)).setCell ⟨gb260, 2, none⟩ (.int .i64 t255)).setCell ⟨gb260, 3, none⟩ (.int .i64 t256)).setCell ⟨gb260, 4, none⟩ (.int .i64 t257)).setCell ⟨gb260, 5, none⟩ (.int .i64 t258)).heap[gb236]? = some (.cells #[.bool t229, .int .i64 t230, .int .i64 t231, .int .i64 t232, .int .i64 t233, .int .i64 t234] 23 (0, 0))) := ⟨by (with_reducible repeat (first | refine blk_drewN ?_ _ | refine blk_drew ?_ | refine blk_alloc ?_ _)); refine blk_far ?_ NB236_260.out _; (with_reducible repeat (first | refine blk_drewN ?_ _ | refine blk_drew ?_ | refine blk_alloc ?_ _)); refine blk_far ?_ NB236_260.out _; (with_reducible repeat (first | refine blk_drewN ?_ _ | refine blk_drew ?_ | refine blk_alloc ?_ _)); refine blk_far ?_ NB236_260.out _; (with_reducible repeat (first | refine blk_drewN ?_ _ | refine blk_drew ?_ | refine blk_alloc ?_ _)); refine blk_far ?_ NB236_260.out _; (with_reducible repeat (first | refine blk_drewN ?_ _ | refine blk_drew ?_ | refine blk_alloc ?_ _)); refine blk_far ?_ NB236_260.out _; (with_reducible repeat (first | refine blk_drewN ?_ _ | refine blk_drew ?_ | refine blk_alloc ?_ _)); refine blk_far ?_ NB236_260.out _; (with_reducible repeat (first | refine blk_drewN ?_ _ | refine blk_drew ?_ | refine blk_alloc ?_ _)); exact BK236.out⟩
               have n7_ : Aside0 (((((((w96.setCell ⟨gb260, 0, none⟩ (.bool t253)).setCell ⟨gb260, 1, none⟩ (.int .i64 t254)).setCell ⟨gb260, 2, none⟩ (.int .i64 t255)).setCell ⟨gb260, 3, none⟩ (.int .i64 t256)).setCell ⟨gb260, 4, none⟩ (.int .i64 t257)).setCell ⟨gb260, 5, none⟩ (.int .i64 t258)).heap[gb244]? = some (.cells #[.bool t237, .int .i64 t238, .int .i64 t239, .int .i64 t240, .int .i64 t241, .int .i64 t242] 23 (0, 0))) := ⟨by (with_reducible repeat (first | refine blk_drewN ?_ _ | refine blk_drew ?_ | refine blk_alloc ?_ _)); refine blk_far ?_ NB244_260.out _; (with_reducible repeat (first | refine blk_drewN ?_ _ | refine blk_drew ?_ | refine blk_alloc ?_ _)); refine blk_far ?_ NB244_260.out _; (with_reducible repeat (first | refine blk_drewN ?_ _ | refine blk_drew ?_ | refine blk_alloc ?_ _)); refine blk_far ?_ NB244_260.out _; (with_reducible repeat (first | refine blk_drewN ?_ _ | refine blk_drew ?_ | refine blk_alloc ?_ _)); refine blk_far ?_ NB244_260.out _; (with_reducible repeat (first | refine blk_drewN ?_ _ | refine blk_drew ?_ | refine blk_alloc ?_ _)); refine blk_far ?_ NB244_260.out _; (with_reducible repeat (first | refine blk_drewN ?_ _ | refine blk_drew ?_ | refine blk_alloc ?_ _)); refine blk_far ?_ NB244_260.out _; (with_reducible repeat (first | refine blk_drewN ?_ _ | refine blk_drew ?_ | refine blk_alloc ?_ _)); exact BK244.out⟩
               have n8_ : Aside0 (((((((w96.setCell ⟨gb260, 0, none⟩ (.bool t253)).setCell ⟨gb260, 1, none⟩ (.int .i64 t254)).setCell ⟨gb260, 2, none⟩ (.int .i64 t255)).setCell ⟨gb260, 3, none⟩ (.int .i64 t256)).setCell ⟨gb260, 4, none⟩ (.int .i64 t257)).setCell ⟨gb260, 5, none⟩ (.int .i64 t258)).heap[gb252]? = some (.cells #[.bool t245, .int .i64 t246, .int .i64 t247, .int .i64 t248, .int .i64 t249, .int .i64 t250] 23 (0, 0))) := ⟨by (with_reducible repeat (first | refine blk_drewN ?_ _ | refine blk_drew ?_ | refine blk_alloc ?_ _)); refine blk_far ?_ NB252_260.out _; (with_reducible repeat (first | refine blk_drewN ?_ _ | refine blk_drew ?_ | refine blk_alloc ?_ _)); refine blk_far ?_ NB252_260.out _; (with_reducible repeat (first | refine blk_drewN ?_ _ | refine blk_drew ?_ | refine blk_alloc ?_ _)); refine blk_far ?_ NB252_260.out _; (with_reducible repeat (first | refine blk_drewN ?_ _ | refine blk_drew ?_ | refine blk_alloc ?_ _)); refine blk_far ?_ NB252_260.out _; (with_reducible repeat (first | refine blk_drewN ?_ _ | refine blk_drew ?_ | refine blk_alloc ?_ _)); refine blk_far ?_ NB252_260.out _; (with_reducible repeat (first | refine blk_drewN ?_ _ | refine blk_drew ?_ | refine blk_alloc ?_ _)); refine blk_far ?_ NB252_260.out _; (with_reducible repeat (first | refine blk_drewN ?_ _ | refine blk_drew ?_ | refine blk_alloc ?_ _)); exact BK252.out⟩
               have n9_ : Aside0 (((((((w96.setCell ⟨gb260, 0, none⟩ (.bool t253)).setCell ⟨gb260, 1, none⟩ (.int .i64 t254)).setCell ⟨gb260, 2, none⟩ (.int .i64 t255)).setCell ⟨gb260, 3, none⟩ (.int .i64 t256)).setCell ⟨gb260, 4, none⟩ (.int .i64 t257)).setCell ⟨gb260, 5, none⟩ (.int .i64 t258)).heap[gb260]? = some (.cells #[.bool t253, .int .i64 t254, .int .i64 t255, .int .i64 t256, .int .i64 t257, .int .i64 t258] 23 (0, 0))) := ⟨by (with_reducible repeat (first | refine blk_drewN ?_ _ | refine blk_drew ?_ | refine blk_alloc ?_ _)); refine blk_put (cs := #[.bool t253, .int .i64 t254, .int .i64 t255, .int .i64 t256, .int .i64 t257, .int .i64 0]) ?_ 5 _ rfl; refine blk_put (cs := #[.bool t253, .int .i64 t254, .int .i64 t255, .int .i64 t256, .int .i64 0, .int .i64 0]) ?_ 4 _ rfl; refine blk_put (cs := #[.bool t253, .int .i64 t254, .int .i64 t255, .int .i64 0, .int .i64 0, .int .i64 0]) ?_ 3 _ rfl; refine blk_put (cs := #[.bool t253, .int .i64 t254, .int .i64 0, .int .i64 0, .int .i64 0, .int .i64 0]) ?_ 2 _ rfl; refine blk_put (cs := #[.bool t253, .int .i64 0, .int .i64 0, .int .i64 0, .int .i64 0, .int .i64 0]) ?_ 1 _ rfl; refine blk_put (cs := #[.bool false, .int .i64 0, .int .i64 0, .int .i64 0, .int .i64 0, .int .i64 0]) ?_ 0 _ rfl; (with_reducible repeat (first | refine blk_drewN ?_ _ | refine blk_drew ?_ | refine blk_alloc ?_ _)); exact BK260.out⟩
               have n10_ : Aside0 (Below w.heap.size w ((((((w96.setCell ⟨gb260, 0, none⟩ (.bool t253)).setCell ⟨gb260, 1, none⟩ (.int .i64 t254)).setCell ⟨gb260, 2, none⟩ (.int .i64 t255)).setCell ⟨gb260, 3, none⟩ (.int .i64 t256)).setCell ⟨gb260, 4, none⟩ (.int .i64 t257)).setCell ⟨gb260, 5, none⟩ (.int .i64 t258))) := ⟨by repeat (first | (with_reducible first | exact HB.out | apply below_alloc | apply pw_below_drewN | apply below_drew1 | refine below_set ?_ GE195.out | refine below_set ?_ GE196.out | refine below_set ?_ GE204.out | refine below_set ?_ GE212.out | refine below_set ?_ GE220.out | refine below_set ?_ GE228.out | refine below_set ?_ GE236.out | refine below_set ?_ GE244.out | refine below_set ?_ GE252.out | refine below_set ?_ GE260.out) | exact HB.out)⟩
               (try clear BK195)
               (try clear BK196)
               (try clear BK204)
               (try clear BK212)
               (try clear BK220)
               (try clear BK228)
               (try clear BK236)
               (try clear BK244)
               (try clear BK252)
               (try clear BK260)
               (try clear HB)
               generalize ((((((w96.setCell ⟨gb260, 0, none⟩ (.bool t253)).setCell ⟨gb260, 1, none⟩ (.int .i64 t254)).setCell ⟨gb260, 2, none⟩ (.int .i64 t255)).setCell ⟨gb260, 3, none⟩ (.int .i64 t256)).setCell ⟨gb260, 4, none⟩ (.int .i64 t257)).setCell ⟨gb260, 5, none⟩ (.int .i64 t258)) = w107 at n0_ n1_ n2_ n3_ n4_ n5_ n6_ n7_ n8_ n9_ n10_ ⊢
               have BK195 := n0_
               have BK196 := n1_
               have BK204 := n2_
               have BK212 := n3_
               have BK220 := n4_
               have BK228 := n5_
               have BK236 := n6_
               have BK244 := n7_
               have BK252 := n8_
               have BK260 := n9_
               have HB := n10_
               clear n0_ n1_ n2_ n3_ n4_ n5_ n6_ n7_ n8_ n9_ n10_
               have n0_ := Aside0.mk (blk_drew BK195.out)
               have n1_ := Aside0.mk (blk_drew BK196.out)
               have n2_ := Aside0.mk (blk_drew BK204.out)
               have n3_ := Aside0.mk (blk_drew BK212.out)
               have n4_ := Aside0.mk (blk_drew BK220.out)
               have n5_ := Aside0.mk (blk_drew BK228.out)
               have n6_ := Aside0.mk (blk_drew BK236.out)
               have n7_ := Aside0.mk (blk_drew BK244.out)
               have n8_ := Aside0.mk (blk_drew BK252.out)
               have n9_ := Aside0.mk (blk_drew BK260.out)
               have n10_ := Aside0.mk (below_drew1 HB.out)
               clear BK195
               clear BK196
               clear BK204
               clear BK212
               clear BK220
               clear BK228
               clear BK236
               clear BK244
               clear BK252
               clear BK260
               clear HB
               have BK195 := n0_
               have BK196 := n1_
               have BK204 := n2_
               have BK212 := n3_
               have BK220 := n4_
               have BK228 := n5_
               have BK236 := n6_
               have BK244 := n7_
               have BK252 := n8_
               have BK260 := n9_
               have HB := n10_
               clear n0_ n1_ n2_ n3_ n4_ n5_ n6_ n7_ n8_ n9_ n10_
               refine start_ (n := 10) (S := fun w' => w'.cell? ⟨gb204, 0, none⟩ = some (.bool t197) ∧ w'.cell? ⟨gb204, 1, none⟩ = some (.int .i64 t198) ∧ w'.cell? ⟨gb204, 2, none⟩ = some (.int .i64 t199) ∧ w'.cell? ⟨gb204, 3, none⟩ = some (.int .i64 t200) ∧ w'.cell? ⟨gb204, 4, none⟩ = some (.int .i64 t201) ∧ w'.cell? ⟨gb204, 5, none⟩ = some (.int .i64 t202) ∧ w'.cell? ⟨gb195, 0, none⟩ = some (.bool true) ∧ w'.cell? ⟨gb195, 1, none⟩ = some (.int .i64 16) ∧ w'.cell? ⟨gb195, 2, none⟩ = some (.int .i64 48) ∧ w'.cell? ⟨gb195, 3, none⟩ = some (.int .i64 20) ∧ w'.cell? ⟨gb195, 4, none⟩ = some (.int .i64 7) ∧ w'.cell? ⟨gb195, 5, none⟩ = some (.int .i64 0)) (ds := []) m15_0 (by kernel_rfl) rfl rfl ⟨q7_ BK204 0 rfl, q7_ BK204 1 rfl, q7_ BK204 2 rfl, q7_ BK204 3 rfl, q7_ BK204 4 rfl, q7_ BK204 5 rfl, q7_ BK195 0 rfl, q7_ BK195 1 rfl, q7_ BK195 2 rfl, q7_ BK195 3 rfl, q7_ BK195 4 rfl, q7_ BK195 5 rfl⟩ (fun hHeld => ?_); refine with_tabW seizinlaw04_head.tab11 seizinlaw04_head.bits11 (fun HT_ HW_ => ?_)
               generalize w107.drew = w108 at BK195 BK196 BK204 BK212 BK220 BK228 BK236 BK244 BK252 BK260 HB hHeld ⊢
               refine take_ (i := 0) (N := some 66) (v := ?_) (a' := ?_) m15_1 rfl rfl (take_ofW HT_.out HW_.out (by kernel_rfl)) (fun _ _ _ h => h) (Or.inl ⟨by rfl, ?_⟩) hHeld ?_ ?_
               rotate_left
               ·rintro w' ⟨s0, s1, s2, s3, s4, s5, s6, s7, s8, s9, s10, s11⟩
                go_simp
                with_reducible rfl
               rotate_left
               ·simp only [Act.put, q4_, q5_, q6_, i64_w, i32_w]
                rfl
               refine take_ (i := 2) (N := some 68) (v := ?_) (a' := ?_) m15_2 rfl rfl (take_ofW HT_.out HW_.out (by kernel_rfl)) (fun _ _ _ h => h) (Or.inl ⟨by rfl, ?_⟩) hHeld ?_ ?_
               rotate_left
               ·rintro w' ⟨s0, s1, s2, s3, s4, s5, s6, s7, s8, s9, s10, s11⟩
                go_simp
                with_reducible rfl
               rotate_left
               ·simp only [Act.put, q4_, q5_, q6_, i64_w, i32_w]
                rfl
               refine join_ (σ := Nat) 2 m15_3 (fun s_ => [(67, .agg #[.bool t261, .int .i64 t262, .int .i64 t263, .int .i64 t264, .int .i64 t265, .int .i64 t266]), (69, .tuple #[.agg #[.bool t267, .int .i64 t268, .int .i64 t269, .int .i64 t270, .int .i64 t271, .int .i64 t272], .int .i64 t273]), (19, .pointer (some ⟨s_, 0, none⟩)), (65, .tuple #[.agg #[.bool t267, .int .i64 t268, .int .i64 t269, .int .i64 t270, .int .i64 t271, .int .i64 t272], .int .i64 t273]), (70, .agg #[.bool t267, .int .i64 t268, .int .i64 t269, .int .i64 t270, .int .i64 t271, .int .i64 t272]), (71, .int .i64 t273)]) (fun s_ w' => (w'.cell? ⟨gb204, 0, none⟩ = some (.bool t197) ∧ w'.cell? ⟨gb204, 1, none⟩ = some (.int .i64 t198) ∧ w'.cell? ⟨gb204, 2, none⟩ = some (.int .i64 t199) ∧ w'.cell? ⟨gb204, 3, none⟩ = some (.int .i64 t200) ∧ w'.cell? ⟨gb204, 4, none⟩ = some (.int .i64 t201) ∧ w'.cell? ⟨gb204, 5, none⟩ = some (.int .i64 t202) ∧ w'.cell? ⟨gb195, 0, none⟩ = some (.bool true) ∧ w'.cell? ⟨gb195, 1, none⟩ = some (.int .i64 16) ∧ w'.cell? ⟨gb195, 2, none⟩ = some (.int .i64 48) ∧ w'.cell? ⟨gb195, 3, none⟩ = some (.int .i64 20) ∧ w'.cell? ⟨gb195, 4, none⟩ = some (.int .i64 7) ∧ w'.cell? ⟨gb195, 5, none⟩ = some (.int .i64 0)) ∧ (w'.heap[gb195]? = some (.cells #[.bool true, .int .i64 16, .int .i64 48, .int .i64 20, .int .i64 7, .int .i64 0] 23 (0, 0))) ∧ (w'.heap[gb196]? = some (.cells #[.bool true, .int .i64 0, .int .i64 256, .int .i64 9, .int .i64 96, .int .i64 0] 23 (0, 0))) ∧ (w'.heap[gb204]? = some (.cells #[.bool t197, .int .i64 t198, .int .i64 t199, .int .i64 t200, .int .i64 t201, .int .i64 t202] 23 (0, 0))) ∧ (w'.heap[gb212]? = some (.cells #[.bool t205, .int .i64 t206, .int .i64 t207, .int .i64 t208, .int .i64 t209, .int .i64 t210] 23 (0, 0))) ∧ (w'.heap[gb220]? = some (.cells #[.bool t213, .int .i64 t214, .int .i64 t215, .int .i64 t216, .int .i64 t217, .int .i64 t218] 23 (0, 0))) ∧ (w'.heap[gb228]? = some (.cells #[.bool true, .int .i64 t222, .int .i64 t223, .int .i64 t224, .int .i64 t225, .int .i64 t226] 23 (0, 0))) ∧ (w'.heap[gb236]? = some (.cells #[.bool t229, .int .i64 t230, .int .i64 t231, .int .i64 t232, .int .i64 t233, .int .i64 t234] 23 (0, 0))) ∧ (w'.heap[gb244]? = some (.cells #[.bool t237, .int .i64 t238, .int .i64 t239, .int .i64 t240, .int .i64 t241, .int .i64 t242] 23 (0, 0))) ∧ (w'.heap[gb252]? = some (.cells #[.bool t245, .int .i64 t246, .int .i64 t247, .int .i64 t248, .int .i64 t249, .int .i64 t250] 23 (0, 0))) ∧ (w'.heap[gb260]? = some (.cells #[.bool t253, .int .i64 t254, .int .i64 t255, .int .i64 t256, .int .i64 t257, .int .i64 t258] 23 (0, 0))) ∧ (w'.heap[s_]? = some (.cells #[.bool false, .int .i64 0, .int .i64 0, .int .i64 0, .int .i64 0, .int .i64 0] 23 (0, 0))) ∧ (w.heap.size ≤ s_) ∧ (w.heap.size ≤ s_) ∧ (gb195 ≠ s_) ∧ (s_ ≠ gb195) ∧ (gb196 ≠ s_) ∧ (s_ ≠ gb196) ∧ (gb204 ≠ s_) ∧ (s_ ≠ gb204) ∧ (gb212 ≠ s_) ∧ (s_ ≠ gb212) ∧ (gb220 ≠ s_) ∧ (s_ ≠ gb220) ∧ (gb228 ≠ s_) ∧ (s_ ≠ gb228) ∧ (gb236 ≠ s_) ∧ (s_ ≠ gb236) ∧ (gb244 ≠ s_) ∧ (s_ ≠ gb244) ∧ (gb252 ≠ s_) ∧ (s_ ≠ gb252) ∧ (gb260 ≠ s_) ∧ (s_ ≠ gb260) ∧ (Below w.heap.size w w')) ?_ ?_
               rotate_left
               ·intro hCont
                refine two_ (i := 1) (j := 7) (Ni := some 67) (Nj := some 19) m15_4 m15_5 rfl rfl rfl rfl (two_of HT_.out (by kernel_rfl)) (by decide) (by decide) (fun K hK => ?_) (fun K hK => ?_)
                ·skip
                 refine goes_ Try.func17 (by kernel_rfl) rfl #[.agg #[.bool t197, .int .i64 t198, .int .i64 t199, .int .i64 t200, .int .i64 t201, .int .i64 t202]] (by rfl) rfl rfl (by (try simp only [List.map_toArray, List.map_cons, List.map_nil]); first | done | rfl | (simp only [List.length_drop, List.length_take]; rfl)) ?_
                 with_reducible refine (derive_Clear.calls t197 t198 t199 t200 t201 t202 t261 t262 t263 t264 t265 t266 _ A9.out).mono ?_
                 rintro e w109 ⟨rfl, hb⟩
                 refine ⟨_, rfl, ?_⟩
                 have n0_ := q1_ BK195 hb
                 have n1_ := q1_ BK196 hb
                 have n2_ := q1_ BK204 hb
                 have n3_ := q1_ BK212 hb
                 have n4_ := q1_ BK220 hb
                 have n5_ := q1_ BK228 hb
                 have n6_ := q1_ BK236 hb
                 have n7_ := q1_ BK244 hb
                 have n8_ := q1_ BK252 hb
                 have n9_ := q1_ BK260 hb
                 have n10_ := q2_ HB hb
                 clear BK195
                 clear BK196
                 clear BK204
                 clear BK212
                 clear BK220
                 clear BK228
                 clear BK236
                 clear BK244
                 clear BK252
                 clear BK260
                 clear HB
                 have BK195 := n0_
                 have BK196 := n1_
                 have BK204 := n2_
                 have BK212 := n3_
                 have BK220 := n4_
                 have BK228 := n5_
                 have BK236 := n6_
                 have BK244 := n7_
                 have BK252 := n8_
                 have BK260 := n9_
                 have HB := n10_
                 clear n0_ n1_ n2_ n3_ n4_ n5_ n6_ n7_ n8_ n9_ n10_
                 (try clear hb)
                 (try clear hb2)
                 (try clear hk)
                 (try clear hi)
                 refine hK.out _ _ ⟨q7_ BK204 0 rfl, q7_ BK204 1 rfl, q7_ BK204 2 rfl, q7_ BK204 3 rfl, q7_ BK204 4 rfl, q7_ BK204 5 rfl, q7_ BK195 0 rfl, q7_ BK195 1 rfl, q7_ BK195 2 rfl, q7_ BK195 3 rfl, q7_ BK195 4 rfl, q7_ BK195 5 rfl⟩ (fun hHeld => ?_)
                 clear hK K
                 refine norm_ (a' := ?_) ?_ ?_
                 rotate_left
                 ·show Act.put _ (some 67) _ = _
                  simp only [Act.put, q4_, q5_, q6_, i64_w, i32_w]
                  rfl
                 refine two_ (i := 3) (j := 7) (Ni := some 69) (Nj := some 19) m15_6 m15_7 rfl rfl rfl rfl (two_of HT_.out (by kernel_rfl)) (by decide) (by decide) (fun K hK => ?_) (fun K hK => ?_)
                 ·skip
                  refine goes_ Try.func25 (by kernel_rfl) rfl #[.agg #[.bool t261, .int .i64 t262, .int .i64 t263, .int .i64 t264, .int .i64 t265, .int .i64 t266], .agg #[.bool true, .int .i64 16, .int .i64 48, .int .i64 20, .int .i64 7, .int .i64 0]] (by rfl) rfl rfl (by (try simp only [List.map_toArray, List.map_cons, List.map_nil]); first | done | rfl | (simp only [List.length_drop, List.length_take]; rfl)) ?_
                  with_reducible refine (derive_Build.calls t261 t262 t263 t264 t265 t266 true 16 48 20 7 0 t267 t268 t269 t270 t271 t272 t273 _ A10.out).mono ?_
                  rintro e w110 ⟨rfl, hb⟩
                  refine ⟨_, rfl, ?_⟩
                  have n0_ := q1_ BK195 hb
                  have n1_ := q1_ BK196 hb
                  have n2_ := q1_ BK204 hb
                  have n3_ := q1_ BK212 hb
                  have n4_ := q1_ BK220 hb
                  have n5_ := q1_ BK228 hb
                  have n6_ := q1_ BK236 hb
                  have n7_ := q1_ BK244 hb
                  have n8_ := q1_ BK252 hb
                  have n9_ := q1_ BK260 hb
                  have n10_ := q2_ HB hb
                  clear BK195
                  clear BK196
                  clear BK204
                  clear BK212
                  clear BK220
                  clear BK228
                  clear BK236
                  clear BK244
                  clear BK252
                  clear BK260
                  clear HB
                  have BK195 := n0_
                  have BK196 := n1_
                  have BK204 := n2_
                  have BK212 := n3_
                  have BK220 := n4_
                  have BK228 := n5_
                  have BK236 := n6_
                  have BK244 := n7_
                  have BK252 := n8_
                  have BK260 := n9_
                  have HB := n10_
                  clear n0_ n1_ n2_ n3_ n4_ n5_ n6_ n7_ n8_ n9_ n10_
                  (try clear hb)
                  (try clear hb2)
                  (try clear hk)
                  (try clear hi)
                  refine hK.out _ _ ⟨q7_ BK204 0 rfl, q7_ BK204 1 rfl, q7_ BK204 2 rfl, q7_ BK204 3 rfl, q7_ BK204 4 rfl, q7_ BK204 5 rfl, q7_ BK195 0 rfl, q7_ BK195 1 rfl, q7_ BK195 2 rfl, q7_ BK195 3 rfl, q7_ BK195 4 rfl, q7_ BK195 5 rfl⟩ (fun hHeld => ?_)
                  clear hK K
                  refine norm_ (a' := ?_) ?_ ?_
                  rotate_left
                  ·show Act.put _ (some 69) _ = _
                   simp only [Act.put, q4_, q5_, q6_, i64_w, i32_w]
                   rfl
                  refine pure_ (i := 4) (N := some 65) (v := ?_) (a' := ?_) m15_8 rfl rfl (any_of HT_.out (by kernel_rfl)) (fun _ _ _ h => h) (Or.inl ⟨by rfl, ?_⟩) ?_ ?_
                  rotate_left
                  ·intro w'
                   go_simp
                   with_reducible rfl
                  rotate_left
                  ·simp only [Act.put, q4_, q5_, q6_, i64_w, i32_w]
                   rfl
                  refine pure_ (i := 5) (N := some 70) (v := ?_) (a' := ?_) m15_9 rfl rfl (any_of HT_.out (by kernel_rfl)) (fun _ _ _ h => h) (Or.inl ⟨by rfl, ?_⟩) ?_ ?_
                  rotate_left
                  ·intro w'
                   go_simp
                   with_reducible rfl
                  rotate_left
                  ·simp only [Act.put, q4_, q5_, q6_, i64_w, i32_w]
                   rfl
                  refine pure_ (i := 6) (N := some 71) (v := ?_) (a' := ?_) m15_10 rfl rfl (any_of HT_.out (by kernel_rfl)) (fun _ _ _ h => h) (Or.inl ⟨by rfl, ?_⟩) ?_ ?_
                  rotate_left
                  ·intro w'
                   go_simp
                   with_reducible rfl
                  rotate_left
                  ·simp only [Act.put, q4_, q5_, q6_, i64_w, i32_w]
                   rfl
                  refine one_ (i := 7) (N := some 19) m15_3 rfl rfl (one_of HT_.out (by kernel_rfl)) (by decide) (fun K hK => ?_)
                  refine box_step ?hg (N := 19) ?hd (cs := #[.bool false, .int .i64 0, .int .i64 0, .int .i64 0, .int .i64 0, .int .i64 0]) (t := 23) ?hr ?_; (case hd => rfl); (case hg => rfl); (case hr => first | (go_simp; done) | (go_simp; rfl))
                  intro gb274 hg w111 hbox hb
                  have n0_ := q1_ BK195 hb
                  have n1_ := q1_ BK196 hb
                  have n2_ := q1_ BK204 hb
                  have n3_ := q1_ BK212 hb
                  have n4_ := q1_ BK220 hb
                  have n5_ := q1_ BK228 hb
                  have n6_ := q1_ BK236 hb
                  have n7_ := q1_ BK244 hb
                  have n8_ := q1_ BK252 hb
                  have n9_ := q1_ BK260 hb
                  have n10_ := q2_ HB hb
                  have n11_ := Aside0.mk (hbox)
                  have n12_ := q11_ HB hg
                  have n13_ := q11_ HB hg
                  have n14_ := q12_ BK195 hg
                  have n15_ := q13_ BK195 hg
                  have n16_ := q12_ BK196 hg
                  have n17_ := q13_ BK196 hg
                  have n18_ := q12_ BK204 hg
                  have n19_ := q13_ BK204 hg
                  have n20_ := q12_ BK212 hg
                  have n21_ := q13_ BK212 hg
                  have n22_ := q12_ BK220 hg
                  have n23_ := q13_ BK220 hg
                  have n24_ := q12_ BK228 hg
                  have n25_ := q13_ BK228 hg
                  have n26_ := q12_ BK236 hg
                  have n27_ := q13_ BK236 hg
                  have n28_ := q12_ BK244 hg
                  have n29_ := q13_ BK244 hg
                  have n30_ := q12_ BK252 hg
                  have n31_ := q13_ BK252 hg
                  have n32_ := q12_ BK260 hg
                  have n33_ := q13_ BK260 hg
                  clear BK195
                  clear BK196
                  clear BK204
                  clear BK212
                  clear BK220
                  clear BK228
                  clear BK236
                  clear BK244
                  clear BK252
                  clear BK260
                  clear HB
                  have BK195 := n0_
                  have BK196 := n1_
                  have BK204 := n2_
                  have BK212 := n3_
                  have BK220 := n4_
                  have BK228 := n5_
                  have BK236 := n6_
                  have BK244 := n7_
                  have BK252 := n8_
                  have BK260 := n9_
                  have HB := n10_
                  have BK274 := n11_
                  have GW274 := n12_
                  have GE274 := n13_
                  have NB195_274 := n14_
                  have NB274_195 := n15_
                  have NB196_274 := n16_
                  have NB274_196 := n17_
                  have NB204_274 := n18_
                  have NB274_204 := n19_
                  have NB212_274 := n20_
                  have NB274_212 := n21_
                  have NB220_274 := n22_
                  have NB274_220 := n23_
                  have NB228_274 := n24_
                  have NB274_228 := n25_
                  have NB236_274 := n26_
                  have NB274_236 := n27_
                  have NB244_274 := n28_
                  have NB274_244 := n29_
                  have NB252_274 := n30_
                  have NB274_252 := n31_
                  have NB260_274 := n32_
                  have NB274_260 := n33_
                  clear n0_ n1_ n2_ n3_ n4_ n5_ n6_ n7_ n8_ n9_ n10_ n11_ n12_ n13_ n14_ n15_ n16_ n17_ n18_ n19_ n20_ n21_ n22_ n23_ n24_ n25_ n26_ n27_ n28_ n29_ n30_ n31_ n32_ n33_
                  clear hb hbox hg
                  refine hK.out _ _ ⟨q7_ BK204 0 rfl, q7_ BK204 1 rfl, q7_ BK204 2 rfl, q7_ BK204 3 rfl, q7_ BK204 4 rfl, q7_ BK204 5 rfl, q7_ BK195 0 rfl, q7_ BK195 1 rfl, q7_ BK195 2 rfl, q7_ BK195 3 rfl, q7_ BK195 4 rfl, q7_ BK195 5 rfl⟩ (fun hHeld => ?_)
                  clear hK K
                  refine norm_ (a' := ?_) ?_ ?_
                  rotate_left
                  ·show Act.put _ (some 19) _ = _
                   simp only [Act.put, q4_, q5_, q6_, i64_w, i32_w]
                   rfl
                  exact norm_ (by simp only [putAll, Act.put, q4_, q5_, q6_]) (hCont (gb274) _ ⟨hHeld, (q3_ BK195).out, (q3_ BK196).out, (q3_ BK204).out, (q3_ BK212).out, (q3_ BK220).out, (q3_ BK228).out, (q3_ BK236).out, (q3_ BK244).out, (q3_ BK252).out, (q3_ BK260).out, (q3_ BK274).out, GW274.out, GE274.out, NB195_274.out, NB274_195.out, NB196_274.out, NB274_196.out, NB204_274.out, NB274_204.out, NB212_274.out, NB274_212.out, NB220_274.out, NB274_220.out, NB228_274.out, NB274_228.out, NB236_274.out, NB274_236.out, NB244_274.out, NB274_244.out, NB252_274.out, NB274_252.out, NB260_274.out, NB274_260.out, (by repeat (first | (with_reducible first | exact HB.out | apply below_alloc | apply pw_below_drewN | apply below_drew1 | refine below_set ?_ GE195.out | refine below_set ?_ GE196.out | refine below_set ?_ GE204.out | refine below_set ?_ GE212.out | refine below_set ?_ GE220.out | refine below_set ?_ GE228.out | refine below_set ?_ GE236.out | refine below_set ?_ GE244.out | refine below_set ?_ GE252.out | refine below_set ?_ GE260.out | refine below_set ?_ GE274.out) | exact HB.out))⟩)
                 ·skip
                  refine box_step ?hg (N := 19) ?hd (cs := #[.bool false, .int .i64 0, .int .i64 0, .int .i64 0, .int .i64 0, .int .i64 0]) (t := 23) ?hr ?_; (case hd => rfl); (case hg => rfl); (case hr => first | (go_simp; done) | (go_simp; rfl))
                  intro gb274 hg w110 hbox hb
                  have n0_ := q1_ BK195 hb
                  have n1_ := q1_ BK196 hb
                  have n2_ := q1_ BK204 hb
                  have n3_ := q1_ BK212 hb
                  have n4_ := q1_ BK220 hb
                  have n5_ := q1_ BK228 hb
                  have n6_ := q1_ BK236 hb
                  have n7_ := q1_ BK244 hb
                  have n8_ := q1_ BK252 hb
                  have n9_ := q1_ BK260 hb
                  have n10_ := q2_ HB hb
                  have n11_ := Aside0.mk (hbox)
                  have n12_ := q11_ HB hg
                  have n13_ := q11_ HB hg
                  have n14_ := q12_ BK195 hg
                  have n15_ := q13_ BK195 hg
                  have n16_ := q12_ BK196 hg
                  have n17_ := q13_ BK196 hg
                  have n18_ := q12_ BK204 hg
                  have n19_ := q13_ BK204 hg
                  have n20_ := q12_ BK212 hg
                  have n21_ := q13_ BK212 hg
                  have n22_ := q12_ BK220 hg
                  have n23_ := q13_ BK220 hg
                  have n24_ := q12_ BK228 hg
                  have n25_ := q13_ BK228 hg
                  have n26_ := q12_ BK236 hg
                  have n27_ := q13_ BK236 hg
                  have n28_ := q12_ BK244 hg
                  have n29_ := q13_ BK244 hg
                  have n30_ := q12_ BK252 hg
                  have n31_ := q13_ BK252 hg
                  have n32_ := q12_ BK260 hg
                  have n33_ := q13_ BK260 hg
                  clear BK195
                  clear BK196
                  clear BK204
                  clear BK212
                  clear BK220
                  clear BK228
                  clear BK236
                  clear BK244
                  clear BK252
                  clear BK260
                  clear HB
                  have BK195 := n0_
                  have BK196 := n1_
                  have BK204 := n2_
                  have BK212 := n3_
                  have BK220 := n4_
                  have BK228 := n5_
                  have BK236 := n6_
                  have BK244 := n7_
                  have BK252 := n8_
                  have BK260 := n9_
                  have HB := n10_
                  have BK274 := n11_
                  have GW274 := n12_
                  have GE274 := n13_
                  have NB195_274 := n14_
                  have NB274_195 := n15_
                  have NB196_274 := n16_
                  have NB274_196 := n17_
                  have NB204_274 := n18_
                  have NB274_204 := n19_
                  have NB212_274 := n20_
                  have NB274_212 := n21_
                  have NB220_274 := n22_
                  have NB274_220 := n23_
                  have NB228_274 := n24_
                  have NB274_228 := n25_
                  have NB236_274 := n26_
                  have NB274_236 := n27_
                  have NB244_274 := n28_
                  have NB274_244 := n29_
                  have NB252_274 := n30_
                  have NB274_252 := n31_
                  have NB260_274 := n32_
                  have NB274_260 := n33_
                  clear n0_ n1_ n2_ n3_ n4_ n5_ n6_ n7_ n8_ n9_ n10_ n11_ n12_ n13_ n14_ n15_ n16_ n17_ n18_ n19_ n20_ n21_ n22_ n23_ n24_ n25_ n26_ n27_ n28_ n29_ n30_ n31_ n32_ n33_
                  clear hb hbox hg
                  refine hK.out _ _ ⟨q7_ BK204 0 rfl, q7_ BK204 1 rfl, q7_ BK204 2 rfl, q7_ BK204 3 rfl, q7_ BK204 4 rfl, q7_ BK204 5 rfl, q7_ BK195 0 rfl, q7_ BK195 1 rfl, q7_ BK195 2 rfl, q7_ BK195 3 rfl, q7_ BK195 4 rfl, q7_ BK195 5 rfl⟩ (fun hHeld => ?_)
                  clear hK K
                  refine norm_ (a' := ?_) ?_ ?_
                  rotate_left
                  ·show Act.put _ (some 19) _ = _
                   simp only [Act.put, q4_, q5_, q6_, i64_w, i32_w]
                   rfl
                  refine one_ (i := 3) (N := some 69) m15_11 rfl rfl (one_of HT_.out (by kernel_rfl)) (by decide) (fun K hK => ?_)
                  refine goes_ Try.func25 (by kernel_rfl) rfl #[.agg #[.bool t261, .int .i64 t262, .int .i64 t263, .int .i64 t264, .int .i64 t265, .int .i64 t266], .agg #[.bool true, .int .i64 16, .int .i64 48, .int .i64 20, .int .i64 7, .int .i64 0]] (by rfl) rfl rfl (by (try simp only [List.map_toArray, List.map_cons, List.map_nil]); first | done | rfl | (simp only [List.length_drop, List.length_take]; rfl)) ?_
                  with_reducible refine (derive_Build.calls t261 t262 t263 t264 t265 t266 true 16 48 20 7 0 t267 t268 t269 t270 t271 t272 t273 _ A10.out).mono ?_
                  rintro e w111 ⟨rfl, hb⟩
                  refine ⟨_, rfl, ?_⟩
                  have n0_ := q1_ BK195 hb
                  have n1_ := q1_ BK196 hb
                  have n2_ := q1_ BK204 hb
                  have n3_ := q1_ BK212 hb
                  have n4_ := q1_ BK220 hb
                  have n5_ := q1_ BK228 hb
                  have n6_ := q1_ BK236 hb
                  have n7_ := q1_ BK244 hb
                  have n8_ := q1_ BK252 hb
                  have n9_ := q1_ BK260 hb
                  have n10_ := q1_ BK274 hb
                  have n11_ := q2_ HB hb
                  clear BK195
                  clear BK196
                  clear BK204
                  clear BK212
                  clear BK220
                  clear BK228
                  clear BK236
                  clear BK244
                  clear BK252
                  clear BK260
                  clear BK274
                  clear HB
                  have BK195 := n0_
                  have BK196 := n1_
                  have BK204 := n2_
                  have BK212 := n3_
                  have BK220 := n4_
                  have BK228 := n5_
                  have BK236 := n6_
                  have BK244 := n7_
                  have BK252 := n8_
                  have BK260 := n9_
                  have BK274 := n10_
                  have HB := n11_
                  clear n0_ n1_ n2_ n3_ n4_ n5_ n6_ n7_ n8_ n9_ n10_ n11_
                  (try clear hb)
                  (try clear hb2)
                  (try clear hk)
                  (try clear hi)
                  refine hK.out _ _ ⟨q7_ BK204 0 rfl, q7_ BK204 1 rfl, q7_ BK204 2 rfl, q7_ BK204 3 rfl, q7_ BK204 4 rfl, q7_ BK204 5 rfl, q7_ BK195 0 rfl, q7_ BK195 1 rfl, q7_ BK195 2 rfl, q7_ BK195 3 rfl, q7_ BK195 4 rfl, q7_ BK195 5 rfl⟩ (fun hHeld => ?_)
                  clear hK K
                  refine norm_ (a' := ?_) ?_ ?_
                  rotate_left
                  ·show Act.put _ (some 69) _ = _
                   simp only [Act.put, q4_, q5_, q6_, i64_w, i32_w]
                   rfl
                  refine pure_ (i := 4) (N := some 65) (v := ?_) (a' := ?_) m15_12 rfl rfl (any_of HT_.out (by kernel_rfl)) (fun _ _ _ h => h) (Or.inl ⟨by rfl, ?_⟩) ?_ ?_
                  rotate_left
                  ·intro w'
                   go_simp
                   with_reducible rfl
                  rotate_left
                  ·simp only [Act.put, q4_, q5_, q6_, i64_w, i32_w]
                   rfl
                  refine pure_ (i := 5) (N := some 70) (v := ?_) (a' := ?_) m15_13 rfl rfl (any_of HT_.out (by kernel_rfl)) (fun _ _ _ h => h) (Or.inl ⟨by rfl, ?_⟩) ?_ ?_
                  rotate_left
                  ·intro w'
                   go_simp
                   with_reducible rfl
                  rotate_left
                  ·simp only [Act.put, q4_, q5_, q6_, i64_w, i32_w]
                   rfl
                  refine pure_ (i := 6) (N := some 71) (v := ?_) (a' := ?_) m15_3 rfl rfl (any_of HT_.out (by kernel_rfl)) (fun _ _ _ h => h) (Or.inl ⟨by rfl, ?_⟩) ?_ ?_
                  rotate_left
                  ·intro w'
                   go_simp
                   with_reducible rfl
                  rotate_left
                  ·simp only [Act.put, q4_, q5_, q6_, i64_w, i32_w]
                   rfl
                  exact norm_ (by simp only [putAll, Act.put, q4_, q5_, q6_]) (hCont (gb274) _ ⟨hHeld, (q3_ BK195).out, (q3_ BK196).out, (q3_ BK204).out, (q3_ BK212).out, (q3_ BK220).out, (q3_ BK228).out, (q3_ BK236).out, (q3_ BK244).out, (q3_ BK252).out, (q3_ BK260).out, (q3_ BK274).out, GW274.out, GE274.out, NB195_274.out, NB274_195.out, NB196_274.out, NB274_196.out, NB204_274.out, NB274_204.out, NB212_274.out, NB274_212.out, NB220_274.out, NB274_220.out, NB228_274.out, NB274_228.out, NB236_274.out, NB274_236.out, NB244_274.out, NB274_244.out, NB252_274.out, NB274_252.out, NB260_274.out, NB274_260.out, (by repeat (first | (with_reducible first | exact HB.out | apply below_alloc | apply pw_below_drewN | apply below_drew1 | refine below_set ?_ GE195.out | refine below_set ?_ GE196.out | refine below_set ?_ GE204.out | refine below_set ?_ GE212.out | refine below_set ?_ GE220.out | refine below_set ?_ GE228.out | refine below_set ?_ GE236.out | refine below_set ?_ GE244.out | refine below_set ?_ GE252.out | refine below_set ?_ GE260.out | refine below_set ?_ GE274.out) | exact HB.out))⟩)
                ·skip
                 refine box_step ?hg (N := 19) ?hd (cs := #[.bool false, .int .i64 0, .int .i64 0, .int .i64 0, .int .i64 0, .int .i64 0]) (t := 23) ?hr ?_; (case hd => rfl); (case hg => rfl); (case hr => first | (go_simp; done) | (go_simp; rfl))
                 intro gb274 hg w109 hbox hb
                 have n0_ := q1_ BK195 hb
                 have n1_ := q1_ BK196 hb
                 have n2_ := q1_ BK204 hb
                 have n3_ := q1_ BK212 hb
                 have n4_ := q1_ BK220 hb
                 have n5_ := q1_ BK228 hb
                 have n6_ := q1_ BK236 hb
                 have n7_ := q1_ BK244 hb
                 have n8_ := q1_ BK252 hb
                 have n9_ := q1_ BK260 hb
                 have n10_ := q2_ HB hb
                 have n11_ := Aside0.mk (hbox)
                 have n12_ := q11_ HB hg
                 have n13_ := q11_ HB hg
                 have n14_ := q12_ BK195 hg
                 have n15_ := q13_ BK195 hg
                 have n16_ := q12_ BK196 hg
                 have n17_ := q13_ BK196 hg
                 have n18_ := q12_ BK204 hg
                 have n19_ := q13_ BK204 hg
                 have n20_ := q12_ BK212 hg
                 have n21_ := q13_ BK212 hg
                 have n22_ := q12_ BK220 hg
                 have n23_ := q13_ BK220 hg
                 have n24_ := q12_ BK228 hg
                 have n25_ := q13_ BK228 hg
                 have n26_ := q12_ BK236 hg
                 have n27_ := q13_ BK236 hg
                 have n28_ := q12_ BK244 hg
                 have n29_ := q13_ BK244 hg
                 have n30_ := q12_ BK252 hg
                 have n31_ := q13_ BK252 hg
                 have n32_ := q12_ BK260 hg
                 have n33_ := q13_ BK260 hg
                 clear BK195
                 clear BK196
                 clear BK204
                 clear BK212
                 clear BK220
                 clear BK228
                 clear BK236
                 clear BK244
                 clear BK252
                 clear BK260
                 clear HB
                 have BK195 := n0_
                 have BK196 := n1_
                 have BK204 := n2_
                 have BK212 := n3_
                 have BK220 := n4_
                 have BK228 := n5_
                 have BK236 := n6_
                 have BK244 := n7_
                 have BK252 := n8_
                 have BK260 := n9_
                 have HB := n10_
                 have BK274 := n11_
                 have GW274 := n12_
                 have GE274 := n13_
                 have NB195_274 := n14_
                 have NB274_195 := n15_
                 have NB196_274 := n16_
                 have NB274_196 := n17_
                 have NB204_274 := n18_
                 have NB274_204 := n19_
                 have NB212_274 := n20_
                 have NB274_212 := n21_
                 have NB220_274 := n22_
                 have NB274_220 := n23_
                 have NB228_274 := n24_
                 have NB274_228 := n25_
                 have NB236_274 := n26_
                 have NB274_236 := n27_
                 have NB244_274 := n28_
                 have NB274_244 := n29_
                 have NB252_274 := n30_
                 have NB274_252 := n31_
                 have NB260_274 := n32_
                 have NB274_260 := n33_
                 clear n0_ n1_ n2_ n3_ n4_ n5_ n6_ n7_ n8_ n9_ n10_ n11_ n12_ n13_ n14_ n15_ n16_ n17_ n18_ n19_ n20_ n21_ n22_ n23_ n24_ n25_ n26_ n27_ n28_ n29_ n30_ n31_ n32_ n33_
                 clear hb hbox hg
                 refine hK.out _ _ ⟨q7_ BK204 0 rfl, q7_ BK204 1 rfl, q7_ BK204 2 rfl, q7_ BK204 3 rfl, q7_ BK204 4 rfl, q7_ BK204 5 rfl, q7_ BK195 0 rfl, q7_ BK195 1 rfl, q7_ BK195 2 rfl, q7_ BK195 3 rfl, q7_ BK195 4 rfl, q7_ BK195 5 rfl⟩ (fun hHeld => ?_)
                 clear hK K
                 refine norm_ (a' := ?_) ?_ ?_
                 rotate_left
                 ·show Act.put _ (some 19) _ = _
                  simp only [Act.put, q4_, q5_, q6_, i64_w, i32_w]
                  rfl
                 refine one_ (i := 1) (N := some 67) m15_7 rfl rfl (one_of HT_.out (by kernel_rfl)) (by decide) (fun K hK => ?_)
                 refine goes_ Try.func17 (by kernel_rfl) rfl #[.agg #[.bool t197, .int .i64 t198, .int .i64 t199, .int .i64 t200, .int .i64 t201, .int .i64 t202]] (by rfl) rfl rfl (by (try simp only [List.map_toArray, List.map_cons, List.map_nil]); first | done | rfl | (simp only [List.length_drop, List.length_take]; rfl)) ?_
                 with_reducible refine (derive_Clear.calls t197 t198 t199 t200 t201 t202 t261 t262 t263 t264 t265 t266 _ A9.out).mono ?_
                 rintro e w110 ⟨rfl, hb⟩
                 refine ⟨_, rfl, ?_⟩
                 have n0_ := q1_ BK195 hb
                 have n1_ := q1_ BK196 hb
                 have n2_ := q1_ BK204 hb
                 have n3_ := q1_ BK212 hb
                 have n4_ := q1_ BK220 hb
                 have n5_ := q1_ BK228 hb
                 have n6_ := q1_ BK236 hb
                 have n7_ := q1_ BK244 hb
                 have n8_ := q1_ BK252 hb
                 have n9_ := q1_ BK260 hb
                 have n10_ := q1_ BK274 hb
                 have n11_ := q2_ HB hb
                 clear BK195
                 clear BK196
                 clear BK204
                 clear BK212
                 clear BK220
                 clear BK228
                 clear BK236
                 clear BK244
                 clear BK252
                 clear BK260
                 clear BK274
                 clear HB
                 have BK195 := n0_
                 have BK196 := n1_
                 have BK204 := n2_
                 have BK212 := n3_
                 have BK220 := n4_
                 have BK228 := n5_
                 have BK236 := n6_
                 have BK244 := n7_
                 have BK252 := n8_
                 have BK260 := n9_
                 have BK274 := n10_
                 have HB := n11_
                 clear n0_ n1_ n2_ n3_ n4_ n5_ n6_ n7_ n8_ n9_ n10_ n11_
                 (try clear hb)
                 (try clear hb2)
                 (try clear hk)
                 (try clear hi)
                 refine hK.out _ _ ⟨q7_ BK204 0 rfl, q7_ BK204 1 rfl, q7_ BK204 2 rfl, q7_ BK204 3 rfl, q7_ BK204 4 rfl, q7_ BK204 5 rfl, q7_ BK195 0 rfl, q7_ BK195 1 rfl, q7_ BK195 2 rfl, q7_ BK195 3 rfl, q7_ BK195 4 rfl, q7_ BK195 5 rfl⟩ (fun hHeld => ?_)
                 clear hK K
                 refine norm_ (a' := ?_) ?_ ?_
                 rotate_left
                 ·show Act.put _ (some 67) _ = _
                  simp only [Act.put, q4_, q5_, q6_, i64_w, i32_w]
                  rfl
                 refine one_ (i := 3) (N := some 69) m15_11 rfl rfl (one_of HT_.out (by kernel_rfl)) (by decide) (fun K hK => ?_)
                 refine goes_ Try.func25 (by kernel_rfl) rfl #[.agg #[.bool t261, .int .i64 t262, .int .i64 t263, .int .i64 t264, .int .i64 t265, .int .i64 t266], .agg #[.bool true, .int .i64 16, .int .i64 48, .int .i64 20, .int .i64 7, .int .i64 0]] (by rfl) rfl rfl (by (try simp only [List.map_toArray, List.map_cons, List.map_nil]); first | done | rfl | (simp only [List.length_drop, List.length_take]; rfl)) ?_
                 with_reducible refine (derive_Build.calls t261 t262 t263 t264 t265 t266 true 16 48 20 7 0 t267 t268 t269 t270 t271 t272 t273 _ A10.out).mono ?_
                 rintro e w111 ⟨rfl, hb⟩
                 refine ⟨_, rfl, ?_⟩
                 have n0_ := q1_ BK195 hb
                 have n1_ := q1_ BK196 hb
                 have n2_ := q1_ BK204 hb
                 have n3_ := q1_ BK212 hb
                 have n4_ := q1_ BK220 hb
                 have n5_ := q1_ BK228 hb
                 have n6_ := q1_ BK236 hb
                 have n7_ := q1_ BK244 hb
                 have n8_ := q1_ BK252 hb
                 have n9_ := q1_ BK260 hb
                 have n10_ := q1_ BK274 hb
                 have n11_ := q2_ HB hb
                 clear BK195
                 clear BK196
                 clear BK204
                 clear BK212
                 clear BK220
                 clear BK228
                 clear BK236
                 clear BK244
                 clear BK252
                 clear BK260
                 clear BK274
                 clear HB
                 have BK195 := n0_
                 have BK196 := n1_
                 have BK204 := n2_
                 have BK212 := n3_
                 have BK220 := n4_
                 have BK228 := n5_
                 have BK236 := n6_
                 have BK244 := n7_
                 have BK252 := n8_
                 have BK260 := n9_
                 have BK274 := n10_
                 have HB := n11_
                 clear n0_ n1_ n2_ n3_ n4_ n5_ n6_ n7_ n8_ n9_ n10_ n11_
                 (try clear hb)
                 (try clear hb2)
                 (try clear hk)
                 (try clear hi)
                 refine hK.out _ _ ⟨q7_ BK204 0 rfl, q7_ BK204 1 rfl, q7_ BK204 2 rfl, q7_ BK204 3 rfl, q7_ BK204 4 rfl, q7_ BK204 5 rfl, q7_ BK195 0 rfl, q7_ BK195 1 rfl, q7_ BK195 2 rfl, q7_ BK195 3 rfl, q7_ BK195 4 rfl, q7_ BK195 5 rfl⟩ (fun hHeld => ?_)
                 clear hK K
                 refine norm_ (a' := ?_) ?_ ?_
                 rotate_left
                 ·show Act.put _ (some 69) _ = _
                  simp only [Act.put, q4_, q5_, q6_, i64_w, i32_w]
                  rfl
                 refine pure_ (i := 4) (N := some 65) (v := ?_) (a' := ?_) m15_12 rfl rfl (any_of HT_.out (by kernel_rfl)) (fun _ _ _ h => h) (Or.inl ⟨by rfl, ?_⟩) ?_ ?_
                 rotate_left
                 ·intro w'
                  go_simp
                  with_reducible rfl
                 rotate_left
                 ·simp only [Act.put, q4_, q5_, q6_, i64_w, i32_w]
                  rfl
                 refine pure_ (i := 5) (N := some 70) (v := ?_) (a' := ?_) m15_13 rfl rfl (any_of HT_.out (by kernel_rfl)) (fun _ _ _ h => h) (Or.inl ⟨by rfl, ?_⟩) ?_ ?_
                 rotate_left
                 ·intro w'
                  go_simp
                  with_reducible rfl
                 rotate_left
                 ·simp only [Act.put, q4_, q5_, q6_, i64_w, i32_w]
                  rfl
                 refine pure_ (i := 6) (N := some 71) (v := ?_) (a' := ?_) m15_3 rfl rfl (any_of HT_.out (by kernel_rfl)) (fun _ _ _ h => h) (Or.inl ⟨by rfl, ?_⟩) ?_ ?_
                 rotate_left
                 ·intro w'
                  go_simp
                  with_reducible rfl
                 rotate_left
                 ·simp only [Act.put, q4_, q5_, q6_, i64_w, i32_w]
                  rfl
                 exact norm_ (by simp only [putAll, Act.put, q4_, q5_, q6_]) (hCont (gb274) _ ⟨hHeld, (q3_ BK195).out, (q3_ BK196).out, (q3_ BK204).out, (q3_ BK212).out, (q3_ BK220).out, (q3_ BK228).out, (q3_ BK236).out, (q3_ BK244).out, (q3_ BK252).out, (q3_ BK260).out, (q3_ BK274).out, GW274.out, GE274.out, NB195_274.out, NB274_195.out, NB196_274.out, NB274_196.out, NB204_274.out, NB274_204.out, NB212_274.out, NB274_212.out, NB220_274.out, NB274_220.out, NB228_274.out, NB274_228.out, NB236_274.out, NB274_236.out, NB244_274.out, NB274_244.out, NB252_274.out, NB274_252.out, NB260_274.out, NB274_260.out, (by repeat (first | (with_reducible first | exact HB.out | apply below_alloc | apply pw_below_drewN | apply below_drew1 | refine below_set ?_ GE195.out | refine below_set ?_ GE196.out | refine below_set ?_ GE204.out | refine below_set ?_ GE212.out | refine below_set ?_ GE220.out | refine below_set ?_ GE228.out | refine below_set ?_ GE236.out | refine below_set ?_ GE244.out | refine below_set ?_ GE252.out | refine below_set ?_ GE260.out | refine below_set ?_ GE274.out) | exact HB.out))⟩)
               rintro gb274 w112 ⟨hS_, h0_, h1_, h2_, h3_, h4_, h5_, h6_, h7_, h8_, h9_, h10_, h11_, h12_, h13_, h14_, h15_, h16_, h17_, h18_, h19_, h20_, h21_, h22_, h23_, h24_, h25_, h26_, h27_, h28_, h29_, h30_, h31_, h32_, h33_⟩
               have n0_ : Aside0 (w112.heap[gb195]? = some (.cells #[.bool true, .int .i64 16, .int .i64 48, .int .i64 20, .int .i64 7, .int .i64 0] 23 (0, 0))) := ⟨h0_⟩
               have n1_ : Aside0 (w112.heap[gb196]? = some (.cells #[.bool true, .int .i64 0, .int .i64 256, .int .i64 9, .int .i64 96, .int .i64 0] 23 (0, 0))) := ⟨h1_⟩
               have n2_ : Aside0 (w112.heap[gb204]? = some (.cells #[.bool t197, .int .i64 t198, .int .i64 t199, .int .i64 t200, .int .i64 t201, .int .i64 t202] 23 (0, 0))) := ⟨h2_⟩
               have n3_ : Aside0 (w112.heap[gb212]? = some (.cells #[.bool t205, .int .i64 t206, .int .i64 t207, .int .i64 t208, .int .i64 t209, .int .i64 t210] 23 (0, 0))) := ⟨h3_⟩
               have n4_ : Aside0 (w112.heap[gb220]? = some (.cells #[.bool t213, .int .i64 t214, .int .i64 t215, .int .i64 t216, .int .i64 t217, .int .i64 t218] 23 (0, 0))) := ⟨h4_⟩
               have n5_ : Aside0 (w112.heap[gb228]? = some (.cells #[.bool true, .int .i64 t222, .int .i64 t223, .int .i64 t224, .int .i64 t225, .int .i64 t226] 23 (0, 0))) := ⟨h5_⟩
               have n6_ : Aside0 (w112.heap[gb236]? = some (.cells #[.bool t229, .int .i64 t230, .int .i64 t231, .int .i64 t232, .int .i64 t233, .int .i64 t234] 23 (0, 0))) := ⟨h6_⟩
               have n7_ : Aside0 (w112.heap[gb244]? = some (.cells #[.bool t237, .int .i64 t238, .int .i64 t239, .int .i64 t240, .int .i64 t241, .int .i64 t242] 23 (0, 0))) := ⟨h7_⟩
               have n8_ : Aside0 (w112.heap[gb252]? = some (.cells #[.bool t245, .int .i64 t246, .int .i64 t247, .int .i64 t248, .int .i64 t249, .int .i64 t250] 23 (0, 0))) := ⟨h8_⟩
               have n9_ : Aside0 (w112.heap[gb260]? = some (.cells #[.bool t253, .int .i64 t254, .int .i64 t255, .int .i64 t256, .int .i64 t257, .int .i64 t258] 23 (0, 0))) := ⟨h9_⟩
               have n10_ : Aside0 (w112.heap[gb274]? = some (.cells #[.bool false, .int .i64 0, .int .i64 0, .int .i64 0, .int .i64 0, .int .i64 0] 23 (0, 0))) := ⟨h10_⟩
               have n11_ : Aside0 (w.heap.size ≤ gb274) := ⟨h11_⟩
               have n12_ : Aside0 (w.heap.size ≤ gb274) := ⟨h12_⟩
               have n13_ : Aside0 (gb195 ≠ gb274) := ⟨h13_⟩
               have n14_ : Aside0 (gb274 ≠ gb195) := ⟨h14_⟩
               have n15_ : Aside0 (gb196 ≠ gb274) := ⟨h15_⟩
               have n16_ : Aside0 (gb274 ≠ gb196) := ⟨h16_⟩
               have n17_ : Aside0 (gb204 ≠ gb274) := ⟨h17_⟩
               have n18_ : Aside0 (gb274 ≠ gb204) := ⟨h18_⟩
               have n19_ : Aside0 (gb212 ≠ gb274) := ⟨h19_⟩
               have n20_ : Aside0 (gb274 ≠ gb212) := ⟨h20_⟩
               have n21_ : Aside0 (gb220 ≠ gb274) := ⟨h21_⟩
               have n22_ : Aside0 (gb274 ≠ gb220) := ⟨h22_⟩
               have n23_ : Aside0 (gb228 ≠ gb274) := ⟨h23_⟩
               have n24_ : Aside0 (gb274 ≠ gb228) := ⟨h24_⟩
               have n25_ : Aside0 (gb236 ≠ gb274) := ⟨h25_⟩
               have n26_ : Aside0 (gb274 ≠ gb236) := ⟨h26_⟩
               have n27_ : Aside0 (gb244 ≠ gb274) := ⟨h27_⟩
               have n28_ : Aside0 (gb274 ≠ gb244) := ⟨h28_⟩
               have n29_ : Aside0 (gb252 ≠ gb274) := ⟨h29_⟩
               have n30_ : Aside0 (gb274 ≠ gb252) := ⟨h30_⟩
               have n31_ : Aside0 (gb260 ≠ gb274) := ⟨h31_⟩
               have n32_ : Aside0 (gb274 ≠ gb260) := ⟨h32_⟩
               have n33_ : Aside0 (Below w.heap.size w w112) := ⟨h33_⟩
               clear BK195
               clear BK196
               clear BK204
               clear BK212
               clear BK220
               clear BK228
               clear BK236
               clear BK244
               clear BK252
               clear BK260
               clear HB
               clear h0_ h1_ h2_ h3_ h4_ h5_ h6_ h7_ h8_ h9_ h10_ h11_ h12_ h13_ h14_ h15_ h16_ h17_ h18_ h19_ h20_ h21_ h22_ h23_ h24_ h25_ h26_ h27_ h28_ h29_ h30_ h31_ h32_ h33_
               have BK195 := n0_
               have BK196 := n1_
               have BK204 := n2_
               have BK212 := n3_
               have BK220 := n4_
               have BK228 := n5_
               have BK236 := n6_
               have BK244 := n7_
               have BK252 := n8_
               have BK260 := n9_
               have BK274 := n10_
               have GW274 := n11_
               have GE274 := n12_
               have NB195_274 := n13_
               have NB274_195 := n14_
               have NB196_274 := n15_
               have NB274_196 := n16_
               have NB204_274 := n17_
               have NB274_204 := n18_
               have NB212_274 := n19_
               have NB274_212 := n20_
               have NB220_274 := n21_
               have NB274_220 := n22_
               have NB228_274 := n23_
               have NB274_228 := n24_
               have NB236_274 := n25_
               have NB274_236 := n26_
               have NB244_274 := n27_
               have NB274_244 := n28_
               have NB252_274 := n29_
               have NB274_252 := n30_
               have NB260_274 := n31_
               have NB274_260 := n32_
               have HB := n33_
               clear n0_ n1_ n2_ n3_ n4_ n5_ n6_ n7_ n8_ n9_ n10_ n11_ n12_ n13_ n14_ n15_ n16_ n17_ n18_ n19_ n20_ n21_ n22_ n23_ n24_ n25_ n26_ n27_ n28_ n29_ n30_ n31_ n32_ n33_
               have hHeld : w112.cell? ⟨gb204, 0, none⟩ = some (.bool t197) ∧ w112.cell? ⟨gb204, 1, none⟩ = some (.int .i64 t198) ∧ w112.cell? ⟨gb204, 2, none⟩ = some (.int .i64 t199) ∧ w112.cell? ⟨gb204, 3, none⟩ = some (.int .i64 t200) ∧ w112.cell? ⟨gb204, 4, none⟩ = some (.int .i64 t201) ∧ w112.cell? ⟨gb204, 5, none⟩ = some (.int .i64 t202) ∧ w112.cell? ⟨gb195, 0, none⟩ = some (.bool true) ∧ w112.cell? ⟨gb195, 1, none⟩ = some (.int .i64 16) ∧ w112.cell? ⟨gb195, 2, none⟩ = some (.int .i64 48) ∧ w112.cell? ⟨gb195, 3, none⟩ = some (.int .i64 20) ∧ w112.cell? ⟨gb195, 4, none⟩ = some (.int .i64 7) ∧ w112.cell? ⟨gb195, 5, none⟩ = some (.int .i64 0) := hS_
               refine norm_ (a' := ?_) ?_ ?_
               rotate_left
               ·simp only [putAll, Act.put, q4_, q5_, q6_]
                rfl
               refine one_ (i := 8) (N := none) m15_14 rfl rfl (one_of HT_.out (by kernel_rfl)) (by decide) (fun K hK => ?_)
               have hs113 : w112.cell? ⟨gb274, 0, none⟩ = some (.bool false) := q7_ BK274 0 rfl
               have hfs113 := blk_frozen BK274.out 0
               have hns113_0 := NB195_274.out
               have hns113_1 := NB196_274.out
               have hns113_2 := NB204_274.out
               have hns113_3 := NB212_274.out
               have hns113_4 := NB220_274.out
               have hns113_5 := NB228_274.out
               have hns113_6 := NB236_274.out
               have hns113_7 := NB244_274.out
               have hns113_8 := NB252_274.out
               have hns113_9 := NB260_274.out
               have hms113_0 := NB274_195.out
               have hms113_1 := NB274_196.out
               have hms113_2 := NB274_204.out
               have hms113_3 := NB274_212.out
               have hms113_4 := NB274_220.out
               have hms113_5 := NB274_228.out
               have hms113_6 := NB274_236.out
               have hms113_7 := NB274_244.out
               have hms113_8 := NB274_252.out
               have hms113_9 := NB274_260.out
               have hs114 : w112.cell? ⟨gb274, 1, none⟩ = some (.int .i64 0) := q7_ BK274 1 rfl
               have hfs114 := blk_frozen BK274.out 1
               have hns114_0 := NB195_274.out
               have hns114_1 := NB196_274.out
               have hns114_2 := NB204_274.out
               have hns114_3 := NB212_274.out
               have hns114_4 := NB220_274.out
               have hns114_5 := NB228_274.out
               have hns114_6 := NB236_274.out
               have hns114_7 := NB244_274.out
               have hns114_8 := NB252_274.out
               have hns114_9 := NB260_274.out
               have hms114_0 := NB274_195.out
               have hms114_1 := NB274_196.out
               have hms114_2 := NB274_204.out
               have hms114_3 := NB274_212.out
               have hms114_4 := NB274_220.out
               have hms114_5 := NB274_228.out
               have hms114_6 := NB274_236.out
               have hms114_7 := NB274_244.out
               have hms114_8 := NB274_252.out
               have hms114_9 := NB274_260.out
               have hs115 : w112.cell? ⟨gb274, 2, none⟩ = some (.int .i64 0) := q7_ BK274 2 rfl
               have hfs115 := blk_frozen BK274.out 2
               have hns115_0 := NB195_274.out
               have hns115_1 := NB196_274.out
               have hns115_2 := NB204_274.out
               have hns115_3 := NB212_274.out
               have hns115_4 := NB220_274.out
               have hns115_5 := NB228_274.out
               have hns115_6 := NB236_274.out
               have hns115_7 := NB244_274.out
               have hns115_8 := NB252_274.out
               have hns115_9 := NB260_274.out
               have hms115_0 := NB274_195.out
               have hms115_1 := NB274_196.out
               have hms115_2 := NB274_204.out
               have hms115_3 := NB274_212.out
               have hms115_4 := NB274_220.out
               have hms115_5 := NB274_228.out
               have hms115_6 := NB274_236.out
               have hms115_7 := NB274_244.out
               have hms115_8 := NB274_252.out
               have hms115_9 := NB274_260.out
               have hs116 : w112.cell? ⟨gb274, 3, none⟩ = some (.int .i64 0) := q7_ BK274 3 rfl
               have hfs116 := blk_frozen BK274.out 3
               have hns116_0 := NB195_274.out
               have hns116_1 := NB196_274.out
               have hns116_2 := NB204_274.out
               have hns116_3 := NB212_274.out
               have hns116_4 := NB220_274.out
               have hns116_5 := NB228_274.out
               have hns116_6 := NB236_274.out
               have hns116_7 := NB244_274.out
               have hns116_8 := NB252_274.out
               have hns116_9 := NB260_274.out
               have hms116_0 := NB274_195.out
               have hms116_1 := NB274_196.out
               have hms116_2 := NB274_204.out
               have hms116_3 := NB274_212.out
               have hms116_4 := NB274_220.out
               have hms116_5 := NB274_228.out
               have hms116_6 := NB274_236.out
               have hms116_7 := NB274_244.out
               have hms116_8 := NB274_252.out
               have hms116_9 := NB274_260.out
               have hs117 : w112.cell? ⟨gb274, 4, none⟩ = some (.int .i64 0) := q7_ BK274 4 rfl
               have hfs117 := blk_frozen BK274.out 4
               have hns117_0 := NB195_274.out
               have hns117_1 := NB196_274.out
               have hns117_2 := NB204_274.out
               have hns117_3 := NB212_274.out
               have hns117_4 := NB220_274.out
               have hns117_5 := NB228_274.out
               have hns117_6 := NB236_274.out
               have hns117_7 := NB244_274.out
               have hns117_8 := NB252_274.out
               have hns117_9 := NB260_274.out
               have hms117_0 := NB274_195.out
               have hms117_1 := NB274_196.out
               have hms117_2 := NB274_204.out
               have hms117_3 := NB274_212.out
               have hms117_4 := NB274_220.out
               have hms117_5 := NB274_228.out
               have hms117_6 := NB274_236.out
               have hms117_7 := NB274_244.out
               have hms117_8 := NB274_252.out
               have hms117_9 := NB274_260.out
               have hs118 : w112.cell? ⟨gb274, 5, none⟩ = some (.int .i64 0) := q7_ BK274 5 rfl
               have hfs118 := blk_frozen BK274.out 5
               have hns118_0 := NB195_274.out
               have hns118_1 := NB196_274.out
               have hns118_2 := NB204_274.out
               have hns118_3 := NB212_274.out
               have hns118_4 := NB220_274.out
               have hns118_5 := NB228_274.out
               have hns118_6 := NB236_274.out
               have hns118_7 := NB244_274.out
               have hns118_8 := NB252_274.out
               have hns118_9 := NB260_274.out
               have hms118_0 := NB274_195.out
               have hms118_1 := NB274_196.out
               have hms118_2 := NB274_204.out
               have hms118_3 := NB274_212.out
               have hms118_4 := NB274_220.out
               have hms118_5 := NB274_228.out
               have hms118_6 := NB274_236.out
               have hms118_7 := NB274_244.out
               have hms118_8 := NB274_252.out
               have hms118_9 := NB274_260.out
               refine skip_ (w1 := ?_) (by rfl) rfl ?_ ?_
               rotate_left
               ·go_simp
                rfl
               refine hK.out _ _ ⟨((q8_ NB204_274).trans (((q8_ NB204_274).trans (((q8_ NB204_274).trans (((q8_ NB204_274).trans (((q8_ NB204_274).trans (((q8_ NB204_274).trans (hHeld.1)))))))))))), ((q8_ NB204_274).trans (((q8_ NB204_274).trans (((q8_ NB204_274).trans (((q8_ NB204_274).trans (((q8_ NB204_274).trans (((q8_ NB204_274).trans (hHeld.2.1)))))))))))), ((q8_ NB204_274).trans (((q8_ NB204_274).trans (((q8_ NB204_274).trans (((q8_ NB204_274).trans (((q8_ NB204_274).trans (((q8_ NB204_274).trans (hHeld.2.2.1)))))))))))), ((q8_ NB204_274).trans (((q8_ NB204_274).trans (((q8_ NB204_274).trans (((q8_ NB204_274).trans (((q8_ NB204_274).trans (((q8_ NB204_274).trans (hHeld.2.2.2.1)))))))))))), ((q8_ NB204_274).trans (((q8_ NB204_274).trans (((q8_ NB204_274).trans (((q8_ NB204_274).trans (((q8_ NB204_274).trans (((q8_ NB204_274).trans (hHeld.2.2.2.2.1)))))))))))), ((q8_ NB204_274).trans (((q8_ NB204_274).trans (((q8_ NB204_274).trans (((q8_ NB204_274).trans (((q8_ NB204_274).trans (((q8_ NB204_274).trans (hHeld.2.2.2.2.2.1)))))))))))), ((q8_ NB195_274).trans (((q8_ NB195_274).trans (((q8_ NB195_274).trans (((q8_ NB195_274).trans (((q8_ NB195_274).trans (((q8_ NB195_274).trans (hHeld.2.2.2.2.2.2.1)))))))))))), ((q8_ NB195_274).trans (((q8_ NB195_274).trans (((q8_ NB195_274).trans (((q8_ NB195_274).trans (((q8_ NB195_274).trans (((q8_ NB195_274).trans (hHeld.2.2.2.2.2.2.2.1)))))))))))), ((q8_ NB195_274).trans (((q8_ NB195_274).trans (((q8_ NB195_274).trans (((q8_ NB195_274).trans (((q8_ NB195_274).trans (((q8_ NB195_274).trans (hHeld.2.2.2.2.2.2.2.2.1)))))))))))), ((q8_ NB195_274).trans (((q8_ NB195_274).trans (((q8_ NB195_274).trans (((q8_ NB195_274).trans (((q8_ NB195_274).trans (((q8_ NB195_274).trans (hHeld.2.2.2.2.2.2.2.2.2.1)))))))))))), ((q8_ NB195_274).trans (((q8_ NB195_274).trans (((q8_ NB195_274).trans (((q8_ NB195_274).trans (((q8_ NB195_274).trans (((q8_ NB195_274).trans (hHeld.2.2.2.2.2.2.2.2.2.2.1)))))))))))), ((q8_ NB195_274).trans (((q8_ NB195_274).trans (((q8_ NB195_274).trans (((q8_ NB195_274).trans (((q8_ NB195_274).trans (((q8_ NB195_274).trans (hHeld.2.2.2.2.2.2.2.2.2.2.2))))))))))))⟩ (fun hHeld => ?_)
               clear hK K
               refine pure_ (i := 9) (N := some 20) (v := ?_) (a' := ?_) m15_15 rfl rfl (any_of HT_.out (by kernel_rfl)) (fun _ _ _ h => h) (Or.inl ⟨by rfl, ?_⟩) ?_ ?_
               rotate_left
               ·intro w'
                go_simp
                with_reducible rfl
               rotate_left
               ·simp only [Act.put, q4_, q5_, q6_, i64_w, i32_w]
                rfl
               refine done_ (done_of HT_.out (by kernel_rfl)) ?_
               have hnb119 := NB204_274.out
               have hnc119 := NB274_204.out
               obtain ⟨hcz120_0, hcz120_1, hcz120_2, hcz120_3, hcz120_4, hcz120_5⟩ := q9_ BK204
               obtain ⟨hfz120_0, hfz120_1, hfz120_2, hfz120_3, hfz120_4, hfz120_5⟩ := q10_ BK204
               have hnb121 := NB220_274.out
               have hnc121 := NB274_220.out
               obtain ⟨hcz122_0, hcz122_1, hcz122_2, hcz122_3, hcz122_4, hcz122_5⟩ := q9_ BK220
               obtain ⟨hfz122_0, hfz122_1, hfz122_2, hfz122_3, hfz122_4, hfz122_5⟩ := q10_ BK220
               have hnb123 := NB228_274.out
               have hnc123 := NB274_228.out
               obtain ⟨hcz124_0, hcz124_1, hcz124_2, hcz124_3, hcz124_4, hcz124_5⟩ := q9_ BK228
               obtain ⟨hfz124_0, hfz124_1, hfz124_2, hfz124_3, hfz124_4, hfz124_5⟩ := q10_ BK228
               have hnb125 := NB236_274.out
               have hnc125 := NB274_236.out
               obtain ⟨hcz126_0, hcz126_1, hcz126_2, hcz126_3, hcz126_4, hcz126_5⟩ := q9_ BK236
               obtain ⟨hfz126_0, hfz126_1, hfz126_2, hfz126_3, hfz126_4, hfz126_5⟩ := q10_ BK236
               have hnb127 := NB244_274.out
               have hnc127 := NB274_244.out
               obtain ⟨hcz128_0, hcz128_1, hcz128_2, hcz128_3, hcz128_4, hcz128_5⟩ := q9_ BK244
               obtain ⟨hfz128_0, hfz128_1, hfz128_2, hfz128_3, hfz128_4, hfz128_5⟩ := q10_ BK244
               have hnb129 := NB195_274.out
               have hnc129 := NB274_195.out
               obtain ⟨hcz130_0, hcz130_1, hcz130_2, hcz130_3, hcz130_4, hcz130_5⟩ := q9_ BK195
               obtain ⟨hfz130_0, hfz130_1, hfz130_2, hfz130_3, hfz130_4, hfz130_5⟩ := q10_ BK195
               have hnb131 := NB260_274.out
               have hnc131 := NB274_260.out
               obtain ⟨hcz132_0, hcz132_1, hcz132_2, hcz132_3, hcz132_4, hcz132_5⟩ := q9_ BK260
               obtain ⟨hfz132_0, hfz132_1, hfz132_2, hfz132_3, hfz132_4, hfz132_5⟩ := q10_ BK260
               have hnb133 := NB274_196.out
               have hnc133 := NB196_274.out
               have hnb134 := NB274_212.out
               have hnc134 := NB212_274.out
               have hnb135 := NB274_252.out
               have hnc135 := NB252_274.out
               obtain ⟨hcz136_0, hcz136_1, hcz136_2, hcz136_3, hcz136_4, hcz136_5⟩ := q9_ BK274
               obtain ⟨hfz136_0, hfz136_1, hfz136_2, hfz136_3, hfz136_4, hfz136_5⟩ := q10_ BK274
               try go_wp2
               go_ret
               exact ⟨by first | rfl | (simp [errW_none, errW_some] <;> rfl) | (simp [*, errW_none, errW_some] <;> rfl), by repeat (first | (with_reducible first | exact HB.out | apply below_alloc | apply pw_below_drewN | apply below_drew1 | refine below_set ?_ GE195.out | refine below_set ?_ GE196.out | refine below_set ?_ GE204.out | refine below_set ?_ GE212.out | refine below_set ?_ GE220.out | refine below_set ?_ GE228.out | refine below_set ?_ GE236.out | refine below_set ?_ GE244.out | refine below_set ?_ GE252.out | refine below_set ?_ GE260.out | refine below_set ?_ GE274.out) | exact HB.out)⟩
              ·rw [if_neg c24] at H
               have c24b0 : (t267 == t197 && (t268 == t198 && (t269 == t199 && (t270 == t200 && (t271 == t201 && (t272 == t202)))))) = false := by simpa using c24
               (try (have c24b1 : decide (t267 = t197 && (t268 == t198 && (t269 == t199 && (t270 == t200 && (t271 == t201 && (t272 == t202)))))) = false := by simpa using c24))
               (try (have c24b2 : (t267 == t197 && (t268 == t198 && (t269 == t199 && (t270 == t200 && (t271 == t201 && (t272 == t202)))))) = false := by simpa using c24))
               (try (have c24b3 : ¬ (t267 = t197 && (t268 == t198 && (t269 == t199 && (t270 == t200 && (t271 == t201 && (t272 == t202)))))) := by simpa using c24))
               clear c24
               exact absurd ((Option.some.inj H).trans hr_) (by decide)
             ·rw [if_neg c23] at H
              have c23b0 : (t259 == 0) = false := beq_eq_false_iff_ne.mpr c23
              have c23b1 : (t259 != 0) = true := bne_iff_ne.mpr c23
              exact absurd ((Option.some.inj H).trans hr_) (by decide)
            ·rw [if_neg c22] at H
             have c22b0 : (t258 == 1) = false := beq_eq_false_iff_ne.mpr c22
             have c22b1 : (t258 != 1) = true := bne_iff_ne.mpr c22
             exact absurd ((Option.some.inj H).trans hr_) (by decide)
           ·rw [if_neg c21] at H
            have c21b0 : (t251 == 42) = false := beq_eq_false_iff_ne.mpr c21
            have c21b1 : (t251 != 42) = true := bne_iff_ne.mpr c21
            exact absurd ((Option.some.inj H).trans hr_) (by decide)
          ·rw [if_neg c20] at H
           have c20b0 : (t243 == 0) = false := beq_eq_false_iff_ne.mpr c20
           have c20b1 : (t243 != 0) = true := bne_iff_ne.mpr c20
           exact absurd ((Option.some.inj H).trans hr_) (by decide)
         ·rw [if_neg c19] at H
          have c19b0 : (t237 && (t238 == 16 && (t239 == 48 && (t240 == 20 && (t241 == 7 && (t242 == 0)))))) = false := by simpa using c19
          clear c19
          exact absurd ((Option.some.inj H).trans hr_) (by decide)
        ·rw [if_neg c18] at H
         have c18b0 : (t235 == 0) = false := beq_eq_false_iff_ne.mpr c18
         have c18b1 : (t235 != 0) = true := bne_iff_ne.mpr c18
         exact absurd ((Option.some.inj H).trans hr_) (by decide)
       ·rw [if_neg c17] at H
        have c17b0 : (t234 == 9) = false := beq_eq_false_iff_ne.mpr c17
        have c17b1 : (t234 != 9) = true := bne_iff_ne.mpr c17
        exact absurd ((Option.some.inj H).trans hr_) (by decide)
      ·replace c16 := Bool.eq_false_iff.mpr c16
       subst c16
       have H1 : (some false) = some r := by rw [if_neg (show ¬ (false = true) by decide)] at H; exact H
       clear H
       have H := H1
       clear H1
       exact absurd ((Option.some.inj H).trans hr_) (by decide)
     ·rw [if_neg c15] at H
      have c15b0 : (t224 == 4294967295) = false := beq_eq_false_iff_ne.mpr c15
      have c15b1 : (t224 != 4294967295) = true := bne_iff_ne.mpr c15
      exact absurd ((Option.some.inj H).trans hr_) (by decide)
    ·rw [if_neg c14] at H
     have c14b0 : (t217 == 1) = false := beq_eq_false_iff_ne.mpr c14
     have c14b1 : (t217 != 1) = true := bne_iff_ne.mpr c14
     exact absurd ((Option.some.inj H).trans hr_) (by decide)
   ·rw [if_neg c13] at H
    have c13b0 : (t211 == 43) = false := beq_eq_false_iff_ne.mpr c13
    have c13b1 : (t211 != 43) = true := bne_iff_ne.mpr c13
    exact absurd ((Option.some.inj H).trans hr_) (by decide)
  ·rw [if_neg c12] at H
   have c12b0 : (t203 == 0) = false := beq_eq_false_iff_ne.mpr c12
   have c12b1 : (t203 != 0) = true := bne_iff_ne.mpr c12
   exact absurd ((Option.some.inj H).trans hr_) (by decide)
 ·rw [if_neg c11] at H
  have c11b0 : (t197 && (t198 == 20 && (t199 == 48 && (t200 == 20 && (t201 == 7 && (t202 == 0)))))) = false := by simpa using c11
  clear c11
  exact absurd ((Option.some.inj H).trans hr_) (by decide)

end Go.Proofs.Ytgkmacgckoifaaa.PDr
-- shorter
