/- The document's Same, of two rows that are alike; rows. -/
import Derived.Test.YtldgecnmmklldaaQrStep
namespace Go.Proofs.Ytldgecnmmklldaa.Qr
open Go.RowKit
set_option linter.unusedVariables false
set_option linter.unusedSimpArgs false
/-- A lies over the n of z, wherever. -/
def Row (w : World) (A : Option Addr) (n : Nat) (z : Nat → HV) : Prop := ∀ i, i < n → ∃ B o, A = some ⟨B, o, none⟩ ∧ B < w.heap.size ∧
  w.cell? ⟨B, o + i * 3, none⟩ = some (.int .i64 (z i).a) ∧ w.cell? ⟨B, o + i * 3 + 1, none⟩ = some (.int .i64 (z i).n) ∧ w.cell? ⟨B, o + i * 3 + 2, none⟩ = some (.int .i64 (z i).t)
theorem Bag.row {w : World} {base : Nat} {A : Option Addr} {n cap : Nat} {z : Nat → HV} (h : Bag w base A n cap z) : Row w A n z := fun i hi => by
  obtain ⟨B, o, e, _, hl, c⟩ := h.at_ hi
  exact ⟨B, o, e, hl, c⟩
theorem Row.below {w w' : World} {A : Option Addr} {n : Nat} {z : Nat → HV} (h : Row w A n z) (hb : Below w.heap.size w w') : Row w' A n z := fun i hi => by
  obtain ⟨B, o, e, hl, c0, c1, c2⟩ := h i hi
  exact ⟨B, o, e, Nat.lt_of_lt_of_le hl hb.size, (hb.cell (p := ⟨B, _, none⟩) hl).trans c0, (hb.cell (p := ⟨B, _, none⟩) hl).trans c1, (hb.cell (p := ⟨B, _, none⟩) hl).trans c2⟩
theorem same_yes (A A' : Option Addr) (n c c' : Nat) (l l' : Nat → HV) (w : World) (hR : Row w A n l) (hR' : Row w A' n l') (hn : n ≤ 100000) (he : ∀ i, i < n → l i = l' i) :
    Calls Try.prog 19 #[.slice A n c, .slice A' n c'] w fun e w' => e = .returned (.bool true) ∧ Below w.heap.size w w' := by
  have HR := Asd.mk hR
  have HR' := Asd.mk hR'
  have HE := Asd.mk he
  clear hR hR' he
  have hu23 := Try.underlying23
  have BL := Asd.mk (Below.refl w.heap.size w)
  go_enter Try.func19, Try.ntmps19
  go_wp2
  all_goals try (exfalso; omega)
  go_loopg [5] (n + 1) (fun kq v5 w' => ∃ k : Nat, v5 = .int .i64 (k : Int) ∧ Asd (k ≤ n ∧ kq + k = n + 1) ∧ Asd (Below w.heap.size w w'))
  case atStart => exact ⟨0, rfl, ⟨by omega, by omega⟩, BL⟩
  case round =>
    obtain ⟨k, rfl, HI, HB⟩ := hrel
    obtain ⟨i0, i1⟩ := HI.out
    by_cases hk : k < n
    · obtain ⟨B, o, rfl, hlt, c0, c1, c2⟩ := (HR.out.below HB.out) k hk
      obtain ⟨B', o', rfl, hlt', d0, d1, d2⟩ := (HR'.out.below HB.out) k hk
      have hk0 : (0 : Int) ≤ k := by omega
      have hk1 : (k : Int) < n := by omega
      have e := HE.out k hk
      rw [← e] at d0 d1 d2
      clear e
      generalize l k = x at *
      obtain ⟨x0, x1, x2⟩ := x
      dsimp only at c0 c1 c2 d0 d1 d2
      have hne := fun w => neq23 ⟨x0, x1, x2⟩ ⟨x0, x1, x2⟩ w
      simp only [HV.val, decide_true, Bool.not_true] at hne
      go_wp2
      go_quiet (fail)
      go_wp2
      go_roundg (gk - 1)
      case measure => omega
      case rel => exact ⟨k + 1, by simp, ⟨by omega, by omega⟩, ⟨bdrewN HB.out _⟩⟩
    · obtain rfl : k = n := by omega
      go_wp2
      go_ret
      exact ⟨by simp, HB.out⟩
end Go.Proofs.Ytldgecnmmklldaa.Qr
