/- The document's answer to layer 13: New, Many, Bytes, Full, All. -/
import Derived.Test.YtldgecnmmklldaaQrAllW
namespace Go.Proofs.Ytldgecnmmklldaa.Qr
open Go.RowKit Go.Lib
set_option linter.unusedVariables false
set_option linter.unusedSimpArgs false
theorem i64_is' (n : Int) : IntKind.i64.wrap n = wrap64 n := by unfold wrap64; exact IntKind.wrap_i64 _
/-- The document's state: r is its block, the row lies from base on. -/
def RS (W : World) (r base : Nat) (f : Int) (A : Option Addr) (n cap : Nat) (z : Nat → HV) : Prop := Blk W r 61 #[.int .i64 f, .slice A n cap] ∧ Bag W base A n cap z
theorem RS.below {W W' : World} {r base : Nat} {f : Int} {A : Option Addr} {n cap : Nat} {z : Nat → HV} (h : RS W r base f A n cap z) (hb : Below W.heap.size W W') : RS W' r base f A n cap z :=
  ⟨h.1.below hb h.1.lt, h.2.keep fun k _ hl => hb.block k hl⟩
theorem rnewY (f : Int) (w : World) (h0 : 1 ≤ f) (h1 : f ≤ 16777216) : Calls Try.prog 18 #[.int .i64 f] w fun e w' => e = .returned (.pointer (some ⟨w.heap.size, 0, none⟩)) ∧ Blk w' w.heap.size 61 #[.int .i64 f, .slice none 0 0] ∧ Below w.heap.size w w' := by
  go_enter Try.func18, Try.ntmps18
  go_wp2
  go_ret
  exact ⟨by simp, Blk.new _ _ _, balloc (Below.refl _ _) _⟩
theorem rnewN (f : Int) (w : World) (h : f < 1 ∨ 16777216 < f) : Calls Try.prog 18 #[.int .i64 f] w fun e w' => e = .returned (.pointer none) ∧ w' = w := by
  rcases h with h | h
  · go_enter Try.func18, Try.ntmps18
    go_wp2
    go_ret
    exact ⟨by simp, rfl⟩
  · have h0 : ¬ f < 1 := by omega
    go_enter Try.func18, Try.ntmps18
    go_wp2
    go_ret
    exact ⟨by simp, rfl⟩
theorem rmany_calls (r base : Nat) (f : Int) (A : Option Addr) (n cap : Nat) (z : Nat → HV) (w : World) (h : RS w r base f A n cap z) : Calls Try.prog 24 #[.pointer (some ⟨r, 0, none⟩)] w fun e w' => e = .returned (.int .i64 (n : Int)) ∧ w' = w := by
  have c1 : w.cell? ⟨r, 1, none⟩ = some (.slice A n cap) := h.1.cell 1
  clear h
  go_enter Try.func24, Try.ntmps24
  go_wp2
  go_ret
  exact ⟨by simp, rfl⟩
theorem rbytes_calls (r base : Nat) (f : Int) (A : Option Addr) (n cap : Nat) (z : Nat → HV) (w : World) (h : RS w r base f A n cap z) (hn : n ≤ 1000) (b : Int) (hz : ZOK z n b) : Calls Try.prog 23 #[.pointer (some ⟨r, 0, none⟩)] w fun e w' => e = .returned (.int .i64 b) ∧ w' = w := by
  have HH := Asd.mk h
  have HZ := Asd.mk hz.1
  have hb := hz.2.1
  clear h hz
  go_enter Try.func23, Try.ntmps23
  go_wp2
  go_loopg [3, 4] (n + 1) (fun kq v3 v4 w' => ∃ k : Nat, v3 = .int .i64 (sumL (upto z k)) ∧ v4 = .int .i64 (k : Int) ∧ w' = w ∧ Asd (k ≤ n ∧ kq + k = n + 1 ∧ 0 ≤ sumL (upto z k) ∧ sumL (upto z k) ≤ k * 16777216))
  case atStart => exact ⟨0, rfl, rfl, rfl, ⟨by omega, by omega, by show (0 : Int) ≤ 0; omega, by show (0 : Int) ≤ _; omega⟩⟩
  case round =>
    obtain ⟨k, rfl, rfl, rfl, HI⟩ := hrel
    obtain ⟨i0, i1, i2, i3⟩ := HI.out
    have c1 : wr.cell? ⟨r, 1, none⟩ = some (.slice A n cap) := HH.out.1.cell 1
    by_cases hk : k < n
    · obtain ⟨B, o, rfl, -, hlt, d0, d1, d2⟩ := HH.out.2.at_ hk
      have hk0 : (0 : Int) ≤ k := by omega
      have hk1 : (k : Int) < n := by omega
      have hx := HZ.out k hk
      have e := upto_succ z k
      have e2 : sumL (upto z (k + 1)) = sumL (upto z k) + (z k).n := by rw [e, sumL_snoc]
      generalize (z k) = x at *
      obtain ⟨x0, x1, x2⟩ := x
      dsimp only at d0 d1 d2 hx e2
      have hw : wrap64 (sumL (upto z k) + x1) = sumL (upto z (k + 1)) := by unfold wrap64; omega
      have HE := Asd.mk e2
      clear e e2
      go_wp2
      go_roundg (gk - 1)
      case measure => omega
      case rel => exact ⟨k + 1, by rw [HE.out], by simp, rfl, ⟨by omega, by omega, by rw [HE.out]; omega, by rw [HE.out]; omega⟩⟩
    · obtain rfl : k = n := by omega
      have HB := Asd.mk hb
      clear hb
      go_wp2
      go_ret
      exact ⟨by simp [HB.out], rfl⟩
end Go.Proofs.Ytldgecnmmklldaa.Qr
