/- slices.Clone and All of layer 13. -/
import Derived.Test.YtldgecnmmklldaaQrOps
import Derived.Lib.SliceRun
import Derived.Lib.Walk
import Derived.Deep.AppendLies
namespace Go.Proofs.Ytldgecnmmklldaa.Qr
open Go.RowKit Go.Lib
set_option linter.unusedVariables false
set_option linter.unusedSimpArgs false
def AllPost (n : Nat) (l : Nat → HV) (w : World) (e : Ending) (w' : World) : Prop := (∃ A cap, e = .returned (.slice A n cap) ∧ Bag w' w.heap.size A n cap l) ∧ Below w.heap.size w w'
theorem clone_nil (c : Nat) (l : Nat → HV) (w : World) : Calls Try.prog 45 #[.slice none 0 c] w (AllPost 0 l w) := by
  have q37 : ∀ (w : World) (a : Option Addr) (n c n' c' : Nat), (binOp .eql 37 (.slice a n c) (.slice none n' c')).run Try.prog w = .ok (.bool a.isNone) w := fun w a n c n' c' => Lib.run_eql_slice_nil w _ _ a n c n' c' Try.underlying37
  go_enter Try.func45, Try.ntmps45
  go_wp2
  go_ret
  exact ⟨⟨none, 0, by simp, Bag.nil _ _ _⟩, Below.refl _ _⟩
theorem clone_some (b off n c : Nat) (l : Nat → HV) (w : World) (h0 : 0 < n) (hn : n ≤ 100000) (hc : ∀ i j, i < n → j < 3 → w.cell? ⟨b, off + (i * 3 + j), none⟩ = some ((l i).cell j)) :
    Calls Try.prog 45 #[.slice (some ⟨b, off, none⟩) n c] w (AllPost n l w) := by
  obtain ⟨i0, hi, hz0, hz1, hz2⟩ := info_parts info23
  have q37 : ∀ (w : World) (a : Option Addr) (n c n' c' : Nat), (binOp .eql 37 (.slice a n c) (.slice none n' c')).run Try.prog w = .ok (.bool a.isNone) w := fun w a n c n' c' => Lib.run_eql_slice_nil w _ _ a n c n' c' Try.underlying37
  have hnews : Asd (∀ j u, (rc l n)[j]? = some u → w.cell? ⟨b, off + j, none⟩ = some u) := ⟨fun j u hu => by
    obtain ⟨h1, rfl⟩ := rc_idx hu
    have := hc (j / 3) (j % 3) h1 (by omega)
    rwa [show j / 3 * 3 + j % 3 = j by omega] at this⟩
  clear hc
  go_enter Try.func45, Try.ntmps45
  go_wp2_with (at_builtin; go_loud (refine wpList_append_lies _ rfl _ _ 37 rfl w.heap.size 23 i0 _ 3 24 Try.underlying37 hi hz0 hz1 hz2 rfl (by omega) _ 0 [] rfl (World.ownsRow_made w #[] 0 (Nat.le_refl _) (Nat.zero_le _) (by simp)) ⟨b, off, none⟩ n c (rc l n) rfl ?qc1 ?qc2 ?qc3 ?qc4 ?qc5 ?qc6 ?qc7 (w.heap.size + 1) ?qc8 ?_))
  case qc1 => exact rc_len l n
  case qc2 =>
    intro j u hj
    rw [Addr.add_lit]
    exact Lib.cell?_alloc_some _ (hnews.out j u hj)
  case qc3 => exact rc_one l n
  case qc4 => exact h0
  case qc5 => rw [Nat.zero_add]; unfold maxLen; omega
  case qc6 => rw [Nat.zero_add]; omega
  case qc7 => simp
  case qc8 => simp
  intro g cap w1 hown hgrow hat hlt
  try simp only [List.nil_append, Nat.zero_add] at hown
  have HO := Asd.mk hown
  have HG := Asd.mk hgrow
  have HA := Asd.mk hat
  clear hown hgrow hat q37 hnews
  go_wp2
  go_ret
  obtain ⟨A', cap', e, hb⟩ := Bag.ofRow HO.out
  injection e with e1 e2 e3
  subst e1 e3
  refine ⟨⟨_, _, by simp, hb⟩, ?_⟩
  exact ((Below.refl _ w).alloc (Nat.le_refl _) _).grown HG.out (by simp) (by intro k hk; simp [Value.ownBlock] at hk; omega)
theorem Row.far {w : World} {A : Option Addr} {n : Nat} {z : Nat → HV} (h : Row w A n z) (h0 : 0 < n) : ∃ b o, A = some ⟨b, o, none⟩ ∧ ∀ i j, i < n → j < 3 → w.cell? ⟨b, o + (i * 3 + j), none⟩ = some ((z i).cell j) := by
  obtain ⟨b, o, rfl, _⟩ := h 0 h0
  refine ⟨b, o, rfl, fun i j hi hj => ?_⟩
  obtain ⟨b', o', e, _, c0, c1, c2⟩ := h i hi
  simp only [Option.some.injEq, Addr.mk.injEq, and_true] at e
  obtain ⟨rfl, rfl⟩ := e
  rw [← Nat.add_assoc]
  obtain rfl | rfl | rfl : j = 0 ∨ j = 1 ∨ j = 2 := by omega
  · exact c0
  · exact c1
  · exact c2
theorem clone_empty (A : Option Addr) (c : Nat) (l : Nat → HV) (w : World) : Calls Try.prog 45 #[.slice A 0 c] w (AllPost 0 l w) := by
  cases A with
  | none => exact clone_nil c l w
  | some a =>
    have q37 : ∀ (w : World) (a : Option Addr) (n c n' c' : Nat), (binOp .eql 37 (.slice a n c) (.slice none n' c')).run Try.prog w = .ok (.bool a.isNone) w := fun w a n c n' c' => Lib.run_eql_slice_nil w _ _ a n c n' c' Try.underlying37
    go_enter Try.func45, Try.ntmps45
    go_wp2
    go_ret
    exact ⟨⟨_, _, by simp, Nat.le_refl _, by decide, .inr ⟨w.heap.size, 0, #[], rfl, Nat.le_refl _, Blk.new w 23 #[], by simp, fun i j hi _ => absurd hi (by omega)⟩⟩, balloc (Below.refl _ _) _⟩
theorem clone_calls (A : Option Addr) (n c : Nat) (l : Nat → HV) (w : World) (hR : Row w A n l) (hn : n ≤ 100000) : Calls Try.prog 45 #[.slice A n c] w (AllPost n l w) := by
  rcases Nat.eq_zero_or_pos n with h | h
  · subst h; exact clone_empty A c l w
  · obtain ⟨b, o, rfl, hc⟩ := hR.far h
    exact clone_some b o n c l w h hn hc
theorem all_qs (g base : Nat) (f b : Int) (n : Nat) (z : Nat → HV) (w : World) (h : QS w g base f b n z) (hn : n ≤ 100000) : Calls Try.prog 27 #[.pointer (some ⟨g, 0, none⟩)] w (AllPost n z w) := by
  obtain ⟨h1, h2, A, cap, h3, h4⟩ := h
  have HC := Asd.mk (clone_calls A n cap z w h4.row hn)
  have c0 : w.cell? ⟨g, 2, none⟩ = some (.slice A n cap) := h3.cell 2
  clear h3 h4
  go_enter Try.func27, Try.ntmps27
  go_wp2_with fail
  (go_at_call 45; ((with_reducible refine (HC.out).mono ?_); rintro e_ w1 ⟨⟨A', cap', rfl, ho⟩, hb1⟩; have HO := Asd.mk ho; have HB := Asd.mk hb1; clear ho hb1))
  go_wp2_with fail
  go_ret
  exact ⟨⟨A', cap', by simp, HO.out⟩, HB.out⟩
end Go.Proofs.Ytldgecnmmklldaa.Qr
