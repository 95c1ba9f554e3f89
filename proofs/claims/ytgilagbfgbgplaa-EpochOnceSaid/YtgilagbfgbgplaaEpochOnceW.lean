/- The walk of EpochOnce. -/
import Derived.Test.YtgilagbfgbgplaaEpoch
import Derived.Test.YtgilagbfgbgplaaEpochHead
import Derived.Test.YtgilagbfgbgplaaWLast
import Derived.Test.YtgilagbfgbgplaaWMore
import Derived.Deep.LoopGhost
namespace Go.Proofs.Ytgilagbfgbgplaa.Ep
open Go.RowKit Go.Proofs.YtgilagbfgbgplaaW.PrintWords Go.Proofs.YtgilagbfgbgplaaW.PrintLast Go.Proofs.YtgilagbfgbgplaaW.PrintMore
set_option linter.unusedVariables false
set_option linter.unusedSimpArgs false
theorem b_call {w W w2 : World} (h : Below w.heap.size w W) (hb : Below W.heap.size W w2) : Below w.heap.size w w2 := bcall h hb
theorem wn_self {i : Int} (h0 : 0 ≤ i) (h1 : i ≤ 100000) : whenN i = i + 2 + i % 2 := by unfold whenN; rw [if_neg (by omega), if_neg (by omega)]
theorem epochOnce_calls (a b : Int) (w : World) (ha : 0 ≤ a ∧ a ≤ 255) (hb : 0 ≤ b ∧ b ≤ 255) : Calls Try.prog 7 #[.int .u8 a, .int .u8 b] w fun e w' => e = .returned (.bool true) ∧ Below w.heap.size w w' := by
  obtain ⟨ha0, ha1⟩ := ha
  obtain ⟨hb0, hb1⟩ := hb
  have H : Aside0 (∀ W, _) := ⟨fun W => when_calls b W (by omega) (by omega)⟩
  have hmf := mf
  go_enter Try.func7, Try.ntmps7
  go_wp2_with (first | (go_at_call 15; with_reducible refine (head_calls _).mono ?_; rintro e h1 ⟨rfl, hh1⟩) | (go_at_call 16; with_reducible refine (new_calls _).mono ?_; rintro e u1 ⟨rfl, o1, hu1, hc1, hf1⟩; have hb1 := b_new hu1; have hl1 := l_new hu1; clear hu1))
  have BL := Aside0.mk (bcall hh1 hb1)
  have GE := Aside0.mk (hh1.size)
  clear hb1 hh1
  generalize h1.heap.size = g at *
  go_loopg [7] (a.toNat + 2) (fun kq v7 w' => ∃ i : Int, v7 = .int .i64 i ∧ Aside0 (0 ≤ i ∧ i ≤ a + 1 ∧ (kq : Int) = a + 2 - i) ∧ Aside0 (w'.cell? ⟨g, 0, none⟩ = some (.int .i64 i)) ∧ Aside0 (w'.frozen? ⟨g, 0, none⟩ = false) ∧ Aside0 (Below w.heap.size w w'))
  case atStart => exact ⟨0, by first | rfl | simp, ⟨by omega, by omega, by omega⟩, ⟨hc1⟩, ⟨hf1⟩, BL⟩
  case round =>
    obtain ⟨i, rfl, HI, HC, HF, HB⟩ := hrel
    clear hc1 hf1 hl1 BL
    obtain ⟨i0, i1, i2⟩ := HI.out
    have hc := HC.out
    have hf := HF.out
    have hq := whenN_le b
    have hw := wn_self i0 (by omega)
    have hw' : decide (whenN i ≤ i) = false := by rw [hw, decide_eq_false_iff_not]; omega
    generalize hqq : whenN b = q at *
    cases gk with
    | zero => exfalso; omega
    | succ k1 =>
      by_cases c : i ≤ a
      · by_cases p : i % 2 = 0
        · go_wp2_with (first | (go_at_call 26; with_reducible refine (over_calls _ i b _ (by first | omega | decide) (by first | omega | decide) (by (go_simp <;> fail))).mono ?_; rintro e w1 ⟨rfl, m, rfl⟩) | (go_at_call 26; with_reducible refine (over_calls _ i i _ (by first | omega | decide) (by first | omega | decide) (by (go_simp <;> fail))).mono ?_; rintro e w1 ⟨rfl, m, rfl⟩) | (go_at_call 22; with_reducible refine (now_calls _ i _ (by (go_simp <;> fail))).mono ?_; rintro e w1 ⟨rfl, rfl⟩) | (go_at_call 28; with_reducible refine (H.out _).mono ?_; rintro e w1 ⟨rfl, rfl⟩) | (go_at_call 18; with_reducible refine (begin0 _ i _ (by first | omega | decide) (by first | omega | decide) (by first | omega | decide) (by (go_simp <;> fail)) (by (go_simp <;> fail))).mono ?_; rintro e w1 ⟨rfl, rfl⟩))
          go_roundg k1
          case measure => omega
          case rel =>
            refine ⟨i + 1, ?_, ⟨by omega, by omega, by omega⟩, ⟨by go_simp⟩, ⟨by go_simp⟩, ⟨by repeat (first | exact HB.out | refine b_set ?_ GE.out | refine bdrewN ?_ _ | refine bdrew ?_)⟩⟩
            first | rfl | simp
        · go_wp2_with (first | (go_at_call 26; with_reducible refine (over_calls _ i b _ (by first | omega | decide) (by first | omega | decide) (by (go_simp <;> fail))).mono ?_; rintro e w1 ⟨rfl, m, rfl⟩) | (go_at_call 26; with_reducible refine (over_calls _ i i _ (by first | omega | decide) (by first | omega | decide) (by (go_simp <;> fail))).mono ?_; rintro e w1 ⟨rfl, m, rfl⟩) | (go_at_call 22; with_reducible refine (now_calls _ i _ (by (go_simp <;> fail))).mono ?_; rintro e w1 ⟨rfl, rfl⟩) | (go_at_call 28; with_reducible refine (H.out _).mono ?_; rintro e w1 ⟨rfl, rfl⟩) | (go_at_call 18; with_reducible refine (begin1 _ i _ (by first | omega | decide) (by first | omega | decide) (by first | omega | decide) (by (go_simp <;> fail)) (by (go_simp <;> fail))).mono ?_; rintro e w1 ⟨rfl, rfl⟩) | (go_at_call 20; with_reducible refine (end1 _ i _ (by first | omega | decide) (by first | omega | decide) (by first | omega | decide) (by (go_simp <;> fail)) (by (go_simp <;> fail))).mono ?_; rintro e w1 ⟨rfl, rfl⟩))
          go_roundg k1
          case measure => omega
          case rel =>
            refine ⟨i + 1, ?_, ⟨by omega, by omega, by omega⟩, ⟨by go_simp⟩, ⟨by go_simp⟩, ⟨by repeat (first | exact HB.out | refine b_set ?_ GE.out | refine bdrewN ?_ _ | refine bdrew ?_)⟩⟩
            first | rfl | simp
      · go_wp2_with (go_at_call 22; with_reducible refine (now_calls _ i _ (by (go_simp <;> fail))).mono ?_; rintro e w1 ⟨rfl, rfl⟩)
        go_ret
        exact ⟨by simp; try omega, HB.out⟩
end Go.Proofs.Ytgilagbfgbgplaa.Ep
