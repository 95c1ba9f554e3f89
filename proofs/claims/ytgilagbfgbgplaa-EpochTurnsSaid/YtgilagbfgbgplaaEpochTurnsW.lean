/- The walk of EpochTurns. -/
import Derived.Test.YtgilagbfgbgplaaEpoch
import Derived.Test.YtgilagbfgbgplaaEpochHead
import Derived.Test.YtgilagbfgbgplaaWLast
import Derived.Test.YtgilagbfgbgplaaWMore
import Derived.Deep.LoopGhost
namespace Go.Proofs.Ytgilagbfgbgplaa.Ep
open Go.RowKit Go.Proofs.YtgilagbfgbgplaaW.PrintWords Go.Proofs.YtgilagbfgbgplaaW.PrintLast Go.Proofs.YtgilagbfgbgplaaW.PrintMore
set_option linter.unusedVariables false
set_option linter.unusedSimpArgs false
theorem epochTurns_calls (A : Option Addr) (len cap : Nat) (zs : List Bool) (w : World) (hz : ∀ i, i < len → ∃ a, A = some a ∧ w.cell? (a.add i) = some (.bool (zs.getD i false))) (hcap : len ≤ cap) (hmax : cap ≤ maxLen) : Calls Try.prog 5 #[.slice A len cap] w fun e w' => e = .returned (.bool true) ∧ Below w.heap.size w w' := by
  have hmf := mf
  by_cases hl : 2000 < (len : Int)
  · go_enter Try.func5, Try.ntmps5
    go_wp2_with (first | (go_at_call 15; with_reducible refine (head_calls _).mono ?_; rintro e h1 ⟨rfl, hh1⟩) | (go_at_call 16; with_reducible refine (new_calls _).mono ?_; rintro e u1 ⟨rfl, o1, hu1, hc1, hf1⟩; have hb1 := b_new hu1; have hl1 := l_new hu1; clear hu1))
    go_ret
    exact ⟨by simp, bcall hh1 hb1⟩
  go_enter Try.func5, Try.ntmps5
  go_wp2_with (first | (go_at_call 15; with_reducible refine (head_calls _).mono ?_; rintro e h1 ⟨rfl, hh1⟩) | (go_at_call 16; with_reducible refine (new_calls _).mono ?_; rintro e u1 ⟨rfl, o1, hu1, hc1, hf1⟩; have hb1 := b_new hu1; have hl1 := l_new hu1; clear hu1))
  have BL := Aside0.mk (bcall hh1 hb1)
  have GE := Aside0.mk (hh1.size)
  clear hb1 hh1
  generalize h1.heap.size = g at *
  go_loopg [5, 6, 7] (len + 1) (fun kq v5 v6 v7 w' => ∃ (k : Nat) (n : Int) (r : Bool), v5 = .bool r ∧ v6 = .int .i64 n ∧ v7 = .int .i64 (k : Int) ∧ Aside0 (k ≤ len ∧ 0 ≤ n ∧ n ≤ k ∧ kq + k = len + 1 ∧ n % 2 = (if r = true then 1 else 0)) ∧ Aside0 (w'.cell? ⟨g, 0, none⟩ = some (.int .i64 n)) ∧ Aside0 (w'.frozen? ⟨g, 0, none⟩ = false) ∧ Aside0 (Below w.heap.size w w'))
  case atStart => exact ⟨0, 0, false, by first | rfl | simp, by first | rfl | simp, by first | rfl | simp, ⟨by omega, by omega, by omega, by omega, by decide⟩, ⟨hc1⟩, ⟨hf1⟩, BL⟩
  case round =>
    obtain ⟨k, n, r, rfl, rfl, rfl, HI, HC, HF, HB⟩ := hrel
    clear hc1 hf1 hl1 BL
    obtain ⟨i0, i1, i2, i3, i4⟩ := HI.out
    have hc := HC.out
    have hf := HF.out
    cases gk with
    | zero => exfalso; omega
    | succ k1 =>
      by_cases c : k < len
      · obtain ⟨a, b, rfl, hbz, hab, hr1, hr2⟩ := read_bools hz HB.out c
        have hr3 := fun v => hr2 g v GE.out
        clear hr2 hbz
        have cI : (k : Int) < (len : Int) := by omega
        cases r
        · have p0 : n % 2 = 0 := by simpa using i4
          have p1 : (n + 1) % 2 = 1 := by omega
          cases b
          · go_wp2_with (first | (go_at_call 20; with_reducible refine (end0 _ n _ (by first | omega | decide) (by first | omega | decide) (by first | omega | decide) (by (go_simp <;> fail)) (by (go_simp <;> fail))).mono ?_; rintro e w1 ⟨rfl, rfl⟩) | (go_at_call 22; with_reducible refine (now_calls _ n _ (by (go_simp <;> fail))).mono ?_; rintro e w1 ⟨rfl, rfl⟩) | (go_at_call 24; with_reducible refine (runs0 _ n _ (by first | omega | decide) (by first | omega | decide) (by first | omega | decide) (by (go_simp <;> fail))).mono ?_; rintro e w1 ⟨rfl, rfl⟩))
            go_roundg k1
            case measure => omega
            case rel => exact ⟨k + 1, n, false, by first | rfl | simp, by first | rfl | simp, by first | rfl | (simp; done) | (simp; omega), ⟨by omega, by omega, by omega, by omega, by simp [p0]⟩, ⟨by go_simp⟩, ⟨by go_simp⟩, ⟨by repeat (first | exact HB.out | refine b_set ?_ GE.out | refine bdrewN ?_ _ | refine bdrew ?_)⟩⟩
          · go_wp2_with (first | (go_at_call 18; with_reducible refine (begin0 _ n _ (by first | omega | decide) (by first | omega | decide) (by first | omega | decide) (by (go_simp <;> fail)) (by (go_simp <;> fail))).mono ?_; rintro e w1 ⟨rfl, rfl⟩) | (go_at_call 22; with_reducible refine (now_calls _ (n + 1) _ (by (go_simp <;> fail))).mono ?_; rintro e w1 ⟨rfl, rfl⟩) | (go_at_call 24; with_reducible refine (runs1 _ (n + 1) _ (by first | omega | decide) (by first | omega | decide) (by first | omega | decide) (by (go_simp <;> fail))).mono ?_; rintro e w1 ⟨rfl, rfl⟩))
            go_roundg k1
            case measure => omega
            case rel => exact ⟨k + 1, n + 1, true, by first | rfl | simp, by first | rfl | simp, by first | rfl | (simp; done) | (simp; omega), ⟨by omega, by omega, by omega, by omega, by simp [p1]⟩, ⟨by go_simp⟩, ⟨by go_simp⟩, ⟨by repeat (first | exact HB.out | refine b_set ?_ GE.out | refine bdrewN ?_ _ | refine bdrew ?_)⟩⟩
        · have p0 : n % 2 = 1 := by simpa using i4
          have p1 : (n + 1) % 2 = 0 := by omega
          cases b
          · go_wp2_with (first | (go_at_call 20; with_reducible refine (end1 _ n _ (by first | omega | decide) (by first | omega | decide) (by first | omega | decide) (by (go_simp <;> fail)) (by (go_simp <;> fail))).mono ?_; rintro e w1 ⟨rfl, rfl⟩) | (go_at_call 22; with_reducible refine (now_calls _ (n + 1) _ (by (go_simp <;> fail))).mono ?_; rintro e w1 ⟨rfl, rfl⟩) | (go_at_call 24; with_reducible refine (runs0 _ (n + 1) _ (by first | omega | decide) (by first | omega | decide) (by first | omega | decide) (by (go_simp <;> fail))).mono ?_; rintro e w1 ⟨rfl, rfl⟩))
            go_roundg k1
            case measure => omega
            case rel => exact ⟨k + 1, n + 1, false, by first | rfl | simp, by first | rfl | simp, by first | rfl | (simp; done) | (simp; omega), ⟨by omega, by omega, by omega, by omega, by simp [p1]⟩, ⟨by go_simp⟩, ⟨by go_simp⟩, ⟨by repeat (first | exact HB.out | refine b_set ?_ GE.out | refine bdrewN ?_ _ | refine bdrew ?_)⟩⟩
          · go_wp2_with (first | (go_at_call 18; with_reducible refine (begin1 _ n _ (by first | omega | decide) (by first | omega | decide) (by first | omega | decide) (by (go_simp <;> fail)) (by (go_simp <;> fail))).mono ?_; rintro e w1 ⟨rfl, rfl⟩) | (go_at_call 22; with_reducible refine (now_calls _ n _ (by (go_simp <;> fail))).mono ?_; rintro e w1 ⟨rfl, rfl⟩) | (go_at_call 24; with_reducible refine (runs1 _ n _ (by first | omega | decide) (by first | omega | decide) (by first | omega | decide) (by (go_simp <;> fail))).mono ?_; rintro e w1 ⟨rfl, rfl⟩))
            go_roundg k1
            case measure => omega
            case rel => exact ⟨k + 1, n, true, by first | rfl | simp, by first | rfl | simp, by first | rfl | (simp; done) | (simp; omega), ⟨by omega, by omega, by omega, by omega, by simp [p0]⟩, ⟨by go_simp⟩, ⟨by go_simp⟩, ⟨by repeat (first | exact HB.out | refine b_set ?_ GE.out | refine bdrewN ?_ _ | refine bdrew ?_)⟩⟩
      · have cI : ¬ (k : Int) < (len : Int) := by omega
        go_wp2
        go_ret
        exact ⟨by simp, HB.out⟩
end Go.Proofs.Ytgilagbfgbgplaa.Ep
