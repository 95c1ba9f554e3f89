/- The walk of EpochPlays. -/
import Derived.Test.YtgilagbfgbgplaaEpoch
import Derived.Test.YtgilagbfgbgplaaEpochHead
import Derived.Test.YtgilagbfgbgplaaWLast
import Derived.Test.YtgilagbfgbgplaaWMore
import Derived.Deep.LoopGhost
namespace Go.Proofs.Ytgilagbfgbgplaa.Ep
open Go.RowKit Go.Proofs.YtgilagbfgbgplaaW.PrintWords Go.Proofs.YtgilagbfgbgplaaW.PrintLast Go.Proofs.YtgilagbfgbgplaaW.PrintMore
set_option linter.unusedVariables false
set_option linter.unusedSimpArgs false
theorem epochPlays_calls (A : Option Addr) (len cap : Nat) (zs : List Bool) (at_ : Int) (w : World) (hz : ∀ i, i < len → ∃ a, A = some a ∧ w.cell? (a.add i) = some (.bool (zs.getD i false))) (hcap : len ≤ cap) (hmax : cap ≤ maxLen) (hat : -9223372036854775808 ≤ at_ ∧ at_ ≤ 9223372036854775807) : Calls Try.prog 3 #[.slice A len cap, .int .i64 at_] w fun e w' => e = .returned (.bool true) ∧ Below w.heap.size w w' := by
  have hmf := mf
  obtain ⟨hat0, hat1⟩ := hat
  by_cases hl : 2000 < (len : Int)
  · go_enter Try.func3, Try.ntmps3
    go_wp2_with (first | (go_at_call 15; with_reducible refine (head_calls _).mono ?_; rintro e h1 ⟨rfl, hh1⟩) | (go_at_call 16; with_reducible refine (new_calls _).mono ?_; rintro e u1 ⟨rfl, o1, hu1, hc1, hf1⟩; have hb1 := b_new hu1; have hl1 := l_new hu1; clear hu1) | (go_at_call 17; with_reducible refine (rnew_calls _).mono ?_; rintro e u2 ⟨rfl, o2, hu2, hc2, hf2⟩; have hb2 := b_new hu2; have hl2 := l_new hu2; clear hu2))
    go_ret
    exact ⟨by simp, bcall (bcall hh1 hb1) hb2⟩
  go_enter Try.func3, Try.ntmps3
  go_wp2_with (first | (go_at_call 15; with_reducible refine (head_calls _).mono ?_; rintro e h1 ⟨rfl, hh1⟩) | (go_at_call 16; with_reducible refine (new_calls _).mono ?_; rintro e u1 ⟨rfl, o1, hu1, hc1, hf1⟩; have hb1 := b_new hu1; have hl1 := l_new hu1; clear hu1) | (go_at_call 17; with_reducible refine (rnew_calls _).mono ?_; rintro e u2 ⟨rfl, o2, hu2, hc2, hf2⟩; have hb2 := b_new hu2; have hl2 := l_new hu2; clear hu2))
  have BL := Aside0.mk (bcall (bcall hh1 hb1) hb2)
  have GE := Aside0.mk (hh1.size)
  have GQ := Aside0.mk ((bcall hh1 hb1).size)
  have hcc := cellB hb2 hc1
  have hff := (hb2.frozen (p := ⟨h1.heap.size, 0, none⟩) hl1).trans hf1
  have ne1 : h1.heap.size ≠ u1.heap.size := by omega
  have ne2 : u1.heap.size ≠ h1.heap.size := by omega
  clear hb1 hh1 hb2 hc1 hf1 hl2
  generalize u1.heap.size = q at *
  generalize h1.heap.size = g at *
  go_loopg [8] (len + 1) (fun kq v8 w' => ∃ (k : Nat) (n : Int) (r : Bool), v8 = .int .i64 (k : Int) ∧ Aside0 (k ≤ len ∧ 0 ≤ n ∧ n ≤ k ∧ kq + k = len + 1 ∧ n % 2 = (if r = true then 1 else 0)) ∧ Aside0 (w'.cell? ⟨g, 0, none⟩ = some (.int .i64 n)) ∧ Aside0 (w'.frozen? ⟨g, 0, none⟩ = false) ∧ Aside0 (w'.cell? ⟨q, 0, none⟩ = some (.int .i64 n)) ∧ Aside0 (w'.frozen? ⟨q, 0, none⟩ = false) ∧ Aside0 (Below w.heap.size w w'))
  case atStart => exact ⟨0, 0, false, by first | rfl | simp, ⟨by omega, by omega, by omega, by omega, by decide⟩, ⟨hcc⟩, ⟨hff⟩, ⟨hc2⟩, ⟨hf2⟩, BL⟩
  case round =>
    obtain ⟨k, n, r, rfl, HI, HC, HF, HC2, HF2, HB⟩ := hrel
    clear hcc hff hc2 hf2 hl1 BL
    obtain ⟨i0, i1, i2, i3, i4⟩ := HI.out
    have hc := HC.out
    have hf := HF.out
    have hcq := HC2.out
    have hfq := HF2.out
    cases gk with
    | zero => exfalso; omega
    | succ k1 =>
      by_cases c : k < len
      · obtain ⟨a, b, rfl, hbz, hab, hr1, hr2⟩ := read_bools hz HB.out c
        clear hr2 hbz
        have cI : (k : Int) < (len : Int) := by omega
        cases r
        · have p0 : n % 2 = 0 := by simpa using i4
          have p1 : (n + 1) % 2 = 1 := by omega
          cases b
          · go_wp2_with (first | (go_at_call 20; with_reducible refine (end0 _ n _ (by first | omega | decide) (by first | omega | decide) (by first | omega | decide) (by (go_simp <;> fail)) (by (go_simp <;> fail))).mono ?_; rintro e w1 ⟨rfl, rfl⟩) | (go_at_call 21; with_reducible refine (rend0 _ n _ (by first | omega | decide) (by first | omega | decide) (by first | omega | decide) (by (go_simp <;> fail)) (by (go_simp <;> fail))).mono ?_; rintro e w1 ⟨rfl, rfl⟩) | (go_at_call 22; with_reducible refine (now_calls _ n _ (by (go_simp <;> fail))).mono ?_; rintro e w1 ⟨rfl, rfl⟩) | (go_at_call 23; with_reducible refine (rnow_calls _ n _ (by (go_simp <;> fail))).mono ?_; rintro e w1 ⟨rfl, rfl⟩) | (go_at_call 24; with_reducible refine (runs0 _ n _ (by first | omega | decide) (by first | omega | decide) (by first | omega | decide) (by (go_simp <;> fail))).mono ?_; rintro e w1 ⟨rfl, rfl⟩) | (go_at_call 25; with_reducible refine (rruns0 _ n _ (by first | omega | decide) (by first | omega | decide) (by first | omega | decide) (by (go_simp <;> fail))).mono ?_; rintro e w1 ⟨rfl, rfl⟩) | (go_at_call 26; with_reducible refine (over_calls _ n at_ _ (by first | omega | decide) (by first | omega | decide) (by (go_simp <;> fail))).mono ?_; rintro e w1 ⟨rfl, m, rfl⟩) | (go_at_call 27; with_reducible refine (rover_calls _ n at_ _ (by first | omega | decide) (by first | omega | decide) (by (go_simp <;> fail))).mono ?_; rintro e w1 ⟨rfl, m, rfl⟩))
            go_roundg k1
            case measure => omega
            case rel => exact ⟨k + 1, n, false, by first | rfl | (simp; done) | (simp; omega), ⟨by omega, by omega, by omega, by omega, by simp [p0, p1]⟩, ⟨by go_simp⟩, ⟨by go_simp⟩, ⟨by go_simp⟩, ⟨by go_simp⟩, ⟨by repeat (first | exact HB.out | refine b_set ?_ GE.out | refine b_set ?_ GQ.out | refine bdrewN ?_ _ | refine bdrew ?_)⟩⟩
          · go_wp2_with (first | (go_at_call 18; with_reducible refine (begin0 _ n _ (by first | omega | decide) (by first | omega | decide) (by first | omega | decide) (by (go_simp <;> fail)) (by (go_simp <;> fail))).mono ?_; rintro e w1 ⟨rfl, rfl⟩) | (go_at_call 19; with_reducible refine (rbegin0 _ n _ (by first | omega | decide) (by first | omega | decide) (by first | omega | decide) (by (go_simp <;> fail)) (by (go_simp <;> fail))).mono ?_; rintro e w1 ⟨rfl, rfl⟩) | (go_at_call 22; with_reducible refine (now_calls _ (n + 1) _ (by (go_simp <;> fail))).mono ?_; rintro e w1 ⟨rfl, rfl⟩) | (go_at_call 23; with_reducible refine (rnow_calls _ (n + 1) _ (by (go_simp <;> fail))).mono ?_; rintro e w1 ⟨rfl, rfl⟩) | (go_at_call 24; with_reducible refine (runs1 _ (n + 1) _ (by first | omega | decide) (by first | omega | decide) (by first | omega | decide) (by (go_simp <;> fail))).mono ?_; rintro e w1 ⟨rfl, rfl⟩) | (go_at_call 25; with_reducible refine (rruns1 _ (n + 1) _ (by first | omega | decide) (by first | omega | decide) (by first | omega | decide) (by (go_simp <;> fail))).mono ?_; rintro e w1 ⟨rfl, rfl⟩) | (go_at_call 26; with_reducible refine (over_calls _ (n + 1) at_ _ (by first | omega | decide) (by first | omega | decide) (by (go_simp <;> fail))).mono ?_; rintro e w1 ⟨rfl, m, rfl⟩) | (go_at_call 27; with_reducible refine (rover_calls _ (n + 1) at_ _ (by first | omega | decide) (by first | omega | decide) (by (go_simp <;> fail))).mono ?_; rintro e w1 ⟨rfl, m, rfl⟩))
            go_roundg k1
            case measure => omega
            case rel => exact ⟨k + 1, n + 1, true, by first | rfl | (simp; done) | (simp; omega), ⟨by omega, by omega, by omega, by omega, by simp [p0, p1]⟩, ⟨by go_simp⟩, ⟨by go_simp⟩, ⟨by go_simp⟩, ⟨by go_simp⟩, ⟨by repeat (first | exact HB.out | refine b_set ?_ GE.out | refine b_set ?_ GQ.out | refine bdrewN ?_ _ | refine bdrew ?_)⟩⟩
        · have p0 : n % 2 = 1 := by simpa using i4
          have p1 : (n + 1) % 2 = 0 := by omega
          cases b
          · go_wp2_with (first | (go_at_call 20; with_reducible refine (end1 _ n _ (by first | omega | decide) (by first | omega | decide) (by first | omega | decide) (by (go_simp <;> fail)) (by (go_simp <;> fail))).mono ?_; rintro e w1 ⟨rfl, rfl⟩) | (go_at_call 21; with_reducible refine (rend1 _ n _ (by first | omega | decide) (by first | omega | decide) (by first | omega | decide) (by (go_simp <;> fail)) (by (go_simp <;> fail))).mono ?_; rintro e w1 ⟨rfl, rfl⟩) | (go_at_call 22; with_reducible refine (now_calls _ (n + 1) _ (by (go_simp <;> fail))).mono ?_; rintro e w1 ⟨rfl, rfl⟩) | (go_at_call 23; with_reducible refine (rnow_calls _ (n + 1) _ (by (go_simp <;> fail))).mono ?_; rintro e w1 ⟨rfl, rfl⟩) | (go_at_call 24; with_reducible refine (runs0 _ (n + 1) _ (by first | omega | decide) (by first | omega | decide) (by first | omega | decide) (by (go_simp <;> fail))).mono ?_; rintro e w1 ⟨rfl, rfl⟩) | (go_at_call 25; with_reducible refine (rruns0 _ (n + 1) _ (by first | omega | decide) (by first | omega | decide) (by first | omega | decide) (by (go_simp <;> fail))).mono ?_; rintro e w1 ⟨rfl, rfl⟩) | (go_at_call 26; with_reducible refine (over_calls _ (n + 1) at_ _ (by first | omega | decide) (by first | omega | decide) (by (go_simp <;> fail))).mono ?_; rintro e w1 ⟨rfl, m, rfl⟩) | (go_at_call 27; with_reducible refine (rover_calls _ (n + 1) at_ _ (by first | omega | decide) (by first | omega | decide) (by (go_simp <;> fail))).mono ?_; rintro e w1 ⟨rfl, m, rfl⟩))
            go_roundg k1
            case measure => omega
            case rel => exact ⟨k + 1, n + 1, false, by first | rfl | (simp; done) | (simp; omega), ⟨by omega, by omega, by omega, by omega, by simp [p0, p1]⟩, ⟨by go_simp⟩, ⟨by go_simp⟩, ⟨by go_simp⟩, ⟨by go_simp⟩, ⟨by repeat (first | exact HB.out | refine b_set ?_ GE.out | refine b_set ?_ GQ.out | refine bdrewN ?_ _ | refine bdrew ?_)⟩⟩
          · go_wp2_with (first | (go_at_call 18; with_reducible refine (begin1 _ n _ (by first | omega | decide) (by first | omega | decide) (by first | omega | decide) (by (go_simp <;> fail)) (by (go_simp <;> fail))).mono ?_; rintro e w1 ⟨rfl, rfl⟩) | (go_at_call 19; with_reducible refine (rbegin1 _ n _ (by first | omega | decide) (by first | omega | decide) (by first | omega | decide) (by (go_simp <;> fail)) (by (go_simp <;> fail))).mono ?_; rintro e w1 ⟨rfl, rfl⟩) | (go_at_call 22; with_reducible refine (now_calls _ n _ (by (go_simp <;> fail))).mono ?_; rintro e w1 ⟨rfl, rfl⟩) | (go_at_call 23; with_reducible refine (rnow_calls _ n _ (by (go_simp <;> fail))).mono ?_; rintro e w1 ⟨rfl, rfl⟩) | (go_at_call 24; with_reducible refine (runs1 _ n _ (by first | omega | decide) (by first | omega | decide) (by first | omega | decide) (by (go_simp <;> fail))).mono ?_; rintro e w1 ⟨rfl, rfl⟩) | (go_at_call 25; with_reducible refine (rruns1 _ n _ (by first | omega | decide) (by first | omega | decide) (by first | omega | decide) (by (go_simp <;> fail))).mono ?_; rintro e w1 ⟨rfl, rfl⟩) | (go_at_call 26; with_reducible refine (over_calls _ n at_ _ (by first | omega | decide) (by first | omega | decide) (by (go_simp <;> fail))).mono ?_; rintro e w1 ⟨rfl, m, rfl⟩) | (go_at_call 27; with_reducible refine (rover_calls _ n at_ _ (by first | omega | decide) (by first | omega | decide) (by (go_simp <;> fail))).mono ?_; rintro e w1 ⟨rfl, m, rfl⟩))
            go_roundg k1
            case measure => omega
            case rel => exact ⟨k + 1, n, true, by first | rfl | (simp; done) | (simp; omega), ⟨by omega, by omega, by omega, by omega, by simp [p0, p1]⟩, ⟨by go_simp⟩, ⟨by go_simp⟩, ⟨by go_simp⟩, ⟨by go_simp⟩, ⟨by repeat (first | exact HB.out | refine b_set ?_ GE.out | refine b_set ?_ GQ.out | refine bdrewN ?_ _ | refine bdrew ?_)⟩⟩
      · have cI : ¬ (k : Int) < (len : Int) := by omega
        go_wp2_with (first | (go_at_call 28; with_reducible refine (when_calls at_ _ (by first | omega | decide) (by first | omega | decide)).mono ?_; rintro e w1 ⟨rfl, rfl⟩) | (go_at_call 29; with_reducible refine (rwhen_calls at_ _ (by first | omega | decide) (by first | omega | decide)).mono ?_; rintro e w1 ⟨rfl, rfl⟩))
        go_ret
        exact ⟨by simp, HB.out⟩
end Go.Proofs.Ytgilagbfgbgplaa.Ep
