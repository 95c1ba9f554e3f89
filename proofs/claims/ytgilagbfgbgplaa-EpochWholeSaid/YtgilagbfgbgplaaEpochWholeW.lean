/- The walk of EpochWhole. -/
import Derived.Test.YtgilagbfgbgplaaEpoch
import Derived.Test.YtgilagbfgbgplaaEpochHead
import Derived.Test.YtgilagbfgbgplaaWLast
import Derived.Test.YtgilagbfgbgplaaWMore
import Derived.Deep.LoopGhost
namespace Go.Proofs.Ytgilagbfgbgplaa.Ep
open Go.RowKit Go.Proofs.YtgilagbfgbgplaaW.PrintWords Go.Proofs.YtgilagbfgbgplaaW.PrintLast Go.Proofs.YtgilagbfgbgplaaW.PrintMore
set_option linter.unusedVariables false
set_option linter.unusedSimpArgs false
theorem overB (g : Nat) (n a : Int) (o : Bool) (w : World) (h0 : -9223372036854775808 ≤ a) (h1 : a ≤ 9223372036854775807) (hc : w.cell? ⟨g, 0, none⟩ = some (.int .i64 n)) (ho : decide (whenN a ≤ n) = o) :
    Calls Try.prog 26 #[.pointer (some ⟨g, 0, none⟩), .int .i64 a] w fun e w' => e = .returned (.bool o) ∧ ∃ m, w' = w.drewN m := ho ▸ over_calls g n a w h0 h1 hc
theorem when_of {t : Int} (h0 : 0 ≤ t) (h1 : t ≤ 100000) : whenN t = t + 2 + t % 2 := by unfold whenN; rw [if_neg (by omega), if_neg (by omega)]
set_option maxHeartbeats 4000000 in
theorem epochWhole_calls (A : Option Addr) (len cap : Nat) (zs : List Bool) (fr : Int) (w : World) (hz : ∀ i, i < len → ∃ a, A = some a ∧ w.cell? (a.add i) = some (.bool (zs.getD i false))) (hcap : len ≤ cap) (hmax : cap ≤ maxLen) (hfr : 0 ≤ fr ∧ fr ≤ 65535) : Calls Try.prog 4 #[.slice A len cap, .int .u16 fr] w fun e w' => e = .returned (.bool true) ∧ Below w.heap.size w w' := by
  have hmf := mf
  obtain ⟨hfr0, hfr1⟩ := hfr
  by_cases hl : 2000 < (len : Int)
  · go_enter Try.func4, Try.ntmps4
    go_wp2_with (first | (go_at_call 15; with_reducible refine (head_calls _).mono ?_; rintro e h1 ⟨rfl, hh1⟩) | (go_at_call 16; with_reducible refine (new_calls _).mono ?_; rintro e u1 ⟨rfl, o1, hu1, hc1, hf1⟩; have hb1 := b_new hu1; have hl1 := l_new hu1; clear hu1))
    go_ret
    exact ⟨by simp, bcall hh1 hb1⟩
  go_enter Try.func4, Try.ntmps4
  go_wp2_with (first | (go_at_call 15; with_reducible refine (head_calls _).mono ?_; rintro e h1 ⟨rfl, hh1⟩) | (go_at_call 16; with_reducible refine (new_calls _).mono ?_; rintro e u1 ⟨rfl, o1, hu1, hc1, hf1⟩; have hb1 := b_new hu1; have hl1 := l_new hu1; clear hu1))
  have BL := Aside0.mk (bcall hh1 hb1)
  have GE := Aside0.mk (hh1.size)
  clear hb1 hh1
  generalize h1.heap.size = g at *
  go_loopg [7, 8, 9, 10] (len + 2) (fun kq v7 v8 v9 v10 w' => ∃ (k : Nat) (n t : Int) (bg ov : Bool), v7 = .int .i64 t ∧ v8 = .bool bg ∧ v9 = .bool ov ∧ v10 = .int .i64 (k : Int) ∧ Aside0 (k ≤ len ∧ 0 ≤ n ∧ n ≤ k ∧ kq + k = len + 2) ∧ Aside0 (((k : Int) ≤ fr ∧ t = -1 ∧ bg = false ∧ ov = false) ∨ (fr < (k : Int) ∧ 0 ≤ t ∧ t ≤ n ∧ bg = decide (t + t % 2 < n) ∧ ov = decide (t + 2 + t % 2 ≤ n))) ∧ Aside0 (w'.cell? ⟨g, 0, none⟩ = some (.int .i64 n)) ∧ Aside0 (w'.frozen? ⟨g, 0, none⟩ = false) ∧ Aside0 (Below w.heap.size w w'))
  case atStart => exact ⟨0, 0, -1, false, false, by first | rfl | simp, by first | rfl | simp, by first | rfl | simp, by first | rfl | simp, ⟨by omega, by omega, by omega, by omega⟩, ⟨Or.inl ⟨by omega, rfl, rfl, rfl⟩⟩, ⟨hc1⟩, ⟨hf1⟩, BL⟩
  case round =>
    obtain ⟨k, n, t, bg, ov, rfl, rfl, rfl, rfl, HI, HP, HC, HF, HB⟩ := hrel
    clear hc1 hf1 hl1 BL
    obtain ⟨i0, i1, i2, i3⟩ := HI.out
    have hc := HC.out
    have hf := HF.out
    cases gk with
    | zero => exfalso; omega
    | succ k1 =>
      rcases HP.out with ⟨q1, rfl, rfl, rfl⟩ | ⟨q1, q2, q3, q4, q5⟩
      · by_cases cF : (k : Int) = fr
        · subst cF
          have ho : decide (whenN n ≤ n) = false := by rw [when_of (by omega) (by omega), decide_eq_false_iff_not]; omega
          by_cases c : k < len
          · obtain ⟨ad, b, rfl, hbz, hab, hr1, hr2⟩ := read_bools hz HB.out c
            clear hr2 hbz
            have cI : ¬ (k : Int) = (len : Int) := by omega
            have cJ : (k : Int) ≤ (len : Int) := by omega
            rcases Int.emod_two_eq n with p | p <;> cases b
            · have p1 : (n + 1) % 2 = 1 := by omega
              go_wp2_with (first | (go_at_call 22; with_reducible refine (now_calls _ n _ (by (go_simp <;> fail))).mono ?_; rintro e w1 ⟨rfl, rfl⟩) | (go_at_call 26; with_reducible refine (overB _ n n false _ (by first | omega | decide) (by first | omega | decide) (by (go_simp <;> fail)) (by assumption)).mono ?_; rintro e w1 ⟨rfl, m, rfl⟩) | (go_at_call 20; with_reducible refine (end0 _ n _ (by first | omega | decide) (by first | omega | decide) (by first | omega | decide) (by (go_simp <;> fail)) (by (go_simp <;> fail))).mono ?_; rintro e w1 ⟨rfl, rfl⟩))
              go_roundg k1
              case measure => omega
              case rel =>
                refine ⟨k + 1, n, n, false, false, ?_, ?_, ?_, ?_, ⟨by omega, by omega, by omega, by omega⟩, ⟨Or.inr ⟨by omega, by omega, by omega, by rw [eq_comm, decide_eq_false_iff_not]; omega, by rw [eq_comm, decide_eq_false_iff_not]; omega⟩⟩, ⟨by go_simp⟩, ⟨by go_simp⟩, ⟨by repeat (first | exact HB.out | refine b_set ?_ GE.out | refine bdrewN ?_ _ | refine bdrew ?_)⟩⟩ <;> first | rfl | (simp; done) | (simp; omega)
            · have p1 : (n + 1) % 2 = 1 := by omega
              go_wp2_with (first | (go_at_call 22; with_reducible refine (now_calls _ n _ (by (go_simp <;> fail))).mono ?_; rintro e w1 ⟨rfl, rfl⟩) | (go_at_call 26; with_reducible refine (overB _ n n false _ (by first | omega | decide) (by first | omega | decide) (by (go_simp <;> fail)) (by assumption)).mono ?_; rintro e w1 ⟨rfl, m, rfl⟩) | (go_at_call 18; with_reducible refine (begin0 _ n _ (by first | omega | decide) (by first | omega | decide) (by first | omega | decide) (by (go_simp <;> fail)) (by (go_simp <;> fail))).mono ?_; rintro e w1 ⟨rfl, rfl⟩))
              go_roundg k1
              case measure => omega
              case rel =>
                refine ⟨k + 1, n + 1, n, true, false, ?_, ?_, ?_, ?_, ⟨by omega, by omega, by omega, by omega⟩, ⟨Or.inr ⟨by omega, by omega, by omega, by rw [eq_comm, decide_eq_true_eq]; omega, by rw [eq_comm, decide_eq_false_iff_not]; omega⟩⟩, ⟨by go_simp⟩, ⟨by go_simp⟩, ⟨by repeat (first | exact HB.out | refine b_set ?_ GE.out | refine bdrewN ?_ _ | refine bdrew ?_)⟩⟩ <;> first | rfl | (simp; done) | (simp; omega)
            · have p1 : (n + 1) % 2 = 0 := by omega
              go_wp2_with (first | (go_at_call 22; with_reducible refine (now_calls _ n _ (by (go_simp <;> fail))).mono ?_; rintro e w1 ⟨rfl, rfl⟩) | (go_at_call 26; with_reducible refine (overB _ n n false _ (by first | omega | decide) (by first | omega | decide) (by (go_simp <;> fail)) (by assumption)).mono ?_; rintro e w1 ⟨rfl, m, rfl⟩) | (go_at_call 20; with_reducible refine (end1 _ n _ (by first | omega | decide) (by first | omega | decide) (by first | omega | decide) (by (go_simp <;> fail)) (by (go_simp <;> fail))).mono ?_; rintro e w1 ⟨rfl, rfl⟩))
              go_roundg k1
              case measure => omega
              case rel =>
                refine ⟨k + 1, n + 1, n, false, false, ?_, ?_, ?_, ?_, ⟨by omega, by omega, by omega, by omega⟩, ⟨Or.inr ⟨by omega, by omega, by omega, by rw [eq_comm, decide_eq_false_iff_not]; omega, by rw [eq_comm, decide_eq_false_iff_not]; omega⟩⟩, ⟨by go_simp⟩, ⟨by go_simp⟩, ⟨by repeat (first | exact HB.out | refine b_set ?_ GE.out | refine bdrewN ?_ _ | refine bdrew ?_)⟩⟩ <;> first | rfl | (simp; done) | (simp; omega)
            · have p1 : (n + 1) % 2 = 0 := by omega
              go_wp2_with (first | (go_at_call 22; with_reducible refine (now_calls _ n _ (by (go_simp <;> fail))).mono ?_; rintro e w1 ⟨rfl, rfl⟩) | (go_at_call 26; with_reducible refine (overB _ n n false _ (by first | omega | decide) (by first | omega | decide) (by (go_simp <;> fail)) (by assumption)).mono ?_; rintro e w1 ⟨rfl, m, rfl⟩) | (go_at_call 18; with_reducible refine (begin1 _ n _ (by first | omega | decide) (by first | omega | decide) (by first | omega | decide) (by (go_simp <;> fail)) (by (go_simp <;> fail))).mono ?_; rintro e w1 ⟨rfl, rfl⟩))
              go_roundg k1
              case measure => omega
              case rel =>
                refine ⟨k + 1, n, n, false, false, ?_, ?_, ?_, ?_, ⟨by omega, by omega, by omega, by omega⟩, ⟨Or.inr ⟨by omega, by omega, by omega, by rw [eq_comm, decide_eq_false_iff_not]; omega, by rw [eq_comm, decide_eq_false_iff_not]; omega⟩⟩, ⟨by go_simp⟩, ⟨by go_simp⟩, ⟨by repeat (first | exact HB.out | refine b_set ?_ GE.out | refine bdrewN ?_ _ | refine bdrew ?_)⟩⟩ <;> first | rfl | (simp; done) | (simp; omega)
          · have cI : (k : Int) = (len : Int) := by omega
            have cJ : (k : Int) ≤ (len : Int) := by omega
            go_wp2_with (first | (go_at_call 22; with_reducible refine (now_calls _ n _ (by (go_simp <;> fail))).mono ?_; rintro e w1 ⟨rfl, rfl⟩) | (go_at_call 26; with_reducible refine (overB _ n n false _ (by first | omega | decide) (by first | omega | decide) (by (go_simp <;> fail)) (by assumption)).mono ?_; rintro e w1 ⟨rfl, m, rfl⟩))
            go_ret
            exact ⟨by simp, by repeat (first | exact HB.out | refine bdrewN ?_ _ | refine bdrew ?_)⟩
        · have cG := cF
          by_cases c : k < len
          · obtain ⟨ad, b, rfl, hbz, hab, hr1, hr2⟩ := read_bools hz HB.out c
            clear hr2 hbz
            have cI : ¬ (k : Int) = (len : Int) := by omega
            have cJ : (k : Int) ≤ (len : Int) := by omega
            rcases Int.emod_two_eq n with p | p <;> cases b
            · have p1 : (n + 1) % 2 = 1 := by omega
              go_wp2_with (first | (go_at_call 20; with_reducible refine (end0 _ n _ (by first | omega | decide) (by first | omega | decide) (by first | omega | decide) (by (go_simp <;> fail)) (by (go_simp <;> fail))).mono ?_; rintro e w1 ⟨rfl, rfl⟩))
              go_roundg k1
              case measure => omega
              case rel =>
                refine ⟨k + 1, n, (-1), false, false, ?_, ?_, ?_, ?_, ⟨by omega, by omega, by omega, by omega⟩, ⟨Or.inl ⟨by omega, rfl, rfl, rfl⟩⟩, ⟨by go_simp⟩, ⟨by go_simp⟩, ⟨by repeat (first | exact HB.out | refine b_set ?_ GE.out | refine bdrewN ?_ _ | refine bdrew ?_)⟩⟩ <;> first | rfl | (simp; done) | (simp; omega)
            · have p1 : (n + 1) % 2 = 1 := by omega
              go_wp2_with (first | (go_at_call 18; with_reducible refine (begin0 _ n _ (by first | omega | decide) (by first | omega | decide) (by first | omega | decide) (by (go_simp <;> fail)) (by (go_simp <;> fail))).mono ?_; rintro e w1 ⟨rfl, rfl⟩))
              go_roundg k1
              case measure => omega
              case rel =>
                refine ⟨k + 1, n + 1, (-1), false, false, ?_, ?_, ?_, ?_, ⟨by omega, by omega, by omega, by omega⟩, ⟨Or.inl ⟨by omega, rfl, rfl, rfl⟩⟩, ⟨by go_simp⟩, ⟨by go_simp⟩, ⟨by repeat (first | exact HB.out | refine b_set ?_ GE.out | refine bdrewN ?_ _ | refine bdrew ?_)⟩⟩ <;> first | rfl | (simp; done) | (simp; omega)
            · have p1 : (n + 1) % 2 = 0 := by omega
              go_wp2_with (first | (go_at_call 20; with_reducible refine (end1 _ n _ (by first | omega | decide) (by first | omega | decide) (by first | omega | decide) (by (go_simp <;> fail)) (by (go_simp <;> fail))).mono ?_; rintro e w1 ⟨rfl, rfl⟩))
              go_roundg k1
              case measure => omega
              case rel =>
                refine ⟨k + 1, n + 1, (-1), false, false, ?_, ?_, ?_, ?_, ⟨by omega, by omega, by omega, by omega⟩, ⟨Or.inl ⟨by omega, rfl, rfl, rfl⟩⟩, ⟨by go_simp⟩, ⟨by go_simp⟩, ⟨by repeat (first | exact HB.out | refine b_set ?_ GE.out | refine bdrewN ?_ _ | refine bdrew ?_)⟩⟩ <;> first | rfl | (simp; done) | (simp; omega)
            · have p1 : (n + 1) % 2 = 0 := by omega
              go_wp2_with (first | (go_at_call 18; with_reducible refine (begin1 _ n _ (by first | omega | decide) (by first | omega | decide) (by first | omega | decide) (by (go_simp <;> fail)) (by (go_simp <;> fail))).mono ?_; rintro e w1 ⟨rfl, rfl⟩))
              go_roundg k1
              case measure => omega
              case rel =>
                refine ⟨k + 1, n, (-1), false, false, ?_, ?_, ?_, ?_, ⟨by omega, by omega, by omega, by omega⟩, ⟨Or.inl ⟨by omega, rfl, rfl, rfl⟩⟩, ⟨by go_simp⟩, ⟨by go_simp⟩, ⟨by repeat (first | exact HB.out | refine b_set ?_ GE.out | refine bdrewN ?_ _ | refine bdrew ?_)⟩⟩ <;> first | rfl | (simp; done) | (simp; omega)
          · have cI : (k : Int) = (len : Int) := by omega
            have cJ : (k : Int) ≤ (len : Int) := by omega
            go_wp2
            go_ret
            exact ⟨by simp, by repeat (first | exact HB.out | refine bdrewN ?_ _ | refine bdrew ?_)⟩
      · have cF : ¬ (k : Int) = fr := by omega
        have cT : 0 ≤ t := q2
        have ho0 : decide (whenN t ≤ n) = ov := by rw [when_of (by omega) (by omega)]; exact q5.symm
        by_cases x1 : t + t % 2 < n
        · have hbg : bg = true := by rw [q4, decide_eq_true_eq]; exact x1
          by_cases x2 : t + 2 + t % 2 ≤ n
          · have hov : ov = true := by rw [q5, decide_eq_true_eq]; exact x2
            subst hbg hov
            clear q4 q5
            have ho : decide (whenN t ≤ n) = true := ho0
            by_cases c : k < len
            · obtain ⟨ad, b, rfl, hbz, hab, hr1, hr2⟩ := read_bools hz HB.out c
              clear hr2 hbz
              have cI : ¬ (k : Int) = (len : Int) := by omega
              have cJ : (k : Int) ≤ (len : Int) := by omega
              rcases Int.emod_two_eq n with p | p <;> cases b
              · have p1 : (n + 1) % 2 = 1 := by omega
                go_wp2_with (first | (go_at_call 26; with_reducible refine (overB _ n t true _ (by first | omega | decide) (by first | omega | decide) (by (go_simp <;> fail)) (by assumption)).mono ?_; rintro e w1 ⟨rfl, m, rfl⟩) | (go_at_call 20; with_reducible refine (end0 _ n _ (by first | omega | decide) (by first | omega | decide) (by first | omega | decide) (by (go_simp <;> fail)) (by (go_simp <;> fail))).mono ?_; rintro e w1 ⟨rfl, rfl⟩))
                go_roundg k1
                case measure => omega
                case rel =>
                  refine ⟨k + 1, n, t, true, true, ?_, ?_, ?_, ?_, ⟨by omega, by omega, by omega, by omega⟩, ⟨Or.inr ⟨by omega, by omega, by omega, by rw [eq_comm, decide_eq_true_eq]; omega, by rw [eq_comm, decide_eq_true_eq]; omega⟩⟩, ⟨by go_simp⟩, ⟨by go_simp⟩, ⟨by repeat (first | exact HB.out | refine b_set ?_ GE.out | refine bdrewN ?_ _ | refine bdrew ?_)⟩⟩ <;> first | rfl | (simp; done) | (simp; omega)
              · have p1 : (n + 1) % 2 = 1 := by omega
                go_wp2_with (first | (go_at_call 26; with_reducible refine (overB _ n t true _ (by first | omega | decide) (by first | omega | decide) (by (go_simp <;> fail)) (by assumption)).mono ?_; rintro e w1 ⟨rfl, m, rfl⟩) | (go_at_call 18; with_reducible refine (begin0 _ n _ (by first | omega | decide) (by first | omega | decide) (by first | omega | decide) (by (go_simp <;> fail)) (by (go_simp <;> fail))).mono ?_; rintro e w1 ⟨rfl, rfl⟩))
                go_roundg k1
                case measure => omega
                case rel =>
                  refine ⟨k + 1, n + 1, t, true, true, ?_, ?_, ?_, ?_, ⟨by omega, by omega, by omega, by omega⟩, ⟨Or.inr ⟨by omega, by omega, by omega, by rw [eq_comm, decide_eq_true_eq]; omega, by rw [eq_comm, decide_eq_true_eq]; omega⟩⟩, ⟨by go_simp⟩, ⟨by go_simp⟩, ⟨by repeat (first | exact HB.out | refine b_set ?_ GE.out | refine bdrewN ?_ _ | refine bdrew ?_)⟩⟩ <;> first | rfl | (simp; done) | (simp; omega)
              · have p1 : (n + 1) % 2 = 0 := by omega
                go_wp2_with (first | (go_at_call 26; with_reducible refine (overB _ n t true _ (by first | omega | decide) (by first | omega | decide) (by (go_simp <;> fail)) (by assumption)).mono ?_; rintro e w1 ⟨rfl, m, rfl⟩) | (go_at_call 20; with_reducible refine (end1 _ n _ (by first | omega | decide) (by first | omega | decide) (by first | omega | decide) (by (go_simp <;> fail)) (by (go_simp <;> fail))).mono ?_; rintro e w1 ⟨rfl, rfl⟩))
                go_roundg k1
                case measure => omega
                case rel =>
                  refine ⟨k + 1, n + 1, t, true, true, ?_, ?_, ?_, ?_, ⟨by omega, by omega, by omega, by omega⟩, ⟨Or.inr ⟨by omega, by omega, by omega, by rw [eq_comm, decide_eq_true_eq]; omega, by rw [eq_comm, decide_eq_true_eq]; omega⟩⟩, ⟨by go_simp⟩, ⟨by go_simp⟩, ⟨by repeat (first | exact HB.out | refine b_set ?_ GE.out | refine bdrewN ?_ _ | refine bdrew ?_)⟩⟩ <;> first | rfl | (simp; done) | (simp; omega)
              · have p1 : (n + 1) % 2 = 0 := by omega
                go_wp2_with (first | (go_at_call 26; with_reducible refine (overB _ n t true _ (by first | omega | decide) (by first | omega | decide) (by (go_simp <;> fail)) (by assumption)).mono ?_; rintro e w1 ⟨rfl, m, rfl⟩) | (go_at_call 18; with_reducible refine (begin1 _ n _ (by first | omega | decide) (by first | omega | decide) (by first | omega | decide) (by (go_simp <;> fail)) (by (go_simp <;> fail))).mono ?_; rintro e w1 ⟨rfl, rfl⟩))
                go_roundg k1
                case measure => omega
                case rel =>
                  refine ⟨k + 1, n, t, true, true, ?_, ?_, ?_, ?_, ⟨by omega, by omega, by omega, by omega⟩, ⟨Or.inr ⟨by omega, by omega, by omega, by rw [eq_comm, decide_eq_true_eq]; omega, by rw [eq_comm, decide_eq_true_eq]; omega⟩⟩, ⟨by go_simp⟩, ⟨by go_simp⟩, ⟨by repeat (first | exact HB.out | refine b_set ?_ GE.out | refine bdrewN ?_ _ | refine bdrew ?_)⟩⟩ <;> first | rfl | (simp; done) | (simp; omega)
            · have cI : (k : Int) = (len : Int) := by omega
              have cJ : (k : Int) ≤ (len : Int) := by omega
              go_wp2_with (first | (go_at_call 26; with_reducible refine (overB _ n t true _ (by first | omega | decide) (by first | omega | decide) (by (go_simp <;> fail)) (by assumption)).mono ?_; rintro e w1 ⟨rfl, m, rfl⟩))
              go_ret
              exact ⟨by simp, by repeat (first | exact HB.out | refine bdrewN ?_ _ | refine bdrew ?_)⟩
          · have hov : ov = false := by rw [q5, decide_eq_false_iff_not]; exact x2
            subst hbg hov
            clear q4 q5
            have ho : decide (whenN t ≤ n) = false := ho0
            by_cases c : k < len
            · obtain ⟨ad, b, rfl, hbz, hab, hr1, hr2⟩ := read_bools hz HB.out c
              clear hr2 hbz
              have cI : ¬ (k : Int) = (len : Int) := by omega
              have cJ : (k : Int) ≤ (len : Int) := by omega
              rcases Int.emod_two_eq n with p | p <;> cases b
              · have p1 : (n + 1) % 2 = 1 := by omega
                exfalso; omega
              · have p1 : (n + 1) % 2 = 1 := by omega
                exfalso; omega
              · have p1 : (n + 1) % 2 = 0 := by omega
                go_wp2_with (first | (go_at_call 26; with_reducible refine (overB _ n t false _ (by first | omega | decide) (by first | omega | decide) (by (go_simp <;> fail)) (by assumption)).mono ?_; rintro e w1 ⟨rfl, m, rfl⟩) | (go_at_call 20; with_reducible refine (end1 _ n _ (by first | omega | decide) (by first | omega | decide) (by first | omega | decide) (by (go_simp <;> fail)) (by (go_simp <;> fail))).mono ?_; rintro e w1 ⟨rfl, rfl⟩))
                go_roundg k1
                case measure => omega
                case rel =>
                  refine ⟨k + 1, n + 1, t, true, true, ?_, ?_, ?_, ?_, ⟨by omega, by omega, by omega, by omega⟩, ⟨Or.inr ⟨by omega, by omega, by omega, by rw [eq_comm, decide_eq_true_eq]; omega, by rw [eq_comm, decide_eq_true_eq]; omega⟩⟩, ⟨by go_simp⟩, ⟨by go_simp⟩, ⟨by repeat (first | exact HB.out | refine b_set ?_ GE.out | refine bdrewN ?_ _ | refine bdrew ?_)⟩⟩ <;> first | rfl | (simp; done) | (simp; omega)
              · have p1 : (n + 1) % 2 = 0 := by omega
                go_wp2_with (first | (go_at_call 26; with_reducible refine (overB _ n t false _ (by first | omega | decide) (by first | omega | decide) (by (go_simp <;> fail)) (by assumption)).mono ?_; rintro e w1 ⟨rfl, m, rfl⟩) | (go_at_call 18; with_reducible refine (begin1 _ n _ (by first | omega | decide) (by first | omega | decide) (by first | omega | decide) (by (go_simp <;> fail)) (by (go_simp <;> fail))).mono ?_; rintro e w1 ⟨rfl, rfl⟩))
                go_roundg k1
                case measure => omega
                case rel =>
                  refine ⟨k + 1, n, t, true, false, ?_, ?_, ?_, ?_, ⟨by omega, by omega, by omega, by omega⟩, ⟨Or.inr ⟨by omega, by omega, by omega, by rw [eq_comm, decide_eq_true_eq]; omega, by rw [eq_comm, decide_eq_false_iff_not]; omega⟩⟩, ⟨by go_simp⟩, ⟨by go_simp⟩, ⟨by repeat (first | exact HB.out | refine b_set ?_ GE.out | refine bdrewN ?_ _ | refine bdrew ?_)⟩⟩ <;> first | rfl | (simp; done) | (simp; omega)
            · have cI : (k : Int) = (len : Int) := by omega
              have cJ : (k : Int) ≤ (len : Int) := by omega
              go_wp2_with (first | (go_at_call 26; with_reducible refine (overB _ n t false _ (by first | omega | decide) (by first | omega | decide) (by (go_simp <;> fail)) (by assumption)).mono ?_; rintro e w1 ⟨rfl, m, rfl⟩))
              go_ret
              exact ⟨by simp, by repeat (first | exact HB.out | refine bdrewN ?_ _ | refine bdrew ?_)⟩
        · have hbg : bg = false := by rw [q4, decide_eq_false_iff_not]; exact x1
          have hov : ov = false := by rw [q5, decide_eq_false_iff_not]; omega
          subst hbg hov
          clear q4 q5
          have ho : decide (whenN t ≤ n) = false := ho0
          by_cases c : k < len
          · obtain ⟨ad, b, rfl, hbz, hab, hr1, hr2⟩ := read_bools hz HB.out c
            clear hr2 hbz
            have cI : ¬ (k : Int) = (len : Int) := by omega
            have cJ : (k : Int) ≤ (len : Int) := by omega
            rcases Int.emod_two_eq n with p | p <;> cases b
            · have p1 : (n + 1) % 2 = 1 := by omega
              go_wp2_with (first | (go_at_call 26; with_reducible refine (overB _ n t false _ (by first | omega | decide) (by first | omega | decide) (by (go_simp <;> fail)) (by assumption)).mono ?_; rintro e w1 ⟨rfl, m, rfl⟩) | (go_at_call 20; with_reducible refine (end0 _ n _ (by first | omega | decide) (by first | omega | decide) (by first | omega | decide) (by (go_simp <;> fail)) (by (go_simp <;> fail))).mono ?_; rintro e w1 ⟨rfl, rfl⟩))
              go_roundg k1
              case measure => omega
              case rel =>
                refine ⟨k + 1, n, t, false, false, ?_, ?_, ?_, ?_, ⟨by omega, by omega, by omega, by omega⟩, ⟨Or.inr ⟨by omega, by omega, by omega, by rw [eq_comm, decide_eq_false_iff_not]; omega, by rw [eq_comm, decide_eq_false_iff_not]; omega⟩⟩, ⟨by go_simp⟩, ⟨by go_simp⟩, ⟨by repeat (first | exact HB.out | refine b_set ?_ GE.out | refine bdrewN ?_ _ | refine bdrew ?_)⟩⟩ <;> first | rfl | (simp; done) | (simp; omega)
            · have p1 : (n + 1) % 2 = 1 := by omega
              go_wp2_with (first | (go_at_call 26; with_reducible refine (overB _ n t false _ (by first | omega | decide) (by first | omega | decide) (by (go_simp <;> fail)) (by assumption)).mono ?_; rintro e w1 ⟨rfl, m, rfl⟩) | (go_at_call 18; with_reducible refine (begin0 _ n _ (by first | omega | decide) (by first | omega | decide) (by first | omega | decide) (by (go_simp <;> fail)) (by (go_simp <;> fail))).mono ?_; rintro e w1 ⟨rfl, rfl⟩))
              go_roundg k1
              case measure => omega
              case rel =>
                refine ⟨k + 1, n + 1, t, true, false, ?_, ?_, ?_, ?_, ⟨by omega, by omega, by omega, by omega⟩, ⟨Or.inr ⟨by omega, by omega, by omega, by rw [eq_comm, decide_eq_true_eq]; omega, by rw [eq_comm, decide_eq_false_iff_not]; omega⟩⟩, ⟨by go_simp⟩, ⟨by go_simp⟩, ⟨by repeat (first | exact HB.out | refine b_set ?_ GE.out | refine bdrewN ?_ _ | refine bdrew ?_)⟩⟩ <;> first | rfl | (simp; done) | (simp; omega)
            · have p1 : (n + 1) % 2 = 0 := by omega
              go_wp2_with (first | (go_at_call 26; with_reducible refine (overB _ n t false _ (by first | omega | decide) (by first | omega | decide) (by (go_simp <;> fail)) (by assumption)).mono ?_; rintro e w1 ⟨rfl, m, rfl⟩) | (go_at_call 20; with_reducible refine (end1 _ n _ (by first | omega | decide) (by first | omega | decide) (by first | omega | decide) (by (go_simp <;> fail)) (by (go_simp <;> fail))).mono ?_; rintro e w1 ⟨rfl, rfl⟩))
              go_roundg k1
              case measure => omega
              case rel =>
                refine ⟨k + 1, n + 1, t, false, false, ?_, ?_, ?_, ?_, ⟨by omega, by omega, by omega, by omega⟩, ⟨Or.inr ⟨by omega, by omega, by omega, by rw [eq_comm, decide_eq_false_iff_not]; omega, by rw [eq_comm, decide_eq_false_iff_not]; omega⟩⟩, ⟨by go_simp⟩, ⟨by go_simp⟩, ⟨by repeat (first | exact HB.out | refine b_set ?_ GE.out | refine bdrewN ?_ _ | refine bdrew ?_)⟩⟩ <;> first | rfl | (simp; done) | (simp; omega)
            · have p1 : (n + 1) % 2 = 0 := by omega
              go_wp2_with (first | (go_at_call 26; with_reducible refine (overB _ n t false _ (by first | omega | decide) (by first | omega | decide) (by (go_simp <;> fail)) (by assumption)).mono ?_; rintro e w1 ⟨rfl, m, rfl⟩) | (go_at_call 18; with_reducible refine (begin1 _ n _ (by first | omega | decide) (by first | omega | decide) (by first | omega | decide) (by (go_simp <;> fail)) (by (go_simp <;> fail))).mono ?_; rintro e w1 ⟨rfl, rfl⟩))
              go_roundg k1
              case measure => omega
              case rel =>
                refine ⟨k + 1, n, t, false, false, ?_, ?_, ?_, ?_, ⟨by omega, by omega, by omega, by omega⟩, ⟨Or.inr ⟨by omega, by omega, by omega, by rw [eq_comm, decide_eq_false_iff_not]; omega, by rw [eq_comm, decide_eq_false_iff_not]; omega⟩⟩, ⟨by go_simp⟩, ⟨by go_simp⟩, ⟨by repeat (first | exact HB.out | refine b_set ?_ GE.out | refine bdrewN ?_ _ | refine bdrew ?_)⟩⟩ <;> first | rfl | (simp; done) | (simp; omega)
          · have cI : (k : Int) = (len : Int) := by omega
            have cJ : (k : Int) ≤ (len : Int) := by omega
            go_wp2_with (first | (go_at_call 26; with_reducible refine (overB _ n t false _ (by first | omega | decide) (by first | omega | decide) (by (go_simp <;> fail)) (by assumption)).mono ?_; rintro e w1 ⟨rfl, m, rfl⟩))
            go_ret
            exact ⟨by simp, by repeat (first | exact HB.out | refine bdrewN ?_ _ | refine bdrew ?_)⟩
end Go.Proofs.Ytgilagbfgbgplaa.Ep
