/- The registers of layer 18: the document's Put and All. -/
import Derived.Test.YtijcniflghjoaaaRgMore
import Derived.Deep.RegionHeld3
namespace Go.Proofs.Ytijcniflghjoaaa.Rg
open Go.RowKit Go.Lib
set_option linter.unusedVariables false
set_option linter.unusedSimpArgs false
theorem rputN (g : Nat) (A : Option Addr) (n c : Nat) (w : World) (h : n ≠ 8) : Calls Try.prog 31 #[.pointer (some ⟨g, 0, none⟩), .slice A n c] w fun e w' => e = .returned (.bool false) ∧ w' = w := by
  have h1 : ((n : Int) != 8) = true := by simp; omega
  go_enter Try.func31, Try.ntmps31
  go_wp2
  all_goals try (exfalso; omega)
  go_ret
  exact ⟨by simp, rfl⟩
def mix (l L : Nat → CV) (k : Nat) : Nat → CV := fun i => if i < k then L i else l i
theorem mix_0 (l L : Nat → CV) : fc (mix l L 0) = fc l := fc_same fun i _ => by show (if i < 0 then _ else _) = _; rw [if_neg (by omega)]
theorem mix_8 (l L : Nat → CV) : fc (mix l L 8) = fc L := fc_same fun i hi => by show (if i < 8 then _ else _) = _; rw [if_pos hi]
theorem mix_s (l L : Nat → CV) (k : Nat) : fc (upd (mix l L k) k (L k)) = fc (mix l L (k + 1)) := fc_same fun i _ => by
  show (if i = k then L k else if i < k then L i else l i) = if i < k + 1 then L i else l i
  by_cases hi : i = k
  · subst hi; rw [if_pos rfl, if_pos (by omega)]
  · rw [if_neg hi]
    by_cases hc : i < k
    · rw [if_pos hc, if_pos (by omega)]
    · rw [if_neg hc, if_neg (by omega)]
def RPost (g : Nat) (p : Bool) (L l : Nat → CV) (w : World) (e : Ending) (w' : World) : Prop := e = .returned (.bool p) ∧ Blk w' g 73 (fc (if p = true then L else l)) ∧ w.grownBy w' (some g)
set_option maxRecDepth 100000 in
set_option maxHeartbeats 1000000 in
theorem rput8 (g c : Nat) (A : Option Addr) (L l : Nat → CV) (w : World) (hR : Row w A 8 L) (hne : ∀ B o, A = some ⟨B, o, none⟩ → B ≠ g) (hb : Blk w g 73 (fc l)) : Calls Try.prog 31 #[.pointer (some ⟨g, 0, none⟩), .slice A 8 c] w (RPost g (allR L 8) L l w) := by
  have HR := Asd.mk hR
  have HN := Asd.mk hne
  have HB := Asd.mk hb
  have BL := Asd.mk (Below.refl w.heap.size w)
  clear hR hne hb
  go_enter Try.func31, Try.ntmps31
  go_wp2
  go_loopg [5] 9 (fun kq v5 w' => ∃ k : Nat, v5 = .int .i64 (k : Int) ∧ Asd (k ≤ 8 ∧ kq + k = 9 ∧ allR L k = true) ∧ Asd (Below w.heap.size w w'))
  case atStart => exact ⟨0, rfl, ⟨by omega, by omega, rfl⟩, BL⟩
  case round =>
    obtain ⟨k, rfl, HI, HW⟩ := hrel
    clear BL
    obtain ⟨i0, i1, i2⟩ := HI.out
    by_cases hk : k < 8
    · obtain ⟨B, o, rfl, ha⟩ := HR.out k hk
      have hI0 : (0 : Int) ≤ (k : Int) := by omega
      have hI1 : (k : Int) < 8 := by omega
      obtain ⟨hlt, c0, c1, c2, c3, c4, c5⟩ := ha.below ha.1 HW.out
      have HC := Asd.mk (fun W => refRight_calls (L k) W)
      have HA := Asd.mk (show (L k).right = false → allR L 8 = false from allR_lt hk)
      have HS := Asd.mk (show allR L (k + 1) = (L k).right by show (allR L k && (L k).right) = _; rw [i2, Bool.true_and])
      clear ha i2
      generalize hr : (L k).right = b at *
      clear hr
      unfold CV.val at HC
      generalize L k = x at *
      obtain ⟨x0, x1, x2, x3, x4, x5⟩ := x
      dsimp only at HC c0 c1 c2 c3 c4 c5
      cases b
      · go_wp2_with (first | (go_at_call 26; with_reducible refine (HC.out _).mono ?_; rintro e w1 ⟨rfl, hb1⟩))
        go_ret
        refine ⟨by simp [HA.out (by first | rfl | trivial)], ?_, only_of_below (bcall HW.out hb1) _⟩
        rw [HA.out (by first | rfl | trivial), if_neg (by decide)]
        exact HB.out.below (bcall HW.out hb1) HB.out.lt
      · go_wp2_with (first | (go_at_call 26; with_reducible refine (HC.out _).mono ?_; rintro e w1 ⟨rfl, hb1⟩))
        go_roundg (gk - 1)
        case measure => omega
        case rel => exact ⟨k + 1, by simp, ⟨by omega, by omega, HS.out⟩, ⟨bcall HW.out hb1⟩⟩
    · obtain rfl : k = 8 := by omega
      have HP := Asd.mk i2
      clear i2 HI
      go_wp2
      have HB2 := Asd.mk ((mix_0 l L).symm ▸ HB.out.below HW.out HB.out.lt)
      have HG2 := Asd.mk (only_of_below HW.out (some g))
      clear HW i0 i1 hk
      go_loopg [6] 9 (fun kq v6 w' => ∃ k : Nat, v6 = .int .i64 (k : Int) ∧ Asd (k ≤ 8 ∧ kq + k = 9) ∧ Asd (Blk w' g 73 (fc (mix l L k))) ∧ Asd (w.grownBy w' (some g)))
      case atStart => exact ⟨0, rfl, ⟨by omega, by omega⟩, HB2, HG2⟩
      case round =>
        obtain ⟨k, rfl, HI, HB3, HG3⟩ := hrel
        clear HB2 HG2
        obtain ⟨i0, i1⟩ := HI.out
        by_cases hk : k < 8
        · obtain ⟨B, o, rfl, ha⟩ := HR.out k hk
          have hI0 : (0 : Int) ≤ (k : Int) := by omega
          have hI1 : (k : Int) < 8 := by omega
          have n1 : B ≠ g := HN.out B o rfl
          have n2 : g ≠ B := Ne.symm n1
          obtain ⟨hlt, c0, c1, c2, c3, c4, c5⟩ := ha.keep HG3.out.size (HG3.out.block B ha.1 (by simpa using n1))
          obtain ⟨⟨d0, d1, d2, d3, d4, d5⟩, f0, f1, f2, f3, f4, f5⟩ := HB3.out.reg k hk
          have HE := Asd.mk (mix_s l L k)
          clear ha
          generalize L k = x at *
          obtain ⟨x0, x1, x2, x3, x4, x5⟩ := x
          dsimp only at c0 c1 c2 c3 c4 c5 HE
          go_wp2_with fail
          go_region_held3 (fun w' => w'.cell? ⟨B, o + k * 6, none⟩ = some (.bool x0) ∧ w'.cell? ⟨B, o + k * 6 + 1, none⟩ = some (.int .i64 x1) ∧ w'.cell? ⟨B, o + k * 6 + 2, none⟩ = some (.int .i64 x2) ∧ w'.cell? ⟨B, o + k * 6 + 3, none⟩ = some (.int .i64 x3) ∧ w'.cell? ⟨B, o + k * 6 + 4, none⟩ = some (.int .i64 x4) ∧ w'.cell? ⟨B, o + k * 6 + 5, none⟩ = some (.int .i64 x5)) (go_keep) (fail)
          go_wp2_with fail
          go_roundg (gk - 1)
          case measure => omega
          case rel => exact ⟨k + 1, by simp, ⟨by omega, by omega⟩, ⟨HE.out ▸ Blk.drew (HB3.out.six k hk ⟨x0, x1, x2, x3, x4, x5⟩)⟩, ⟨only_drew (only_six (x := ⟨x0, x1, x2, x3, x4, x5⟩) HG3.out)⟩⟩
        · obtain rfl : k = 8 := by omega
          go_wp2
          go_ret
          refine ⟨by simp [HP.out], ?_, HG3.out⟩
          rw [HP.out, if_pos rfl, ← mix_8 l L]
          exact HB3.out
theorem rput_calls (g n c : Nat) (A : Option Addr) (L l : Nat → CV) (w : World) (hR : Row w A n L) (hne : 0 < n → ∀ B o, A = some ⟨B, o, none⟩ → B ≠ g) (hb : Blk w g 73 (fc l)) : Calls Try.prog 31 #[.pointer (some ⟨g, 0, none⟩), .slice A n c] w fun e w' => e = .returned (.bool (put8 n l L)) ∧ Blk w' g 73 (fc (if put8 n l L = true then L else l)) ∧ w.grownBy w' (some g) := by
  unfold put8
  by_cases h : n = 8
  · subst h
    simp only [decide_true, Bool.true_and]
    exact rput8 g c A L l w hR (hne (by omega)) hb
  · simp only [h, decide_false, Bool.false_and, Bool.false_eq_true, if_false]
    refine (rputN g A n c w h).mono fun e w' ⟨h1, h2⟩ => ⟨h1, ?_, ?_⟩
    · subst h2; exact hb
    · subst h2; exact only_of_below (Below.refl _ _) _
def cl (x : CV) : List Value := [x.cell 0, x.cell 1, x.cell 2, x.cell 3, x.cell 4, x.cell 5]
set_option maxRecDepth 100000 in
set_option maxHeartbeats 1000000 in
theorem rall_calls (g : Nat) (l : Nat → CV) (w : World) (hb : Blk w g 73 (fc l)) : Calls Try.prog 37 #[.pointer (some ⟨g, 0, none⟩)] w (AllPost 8 l w) := by
  obtain ⟨i0, hi, hz0, hz1, hz2⟩ := info_parts info29
  have HB := Asd.mk hb
  have BL := Asd.mk (Below.refl w.heap.size w)
  clear hb
  go_enter Try.func37, Try.ntmps37
  go_wp2
  go_loopg [3, 4] 9 (fun kq v3 v4 w' => ∃ k : Nat, v4 = .int .i64 (k : Int) ∧ Asd (k ≤ 8 ∧ kq + k = 9) ∧ Asd (w'.ownsRow w.heap.size 29 6 v3 k (rc l k)) ∧ Asd (Below w.heap.size w w'))
  case atStart => exact ⟨0, rfl, ⟨by omega, by omega⟩, ⟨World.ownsRow_nil w _ _ _⟩, BL⟩
  case round =>
    obtain ⟨k, rfl, HI, HO, HW⟩ := hrel
    clear BL
    obtain ⟨i0', i1⟩ := HI.out
    by_cases hk : k < 8
    · have hI0 : (0 : Int) ≤ (k : Int) := by omega
      have hI1 : (k : Int) < 8 := by omega
      obtain ⟨⟨d0, d1, d2, d3, d4, d5⟩, -⟩ := (HB.out.below HW.out HB.out.lt).reg k hk
      have HS := Asd.mk (show rc l (k + 1) = rc l k ++ cl (l k) from rfl)
      have hb0 := HW.out.size
      generalize l k = x at *
      obtain ⟨x0, x1, x2, x3, x4, x5⟩ := x
      dsimp only at d0 d1 d2 d3 d4 d5
      go_wp2_with (at_builtin; refine wpList_append_lies _ rfl _ _ 37 rfl w.heap.size 29 i0 _ 6 48 Try.underlying37 hi hz0 hz1 hz2 rfl (by omega) _ k (rc l k) rfl (HO.out.alloc _) ⟨wr.heap.size, 0, none⟩ 1 1 (cl ⟨x0, x1, x2, x3, x4, x5⟩) rfl rfl ?qc2 ?qc3 (by omega) ?qc5 ?qc6 ?qc7 (wr.heap.size + 1) ?qc8 ?_)
      case qc2 => exact World.news_of_block (heap_alloc_new wr _)
      case qc3 =>
        intro u hu
        simp only [cl, List.mem_cons, List.not_mem_nil, or_false] at hu
        rcases hu with rfl | rfl | rfl | rfl | rfl | rfl <;> rfl
      case qc5 => unfold maxLen; omega
      case qc6 => omega
      case qc7 => simp; omega
      case qc8 => simp
      intro g' cap' w1 hown hgrow hat hlt
      have HO2 := Asd.mk hown
      have HG2 := Asd.mk (show Below w.heap.size w w1 from (balloc HW.out _).grown hgrow (by simp; omega) (by
        intro q hq
        obtain ⟨_, h | ⟨g2, _, _, e2, hb2, _⟩⟩ := HO.out
        · rw [h.1] at hq; cases hq
        · rw [e2] at hq; simp [Value.ownBlock] at hq; omega))
      clear hown hgrow hat
      go_wp2_with fail
      go_roundg (gk - 1)
      case measure => omega
      case rel => exact ⟨k + 1, by simp, ⟨by omega, by omega⟩, ⟨HS.out ▸ HO2.out⟩, HG2⟩
    · obtain rfl : k = 8 := by omega
      obtain ⟨v, hv⟩ : ∃ v, v = u3 := ⟨_, rfl⟩
      have HE : ∃ g' cap', u3 = .slice (some ⟨g', 0, none⟩) 8 cap' ∧ w.heap.size ≤ g' := by
        obtain ⟨_, h | ⟨g2, c2, _, e2, hb2, _⟩⟩ := HO.out
        · exact absurd h.2 (by omega)
        · exact ⟨g2, c2, e2, hb2⟩
      obtain ⟨g', cap', rfl, hg'⟩ := HE
      have HH := Asd.mk hg'
      clear hv hg'
      go_wp2
      go_ret
      exact ⟨⟨g', cap', by simp, HH.out, Own.ofRow HO.out⟩, HW.out⟩
end Go.Proofs.Ytijcniflghjoaaa.Rg
