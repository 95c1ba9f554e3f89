/- The registers of layer 18: slices.Clone, All, Put; the document's Same. -/
import Derived.Test.YtijcniflghjoaaaRgOwn
import Derived.Test.YtijcniflghjoaaaRgEq
import Derived.Lib.SliceRun
import Derived.Lib.Walk
namespace Go.Proofs.Ytijcniflghjoaaa.Rg
open Go.RowKit Go.Lib
set_option linter.unusedVariables false
set_option linter.unusedSimpArgs false
def AllPost (n : Nat) (l : Nat → CV) (w : World) (e : Ending) (w' : World) : Prop := (∃ h cap, e = .returned (.slice (some ⟨h, 0, none⟩) n cap) ∧ w.heap.size ≤ h ∧ Own w' h cap n l) ∧ Below w.heap.size w w'
theorem clone_calls (b off n c : Nat) (l : Nat → CV) (w : World) (h0 : 0 < n) (hn : n ≤ 100000) (hc : ∀ i j, i < n → j < 6 → w.cell? ⟨b, off + (i * 6 + j), none⟩ = some ((l i).cell j)) :
    Calls Try.prog 50 #[.slice (some ⟨b, off, none⟩) n c] w (AllPost n l w) := by
  obtain ⟨i0, hi, hz0, hz1, hz2⟩ := info_parts info29
  have q37 : ∀ (w : World) (a : Option Addr) (n c n' c' : Nat), (binOp .eql 37 (.slice a n c) (.slice none n' c')).run Try.prog w = .ok (.bool a.isNone) w := fun w a n c n' c' => Lib.run_eql_slice_nil w _ _ a n c n' c' Try.underlying37
  have hnews : Asd (∀ j u, (rc l n)[j]? = some u → w.cell? ⟨b, off + j, none⟩ = some u) := ⟨fun j u hu => by
    obtain ⟨h1, rfl⟩ := rc_idx hu
    have := hc (j / 6) (j % 6) h1 (by omega)
    rwa [show j / 6 * 6 + j % 6 = j by omega] at this⟩
  clear hc
  go_enter Try.func50, Try.ntmps50
  go_wp2_with (at_builtin; refine wpList_append_lies _ rfl _ _ 37 rfl w.heap.size 29 i0 _ 6 48 Try.underlying37 hi hz0 hz1 hz2 rfl (by omega) _ 0 [] rfl (World.ownsRow_made w #[] 0 (Nat.le_refl _) (Nat.zero_le _) (by simp)) ⟨b, off, none⟩ n c (rc l n) rfl ?qc1 ?qc2 ?qc3 ?qc4 ?qc5 ?qc6 ?qc7 (w.heap.size + 1) ?qc8 ?_)
  case qc1 => exact rc_len l n
  case qc2 =>
    intro j u hj
    rw [Addr.add_lit]
    exact Lib.cell?_alloc_some _ (hnews.out j u hj)
  case qc3 => exact rc_one l n
  case qc4 => exact h0
  case qc5 => rw [Nat.zero_add]; unfold maxLen; omega
  case qc6 => rw [Nat.zero_add]; omega
  case qc7 => simp
  case qc8 => simp
  intro g cap w1 hown hgrow hat hlt
  try simp only [List.nil_append, Nat.zero_add] at hown
  have HO := Asd.mk hown
  have HG := Asd.mk hgrow
  have HA := Asd.mk hat
  clear hown hgrow hat q37 hnews
  go_wp2
  go_ret
  refine ⟨⟨g, cap, by simp, ?_, Own.ofRow HO.out⟩, ?_⟩
  · have := HA.out
    simp [Value.ownBlock] at this
    omega
  · exact ((Below.refl _ w).alloc (Nat.le_refl _) _).grown HG.out (by simp) (by intro k hk; simp [Value.ownBlock] at hk; omega)
theorem all_calls (g : Nat) (l : Nat → CV) (w : World) (hb : Blk w g 71 (fc l)) : Calls Try.prog 36 #[.pointer (some ⟨g, 0, none⟩)] w (AllPost 8 l w) := by
  have HC := Asd.mk (fun W (hW : Blk W g 71 (fc l)) c => clone_calls g 0 8 c l W (by omega) (by omega) (fun i j hi hj => by rw [Nat.zero_add, hW.cell]; exact fc_cell l i j hi hj))
  have HB := Asd.mk hb
  clear hb
  go_enter Try.func36, Try.ntmps36
  go_wp2_with (go_at_call 50; (with_reducible refine (HC.out _ HB.out _).mono ?_); rintro e w1 ⟨⟨h, cap, rfl, hh, ho⟩, hb1⟩; have HO := Asd.mk ho; have HH := Asd.mk hh; clear ho hh)
  go_ret
  exact ⟨⟨h, cap, by simp, HH.out, HO.out⟩, hb1⟩
theorem putN (g : Nat) (A : Option Addr) (n c : Nat) (w : World) (h : n ≠ 8) : Calls Try.prog 30 #[.pointer (some ⟨g, 0, none⟩), .slice A n c] w fun e w' => e = .returned (.bool false) ∧ w' = w := by
  have h1 : ((n : Int) != 8) = true := by simp; omega
  go_enter Try.func30, Try.ntmps30
  go_wp2
  all_goals try (exfalso; omega)
  go_ret
  exact ⟨by simp, rfl⟩
theorem putW (g : Nat) (A : Option Addr) (c : Nat) (l : Nat → CV) (w : World) (hR : Row w A 8 l) (hok : ∀ i, i < 8 → (l i).ok) (ha : allR l 8 = false) : Calls Try.prog 30 #[.pointer (some ⟨g, 0, none⟩), .slice A 8 c] w fun e w' => e = .returned (.bool false) ∧ Below w.heap.size w w' := by
  have HC := Asd.mk (cont_calls A 8 c l w hR hok (by unfold maxLen; omega))
  rw [ha] at HC
  clear ha hR hok
  go_enter Try.func30, Try.ntmps30
  go_wp2_with (go_at_call 47; ((with_reducible refine (HC.out).mono ?_); rintro e w1 ⟨rfl, hb1⟩))
  go_ret
  exact ⟨by simp, hb1⟩
theorem Row.range {w : World} {B o n : Nat} {l : Nat → CV} (h : Row w (some ⟨B, o, none⟩) n l) : w.rangeAt B o (rc l n) := fun k u hu => by
  obtain ⟨h1, rfl⟩ := rc_idx hu
  obtain ⟨B', o', e, _, c0, c1, c2, c3, c4, c5⟩ := h _ h1
  simp only [Option.some.injEq, Addr.mk.injEq, and_true] at e
  obtain ⟨rfl, rfl⟩ := e
  rw [show o + k = o + k / 6 * 6 + k % 6 by omega]
  have h6 : k % 6 < 6 := by omega
  generalize k % 6 = j at h6 ⊢
  obtain rfl | rfl | rfl | rfl | rfl | rfl : j = 0 ∨ j = 1 ∨ j = 2 ∨ j = 3 ∨ j = 4 ∨ j = 5 := by omega
  · exact c0
  · exact c1
  · exact c2
  · exact c3
  · exact c4
  · exact c5
theorem fc_all (l l' : Nat → CV) : setAll (fc l) 0 (rc l' 8) = fc l' := by
  refine fc_ext (by rw [setAll_size]; rfl) fun r j hr hj => ?_
  have := setAll_in (rc l' 8) (fc l) 0 (r * 6 + j) (by rw [rc_len]; omega) (by rw [fc_size]; omega)
  rw [Nat.zero_add] at this
  rw [this, rc_at _ _ _ _ hr hj]
theorem putY (g B o c : Nat) (l l' : Nat → CV) (w : World) (hR : Row w (some ⟨B, o, none⟩) 8 l) (hok : ∀ i, i < 8 → (l i).ok) (ha : allR l 8 = true) (hb : Blk w g 71 (fc l')) : Calls Try.prog 30 #[.pointer (some ⟨g, 0, none⟩), .slice (some ⟨B, o, none⟩) 8 c] w fun e w' => e = .returned (.bool true) ∧ Blk w' g 71 (fc l) ∧ w.grownBy w' (some g) := by
  have HC := Asd.mk (cont_calls (some ⟨B, o, none⟩) 8 c l w hR hok (by unfold maxLen; omega))
  rw [ha] at HC
  have HR := Asd.mk hR
  have HB := Asd.mk hb
  clear ha hR hok hb
  have hsa : ∀ w, (Instr.arrayAt 69 (.slice (some ⟨B, o, none⟩) 8 c)).run Try.prog w = .ok (.pointer (some ⟨B, o, none⟩)) w := fun w => by
    unfold Instr.arrayAt
    simp [run_underlying Try.underlying69]
  have hi69 : (Try.prog.info? 69).map (·.size) = some 48 := by kernel_rfl
  go_enter Try.func30, Try.ntmps30
  go_wp2_with (first | (go_at_call 47; ((with_reducible refine (HC.out).mono ?_); rintro e w1 ⟨rfl, hb1⟩)) | (refine wpList_load_mid rfl 69 _ rfl B o rfl (rc l 8) _ ?r1 Try.underlying69 rfl ?r2 ?_) | (refine wpList_store_mid rfl 69 _ _ rfl g 0 (rc l 8).toArray rfl rfl ?r3 ?r4 ?r5 ?_))
  case r1 => exact (HR.out.below hb1).range
  case r2 => rw [rc_len]; exact hi69
  case r3 => exact (HB.out.below hb1 HB.out.lt).there 0 _ (by rw [fc_size, List.size_toArray, rc_len]; omega)
  case r4 => rw [List.size_toArray, rc_len]; exact hi69
  case r5 => exact all_oneCell_toArray (rc_one l 8)
  go_ret
  refine ⟨by simp, ?_, only_setCells _ _ (only_of_below hb1 _)⟩
  have hh := Blk.setCells (rc l 8) 0 (HB.out.below hb1 HB.out.lt)
  rw [fc_all] at hh
  exact hh
/-- What all have behind Put, and its answer. -/
def put8 (n : Nat) (l' l : Nat → CV) : Bool := decide (n = 8) && allR l 8
theorem put_calls (g n c : Nat) (A : Option Addr) (l l' : Nat → CV) (w : World) (hR : Row w A n l) (hok : ∀ i, i < n → (l i).ok) (hb : Blk w g 71 (fc l')) : Calls Try.prog 30 #[.pointer (some ⟨g, 0, none⟩), .slice A n c] w fun e w' => e = .returned (.bool (put8 n l' l)) ∧ Blk w' g 71 (fc (if put8 n l' l = true then l else l')) ∧ w.grownBy w' (some g) := by
  unfold put8
  by_cases h : n = 8
  · subst h
    cases ha : allR l 8
    · simp only [decide_true, Bool.and_false, Bool.false_eq_true, if_false]
      exact (putW g A c l w hR hok ha).mono fun e w' ⟨h1, h2⟩ => ⟨h1, hb.below h2 hb.lt, only_of_below h2 _⟩
    · simp only [decide_true, Bool.and_self, if_true]
      obtain ⟨B, o, rfl, _⟩ := hR 0 (by omega)
      exact putY g B o c l l' w hR hok ha hb
  · simp only [h, decide_false, Bool.false_and, Bool.false_eq_true, if_false]
    refine (putN g A n c w h).mono fun e w' ⟨h1, h2⟩ => ⟨h1, ?_, ?_⟩
    · subst h2; exact hb
    · subst h2; exact only_of_below (Below.refl _ _) _
/-- The document's Same. -/
def sameL (l l' : Nat → CV) : Nat → Bool
  | 0 => true
  | n + 1 => sameL l l' n && decide (l n = l' n)
theorem sameL_lt {l l' : Nat → CV} {n k : Nat} (hk : k < n) (h : l k ≠ l' k) : sameL l l' n = false := by
  induction n with
  | zero => omega
  | succ m ih =>
    rcases Nat.lt_or_eq_of_le (Nat.le_of_lt_succ hk) with h1 | h1
    · simp [sameL, ih h1]
    · subst h1; simp [sameL, h]
def SamePost (p : Bool) (w : World) (e : Ending) (w' : World) : Prop := e = .returned (.bool p) ∧ Below w.heap.size w w'
theorem same_calls (A A' : Option Addr) (n c c' : Nat) (l l' : Nat → CV) (w : World) (hR : Row w A n l) (hR' : Row w A' n l') (hn : n ≤ maxLen) : Calls Try.prog 23 #[.slice A n c, .slice A' n c'] w (SamePost (sameL l l' n) w) := by
  unfold maxLen at hn
  have HR := Asd.mk hR
  have HR' := Asd.mk hR'
  clear hR hR'
  have hu29 := Try.underlying29
  have BL := Asd.mk (Below.refl w.heap.size w)
  go_enter Try.func23, Try.ntmps23
  go_wp2
  all_goals try (exfalso; omega)
  go_loopg [5] (n + 1) (fun kq v5 w' => ∃ k : Nat, v5 = .int .i64 (k : Int) ∧ Asd (k ≤ n ∧ kq + k = n + 1 ∧ sameL l l' k = true) ∧ Asd (Below w.heap.size w w'))
  case atStart => exact ⟨0, rfl, ⟨by omega, by omega, rfl⟩, BL⟩
  case round =>
    obtain ⟨k, rfl, HI, HB⟩ := hrel
    obtain ⟨i0, i1, i2⟩ := HI.out
    by_cases hk : k < n
    · obtain ⟨B, o, rfl, ha⟩ := HR.out k hk
      obtain ⟨B', o', rfl, ha'⟩ := HR'.out k hk
      obtain ⟨hlt, c0, c1, c2, c3, c4, c5⟩ := ha.below ha.1 HB.out
      obtain ⟨hlt', d0, d1, d2, d3, d4, d5⟩ := ha'.below ha'.1 HB.out
      have HS := Asd.mk (show sameL l l' (k + 1) = decide (l k = l' k) by show (sameL l l' k && decide (l k = l' k)) = _; rw [i2, Bool.true_and])
      have HA := Asd.mk (fun h : l k ≠ l' k => sameL_lt hk h)
      clear ha ha' i2
      have hk0 : (0 : Int) ≤ k := by omega
      have hk1 : (k : Int) < n := by omega
      generalize l k = x at *
      generalize l' k = y at *
      obtain ⟨x0, x1, x2, x3, x4, x5⟩ := x
      obtain ⟨y0, y1, y2, y3, y4, y5⟩ := y
      dsimp only at c0 c1 c2 c3 c4 c5 d0 d1 d2 d3 d4 d5
      by_cases hxy : (⟨x0, x1, x2, x3, x4, x5⟩ : CV) = ⟨y0, y1, y2, y3, y4, y5⟩
      · have HS2 := HS.out
        rw [decide_eq_true hxy] at HS2
        have HS3 := Asd.mk HS2
        have hne := fun w => neq29 ⟨x0, x1, x2, x3, x4, x5⟩ ⟨y0, y1, y2, y3, y4, y5⟩ w
        rw [decide_eq_true hxy] at hne
        simp only [CV.val, Bool.not_true] at hne
        clear HS2 hxy HS HA
        go_wp2
        go_quiet (fail)
        go_wp2
        go_roundg (gk - 1)
        case measure => omega
        case rel => exact ⟨k + 1, by simp, ⟨by omega, by omega, HS3.out⟩, ⟨bdrewN HB.out _⟩⟩
      · have HA2 := Asd.mk (HA.out hxy)
        have hne := fun w => neq29 ⟨x0, x1, x2, x3, x4, x5⟩ ⟨y0, y1, y2, y3, y4, y5⟩ w
        rw [decide_eq_false hxy] at hne
        simp only [CV.val, Bool.not_false] at hne
        clear hxy HS HA
        go_wp2
        go_quiet (fail)
        go_wp2
        go_ret
        exact ⟨by simp [HA2.out], bdrewN HB.out _⟩
    · obtain rfl : k = n := by omega
      have HA := Asd.mk i2
      clear i2
      go_wp2
      go_ret
      exact ⟨by simp [HA.out], HB.out⟩
end Go.Proofs.Ytijcniflghjoaaa.Rg
