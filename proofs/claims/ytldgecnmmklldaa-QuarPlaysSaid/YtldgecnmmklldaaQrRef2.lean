/- The document's answer to layer 13: Full, All, Put. -/
import Derived.Test.YtldgecnmmklldaaQrRef
namespace Go.Proofs.Ytldgecnmmklldaa.Qr
open Go.RowKit Go.Lib Go.Proofs.YtldgecnmmklldaaW.PrintLast
set_option linter.unusedVariables false
set_option linter.unusedSimpArgs false
theorem rfull_calls (r base : Nat) (f : Int) (A : Option Addr) (n cap : Nat) (z : Nat → HV) (w : World) (h : RS w r base f A n cap z) (hn : n ≤ 1000) (b : Int) (hz : ZOK z n b) : Calls Try.prog 26 #[.pointer (some ⟨r, 0, none⟩)] w fun e w' => e = .returned (.bool (decide (f ≤ b))) ∧ Below w.heap.size w w' := by
  have HH := Asd.mk h
  have HZ := Asd.mk hz
  clear h hz
  go_enter Try.func26, Try.ntmps26
  go_wp2_with fail
  refine start_ (n := 8) (S := fun w' => RS w' r base f A n cap z ∧ w'.cell? ⟨r, 0, none⟩ = some (.int .i64 f) ∧ Below w.heap.size w w') (ds := []) #[false, false, false, false, false, false, false, false] (by kernel_rfl) rfl rfl ⟨HH.out, HH.out.1.cell 0, (Below.refl _ _).drew⟩ (fun hHeld => ?_)
  refine pure_ (i := 0) (N := some 3) (v := ?_) (a' := ?_) #[true, false, false, false, false, false, false, false] rfl rfl (by kernel_rfl) (fun _ _ _ h => h) (Or.inl ⟨by rfl, ?_⟩) ?_ ?_
  rotate_left
  · intro w'
    go_simp
    with_reducible rfl
  rotate_left
  · simp only [Act.put, List.setIfInBounds_toArray, List.set_cons_zero, List.set_cons_succ, i64_w, i32_w]
    rfl
  refine pure_ (i := 2) (N := some 5) (v := ?_) (a' := ?_) #[true, false, true, false, false, false, false, false] rfl rfl (by kernel_rfl) (fun _ _ _ h => h) (Or.inl ⟨by rfl, ?_⟩) ?_ ?_
  rotate_left
  · intro w'
    go_simp
    with_reducible rfl
  rotate_left
  · simp only [Act.put, List.setIfInBounds_toArray, List.set_cons_zero, List.set_cons_succ, i64_w, i32_w]
    rfl
  refine pure_ (i := 3) (N := some 6) (v := ?_) (a' := ?_) #[true, false, true, true, false, false, false, false] rfl rfl (by kernel_rfl) (fun _ _ _ h => h) (Or.inl ⟨by rfl, ?_⟩) ?_ ?_
  rotate_left
  · intro w'
    go_simp
    with_reducible rfl
  rotate_left
  · simp only [Act.put, List.setIfInBounds_toArray, List.set_cons_zero, List.set_cons_succ, i64_w, i32_w]
    rfl
  refine pure_ (i := 4) (N := some 7) (v := ?_) (a' := ?_) #[true, false, true, true, true, false, false, false] rfl rfl (by kernel_rfl) (fun _ _ _ h => h) (Or.inl ⟨by rfl, ?_⟩) ?_ ?_
  rotate_left
  · intro w'
    go_simp
    with_reducible rfl
  rotate_left
  · simp only [Act.put, List.setIfInBounds_toArray, List.set_cons_zero, List.set_cons_succ, i64_w, i32_w]
    rfl
  refine take_ (i := 5) (N := some 8) (v := ?_) (a' := ?_) #[true, false, true, true, true, true, false, false] rfl rfl (by kernel_rfl) (fun _ _ _ h => h) (Or.inl ⟨by rfl, ?_⟩) hHeld ?_ ?_
  rotate_left
  · rintro w' ⟨s0, s1, s2⟩
    go_simp
    with_reducible rfl
  rotate_left
  · simp only [Act.put, List.setIfInBounds_toArray, List.set_cons_zero, List.set_cons_succ, i64_w, i32_w]
    rfl
  refine one_ (i := 1) (N := some 4) #[true, true, true, true, true, true, false, false] rfl rfl (by kernel_rfl) (by decide) (fun K hK => ?_)
  refine goes_ Try.func23 (by kernel_rfl) rfl #[.pointer (some ⟨r, 0, none⟩)] (by rfl) rfl rfl (by simp only [List.map_toArray, List.map_cons, List.map_nil]; rfl) ?_
  with_reducible refine (rbytes_calls _ _ _ _ _ _ _ _ hHeld.1 hn b HZ.out).mono ?_
  rintro e_ w5 ⟨rfl, rfl⟩
  refine ⟨_, rfl, ?_⟩
  refine hK.out _ _ ⟨hHeld.1, hHeld.2.1, hHeld.2.2⟩ (fun hHeld => ?_)
  clear hK K
  refine norm_ (a' := ?_) ?_ ?_
  rotate_left
  · show Act.put _ (some 4) _ = _
    simp only [Act.put, List.setIfInBounds_toArray, List.set_cons_zero, List.set_cons_succ, i64_w, i32_w]
    rfl
  refine pure_ (i := 6) (N := some 9) (v := ?_) (a' := ?_) #[true, true, true, true, true, true, true, false] rfl rfl (by kernel_rfl) (fun _ _ _ h => h) (Or.inl ⟨by rfl, ?_⟩) ?_ ?_
  rotate_left
  · intro w'
    go_simp
    with_reducible rfl
  rotate_left
  · simp only [Act.put, List.setIfInBounds_toArray, List.set_cons_zero, List.set_cons_succ, i64_w, i32_w]
    rfl
  refine pure_ (i := 7) (N := some 2) (v := ?_) (a' := ?_) #[true, true, true, true, true, true, true, true] rfl rfl (by kernel_rfl) (fun _ _ _ h => h) (Or.inl ⟨by rfl, ?_⟩) ?_ ?_
  rotate_left
  · intro w'
    go_simp
    with_reducible rfl
  rotate_left
  · simp only [Act.put, List.setIfInBounds_toArray, List.set_cons_zero, List.set_cons_succ, i64_w, i32_w]
    rfl
  refine done_ (by kernel_rfl) ?_
  have HB := Asd.mk hHeld.2.2
  clear hHeld
  go_wp2_with fail
  go_ret
  exact ⟨by simp, HB.out⟩
theorem rall_calls (r base : Nat) (f : Int) (A : Option Addr) (n cap : Nat) (z : Nat → HV) (w : World) (h : RS w r base f A n cap z) (hn : n ≤ 1000) : Calls Try.prog 28 #[.pointer (some ⟨r, 0, none⟩)] w (AllPost n z w) := by
  have c1 : w.cell? ⟨r, 1, none⟩ = some (.slice A n cap) := h.1.cell 1
  have hlt := h.1.lt
  rcases Nat.eq_zero_or_pos n with hz | hz
  · subst hz
    clear h
    go_enter Try.func28, Try.ntmps28
    cases A <;>
    · go_wp2
      go_ret
      exact ⟨⟨_, _, by simp, Nat.le_refl _, by decide, .inr ⟨w.heap.size, 0, #[], rfl, Nat.le_refl _, Blk.new w 23 #[], by simp, fun i j hi _ => absurd hi (by omega)⟩⟩, balloc (Below.refl _ _) _⟩
  · obtain ⟨bb, off, rfl, hc⟩ := h.2.row.far hz
    clear h
    obtain ⟨i0, hi, hz0, hz1, hz2⟩ := info_parts info23
    have hnews : Asd (∀ j u, (rc z n)[j]? = some u → w.cell? ⟨bb, off + j, none⟩ = some u) := ⟨fun j u hu => by
      obtain ⟨h1, rfl⟩ := rc_idx hu
      have := hc (j / 3) (j % 3) h1 (by omega)
      rwa [show j / 3 * 3 + j % 3 = j by omega] at this⟩
    clear hc
    go_enter Try.func28, Try.ntmps28
    go_wp2_with (at_builtin; refine wpList_append_lies _ rfl _ _ 37 rfl w.heap.size 23 i0 _ 3 24 Try.underlying37 hi hz0 hz1 hz2 rfl (by omega) _ 0 [] rfl (World.ownsRow_made w #[] 0 (Nat.le_refl _) (Nat.zero_le _) (by simp)) ⟨bb, off, none⟩ n cap (rc z n) rfl ?qc1 ?qc2 ?qc3 ?qc4 ?qc5 ?qc6 ?qc7 (w.heap.size + 1) ?qc8 ?_)
    case qc1 => exact rc_len z n
    case qc2 =>
      intro j u hj
      rw [Addr.add_lit]
      exact Lib.cell?_alloc_some _ (hnews.out j u hj)
    case qc3 => exact rc_one z n
    case qc4 => exact hz
    case qc5 => rw [Nat.zero_add]; unfold maxLen; omega
    case qc6 => rw [Nat.zero_add]; omega
    case qc7 => simp
    case qc8 => simp
    intro g cap2 w1 hown hgrow hat hlt2
    try simp only [List.nil_append, Nat.zero_add] at hown
    have HO := Asd.mk hown
    have HG := Asd.mk hgrow
    have HA := Asd.mk hat
    clear hown hgrow hat hnews
    go_wp2
    go_ret
    obtain ⟨A', cap', e, hb⟩ := Bag.ofRow HO.out
    injection e with e1 e2 e3
    subst e1 e3
    refine ⟨⟨_, _, by simp, hb⟩, ?_⟩
    exact ((Below.refl _ w).alloc (Nat.le_refl _) _).grown HG.out (by simp) (by intro k hk; simp [Value.ownBlock] at hk; omega)
end Go.Proofs.Ytldgecnmmklldaa.Qr
