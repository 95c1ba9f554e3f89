/- A call's box; guarded loads of frames; frames that are alike. -/
import Derived.Test.YtijcniflghjoaaaFrOpen
namespace Go.Proofs.Ytijcniflghjoaaa.Fr
open Go.RowKit Go.Proofs.Ytijcniflghjoaaa.Rg
set_option linter.unusedVariables false
set_option linter.unusedSimpArgs false
/-- A call's cells. -/
def ol (v : OpV) : List Value := (List.range 38).map v.cell
def oa (v : OpV) : Array Value := (ol v).toArray
theorem ol_len (v : OpV) : (ol v).length = 38 := by simp [ol]
theorem ol_at (v : OpV) (j : Nat) (h : j < 38) : (ol v)[j]? = some (v.cell j) := by simp [ol, h]
theorem ol_idx {v : OpV} {j : Nat} {u : Value} (h : (ol v)[j]? = some u) : j < 38 ∧ u = v.cell j := by
  have hj : j < 38 := by have := (List.getElem?_eq_some_iff.1 h).1; rwa [ol_len] at this
  rw [ol_at _ _ hj] at h
  exact ⟨hj, (Option.some.inj h).symm⟩
theorem oc_one (v : OpV) (j : Nat) : (v.cell j).oneCell' = true := by
  unfold OpV.cell
  split
  · rfl
  · split
    · exact fl_one _ _
    · split
      · exact cell_one _ _
      · rfl
theorem oa_size (v : OpV) : (oa v).size = 38 := by unfold oa; rw [List.size_toArray, ol_len]
theorem oa_one (v : OpV) : (oa v).all (·.oneCell') = true := all_oneCell_toArray (fun u hu => by
  obtain ⟨j, hj⟩ := List.getElem?_of_mem hu
  rw [(ol_idx hj).2]
  exact oc_one _ _)
theorem oa_at (v : OpV) (i : Nat) (h : i < 38) : (oa v)[i]? = some (v.cell i) := by
  have := ol_at v i h
  unfold oa
  simpa using this
theorem i34 : (Try.prog.info? 34).map (·.size) = some 38 := by kernel_rfl
section
variable {w : World} {ops : Array Oper} {rest : List Oper} {o : Oper} {a : Act} {Q : Exit → Act → World → Prop}
theorem ld34 (hg : o.guard = none) (x : Operand) (ho : o.op = .load 34 x) (b k : Nat) (hx : a.eval x = .pointer (some ⟨b, k, none⟩)) (v : OpV) (hc : ∀ i, i < 38 → w.cell? ⟨b, k + i, none⟩ = some (v.cell i))
    (h : wpList Try.prog ops Q rest (a.put o.dst (.agg (oa v))) w) : wpList Try.prog ops Q (o :: rest) a w :=
  wpList_load_mid hg 34 x ho b k hx (ol v) _ (fun j u hj => by obtain ⟨h1, rfl⟩ := ol_idx hj; exact hc j h1) Try.underlying34 rfl (by rw [ol_len]; exact i34) h
theorem st34 (hg : o.guard = none) (x y : Operand) (ho : o.op = .store 34 x y) (b : Nat) (hx : a.eval x = .pointer (some ⟨b, 0, none⟩)) (v : OpV) (hy : a.eval y = .agg (oa v)) {cs : Array Value} (hB : Blk w b 34 cs) (hs : cs.size = 38)
    (h : ∀ W', Blk W' b 34 (oa v) → Turn (fun i => i = b) w W' → wpList Try.prog ops Q rest (a.put o.dst undef) W') : wpList Try.prog ops Q (o :: rest) a w := by
  refine wpList_store_mid hg 34 x y ho b 0 (oa v) hx hy (hB.there 0 _ (by rw [oa_size, hs]; omega)) (by rw [oa_size]; exact i34) (oa_one v) (h _ ?_ (Turn.setCells (S := fun i => i = b) (.inl rfl) _ _ (Turn.refl _ _)))
  have e : setAll cs 0 (oa v).toList = oa v := by
    refine Array.ext_getElem? fun i => ?_
    rcases Nat.lt_or_ge i 38 with hi | hi
    · have := setAll_in (oa v).toList cs 0 i (by rw [Array.length_toList, oa_size]; exact hi) (by omega)
      rw [Nat.zero_add] at this
      rw [this, Array.getElem?_toList]
    · rw [Array.getElem?_eq_none (by rw [setAll_size]; omega), Array.getElem?_eq_none (by rw [oa_size]; omega)]
  have := Blk.setCells (oa v).toList 0 hB
  rw [e] at this
  exact this
/-- A guarded load of a frame whose guard is on. -/
theorem ldg32b (hw : Region.wanted o (yielded ops a.tmps) = true) (x : Operand) (ho : o.op = .load 32 x) (b : Nat) (hx : a.eval x = .pointer (some ⟨b, 0, none⟩)) (f : Nat → CV) (hB : Blk w b 32 (fa f)) (h : wpList Try.prog ops Q rest (a.put o.dst (.agg (fa f))) w) : wpList Try.prog ops Q (o :: rest) a w :=
  wpList_step fun K hK => by
    rw [if_pos hw]
    exact wp_load_mid 32 x ho b 0 hx (seg f 0 30) _ (fun j v hj => by obtain ⟨h1, rfl⟩ := seg_idx hj; rw [Nat.zero_add, fa_cell hB j h1]) Try.underlying32 rfl (by rw [seg_len]; exact i32) (hK _ _ h)
theorem ldg32 (hw : Region.wanted o (yielded ops a.tmps) = true) (x : Operand) (ho : o.op = .load 32 x) (b k : Nat) (hx : a.eval x = .pointer (some ⟨b, k, none⟩)) (f : Nat → CV) (hc : ∀ i, i < 30 → w.cell? ⟨b, k + i, none⟩ = some (Fl f i)) (h : wpList Try.prog ops Q rest (a.put o.dst (.agg (fa f))) w) : wpList Try.prog ops Q (o :: rest) a w :=
  wpList_step fun K hK => by
    rw [if_pos hw]
    exact wp_load_mid 32 x ho b k hx (seg f 0 30) _ (fun j v hj => by obtain ⟨h1, rfl⟩ := seg_idx hj; rw [Nat.zero_add]; exact hc j h1) Try.underlying32 rfl (by rw [seg_len]; exact i32) (hK _ _ h)
theorem wp_ld32 {K : Act → World → Prop} (x : Operand) (ho : o.op = .load 32 x) (b k : Nat) (hx : a.eval x = .pointer (some ⟨b, k, none⟩)) (f : Nat → CV) (hc : ∀ i, i < 30 → w.cell? ⟨b, k + i, none⟩ = some (Fl f i)) (h : K (a.put o.dst (.agg (fa f))) w) : o.wp Try.prog a w K Q :=
  wp_load_mid 32 x ho b k hx (seg f 0 30) _ (fun j v hj => by obtain ⟨h1, rfl⟩ := seg_idx hj; rw [Nat.zero_add]; exact hc j h1) Try.underlying32 rfl (by rw [seg_len]; exact i32) h
theorem wp_ld32b {K : Act → World → Prop} (x : Operand) (ho : o.op = .load 32 x) (b : Nat) (hx : a.eval x = .pointer (some ⟨b, 0, none⟩)) (f : Nat → CV) (hB : Blk w b 32 (fa f)) (h : K (a.put o.dst (.agg (fa f))) w) : o.wp Try.prog a w K Q :=
  wp_ld32 x ho b 0 hx f (fun i hi => by rw [Nat.zero_add]; exact fa_cell hB i hi) h
end
section
variable {w : World} {b : Nat} {v : OpV}
theorem ob_q (h : Blk w b 34 (oa v)) : w.cell? ⟨b, 0, none⟩ = some (.int .i64 v.q) := (h.cell 0).trans (oa_at v 0 (by omega))
theorem ob_p (h : Blk w b 34 (oa v)) : w.cell? ⟨b, 37, none⟩ = some (.int .i64 v.p) := (h.cell 37).trans (oa_at v 37 (by omega))
theorem ob_f (h : Blk w b 34 (oa v)) : ∀ i, i < 30 → w.cell? ⟨b, 1 + i, none⟩ = some (Fl v.f i) := fun i hi => by
  rw [h.cell, oa_at v _ (by omega)]
  unfold OpV.cell
  rw [if_neg (by omega), if_pos (by omega), show 1 + i - 1 = i by omega]
theorem ob_x (h : Blk w b 34 (oa v)) : w.cell? ⟨b, 31, none⟩ = some (.bool v.x.t) ∧ w.cell? ⟨b, 31 + 1, none⟩ = some (.int .i64 v.x.b) ∧ w.cell? ⟨b, 31 + 2, none⟩ = some (.int .i64 v.x.c) ∧ w.cell? ⟨b, 31 + 3, none⟩ = some (.int .i64 v.x.d) ∧ w.cell? ⟨b, 31 + 4, none⟩ = some (.int .i64 v.x.e) ∧ w.cell? ⟨b, 31 + 5, none⟩ = some (.int .i64 v.x.f) :=
  ⟨(h.cell 31).trans (oa_at v 31 (by omega)), (h.cell 32).trans (oa_at v 32 (by omega)), (h.cell 33).trans (oa_at v 33 (by omega)), (h.cell 34).trans (oa_at v 34 (by omega)), (h.cell 35).trans (oa_at v 35 (by omega)), (h.cell 36).trans (oa_at v 36 (by omega))⟩
end
theorem fa_congr {f f' : Nat → CV} (h : ∀ i, i < 5 → f i = f' i) : fa f = fa f' := by
  refine Array.ext_getElem? fun i => ?_
  rcases Nat.lt_or_ge i 30 with hi | hi
  · rw [fa_at _ _ hi, fa_at _ _ hi]
    unfold Fl
    rw [h _ (by omega)]
  · rw [Array.getElem?_eq_none (by rw [fa_size]; exact hi), Array.getElem?_eq_none (by rw [fa_size]; exact hi)]
end Go.Proofs.Ytijcniflghjoaaa.Fr
