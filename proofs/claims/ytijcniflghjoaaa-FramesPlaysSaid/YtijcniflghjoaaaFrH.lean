/- The program's Put. -/
import Derived.Test.YtijcniflghjoaaaFrG
namespace Go.Proofs.Ytijcniflghjoaaa.Fr
open Go.RowKit Go.Proofs.Ytijcniflghjoaaa.Rg Go.Proofs.YtijcniflghjoaaaW.PrintLast
set_option linter.unusedVariables false
set_option linter.unusedSimpArgs false
theorem put_len (g : Nat) (A A' : Option Addr) (n cap m c : Nat) (w : World) (hB : Blk w g 64 #[.slice A n cap]) (hm : m ≠ n * 5) (hn : n ≤ 1000) : Calls Try.prog 17 #[.pointer (some ⟨g, 0, none⟩), .slice A' m c] w fun e w' => e = .returned (.bool false) ∧ Below w.heap.size w w' := by
  have c0 := hB.cell 0
  simp at c0
  have e1 : ((m : Int) != 5 * (n : Int)) = true := by simp; omega
  clear hB
  go_enter Try.func17, Try.ntmps17
  go_wp2
  all_goals try (exfalso; omega)
  go_ret
  exact ⟨by simp, Below.refl _ _⟩
theorem put_wrong (g : Nat) (A A' : Option Addr) (n cap c : Nat) (l : Nat → CV) (w : World) (hB : Blk w g 64 #[.slice A n cap]) (hn : n ≤ 1000) (hR : Row w A' (n * 5) l) (hok : ∀ i, i < n * 5 → (l i).ok) (ha : allR l (n * 5) = false) : Calls Try.prog 17 #[.pointer (some ⟨g, 0, none⟩), .slice A' (n * 5) c] w fun e w' => e = .returned (.bool false) ∧ Below w.heap.size w w' := by
  have c0 := hB.cell 0
  simp at c0
  have hlt := hB.lt
  have HC := Asd.mk (right_calls A' (n * 5) c l w hR hok (by unfold maxLen; omega))
  rw [ha] at HC
  generalize hm : n * 5 = m at *
  have e1 : ((m : Int) != 5 * (n : Int)) = false := by simp; omega
  clear hB hok ha hm hR
  go_enter Try.func17, Try.ntmps17
  go_wp2_with fail
  (go_at_call 42; ((with_reducible refine (HC.out).mono ?_); rintro e w1 ⟨rfl, hb1⟩))
  go_wp2_with fail
  go_ret
  exact ⟨by simp, hb1⟩
section
variable {a : Act} {oi : Oper} {w : World}
theorem ld29_run (x : Operand) (ho : oi.op = .load 29 x) (b k : Nat) (hx : a.eval x = .pointer (some ⟨b, k, none⟩)) (f : Nat → CV) (hc : ∀ i, i < 6 → w.cell? ⟨b, k + i, none⟩ = some (Fl f i)) : (execOp a.eval oi).run Try.prog w = .ok (.value (.agg #[.bool (f 0).t, .int .i64 (f 0).b, .int .i64 (f 0).c, .int .i64 (f 0).d, .int .i64 (f 0).e, .int .i64 (f 0).f])) w := by
  have h := run_loadAt_mid (P := Try.prog) w b k 29 [.bool (f 0).t, .int .i64 (f 0).b, .int .i64 (f 0).c, .int .i64 (f 0).d, .int .i64 (f 0).e, .int .i64 (f 0).f] _ (fun j v hj => by
    have h6 : j < 6 := (List.getElem?_eq_some_iff.1 hj).1
    rw [hc j h6, ← hj]
    obtain rfl | rfl | rfl | rfl | rfl | rfl : j = 0 ∨ j = 1 ∨ j = 2 ∨ j = 3 ∨ j = 4 ∨ j = 5 := by omega
    all_goals rfl) Try.underlying29 rfl (by kernel_rfl)
  unfold execOp
  simp only [ho, hx, Sem.run_bind, Sem.run_pure, h, Result.andThen_ok]
theorem ld30_run (x : Operand) (ho : oi.op = .load 30 x) (b k : Nat) (hx : a.eval x = .pointer (some ⟨b, k, none⟩)) (f : Nat → CV) (hc : ∀ i, i < 24 → w.cell? ⟨b, k + i, none⟩ = some (Fl f (6 + i))) : (execOp a.eval oi).run Try.prog w = .ok (.value (.agg (fb f))) w := by
  have h := run_loadAt_mid (P := Try.prog) w b k 30 (seg f 6 24) _ (fun j v hj => by obtain ⟨h1, rfl⟩ := seg_idx hj; exact hc j h1) Try.underlying30 rfl (by rw [seg_len]; kernel_rfl)
  unfold execOp
  simp only [ho, hx, Sem.run_bind, Sem.run_pure, h, Result.andThen_ok]
  rfl
theorem b32_run (x y : Operand) (ho : oi.op = .build 32 #[(0, x), (1, y)]) (f : Nat → CV) (hx : a.eval x = .agg #[.bool (f 0).t, .int .i64 (f 0).b, .int .i64 (f 0).c, .int .i64 (f 0).d, .int .i64 (f 0).e, .int .i64 (f 0).f]) (hy : a.eval y = .agg (fb f)) : (execOp a.eval oi).run Try.prog w = .ok (.value (.agg (fa f))) w := by
  unfold execOp
  simp [ho, hx, hy, b32 f w]
theorem st32_run (x y : Operand) (ho : oi.op = .store 32 x y) (b k : Nat) (hx : a.eval x = .pointer (some ⟨b, k, none⟩)) (f : Nat → CV) (hy : a.eval y = .agg (fa f)) (ht : w.there b k 30) : (execOp a.eval oi).run Try.prog w = .ok .skip (w.setCells b k (fa f).toList) := by
  have h := run_storeAt_mid (P := Try.prog) w b k 32 (fa f) (by rw [fa_size]; exact ht) (by rw [fa_size]; exact i32) (fa_one f)
  unfold execOp
  simp only [ho, hx, hy, Sem.run_bind, Sem.run_pure, h, Result.andThen_ok]
end
theorem arr30 (a : Addr) (c : Nat) (w : World) : (Instr.arrayAt 30 (.slice (some a) 4 c)).run Try.prog w = .ok (.pointer (some a)) w := by
  unfold Instr.arrayAt
  simp [run_underlying Try.underlying30]
theorem Row.frame {w : World} {A : Option Addr} {m : Nat} {l : Nat → CV} (h : Row w A m l) {k : Nat} (hk : k * 5 + 5 ≤ m) : ∃ B o, A = some ⟨B, o, none⟩ ∧ B < w.heap.size ∧ ∀ i, i < 30 → w.cell? ⟨B, o + k * 30 + i, none⟩ = some (Fl (fun j => l (k * 5 + j)) i) := by
  obtain ⟨B, o, rfl, hl, _⟩ := h (k * 5) (by omega)
  refine ⟨B, o, rfl, hl, fun i hi => ?_⟩
  obtain ⟨B', o', e, _, c0, c1, c2, c3, c4, c5⟩ := h (k * 5 + i / 6) (by omega)
  simp only [Option.some.injEq, Addr.mk.injEq, and_true] at e
  obtain ⟨rfl, rfl⟩ := e
  unfold Fl
  have h6 : i % 6 < 6 := by omega
  rw [show o + k * 30 + i = o + (k * 5 + i / 6) * 6 + i % 6 by omega]
  generalize i % 6 = j at h6 ⊢
  obtain rfl | rfl | rfl | rfl | rfl | rfl : j = 0 ∨ j = 1 ∨ j = 2 ∨ j = 3 ∨ j = 4 ∨ j = 5 := by omega
  · exact c0
  · exact c1
  · exact c2
  · exact c3
  · exact c4
  · exact c5
/-- z with the first k frames of l. -/
def upk (z l : Nat → CV) (k : Nat) : Nat → CV := fun i => if i < k * 5 then l i else z i
theorem Bag.there {w : World} {base : Nat} {B o n cap : Nat} {z : Nat → CV} (h : Bag w base 32 30 (some ⟨B, o, none⟩) n cap z) {k : Nat} (hk : k < n) : w.there B (o + k * 30) 30 := by
  obtain ⟨B', o', e, _, hl, hc, hf⟩ := h.some_ (by omega)
  simp only [Option.some.injEq, Addr.mk.injEq, and_true] at e
  obtain ⟨rfl, rfl⟩ := e
  exact fun j hj => ⟨by rw [Nat.add_assoc, hc _ (by omega)]; rfl, hf _⟩
theorem Bag.put {w : World} {base : Nat} {B o n cap : Nat} {z l : Nat → CV} {k : Nat} (h : Bag w base 32 30 (some ⟨B, o, none⟩) n cap (upk z l k)) (hk : k < n) : Bag (w.setCells B (o + k * 30) (fa fun j => l (k * 5 + j)).toList) base 32 30 (some ⟨B, o, none⟩) n cap (upk z l (k + 1)) := by
  obtain ⟨h1, h2, ⟨e, _⟩ | ⟨B', o', cur, e, hb, hh, hs, hc⟩⟩ := h
  · cases e
  · simp only [Option.some.injEq, Addr.mk.injEq, and_true] at e
    obtain ⟨rfl, rfl⟩ := e
    have hb2 := Blk.setCells (fa fun j => l (k * 5 + j)).toList (o + k * 30) (show Blk w B 32 cur from hh)
    have hkc : (k + 1) * 30 ≤ cap * 30 := Nat.mul_le_mul_right _ (by omega)
    refine ⟨h1, h2, .inr ⟨B, o, _, rfl, hb, hb2, by rw [setAll_size]; exact hs, fun i hi => ?_⟩⟩
    have hlen : (fa fun j => l (k * 5 + j)).toList.length = 30 := by rw [Array.length_toList, fa_size]
    by_cases hin : k * 30 ≤ i ∧ i < k * 30 + 30
    · obtain ⟨j, rfl⟩ : ∃ j, i = k * 30 + j := ⟨i - k * 30, by omega⟩
      rw [← Nat.add_assoc, setAll_in _ _ _ _ (by rw [hlen]; omega) (by omega), Array.getElem?_toList, fa_at _ _ (by omega), fl_frame _ _ _ (by omega)]
      unfold Fl upk
      rw [if_pos (by omega)]
    · rw [setAll_out _ _ _ _ (by rw [hlen]; omega), hc i hi]
      unfold Fl upk
      by_cases h5 : i / 6 < k * 5
      · rw [if_pos h5, if_pos (by omega)]
      · rw [if_neg h5, if_neg (by omega)]
theorem setCells_heap {B : Nat} : ∀ (vs : List Value) (w : World) (o k : Nat), k ≠ B → (w.setCells B o vs).heap[k]? = w.heap[k]?
  | [], _, _, _, _ => rfl
  | v :: r, w, o, k, h => by
    rw [World.setCells, setCells_heap r _ _ _ h]
    exact Below.heap_setCell w _ v k h
theorem set_blk {w : World} {g : Nat} {t : TypeId} {cs : Array Value} {B o : Nat} {vs : List Value} (h : Blk w g t cs) (hn : ¬ InBlock (some ⟨B, o, none⟩) g) {k : Nat} : Blk (w.drew.setCells B k vs) g t cs :=
  (setCells_heap vs w.drew k g (fun e => hn ⟨o, by rw [e]⟩)).trans h
theorem set_row {w : World} {A : Option Addr} {m : Nat} {l : Nat → CV} {B : Nat} {vs : List Value} (h : Row w A m l) (hn : ∀ b o, A = some ⟨b, o, none⟩ → b ≠ B) {k : Nat} : Row (w.drew.setCells B k vs) A m l := fun i hi => by
  obtain ⟨b, o, e, hl, c0, c1, c2, c3, c4, c5⟩ := h i hi
  have hh := setCells_heap vs w.drew k b (hn b o e)
  have hc : ∀ j, (w.drew.setCells B k vs).cell? ⟨b, j, none⟩ = w.cell? ⟨b, j, none⟩ := fun j => World.cell?_of_block hh
  have hlt : b < (w.drew.setCells B k vs).heap.size := by
    rcases Nat.lt_or_ge b (w.drew.setCells B k vs).heap.size with h1 | h1
    · exact h1
    · rw [Array.getElem?_eq_none h1] at hh
      have : w.drew.heap[b]? = some (w.heap[b]'hl) := Array.getElem?_eq_getElem hl
      rw [this] at hh; cases hh
  exact ⟨b, o, e, hlt, (hc _).trans c0, (hc _).trans c1, (hc _).trans c2, (hc _).trans c3, (hc _).trans c4, (hc _).trans c5⟩
set_option maxRecDepth 100000 in
set_option maxHeartbeats 2000000 in
theorem put_yes (g base : Nat) (A A' : Option Addr) (n cap c : Nat) (z l : Nat → CV) (w : World) (hB : Blk w g 64 #[.slice A n cap]) (bag : Bag w base 32 30 A n cap z) (hn : n ≤ 1000) (hR : Row w A' (n * 5) l) (hok : ∀ i, i < n * 5 → (l i).ok) (ha : allR l (n * 5) = true) (hc : n * 5 ≤ c) (hdis : ∀ j, InBlock A j → ¬ InBlock A' j) : Calls Try.prog 17 #[.pointer (some ⟨g, 0, none⟩), .slice A' (n * 5) c] w fun e w' => e = .returned (.bool true) ∧ Blk w' g 64 #[.slice A n cap] ∧ Bag w' base 32 30 A n cap l ∧ Turn (InBlock A) w w' := by
  have c0 := hB.cell 0
  simp at c0
  have hlt := hB.lt
  have HC := Asd.mk (right_calls A' (n * 5) c l w hR hok (by unfold maxLen; omega))
  rw [ha] at HC
  have HB := Asd.mk hB
  have HG := Asd.mk bag
  have HR := Asd.mk hR
  have HN : Asd (¬ InBlock A g) := ⟨fun h => absurd rfl (bag.ne hB (by decide) h)⟩
  have HD := Asd.mk hdis
  clear hB bag hR hok ha hdis
  obtain ⟨m, hm⟩ : ∃ m, Asd (n * 5 = m) := ⟨_, ⟨rfl⟩⟩
  rw [hm.out] at HC hc HR ⊢
  have e1 : ((m : Int) != 5 * (n : Int)) = false := by have := hm.out; simp; omega
  have m0 : m ≤ n * 5 := by have := hm.out; omega
  have m1 : n * 5 ≤ m := by have := hm.out; omega
  go_enter Try.func17, Try.ntmps17
  go_wp2_with fail
  (go_at_call 42; ((with_reducible refine (HC.out).mono ?_); rintro e w1 ⟨rfl, hb1⟩; have H1 := Asd.mk (And.intro (HB.out.below hb1 HB.out.lt) (And.intro (HG.out.below hb1) (And.intro (HR.out.below hb1) (Turn.of_below hb1 (InBlock A))))); clear hb1 HC))
  have d0 : w1.cell? ⟨g, 0, none⟩ = some (.slice A n cap) := H1.out.1.cell 0
  go_wp2_with fail
  go_loopg [26] (n + 1) (fun kq v26 w' => ∃ k : Nat, v26 = .int .i64 (k : Int) ∧ Asd (k ≤ n ∧ kq + k = n + 1) ∧ Asd (Blk w' g 64 #[.slice A n cap] ∧ Bag w' base 32 30 A n cap (upk z l k) ∧ Row w' A' m l ∧ Turn (InBlock A) w w'))
  case atStart => exact ⟨0, rfl, ⟨by omega, by omega⟩, ⟨H1.out.1, H1.out.2.1.mono (Nat.le_refl _) (fun i hi => by unfold Fl upk; rw [if_neg (by omega)]), H1.out.2.2.1, H1.out.2.2.2⟩⟩
  case round =>
    obtain ⟨k, rfl, HI, hC⟩ := hrel
    have i0 := HI.out.1
    clear H1 d0
    have gm : gk - 1 < gk := by have := HI.out.2; omega
    by_cases hk : k < n
    · have k0 : (0 : Int) ≤ (k : Int) := by omega
      have k1 : (k : Int) < (n : Int) := by omega
      have k2 : (k : Int) ≤ 1000 := by omega
      have k3 : ((k : Int) + 1) * 5 ≤ (m : Int) := by omega
      have k4 : ((k : Int) + 1) * 5 ≤ (c : Int) := by omega
      obtain ⟨B', o', rfl, hBl', hcf⟩ := Row.frame hC.out.2.2.1 (k := k) (by omega)
      obtain ⟨B, o, rfl, hbB, hBl, -, -⟩ := hC.out.2.1.some_ (by omega)
      have hne : B' ≠ B := fun e => HD.out B ⟨o, rfl⟩ (e ▸ ⟨o', rfl⟩)
      have HF := Asd.mk hcf
      clear hcf
      have cg : wr.cell? ⟨g, 0, none⟩ = some (.slice (some ⟨B, o, none⟩) n cap) := hC.out.1.cell 0
      obtain ⟨f, hf⟩ : ∃ f : Nat → CV, Asd ((fun j => l (k * 5 + j)) = f) := ⟨_, ⟨rfl⟩⟩
      have hr : ∀ i, i < 30 → wr.cell? ⟨B', o' + k * 5 * 6 + i, none⟩ = some (Fl f i) := fun i hi => by rw [← hf.out, show o' + k * 5 * 6 = o' + k * 30 by omega]; exact HF.out i hi
      have HRg := Asd.mk hr
      clear HF hr
      have q5 : (k + 1) * 5 - k * 5 = 5 := by omega
      have q6 : 5 ≤ c - k * 5 := by omega
      have q7 : ¬ (c - k * 5 = 1) := by omega
      have q8 : ¬ (c = k * 5) := by omega
      have hsa : ∀ w, (Instr.arrayAt 30 (.slice (some ⟨B', o' + k * 5 * 6 + 6, none⟩) 4 (c - k * 5 - 1))).run Try.prog w = .ok (.pointer (some ⟨B', o' + k * 5 * 6 + 6, none⟩)) w := fun w => arr30 _ _ _
      go_wp2_with fail
      refine start_ (n := 15) (S := fun w' => w'.cell? ⟨g, 0, none⟩ = some (.slice (some ⟨B, o, none⟩) n cap) ∧ (∀ i, i < 30 → w'.cell? ⟨B', o' + k * 5 * 6 + i, none⟩ = some (Fl f i))) (ds := [14]) #[false, false, false, false, false, false, false, false, false, false, false, false, false, false, false] (by kernel_rfl) rfl rfl ⟨cg, HRg.out⟩ (fun hHeld => ?_)
      refine pure_ (i := 0) (N := some 36) (v := ?_) (a' := ?_) #[true, false, false, false, false, false, false, false, false, false, false, false, false, false, false] rfl rfl (by kernel_rfl) (fun _ _ _ h => h) (Or.inl ⟨by rfl, ?_⟩) ?_ ?_
      rotate_left
      · intro w'
        go_simp
        with_reducible rfl
      rotate_left
      · simp only [Act.put, List.setIfInBounds_toArray, List.set_cons_zero, List.set_cons_succ, i64_w, i32_w]
        rfl
      refine pure_ (i := 1) (N := some 37) (v := ?_) (a' := ?_) #[true, true, false, false, false, false, false, false, false, false, false, false, false, false, false] rfl rfl (by kernel_rfl) (fun _ _ _ h => h) (Or.inl ⟨by rfl, ?_⟩) ?_ ?_
      rotate_left
      · intro w'
        go_simp
        with_reducible rfl
      rotate_left
      · simp only [Act.put, List.setIfInBounds_toArray, List.set_cons_zero, List.set_cons_succ, i64_w, i32_w]
        rfl
      refine pure_ (i := 2) (N := some 38) (v := ?_) (a' := ?_) #[true, true, true, false, false, false, false, false, false, false, false, false, false, false, false] rfl rfl (by kernel_rfl) (fun _ _ _ h => h) (Or.inl ⟨by rfl, ?_⟩) ?_ ?_
      rotate_left
      · intro w'
        go_simp
        with_reducible rfl
      rotate_left
      · simp only [Act.put, List.setIfInBounds_toArray, List.set_cons_zero, List.set_cons_succ, i64_w, i32_w]
        rfl
      refine pure_ (i := 4) (N := some 40) (v := ?_) (a' := ?_) #[true, true, true, false, true, false, false, false, false, false, false, false, false, false, false] rfl rfl (by kernel_rfl) (fun _ _ _ h => h) (Or.inl ⟨by rfl, ?_⟩) ?_ ?_
      rotate_left
      · intro w'
        go_simp
        with_reducible rfl
      rotate_left
      · simp only [Act.put, List.setIfInBounds_toArray, List.set_cons_zero, List.set_cons_succ, i64_w, i32_w]
        rfl
      refine pure_ (i := 5) (N := some 41) (v := ?_) (a' := ?_) #[true, true, true, false, true, true, false, false, false, false, false, false, false, false, false] rfl rfl (by kernel_rfl) (fun _ _ _ h => h) (Or.inl ⟨by rfl, ?_⟩) ?_ ?_
      rotate_left
      · intro w'
        go_simp
        with_reducible rfl
      rotate_left
      · simp only [Act.put, List.setIfInBounds_toArray, List.set_cons_zero, List.set_cons_succ, i64_w, i32_w]
        rfl
      refine pure_ (i := 6) (N := some 42) (v := ?_) (a' := ?_) #[true, true, true, false, true, true, true, false, false, false, false, false, false, false, false] rfl rfl (by kernel_rfl) (fun _ _ _ h => h) (Or.inl ⟨by rfl, ?_⟩) ?_ ?_
      rotate_left
      · intro w'
        go_simp
        with_reducible rfl
      rotate_left
      · simp only [Act.put, List.setIfInBounds_toArray, List.set_cons_zero, List.set_cons_succ, i64_w, i32_w]
        rfl
      refine pure_ (i := 8) (N := some 44) (v := ?_) (a' := ?_) #[true, true, true, false, true, true, true, false, true, false, false, false, false, false, false] rfl rfl (by kernel_rfl) (fun _ _ _ h => h) (Or.inl ⟨by rfl, ?_⟩) ?_ ?_
      rotate_left
      · intro w'
        go_simp
        with_reducible rfl
      rotate_left
      · simp only [Act.put, List.setIfInBounds_toArray, List.set_cons_zero, List.set_cons_succ, i64_w, i32_w]
        rfl
      refine pure_ (i := 9) (N := some 45) (v := ?_) (a' := ?_) #[true, true, true, false, true, true, true, false, true, true, false, false, false, false, false] rfl rfl (by kernel_rfl) (fun _ _ _ h => h) (Or.inl ⟨by rfl, ?_⟩) ?_ ?_
      rotate_left
      · intro w'
        go_simp
        with_reducible rfl
      rotate_left
      · simp only [Act.put, List.setIfInBounds_toArray, List.set_cons_zero, List.set_cons_succ, i64_w, i32_w]
        rfl
      refine pure_ (i := 10) (N := some 46) (v := ?_) (a' := ?_) #[true, true, true, false, true, true, true, false, true, true, true, false, false, false, false] rfl rfl (by kernel_rfl) (fun _ _ _ h => h) (Or.inl ⟨by rfl, ?_⟩) ?_ ?_
      rotate_left
      · intro w'
        go_simp
        with_reducible rfl
      rotate_left
      · simp only [Act.put, List.setIfInBounds_toArray, List.set_cons_zero, List.set_cons_succ, i64_w, i32_w]
        rfl
      refine take_ (i := 3) (N := some 39) (v := ?_) (a' := ?_) #[true, true, true, true, true, true, true, false, true, true, true, false, false, false, false] rfl rfl (by kernel_rfl) (fun _ _ _ h => h) (Or.inl ⟨by rfl, ?_⟩) hHeld ?_ ?_
      rotate_left
      · rintro w' ⟨s0, s1⟩
        go_simp
        with_reducible rfl
      rotate_left
      · simp only [Act.put, List.setIfInBounds_toArray, List.set_cons_zero, List.set_cons_succ, i64_w, i32_w]
        rfl
      refine take_ (i := 7) (N := some 43) (v := ?_) (a' := ?_) #[true, true, true, true, true, true, true, true, true, true, true, false, false, false, false] rfl rfl (by kernel_rfl) (fun _ _ _ h => h) (Or.inl ⟨by rfl, ?_⟩) hHeld ?_ ?_
      rotate_left
      · rintro w' ⟨s0, s1⟩
        refine ld29_run (.tmp 42) ?_ B' (o' + k * 5 * 6) ?_ f (fun i hi => s1 i (by omega)) <;> rfl
      rotate_left
      · simp only [Act.put, List.setIfInBounds_toArray, List.set_cons_zero, List.set_cons_succ, i64_w, i32_w]
        rfl
      refine take_ (i := 11) (N := some 47) (v := ?_) (a' := ?_) #[true, true, true, true, true, true, true, true, true, true, true, true, false, false, false] rfl rfl (by kernel_rfl) (fun _ _ _ h => h) (Or.inl ⟨by rfl, ?_⟩) hHeld ?_ ?_
      rotate_left
      · rintro w' ⟨s0, s1⟩
        refine ld30_run (.tmp 46) ?_ B' (o' + k * 5 * 6 + 6) ?_ f (fun i hi => by rw [Nat.add_assoc]; exact s1 (6 + i) (by omega)) <;> rfl
      rotate_left
      · simp only [Act.put, List.setIfInBounds_toArray, List.set_cons_zero, List.set_cons_succ, i64_w, i32_w]
        rfl
      refine pure_ (i := 12) (N := some 48) (v := ?_) (a' := ?_) #[true, true, true, true, true, true, true, true, true, true, true, true, true, false, false] rfl rfl (by kernel_rfl) (fun _ _ _ h => h) (Or.inl ⟨by rfl, ?_⟩) ?_ ?_
      rotate_left
      · intro w'
        refine b32_run (.tmp 43) (.tmp 47) ?_ f ?_ ?_ <;> rfl
      rotate_left
      · simp only [Act.put, List.setIfInBounds_toArray, List.set_cons_zero, List.set_cons_succ, i64_w, i32_w]
        rfl
      refine pure_ (i := 13) (N := some 49) (v := ?_) (a' := ?_) #[true, true, true, true, true, true, true, true, true, true, true, true, true, true, false] rfl rfl (by kernel_rfl) (fun _ _ _ h => h) (Or.inl ⟨by rfl, ?_⟩) ?_ ?_
      rotate_left
      · intro w'
        go_simp
        with_reducible rfl
      rotate_left
      · simp only [Act.put, List.setIfInBounds_toArray, List.set_cons_zero, List.set_cons_succ, i64_w, i32_w]
        rfl
      refine last_ (i := 14) (N := none) #[true, true, true, true, true, true, true, true, true, true, true, true, true, true, true] rfl rfl (by kernel_rfl) (by decide) (fun K hK => ?_)
      refine skip_ (by rfl) rfl (st32_run (.tmp 49) (.tmp 48) (by rfl) B (o + k * 30) (by rfl) f (by rfl) (hC.out.2.1.there hk)) ?_
      refine hK.out _ _ ?_
      clear hK K
      refine done_ (by kernel_rfl) ?_
      go_wp2_with fail
      go_roundg (gk - 1)
      case measure => exact gm
      case rel => exact ⟨k + 1, by simp, ⟨by omega, by have := HI.out.2; omega⟩, ⟨set_blk hC.out.1 HN.out, hf.out ▸ hC.out.2.1.put hk, set_row hC.out.2.2.1 (fun b o e => by injection e with e; injection e with e; exact e ▸ hne), hC.out.2.2.2.drew.setCells (.inl ⟨o, rfl⟩) _ _⟩⟩
    · obtain rfl : k = n := by omega
      have k1 : ¬ (k : Int) < (k : Int) := by omega
      go_wp2_with fail
      go_ret
      exact ⟨by simp, hC.out.1, hC.out.2.1.mono (Nat.le_refl _) (fun i hi => by unfold Fl upk; rw [if_pos (by omega)]), hC.out.2.2.2⟩
end Go.Proofs.Ytijcniflghjoaaa.Fr
