/- The document's Due. -/
import Derived.Test.YtldgecnmmklldaaQrRef2
namespace Go.Proofs.Ytldgecnmmklldaa.Qr
open Go.RowKit Go.Lib
set_option linter.unusedVariables false
set_option linter.unusedSimpArgs false
/-- append of n (of any number) to an empty slice: a new row. -/
theorem append_all {W : World} {b off n c : Nat} {z : Nat → HV} {s : Nat} (hc : ∀ i j, i < n → j < 3 → W.cell? ⟨b, off + (i * 3 + j), none⟩ = some ((z i).cell j)) (hs : Blk W s 23 #[]) (hn : n ≤ 100000) (ty : TypeId) :
    ∃ A' cap' W', (Builtin.append_ #[37, 37] ty #[.slice (some ⟨s, 0, none⟩) 0 0, .slice (some ⟨b, off, none⟩) n c]).run Try.prog W = .ok (.slice A' n cap') W' ∧ Bag W' s A' n cap' z ∧ Turn (fun i => i = s) W W' ∧ (∀ k, InBlock A' k → k = s ∨ W.heap.size ≤ k) := by
  obtain ⟨i0, hi, hz0, hz1, hz2⟩ := info_parts info23
  have hnews : ∀ j u, (rc z n)[j]? = some u → W.cell? ((⟨b, off, none⟩ : Addr).add j) = some u := fun j u hu => by
    rw [show (⟨b, off, none⟩ : Addr).add j = ⟨b, off + j, none⟩ from by unfold Addr.add; split <;> simp_all]
    obtain ⟨h1, rfl⟩ := rc_idx hu
    have := hc (j / 3) (j % 3) h1 (by omega)
    rwa [show j / 3 * 3 + j % 3 = j by omega] at this
  have own : W.ownsRow s 23 3 (.slice (some ⟨s, 0, none⟩) 0 0) 0 [] := ⟨by simp, .inr ⟨s, 0, #[], rfl, Nat.le_refl _, hs, by omega, by decide, by simp, by simp⟩⟩
  obtain ⟨v', w', hrun, hown, hg, _, hat⟩ := run_append_own_at (P := Try.prog) W s 37 ty 23 i0 _ 3 24 Try.underlying37 hi hz0 hz1 hz2 rfl (by omega) _ 0 [] own ⟨b, off, none⟩ n c (rc z n) (rc_len z n) hnews (rc_one z n) (by unfold maxLen; omega) (by omega) (Nat.le_of_lt hs.lt)
  simp only [List.nil_append, Nat.zero_add] at hown
  obtain ⟨A', cap', rfl, hbag⟩ := Bag.ofRow hown
  refine ⟨A', cap', w', hrun, hbag, ⟨hg.os, hg.tape, hg.output, hg.size, fun i hi hn => hg.block i hi (by simp [Value.ownBlock]; omega)⟩, fun k hk => ?_⟩
  obtain ⟨o', rfl⟩ := hk
  rcases hat with h | h
  · left; simpa [Value.ownBlock] using h
  · right; simp [Value.ownBlock] at h; omega
theorem wpList_bagall {w : World} {ops : Array Oper} {rest : List Oper} {o : Oper} {a : Act} {Q : Exit → Act → World → Prop}
    (hg : o.guard = none) (s x : Operand) (hop : o.op = Op.call { callee := Callee.builtin Builtin.append, args := #[s, x], argTypes := #[37, 37] })
    {b off n c sb : Nat} {z : Nat → HV} (hs : a.eval s = .slice (some ⟨sb, 0, none⟩) 0 0) (hx : a.eval x = .slice (some ⟨b, off, none⟩) n c)
    (hc : ∀ i j, i < n → j < 3 → w.cell? ⟨b, off + (i * 3 + j), none⟩ = some ((z i).cell j)) (hblk : Blk w sb 23 #[]) (hn : n ≤ 100000)
    (h : ∀ A' cap' w', Bag w' sb A' n cap' z → Turn (fun i => i = sb) w w' → (∀ k, InBlock A' k → k = sb ∨ w.heap.size ≤ k) → wpList Try.prog ops Q rest (a.put o.dst (.slice A' n cap')) w') :
    wpList Try.prog ops Q (o :: rest) a w := by
  refine wpList_plain hg fun K hK => ?_
  obtain ⟨A', cap', W', hrun, h1, h2, h3⟩ := append_all hc hblk hn o.type (c := c)
  unfold Oper.wp execOp
  simp only [hop, resolve, invoke, builtin, Sem.run_bind, Sem.run_pure, Result.andThen_ok, List.map_toArray, List.map_cons, List.map_nil, hs, hx, hrun]
  exact hK _ _ (h A' cap' W' h1 h2 h3)
theorem set_alloc (w : World) (p : Addr) (v : Value) (o : Obj) (h : p.block < w.heap.size) : (w.alloc o).setCell p v = (w.setCell p v).alloc o := by
  unfold World.setCell World.alloc
  congr 1
  refine Array.ext_getElem? fun i => ?_
  simp only [Array.getElem?_modify, Array.getElem?_push, Array.size_modify]
  by_cases hi : i = w.heap.size
  · subst hi
    rw [if_pos rfl, if_pos rfl, if_neg (by omega)]
  · rw [if_neg hi, if_neg hi]
/-- Where the document's Due stands when k have come out. -/
def RD (w W : World) (r base : Nat) (f : Int) (A : Option Addr) (z : Nat → HV) (k q : Nat) (A2 : Option Addr) (cap2 : Nat) (A' : Option Addr) (cap' : Nat) : Prop :=
  Blk W r 61 #[.int .i64 f, .slice A' q cap'] ∧ Bag W base A' q cap' (fun i => z (k + i)) ∧ Bag W w.heap.size A2 k cap2 z ∧ (∀ j, InBlock A2 j → ¬ InBlock A' j) ∧ (∀ j, InBlock A' j → InBlock A j ∨ w.heap.size ≤ j) ∧ Turn (fun i => i = r) w W ∧ base ≤ w.heap.size ∧ r < w.heap.size
section
variable {w W w3 w4 : World} {r base k q cap2 cap' cap3 cap4 B o : Nat} {f : Int} {A A2 A3 A4 A' : Option Addr} {z : Nat → HV} {x : HV} {o1 o2 : Obj}
theorem rd_mid1 (h : RD w W r base f A z k q A2 cap2 A' cap') (ht3 : Turn (InBlock A2) (W.alloc o1) w3) : Blk w3 r 61 #[.int .i64 f, .slice A' q cap'] ∧ Bag w3 base A' q cap' (fun i => z (k + i)) := by
  obtain ⟨k1, k2, k3, k4, k5, k6, k7, k8⟩ := h
  exact ⟨(k1.alloc _).keep (ht3.block r (k1.alloc o1).lt (fun hj => by have := (k3.lt hj).2; omega)), (k2.alloc _).keep (fun j hj hl => ht3.block j hl (fun h2 => k4 j h2 hj))⟩
theorem rd_mid2 (hm : Blk w3 r 61 #[.int .i64 f, .slice A' q cap']) (ht4 : Turn (fun i => i = w3.heap.size) (w3.alloc o2) w4) : Blk w4 r 61 #[.int .i64 f, .slice A' q cap'] :=
  (hm.alloc _).keep (ht4.block r (hm.alloc o2).lt (fun e => by have := hm.lt; omega))
theorem restC (h : Bag W base (some ⟨B, o, none⟩) q cap' (fun i => z (k + i))) (hq : 0 < q) : ∀ i j, i < q - 1 → j < 3 → (W.alloc o1).cell? ⟨B, o + 3 + (i * 3 + j), none⟩ = some ((z (k + 1 + i)).cell j) := fun i j hi hj => by
  obtain ⟨B', o', e, hc⟩ := h.row.far hq
  simp only [Option.some.injEq, Addr.mk.injEq, and_true] at e
  obtain ⟨rfl, rfl⟩ := e
  have := hc (i + 1) j (by omega) hj
  rw [show o + 3 + (i * 3 + j) = o + ((i + 1) * 3 + j) by omega, show k + 1 + i = k + (i + 1) by omega]
  exact Lib.cell?_alloc_some _ this
theorem rd_step (h : RD w W r base f A z k q A2 cap2 A' cap') (hq : 0 < q) (hx : z k = x) (hb3 : Bag w3 w.heap.size A3 (k + 1) cap3 (upd z k x)) (ht3 : Turn (InBlock A2) (W.alloc o1) w3)
    (hb4 : Bag w4 w3.heap.size A4 (q - 1) cap4 (fun i => z (k + 1 + i))) (ht4 : Turn (fun i => i = w3.heap.size) (w3.alloc o2) w4) : RD w (w4.setCell ⟨r, 1, none⟩ (.slice A4 (q - 1) cap4)) r base f A z (k + 1) (q - 1) A3 cap3 A4 cap4 := by
  have m1 := (rd_mid1 h ht3).1
  have m2 := rd_mid2 m1 ht4
  obtain ⟨k1, k2, k3, k4, k5, k6, k7, k8⟩ := h
  have s1 : W.heap.size ≤ w3.heap.size := Nat.le_trans (by simp) ht3.size
  have s0 := k6.size
  refine ⟨m2.set_ 1 _, (hb4.lower (by omega)).far (fun hj => by have := (hb4.lt hj).2; dsimp only at this; omega) _, (((hb3.alloc o2).keep (fun j hj hl => ht4.block j hl (fun e => by have := (hb3.lt hj).1; omega))).mono (Nat.le_refl _) (fun i hi => ?_)).far (fun hj => by have := (hb3.lt hj).2; dsimp only at this; omega) _, fun j h3 h4 => by have := (hb3.lt h3).1; have := (hb4.lt h4).2; omega, fun j h4 => .inr (by have := (hb4.lt h4).2; omega), ?_, k7, k8⟩
  · unfold upd
    split
    · rename_i e; rw [e, hx]
    · rfl
  · refine turn_set1 ?_
    refine ⟨ht4.os.trans (ht3.os.trans k6.os), ht4.tape.trans (ht3.tape.trans k6.tape), ht4.output.trans (ht3.output.trans k6.output), ?_, fun i hi hn => ?_⟩
    · exact Nat.le_trans s0 (Nat.le_trans s1 (Nat.le_trans (by simp) ht4.size))
    · have i1 : i < W.heap.size := Nat.lt_of_lt_of_le hi s0
      have i3 : i < w3.heap.size := Nat.lt_of_lt_of_le i1 s1
      refine (ht4.block i (Nat.lt_of_lt_of_le i3 (by simp)) (fun e => by omega)).trans ((Below.heap_alloc w3 _ i i3).trans ?_)
      refine (ht3.block i (Nat.lt_of_lt_of_le i1 (by simp)) (fun hj => by have := (k3.lt hj).2; omega)).trans ((Below.heap_alloc W _ i i1).trans (k6.block i hi hn))
end
def RDuePost (r base : Nat) (f : Int) (A : Option Addr) (n : Nat) (z : Nat → HV) (now : Int) (w : World) (e : Ending) (w' : World) : Prop :=
  ∃ k, DueAt z n now k ∧ ∃ A2 cap2, e = .returned (.slice A2 k cap2) ∧ Bag w' w.heap.size A2 k cap2 z ∧ ∃ A' cap', RS w' r base f A' (n - k) cap' (fun i => z (k + i)) ∧ Turn (fun i => i = r) w w' ∧ ∀ j, InBlock A' j → InBlock A j ∨ w.heap.size ≤ j
set_option maxRecDepth 100000 in
set_option maxHeartbeats 1000000 in
theorem rdue_calls (r base : Nat) (f : Int) (A : Option Addr) (n cap : Nat) (z : Nat → HV) (now : Int) (w : World) (h : RS w r base f A n cap z) (hbase : base ≤ w.heap.size) (hn : n ≤ 1000) (hz : ∀ i, i < n → (z i).ok) : Calls Try.prog 21 #[.pointer (some ⟨r, 0, none⟩), .int .i64 now] w (RDuePost r base f A n z now w) := by
  have H0 : Asd (RD w w r base f A z 0 n none 0 A cap) := ⟨h.1, by simpa using h.2, Bag.nil _ _ _, fun j hj => by (obtain ⟨_, h⟩ := hj; cases h), fun j hj => .inl hj, Turn.refl _ _, hbase, h.1.lt⟩
  have HOK := Asd.mk hz
  clear h hz hbase
  go_enter Try.func21, Try.ntmps21
  go_wp2
  go_loopg [5] (n + 1) (fun kq v5 w' => ∃ (k q cap2 cap' : Nat) (A2 A' : Option Addr), v5 = .slice A2 k cap2 ∧ Asd (k + q = n ∧ kq + k = n + 1 ∧ ∀ i, i < k → whenN (z i).t ≤ now) ∧ Asd (RD w w' r base f A z k q A2 cap2 A' cap'))
  case atStart => exact ⟨0, n, 0, cap, none, A, rfl, ⟨by omega, by omega, fun i hi => absurd hi (by omega)⟩, H0⟩
  case round =>
    obtain ⟨k, q, cap2, cap', A2, A', rfl, HI, HR⟩ := hrel
    clear H0
    have c1 : wr.cell? ⟨r, 1, none⟩ = some (.slice A' q cap') := HR.out.1.cell 1
    have f1 := HR.out.1.frozen 1
    have i0 : k + q ≤ n := Nat.le_of_eq HI.out.1
    have i0' : n ≤ k + q := Nat.le_of_eq HI.out.1.symm
    have i1 := HI.out.2.1
    rcases Nat.eq_zero_or_pos q with hq | hq
    · have d0 : decide ((0 : Int) < (q : Int)) = false := decide_eq_false (by omega)
      have d1 : decide (0 < q) = false := decide_eq_false (by omega)
      have HQ := Asd.mk hq
      clear hq
      go_wp2
      go_ret
      obtain ⟨k1, k2, k3, k4, k5, k6, k7, k8⟩ := HR.out
      have hq := HQ.out
      obtain rfl : k = n := by omega
      refine ⟨k, ⟨Nat.le_refl _, HI.out.2.2, fun h => absurd h (Nat.lt_irrefl _)⟩, A2, cap2, by simp, k3, A', cap', ⟨?_, ?_⟩, k6, k5⟩
      · rw [show k - k = q by omega]; exact k1
      · rw [show k - k = q by omega]; exact k2
    · have d0 : decide ((0 : Int) < (q : Int)) = true := decide_eq_true (by omega)
      have d1 : (0 : Int) < (q : Int) := by omega
      obtain ⟨B, o, rfl, hbB, hlB, e0, e1, e2⟩ := HR.out.2.1.at_ hq
      simp only [Nat.zero_mul, Nat.add_zero] at e0 e1 e2
      have HW := Asd.mk (fun W => rwhen_calls (z k).t W (HOK.out k (by omega)).2.2.1 (HOK.out k (by omega)).2.2.2)
      by_cases hw : whenN (z k).t ≤ now
      · have HWN := Asd.mk hw
        have d2 : decide (whenN (z k).t ≤ now) = true := decide_eq_true hw
        clear hw
        obtain ⟨x, hx⟩ : ∃ x, z k = x := ⟨_, rfl⟩
        have HX := Asd.mk hx
        rw [hx] at e0 e1 e2 HW d2
        clear hx
        obtain ⟨x0, x1, x2⟩ := x
        dsimp only at e0 e1 e2 HW d2
        go_wp2_with fail
        (go_at_call 44; ((with_reducible refine (HW.out _).mono ?_); rintro e_ w_ ⟨rfl, rfl⟩))
        have hws : w.heap.size ≤ w_.heap.size := HR.out.2.2.2.2.2.1.size
        by_cases hc1 : cap' = 1
        · subst hc1
          obtain rfl : q = 1 := by have := HR.out.2.1.1; omega
          go_wp2_with (at_builtin; refine wpList_bag (sb := w_.heap.size) rfl (.tmp 24) (.tmp 31) rfl rfl rfl (HR.out.2.2.1.alloc _) (Blk.new _ _ _) (by simp; omega) (by omega) ?_; intro A3 cap3 w3 hb3 ht3 hin3; have HM := Asd.mk (rd_mid1 HR.out ht3); have H3 := Asd.mk (And.intro hb3 ht3); have g1 : w3.cell? ⟨r, 1, none⟩ = some (.slice (some ⟨B, o, none⟩) 1 1) := HM.out.1.cell 1; have g2 := HM.out.1.frozen 1; have gr := HM.out.1.lt; clear hb3 ht3 hin3 c1 f1 e0 e1 e2)
          have HF := Asd.mk (rd_step (o2 := .cells #[] 23) (A4 := some ⟨w3.heap.size, 0, none⟩) (cap4 := 0) HR.out (by omega) HX.out H3.out.1 H3.out.2 ⟨Nat.le_refl _, by decide, .inr ⟨w3.heap.size, 0, #[], rfl, Nat.le_refl _, Blk.new w3 23 #[], by simp, fun i j hi _ => absurd hi (by omega)⟩⟩ (Turn.refl _ _))
          go_roundg (gk - 1)
          case measure => omega
          case rel => exact ⟨k + 1, 0, cap3, 0, A3, some ⟨w3.heap.size, 0, none⟩, rfl, ⟨by omega, by omega, fun i hi => by
            rcases Nat.lt_or_eq_of_le (Nat.le_of_lt_succ hi) with h | h
            · exact HI.out.2.2 i h
            · subst h; exact HWN.out⟩, ⟨(set_alloc w3 ⟨r, 1, none⟩ _ _ gr) ▸ HF.out⟩⟩
        · go_wp2_with (first | (at_builtin; refine wpList_bag (sb := w_.heap.size) rfl (.tmp 24) (.tmp 31) rfl rfl rfl (HR.out.2.2.1.alloc _) (Blk.new _ _ _) (by simp; omega) (by omega) ?_; intro A3 cap3 w3 hb3 ht3 hin3; have HM := Asd.mk (rd_mid1 HR.out ht3); have H3 := Asd.mk (And.intro hb3 ht3); have g1 : w3.cell? ⟨r, 1, none⟩ = some (.slice (some ⟨B, o, none⟩) q cap') := HM.out.1.cell 1; have g2 := HM.out.1.frozen 1; have gr := HM.out.1.lt; clear hb3 ht3 hin3 c1 f1 e0 e1 e2) | (at_builtin; refine wpList_bagall (sb := w3.heap.size) (z := fun i => z (k + 1 + i)) rfl (.tmp 34) (.tmp 39) rfl rfl rfl (restC HM.out.2 hq) (Blk.new _ _ _) (by omega) ?_; intro A4 cap4 w4 hb4 ht4 hin4; have hm2 := rd_mid2 HM.out.1 ht4; have g4 := hm2.frozen 1; have g3 : w4.cell? ⟨r, 1, none⟩ = some (.slice (some ⟨B, o, none⟩) q cap') := hm2.cell 1; have HF := Asd.mk (rd_step HR.out hq HX.out H3.out.1 H3.out.2 hb4 ht4); clear hb4 ht4 hin4 hm2 g1 g2 gr))
          go_roundg (gk - 1)
          case measure => omega
          case rel => exact ⟨k + 1, q - 1, cap3, cap4, A3, A4, rfl, ⟨by omega, by omega, fun i hi => by
            rcases Nat.lt_or_eq_of_le (Nat.le_of_lt_succ hi) with h | h
            · exact HI.out.2.2 i h
            · subst h; exact HWN.out⟩, HF⟩
      · have HWN := Asd.mk hw
        have d2 : decide (whenN (z k).t ≤ now) = false := decide_eq_false hw
        clear hw
        go_wp2_with fail
        (go_at_call 44; ((with_reducible refine (HW.out _).mono ?_); rintro e_ w_ ⟨rfl, rfl⟩))
        go_wp2_with fail
        go_ret
        obtain ⟨k1, k2, k3, k4, k5, k6, k7, k8⟩ := HR.out
        refine ⟨k, ⟨by omega, HI.out.2.2, fun _ => by have := HWN.out; omega⟩, A2, cap2, by simp, k3, _, cap', ⟨?_, ?_⟩, k6, k5⟩
        · rw [show n - k = q by omega]; exact k1
        · rw [show n - k = q by omega]; exact k2
end Go.Proofs.Ytldgecnmmklldaa.Qr
