/- The walk of RegsLast. -/
import Derived.Test.YtijcniflghjoaaaRgOps
import Derived.Test.YtijcniflghjoaaaWLast
import Derived.Deep.LoopGhost
namespace Go.Proofs.Ytijcniflghjoaaa.Rg
open Go.RowKit Go.Proofs.YtijcniflghjoaaaW.PrintLast
set_option linter.unusedVariables false
set_option linter.unusedSimpArgs false
set_option maxRecDepth 100000 in
set_option maxHeartbeats 4000000 in
theorem regsLast_calls (A : Option Addr) (len cap : Nat) (z : Nat → OpV) (a : Int) (w : World) (hz : Ops w A len z) (hcap : len ≤ cap) (hmax : cap ≤ maxLen) (ha : 0 ≤ a ∧ a ≤ 255) : Calls Try.prog 8 #[.slice A len cap, .int .u8 a] w fun e w' => e = .returned (.bool true) ∧ Below w.heap.size w w' := by
  have hu29 := Try.underlying29
  have HZ := Asd.mk hz
  clear hz
  obtain ⟨ha0, ha1⟩ := ha
  by_cases hl : 300 < (len : Int)
  · go_enter Try.func8, Try.ntmps8
    go_wp2_with (first | (go_at_call 27; ((with_reducible refine (head_calls _).mono ?_); rintro e_ w1 ⟨rfl, r1⟩)) | (go_at_call 28; ((with_reducible refine (new_calls _).mono ?_); rintro e_ w2 ⟨rfl, b2, r2⟩; have r3 := bcall r1 r2; clear b2)))
    go_ret
    exact ⟨by simp, r3⟩
  obtain ⟨kk, hkk⟩ : ∃ kk : Nat, a % 8 = kk := ⟨(a % 8).toNat, by omega⟩
  have hk8 : kk < 8 := by omega
  go_enter Try.func8, Try.ntmps8
  go_wp2_with (first | (go_at_call 27; ((with_reducible refine (head_calls _).mono ?_); rintro e_ w1 ⟨rfl, r1⟩)) | (go_at_call 28; ((with_reducible refine (new_calls _).mono ?_); rintro e_ w2 ⟨rfl, b2, r2⟩; have HR := Asd.mk (bcall r1 r2); have HB := Asd.mk b2; have hg := r1.size; have hg2 := b2.lt; clear b2 r2 r1)))
  have HR2 := Asd.mk (balloc HR.out (.cells #[.bool false, .int .i64 0, .int .i64 0, .int .i64 0, .int .i64 0, .int .i64 0] 29))
  have HB2 := Asd.mk (HB.out.alloc (.cells #[.bool false, .int .i64 0, .int .i64 0, .int .i64 0, .int .i64 0, .int .i64 0] 29))
  have HW2 := Asd.mk (show Blk (w2.alloc (.cells #[.bool false, .int .i64 0, .int .i64 0, .int .i64 0, .int .i64 0, .int .i64 0] 29)) w2.heap.size 29 (c6 CV.zero) from Blk.new _ _ _)
  clear HR HB hkk
  generalize w2.alloc (.cells #[.bool false, .int .i64 0, .int .i64 0, .int .i64 0, .int .i64 0, .int .i64 0] 29) = w3 at *
  have hgw : w1.heap.size ≠ w2.heap.size := by omega
  have hwg : w2.heap.size ≠ w1.heap.size := by omega
  have hw0 : w.heap.size ≤ w2.heap.size := by omega
  clear hg2
  generalize w1.heap.size = g at *
  generalize w2.heap.size = bw at *
  go_loopg [9] (len + 1) (fun kq v9 w' => ∃ (k : Nat) (l : Nat → CV), v9 = .int .i64 (k : Int) ∧ Asd (k ≤ len ∧ kq + k = len + 1) ∧ Asd (Blk w' g 71 (fc l)) ∧ Asd (Blk w' bw 29 (c6 (l kk))) ∧ Asd (Below w.heap.size w w'))
  case atStart => exact ⟨0, fun _ => CV.zero, rfl, ⟨by omega, by omega⟩, HB2, HW2, HR2⟩
  case round =>
    obtain ⟨k, l, rfl, HI, HB_g, HB_bw, HR⟩ := hrel
    clear HB2 HW2 HR2
    obtain ⟨i0, i1⟩ := HI.out
    have zg := HB_g.out.lt
    have zb := HB_bw.out.lt
    by_cases hk : k < len
    · obtain ⟨B, o, rfl, ha, hok⟩ := HZ.out k hk
      obtain ⟨-, oa, ob, ox, -⟩ := hok
      obtain ⟨hlt, p0, p1, p2, p3, p4, p5, p6, p7, p8, p9⟩ := ha.below ha.1 HR.out
      clear ha
      have hkI : (k : Int) < (len : Int) := by omega
      generalize z k = x at *
      obtain ⟨q, pa, pb, ⟨x0, x1, x2, x3, x4, x5⟩, LA, Ln, Lc, Ll⟩ := x
      have hxe := ox.2.2.2.1
      clear ox
      dsimp only at p0 p1 p2 p3 p4 p5 p6 p7 p8 p9 oa ob hxe
      obtain ⟨oa0, oa1⟩ := oa
      obtain ⟨ob0, ob1⟩ := ob
      by_cases hq : q = 3
      · subst hq
        by_cases hA : pa ≤ (kk : Int)
        · by_cases hB : (kk : Int) < pb
          · skip
            go_wp2_with fail
            (go_at_call 32; ((with_reducible refine (clear_calls _ l _ _ _ (by repeat (first | with_reducible exact HB_g.out | with_reducible apply Blk.drewN | with_reducible apply Blk.drew | with_reducible apply Blk.alloc | with_reducible refine Blk.far ?_ (by first | assumption | (simp; done) | omega | (simp; omega)) _))).mono ?_); rintro e_ w11 ⟨rfl, b_, r_⟩; have nR_ := Asd.mk (below_only (by repeat (first | with_reducible exact HR.out | with_reducible apply bdrewN | with_reducible apply bdrew | with_reducible apply balloc | with_reducible refine bset ?_ (by first | assumption | (simp; done) | omega | (simp; omega)))) r_ (by assumption)); have nB_g := Asd.mk b_; have nB_bw := Asd.mk (Blk.grown (by repeat (first | with_reducible exact HB_bw.out | with_reducible apply Blk.drewN | with_reducible apply Blk.drew | with_reducible apply Blk.alloc | with_reducible refine Blk.far ?_ (by first | assumption | (simp; done) | omega | (simp; omega)) _)) r_ (by simp; omega)); obtain ⟨hc_, hf_, _, _⟩ := gcell r_; have hz_ := r_.size; (try simp at hz_); have cw11_wr_heap_size_1 : w11.cell? ⟨wr.heap.size, 1, none⟩ = some (.int .i64 pa) := (by rw [hc_ _ _ (by first | assumption | (simp; done) | omega | (simp; omega)) (by first | assumption | (simp; done) | omega | (simp; omega))]; go_simp); have cw11_wr_heap_size_2 : w11.cell? ⟨wr.heap.size, 2, none⟩ = some (.int .i64 pb) := (by rw [hc_ _ _ (by first | assumption | (simp; done) | omega | (simp; omega)) (by first | assumption | (simp; done) | omega | (simp; omega))]; go_simp); clear hc_ hf_; have zw11_g : g < w11.heap.size := (by omega); have zw11_bw : bw < w11.heap.size := (by omega); have zw11_wr_heap_size : wr.heap.size < w11.heap.size := (by omega); clear hz_ HR HB_g HB_bw; have HR := nR_; clear nR_; have HB_g := nB_g; clear nB_g; have HB_bw := nB_bw; clear nB_bw; clear b_ r_))
            obtain ⟨y0, y1, y2, y3, y4, y5⟩ := c6_cells HB_bw.out
            obtain ⟨f0, f1, f2, f3, f4, f5⟩ := c6_free HB_bw.out
            go_wp2_with fail
            have hl2 : clr l pa pb kk = CV.zero := by rw [clr_at, if_pos ⟨hA, hB⟩]
            have HL := Asd.mk hl2
            clear hl2 y0 y1 y2 y3 y4 y5 f0 f1 f2 f3 f4 f5
            have hne := fun W => neq_self ((clr l pa pb) kk) W
            refine start_ (n := 13) (S := fun w' => Blk w' g 71 (fc (clr l pa pb)) ∧ Blk w' bw 29 (c6 ((clr l pa pb) kk)) ∧ Below w.heap.size w w' ∧ w'.cell? ⟨bw, 0, none⟩ = some (.bool ((clr l pa pb) kk).t) ∧ w'.cell? ⟨bw, 1, none⟩ = some (.int .i64 ((clr l pa pb) kk).b) ∧ w'.cell? ⟨bw, 2, none⟩ = some (.int .i64 ((clr l pa pb) kk).c) ∧ w'.cell? ⟨bw, 3, none⟩ = some (.int .i64 ((clr l pa pb) kk).d) ∧ w'.cell? ⟨bw, 4, none⟩ = some (.int .i64 ((clr l pa pb) kk).e) ∧ w'.cell? ⟨bw, 5, none⟩ = some (.int .i64 ((clr l pa pb) kk).f)) (ds := []) #[false, false, false, false, false, false, false, false, false, false, false, false, false] (by kernel_rfl) rfl rfl ⟨(by repeat (first | with_reducible exact HB_g.out | with_reducible apply Blk.drewN | with_reducible apply Blk.drew | with_reducible apply Blk.alloc | with_reducible refine Blk.far ?_ (by first | assumption | (simp; done) | omega | (simp; omega)) _)), (Blk.drew (HL.out.symm ▸ c6_set HB_bw.out CV.zero)), (by repeat (first | with_reducible exact HR.out | with_reducible apply bdrewN | with_reducible apply bdrew | with_reducible apply balloc | with_reducible refine bset ?_ (by first | assumption | (simp; done) | omega | (simp; omega)))), c6_cells (show Blk _ bw 29 (c6 ((clr l pa pb) kk)) from (Blk.drew (HL.out.symm ▸ c6_set HB_bw.out CV.zero)))⟩ (fun hHeld => ?_)
            refine pure_ (i := 0) (N := some 89) (v := ?_) (a' := ?_) #[true, false, false, false, false, false, false, false, false, false, false, false, false] rfl rfl (by kernel_rfl) (fun _ _ _ h => h) (Or.inl ⟨by rfl, ?_⟩) ?_ ?_
            rotate_left
            · intro w'
              go_simp
              with_reducible rfl
            rotate_left
            · simp only [Act.put, List.setIfInBounds_toArray, List.set_cons_zero, List.set_cons_succ, i64_w, i32_w]
              rfl
            refine pure_ (i := 1) (N := some 90) (v := ?_) (a' := ?_) #[true, true, false, false, false, false, false, false, false, false, false, false, false] rfl rfl (by kernel_rfl) (fun _ _ _ h => h) (Or.inl ⟨by rfl, ?_⟩) ?_ ?_
            rotate_left
            · intro w'
              go_simp
              with_reducible rfl
            rotate_left
            · simp only [Act.put, List.setIfInBounds_toArray, List.set_cons_zero, List.set_cons_succ, i64_w, i32_w]
              rfl
            refine take_ (i := 3) (N := some 92) (v := ?_) (a' := ?_) #[true, true, false, true, false, false, false, false, false, false, false, false, false] rfl rfl (by kernel_rfl) (fun _ _ _ h => h) (Or.inl ⟨by rfl, ?_⟩) hHeld ?_ ?_
            rotate_left
            · rintro w' ⟨s0, s1, s2, s3⟩
              go_simp
              with_reducible rfl
            rotate_left
            · simp only [Act.put, List.setIfInBounds_toArray, List.set_cons_zero, List.set_cons_succ, i64_w, i32_w]
              rfl
            refine one_ (i := 2) (N := some 91) #[true, true, true, true, false, false, false, false, false, false, false, false, false] rfl rfl (by kernel_rfl) (by decide) (fun K hK => ?_)
            refine goes_ Try.func38 (by kernel_rfl) rfl #[.pointer (some ⟨g, 0, none⟩), .int .i64 (kk : Int)] (by rfl) rfl rfl (by simp only [List.map_toArray, List.map_cons, List.map_nil]; rfl) ?_
            with_reducible refine (getK g kk (clr l pa pb) _ hk8 hHeld.1).mono ?_
            rintro e_ wh5 ⟨rfl, h5⟩
            refine ⟨_, rfl, ?_⟩
            refine hK.out _ _ ⟨hHeld.1.below h5 hHeld.1.lt, hHeld.2.1.below h5 hHeld.2.1.lt, bcall hHeld.2.2.1 h5, c6_cells (hHeld.2.1.below h5 hHeld.2.1.lt)⟩ (fun hHeld => ?_)
            clear hK K
            refine norm_ (a' := ?_) ?_ ?_
            rotate_left
            · show Act.put _ (some 91) _ = _
              simp only [Act.put, List.setIfInBounds_toArray, List.set_cons_zero, List.set_cons_succ, i64_w, i32_w]
              rfl
            refine pure_ (i := 4) (N := some 93) (v := ?_) (a' := ?_) #[true, true, true, true, true, false, false, false, false, false, false, false, false] rfl rfl (by kernel_rfl) (fun _ _ _ h => h) (Or.inl ⟨by rfl, ?_⟩) ?_ ?_
            rotate_left
            · intro w'
              go_simp
              with_reducible rfl
            rotate_left
            · simp only [Act.put, List.setIfInBounds_toArray, List.set_cons_zero, List.set_cons_succ, i64_w, i32_w]
              rfl
            refine pure_ (i := 5) (N := some 94) (v := ?_) (a' := ?_) #[true, true, true, true, true, true, false, false, false, false, false, false, false] rfl rfl (by kernel_rfl) (fun _ _ _ h => h) (Or.inl ⟨by rfl, ?_⟩) ?_ ?_
            rotate_left
            · intro w'
              go_simp
              with_reducible rfl
            rotate_left
            · simp only [Act.put, List.setIfInBounds_toArray, List.set_cons_zero, List.set_cons_succ, i64_w, i32_w]
              rfl
            refine pure_ (i := 6) (N := some 95) (v := ?_) (a' := ?_) #[true, true, true, true, true, true, true, false, false, false, false, false, false] rfl rfl (by kernel_rfl) (fun _ _ _ h => h) (Or.inl ⟨by rfl, ?_⟩) ?_ ?_
            rotate_left
            · intro w'
              go_simp
              with_reducible rfl
            rotate_left
            · simp only [Act.put, List.setIfInBounds_toArray, List.set_cons_zero, List.set_cons_succ, i64_w, i32_w]
              rfl
            refine pure_ (i := 7) (N := some 96) (v := ?_) (a' := ?_) #[true, true, true, true, true, true, true, true, false, false, false, false, false] rfl rfl (by kernel_rfl) (fun _ _ _ h => h) (Or.inl ⟨by rfl, ?_⟩) ?_ ?_
            rotate_left
            · intro w'
              go_simp
              with_reducible rfl
            rotate_left
            · simp only [Act.put, List.setIfInBounds_toArray, List.set_cons_zero, List.set_cons_succ, i64_w, i32_w]
              rfl
            refine pure_ (i := 9) (N := some 98) (v := ?_) (a' := ?_) #[true, true, true, true, true, true, true, true, false, true, false, false, false] rfl rfl (by kernel_rfl) (fun _ _ _ h => h) (Or.inl ⟨by rfl, ?_⟩) ?_ ?_
            rotate_left
            · intro w'
              go_simp
              with_reducible rfl
            rotate_left
            · simp only [Act.put, List.setIfInBounds_toArray, List.set_cons_zero, List.set_cons_succ, i64_w, i32_w]
              rfl
            refine take_ (i := 10) (N := some 99) (v := ?_) (a' := ?_) #[true, true, true, true, true, true, true, true, false, true, true, false, false] rfl rfl (by kernel_rfl) (fun _ _ _ h => h) (Or.inl ⟨by rfl, ?_⟩) hHeld ?_ ?_
            rotate_left
            · rintro w' ⟨s0, s1, s2, s3⟩
              go_simp
              with_reducible rfl
            rotate_left
            · simp only [Act.put, List.setIfInBounds_toArray, List.set_cons_zero, List.set_cons_succ, i64_w, i32_w]
              rfl
            refine one_ (i := 8) (N := some 97) #[true, true, true, true, true, true, true, true, true, true, true, false, false] rfl rfl (by kernel_rfl) (by decide) (fun K hK => ?_)
            refine goes_ Try.func40 (by kernel_rfl) rfl #[.pointer (some ⟨g, 0, none⟩), .int .i64 (kk : Int)] (by rfl) rfl rfl (by simp only [List.map_toArray, List.map_cons, List.map_nil]; rfl) ?_
            with_reducible refine (valK g kk (clr l pa pb) _ hk8 hHeld.1).mono ?_
            rintro e_ wh6 ⟨rfl, h6⟩
            refine ⟨_, rfl, ?_⟩
            refine hK.out _ _ ⟨hHeld.1.below h6 hHeld.1.lt, hHeld.2.1.below h6 hHeld.2.1.lt, bcall hHeld.2.2.1 h6, c6_cells (hHeld.2.1.below h6 hHeld.2.1.lt)⟩ (fun hHeld => ?_)
            clear hK K
            refine norm_ (a' := ?_) ?_ ?_
            rotate_left
            · show Act.put _ (some 97) _ = _
              simp only [Act.put, List.setIfInBounds_toArray, List.set_cons_zero, List.set_cons_succ, i64_w, i32_w]
              rfl
            refine pure_ (i := 11) (N := some 100) (v := ?_) (a' := ?_) #[true, true, true, true, true, true, true, true, true, true, true, true, false] rfl rfl (by kernel_rfl) (fun _ _ _ h => h) (Or.inl ⟨by rfl, ?_⟩) ?_ ?_
            rotate_left
            · intro w'
              go_simp
              with_reducible rfl
            rotate_left
            · simp only [Act.put, List.setIfInBounds_toArray, List.set_cons_zero, List.set_cons_succ, i64_w, i32_w]
              rfl
            refine pure_ (i := 12) (N := some 101) (v := ?_) (a' := ?_) #[true, true, true, true, true, true, true, true, true, true, true, true, true] rfl rfl (by kernel_rfl) (fun _ _ _ h => h) (Or.inl ⟨by rfl, ?_⟩) ?_ ?_
            rotate_left
            · intro w'
              go_simp
              with_reducible rfl
            rotate_left
            · simp only [Act.put, List.setIfInBounds_toArray, List.set_cons_zero, List.set_cons_succ, i64_w, i32_w]
              rfl
            refine done_ (by kernel_rfl) ?_
            clear hne
            go_wp2_with fail
            go_roundg (gk - 1)
            case measure => omega
            case rel => exact ⟨k + 1, clr l pa pb, by simp, ⟨by omega, by omega⟩, ⟨hHeld.1⟩, ⟨hHeld.2.1⟩, ⟨hHeld.2.2.1⟩⟩
          · skip
            go_wp2_with fail
            (go_at_call 32; ((with_reducible refine (clear_calls _ l _ _ _ (by repeat (first | with_reducible exact HB_g.out | with_reducible apply Blk.drewN | with_reducible apply Blk.drew | with_reducible apply Blk.alloc | with_reducible refine Blk.far ?_ (by first | assumption | (simp; done) | omega | (simp; omega)) _))).mono ?_); rintro e_ w11 ⟨rfl, b_, r_⟩; have nR_ := Asd.mk (below_only (by repeat (first | with_reducible exact HR.out | with_reducible apply bdrewN | with_reducible apply bdrew | with_reducible apply balloc | with_reducible refine bset ?_ (by first | assumption | (simp; done) | omega | (simp; omega)))) r_ (by assumption)); have nB_g := Asd.mk b_; have nB_bw := Asd.mk (Blk.grown (by repeat (first | with_reducible exact HB_bw.out | with_reducible apply Blk.drewN | with_reducible apply Blk.drew | with_reducible apply Blk.alloc | with_reducible refine Blk.far ?_ (by first | assumption | (simp; done) | omega | (simp; omega)) _)) r_ (by simp; omega)); obtain ⟨hc_, hf_, _, _⟩ := gcell r_; have hz_ := r_.size; (try simp at hz_); have cw11_wr_heap_size_1 : w11.cell? ⟨wr.heap.size, 1, none⟩ = some (.int .i64 pa) := (by rw [hc_ _ _ (by first | assumption | (simp; done) | omega | (simp; omega)) (by first | assumption | (simp; done) | omega | (simp; omega))]; go_simp); have cw11_wr_heap_size_2 : w11.cell? ⟨wr.heap.size, 2, none⟩ = some (.int .i64 pb) := (by rw [hc_ _ _ (by first | assumption | (simp; done) | omega | (simp; omega)) (by first | assumption | (simp; done) | omega | (simp; omega))]; go_simp); clear hc_ hf_; have zw11_g : g < w11.heap.size := (by omega); have zw11_bw : bw < w11.heap.size := (by omega); have zw11_wr_heap_size : wr.heap.size < w11.heap.size := (by omega); clear hz_ HR HB_g HB_bw; have HR := nR_; clear nR_; have HB_g := nB_g; clear nB_g; have HB_bw := nB_bw; clear nB_bw; clear b_ r_))
            go_wp2_with fail
            have hl2 : clr l pa pb kk = l kk := by rw [clr_at, if_neg (fun h => absurd h.2 (by omega))]
            have HL := Asd.mk hl2
            clear hl2
            have hne := fun W => neq_self ((clr l pa pb) kk) W
            refine start_ (n := 13) (S := fun w' => Blk w' g 71 (fc (clr l pa pb)) ∧ Blk w' bw 29 (c6 ((clr l pa pb) kk)) ∧ Below w.heap.size w w' ∧ w'.cell? ⟨bw, 0, none⟩ = some (.bool ((clr l pa pb) kk).t) ∧ w'.cell? ⟨bw, 1, none⟩ = some (.int .i64 ((clr l pa pb) kk).b) ∧ w'.cell? ⟨bw, 2, none⟩ = some (.int .i64 ((clr l pa pb) kk).c) ∧ w'.cell? ⟨bw, 3, none⟩ = some (.int .i64 ((clr l pa pb) kk).d) ∧ w'.cell? ⟨bw, 4, none⟩ = some (.int .i64 ((clr l pa pb) kk).e) ∧ w'.cell? ⟨bw, 5, none⟩ = some (.int .i64 ((clr l pa pb) kk).f)) (ds := []) #[false, false, false, false, false, false, false, false, false, false, false, false, false] (by kernel_rfl) rfl rfl ⟨(by repeat (first | with_reducible exact HB_g.out | with_reducible apply Blk.drewN | with_reducible apply Blk.drew | with_reducible apply Blk.alloc | with_reducible refine Blk.far ?_ (by first | assumption | (simp; done) | omega | (simp; omega)) _)), (Blk.drew (HL.out.symm ▸ HB_bw.out)), (by repeat (first | with_reducible exact HR.out | with_reducible apply bdrewN | with_reducible apply bdrew | with_reducible apply balloc | with_reducible refine bset ?_ (by first | assumption | (simp; done) | omega | (simp; omega)))), c6_cells (show Blk _ bw 29 (c6 ((clr l pa pb) kk)) from (Blk.drew (HL.out.symm ▸ HB_bw.out)))⟩ (fun hHeld => ?_)
            refine pure_ (i := 0) (N := some 89) (v := ?_) (a' := ?_) #[true, false, false, false, false, false, false, false, false, false, false, false, false] rfl rfl (by kernel_rfl) (fun _ _ _ h => h) (Or.inl ⟨by rfl, ?_⟩) ?_ ?_
            rotate_left
            · intro w'
              go_simp
              with_reducible rfl
            rotate_left
            · simp only [Act.put, List.setIfInBounds_toArray, List.set_cons_zero, List.set_cons_succ, i64_w, i32_w]
              rfl
            refine pure_ (i := 1) (N := some 90) (v := ?_) (a' := ?_) #[true, true, false, false, false, false, false, false, false, false, false, false, false] rfl rfl (by kernel_rfl) (fun _ _ _ h => h) (Or.inl ⟨by rfl, ?_⟩) ?_ ?_
            rotate_left
            · intro w'
              go_simp
              with_reducible rfl
            rotate_left
            · simp only [Act.put, List.setIfInBounds_toArray, List.set_cons_zero, List.set_cons_succ, i64_w, i32_w]
              rfl
            refine take_ (i := 3) (N := some 92) (v := ?_) (a' := ?_) #[true, true, false, true, false, false, false, false, false, false, false, false, false] rfl rfl (by kernel_rfl) (fun _ _ _ h => h) (Or.inl ⟨by rfl, ?_⟩) hHeld ?_ ?_
            rotate_left
            · rintro w' ⟨s0, s1, s2, s3⟩
              go_simp
              with_reducible rfl
            rotate_left
            · simp only [Act.put, List.setIfInBounds_toArray, List.set_cons_zero, List.set_cons_succ, i64_w, i32_w]
              rfl
            refine one_ (i := 2) (N := some 91) #[true, true, true, true, false, false, false, false, false, false, false, false, false] rfl rfl (by kernel_rfl) (by decide) (fun K hK => ?_)
            refine goes_ Try.func38 (by kernel_rfl) rfl #[.pointer (some ⟨g, 0, none⟩), .int .i64 (kk : Int)] (by rfl) rfl rfl (by simp only [List.map_toArray, List.map_cons, List.map_nil]; rfl) ?_
            with_reducible refine (getK g kk (clr l pa pb) _ hk8 hHeld.1).mono ?_
            rintro e_ wh5 ⟨rfl, h5⟩
            refine ⟨_, rfl, ?_⟩
            refine hK.out _ _ ⟨hHeld.1.below h5 hHeld.1.lt, hHeld.2.1.below h5 hHeld.2.1.lt, bcall hHeld.2.2.1 h5, c6_cells (hHeld.2.1.below h5 hHeld.2.1.lt)⟩ (fun hHeld => ?_)
            clear hK K
            refine norm_ (a' := ?_) ?_ ?_
            rotate_left
            · show Act.put _ (some 91) _ = _
              simp only [Act.put, List.setIfInBounds_toArray, List.set_cons_zero, List.set_cons_succ, i64_w, i32_w]
              rfl
            refine pure_ (i := 4) (N := some 93) (v := ?_) (a' := ?_) #[true, true, true, true, true, false, false, false, false, false, false, false, false] rfl rfl (by kernel_rfl) (fun _ _ _ h => h) (Or.inl ⟨by rfl, ?_⟩) ?_ ?_
            rotate_left
            · intro w'
              go_simp
              with_reducible rfl
            rotate_left
            · simp only [Act.put, List.setIfInBounds_toArray, List.set_cons_zero, List.set_cons_succ, i64_w, i32_w]
              rfl
            refine pure_ (i := 5) (N := some 94) (v := ?_) (a' := ?_) #[true, true, true, true, true, true, false, false, false, false, false, false, false] rfl rfl (by kernel_rfl) (fun _ _ _ h => h) (Or.inl ⟨by rfl, ?_⟩) ?_ ?_
            rotate_left
            · intro w'
              go_simp
              with_reducible rfl
            rotate_left
            · simp only [Act.put, List.setIfInBounds_toArray, List.set_cons_zero, List.set_cons_succ, i64_w, i32_w]
              rfl
            refine pure_ (i := 6) (N := some 95) (v := ?_) (a' := ?_) #[true, true, true, true, true, true, true, false, false, false, false, false, false] rfl rfl (by kernel_rfl) (fun _ _ _ h => h) (Or.inl ⟨by rfl, ?_⟩) ?_ ?_
            rotate_left
            · intro w'
              go_simp
              with_reducible rfl
            rotate_left
            · simp only [Act.put, List.setIfInBounds_toArray, List.set_cons_zero, List.set_cons_succ, i64_w, i32_w]
              rfl
            refine pure_ (i := 7) (N := some 96) (v := ?_) (a' := ?_) #[true, true, true, true, true, true, true, true, false, false, false, false, false] rfl rfl (by kernel_rfl) (fun _ _ _ h => h) (Or.inl ⟨by rfl, ?_⟩) ?_ ?_
            rotate_left
            · intro w'
              go_simp
              with_reducible rfl
            rotate_left
            · simp only [Act.put, List.setIfInBounds_toArray, List.set_cons_zero, List.set_cons_succ, i64_w, i32_w]
              rfl
            refine pure_ (i := 9) (N := some 98) (v := ?_) (a' := ?_) #[true, true, true, true, true, true, true, true, false, true, false, false, false] rfl rfl (by kernel_rfl) (fun _ _ _ h => h) (Or.inl ⟨by rfl, ?_⟩) ?_ ?_
            rotate_left
            · intro w'
              go_simp
              with_reducible rfl
            rotate_left
            · simp only [Act.put, List.setIfInBounds_toArray, List.set_cons_zero, List.set_cons_succ, i64_w, i32_w]
              rfl
            refine take_ (i := 10) (N := some 99) (v := ?_) (a' := ?_) #[true, true, true, true, true, true, true, true, false, true, true, false, false] rfl rfl (by kernel_rfl) (fun _ _ _ h => h) (Or.inl ⟨by rfl, ?_⟩) hHeld ?_ ?_
            rotate_left
            · rintro w' ⟨s0, s1, s2, s3⟩
              go_simp
              with_reducible rfl
            rotate_left
            · simp only [Act.put, List.setIfInBounds_toArray, List.set_cons_zero, List.set_cons_succ, i64_w, i32_w]
              rfl
            refine one_ (i := 8) (N := some 97) #[true, true, true, true, true, true, true, true, true, true, true, false, false] rfl rfl (by kernel_rfl) (by decide) (fun K hK => ?_)
            refine goes_ Try.func40 (by kernel_rfl) rfl #[.pointer (some ⟨g, 0, none⟩), .int .i64 (kk : Int)] (by rfl) rfl rfl (by simp only [List.map_toArray, List.map_cons, List.map_nil]; rfl) ?_
            with_reducible refine (valK g kk (clr l pa pb) _ hk8 hHeld.1).mono ?_
            rintro e_ wh6 ⟨rfl, h6⟩
            refine ⟨_, rfl, ?_⟩
            refine hK.out _ _ ⟨hHeld.1.below h6 hHeld.1.lt, hHeld.2.1.below h6 hHeld.2.1.lt, bcall hHeld.2.2.1 h6, c6_cells (hHeld.2.1.below h6 hHeld.2.1.lt)⟩ (fun hHeld => ?_)
            clear hK K
            refine norm_ (a' := ?_) ?_ ?_
            rotate_left
            · show Act.put _ (some 97) _ = _
              simp only [Act.put, List.setIfInBounds_toArray, List.set_cons_zero, List.set_cons_succ, i64_w, i32_w]
              rfl
            refine pure_ (i := 11) (N := some 100) (v := ?_) (a' := ?_) #[true, true, true, true, true, true, true, true, true, true, true, true, false] rfl rfl (by kernel_rfl) (fun _ _ _ h => h) (Or.inl ⟨by rfl, ?_⟩) ?_ ?_
            rotate_left
            · intro w'
              go_simp
              with_reducible rfl
            rotate_left
            · simp only [Act.put, List.setIfInBounds_toArray, List.set_cons_zero, List.set_cons_succ, i64_w, i32_w]
              rfl
            refine pure_ (i := 12) (N := some 101) (v := ?_) (a' := ?_) #[true, true, true, true, true, true, true, true, true, true, true, true, true] rfl rfl (by kernel_rfl) (fun _ _ _ h => h) (Or.inl ⟨by rfl, ?_⟩) ?_ ?_
            rotate_left
            · intro w'
              go_simp
              with_reducible rfl
            rotate_left
            · simp only [Act.put, List.setIfInBounds_toArray, List.set_cons_zero, List.set_cons_succ, i64_w, i32_w]
              rfl
            refine done_ (by kernel_rfl) ?_
            clear hne
            go_wp2_with fail
            go_roundg (gk - 1)
            case measure => omega
            case rel => exact ⟨k + 1, clr l pa pb, by simp, ⟨by omega, by omega⟩, ⟨hHeld.1⟩, ⟨hHeld.2.1⟩, ⟨hHeld.2.2.1⟩⟩
        · skip
          go_wp2_with fail
          (go_at_call 32; ((with_reducible refine (clear_calls _ l _ _ _ (by repeat (first | with_reducible exact HB_g.out | with_reducible apply Blk.drewN | with_reducible apply Blk.drew | with_reducible apply Blk.alloc | with_reducible refine Blk.far ?_ (by first | assumption | (simp; done) | omega | (simp; omega)) _))).mono ?_); rintro e_ w11 ⟨rfl, b_, r_⟩; have nR_ := Asd.mk (below_only (by repeat (first | with_reducible exact HR.out | with_reducible apply bdrewN | with_reducible apply bdrew | with_reducible apply balloc | with_reducible refine bset ?_ (by first | assumption | (simp; done) | omega | (simp; omega)))) r_ (by assumption)); have nB_g := Asd.mk b_; have nB_bw := Asd.mk (Blk.grown (by repeat (first | with_reducible exact HB_bw.out | with_reducible apply Blk.drewN | with_reducible apply Blk.drew | with_reducible apply Blk.alloc | with_reducible refine Blk.far ?_ (by first | assumption | (simp; done) | omega | (simp; omega)) _)) r_ (by simp; omega)); obtain ⟨hc_, hf_, _, _⟩ := gcell r_; have hz_ := r_.size; (try simp at hz_); have cw11_wr_heap_size_1 : w11.cell? ⟨wr.heap.size, 1, none⟩ = some (.int .i64 pa) := (by rw [hc_ _ _ (by first | assumption | (simp; done) | omega | (simp; omega)) (by first | assumption | (simp; done) | omega | (simp; omega))]; go_simp); have cw11_wr_heap_size_2 : w11.cell? ⟨wr.heap.size, 2, none⟩ = some (.int .i64 pb) := (by rw [hc_ _ _ (by first | assumption | (simp; done) | omega | (simp; omega)) (by first | assumption | (simp; done) | omega | (simp; omega))]; go_simp); clear hc_ hf_; have zw11_g : g < w11.heap.size := (by omega); have zw11_bw : bw < w11.heap.size := (by omega); have zw11_wr_heap_size : wr.heap.size < w11.heap.size := (by omega); clear hz_ HR HB_g HB_bw; have HR := nR_; clear nR_; have HB_g := nB_g; clear nB_g; have HB_bw := nB_bw; clear nB_bw; clear b_ r_))
          go_wp2_with fail
          have hl2 : clr l pa pb kk = l kk := by rw [clr_at, if_neg (fun h => absurd h.1 (by omega))]
          have HL := Asd.mk hl2
          clear hl2
          have hne := fun W => neq_self ((clr l pa pb) kk) W
          refine start_ (n := 13) (S := fun w' => Blk w' g 71 (fc (clr l pa pb)) ∧ Blk w' bw 29 (c6 ((clr l pa pb) kk)) ∧ Below w.heap.size w w' ∧ w'.cell? ⟨bw, 0, none⟩ = some (.bool ((clr l pa pb) kk).t) ∧ w'.cell? ⟨bw, 1, none⟩ = some (.int .i64 ((clr l pa pb) kk).b) ∧ w'.cell? ⟨bw, 2, none⟩ = some (.int .i64 ((clr l pa pb) kk).c) ∧ w'.cell? ⟨bw, 3, none⟩ = some (.int .i64 ((clr l pa pb) kk).d) ∧ w'.cell? ⟨bw, 4, none⟩ = some (.int .i64 ((clr l pa pb) kk).e) ∧ w'.cell? ⟨bw, 5, none⟩ = some (.int .i64 ((clr l pa pb) kk).f)) (ds := []) #[false, false, false, false, false, false, false, false, false, false, false, false, false] (by kernel_rfl) rfl rfl ⟨(by repeat (first | with_reducible exact HB_g.out | with_reducible apply Blk.drewN | with_reducible apply Blk.drew | with_reducible apply Blk.alloc | with_reducible refine Blk.far ?_ (by first | assumption | (simp; done) | omega | (simp; omega)) _)), (Blk.drew (HL.out.symm ▸ HB_bw.out)), (by repeat (first | with_reducible exact HR.out | with_reducible apply bdrewN | with_reducible apply bdrew | with_reducible apply balloc | with_reducible refine bset ?_ (by first | assumption | (simp; done) | omega | (simp; omega)))), c6_cells (show Blk _ bw 29 (c6 ((clr l pa pb) kk)) from (Blk.drew (HL.out.symm ▸ HB_bw.out)))⟩ (fun hHeld => ?_)
          refine pure_ (i := 0) (N := some 89) (v := ?_) (a' := ?_) #[true, false, false, false, false, false, false, false, false, false, false, false, false] rfl rfl (by kernel_rfl) (fun _ _ _ h => h) (Or.inl ⟨by rfl, ?_⟩) ?_ ?_
          rotate_left
          · intro w'
            go_simp
            with_reducible rfl
          rotate_left
          · simp only [Act.put, List.setIfInBounds_toArray, List.set_cons_zero, List.set_cons_succ, i64_w, i32_w]
            rfl
          refine pure_ (i := 1) (N := some 90) (v := ?_) (a' := ?_) #[true, true, false, false, false, false, false, false, false, false, false, false, false] rfl rfl (by kernel_rfl) (fun _ _ _ h => h) (Or.inl ⟨by rfl, ?_⟩) ?_ ?_
          rotate_left
          · intro w'
            go_simp
            with_reducible rfl
          rotate_left
          · simp only [Act.put, List.setIfInBounds_toArray, List.set_cons_zero, List.set_cons_succ, i64_w, i32_w]
            rfl
          refine take_ (i := 3) (N := some 92) (v := ?_) (a' := ?_) #[true, true, false, true, false, false, false, false, false, false, false, false, false] rfl rfl (by kernel_rfl) (fun _ _ _ h => h) (Or.inl ⟨by rfl, ?_⟩) hHeld ?_ ?_
          rotate_left
          · rintro w' ⟨s0, s1, s2, s3⟩
            go_simp
            with_reducible rfl
          rotate_left
          · simp only [Act.put, List.setIfInBounds_toArray, List.set_cons_zero, List.set_cons_succ, i64_w, i32_w]
            rfl
          refine one_ (i := 2) (N := some 91) #[true, true, true, true, false, false, false, false, false, false, false, false, false] rfl rfl (by kernel_rfl) (by decide) (fun K hK => ?_)
          refine goes_ Try.func38 (by kernel_rfl) rfl #[.pointer (some ⟨g, 0, none⟩), .int .i64 (kk : Int)] (by rfl) rfl rfl (by simp only [List.map_toArray, List.map_cons, List.map_nil]; rfl) ?_
          with_reducible refine (getK g kk (clr l pa pb) _ hk8 hHeld.1).mono ?_
          rintro e_ wh5 ⟨rfl, h5⟩
          refine ⟨_, rfl, ?_⟩
          refine hK.out _ _ ⟨hHeld.1.below h5 hHeld.1.lt, hHeld.2.1.below h5 hHeld.2.1.lt, bcall hHeld.2.2.1 h5, c6_cells (hHeld.2.1.below h5 hHeld.2.1.lt)⟩ (fun hHeld => ?_)
          clear hK K
          refine norm_ (a' := ?_) ?_ ?_
          rotate_left
          · show Act.put _ (some 91) _ = _
            simp only [Act.put, List.setIfInBounds_toArray, List.set_cons_zero, List.set_cons_succ, i64_w, i32_w]
            rfl
          refine pure_ (i := 4) (N := some 93) (v := ?_) (a' := ?_) #[true, true, true, true, true, false, false, false, false, false, false, false, false] rfl rfl (by kernel_rfl) (fun _ _ _ h => h) (Or.inl ⟨by rfl, ?_⟩) ?_ ?_
          rotate_left
          · intro w'
            go_simp
            with_reducible rfl
          rotate_left
          · simp only [Act.put, List.setIfInBounds_toArray, List.set_cons_zero, List.set_cons_succ, i64_w, i32_w]
            rfl
          refine pure_ (i := 5) (N := some 94) (v := ?_) (a' := ?_) #[true, true, true, true, true, true, false, false, false, false, false, false, false] rfl rfl (by kernel_rfl) (fun _ _ _ h => h) (Or.inl ⟨by rfl, ?_⟩) ?_ ?_
          rotate_left
          · intro w'
            go_simp
            with_reducible rfl
          rotate_left
          · simp only [Act.put, List.setIfInBounds_toArray, List.set_cons_zero, List.set_cons_succ, i64_w, i32_w]
            rfl
          refine pure_ (i := 6) (N := some 95) (v := ?_) (a' := ?_) #[true, true, true, true, true, true, true, false, false, false, false, false, false] rfl rfl (by kernel_rfl) (fun _ _ _ h => h) (Or.inl ⟨by rfl, ?_⟩) ?_ ?_
          rotate_left
          · intro w'
            go_simp
            with_reducible rfl
          rotate_left
          · simp only [Act.put, List.setIfInBounds_toArray, List.set_cons_zero, List.set_cons_succ, i64_w, i32_w]
            rfl
          refine pure_ (i := 7) (N := some 96) (v := ?_) (a' := ?_) #[true, true, true, true, true, true, true, true, false, false, false, false, false] rfl rfl (by kernel_rfl) (fun _ _ _ h => h) (Or.inl ⟨by rfl, ?_⟩) ?_ ?_
          rotate_left
          · intro w'
            go_simp
            with_reducible rfl
          rotate_left
          · simp only [Act.put, List.setIfInBounds_toArray, List.set_cons_zero, List.set_cons_succ, i64_w, i32_w]
            rfl
          refine pure_ (i := 9) (N := some 98) (v := ?_) (a' := ?_) #[true, true, true, true, true, true, true, true, false, true, false, false, false] rfl rfl (by kernel_rfl) (fun _ _ _ h => h) (Or.inl ⟨by rfl, ?_⟩) ?_ ?_
          rotate_left
          · intro w'
            go_simp
            with_reducible rfl
          rotate_left
          · simp only [Act.put, List.setIfInBounds_toArray, List.set_cons_zero, List.set_cons_succ, i64_w, i32_w]
            rfl
          refine take_ (i := 10) (N := some 99) (v := ?_) (a' := ?_) #[true, true, true, true, true, true, true, true, false, true, true, false, false] rfl rfl (by kernel_rfl) (fun _ _ _ h => h) (Or.inl ⟨by rfl, ?_⟩) hHeld ?_ ?_
          rotate_left
          · rintro w' ⟨s0, s1, s2, s3⟩
            go_simp
            with_reducible rfl
          rotate_left
          · simp only [Act.put, List.setIfInBounds_toArray, List.set_cons_zero, List.set_cons_succ, i64_w, i32_w]
            rfl
          refine one_ (i := 8) (N := some 97) #[true, true, true, true, true, true, true, true, true, true, true, false, false] rfl rfl (by kernel_rfl) (by decide) (fun K hK => ?_)
          refine goes_ Try.func40 (by kernel_rfl) rfl #[.pointer (some ⟨g, 0, none⟩), .int .i64 (kk : Int)] (by rfl) rfl rfl (by simp only [List.map_toArray, List.map_cons, List.map_nil]; rfl) ?_
          with_reducible refine (valK g kk (clr l pa pb) _ hk8 hHeld.1).mono ?_
          rintro e_ wh6 ⟨rfl, h6⟩
          refine ⟨_, rfl, ?_⟩
          refine hK.out _ _ ⟨hHeld.1.below h6 hHeld.1.lt, hHeld.2.1.below h6 hHeld.2.1.lt, bcall hHeld.2.2.1 h6, c6_cells (hHeld.2.1.below h6 hHeld.2.1.lt)⟩ (fun hHeld => ?_)
          clear hK K
          refine norm_ (a' := ?_) ?_ ?_
          rotate_left
          · show Act.put _ (some 97) _ = _
            simp only [Act.put, List.setIfInBounds_toArray, List.set_cons_zero, List.set_cons_succ, i64_w, i32_w]
            rfl
          refine pure_ (i := 11) (N := some 100) (v := ?_) (a' := ?_) #[true, true, true, true, true, true, true, true, true, true, true, true, false] rfl rfl (by kernel_rfl) (fun _ _ _ h => h) (Or.inl ⟨by rfl, ?_⟩) ?_ ?_
          rotate_left
          · intro w'
            go_simp
            with_reducible rfl
          rotate_left
          · simp only [Act.put, List.setIfInBounds_toArray, List.set_cons_zero, List.set_cons_succ, i64_w, i32_w]
            rfl
          refine pure_ (i := 12) (N := some 101) (v := ?_) (a' := ?_) #[true, true, true, true, true, true, true, true, true, true, true, true, true] rfl rfl (by kernel_rfl) (fun _ _ _ h => h) (Or.inl ⟨by rfl, ?_⟩) ?_ ?_
          rotate_left
          · intro w'
            go_simp
            with_reducible rfl
          rotate_left
          · simp only [Act.put, List.setIfInBounds_toArray, List.set_cons_zero, List.set_cons_succ, i64_w, i32_w]
            rfl
          refine done_ (by kernel_rfl) ?_
          clear hne
          go_wp2_with fail
          go_roundg (gk - 1)
          case measure => omega
          case rel => exact ⟨k + 1, clr l pa pb, by simp, ⟨by omega, by omega⟩, ⟨hHeld.1⟩, ⟨hHeld.2.1⟩, ⟨hHeld.2.2.1⟩⟩
      · by_cases h0 : 0 ≤ pa
        · by_cases h8 : pa < 8
          · cases hr : CV.right ⟨x0, x1, x2, x3, x4, x5⟩
            · skip
              have hf : fine pa ⟨x0, x1, x2, x3, x4, x5⟩ = false := by unfold fine; rw [decide_eq_true (by omega), hr]; rfl
              have HS := Asd.mk (fun W hW => set_no g l pa ⟨x0, x1, x2, x3, x4, x5⟩ W hf hxe hW)
              have HRt := Asd.mk (fun W => right_is ⟨x0, x1, x2, x3, x4, x5⟩ false hr W)
              clear hf hr
              go_wp2_with fail
              (go_at_call 26; ((with_reducible refine (HRt.out _).mono ?_); rintro e_ w11 ⟨rfl, r_⟩; have nR_ := Asd.mk (bcall (by repeat (first | with_reducible exact HR.out | with_reducible apply bdrewN | with_reducible apply bdrew | with_reducible apply balloc | with_reducible refine bset ?_ (by first | assumption | (simp; done) | omega | (simp; omega)))) r_); have nB_g := Asd.mk (Blk.below (by repeat (first | with_reducible exact HB_g.out | with_reducible apply Blk.drewN | with_reducible apply Blk.drew | with_reducible apply Blk.alloc | with_reducible refine Blk.far ?_ (by first | assumption | (simp; done) | omega | (simp; omega)) _)) r_ (by first | assumption | (simp; done) | omega | (simp; omega))); have nB_bw := Asd.mk (Blk.below (by repeat (first | with_reducible exact HB_bw.out | with_reducible apply Blk.drewN | with_reducible apply Blk.drew | with_reducible apply Blk.alloc | with_reducible refine Blk.far ?_ (by first | assumption | (simp; done) | omega | (simp; omega)) _)) r_ (by first | assumption | (simp; done) | omega | (simp; omega))); obtain ⟨hc_, hf_, _, _⟩ := bcell r_; have hz_ := r_.size; (try simp at hz_); have cw11_wr_heap_size_1 : w11.cell? ⟨wr.heap.size, 1, none⟩ = some (.int .i64 pa) := (by rw [hc_ _ _ (by first | assumption | (simp; done) | omega | (simp; omega))]; go_simp); have cw11_wr_heap_size_2 : w11.cell? ⟨wr.heap.size, 2, none⟩ = some (.int .i64 pb) := (by rw [hc_ _ _ (by first | assumption | (simp; done) | omega | (simp; omega))]; go_simp); have cw11_wr_heap_size_3 : w11.cell? ⟨wr.heap.size, 3, none⟩ = some (.bool x0) := (by rw [hc_ _ _ (by first | assumption | (simp; done) | omega | (simp; omega))]; go_simp); have cw11_wr_heap_size_4 : w11.cell? ⟨wr.heap.size, 4, none⟩ = some (.int .i64 x1) := (by rw [hc_ _ _ (by first | assumption | (simp; done) | omega | (simp; omega))]; go_simp); have cw11_wr_heap_size_5 : w11.cell? ⟨wr.heap.size, 5, none⟩ = some (.int .i64 x2) := (by rw [hc_ _ _ (by first | assumption | (simp; done) | omega | (simp; omega))]; go_simp); have cw11_wr_heap_size_6 : w11.cell? ⟨wr.heap.size, 6, none⟩ = some (.int .i64 x3) := (by rw [hc_ _ _ (by first | assumption | (simp; done) | omega | (simp; omega))]; go_simp); have cw11_wr_heap_size_7 : w11.cell? ⟨wr.heap.size, 7, none⟩ = some (.int .i64 x4) := (by rw [hc_ _ _ (by first | assumption | (simp; done) | omega | (simp; omega))]; go_simp); have cw11_wr_heap_size_8 : w11.cell? ⟨wr.heap.size, 8, none⟩ = some (.int .i64 x5) := (by rw [hc_ _ _ (by first | assumption | (simp; done) | omega | (simp; omega))]; go_simp); clear hc_ hf_; have zw11_g : g < w11.heap.size := (by omega); have zw11_bw : bw < w11.heap.size := (by omega); have zw11_wr_heap_size : wr.heap.size < w11.heap.size := (by omega); clear hz_ HR HB_g HB_bw; have HR := nR_; clear nR_; have HB_g := nB_g; clear nB_g; have HB_bw := nB_bw; clear nB_bw; clear r_))
              go_wp2_with fail
              (go_at_call 34; ((with_reducible refine (HS.out _ (by repeat (first | with_reducible exact HB_g.out | with_reducible apply Blk.drewN | with_reducible apply Blk.drew | with_reducible apply Blk.alloc | with_reducible refine Blk.far ?_ (by first | assumption | (simp; done) | omega | (simp; omega)) _))).mono ?_); rintro e_ w12 ⟨rfl, b_, r_⟩; have nR_ := Asd.mk (below_only (by repeat (first | with_reducible exact HR.out | with_reducible apply bdrewN | with_reducible apply bdrew | with_reducible apply balloc | with_reducible refine bset ?_ (by first | assumption | (simp; done) | omega | (simp; omega)))) r_ (by assumption)); have nB_g := Asd.mk b_; have nB_bw := Asd.mk (Blk.grown (by repeat (first | with_reducible exact HB_bw.out | with_reducible apply Blk.drewN | with_reducible apply Blk.drew | with_reducible apply Blk.alloc | with_reducible refine Blk.far ?_ (by first | assumption | (simp; done) | omega | (simp; omega)) _)) r_ (by simp; omega)); obtain ⟨hc_, hf_, _, _⟩ := gcell r_; have hz_ := r_.size; (try simp at hz_); have cw12_wr_heap_size_1 : w12.cell? ⟨wr.heap.size, 1, none⟩ = some (.int .i64 pa) := (by rw [hc_ _ _ (by first | assumption | (simp; done) | omega | (simp; omega)) (by first | assumption | (simp; done) | omega | (simp; omega))]; go_simp); have cw12_wr_heap_size_2 : w12.cell? ⟨wr.heap.size, 2, none⟩ = some (.int .i64 pb) := (by rw [hc_ _ _ (by first | assumption | (simp; done) | omega | (simp; omega)) (by first | assumption | (simp; done) | omega | (simp; omega))]; go_simp); have cw12_wr_heap_size_3 : w12.cell? ⟨wr.heap.size, 3, none⟩ = some (.bool x0) := (by rw [hc_ _ _ (by first | assumption | (simp; done) | omega | (simp; omega)) (by first | assumption | (simp; done) | omega | (simp; omega))]; go_simp); have cw12_wr_heap_size_4 : w12.cell? ⟨wr.heap.size, 4, none⟩ = some (.int .i64 x1) := (by rw [hc_ _ _ (by first | assumption | (simp; done) | omega | (simp; omega)) (by first | assumption | (simp; done) | omega | (simp; omega))]; go_simp); have cw12_wr_heap_size_5 : w12.cell? ⟨wr.heap.size, 5, none⟩ = some (.int .i64 x2) := (by rw [hc_ _ _ (by first | assumption | (simp; done) | omega | (simp; omega)) (by first | assumption | (simp; done) | omega | (simp; omega))]; go_simp); have cw12_wr_heap_size_6 : w12.cell? ⟨wr.heap.size, 6, none⟩ = some (.int .i64 x3) := (by rw [hc_ _ _ (by first | assumption | (simp; done) | omega | (simp; omega)) (by first | assumption | (simp; done) | omega | (simp; omega))]; go_simp); have cw12_wr_heap_size_7 : w12.cell? ⟨wr.heap.size, 7, none⟩ = some (.int .i64 x4) := (by rw [hc_ _ _ (by first | assumption | (simp; done) | omega | (simp; omega)) (by first | assumption | (simp; done) | omega | (simp; omega))]; go_simp); have cw12_wr_heap_size_8 : w12.cell? ⟨wr.heap.size, 8, none⟩ = some (.int .i64 x5) := (by rw [hc_ _ _ (by first | assumption | (simp; done) | omega | (simp; omega)) (by first | assumption | (simp; done) | omega | (simp; omega))]; go_simp); clear hc_ hf_; have zw12_g : g < w12.heap.size := (by omega); have zw12_bw : bw < w12.heap.size := (by omega); have zw12_wr_heap_size : wr.heap.size < w12.heap.size := (by omega); clear hz_ HR HB_g HB_bw cw11_wr_heap_size_1 cw11_wr_heap_size_2 cw11_wr_heap_size_3 cw11_wr_heap_size_4 cw11_wr_heap_size_5 cw11_wr_heap_size_6 cw11_wr_heap_size_7 cw11_wr_heap_size_8; have HR := nR_; clear nR_; have HB_g := nB_g; clear nB_g; have HB_bw := nB_bw; clear nB_bw; clear b_ r_))
              go_wp2_with fail
              have hne := fun W => neq_self ((l) kk) W
              refine start_ (n := 13) (S := fun w' => Blk w' g 71 (fc (l)) ∧ Blk w' bw 29 (c6 ((l) kk)) ∧ Below w.heap.size w w' ∧ w'.cell? ⟨bw, 0, none⟩ = some (.bool ((l) kk).t) ∧ w'.cell? ⟨bw, 1, none⟩ = some (.int .i64 ((l) kk).b) ∧ w'.cell? ⟨bw, 2, none⟩ = some (.int .i64 ((l) kk).c) ∧ w'.cell? ⟨bw, 3, none⟩ = some (.int .i64 ((l) kk).d) ∧ w'.cell? ⟨bw, 4, none⟩ = some (.int .i64 ((l) kk).e) ∧ w'.cell? ⟨bw, 5, none⟩ = some (.int .i64 ((l) kk).f)) (ds := []) #[false, false, false, false, false, false, false, false, false, false, false, false, false] (by kernel_rfl) rfl rfl ⟨(by repeat (first | with_reducible exact HB_g.out | with_reducible apply Blk.drewN | with_reducible apply Blk.drew | with_reducible apply Blk.alloc | with_reducible refine Blk.far ?_ (by first | assumption | (simp; done) | omega | (simp; omega)) _)), (Blk.drew HB_bw.out), (by repeat (first | with_reducible exact HR.out | with_reducible apply bdrewN | with_reducible apply bdrew | with_reducible apply balloc | with_reducible refine bset ?_ (by first | assumption | (simp; done) | omega | (simp; omega)))), c6_cells (show Blk _ bw 29 (c6 ((l) kk)) from (Blk.drew HB_bw.out))⟩ (fun hHeld => ?_)
              refine pure_ (i := 0) (N := some 89) (v := ?_) (a' := ?_) #[true, false, false, false, false, false, false, false, false, false, false, false, false] rfl rfl (by kernel_rfl) (fun _ _ _ h => h) (Or.inl ⟨by rfl, ?_⟩) ?_ ?_
              rotate_left
              · intro w'
                go_simp
                with_reducible rfl
              rotate_left
              · simp only [Act.put, List.setIfInBounds_toArray, List.set_cons_zero, List.set_cons_succ, i64_w, i32_w]
                rfl
              refine pure_ (i := 1) (N := some 90) (v := ?_) (a' := ?_) #[true, true, false, false, false, false, false, false, false, false, false, false, false] rfl rfl (by kernel_rfl) (fun _ _ _ h => h) (Or.inl ⟨by rfl, ?_⟩) ?_ ?_
              rotate_left
              · intro w'
                go_simp
                with_reducible rfl
              rotate_left
              · simp only [Act.put, List.setIfInBounds_toArray, List.set_cons_zero, List.set_cons_succ, i64_w, i32_w]
                rfl
              refine take_ (i := 3) (N := some 92) (v := ?_) (a' := ?_) #[true, true, false, true, false, false, false, false, false, false, false, false, false] rfl rfl (by kernel_rfl) (fun _ _ _ h => h) (Or.inl ⟨by rfl, ?_⟩) hHeld ?_ ?_
              rotate_left
              · rintro w' ⟨s0, s1, s2, s3⟩
                go_simp
                with_reducible rfl
              rotate_left
              · simp only [Act.put, List.setIfInBounds_toArray, List.set_cons_zero, List.set_cons_succ, i64_w, i32_w]
                rfl
              refine one_ (i := 2) (N := some 91) #[true, true, true, true, false, false, false, false, false, false, false, false, false] rfl rfl (by kernel_rfl) (by decide) (fun K hK => ?_)
              refine goes_ Try.func38 (by kernel_rfl) rfl #[.pointer (some ⟨g, 0, none⟩), .int .i64 (kk : Int)] (by rfl) rfl rfl (by simp only [List.map_toArray, List.map_cons, List.map_nil]; rfl) ?_
              with_reducible refine (getK g kk (l) _ hk8 hHeld.1).mono ?_
              rintro e_ wh5 ⟨rfl, h5⟩
              refine ⟨_, rfl, ?_⟩
              refine hK.out _ _ ⟨hHeld.1.below h5 hHeld.1.lt, hHeld.2.1.below h5 hHeld.2.1.lt, bcall hHeld.2.2.1 h5, c6_cells (hHeld.2.1.below h5 hHeld.2.1.lt)⟩ (fun hHeld => ?_)
              clear hK K
              refine norm_ (a' := ?_) ?_ ?_
              rotate_left
              · show Act.put _ (some 91) _ = _
                simp only [Act.put, List.setIfInBounds_toArray, List.set_cons_zero, List.set_cons_succ, i64_w, i32_w]
                rfl
              refine pure_ (i := 4) (N := some 93) (v := ?_) (a' := ?_) #[true, true, true, true, true, false, false, false, false, false, false, false, false] rfl rfl (by kernel_rfl) (fun _ _ _ h => h) (Or.inl ⟨by rfl, ?_⟩) ?_ ?_
              rotate_left
              · intro w'
                go_simp
                with_reducible rfl
              rotate_left
              · simp only [Act.put, List.setIfInBounds_toArray, List.set_cons_zero, List.set_cons_succ, i64_w, i32_w]
                rfl
              refine pure_ (i := 5) (N := some 94) (v := ?_) (a' := ?_) #[true, true, true, true, true, true, false, false, false, false, false, false, false] rfl rfl (by kernel_rfl) (fun _ _ _ h => h) (Or.inl ⟨by rfl, ?_⟩) ?_ ?_
              rotate_left
              · intro w'
                go_simp
                with_reducible rfl
              rotate_left
              · simp only [Act.put, List.setIfInBounds_toArray, List.set_cons_zero, List.set_cons_succ, i64_w, i32_w]
                rfl
              refine pure_ (i := 6) (N := some 95) (v := ?_) (a' := ?_) #[true, true, true, true, true, true, true, false, false, false, false, false, false] rfl rfl (by kernel_rfl) (fun _ _ _ h => h) (Or.inl ⟨by rfl, ?_⟩) ?_ ?_
              rotate_left
              · intro w'
                go_simp
                with_reducible rfl
              rotate_left
              · simp only [Act.put, List.setIfInBounds_toArray, List.set_cons_zero, List.set_cons_succ, i64_w, i32_w]
                rfl
              refine pure_ (i := 7) (N := some 96) (v := ?_) (a' := ?_) #[true, true, true, true, true, true, true, true, false, false, false, false, false] rfl rfl (by kernel_rfl) (fun _ _ _ h => h) (Or.inl ⟨by rfl, ?_⟩) ?_ ?_
              rotate_left
              · intro w'
                go_simp
                with_reducible rfl
              rotate_left
              · simp only [Act.put, List.setIfInBounds_toArray, List.set_cons_zero, List.set_cons_succ, i64_w, i32_w]
                rfl
              refine pure_ (i := 9) (N := some 98) (v := ?_) (a' := ?_) #[true, true, true, true, true, true, true, true, false, true, false, false, false] rfl rfl (by kernel_rfl) (fun _ _ _ h => h) (Or.inl ⟨by rfl, ?_⟩) ?_ ?_
              rotate_left
              · intro w'
                go_simp
                with_reducible rfl
              rotate_left
              · simp only [Act.put, List.setIfInBounds_toArray, List.set_cons_zero, List.set_cons_succ, i64_w, i32_w]
                rfl
              refine take_ (i := 10) (N := some 99) (v := ?_) (a' := ?_) #[true, true, true, true, true, true, true, true, false, true, true, false, false] rfl rfl (by kernel_rfl) (fun _ _ _ h => h) (Or.inl ⟨by rfl, ?_⟩) hHeld ?_ ?_
              rotate_left
              · rintro w' ⟨s0, s1, s2, s3⟩
                go_simp
                with_reducible rfl
              rotate_left
              · simp only [Act.put, List.setIfInBounds_toArray, List.set_cons_zero, List.set_cons_succ, i64_w, i32_w]
                rfl
              refine one_ (i := 8) (N := some 97) #[true, true, true, true, true, true, true, true, true, true, true, false, false] rfl rfl (by kernel_rfl) (by decide) (fun K hK => ?_)
              refine goes_ Try.func40 (by kernel_rfl) rfl #[.pointer (some ⟨g, 0, none⟩), .int .i64 (kk : Int)] (by rfl) rfl rfl (by simp only [List.map_toArray, List.map_cons, List.map_nil]; rfl) ?_
              with_reducible refine (valK g kk (l) _ hk8 hHeld.1).mono ?_
              rintro e_ wh6 ⟨rfl, h6⟩
              refine ⟨_, rfl, ?_⟩
              refine hK.out _ _ ⟨hHeld.1.below h6 hHeld.1.lt, hHeld.2.1.below h6 hHeld.2.1.lt, bcall hHeld.2.2.1 h6, c6_cells (hHeld.2.1.below h6 hHeld.2.1.lt)⟩ (fun hHeld => ?_)
              clear hK K
              refine norm_ (a' := ?_) ?_ ?_
              rotate_left
              · show Act.put _ (some 97) _ = _
                simp only [Act.put, List.setIfInBounds_toArray, List.set_cons_zero, List.set_cons_succ, i64_w, i32_w]
                rfl
              refine pure_ (i := 11) (N := some 100) (v := ?_) (a' := ?_) #[true, true, true, true, true, true, true, true, true, true, true, true, false] rfl rfl (by kernel_rfl) (fun _ _ _ h => h) (Or.inl ⟨by rfl, ?_⟩) ?_ ?_
              rotate_left
              · intro w'
                go_simp
                with_reducible rfl
              rotate_left
              · simp only [Act.put, List.setIfInBounds_toArray, List.set_cons_zero, List.set_cons_succ, i64_w, i32_w]
                rfl
              refine pure_ (i := 12) (N := some 101) (v := ?_) (a' := ?_) #[true, true, true, true, true, true, true, true, true, true, true, true, true] rfl rfl (by kernel_rfl) (fun _ _ _ h => h) (Or.inl ⟨by rfl, ?_⟩) ?_ ?_
              rotate_left
              · intro w'
                go_simp
                with_reducible rfl
              rotate_left
              · simp only [Act.put, List.setIfInBounds_toArray, List.set_cons_zero, List.set_cons_succ, i64_w, i32_w]
                rfl
              refine done_ (by kernel_rfl) ?_
              clear hne
              go_wp2_with fail
              go_roundg (gk - 1)
              case measure => omega
              case rel => exact ⟨k + 1, l, by simp, ⟨by omega, by omega⟩, ⟨hHeld.1⟩, ⟨hHeld.2.1⟩, ⟨hHeld.2.2.1⟩⟩
            · by_cases hK : pa = (kk : Int)
              · skip
                subst hK
                have hf : fine (kk : Int) ⟨x0, x1, x2, x3, x4, x5⟩ = true := by unfold fine; rw [decide_eq_true (by omega), hr]; rfl
                have HS := Asd.mk (fun W hW => set_yes g l (kk : Int) ⟨x0, x1, x2, x3, x4, x5⟩ W hf hxe hW)
                have HRt := Asd.mk (fun W => right_is ⟨x0, x1, x2, x3, x4, x5⟩ true hr W)
                clear hf hr
                go_wp2_with fail
                (go_at_call 26; ((with_reducible refine (HRt.out _).mono ?_); rintro e_ w11 ⟨rfl, r_⟩; have nR_ := Asd.mk (bcall (by repeat (first | with_reducible exact HR.out | with_reducible apply bdrewN | with_reducible apply bdrew | with_reducible apply balloc | with_reducible refine bset ?_ (by first | assumption | (simp; done) | omega | (simp; omega)))) r_); have nB_g := Asd.mk (Blk.below (by repeat (first | with_reducible exact HB_g.out | with_reducible apply Blk.drewN | with_reducible apply Blk.drew | with_reducible apply Blk.alloc | with_reducible refine Blk.far ?_ (by first | assumption | (simp; done) | omega | (simp; omega)) _)) r_ (by first | assumption | (simp; done) | omega | (simp; omega))); have nB_bw := Asd.mk (Blk.below (by repeat (first | with_reducible exact HB_bw.out | with_reducible apply Blk.drewN | with_reducible apply Blk.drew | with_reducible apply Blk.alloc | with_reducible refine Blk.far ?_ (by first | assumption | (simp; done) | omega | (simp; omega)) _)) r_ (by first | assumption | (simp; done) | omega | (simp; omega))); obtain ⟨hc_, hf_, _, _⟩ := bcell r_; have hz_ := r_.size; (try simp at hz_); have cw11_wr_heap_size_1 : w11.cell? ⟨wr.heap.size, 1, none⟩ = some (.int .i64 (kk : Int)) := (by rw [hc_ _ _ (by first | assumption | (simp; done) | omega | (simp; omega))]; go_simp); have cw11_wr_heap_size_2 : w11.cell? ⟨wr.heap.size, 2, none⟩ = some (.int .i64 pb) := (by rw [hc_ _ _ (by first | assumption | (simp; done) | omega | (simp; omega))]; go_simp); have cw11_wr_heap_size_3 : w11.cell? ⟨wr.heap.size, 3, none⟩ = some (.bool x0) := (by rw [hc_ _ _ (by first | assumption | (simp; done) | omega | (simp; omega))]; go_simp); have cw11_wr_heap_size_4 : w11.cell? ⟨wr.heap.size, 4, none⟩ = some (.int .i64 x1) := (by rw [hc_ _ _ (by first | assumption | (simp; done) | omega | (simp; omega))]; go_simp); have cw11_wr_heap_size_5 : w11.cell? ⟨wr.heap.size, 5, none⟩ = some (.int .i64 x2) := (by rw [hc_ _ _ (by first | assumption | (simp; done) | omega | (simp; omega))]; go_simp); have cw11_wr_heap_size_6 : w11.cell? ⟨wr.heap.size, 6, none⟩ = some (.int .i64 x3) := (by rw [hc_ _ _ (by first | assumption | (simp; done) | omega | (simp; omega))]; go_simp); have cw11_wr_heap_size_7 : w11.cell? ⟨wr.heap.size, 7, none⟩ = some (.int .i64 x4) := (by rw [hc_ _ _ (by first | assumption | (simp; done) | omega | (simp; omega))]; go_simp); have cw11_wr_heap_size_8 : w11.cell? ⟨wr.heap.size, 8, none⟩ = some (.int .i64 x5) := (by rw [hc_ _ _ (by first | assumption | (simp; done) | omega | (simp; omega))]; go_simp); clear hc_ hf_; have zw11_g : g < w11.heap.size := (by omega); have zw11_bw : bw < w11.heap.size := (by omega); have zw11_wr_heap_size : wr.heap.size < w11.heap.size := (by omega); clear hz_ HR HB_g HB_bw; have HR := nR_; clear nR_; have HB_g := nB_g; clear nB_g; have HB_bw := nB_bw; clear nB_bw; clear r_))
                go_wp2_with fail
                (go_at_call 34; ((with_reducible refine (HS.out _ (by repeat (first | with_reducible exact HB_g.out | with_reducible apply Blk.drewN | with_reducible apply Blk.drew | with_reducible apply Blk.alloc | with_reducible refine Blk.far ?_ (by first | assumption | (simp; done) | omega | (simp; omega)) _))).mono ?_); rintro e_ w12 ⟨rfl, b_, r_⟩; have nR_ := Asd.mk (below_only (by repeat (first | with_reducible exact HR.out | with_reducible apply bdrewN | with_reducible apply bdrew | with_reducible apply balloc | with_reducible refine bset ?_ (by first | assumption | (simp; done) | omega | (simp; omega)))) r_ (by assumption)); have nB_g := Asd.mk b_; have nB_bw := Asd.mk (Blk.grown (by repeat (first | with_reducible exact HB_bw.out | with_reducible apply Blk.drewN | with_reducible apply Blk.drew | with_reducible apply Blk.alloc | with_reducible refine Blk.far ?_ (by first | assumption | (simp; done) | omega | (simp; omega)) _)) r_ (by simp; omega)); obtain ⟨hc_, hf_, _, _⟩ := gcell r_; have hz_ := r_.size; (try simp at hz_); have cw12_wr_heap_size_1 : w12.cell? ⟨wr.heap.size, 1, none⟩ = some (.int .i64 (kk : Int)) := (by rw [hc_ _ _ (by first | assumption | (simp; done) | omega | (simp; omega)) (by first | assumption | (simp; done) | omega | (simp; omega))]; go_simp); have cw12_wr_heap_size_2 : w12.cell? ⟨wr.heap.size, 2, none⟩ = some (.int .i64 pb) := (by rw [hc_ _ _ (by first | assumption | (simp; done) | omega | (simp; omega)) (by first | assumption | (simp; done) | omega | (simp; omega))]; go_simp); have cw12_wr_heap_size_3 : w12.cell? ⟨wr.heap.size, 3, none⟩ = some (.bool x0) := (by rw [hc_ _ _ (by first | assumption | (simp; done) | omega | (simp; omega)) (by first | assumption | (simp; done) | omega | (simp; omega))]; go_simp); have cw12_wr_heap_size_4 : w12.cell? ⟨wr.heap.size, 4, none⟩ = some (.int .i64 x1) := (by rw [hc_ _ _ (by first | assumption | (simp; done) | omega | (simp; omega)) (by first | assumption | (simp; done) | omega | (simp; omega))]; go_simp); have cw12_wr_heap_size_5 : w12.cell? ⟨wr.heap.size, 5, none⟩ = some (.int .i64 x2) := (by rw [hc_ _ _ (by first | assumption | (simp; done) | omega | (simp; omega)) (by first | assumption | (simp; done) | omega | (simp; omega))]; go_simp); have cw12_wr_heap_size_6 : w12.cell? ⟨wr.heap.size, 6, none⟩ = some (.int .i64 x3) := (by rw [hc_ _ _ (by first | assumption | (simp; done) | omega | (simp; omega)) (by first | assumption | (simp; done) | omega | (simp; omega))]; go_simp); have cw12_wr_heap_size_7 : w12.cell? ⟨wr.heap.size, 7, none⟩ = some (.int .i64 x4) := (by rw [hc_ _ _ (by first | assumption | (simp; done) | omega | (simp; omega)) (by first | assumption | (simp; done) | omega | (simp; omega))]; go_simp); have cw12_wr_heap_size_8 : w12.cell? ⟨wr.heap.size, 8, none⟩ = some (.int .i64 x5) := (by rw [hc_ _ _ (by first | assumption | (simp; done) | omega | (simp; omega)) (by first | assumption | (simp; done) | omega | (simp; omega))]; go_simp); clear hc_ hf_; have zw12_g : g < w12.heap.size := (by omega); have zw12_bw : bw < w12.heap.size := (by omega); have zw12_wr_heap_size : wr.heap.size < w12.heap.size := (by omega); clear hz_ HR HB_g HB_bw cw11_wr_heap_size_1 cw11_wr_heap_size_2 cw11_wr_heap_size_3 cw11_wr_heap_size_4 cw11_wr_heap_size_5 cw11_wr_heap_size_6 cw11_wr_heap_size_7 cw11_wr_heap_size_8; have HR := nR_; clear nR_; have HB_g := nB_g; clear nB_g; have HB_bw := nB_bw; clear nB_bw; clear b_ r_))
                obtain ⟨y0, y1, y2, y3, y4, y5⟩ := c6_cells HB_bw.out
                obtain ⟨f0, f1, f2, f3, f4, f5⟩ := c6_free HB_bw.out
                go_wp2_with fail
                have hl2 : (upd l (kk : Int).toNat ⟨x0, x1, x2, x3, x4, x5⟩) kk = ⟨x0, x1, x2, x3, x4, x5⟩ := by unfold upd; rw [if_pos (by omega)]
                have HL := Asd.mk hl2
                clear hl2 y0 y1 y2 y3 y4 y5 f0 f1 f2 f3 f4 f5
                have hne := fun W => neq_self ((upd l (kk : Int).toNat ⟨x0, x1, x2, x3, x4, x5⟩) kk) W
                refine start_ (n := 13) (S := fun w' => Blk w' g 71 (fc (upd l (kk : Int).toNat ⟨x0, x1, x2, x3, x4, x5⟩)) ∧ Blk w' bw 29 (c6 ((upd l (kk : Int).toNat ⟨x0, x1, x2, x3, x4, x5⟩) kk)) ∧ Below w.heap.size w w' ∧ w'.cell? ⟨bw, 0, none⟩ = some (.bool ((upd l (kk : Int).toNat ⟨x0, x1, x2, x3, x4, x5⟩) kk).t) ∧ w'.cell? ⟨bw, 1, none⟩ = some (.int .i64 ((upd l (kk : Int).toNat ⟨x0, x1, x2, x3, x4, x5⟩) kk).b) ∧ w'.cell? ⟨bw, 2, none⟩ = some (.int .i64 ((upd l (kk : Int).toNat ⟨x0, x1, x2, x3, x4, x5⟩) kk).c) ∧ w'.cell? ⟨bw, 3, none⟩ = some (.int .i64 ((upd l (kk : Int).toNat ⟨x0, x1, x2, x3, x4, x5⟩) kk).d) ∧ w'.cell? ⟨bw, 4, none⟩ = some (.int .i64 ((upd l (kk : Int).toNat ⟨x0, x1, x2, x3, x4, x5⟩) kk).e) ∧ w'.cell? ⟨bw, 5, none⟩ = some (.int .i64 ((upd l (kk : Int).toNat ⟨x0, x1, x2, x3, x4, x5⟩) kk).f)) (ds := []) #[false, false, false, false, false, false, false, false, false, false, false, false, false] (by kernel_rfl) rfl rfl ⟨(by repeat (first | with_reducible exact HB_g.out | with_reducible apply Blk.drewN | with_reducible apply Blk.drew | with_reducible apply Blk.alloc | with_reducible refine Blk.far ?_ (by first | assumption | (simp; done) | omega | (simp; omega)) _)), (Blk.drew (HL.out.symm ▸ c6_set HB_bw.out ⟨x0, x1, x2, x3, x4, x5⟩)), (by repeat (first | with_reducible exact HR.out | with_reducible apply bdrewN | with_reducible apply bdrew | with_reducible apply balloc | with_reducible refine bset ?_ (by first | assumption | (simp; done) | omega | (simp; omega)))), c6_cells (show Blk _ bw 29 (c6 ((upd l (kk : Int).toNat ⟨x0, x1, x2, x3, x4, x5⟩) kk)) from (Blk.drew (HL.out.symm ▸ c6_set HB_bw.out ⟨x0, x1, x2, x3, x4, x5⟩)))⟩ (fun hHeld => ?_)
                refine pure_ (i := 0) (N := some 89) (v := ?_) (a' := ?_) #[true, false, false, false, false, false, false, false, false, false, false, false, false] rfl rfl (by kernel_rfl) (fun _ _ _ h => h) (Or.inl ⟨by rfl, ?_⟩) ?_ ?_
                rotate_left
                · intro w'
                  go_simp
                  with_reducible rfl
                rotate_left
                · simp only [Act.put, List.setIfInBounds_toArray, List.set_cons_zero, List.set_cons_succ, i64_w, i32_w]
                  rfl
                refine pure_ (i := 1) (N := some 90) (v := ?_) (a' := ?_) #[true, true, false, false, false, false, false, false, false, false, false, false, false] rfl rfl (by kernel_rfl) (fun _ _ _ h => h) (Or.inl ⟨by rfl, ?_⟩) ?_ ?_
                rotate_left
                · intro w'
                  go_simp
                  with_reducible rfl
                rotate_left
                · simp only [Act.put, List.setIfInBounds_toArray, List.set_cons_zero, List.set_cons_succ, i64_w, i32_w]
                  rfl
                refine take_ (i := 3) (N := some 92) (v := ?_) (a' := ?_) #[true, true, false, true, false, false, false, false, false, false, false, false, false] rfl rfl (by kernel_rfl) (fun _ _ _ h => h) (Or.inl ⟨by rfl, ?_⟩) hHeld ?_ ?_
                rotate_left
                · rintro w' ⟨s0, s1, s2, s3⟩
                  go_simp
                  with_reducible rfl
                rotate_left
                · simp only [Act.put, List.setIfInBounds_toArray, List.set_cons_zero, List.set_cons_succ, i64_w, i32_w]
                  rfl
                refine one_ (i := 2) (N := some 91) #[true, true, true, true, false, false, false, false, false, false, false, false, false] rfl rfl (by kernel_rfl) (by decide) (fun K hK => ?_)
                refine goes_ Try.func38 (by kernel_rfl) rfl #[.pointer (some ⟨g, 0, none⟩), .int .i64 (kk : Int)] (by rfl) rfl rfl (by simp only [List.map_toArray, List.map_cons, List.map_nil]; rfl) ?_
                with_reducible refine (getK g kk (upd l (kk : Int).toNat ⟨x0, x1, x2, x3, x4, x5⟩) _ hk8 hHeld.1).mono ?_
                rintro e_ wh5 ⟨rfl, h5⟩
                refine ⟨_, rfl, ?_⟩
                refine hK.out _ _ ⟨hHeld.1.below h5 hHeld.1.lt, hHeld.2.1.below h5 hHeld.2.1.lt, bcall hHeld.2.2.1 h5, c6_cells (hHeld.2.1.below h5 hHeld.2.1.lt)⟩ (fun hHeld => ?_)
                clear hK K
                refine norm_ (a' := ?_) ?_ ?_
                rotate_left
                · show Act.put _ (some 91) _ = _
                  simp only [Act.put, List.setIfInBounds_toArray, List.set_cons_zero, List.set_cons_succ, i64_w, i32_w]
                  rfl
                refine pure_ (i := 4) (N := some 93) (v := ?_) (a' := ?_) #[true, true, true, true, true, false, false, false, false, false, false, false, false] rfl rfl (by kernel_rfl) (fun _ _ _ h => h) (Or.inl ⟨by rfl, ?_⟩) ?_ ?_
                rotate_left
                · intro w'
                  go_simp
                  with_reducible rfl
                rotate_left
                · simp only [Act.put, List.setIfInBounds_toArray, List.set_cons_zero, List.set_cons_succ, i64_w, i32_w]
                  rfl
                refine pure_ (i := 5) (N := some 94) (v := ?_) (a' := ?_) #[true, true, true, true, true, true, false, false, false, false, false, false, false] rfl rfl (by kernel_rfl) (fun _ _ _ h => h) (Or.inl ⟨by rfl, ?_⟩) ?_ ?_
                rotate_left
                · intro w'
                  go_simp
                  with_reducible rfl
                rotate_left
                · simp only [Act.put, List.setIfInBounds_toArray, List.set_cons_zero, List.set_cons_succ, i64_w, i32_w]
                  rfl
                refine pure_ (i := 6) (N := some 95) (v := ?_) (a' := ?_) #[true, true, true, true, true, true, true, false, false, false, false, false, false] rfl rfl (by kernel_rfl) (fun _ _ _ h => h) (Or.inl ⟨by rfl, ?_⟩) ?_ ?_
                rotate_left
                · intro w'
                  go_simp
                  with_reducible rfl
                rotate_left
                · simp only [Act.put, List.setIfInBounds_toArray, List.set_cons_zero, List.set_cons_succ, i64_w, i32_w]
                  rfl
                refine pure_ (i := 7) (N := some 96) (v := ?_) (a' := ?_) #[true, true, true, true, true, true, true, true, false, false, false, false, false] rfl rfl (by kernel_rfl) (fun _ _ _ h => h) (Or.inl ⟨by rfl, ?_⟩) ?_ ?_
                rotate_left
                · intro w'
                  go_simp
                  with_reducible rfl
                rotate_left
                · simp only [Act.put, List.setIfInBounds_toArray, List.set_cons_zero, List.set_cons_succ, i64_w, i32_w]
                  rfl
                refine pure_ (i := 9) (N := some 98) (v := ?_) (a' := ?_) #[true, true, true, true, true, true, true, true, false, true, false, false, false] rfl rfl (by kernel_rfl) (fun _ _ _ h => h) (Or.inl ⟨by rfl, ?_⟩) ?_ ?_
                rotate_left
                · intro w'
                  go_simp
                  with_reducible rfl
                rotate_left
                · simp only [Act.put, List.setIfInBounds_toArray, List.set_cons_zero, List.set_cons_succ, i64_w, i32_w]
                  rfl
                refine take_ (i := 10) (N := some 99) (v := ?_) (a' := ?_) #[true, true, true, true, true, true, true, true, false, true, true, false, false] rfl rfl (by kernel_rfl) (fun _ _ _ h => h) (Or.inl ⟨by rfl, ?_⟩) hHeld ?_ ?_
                rotate_left
                · rintro w' ⟨s0, s1, s2, s3⟩
                  go_simp
                  with_reducible rfl
                rotate_left
                · simp only [Act.put, List.setIfInBounds_toArray, List.set_cons_zero, List.set_cons_succ, i64_w, i32_w]
                  rfl
                refine one_ (i := 8) (N := some 97) #[true, true, true, true, true, true, true, true, true, true, true, false, false] rfl rfl (by kernel_rfl) (by decide) (fun K hK => ?_)
                refine goes_ Try.func40 (by kernel_rfl) rfl #[.pointer (some ⟨g, 0, none⟩), .int .i64 (kk : Int)] (by rfl) rfl rfl (by simp only [List.map_toArray, List.map_cons, List.map_nil]; rfl) ?_
                with_reducible refine (valK g kk (upd l (kk : Int).toNat ⟨x0, x1, x2, x3, x4, x5⟩) _ hk8 hHeld.1).mono ?_
                rintro e_ wh6 ⟨rfl, h6⟩
                refine ⟨_, rfl, ?_⟩
                refine hK.out _ _ ⟨hHeld.1.below h6 hHeld.1.lt, hHeld.2.1.below h6 hHeld.2.1.lt, bcall hHeld.2.2.1 h6, c6_cells (hHeld.2.1.below h6 hHeld.2.1.lt)⟩ (fun hHeld => ?_)
                clear hK K
                refine norm_ (a' := ?_) ?_ ?_
                rotate_left
                · show Act.put _ (some 97) _ = _
                  simp only [Act.put, List.setIfInBounds_toArray, List.set_cons_zero, List.set_cons_succ, i64_w, i32_w]
                  rfl
                refine pure_ (i := 11) (N := some 100) (v := ?_) (a' := ?_) #[true, true, true, true, true, true, true, true, true, true, true, true, false] rfl rfl (by kernel_rfl) (fun _ _ _ h => h) (Or.inl ⟨by rfl, ?_⟩) ?_ ?_
                rotate_left
                · intro w'
                  go_simp
                  with_reducible rfl
                rotate_left
                · simp only [Act.put, List.setIfInBounds_toArray, List.set_cons_zero, List.set_cons_succ, i64_w, i32_w]
                  rfl
                refine pure_ (i := 12) (N := some 101) (v := ?_) (a' := ?_) #[true, true, true, true, true, true, true, true, true, true, true, true, true] rfl rfl (by kernel_rfl) (fun _ _ _ h => h) (Or.inl ⟨by rfl, ?_⟩) ?_ ?_
                rotate_left
                · intro w'
                  go_simp
                  with_reducible rfl
                rotate_left
                · simp only [Act.put, List.setIfInBounds_toArray, List.set_cons_zero, List.set_cons_succ, i64_w, i32_w]
                  rfl
                refine done_ (by kernel_rfl) ?_
                clear hne
                go_wp2_with fail
                go_roundg (gk - 1)
                case measure => omega
                case rel => exact ⟨k + 1, upd l (kk : Int).toNat ⟨x0, x1, x2, x3, x4, x5⟩, by simp, ⟨by omega, by omega⟩, ⟨hHeld.1⟩, ⟨hHeld.2.1⟩, ⟨hHeld.2.2.1⟩⟩
              · skip
                have hf : fine pa ⟨x0, x1, x2, x3, x4, x5⟩ = true := by unfold fine; rw [decide_eq_true (by omega), hr]; rfl
                have HS := Asd.mk (fun W hW => set_yes g l pa ⟨x0, x1, x2, x3, x4, x5⟩ W hf hxe hW)
                have HRt := Asd.mk (fun W => right_is ⟨x0, x1, x2, x3, x4, x5⟩ true hr W)
                clear hf hr
                go_wp2_with fail
                (go_at_call 26; ((with_reducible refine (HRt.out _).mono ?_); rintro e_ w11 ⟨rfl, r_⟩; have nR_ := Asd.mk (bcall (by repeat (first | with_reducible exact HR.out | with_reducible apply bdrewN | with_reducible apply bdrew | with_reducible apply balloc | with_reducible refine bset ?_ (by first | assumption | (simp; done) | omega | (simp; omega)))) r_); have nB_g := Asd.mk (Blk.below (by repeat (first | with_reducible exact HB_g.out | with_reducible apply Blk.drewN | with_reducible apply Blk.drew | with_reducible apply Blk.alloc | with_reducible refine Blk.far ?_ (by first | assumption | (simp; done) | omega | (simp; omega)) _)) r_ (by first | assumption | (simp; done) | omega | (simp; omega))); have nB_bw := Asd.mk (Blk.below (by repeat (first | with_reducible exact HB_bw.out | with_reducible apply Blk.drewN | with_reducible apply Blk.drew | with_reducible apply Blk.alloc | with_reducible refine Blk.far ?_ (by first | assumption | (simp; done) | omega | (simp; omega)) _)) r_ (by first | assumption | (simp; done) | omega | (simp; omega))); obtain ⟨hc_, hf_, _, _⟩ := bcell r_; have hz_ := r_.size; (try simp at hz_); have cw11_wr_heap_size_1 : w11.cell? ⟨wr.heap.size, 1, none⟩ = some (.int .i64 pa) := (by rw [hc_ _ _ (by first | assumption | (simp; done) | omega | (simp; omega))]; go_simp); have cw11_wr_heap_size_2 : w11.cell? ⟨wr.heap.size, 2, none⟩ = some (.int .i64 pb) := (by rw [hc_ _ _ (by first | assumption | (simp; done) | omega | (simp; omega))]; go_simp); have cw11_wr_heap_size_3 : w11.cell? ⟨wr.heap.size, 3, none⟩ = some (.bool x0) := (by rw [hc_ _ _ (by first | assumption | (simp; done) | omega | (simp; omega))]; go_simp); have cw11_wr_heap_size_4 : w11.cell? ⟨wr.heap.size, 4, none⟩ = some (.int .i64 x1) := (by rw [hc_ _ _ (by first | assumption | (simp; done) | omega | (simp; omega))]; go_simp); have cw11_wr_heap_size_5 : w11.cell? ⟨wr.heap.size, 5, none⟩ = some (.int .i64 x2) := (by rw [hc_ _ _ (by first | assumption | (simp; done) | omega | (simp; omega))]; go_simp); have cw11_wr_heap_size_6 : w11.cell? ⟨wr.heap.size, 6, none⟩ = some (.int .i64 x3) := (by rw [hc_ _ _ (by first | assumption | (simp; done) | omega | (simp; omega))]; go_simp); have cw11_wr_heap_size_7 : w11.cell? ⟨wr.heap.size, 7, none⟩ = some (.int .i64 x4) := (by rw [hc_ _ _ (by first | assumption | (simp; done) | omega | (simp; omega))]; go_simp); have cw11_wr_heap_size_8 : w11.cell? ⟨wr.heap.size, 8, none⟩ = some (.int .i64 x5) := (by rw [hc_ _ _ (by first | assumption | (simp; done) | omega | (simp; omega))]; go_simp); clear hc_ hf_; have zw11_g : g < w11.heap.size := (by omega); have zw11_bw : bw < w11.heap.size := (by omega); have zw11_wr_heap_size : wr.heap.size < w11.heap.size := (by omega); clear hz_ HR HB_g HB_bw; have HR := nR_; clear nR_; have HB_g := nB_g; clear nB_g; have HB_bw := nB_bw; clear nB_bw; clear r_))
                go_wp2_with fail
                (go_at_call 34; ((with_reducible refine (HS.out _ (by repeat (first | with_reducible exact HB_g.out | with_reducible apply Blk.drewN | with_reducible apply Blk.drew | with_reducible apply Blk.alloc | with_reducible refine Blk.far ?_ (by first | assumption | (simp; done) | omega | (simp; omega)) _))).mono ?_); rintro e_ w12 ⟨rfl, b_, r_⟩; have nR_ := Asd.mk (below_only (by repeat (first | with_reducible exact HR.out | with_reducible apply bdrewN | with_reducible apply bdrew | with_reducible apply balloc | with_reducible refine bset ?_ (by first | assumption | (simp; done) | omega | (simp; omega)))) r_ (by assumption)); have nB_g := Asd.mk b_; have nB_bw := Asd.mk (Blk.grown (by repeat (first | with_reducible exact HB_bw.out | with_reducible apply Blk.drewN | with_reducible apply Blk.drew | with_reducible apply Blk.alloc | with_reducible refine Blk.far ?_ (by first | assumption | (simp; done) | omega | (simp; omega)) _)) r_ (by simp; omega)); obtain ⟨hc_, hf_, _, _⟩ := gcell r_; have hz_ := r_.size; (try simp at hz_); have cw12_wr_heap_size_1 : w12.cell? ⟨wr.heap.size, 1, none⟩ = some (.int .i64 pa) := (by rw [hc_ _ _ (by first | assumption | (simp; done) | omega | (simp; omega)) (by first | assumption | (simp; done) | omega | (simp; omega))]; go_simp); have cw12_wr_heap_size_2 : w12.cell? ⟨wr.heap.size, 2, none⟩ = some (.int .i64 pb) := (by rw [hc_ _ _ (by first | assumption | (simp; done) | omega | (simp; omega)) (by first | assumption | (simp; done) | omega | (simp; omega))]; go_simp); have cw12_wr_heap_size_3 : w12.cell? ⟨wr.heap.size, 3, none⟩ = some (.bool x0) := (by rw [hc_ _ _ (by first | assumption | (simp; done) | omega | (simp; omega)) (by first | assumption | (simp; done) | omega | (simp; omega))]; go_simp); have cw12_wr_heap_size_4 : w12.cell? ⟨wr.heap.size, 4, none⟩ = some (.int .i64 x1) := (by rw [hc_ _ _ (by first | assumption | (simp; done) | omega | (simp; omega)) (by first | assumption | (simp; done) | omega | (simp; omega))]; go_simp); have cw12_wr_heap_size_5 : w12.cell? ⟨wr.heap.size, 5, none⟩ = some (.int .i64 x2) := (by rw [hc_ _ _ (by first | assumption | (simp; done) | omega | (simp; omega)) (by first | assumption | (simp; done) | omega | (simp; omega))]; go_simp); have cw12_wr_heap_size_6 : w12.cell? ⟨wr.heap.size, 6, none⟩ = some (.int .i64 x3) := (by rw [hc_ _ _ (by first | assumption | (simp; done) | omega | (simp; omega)) (by first | assumption | (simp; done) | omega | (simp; omega))]; go_simp); have cw12_wr_heap_size_7 : w12.cell? ⟨wr.heap.size, 7, none⟩ = some (.int .i64 x4) := (by rw [hc_ _ _ (by first | assumption | (simp; done) | omega | (simp; omega)) (by first | assumption | (simp; done) | omega | (simp; omega))]; go_simp); have cw12_wr_heap_size_8 : w12.cell? ⟨wr.heap.size, 8, none⟩ = some (.int .i64 x5) := (by rw [hc_ _ _ (by first | assumption | (simp; done) | omega | (simp; omega)) (by first | assumption | (simp; done) | omega | (simp; omega))]; go_simp); clear hc_ hf_; have zw12_g : g < w12.heap.size := (by omega); have zw12_bw : bw < w12.heap.size := (by omega); have zw12_wr_heap_size : wr.heap.size < w12.heap.size := (by omega); clear hz_ HR HB_g HB_bw cw11_wr_heap_size_1 cw11_wr_heap_size_2 cw11_wr_heap_size_3 cw11_wr_heap_size_4 cw11_wr_heap_size_5 cw11_wr_heap_size_6 cw11_wr_heap_size_7 cw11_wr_heap_size_8; have HR := nR_; clear nR_; have HB_g := nB_g; clear nB_g; have HB_bw := nB_bw; clear nB_bw; clear b_ r_))
                go_wp2_with fail
                have hl2 : (upd l pa.toNat ⟨x0, x1, x2, x3, x4, x5⟩) kk = l kk := by unfold upd; rw [if_neg (by omega)]
                have HL := Asd.mk hl2
                clear hl2
                have hne := fun W => neq_self ((upd l pa.toNat ⟨x0, x1, x2, x3, x4, x5⟩) kk) W
                refine start_ (n := 13) (S := fun w' => Blk w' g 71 (fc (upd l pa.toNat ⟨x0, x1, x2, x3, x4, x5⟩)) ∧ Blk w' bw 29 (c6 ((upd l pa.toNat ⟨x0, x1, x2, x3, x4, x5⟩) kk)) ∧ Below w.heap.size w w' ∧ w'.cell? ⟨bw, 0, none⟩ = some (.bool ((upd l pa.toNat ⟨x0, x1, x2, x3, x4, x5⟩) kk).t) ∧ w'.cell? ⟨bw, 1, none⟩ = some (.int .i64 ((upd l pa.toNat ⟨x0, x1, x2, x3, x4, x5⟩) kk).b) ∧ w'.cell? ⟨bw, 2, none⟩ = some (.int .i64 ((upd l pa.toNat ⟨x0, x1, x2, x3, x4, x5⟩) kk).c) ∧ w'.cell? ⟨bw, 3, none⟩ = some (.int .i64 ((upd l pa.toNat ⟨x0, x1, x2, x3, x4, x5⟩) kk).d) ∧ w'.cell? ⟨bw, 4, none⟩ = some (.int .i64 ((upd l pa.toNat ⟨x0, x1, x2, x3, x4, x5⟩) kk).e) ∧ w'.cell? ⟨bw, 5, none⟩ = some (.int .i64 ((upd l pa.toNat ⟨x0, x1, x2, x3, x4, x5⟩) kk).f)) (ds := []) #[false, false, false, false, false, false, false, false, false, false, false, false, false] (by kernel_rfl) rfl rfl ⟨(by repeat (first | with_reducible exact HB_g.out | with_reducible apply Blk.drewN | with_reducible apply Blk.drew | with_reducible apply Blk.alloc | with_reducible refine Blk.far ?_ (by first | assumption | (simp; done) | omega | (simp; omega)) _)), (Blk.drew (HL.out.symm ▸ HB_bw.out)), (by repeat (first | with_reducible exact HR.out | with_reducible apply bdrewN | with_reducible apply bdrew | with_reducible apply balloc | with_reducible refine bset ?_ (by first | assumption | (simp; done) | omega | (simp; omega)))), c6_cells (show Blk _ bw 29 (c6 ((upd l pa.toNat ⟨x0, x1, x2, x3, x4, x5⟩) kk)) from (Blk.drew (HL.out.symm ▸ HB_bw.out)))⟩ (fun hHeld => ?_)
                refine pure_ (i := 0) (N := some 89) (v := ?_) (a' := ?_) #[true, false, false, false, false, false, false, false, false, false, false, false, false] rfl rfl (by kernel_rfl) (fun _ _ _ h => h) (Or.inl ⟨by rfl, ?_⟩) ?_ ?_
                rotate_left
                · intro w'
                  go_simp
                  with_reducible rfl
                rotate_left
                · simp only [Act.put, List.setIfInBounds_toArray, List.set_cons_zero, List.set_cons_succ, i64_w, i32_w]
                  rfl
                refine pure_ (i := 1) (N := some 90) (v := ?_) (a' := ?_) #[true, true, false, false, false, false, false, false, false, false, false, false, false] rfl rfl (by kernel_rfl) (fun _ _ _ h => h) (Or.inl ⟨by rfl, ?_⟩) ?_ ?_
                rotate_left
                · intro w'
                  go_simp
                  with_reducible rfl
                rotate_left
                · simp only [Act.put, List.setIfInBounds_toArray, List.set_cons_zero, List.set_cons_succ, i64_w, i32_w]
                  rfl
                refine take_ (i := 3) (N := some 92) (v := ?_) (a' := ?_) #[true, true, false, true, false, false, false, false, false, false, false, false, false] rfl rfl (by kernel_rfl) (fun _ _ _ h => h) (Or.inl ⟨by rfl, ?_⟩) hHeld ?_ ?_
                rotate_left
                · rintro w' ⟨s0, s1, s2, s3⟩
                  go_simp
                  with_reducible rfl
                rotate_left
                · simp only [Act.put, List.setIfInBounds_toArray, List.set_cons_zero, List.set_cons_succ, i64_w, i32_w]
                  rfl
                refine one_ (i := 2) (N := some 91) #[true, true, true, true, false, false, false, false, false, false, false, false, false] rfl rfl (by kernel_rfl) (by decide) (fun K hK => ?_)
                refine goes_ Try.func38 (by kernel_rfl) rfl #[.pointer (some ⟨g, 0, none⟩), .int .i64 (kk : Int)] (by rfl) rfl rfl (by simp only [List.map_toArray, List.map_cons, List.map_nil]; rfl) ?_
                with_reducible refine (getK g kk (upd l pa.toNat ⟨x0, x1, x2, x3, x4, x5⟩) _ hk8 hHeld.1).mono ?_
                rintro e_ wh5 ⟨rfl, h5⟩
                refine ⟨_, rfl, ?_⟩
                refine hK.out _ _ ⟨hHeld.1.below h5 hHeld.1.lt, hHeld.2.1.below h5 hHeld.2.1.lt, bcall hHeld.2.2.1 h5, c6_cells (hHeld.2.1.below h5 hHeld.2.1.lt)⟩ (fun hHeld => ?_)
                clear hK K
                refine norm_ (a' := ?_) ?_ ?_
                rotate_left
                · show Act.put _ (some 91) _ = _
                  simp only [Act.put, List.setIfInBounds_toArray, List.set_cons_zero, List.set_cons_succ, i64_w, i32_w]
                  rfl
                refine pure_ (i := 4) (N := some 93) (v := ?_) (a' := ?_) #[true, true, true, true, true, false, false, false, false, false, false, false, false] rfl rfl (by kernel_rfl) (fun _ _ _ h => h) (Or.inl ⟨by rfl, ?_⟩) ?_ ?_
                rotate_left
                · intro w'
                  go_simp
                  with_reducible rfl
                rotate_left
                · simp only [Act.put, List.setIfInBounds_toArray, List.set_cons_zero, List.set_cons_succ, i64_w, i32_w]
                  rfl
                refine pure_ (i := 5) (N := some 94) (v := ?_) (a' := ?_) #[true, true, true, true, true, true, false, false, false, false, false, false, false] rfl rfl (by kernel_rfl) (fun _ _ _ h => h) (Or.inl ⟨by rfl, ?_⟩) ?_ ?_
                rotate_left
                · intro w'
                  go_simp
                  with_reducible rfl
                rotate_left
                · simp only [Act.put, List.setIfInBounds_toArray, List.set_cons_zero, List.set_cons_succ, i64_w, i32_w]
                  rfl
                refine pure_ (i := 6) (N := some 95) (v := ?_) (a' := ?_) #[true, true, true, true, true, true, true, false, false, false, false, false, false] rfl rfl (by kernel_rfl) (fun _ _ _ h => h) (Or.inl ⟨by rfl, ?_⟩) ?_ ?_
                rotate_left
                · intro w'
                  go_simp
                  with_reducible rfl
                rotate_left
                · simp only [Act.put, List.setIfInBounds_toArray, List.set_cons_zero, List.set_cons_succ, i64_w, i32_w]
                  rfl
                refine pure_ (i := 7) (N := some 96) (v := ?_) (a' := ?_) #[true, true, true, true, true, true, true, true, false, false, false, false, false] rfl rfl (by kernel_rfl) (fun _ _ _ h => h) (Or.inl ⟨by rfl, ?_⟩) ?_ ?_
                rotate_left
                · intro w'
                  go_simp
                  with_reducible rfl
                rotate_left
                · simp only [Act.put, List.setIfInBounds_toArray, List.set_cons_zero, List.set_cons_succ, i64_w, i32_w]
                  rfl
                refine pure_ (i := 9) (N := some 98) (v := ?_) (a' := ?_) #[true, true, true, true, true, true, true, true, false, true, false, false, false] rfl rfl (by kernel_rfl) (fun _ _ _ h => h) (Or.inl ⟨by rfl, ?_⟩) ?_ ?_
                rotate_left
                · intro w'
                  go_simp
                  with_reducible rfl
                rotate_left
                · simp only [Act.put, List.setIfInBounds_toArray, List.set_cons_zero, List.set_cons_succ, i64_w, i32_w]
                  rfl
                refine take_ (i := 10) (N := some 99) (v := ?_) (a' := ?_) #[true, true, true, true, true, true, true, true, false, true, true, false, false] rfl rfl (by kernel_rfl) (fun _ _ _ h => h) (Or.inl ⟨by rfl, ?_⟩) hHeld ?_ ?_
                rotate_left
                · rintro w' ⟨s0, s1, s2, s3⟩
                  go_simp
                  with_reducible rfl
                rotate_left
                · simp only [Act.put, List.setIfInBounds_toArray, List.set_cons_zero, List.set_cons_succ, i64_w, i32_w]
                  rfl
                refine one_ (i := 8) (N := some 97) #[true, true, true, true, true, true, true, true, true, true, true, false, false] rfl rfl (by kernel_rfl) (by decide) (fun K hK => ?_)
                refine goes_ Try.func40 (by kernel_rfl) rfl #[.pointer (some ⟨g, 0, none⟩), .int .i64 (kk : Int)] (by rfl) rfl rfl (by simp only [List.map_toArray, List.map_cons, List.map_nil]; rfl) ?_
                with_reducible refine (valK g kk (upd l pa.toNat ⟨x0, x1, x2, x3, x4, x5⟩) _ hk8 hHeld.1).mono ?_
                rintro e_ wh6 ⟨rfl, h6⟩
                refine ⟨_, rfl, ?_⟩
                refine hK.out _ _ ⟨hHeld.1.below h6 hHeld.1.lt, hHeld.2.1.below h6 hHeld.2.1.lt, bcall hHeld.2.2.1 h6, c6_cells (hHeld.2.1.below h6 hHeld.2.1.lt)⟩ (fun hHeld => ?_)
                clear hK K
                refine norm_ (a' := ?_) ?_ ?_
                rotate_left
                · show Act.put _ (some 97) _ = _
                  simp only [Act.put, List.setIfInBounds_toArray, List.set_cons_zero, List.set_cons_succ, i64_w, i32_w]
                  rfl
                refine pure_ (i := 11) (N := some 100) (v := ?_) (a' := ?_) #[true, true, true, true, true, true, true, true, true, true, true, true, false] rfl rfl (by kernel_rfl) (fun _ _ _ h => h) (Or.inl ⟨by rfl, ?_⟩) ?_ ?_
                rotate_left
                · intro w'
                  go_simp
                  with_reducible rfl
                rotate_left
                · simp only [Act.put, List.setIfInBounds_toArray, List.set_cons_zero, List.set_cons_succ, i64_w, i32_w]
                  rfl
                refine pure_ (i := 12) (N := some 101) (v := ?_) (a' := ?_) #[true, true, true, true, true, true, true, true, true, true, true, true, true] rfl rfl (by kernel_rfl) (fun _ _ _ h => h) (Or.inl ⟨by rfl, ?_⟩) ?_ ?_
                rotate_left
                · intro w'
                  go_simp
                  with_reducible rfl
                rotate_left
                · simp only [Act.put, List.setIfInBounds_toArray, List.set_cons_zero, List.set_cons_succ, i64_w, i32_w]
                  rfl
                refine done_ (by kernel_rfl) ?_
                clear hne
                go_wp2_with fail
                go_roundg (gk - 1)
                case measure => omega
                case rel => exact ⟨k + 1, upd l pa.toNat ⟨x0, x1, x2, x3, x4, x5⟩, by simp, ⟨by omega, by omega⟩, ⟨hHeld.1⟩, ⟨hHeld.2.1⟩, ⟨hHeld.2.2.1⟩⟩
          · skip
            have hf : fine pa ⟨x0, x1, x2, x3, x4, x5⟩ = false := by unfold fine; rw [decide_eq_false (by omega)]; rfl
            have HS := Asd.mk (fun W hW => set_no g l pa ⟨x0, x1, x2, x3, x4, x5⟩ W hf hxe hW)
            clear hf
            go_wp2_with fail
            (go_at_call 34; ((with_reducible refine (HS.out _ (by repeat (first | with_reducible exact HB_g.out | with_reducible apply Blk.drewN | with_reducible apply Blk.drew | with_reducible apply Blk.alloc | with_reducible refine Blk.far ?_ (by first | assumption | (simp; done) | omega | (simp; omega)) _))).mono ?_); rintro e_ w11 ⟨rfl, b_, r_⟩; have nR_ := Asd.mk (below_only (by repeat (first | with_reducible exact HR.out | with_reducible apply bdrewN | with_reducible apply bdrew | with_reducible apply balloc | with_reducible refine bset ?_ (by first | assumption | (simp; done) | omega | (simp; omega)))) r_ (by assumption)); have nB_g := Asd.mk b_; have nB_bw := Asd.mk (Blk.grown (by repeat (first | with_reducible exact HB_bw.out | with_reducible apply Blk.drewN | with_reducible apply Blk.drew | with_reducible apply Blk.alloc | with_reducible refine Blk.far ?_ (by first | assumption | (simp; done) | omega | (simp; omega)) _)) r_ (by simp; omega)); obtain ⟨hc_, hf_, _, _⟩ := gcell r_; have hz_ := r_.size; (try simp at hz_); have cw11_wr_heap_size_1 : w11.cell? ⟨wr.heap.size, 1, none⟩ = some (.int .i64 pa) := (by rw [hc_ _ _ (by first | assumption | (simp; done) | omega | (simp; omega)) (by first | assumption | (simp; done) | omega | (simp; omega))]; go_simp); have cw11_wr_heap_size_2 : w11.cell? ⟨wr.heap.size, 2, none⟩ = some (.int .i64 pb) := (by rw [hc_ _ _ (by first | assumption | (simp; done) | omega | (simp; omega)) (by first | assumption | (simp; done) | omega | (simp; omega))]; go_simp); have cw11_wr_heap_size_3 : w11.cell? ⟨wr.heap.size, 3, none⟩ = some (.bool x0) := (by rw [hc_ _ _ (by first | assumption | (simp; done) | omega | (simp; omega)) (by first | assumption | (simp; done) | omega | (simp; omega))]; go_simp); have cw11_wr_heap_size_4 : w11.cell? ⟨wr.heap.size, 4, none⟩ = some (.int .i64 x1) := (by rw [hc_ _ _ (by first | assumption | (simp; done) | omega | (simp; omega)) (by first | assumption | (simp; done) | omega | (simp; omega))]; go_simp); have cw11_wr_heap_size_5 : w11.cell? ⟨wr.heap.size, 5, none⟩ = some (.int .i64 x2) := (by rw [hc_ _ _ (by first | assumption | (simp; done) | omega | (simp; omega)) (by first | assumption | (simp; done) | omega | (simp; omega))]; go_simp); have cw11_wr_heap_size_6 : w11.cell? ⟨wr.heap.size, 6, none⟩ = some (.int .i64 x3) := (by rw [hc_ _ _ (by first | assumption | (simp; done) | omega | (simp; omega)) (by first | assumption | (simp; done) | omega | (simp; omega))]; go_simp); have cw11_wr_heap_size_7 : w11.cell? ⟨wr.heap.size, 7, none⟩ = some (.int .i64 x4) := (by rw [hc_ _ _ (by first | assumption | (simp; done) | omega | (simp; omega)) (by first | assumption | (simp; done) | omega | (simp; omega))]; go_simp); have cw11_wr_heap_size_8 : w11.cell? ⟨wr.heap.size, 8, none⟩ = some (.int .i64 x5) := (by rw [hc_ _ _ (by first | assumption | (simp; done) | omega | (simp; omega)) (by first | assumption | (simp; done) | omega | (simp; omega))]; go_simp); clear hc_ hf_; have zw11_g : g < w11.heap.size := (by omega); have zw11_bw : bw < w11.heap.size := (by omega); have zw11_wr_heap_size : wr.heap.size < w11.heap.size := (by omega); clear hz_ HR HB_g HB_bw; have HR := nR_; clear nR_; have HB_g := nB_g; clear nB_g; have HB_bw := nB_bw; clear nB_bw; clear b_ r_))
            go_wp2_with fail
            have hne := fun W => neq_self ((l) kk) W
            refine start_ (n := 13) (S := fun w' => Blk w' g 71 (fc (l)) ∧ Blk w' bw 29 (c6 ((l) kk)) ∧ Below w.heap.size w w' ∧ w'.cell? ⟨bw, 0, none⟩ = some (.bool ((l) kk).t) ∧ w'.cell? ⟨bw, 1, none⟩ = some (.int .i64 ((l) kk).b) ∧ w'.cell? ⟨bw, 2, none⟩ = some (.int .i64 ((l) kk).c) ∧ w'.cell? ⟨bw, 3, none⟩ = some (.int .i64 ((l) kk).d) ∧ w'.cell? ⟨bw, 4, none⟩ = some (.int .i64 ((l) kk).e) ∧ w'.cell? ⟨bw, 5, none⟩ = some (.int .i64 ((l) kk).f)) (ds := []) #[false, false, false, false, false, false, false, false, false, false, false, false, false] (by kernel_rfl) rfl rfl ⟨(by repeat (first | with_reducible exact HB_g.out | with_reducible apply Blk.drewN | with_reducible apply Blk.drew | with_reducible apply Blk.alloc | with_reducible refine Blk.far ?_ (by first | assumption | (simp; done) | omega | (simp; omega)) _)), (Blk.drew HB_bw.out), (by repeat (first | with_reducible exact HR.out | with_reducible apply bdrewN | with_reducible apply bdrew | with_reducible apply balloc | with_reducible refine bset ?_ (by first | assumption | (simp; done) | omega | (simp; omega)))), c6_cells (show Blk _ bw 29 (c6 ((l) kk)) from (Blk.drew HB_bw.out))⟩ (fun hHeld => ?_)
            refine pure_ (i := 0) (N := some 89) (v := ?_) (a' := ?_) #[true, false, false, false, false, false, false, false, false, false, false, false, false] rfl rfl (by kernel_rfl) (fun _ _ _ h => h) (Or.inl ⟨by rfl, ?_⟩) ?_ ?_
            rotate_left
            · intro w'
              go_simp
              with_reducible rfl
            rotate_left
            · simp only [Act.put, List.setIfInBounds_toArray, List.set_cons_zero, List.set_cons_succ, i64_w, i32_w]
              rfl
            refine pure_ (i := 1) (N := some 90) (v := ?_) (a' := ?_) #[true, true, false, false, false, false, false, false, false, false, false, false, false] rfl rfl (by kernel_rfl) (fun _ _ _ h => h) (Or.inl ⟨by rfl, ?_⟩) ?_ ?_
            rotate_left
            · intro w'
              go_simp
              with_reducible rfl
            rotate_left
            · simp only [Act.put, List.setIfInBounds_toArray, List.set_cons_zero, List.set_cons_succ, i64_w, i32_w]
              rfl
            refine take_ (i := 3) (N := some 92) (v := ?_) (a' := ?_) #[true, true, false, true, false, false, false, false, false, false, false, false, false] rfl rfl (by kernel_rfl) (fun _ _ _ h => h) (Or.inl ⟨by rfl, ?_⟩) hHeld ?_ ?_
            rotate_left
            · rintro w' ⟨s0, s1, s2, s3⟩
              go_simp
              with_reducible rfl
            rotate_left
            · simp only [Act.put, List.setIfInBounds_toArray, List.set_cons_zero, List.set_cons_succ, i64_w, i32_w]
              rfl
            refine one_ (i := 2) (N := some 91) #[true, true, true, true, false, false, false, false, false, false, false, false, false] rfl rfl (by kernel_rfl) (by decide) (fun K hK => ?_)
            refine goes_ Try.func38 (by kernel_rfl) rfl #[.pointer (some ⟨g, 0, none⟩), .int .i64 (kk : Int)] (by rfl) rfl rfl (by simp only [List.map_toArray, List.map_cons, List.map_nil]; rfl) ?_
            with_reducible refine (getK g kk (l) _ hk8 hHeld.1).mono ?_
            rintro e_ wh5 ⟨rfl, h5⟩
            refine ⟨_, rfl, ?_⟩
            refine hK.out _ _ ⟨hHeld.1.below h5 hHeld.1.lt, hHeld.2.1.below h5 hHeld.2.1.lt, bcall hHeld.2.2.1 h5, c6_cells (hHeld.2.1.below h5 hHeld.2.1.lt)⟩ (fun hHeld => ?_)
            clear hK K
            refine norm_ (a' := ?_) ?_ ?_
            rotate_left
            · show Act.put _ (some 91) _ = _
              simp only [Act.put, List.setIfInBounds_toArray, List.set_cons_zero, List.set_cons_succ, i64_w, i32_w]
              rfl
            refine pure_ (i := 4) (N := some 93) (v := ?_) (a' := ?_) #[true, true, true, true, true, false, false, false, false, false, false, false, false] rfl rfl (by kernel_rfl) (fun _ _ _ h => h) (Or.inl ⟨by rfl, ?_⟩) ?_ ?_
            rotate_left
            · intro w'
              go_simp
              with_reducible rfl
            rotate_left
            · simp only [Act.put, List.setIfInBounds_toArray, List.set_cons_zero, List.set_cons_succ, i64_w, i32_w]
              rfl
            refine pure_ (i := 5) (N := some 94) (v := ?_) (a' := ?_) #[true, true, true, true, true, true, false, false, false, false, false, false, false] rfl rfl (by kernel_rfl) (fun _ _ _ h => h) (Or.inl ⟨by rfl, ?_⟩) ?_ ?_
            rotate_left
            · intro w'
              go_simp
              with_reducible rfl
            rotate_left
            · simp only [Act.put, List.setIfInBounds_toArray, List.set_cons_zero, List.set_cons_succ, i64_w, i32_w]
              rfl
            refine pure_ (i := 6) (N := some 95) (v := ?_) (a' := ?_) #[true, true, true, true, true, true, true, false, false, false, false, false, false] rfl rfl (by kernel_rfl) (fun _ _ _ h => h) (Or.inl ⟨by rfl, ?_⟩) ?_ ?_
            rotate_left
            · intro w'
              go_simp
              with_reducible rfl
            rotate_left
            · simp only [Act.put, List.setIfInBounds_toArray, List.set_cons_zero, List.set_cons_succ, i64_w, i32_w]
              rfl
            refine pure_ (i := 7) (N := some 96) (v := ?_) (a' := ?_) #[true, true, true, true, true, true, true, true, false, false, false, false, false] rfl rfl (by kernel_rfl) (fun _ _ _ h => h) (Or.inl ⟨by rfl, ?_⟩) ?_ ?_
            rotate_left
            · intro w'
              go_simp
              with_reducible rfl
            rotate_left
            · simp only [Act.put, List.setIfInBounds_toArray, List.set_cons_zero, List.set_cons_succ, i64_w, i32_w]
              rfl
            refine pure_ (i := 9) (N := some 98) (v := ?_) (a' := ?_) #[true, true, true, true, true, true, true, true, false, true, false, false, false] rfl rfl (by kernel_rfl) (fun _ _ _ h => h) (Or.inl ⟨by rfl, ?_⟩) ?_ ?_
            rotate_left
            · intro w'
              go_simp
              with_reducible rfl
            rotate_left
            · simp only [Act.put, List.setIfInBounds_toArray, List.set_cons_zero, List.set_cons_succ, i64_w, i32_w]
              rfl
            refine take_ (i := 10) (N := some 99) (v := ?_) (a' := ?_) #[true, true, true, true, true, true, true, true, false, true, true, false, false] rfl rfl (by kernel_rfl) (fun _ _ _ h => h) (Or.inl ⟨by rfl, ?_⟩) hHeld ?_ ?_
            rotate_left
            · rintro w' ⟨s0, s1, s2, s3⟩
              go_simp
              with_reducible rfl
            rotate_left
            · simp only [Act.put, List.setIfInBounds_toArray, List.set_cons_zero, List.set_cons_succ, i64_w, i32_w]
              rfl
            refine one_ (i := 8) (N := some 97) #[true, true, true, true, true, true, true, true, true, true, true, false, false] rfl rfl (by kernel_rfl) (by decide) (fun K hK => ?_)
            refine goes_ Try.func40 (by kernel_rfl) rfl #[.pointer (some ⟨g, 0, none⟩), .int .i64 (kk : Int)] (by rfl) rfl rfl (by simp only [List.map_toArray, List.map_cons, List.map_nil]; rfl) ?_
            with_reducible refine (valK g kk (l) _ hk8 hHeld.1).mono ?_
            rintro e_ wh6 ⟨rfl, h6⟩
            refine ⟨_, rfl, ?_⟩
            refine hK.out _ _ ⟨hHeld.1.below h6 hHeld.1.lt, hHeld.2.1.below h6 hHeld.2.1.lt, bcall hHeld.2.2.1 h6, c6_cells (hHeld.2.1.below h6 hHeld.2.1.lt)⟩ (fun hHeld => ?_)
            clear hK K
            refine norm_ (a' := ?_) ?_ ?_
            rotate_left
            · show Act.put _ (some 97) _ = _
              simp only [Act.put, List.setIfInBounds_toArray, List.set_cons_zero, List.set_cons_succ, i64_w, i32_w]
              rfl
            refine pure_ (i := 11) (N := some 100) (v := ?_) (a' := ?_) #[true, true, true, true, true, true, true, true, true, true, true, true, false] rfl rfl (by kernel_rfl) (fun _ _ _ h => h) (Or.inl ⟨by rfl, ?_⟩) ?_ ?_
            rotate_left
            · intro w'
              go_simp
              with_reducible rfl
            rotate_left
            · simp only [Act.put, List.setIfInBounds_toArray, List.set_cons_zero, List.set_cons_succ, i64_w, i32_w]
              rfl
            refine pure_ (i := 12) (N := some 101) (v := ?_) (a' := ?_) #[true, true, true, true, true, true, true, true, true, true, true, true, true] rfl rfl (by kernel_rfl) (fun _ _ _ h => h) (Or.inl ⟨by rfl, ?_⟩) ?_ ?_
            rotate_left
            · intro w'
              go_simp
              with_reducible rfl
            rotate_left
            · simp only [Act.put, List.setIfInBounds_toArray, List.set_cons_zero, List.set_cons_succ, i64_w, i32_w]
              rfl
            refine done_ (by kernel_rfl) ?_
            clear hne
            go_wp2_with fail
            go_roundg (gk - 1)
            case measure => omega
            case rel => exact ⟨k + 1, l, by simp, ⟨by omega, by omega⟩, ⟨hHeld.1⟩, ⟨hHeld.2.1⟩, ⟨hHeld.2.2.1⟩⟩
        · skip
          have hf : fine pa ⟨x0, x1, x2, x3, x4, x5⟩ = false := by unfold fine; rw [decide_eq_false (by omega)]; rfl
          have HS := Asd.mk (fun W hW => set_no g l pa ⟨x0, x1, x2, x3, x4, x5⟩ W hf hxe hW)
          clear hf
          go_wp2_with fail
          (go_at_call 34; ((with_reducible refine (HS.out _ (by repeat (first | with_reducible exact HB_g.out | with_reducible apply Blk.drewN | with_reducible apply Blk.drew | with_reducible apply Blk.alloc | with_reducible refine Blk.far ?_ (by first | assumption | (simp; done) | omega | (simp; omega)) _))).mono ?_); rintro e_ w11 ⟨rfl, b_, r_⟩; have nR_ := Asd.mk (below_only (by repeat (first | with_reducible exact HR.out | with_reducible apply bdrewN | with_reducible apply bdrew | with_reducible apply balloc | with_reducible refine bset ?_ (by first | assumption | (simp; done) | omega | (simp; omega)))) r_ (by assumption)); have nB_g := Asd.mk b_; have nB_bw := Asd.mk (Blk.grown (by repeat (first | with_reducible exact HB_bw.out | with_reducible apply Blk.drewN | with_reducible apply Blk.drew | with_reducible apply Blk.alloc | with_reducible refine Blk.far ?_ (by first | assumption | (simp; done) | omega | (simp; omega)) _)) r_ (by simp; omega)); obtain ⟨hc_, hf_, _, _⟩ := gcell r_; have hz_ := r_.size; (try simp at hz_); have cw11_wr_heap_size_1 : w11.cell? ⟨wr.heap.size, 1, none⟩ = some (.int .i64 pa) := (by rw [hc_ _ _ (by first | assumption | (simp; done) | omega | (simp; omega)) (by first | assumption | (simp; done) | omega | (simp; omega))]; go_simp); have cw11_wr_heap_size_2 : w11.cell? ⟨wr.heap.size, 2, none⟩ = some (.int .i64 pb) := (by rw [hc_ _ _ (by first | assumption | (simp; done) | omega | (simp; omega)) (by first | assumption | (simp; done) | omega | (simp; omega))]; go_simp); have cw11_wr_heap_size_3 : w11.cell? ⟨wr.heap.size, 3, none⟩ = some (.bool x0) := (by rw [hc_ _ _ (by first | assumption | (simp; done) | omega | (simp; omega)) (by first | assumption | (simp; done) | omega | (simp; omega))]; go_simp); have cw11_wr_heap_size_4 : w11.cell? ⟨wr.heap.size, 4, none⟩ = some (.int .i64 x1) := (by rw [hc_ _ _ (by first | assumption | (simp; done) | omega | (simp; omega)) (by first | assumption | (simp; done) | omega | (simp; omega))]; go_simp); have cw11_wr_heap_size_5 : w11.cell? ⟨wr.heap.size, 5, none⟩ = some (.int .i64 x2) := (by rw [hc_ _ _ (by first | assumption | (simp; done) | omega | (simp; omega)) (by first | assumption | (simp; done) | omega | (simp; omega))]; go_simp); have cw11_wr_heap_size_6 : w11.cell? ⟨wr.heap.size, 6, none⟩ = some (.int .i64 x3) := (by rw [hc_ _ _ (by first | assumption | (simp; done) | omega | (simp; omega)) (by first | assumption | (simp; done) | omega | (simp; omega))]; go_simp); have cw11_wr_heap_size_7 : w11.cell? ⟨wr.heap.size, 7, none⟩ = some (.int .i64 x4) := (by rw [hc_ _ _ (by first | assumption | (simp; done) | omega | (simp; omega)) (by first | assumption | (simp; done) | omega | (simp; omega))]; go_simp); have cw11_wr_heap_size_8 : w11.cell? ⟨wr.heap.size, 8, none⟩ = some (.int .i64 x5) := (by rw [hc_ _ _ (by first | assumption | (simp; done) | omega | (simp; omega)) (by first | assumption | (simp; done) | omega | (simp; omega))]; go_simp); clear hc_ hf_; have zw11_g : g < w11.heap.size := (by omega); have zw11_bw : bw < w11.heap.size := (by omega); have zw11_wr_heap_size : wr.heap.size < w11.heap.size := (by omega); clear hz_ HR HB_g HB_bw; have HR := nR_; clear nR_; have HB_g := nB_g; clear nB_g; have HB_bw := nB_bw; clear nB_bw; clear b_ r_))
          go_wp2_with fail
          have hne := fun W => neq_self ((l) kk) W
          refine start_ (n := 13) (S := fun w' => Blk w' g 71 (fc (l)) ∧ Blk w' bw 29 (c6 ((l) kk)) ∧ Below w.heap.size w w' ∧ w'.cell? ⟨bw, 0, none⟩ = some (.bool ((l) kk).t) ∧ w'.cell? ⟨bw, 1, none⟩ = some (.int .i64 ((l) kk).b) ∧ w'.cell? ⟨bw, 2, none⟩ = some (.int .i64 ((l) kk).c) ∧ w'.cell? ⟨bw, 3, none⟩ = some (.int .i64 ((l) kk).d) ∧ w'.cell? ⟨bw, 4, none⟩ = some (.int .i64 ((l) kk).e) ∧ w'.cell? ⟨bw, 5, none⟩ = some (.int .i64 ((l) kk).f)) (ds := []) #[false, false, false, false, false, false, false, false, false, false, false, false, false] (by kernel_rfl) rfl rfl ⟨(by repeat (first | with_reducible exact HB_g.out | with_reducible apply Blk.drewN | with_reducible apply Blk.drew | with_reducible apply Blk.alloc | with_reducible refine Blk.far ?_ (by first | assumption | (simp; done) | omega | (simp; omega)) _)), (Blk.drew HB_bw.out), (by repeat (first | with_reducible exact HR.out | with_reducible apply bdrewN | with_reducible apply bdrew | with_reducible apply balloc | with_reducible refine bset ?_ (by first | assumption | (simp; done) | omega | (simp; omega)))), c6_cells (show Blk _ bw 29 (c6 ((l) kk)) from (Blk.drew HB_bw.out))⟩ (fun hHeld => ?_)
          refine pure_ (i := 0) (N := some 89) (v := ?_) (a' := ?_) #[true, false, false, false, false, false, false, false, false, false, false, false, false] rfl rfl (by kernel_rfl) (fun _ _ _ h => h) (Or.inl ⟨by rfl, ?_⟩) ?_ ?_
          rotate_left
          · intro w'
            go_simp
            with_reducible rfl
          rotate_left
          · simp only [Act.put, List.setIfInBounds_toArray, List.set_cons_zero, List.set_cons_succ, i64_w, i32_w]
            rfl
          refine pure_ (i := 1) (N := some 90) (v := ?_) (a' := ?_) #[true, true, false, false, false, false, false, false, false, false, false, false, false] rfl rfl (by kernel_rfl) (fun _ _ _ h => h) (Or.inl ⟨by rfl, ?_⟩) ?_ ?_
          rotate_left
          · intro w'
            go_simp
            with_reducible rfl
          rotate_left
          · simp only [Act.put, List.setIfInBounds_toArray, List.set_cons_zero, List.set_cons_succ, i64_w, i32_w]
            rfl
          refine take_ (i := 3) (N := some 92) (v := ?_) (a' := ?_) #[true, true, false, true, false, false, false, false, false, false, false, false, false] rfl rfl (by kernel_rfl) (fun _ _ _ h => h) (Or.inl ⟨by rfl, ?_⟩) hHeld ?_ ?_
          rotate_left
          · rintro w' ⟨s0, s1, s2, s3⟩
            go_simp
            with_reducible rfl
          rotate_left
          · simp only [Act.put, List.setIfInBounds_toArray, List.set_cons_zero, List.set_cons_succ, i64_w, i32_w]
            rfl
          refine one_ (i := 2) (N := some 91) #[true, true, true, true, false, false, false, false, false, false, false, false, false] rfl rfl (by kernel_rfl) (by decide) (fun K hK => ?_)
          refine goes_ Try.func38 (by kernel_rfl) rfl #[.pointer (some ⟨g, 0, none⟩), .int .i64 (kk : Int)] (by rfl) rfl rfl (by simp only [List.map_toArray, List.map_cons, List.map_nil]; rfl) ?_
          with_reducible refine (getK g kk (l) _ hk8 hHeld.1).mono ?_
          rintro e_ wh5 ⟨rfl, h5⟩
          refine ⟨_, rfl, ?_⟩
          refine hK.out _ _ ⟨hHeld.1.below h5 hHeld.1.lt, hHeld.2.1.below h5 hHeld.2.1.lt, bcall hHeld.2.2.1 h5, c6_cells (hHeld.2.1.below h5 hHeld.2.1.lt)⟩ (fun hHeld => ?_)
          clear hK K
          refine norm_ (a' := ?_) ?_ ?_
          rotate_left
          · show Act.put _ (some 91) _ = _
            simp only [Act.put, List.setIfInBounds_toArray, List.set_cons_zero, List.set_cons_succ, i64_w, i32_w]
            rfl
          refine pure_ (i := 4) (N := some 93) (v := ?_) (a' := ?_) #[true, true, true, true, true, false, false, false, false, false, false, false, false] rfl rfl (by kernel_rfl) (fun _ _ _ h => h) (Or.inl ⟨by rfl, ?_⟩) ?_ ?_
          rotate_left
          · intro w'
            go_simp
            with_reducible rfl
          rotate_left
          · simp only [Act.put, List.setIfInBounds_toArray, List.set_cons_zero, List.set_cons_succ, i64_w, i32_w]
            rfl
          refine pure_ (i := 5) (N := some 94) (v := ?_) (a' := ?_) #[true, true, true, true, true, true, false, false, false, false, false, false, false] rfl rfl (by kernel_rfl) (fun _ _ _ h => h) (Or.inl ⟨by rfl, ?_⟩) ?_ ?_
          rotate_left
          · intro w'
            go_simp
            with_reducible rfl
          rotate_left
          · simp only [Act.put, List.setIfInBounds_toArray, List.set_cons_zero, List.set_cons_succ, i64_w, i32_w]
            rfl
          refine pure_ (i := 6) (N := some 95) (v := ?_) (a' := ?_) #[true, true, true, true, true, true, true, false, false, false, false, false, false] rfl rfl (by kernel_rfl) (fun _ _ _ h => h) (Or.inl ⟨by rfl, ?_⟩) ?_ ?_
          rotate_left
          · intro w'
            go_simp
            with_reducible rfl
          rotate_left
          · simp only [Act.put, List.setIfInBounds_toArray, List.set_cons_zero, List.set_cons_succ, i64_w, i32_w]
            rfl
          refine pure_ (i := 7) (N := some 96) (v := ?_) (a' := ?_) #[true, true, true, true, true, true, true, true, false, false, false, false, false] rfl rfl (by kernel_rfl) (fun _ _ _ h => h) (Or.inl ⟨by rfl, ?_⟩) ?_ ?_
          rotate_left
          · intro w'
            go_simp
            with_reducible rfl
          rotate_left
          · simp only [Act.put, List.setIfInBounds_toArray, List.set_cons_zero, List.set_cons_succ, i64_w, i32_w]
            rfl
          refine pure_ (i := 9) (N := some 98) (v := ?_) (a' := ?_) #[true, true, true, true, true, true, true, true, false, true, false, false, false] rfl rfl (by kernel_rfl) (fun _ _ _ h => h) (Or.inl ⟨by rfl, ?_⟩) ?_ ?_
          rotate_left
          · intro w'
            go_simp
            with_reducible rfl
          rotate_left
          · simp only [Act.put, List.setIfInBounds_toArray, List.set_cons_zero, List.set_cons_succ, i64_w, i32_w]
            rfl
          refine take_ (i := 10) (N := some 99) (v := ?_) (a' := ?_) #[true, true, true, true, true, true, true, true, false, true, true, false, false] rfl rfl (by kernel_rfl) (fun _ _ _ h => h) (Or.inl ⟨by rfl, ?_⟩) hHeld ?_ ?_
          rotate_left
          · rintro w' ⟨s0, s1, s2, s3⟩
            go_simp
            with_reducible rfl
          rotate_left
          · simp only [Act.put, List.setIfInBounds_toArray, List.set_cons_zero, List.set_cons_succ, i64_w, i32_w]
            rfl
          refine one_ (i := 8) (N := some 97) #[true, true, true, true, true, true, true, true, true, true, true, false, false] rfl rfl (by kernel_rfl) (by decide) (fun K hK => ?_)
          refine goes_ Try.func40 (by kernel_rfl) rfl #[.pointer (some ⟨g, 0, none⟩), .int .i64 (kk : Int)] (by rfl) rfl rfl (by simp only [List.map_toArray, List.map_cons, List.map_nil]; rfl) ?_
          with_reducible refine (valK g kk (l) _ hk8 hHeld.1).mono ?_
          rintro e_ wh6 ⟨rfl, h6⟩
          refine ⟨_, rfl, ?_⟩
          refine hK.out _ _ ⟨hHeld.1.below h6 hHeld.1.lt, hHeld.2.1.below h6 hHeld.2.1.lt, bcall hHeld.2.2.1 h6, c6_cells (hHeld.2.1.below h6 hHeld.2.1.lt)⟩ (fun hHeld => ?_)
          clear hK K
          refine norm_ (a' := ?_) ?_ ?_
          rotate_left
          · show Act.put _ (some 97) _ = _
            simp only [Act.put, List.setIfInBounds_toArray, List.set_cons_zero, List.set_cons_succ, i64_w, i32_w]
            rfl
          refine pure_ (i := 11) (N := some 100) (v := ?_) (a' := ?_) #[true, true, true, true, true, true, true, true, true, true, true, true, false] rfl rfl (by kernel_rfl) (fun _ _ _ h => h) (Or.inl ⟨by rfl, ?_⟩) ?_ ?_
          rotate_left
          · intro w'
            go_simp
            with_reducible rfl
          rotate_left
          · simp only [Act.put, List.setIfInBounds_toArray, List.set_cons_zero, List.set_cons_succ, i64_w, i32_w]
            rfl
          refine pure_ (i := 12) (N := some 101) (v := ?_) (a' := ?_) #[true, true, true, true, true, true, true, true, true, true, true, true, true] rfl rfl (by kernel_rfl) (fun _ _ _ h => h) (Or.inl ⟨by rfl, ?_⟩) ?_ ?_
          rotate_left
          · intro w'
            go_simp
            with_reducible rfl
          rotate_left
          · simp only [Act.put, List.setIfInBounds_toArray, List.set_cons_zero, List.set_cons_succ, i64_w, i32_w]
            rfl
          refine done_ (by kernel_rfl) ?_
          clear hne
          go_wp2_with fail
          go_roundg (gk - 1)
          case measure => omega
          case rel => exact ⟨k + 1, l, by simp, ⟨by omega, by omega⟩, ⟨hHeld.1⟩, ⟨hHeld.2.1⟩, ⟨hHeld.2.2.1⟩⟩
    · have hkI : ¬ (k : Int) < (len : Int) := by omega
      go_wp2
      go_ret
      exact ⟨by simp, HR.out⟩
end Go.Proofs.Ytijcniflghjoaaa.Rg
