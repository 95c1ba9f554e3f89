/- The walk of QuarClock. -/
import Derived.Test.YtldgecnmmklldaaQrHead
import Derived.Test.YtldgecnmmklldaaQrEp
namespace Go.Proofs.Ytldgecnmmklldaa.Qr
open Go.RowKit
set_option linter.unusedVariables false
set_option linter.unusedSimpArgs false
def zT (T : Int) : Nat → HV := upd z0 0 ⟨16, 16, T⟩
/-- What stands: what is kept apart, the clock, and that nothing old has turned. -/
def CS (w W : World) (gq gc : Nat) (n b : Int) (m : Nat) (z : Nat → HV) : Prop := w.heap.size ≤ gq ∧ gq < gc ∧ QS W gq (gc + 1) 100 b m z ∧ Blk W gc 67 #[.int .i64 n] ∧ Below w.heap.size w W
section
variable {w W : World} {gq gc : Nat} {n b T : Int} {m : Nat} {z : Nat → HV}
theorem CS.turn {W' : World} (h : CS w W gq gc n b m z) {b' : Int} {m' : Nat} {z' : Nat → HV} (hq : QS W' gq (gc + 1) 100 b' m' z') (ht : Turn (fun i => i = gq ∨ gc + 1 ≤ i) W W') : CS w W' gq gc n b' m' z' := by
  obtain ⟨h1, h2, h3, h4, h5⟩ := h
  exact ⟨h1, h2, hq, h4.keep (ht.block _ h4.lt (by omega)), ht.below h5 (fun i hi => by omega)⟩
theorem CS.tick {W' : World} (h : CS w W gq gc n b m z) {n' : Int} (hb : W' = W.setCell ⟨gc, 0, none⟩ (.int .i64 n')) : CS w W' gq gc n' b m z := by
  subst hb
  obtain ⟨h1, h2, ⟨q1, q2, A, cap, q3, q4⟩, h4, h5⟩ := h
  exact ⟨h1, h2, ⟨q1, by simpa [World.setCell] using q2, A, cap, q3.far (by show gq ≠ gc; omega) _, q4.far (fun k => by have h := (q4.lt k).2; dsimp only at h; omega) _⟩, h4.set_ 0 _, bset h5 (by omega)⟩
theorem cs_now (h : CS w W gq gc n b m z) : Calls Try.prog 31 #[.pointer (some ⟨gc, 0, none⟩)] W fun e w' => e = .returned (.int .i64 n) ∧ w' = W := now_calls gc n W (h.2.2.2.1.cell 0)
theorem cs_begin1 (h : CS w W gq gc n b m z) (h0 : 0 ≤ n) (h1 : n ≤ 1000000) (hp : n % 2 = 1) : Calls Try.prog 32 #[.pointer (some ⟨gc, 0, none⟩)] W fun e w' => e = .returned (.bool false) ∧ CS w w' gq gc n b m z :=
  (begin1 gc n W h0 h1 hp (h.2.2.2.1.cell 0) (h.2.2.2.1.frozen 0)).mono fun e w' ⟨he, hw⟩ => ⟨he, hw ▸ h⟩
theorem cs_begin0 (h : CS w W gq gc n b m z) (h0 : 0 ≤ n) (h1 : n ≤ 1000000) (hp : n % 2 = 0) : Calls Try.prog 32 #[.pointer (some ⟨gc, 0, none⟩)] W fun e w' => e = .returned (.bool true) ∧ CS w w' gq gc (n + 1) b m z :=
  (begin0 gc n W h0 h1 hp (h.2.2.2.1.cell 0) (h.2.2.2.1.frozen 0)).mono fun e w' ⟨he, hw⟩ => ⟨he, h.tick hw⟩
theorem cs_end1 (h : CS w W gq gc n b m z) (h0 : 0 ≤ n) (h1 : n ≤ 1000000) (hp : n % 2 = 1) : Calls Try.prog 33 #[.pointer (some ⟨gc, 0, none⟩)] W fun e w' => e = .returned (.bool true) ∧ CS w w' gq gc (n + 1) b m z :=
  (end1 gc n W h0 h1 hp (h.2.2.2.1.cell 0) (h.2.2.2.1.frozen 0)).mono fun e w' ⟨he, hw⟩ => ⟨he, h.tick hw⟩
theorem cs_end0 (h : CS w W gq gc n b m z) (h0 : 0 ≤ n) (h1 : n ≤ 1000000) (hp : n % 2 = 0) : Calls Try.prog 33 #[.pointer (some ⟨gc, 0, none⟩)] W fun e w' => e = .returned (.bool false) ∧ CS w w' gq gc n b m z :=
  (end0 gc n W h0 h1 hp (h.2.2.2.1.cell 0) (h.2.2.2.1.frozen 0)).mono fun e w' ⟨he, hw⟩ => ⟨he, hw ▸ h⟩
theorem cs_put (h : CS w W gq gc n 0 0 z0) (h0 : 0 ≤ n) (h1 : n ≤ 1000000) : Calls Try.prog 15 #[.pointer (some ⟨gq, 0, none⟩), .agg #[.int .i64 16, .int .i64 16, .int .i64 n]] W fun e w' => e = .returned (.bool true) ∧ CS w w' gq gc n 16 1 (zT n) :=
  (put_qsY gq (gc + 1) 100 0 16 0 z0 ⟨16, 16, n⟩ W h.2.2.1 (by omega) (by unfold putB; simp; omega) (by simp [wrap64])).mono fun e w' ⟨he, hq, ht⟩ => ⟨he, h.turn hq ht⟩
theorem zT_ok (h0 : 0 ≤ T) (h1 : T ≤ 1000000) : ∀ i, i < 1 → (zT T i).ok := fun i hi => by
  obtain rfl : i = 0 := by omega
  exact show (⟨16, 16, T⟩ : HV).ok from ⟨⟨by show _ ≤ (16 : Int); omega, by show (16 : Int) ≤ _; omega⟩, ⟨by show _ ≤ (16 : Int); omega, by show (16 : Int) ≤ _; omega⟩, ⟨by show _ ≤ T; omega, by show T ≤ _; omega⟩⟩
theorem when_T (h0 : 0 ≤ T) (h1 : T ≤ 1000000) : whenN (zT T 0).t = T + 2 + T % 2 := by
  show whenN T = _
  unfold whenN
  rw [if_neg (by omega), if_neg (by omega)]
theorem cs_due0 (h : CS w W gq gc n 16 1 (zT T)) (h0 : 0 ≤ T) (h1 : T ≤ 1000000) (hn : n < T + 2 + T % 2) : Calls Try.prog 20 #[.pointer (some ⟨gq, 0, none⟩), .int .i64 n] W fun e w' => ∃ A cap, e = .returned (.slice A 0 cap) ∧ CS w w' gq gc n 16 1 (zT T) := by
  refine (due_qs gq (gc + 1) 100 16 1 (zT T) n W h.2.2.1 (by omega) (zT_ok h0 h1) ⟨by decide, by decide⟩).mono ?_
  rintro e w' ⟨k, ⟨k0, k1, k2⟩, ⟨A, cap, he, hb⟩, hq, ht⟩
  have e1 := when_T h0 h1
  obtain rfl : k = 0 := by
    rcases Nat.eq_zero_or_pos k with h | h
    · exact h
    · have := k1 0 h; omega
  exact ⟨A, cap, he, h.turn (hq.cast (by simp [wrap64, sumL, upto]) rfl (fun i hi => by simp)) (ht.mono fun i _ hi => .inl hi)⟩
theorem cs_due1 (h : CS w W gq gc n 16 1 (zT T)) (h0 : 0 ≤ T) (h1 : T ≤ 1000000) (hn : T + 2 + T % 2 ≤ n) : Calls Try.prog 20 #[.pointer (some ⟨gq, 0, none⟩), .int .i64 n] W fun e w' => ∃ A cap, e = .returned (.slice A 1 cap) ∧ CS w w' gq gc n 0 0 z0 := by
  refine (due_qs gq (gc + 1) 100 16 1 (zT T) n W h.2.2.1 (by omega) (zT_ok h0 h1) ⟨by decide, by decide⟩).mono ?_
  rintro e w' ⟨k, ⟨k0, k1, k2⟩, ⟨A, cap, he, hb⟩, hq, ht⟩
  have e1 := when_T h0 h1
  obtain rfl : k = 1 := by
    rcases Nat.eq_zero_or_pos k with h | h
    · subst h; have := k2 (by omega); omega
    · omega
  exact ⟨A, cap, he, h.turn (hq.cast (by simp [wrap64, sumL, upto, zT, upd, List.range_succ]) rfl (fun i hi => by omega)) (ht.mono fun i _ hi => .inl hi)⟩
/-- Where the law stands. -/
def ST (len : Nat) (at_ : Int) (kq k : Nat) (n T : Int) (p bg ov : Bool) (b : Int) (m : Nat) (z : Nat → HV) : Prop := k ≤ len ∧ kq + k = len + 2 ∧ 0 ≤ n ∧ n ≤ k ∧
  ((p = false ∧ bg = false ∧ ov = false ∧ (k : Int) ≤ at_ ∧ b = 0 ∧ m = 0 ∧ z = z0) ∨
   (p = true ∧ bg = false ∧ ov = false ∧ at_ < k ∧ (0 ≤ T ∧ T ≤ n ∧ n ≤ T + T % 2) ∧ b = 16 ∧ m = 1 ∧ z = zT T) ∨
   (p = true ∧ bg = true ∧ ov = false ∧ at_ < k ∧ (0 ≤ T ∧ T + 1 + T % 2 = n) ∧ b = 16 ∧ m = 1 ∧ z = zT T) ∨
   (p = true ∧ bg = true ∧ ov = true ∧ at_ < k))
theorem cs_read {k : Nat} {a : Addr} {v : Value} (h : CS w W gq gc n b m z) (hc : w.cell? (a.add k) = some v) : W.cell? (a.add k) = some v := (h.2.2.2.2.cell (World.block_lt_of_cell? w _ hc)).trans hc
end
theorem clock_new (w : World) : Calls Try.prog 30 #[] w fun e w' => e = .returned (.pointer (some ⟨w.heap.size, 0, none⟩)) ∧ Blk w' w.heap.size 67 #[.int .i64 0] ∧ Below w.heap.size w w' := by
  go_enter Try.func30, Try.ntmps30
  go_wp2
  go_ret
  exact ⟨by simp, Blk.new _ _ _, balloc (Below.refl _ _) _⟩
set_option maxRecDepth 100000 in
set_option maxHeartbeats 4000000 in
theorem quarClock_calls (A : Option Addr) (len cap : Nat) (zs : List Bool) (at_ : Int) (w : World) (hz : ∀ i, i < len → ∃ a, A = some a ∧ w.cell? (a.add i) = some (.bool (zs.getD i false))) (hcap : len ≤ cap) (hmax : cap ≤ maxLen) (ha : 0 ≤ at_ ∧ at_ ≤ 255) : Calls Try.prog 7 #[.slice A len cap, .int .u8 at_] w fun e w' => e = .returned (.bool true) ∧ Below w.heap.size w w' := by
  have hu26 := Try.underlying26
  have hu44 := Try.underlying44
  have hcv : IntKind.i64.wrap at_ = at_ := by rw [IntKind.wrap_i64]; omega
  have hcw : wrap64 at_ = at_ := by unfold wrap64; omega
  by_cases hl : 300 < (len : Int)
  · clear hz
    go_enter Try.func7, Try.ntmps7
    go_wp2_with fail
    (go_at_call 13; ((with_reducible refine (head_calls _).mono ?_); rintro e_ h1 ⟨rfl, b_⟩; have HB := Asd.mk b_; clear b_))
    go_wp2_with fail
    (go_at_call 14; ((with_reducible refine (newY 100 _ (by omega) (by omega)).mono ?_); rintro e_ h2 ⟨⟨rfl, q_⟩, b_⟩; have HQ := Asd.mk q_; have HB2 := Asd.mk b_; clear q_ b_))
    go_wp2_with fail
    (go_at_call 30; ((with_reducible refine (clock_new _).mono ?_); rintro e_ h3 ⟨rfl, k_, b_⟩; have HK := Asd.mk k_; have HB3 := Asd.mk b_; clear k_ b_))
    go_wp2_with fail
    go_ret
    exact ⟨by simp, bcall (bcall HB.out HB2.out) HB3.out⟩
  go_enter Try.func7, Try.ntmps7
  go_wp2_with fail
  (go_at_call 13; ((with_reducible refine (head_calls _).mono ?_); rintro e_ h1 ⟨rfl, b_⟩; have HB := Asd.mk b_; clear b_))
  go_wp2_with fail
  (go_at_call 14; ((with_reducible refine (newY 100 _ (by omega) (by omega)).mono ?_); rintro e_ h2 ⟨⟨rfl, q_⟩, b_⟩; have HQ := Asd.mk q_; have HB2 := Asd.mk b_; clear q_ b_))
  go_wp2_with fail
  (go_at_call 30; ((with_reducible refine (clock_new _).mono ?_); rintro e_ h3 ⟨rfl, k_, b_⟩; have HK := Asd.mk k_; have HB3 := Asd.mk b_; clear k_ b_))
  have HC : Asd (CS w h3 h1.heap.size h2.heap.size 0 0 0 z0) := ⟨HB.out.size, HQ.out.lt, ⟨by have := HQ.out.lt; omega, HK.out.lt, none, 0, HQ.out.below HB3.out HQ.out.lt, Bag.nil _ _ _⟩, HK.out, bcall (bcall HB.out HB2.out) HB3.out⟩
  clear HQ HB HB2 HB3 HK
  generalize h1.heap.size = gq at *
  generalize h2.heap.size = gc at *
  have H0 := HC
  clear HC
  go_wp2_with fail
  go_loopg [8, 9, 10, 11] (len + 2) (fun kq v8 v9 v10 v11 w' => ∃ (k : Nat) (n T b : Int) (m : Nat) (z : Nat → HV) (p bg ov : Bool), v8 = .bool p ∧ v9 = .bool bg ∧ v10 = .bool ov ∧ v11 = .int .i64 (k : Int) ∧ Asd (ST len at_ kq k n T p bg ov b m z) ∧ Asd (CS w w' gq gc n b m z))
  case atStart => exact ⟨0, 0, 0, 0, 0, z0, false, false, false, rfl, rfl, rfl, rfl, ⟨by omega, by omega, by omega, by omega, .inl ⟨rfl, rfl, rfl, by omega, rfl, rfl, rfl⟩⟩, H0⟩
  case round =>
    obtain ⟨k, n, T, b, m, z, p, bg, ov, rfl, rfl, rfl, rfl, HI, HC⟩ := hrel
    clear H0
    obtain ⟨i0, i1, i2, i3, hst⟩ := HI.out
    have kle : (k : Int) ≤ (len : Int) := by omega
    rcases hst with ⟨rfl, rfl, rfl, hk, rfl, rfl, rfl⟩ | ⟨rfl, rfl, rfl, hk, ht, rfl, rfl, rfl⟩ | ⟨rfl, rfl, rfl, hk, ht, rfl, rfl, rfl⟩ | ⟨rfl, rfl, rfl, hk⟩
    · by_cases hka : (k : Int) = at_
      · have e1 : ((k : Int) == at_) = true := by simp [hka]
        have hka2 : at_ ≤ (k : Int) := by omega
        clear hka
        go_wp2_with fail
        (go_at_call 31; ((with_reducible refine (cs_now HC.out).mono ?_); rintro e_ w_ ⟨rfl, rfl⟩))
        go_wp2_with fail
        (go_at_call 15; ((with_reducible refine (cs_put HC.out (by omega) (by omega)).mono ?_); rintro e_ x1 ⟨rfl, c_⟩; clear HC; have HC := Asd.mk c_; clear c_))
        go_wp2_with fail
        (go_at_call 31; ((with_reducible refine (cs_now HC.out).mono ?_); rintro e_ w_ ⟨rfl, rfl⟩))
        go_wp2_with fail
        (go_at_call 20; ((with_reducible refine (cs_due0 HC.out (by omega) (by omega) (by omega)).mono ?_); rintro e_ x2 ⟨A_, cap_, rfl, c_⟩; clear HC; have HC := Asd.mk c_; clear c_))
        by_cases hl : k = len
        · have e2 : ((k : Int) == (len : Int)) = true := by simp [hl]
          clear hz
          go_wp2_with fail
          go_ret
          exact ⟨by simp, HC.out.2.2.2.2⟩
        · have e2 : ((k : Int) == (len : Int)) = false := by simp; omega
          have c1 : (k : Int) < (len : Int) := by omega
          have c0 : (0 : Int) ≤ (k : Int) := by omega
          obtain ⟨a, rfl, hd⟩ := hz k (by omega)
          have HD := Asd.mk hd
          clear hd hz
          generalize zs.getD k false = tb at HD
          have hr := cs_read HC.out HD.out
          cases tb
          · rcases (show n % 2 = 0 ∨ n % 2 = 1 by omega) with hp | hp
            · go_wp2_with fail
              (go_at_call 33; ((with_reducible refine (cs_end0 HC.out (by omega) (by omega) hp).mono ?_); rintro e_ x3 ⟨rfl, c_⟩; clear HC; have HC := Asd.mk c_; clear c_))
              go_wp2_with fail
              go_roundg (gk - 1)
              case measure => omega
              case rel => exact ⟨k + 1, n, n, 16, 1, (zT n), true, false, false, rfl, rfl, rfl, by simp, ⟨by omega, by omega, by omega, by omega, .inr (.inl ⟨rfl, rfl, rfl, by omega, ⟨by omega, by omega, by omega⟩, rfl, rfl, rfl⟩)⟩, ⟨HC.out⟩⟩
            · go_wp2_with fail
              (go_at_call 33; ((with_reducible refine (cs_end1 HC.out (by omega) (by omega) hp).mono ?_); rintro e_ x4 ⟨rfl, c_⟩; clear HC; have HC := Asd.mk c_; clear c_))
              go_wp2_with fail
              go_roundg (gk - 1)
              case measure => omega
              case rel => exact ⟨k + 1, (n + 1), n, 16, 1, (zT n), true, false, false, rfl, rfl, rfl, by simp, ⟨by omega, by omega, by omega, by omega, .inr (.inl ⟨rfl, rfl, rfl, by omega, ⟨by omega, by omega, by omega⟩, rfl, rfl, rfl⟩)⟩, ⟨HC.out⟩⟩
          · rcases (show n % 2 = 0 ∨ n % 2 = 1 by omega) with hp | hp
            · go_wp2_with fail
              (go_at_call 32; ((with_reducible refine (cs_begin0 HC.out (by omega) (by omega) hp).mono ?_); rintro e_ x5 ⟨rfl, c_⟩; clear HC; have HC := Asd.mk c_; clear c_))
              go_wp2_with fail
              go_roundg (gk - 1)
              case measure => omega
              case rel => exact ⟨k + 1, (n + 1), n, 16, 1, (zT n), true, true, false, rfl, rfl, rfl, by simp, ⟨by omega, by omega, by omega, by omega, .inr (.inr (.inl ⟨rfl, rfl, rfl, by omega, ⟨by omega, by omega⟩, rfl, rfl, rfl⟩))⟩, ⟨HC.out⟩⟩
            · go_wp2_with fail
              (go_at_call 32; ((with_reducible refine (cs_begin1 HC.out (by omega) (by omega) hp).mono ?_); rintro e_ x6 ⟨rfl, c_⟩; clear HC; have HC := Asd.mk c_; clear c_))
              go_wp2_with fail
              go_roundg (gk - 1)
              case measure => omega
              case rel => exact ⟨k + 1, n, n, 16, 1, (zT n), true, false, false, rfl, rfl, rfl, by simp, ⟨by omega, by omega, by omega, by omega, .inr (.inl ⟨rfl, rfl, rfl, by omega, ⟨by omega, by omega, by omega⟩, rfl, rfl, rfl⟩)⟩, ⟨HC.out⟩⟩
      · have e1 : ((k : Int) == at_) = false := by simp [hka]
        by_cases hl : k = len
        · have e2 : ((k : Int) == (len : Int)) = true := by simp [hl]
          clear hz
          go_wp2_with fail
          go_ret
          exact ⟨by simp, HC.out.2.2.2.2⟩
        · have e2 : ((k : Int) == (len : Int)) = false := by simp; omega
          have c1 : (k : Int) < (len : Int) := by omega
          have c0 : (0 : Int) ≤ (k : Int) := by omega
          obtain ⟨a, rfl, hd⟩ := hz k (by omega)
          have HD := Asd.mk hd
          clear hd hz
          generalize zs.getD k false = tb at HD
          have hr := cs_read HC.out HD.out
          cases tb
          · rcases (show n % 2 = 0 ∨ n % 2 = 1 by omega) with hp | hp
            · go_wp2_with fail
              (go_at_call 33; ((with_reducible refine (cs_end0 HC.out (by omega) (by omega) hp).mono ?_); rintro e_ x7 ⟨rfl, c_⟩; clear HC; have HC := Asd.mk c_; clear c_))
              go_wp2_with fail
              go_roundg (gk - 1)
              case measure => omega
              case rel => exact ⟨k + 1, n, T, 0, 0, z0, false, false, false, rfl, rfl, rfl, by simp, ⟨by omega, by omega, by omega, by omega, .inl ⟨rfl, rfl, rfl, by omega, rfl, rfl, rfl⟩⟩, ⟨HC.out⟩⟩
            · go_wp2_with fail
              (go_at_call 33; ((with_reducible refine (cs_end1 HC.out (by omega) (by omega) hp).mono ?_); rintro e_ x8 ⟨rfl, c_⟩; clear HC; have HC := Asd.mk c_; clear c_))
              go_wp2_with fail
              go_roundg (gk - 1)
              case measure => omega
              case rel => exact ⟨k + 1, (n + 1), T, 0, 0, z0, false, false, false, rfl, rfl, rfl, by simp, ⟨by omega, by omega, by omega, by omega, .inl ⟨rfl, rfl, rfl, by omega, rfl, rfl, rfl⟩⟩, ⟨HC.out⟩⟩
          · rcases (show n % 2 = 0 ∨ n % 2 = 1 by omega) with hp | hp
            · go_wp2_with fail
              (go_at_call 32; ((with_reducible refine (cs_begin0 HC.out (by omega) (by omega) hp).mono ?_); rintro e_ x9 ⟨rfl, c_⟩; clear HC; have HC := Asd.mk c_; clear c_))
              go_wp2_with fail
              go_roundg (gk - 1)
              case measure => omega
              case rel => exact ⟨k + 1, (n + 1), T, 0, 0, z0, false, false, false, rfl, rfl, rfl, by simp, ⟨by omega, by omega, by omega, by omega, .inl ⟨rfl, rfl, rfl, by omega, rfl, rfl, rfl⟩⟩, ⟨HC.out⟩⟩
            · go_wp2_with fail
              (go_at_call 32; ((with_reducible refine (cs_begin1 HC.out (by omega) (by omega) hp).mono ?_); rintro e_ x10 ⟨rfl, c_⟩; clear HC; have HC := Asd.mk c_; clear c_))
              go_wp2_with fail
              go_roundg (gk - 1)
              case measure => omega
              case rel => exact ⟨k + 1, n, T, 0, 0, z0, false, false, false, rfl, rfl, rfl, by simp, ⟨by omega, by omega, by omega, by omega, .inl ⟨rfl, rfl, rfl, by omega, rfl, rfl, rfl⟩⟩, ⟨HC.out⟩⟩
    · have e1 : ((k : Int) == at_) = false := by simp; omega
      obtain ⟨t0, t1, t2⟩ := ht
      go_wp2_with fail
      (go_at_call 31; ((with_reducible refine (cs_now HC.out).mono ?_); rintro e_ w_ ⟨rfl, rfl⟩))
      go_wp2_with fail
      (go_at_call 20; ((with_reducible refine (cs_due0 HC.out (by omega) (by omega) (by omega)).mono ?_); rintro e_ x11 ⟨A_, cap_, rfl, c_⟩; clear HC; have HC := Asd.mk c_; clear c_))
      by_cases hl : k = len
      · have e2 : ((k : Int) == (len : Int)) = true := by simp [hl]
        clear hz
        go_wp2_with fail
        go_ret
        exact ⟨by simp, HC.out.2.2.2.2⟩
      · have e2 : ((k : Int) == (len : Int)) = false := by simp; omega
        have c1 : (k : Int) < (len : Int) := by omega
        have c0 : (0 : Int) ≤ (k : Int) := by omega
        obtain ⟨a, rfl, hd⟩ := hz k (by omega)
        have HD := Asd.mk hd
        clear hd hz
        generalize zs.getD k false = tb at HD
        have hr := cs_read HC.out HD.out
        cases tb
        · rcases (show n % 2 = 0 ∨ n % 2 = 1 by omega) with hp | hp
          · go_wp2_with fail
            (go_at_call 33; ((with_reducible refine (cs_end0 HC.out (by omega) (by omega) hp).mono ?_); rintro e_ x12 ⟨rfl, c_⟩; clear HC; have HC := Asd.mk c_; clear c_))
            go_wp2_with fail
            go_roundg (gk - 1)
            case measure => omega
            case rel => exact ⟨k + 1, n, T, 16, 1, (zT T), true, false, false, rfl, rfl, rfl, by simp, ⟨by omega, by omega, by omega, by omega, .inr (.inl ⟨rfl, rfl, rfl, by omega, ⟨by omega, by omega, by omega⟩, rfl, rfl, rfl⟩)⟩, ⟨HC.out⟩⟩
          · go_wp2_with fail
            (go_at_call 33; ((with_reducible refine (cs_end1 HC.out (by omega) (by omega) hp).mono ?_); rintro e_ x13 ⟨rfl, c_⟩; clear HC; have HC := Asd.mk c_; clear c_))
            go_wp2_with fail
            go_roundg (gk - 1)
            case measure => omega
            case rel => exact ⟨k + 1, (n + 1), T, 16, 1, (zT T), true, false, false, rfl, rfl, rfl, by simp, ⟨by omega, by omega, by omega, by omega, .inr (.inl ⟨rfl, rfl, rfl, by omega, ⟨by omega, by omega, by omega⟩, rfl, rfl, rfl⟩)⟩, ⟨HC.out⟩⟩
        · rcases (show n % 2 = 0 ∨ n % 2 = 1 by omega) with hp | hp
          · go_wp2_with fail
            (go_at_call 32; ((with_reducible refine (cs_begin0 HC.out (by omega) (by omega) hp).mono ?_); rintro e_ x14 ⟨rfl, c_⟩; clear HC; have HC := Asd.mk c_; clear c_))
            go_wp2_with fail
            go_roundg (gk - 1)
            case measure => omega
            case rel => exact ⟨k + 1, (n + 1), T, 16, 1, (zT T), true, true, false, rfl, rfl, rfl, by simp, ⟨by omega, by omega, by omega, by omega, .inr (.inr (.inl ⟨rfl, rfl, rfl, by omega, ⟨by omega, by omega⟩, rfl, rfl, rfl⟩))⟩, ⟨HC.out⟩⟩
          · go_wp2_with fail
            (go_at_call 32; ((with_reducible refine (cs_begin1 HC.out (by omega) (by omega) hp).mono ?_); rintro e_ x15 ⟨rfl, c_⟩; clear HC; have HC := Asd.mk c_; clear c_))
            go_wp2_with fail
            go_roundg (gk - 1)
            case measure => omega
            case rel => exact ⟨k + 1, n, T, 16, 1, (zT T), true, false, false, rfl, rfl, rfl, by simp, ⟨by omega, by omega, by omega, by omega, .inr (.inl ⟨rfl, rfl, rfl, by omega, ⟨by omega, by omega, by omega⟩, rfl, rfl, rfl⟩)⟩, ⟨HC.out⟩⟩
    · have e1 : ((k : Int) == at_) = false := by simp; omega
      obtain ⟨t0, t1⟩ := ht
      go_wp2_with fail
      (go_at_call 31; ((with_reducible refine (cs_now HC.out).mono ?_); rintro e_ w_ ⟨rfl, rfl⟩))
      go_wp2_with fail
      (go_at_call 20; ((with_reducible refine (cs_due0 HC.out (by omega) (by omega) (by omega)).mono ?_); rintro e_ x16 ⟨A_, cap_, rfl, c_⟩; clear HC; have HC := Asd.mk c_; clear c_))
      by_cases hl : k = len
      · have e2 : ((k : Int) == (len : Int)) = true := by simp [hl]
        clear hz
        go_wp2_with fail
        go_ret
        exact ⟨by simp, HC.out.2.2.2.2⟩
      · have e2 : ((k : Int) == (len : Int)) = false := by simp; omega
        have c1 : (k : Int) < (len : Int) := by omega
        have c0 : (0 : Int) ≤ (k : Int) := by omega
        obtain ⟨a, rfl, hd⟩ := hz k (by omega)
        have HD := Asd.mk hd
        clear hd hz
        generalize zs.getD k false = tb at HD
        have hr := cs_read HC.out HD.out
        cases tb
        · rcases (show n % 2 = 0 ∨ n % 2 = 1 by omega) with hp | hp
          · exfalso; omega
          · go_wp2_with fail
            (go_at_call 33; ((with_reducible refine (cs_end1 HC.out (by omega) (by omega) hp).mono ?_); rintro e_ x17 ⟨rfl, c_⟩; clear HC; have HC := Asd.mk c_; clear c_))
            go_wp2_with fail
            (go_at_call 31; ((with_reducible refine (cs_now HC.out).mono ?_); rintro e_ w_ ⟨rfl, rfl⟩))
            go_wp2_with fail
            (go_at_call 20; ((with_reducible refine (cs_due1 HC.out (by omega) (by omega) (by omega)).mono ?_); rintro e_ x18 ⟨A_, cap_, rfl, c_⟩; clear HC; have HC := Asd.mk c_; clear c_))
            go_wp2_with fail
            go_roundg (gk - 1)
            case measure => omega
            case rel => exact ⟨k + 1, (n + 1), T, 0, 0, z0, true, true, true, rfl, rfl, rfl, by simp, ⟨by omega, by omega, by omega, by omega, .inr (.inr (.inr ⟨rfl, rfl, rfl, by omega⟩))⟩, ⟨HC.out⟩⟩
        · rcases (show n % 2 = 0 ∨ n % 2 = 1 by omega) with hp | hp
          · exfalso; omega
          · go_wp2_with fail
            (go_at_call 32; ((with_reducible refine (cs_begin1 HC.out (by omega) (by omega) hp).mono ?_); rintro e_ x19 ⟨rfl, c_⟩; clear HC; have HC := Asd.mk c_; clear c_))
            go_wp2_with fail
            go_roundg (gk - 1)
            case measure => omega
            case rel => exact ⟨k + 1, n, T, 16, 1, (zT T), true, true, false, rfl, rfl, rfl, by simp, ⟨by omega, by omega, by omega, by omega, .inr (.inr (.inl ⟨rfl, rfl, rfl, by omega, ⟨by omega, by omega⟩, rfl, rfl, rfl⟩))⟩, ⟨HC.out⟩⟩
    · have e1 : ((k : Int) == at_) = false := by simp; omega
      by_cases hl : k = len
      · have e2 : ((k : Int) == (len : Int)) = true := by simp [hl]
        clear hz
        go_wp2_with fail
        go_ret
        exact ⟨by simp, HC.out.2.2.2.2⟩
      · have e2 : ((k : Int) == (len : Int)) = false := by simp; omega
        have c1 : (k : Int) < (len : Int) := by omega
        have c0 : (0 : Int) ≤ (k : Int) := by omega
        obtain ⟨a, rfl, hd⟩ := hz k (by omega)
        have HD := Asd.mk hd
        clear hd hz
        generalize zs.getD k false = tb at HD
        have hr := cs_read HC.out HD.out
        cases tb
        · rcases (show n % 2 = 0 ∨ n % 2 = 1 by omega) with hp | hp
          · go_wp2_with fail
            (go_at_call 33; ((with_reducible refine (cs_end0 HC.out (by omega) (by omega) hp).mono ?_); rintro e_ x20 ⟨rfl, c_⟩; clear HC; have HC := Asd.mk c_; clear c_))
            go_wp2_with fail
            go_roundg (gk - 1)
            case measure => omega
            case rel => exact ⟨k + 1, n, T, b, m, z, true, true, true, rfl, rfl, rfl, by simp, ⟨by omega, by omega, by omega, by omega, .inr (.inr (.inr ⟨rfl, rfl, rfl, by omega⟩))⟩, ⟨HC.out⟩⟩
          · go_wp2_with fail
            (go_at_call 33; ((with_reducible refine (cs_end1 HC.out (by omega) (by omega) hp).mono ?_); rintro e_ x21 ⟨rfl, c_⟩; clear HC; have HC := Asd.mk c_; clear c_))
            go_wp2_with fail
            go_roundg (gk - 1)
            case measure => omega
            case rel => exact ⟨k + 1, (n + 1), T, b, m, z, true, true, true, rfl, rfl, rfl, by simp, ⟨by omega, by omega, by omega, by omega, .inr (.inr (.inr ⟨rfl, rfl, rfl, by omega⟩))⟩, ⟨HC.out⟩⟩
        · rcases (show n % 2 = 0 ∨ n % 2 = 1 by omega) with hp | hp
          · go_wp2_with fail
            (go_at_call 32; ((with_reducible refine (cs_begin0 HC.out (by omega) (by omega) hp).mono ?_); rintro e_ x22 ⟨rfl, c_⟩; clear HC; have HC := Asd.mk c_; clear c_))
            go_wp2_with fail
            go_roundg (gk - 1)
            case measure => omega
            case rel => exact ⟨k + 1, (n + 1), T, b, m, z, true, true, true, rfl, rfl, rfl, by simp, ⟨by omega, by omega, by omega, by omega, .inr (.inr (.inr ⟨rfl, rfl, rfl, by omega⟩))⟩, ⟨HC.out⟩⟩
          · go_wp2_with fail
            (go_at_call 32; ((with_reducible refine (cs_begin1 HC.out (by omega) (by omega) hp).mono ?_); rintro e_ x23 ⟨rfl, c_⟩; clear HC; have HC := Asd.mk c_; clear c_))
            go_wp2_with fail
            go_roundg (gk - 1)
            case measure => omega
            case rel => exact ⟨k + 1, n, T, b, m, z, true, true, true, rfl, rfl, rfl, by simp, ⟨by omega, by omega, by omega, by omega, .inr (.inr (.inr ⟨rfl, rfl, rfl, by omega⟩))⟩, ⟨HC.out⟩⟩
end Go.Proofs.Ytldgecnmmklldaa.Qr
