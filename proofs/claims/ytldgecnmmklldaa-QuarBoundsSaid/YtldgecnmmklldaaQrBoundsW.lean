/- The walk of QuarBounds, way by way. -/
import Derived.Test.YtldgecnmmklldaaQrHead
namespace Go.Proofs.Ytldgecnmmklldaa.Qr
open Go.RowKit Go.Proofs.YtldgecnmmklldaaW.PrintLast
set_option linter.unusedVariables false
set_option linter.unusedSimpArgs false
theorem i64_is (n : Int) : IntKind.i64.wrap n = wrap64 n := by unfold wrap64; exact IntKind.wrap_i64 _
theorem wrap64_in (n : Int) (h : -9223372036854775808 ≤ n ∧ n ≤ 9223372036854775807) : wrap64 n = n := by unfold wrap64; omega
def zB (last : Int) : Nat → HV := upd z0 0 ⟨16, 32, last⟩
theorem bput1 (g base : Nat) (last : Int) (w : World) (h0 : 0 ≤ last) (h1 : last ≤ 65535) (h : QS w g base 5 0 0 z0) : Calls Try.prog 15 #[.pointer (some ⟨g, 0, none⟩), .agg #[.int .i64 16, .int .i64 32, .int .i64 last]] w fun e w' => e = .returned (.bool true) ∧ QS w' g base 5 32 1 (zB last) ∧ Turn (fun i => i = g ∨ base ≤ i) w w' :=
  put_qsY g base 5 0 32 0 z0 ⟨16, 32, last⟩ w h (by omega) (by unfold putB; simp; omega) (by simp [wrap64])
theorem bputY (g base : Nat) (a n t last : Int) (w : World) (h : QS w g base 5 32 1 (zB last)) (hf : 0 ≤ a ∧ a ≤ 16777216 ∧ 0 ≤ n ∧ n ≤ 16777216 ∧ last ≤ t ∧ t ≤ 2199023255552) (hl : 0 ≤ last) : Calls Try.prog 15 #[.pointer (some ⟨g, 0, none⟩), .agg #[.int .i64 a, .int .i64 n, .int .i64 t]] w fun e w' => e = .returned (.bool true) ∧ QS w' g base 5 (32 + n) 2 (upd (zB last) 1 ⟨a, n, t⟩) ∧ Turn (fun i => i = g ∨ base ≤ i) w w' :=
  put_qsY g base 5 32 (32 + n) 1 (zB last) ⟨a, n, t⟩ w h (by omega) (by unfold putB zB upd; simp; omega) (by show wrap64 (32 + n) = _; exact wrap64_in _ (by omega))
theorem bputN (g base : Nat) (a n t last : Int) (w : World) (h : QS w g base 5 32 1 (zB last)) (hf : ¬ (0 ≤ a ∧ a ≤ 16777216 ∧ 0 ≤ n ∧ n ≤ 16777216 ∧ last ≤ t ∧ t ≤ 2199023255552)) : Calls Try.prog 15 #[.pointer (some ⟨g, 0, none⟩), .agg #[.int .i64 a, .int .i64 n, .int .i64 t]] w fun e w' => e = .returned (.bool false) ∧ QS w' g base 5 32 1 (zB last) ∧ Turn (fun i => i = g ∨ base ≤ i) w w' :=
  put_qsN g base 5 32 1 (zB last) ⟨a, n, t⟩ w h (by omega) (by unfold putB zB upd; simp; omega)
set_option maxRecDepth 100000 in
set_option maxHeartbeats 1000000 in
theorem bounds1 (a n t last : Int) (w : World) (hl0 : 0 ≤ last) (hl1 : last ≤ 65535) (ha : I64 a) (hn : I64 n) (ht : I64 t) (h1 : a < 0) : Calls Try.prog 3 #[.agg #[.int .i64 a, .int .i64 n, .int .i64 t], .int .u16 last] w fun e w' => e = .returned (.bool true) ∧ Below w.heap.size w w' := by
  have hu26 := Try.underlying26
  have hcv : IntKind.i64.wrap last = last := by rw [i64_is]; exact wrap64_in _ (by omega)
  have hcw : wrap64 last = last := wrap64_in _ (by omega)
  have HP := Asd.mk (fun (g base : Nat) (W : World) (hq : QS W g base 5 32 1 (zB last)) => bputN g base a n t last W hq (by first | omega | (rintro ⟨_, _, _, _, _, _⟩; omega)))
  have hno : ¬ (0 ≤ a) := by omega
  go_enter Try.func3, Try.ntmps3
  go_wp2_with fail
  (go_at_call 13; ((with_reducible refine (head_calls _).mono ?_); rintro e_ w1 ⟨rfl, b_⟩; have HX := Asd.mk ((Blk.new w 23 #[.int .i64 a, .int .i64 n, .int .i64 t]).below b_ (Blk.new w 23 #[.int .i64 a, .int .i64 n, .int .i64 t]).lt); have HB := Asd.mk (bcall (balloc (Below.refl _ w) _) b_); clear b_))
  go_wp2_with fail
  (go_at_call 14; ((with_reducible refine (new_qs 5 _ (by omega) (by omega) z0).mono ?_); rintro e_ w2 ⟨rfl, q_, b_⟩; have x_ := HX.out.below b_ HX.out.lt; have b2_ := bcall HB.out b_; have hg := HX.out.lt; clear HX HB; have HQ := Asd.mk q_; have HX := Asd.mk x_; have HB := Asd.mk b2_; clear q_ x_ b_ b2_))
  go_wp2_with fail
  (go_at_call 15; ((with_reducible refine (bput1 _ _ last _ hl0 hl1 HQ.out).mono ?_); rintro e_ w3 ⟨rfl, q_, t_⟩; have x_ := HX.out.keep (t_.block _ HX.out.lt (by omega)); have b2_ := t_.below HB.out (fun i hi => by omega); clear HX HB HQ; have HQ := Asd.mk q_; have HX := Asd.mk x_; have HB := Asd.mk b2_; clear q_ x_ t_ b2_))
  have c0 : w3.cell? ⟨w.heap.size, 0, none⟩ = some (.int .i64 a) := HX.out.cell 0
  have c1 : w3.cell? ⟨w.heap.size, 1, none⟩ = some (.int .i64 n) := HX.out.cell 1
  have c2 : w3.cell? ⟨w.heap.size, 2, none⟩ = some (.int .i64 t) := HX.out.cell 2
  go_wp2_with fail
  (go_at_call 15; ((with_reducible refine (HP.out _ _ _ HQ.out).mono ?_); rintro e_ w4 ⟨rfl, q_, t_⟩; have x_ := HX.out.keep (t_.block _ HX.out.lt (by omega)); have b2_ := t_.below HB.out (fun i hi => by omega); clear HX HB HQ; have HQ := Asd.mk q_; have HX := Asd.mk x_; have HB := Asd.mk b2_; clear q_ x_ t_ b2_))
  go_wp2_with fail
  (go_at_call 16; ((with_reducible refine (many_qs _ _ _ _ _ _ _ HQ.out).mono ?_); rintro e_ w_ ⟨rfl, rfl⟩))
  go_wp2_with fail
  (go_at_call 17; ((with_reducible refine (bytes_qs _ _ _ _ _ _ _ HQ.out).mono ?_); rintro e_ w_ ⟨rfl, rfl⟩))
  go_wp2_with fail
  go_ret
  exact ⟨by simp, HB.out⟩
set_option maxRecDepth 100000 in
set_option maxHeartbeats 1000000 in
theorem bounds2 (a n t last : Int) (w : World) (hl0 : 0 ≤ last) (hl1 : last ≤ 65535) (ha : I64 a) (hn : I64 n) (ht : I64 t) (h1 : 0 ≤ a) (h2 : 16777216 < a) : Calls Try.prog 3 #[.agg #[.int .i64 a, .int .i64 n, .int .i64 t], .int .u16 last] w fun e w' => e = .returned (.bool true) ∧ Below w.heap.size w w' := by
  have hu26 := Try.underlying26
  have hcv : IntKind.i64.wrap last = last := by rw [i64_is]; exact wrap64_in _ (by omega)
  have hcw : wrap64 last = last := wrap64_in _ (by omega)
  have HP := Asd.mk (fun (g base : Nat) (W : World) (hq : QS W g base 5 32 1 (zB last)) => bputN g base a n t last W hq (by first | omega | (rintro ⟨_, _, _, _, _, _⟩; omega)))
  have hno : ¬ (a ≤ 16777216) := by omega
  go_enter Try.func3, Try.ntmps3
  go_wp2_with fail
  (go_at_call 13; ((with_reducible refine (head_calls _).mono ?_); rintro e_ w1 ⟨rfl, b_⟩; have HX := Asd.mk ((Blk.new w 23 #[.int .i64 a, .int .i64 n, .int .i64 t]).below b_ (Blk.new w 23 #[.int .i64 a, .int .i64 n, .int .i64 t]).lt); have HB := Asd.mk (bcall (balloc (Below.refl _ w) _) b_); clear b_))
  go_wp2_with fail
  (go_at_call 14; ((with_reducible refine (new_qs 5 _ (by omega) (by omega) z0).mono ?_); rintro e_ w2 ⟨rfl, q_, b_⟩; have x_ := HX.out.below b_ HX.out.lt; have b2_ := bcall HB.out b_; have hg := HX.out.lt; clear HX HB; have HQ := Asd.mk q_; have HX := Asd.mk x_; have HB := Asd.mk b2_; clear q_ x_ b_ b2_))
  go_wp2_with fail
  (go_at_call 15; ((with_reducible refine (bput1 _ _ last _ hl0 hl1 HQ.out).mono ?_); rintro e_ w3 ⟨rfl, q_, t_⟩; have x_ := HX.out.keep (t_.block _ HX.out.lt (by omega)); have b2_ := t_.below HB.out (fun i hi => by omega); clear HX HB HQ; have HQ := Asd.mk q_; have HX := Asd.mk x_; have HB := Asd.mk b2_; clear q_ x_ t_ b2_))
  have c0 : w3.cell? ⟨w.heap.size, 0, none⟩ = some (.int .i64 a) := HX.out.cell 0
  have c1 : w3.cell? ⟨w.heap.size, 1, none⟩ = some (.int .i64 n) := HX.out.cell 1
  have c2 : w3.cell? ⟨w.heap.size, 2, none⟩ = some (.int .i64 t) := HX.out.cell 2
  go_wp2_with fail
  (go_at_call 15; ((with_reducible refine (HP.out _ _ _ HQ.out).mono ?_); rintro e_ w4 ⟨rfl, q_, t_⟩; have x_ := HX.out.keep (t_.block _ HX.out.lt (by omega)); have b2_ := t_.below HB.out (fun i hi => by omega); clear HX HB HQ; have HQ := Asd.mk q_; have HX := Asd.mk x_; have HB := Asd.mk b2_; clear q_ x_ t_ b2_))
  go_wp2_with fail
  (go_at_call 16; ((with_reducible refine (many_qs _ _ _ _ _ _ _ HQ.out).mono ?_); rintro e_ w_ ⟨rfl, rfl⟩))
  go_wp2_with fail
  (go_at_call 17; ((with_reducible refine (bytes_qs _ _ _ _ _ _ _ HQ.out).mono ?_); rintro e_ w_ ⟨rfl, rfl⟩))
  go_wp2_with fail
  go_ret
  exact ⟨by simp, HB.out⟩
set_option maxRecDepth 100000 in
set_option maxHeartbeats 1000000 in
theorem bounds3 (a n t last : Int) (w : World) (hl0 : 0 ≤ last) (hl1 : last ≤ 65535) (ha : I64 a) (hn : I64 n) (ht : I64 t) (h1 : 0 ≤ a) (h2 : a ≤ 16777216) (h3 : n < 0) : Calls Try.prog 3 #[.agg #[.int .i64 a, .int .i64 n, .int .i64 t], .int .u16 last] w fun e w' => e = .returned (.bool true) ∧ Below w.heap.size w w' := by
  have hu26 := Try.underlying26
  have hcv : IntKind.i64.wrap last = last := by rw [i64_is]; exact wrap64_in _ (by omega)
  have hcw : wrap64 last = last := wrap64_in _ (by omega)
  have HP := Asd.mk (fun (g base : Nat) (W : World) (hq : QS W g base 5 32 1 (zB last)) => bputN g base a n t last W hq (by first | omega | (rintro ⟨_, _, _, _, _, _⟩; omega)))
  have hno : ¬ (0 ≤ n) := by omega
  go_enter Try.func3, Try.ntmps3
  go_wp2_with fail
  (go_at_call 13; ((with_reducible refine (head_calls _).mono ?_); rintro e_ w1 ⟨rfl, b_⟩; have HX := Asd.mk ((Blk.new w 23 #[.int .i64 a, .int .i64 n, .int .i64 t]).below b_ (Blk.new w 23 #[.int .i64 a, .int .i64 n, .int .i64 t]).lt); have HB := Asd.mk (bcall (balloc (Below.refl _ w) _) b_); clear b_))
  go_wp2_with fail
  (go_at_call 14; ((with_reducible refine (new_qs 5 _ (by omega) (by omega) z0).mono ?_); rintro e_ w2 ⟨rfl, q_, b_⟩; have x_ := HX.out.below b_ HX.out.lt; have b2_ := bcall HB.out b_; have hg := HX.out.lt; clear HX HB; have HQ := Asd.mk q_; have HX := Asd.mk x_; have HB := Asd.mk b2_; clear q_ x_ b_ b2_))
  go_wp2_with fail
  (go_at_call 15; ((with_reducible refine (bput1 _ _ last _ hl0 hl1 HQ.out).mono ?_); rintro e_ w3 ⟨rfl, q_, t_⟩; have x_ := HX.out.keep (t_.block _ HX.out.lt (by omega)); have b2_ := t_.below HB.out (fun i hi => by omega); clear HX HB HQ; have HQ := Asd.mk q_; have HX := Asd.mk x_; have HB := Asd.mk b2_; clear q_ x_ t_ b2_))
  have c0 : w3.cell? ⟨w.heap.size, 0, none⟩ = some (.int .i64 a) := HX.out.cell 0
  have c1 : w3.cell? ⟨w.heap.size, 1, none⟩ = some (.int .i64 n) := HX.out.cell 1
  have c2 : w3.cell? ⟨w.heap.size, 2, none⟩ = some (.int .i64 t) := HX.out.cell 2
  go_wp2_with fail
  (go_at_call 15; ((with_reducible refine (HP.out _ _ _ HQ.out).mono ?_); rintro e_ w4 ⟨rfl, q_, t_⟩; have x_ := HX.out.keep (t_.block _ HX.out.lt (by omega)); have b2_ := t_.below HB.out (fun i hi => by omega); clear HX HB HQ; have HQ := Asd.mk q_; have HX := Asd.mk x_; have HB := Asd.mk b2_; clear q_ x_ t_ b2_))
  go_wp2_with fail
  (go_at_call 16; ((with_reducible refine (many_qs _ _ _ _ _ _ _ HQ.out).mono ?_); rintro e_ w_ ⟨rfl, rfl⟩))
  go_wp2_with fail
  (go_at_call 17; ((with_reducible refine (bytes_qs _ _ _ _ _ _ _ HQ.out).mono ?_); rintro e_ w_ ⟨rfl, rfl⟩))
  go_wp2_with fail
  go_ret
  exact ⟨by simp, HB.out⟩
set_option maxRecDepth 100000 in
set_option maxHeartbeats 1000000 in
theorem bounds4 (a n t last : Int) (w : World) (hl0 : 0 ≤ last) (hl1 : last ≤ 65535) (ha : I64 a) (hn : I64 n) (ht : I64 t) (h1 : 0 ≤ a) (h2 : a ≤ 16777216) (h3 : 0 ≤ n) (h4 : 16777216 < n) : Calls Try.prog 3 #[.agg #[.int .i64 a, .int .i64 n, .int .i64 t], .int .u16 last] w fun e w' => e = .returned (.bool true) ∧ Below w.heap.size w w' := by
  have hu26 := Try.underlying26
  have hcv : IntKind.i64.wrap last = last := by rw [i64_is]; exact wrap64_in _ (by omega)
  have hcw : wrap64 last = last := wrap64_in _ (by omega)
  have HP := Asd.mk (fun (g base : Nat) (W : World) (hq : QS W g base 5 32 1 (zB last)) => bputN g base a n t last W hq (by first | omega | (rintro ⟨_, _, _, _, _, _⟩; omega)))
  have hno : ¬ (n ≤ 16777216) := by omega
  go_enter Try.func3, Try.ntmps3
  go_wp2_with fail
  (go_at_call 13; ((with_reducible refine (head_calls _).mono ?_); rintro e_ w1 ⟨rfl, b_⟩; have HX := Asd.mk ((Blk.new w 23 #[.int .i64 a, .int .i64 n, .int .i64 t]).below b_ (Blk.new w 23 #[.int .i64 a, .int .i64 n, .int .i64 t]).lt); have HB := Asd.mk (bcall (balloc (Below.refl _ w) _) b_); clear b_))
  go_wp2_with fail
  (go_at_call 14; ((with_reducible refine (new_qs 5 _ (by omega) (by omega) z0).mono ?_); rintro e_ w2 ⟨rfl, q_, b_⟩; have x_ := HX.out.below b_ HX.out.lt; have b2_ := bcall HB.out b_; have hg := HX.out.lt; clear HX HB; have HQ := Asd.mk q_; have HX := Asd.mk x_; have HB := Asd.mk b2_; clear q_ x_ b_ b2_))
  go_wp2_with fail
  (go_at_call 15; ((with_reducible refine (bput1 _ _ last _ hl0 hl1 HQ.out).mono ?_); rintro e_ w3 ⟨rfl, q_, t_⟩; have x_ := HX.out.keep (t_.block _ HX.out.lt (by omega)); have b2_ := t_.below HB.out (fun i hi => by omega); clear HX HB HQ; have HQ := Asd.mk q_; have HX := Asd.mk x_; have HB := Asd.mk b2_; clear q_ x_ t_ b2_))
  have c0 : w3.cell? ⟨w.heap.size, 0, none⟩ = some (.int .i64 a) := HX.out.cell 0
  have c1 : w3.cell? ⟨w.heap.size, 1, none⟩ = some (.int .i64 n) := HX.out.cell 1
  have c2 : w3.cell? ⟨w.heap.size, 2, none⟩ = some (.int .i64 t) := HX.out.cell 2
  go_wp2_with fail
  (go_at_call 15; ((with_reducible refine (HP.out _ _ _ HQ.out).mono ?_); rintro e_ w4 ⟨rfl, q_, t_⟩; have x_ := HX.out.keep (t_.block _ HX.out.lt (by omega)); have b2_ := t_.below HB.out (fun i hi => by omega); clear HX HB HQ; have HQ := Asd.mk q_; have HX := Asd.mk x_; have HB := Asd.mk b2_; clear q_ x_ t_ b2_))
  go_wp2_with fail
  (go_at_call 16; ((with_reducible refine (many_qs _ _ _ _ _ _ _ HQ.out).mono ?_); rintro e_ w_ ⟨rfl, rfl⟩))
  go_wp2_with fail
  (go_at_call 17; ((with_reducible refine (bytes_qs _ _ _ _ _ _ _ HQ.out).mono ?_); rintro e_ w_ ⟨rfl, rfl⟩))
  go_wp2_with fail
  go_ret
  exact ⟨by simp, HB.out⟩
set_option maxRecDepth 100000 in
set_option maxHeartbeats 1000000 in
theorem bounds5 (a n t last : Int) (w : World) (hl0 : 0 ≤ last) (hl1 : last ≤ 65535) (ha : I64 a) (hn : I64 n) (ht : I64 t) (h1 : 0 ≤ a) (h2 : a ≤ 16777216) (h3 : 0 ≤ n) (h4 : n ≤ 16777216) (h5 : t < last) : Calls Try.prog 3 #[.agg #[.int .i64 a, .int .i64 n, .int .i64 t], .int .u16 last] w fun e w' => e = .returned (.bool true) ∧ Below w.heap.size w w' := by
  have hu26 := Try.underlying26
  have hcv : IntKind.i64.wrap last = last := by rw [i64_is]; exact wrap64_in _ (by omega)
  have hcw : wrap64 last = last := wrap64_in _ (by omega)
  have HP := Asd.mk (fun (g base : Nat) (W : World) (hq : QS W g base 5 32 1 (zB last)) => bputN g base a n t last W hq (by first | omega | (rintro ⟨_, _, _, _, _, _⟩; omega)))
  have hno : ¬ (last ≤ t) := by omega
  go_enter Try.func3, Try.ntmps3
  go_wp2_with fail
  (go_at_call 13; ((with_reducible refine (head_calls _).mono ?_); rintro e_ w1 ⟨rfl, b_⟩; have HX := Asd.mk ((Blk.new w 23 #[.int .i64 a, .int .i64 n, .int .i64 t]).below b_ (Blk.new w 23 #[.int .i64 a, .int .i64 n, .int .i64 t]).lt); have HB := Asd.mk (bcall (balloc (Below.refl _ w) _) b_); clear b_))
  go_wp2_with fail
  (go_at_call 14; ((with_reducible refine (new_qs 5 _ (by omega) (by omega) z0).mono ?_); rintro e_ w2 ⟨rfl, q_, b_⟩; have x_ := HX.out.below b_ HX.out.lt; have b2_ := bcall HB.out b_; have hg := HX.out.lt; clear HX HB; have HQ := Asd.mk q_; have HX := Asd.mk x_; have HB := Asd.mk b2_; clear q_ x_ b_ b2_))
  go_wp2_with fail
  (go_at_call 15; ((with_reducible refine (bput1 _ _ last _ hl0 hl1 HQ.out).mono ?_); rintro e_ w3 ⟨rfl, q_, t_⟩; have x_ := HX.out.keep (t_.block _ HX.out.lt (by omega)); have b2_ := t_.below HB.out (fun i hi => by omega); clear HX HB HQ; have HQ := Asd.mk q_; have HX := Asd.mk x_; have HB := Asd.mk b2_; clear q_ x_ t_ b2_))
  have c0 : w3.cell? ⟨w.heap.size, 0, none⟩ = some (.int .i64 a) := HX.out.cell 0
  have c1 : w3.cell? ⟨w.heap.size, 1, none⟩ = some (.int .i64 n) := HX.out.cell 1
  have c2 : w3.cell? ⟨w.heap.size, 2, none⟩ = some (.int .i64 t) := HX.out.cell 2
  go_wp2_with fail
  (go_at_call 15; ((with_reducible refine (HP.out _ _ _ HQ.out).mono ?_); rintro e_ w4 ⟨rfl, q_, t_⟩; have x_ := HX.out.keep (t_.block _ HX.out.lt (by omega)); have b2_ := t_.below HB.out (fun i hi => by omega); clear HX HB HQ; have HQ := Asd.mk q_; have HX := Asd.mk x_; have HB := Asd.mk b2_; clear q_ x_ t_ b2_))
  go_wp2_with fail
  (go_at_call 16; ((with_reducible refine (many_qs _ _ _ _ _ _ _ HQ.out).mono ?_); rintro e_ w_ ⟨rfl, rfl⟩))
  go_wp2_with fail
  (go_at_call 17; ((with_reducible refine (bytes_qs _ _ _ _ _ _ _ HQ.out).mono ?_); rintro e_ w_ ⟨rfl, rfl⟩))
  go_wp2_with fail
  go_ret
  exact ⟨by simp, HB.out⟩
set_option maxRecDepth 100000 in
set_option maxHeartbeats 1000000 in
theorem bounds6 (a n t last : Int) (w : World) (hl0 : 0 ≤ last) (hl1 : last ≤ 65535) (ha : I64 a) (hn : I64 n) (ht : I64 t) (h1 : 0 ≤ a) (h2 : a ≤ 16777216) (h3 : 0 ≤ n) (h4 : n ≤ 16777216) (h5 : last ≤ t) (h6 : 2199023255552 < t) : Calls Try.prog 3 #[.agg #[.int .i64 a, .int .i64 n, .int .i64 t], .int .u16 last] w fun e w' => e = .returned (.bool true) ∧ Below w.heap.size w w' := by
  have hu26 := Try.underlying26
  have hcv : IntKind.i64.wrap last = last := by rw [i64_is]; exact wrap64_in _ (by omega)
  have hcw : wrap64 last = last := wrap64_in _ (by omega)
  have HP := Asd.mk (fun (g base : Nat) (W : World) (hq : QS W g base 5 32 1 (zB last)) => bputN g base a n t last W hq (by first | omega | (rintro ⟨_, _, _, _, _, _⟩; omega)))
  have hno : ¬ (t ≤ 2199023255552) := by omega
  have hd6 : decide (t ≤ 2199023255552) = false := decide_eq_false (by omega)
  go_enter Try.func3, Try.ntmps3
  go_wp2_with fail
  (go_at_call 13; ((with_reducible refine (head_calls _).mono ?_); rintro e_ w1 ⟨rfl, b_⟩; have HX := Asd.mk ((Blk.new w 23 #[.int .i64 a, .int .i64 n, .int .i64 t]).below b_ (Blk.new w 23 #[.int .i64 a, .int .i64 n, .int .i64 t]).lt); have HB := Asd.mk (bcall (balloc (Below.refl _ w) _) b_); clear b_))
  go_wp2_with fail
  (go_at_call 14; ((with_reducible refine (new_qs 5 _ (by omega) (by omega) z0).mono ?_); rintro e_ w2 ⟨rfl, q_, b_⟩; have x_ := HX.out.below b_ HX.out.lt; have b2_ := bcall HB.out b_; have hg := HX.out.lt; clear HX HB; have HQ := Asd.mk q_; have HX := Asd.mk x_; have HB := Asd.mk b2_; clear q_ x_ b_ b2_))
  go_wp2_with fail
  (go_at_call 15; ((with_reducible refine (bput1 _ _ last _ hl0 hl1 HQ.out).mono ?_); rintro e_ w3 ⟨rfl, q_, t_⟩; have x_ := HX.out.keep (t_.block _ HX.out.lt (by omega)); have b2_ := t_.below HB.out (fun i hi => by omega); clear HX HB HQ; have HQ := Asd.mk q_; have HX := Asd.mk x_; have HB := Asd.mk b2_; clear q_ x_ t_ b2_))
  have c0 : w3.cell? ⟨w.heap.size, 0, none⟩ = some (.int .i64 a) := HX.out.cell 0
  have c1 : w3.cell? ⟨w.heap.size, 1, none⟩ = some (.int .i64 n) := HX.out.cell 1
  have c2 : w3.cell? ⟨w.heap.size, 2, none⟩ = some (.int .i64 t) := HX.out.cell 2
  go_wp2_with fail
  (go_at_call 15; ((with_reducible refine (HP.out _ _ _ HQ.out).mono ?_); rintro e_ w4 ⟨rfl, q_, t_⟩; have x_ := HX.out.keep (t_.block _ HX.out.lt (by omega)); have b2_ := t_.below HB.out (fun i hi => by omega); clear HX HB HQ; have HQ := Asd.mk q_; have HX := Asd.mk x_; have HB := Asd.mk b2_; clear q_ x_ t_ b2_))
  go_wp2_with fail
  (go_at_call 16; ((with_reducible refine (many_qs _ _ _ _ _ _ _ HQ.out).mono ?_); rintro e_ w_ ⟨rfl, rfl⟩))
  go_wp2_with fail
  (go_at_call 17; ((with_reducible refine (bytes_qs _ _ _ _ _ _ _ HQ.out).mono ?_); rintro e_ w_ ⟨rfl, rfl⟩))
  go_wp2_with fail
  go_ret
  exact ⟨by simp, HB.out⟩
set_option maxRecDepth 100000 in
set_option maxHeartbeats 1000000 in
theorem bounds7 (a n t last : Int) (w : World) (hl0 : 0 ≤ last) (hl1 : last ≤ 65535) (ha : I64 a) (hn : I64 n) (ht : I64 t) (h1 : 0 ≤ a) (h2 : a ≤ 16777216) (h3 : 0 ≤ n) (h4 : n ≤ 16777216) (h5 : last ≤ t) (h6 : t ≤ 2199023255552) : Calls Try.prog 3 #[.agg #[.int .i64 a, .int .i64 n, .int .i64 t], .int .u16 last] w fun e w' => e = .returned (.bool true) ∧ Below w.heap.size w w' := by
  have hu26 := Try.underlying26
  have hcv : IntKind.i64.wrap last = last := by rw [i64_is]; exact wrap64_in _ (by omega)
  have hcw : wrap64 last = last := wrap64_in _ (by omega)
  have HP := Asd.mk (fun (g base : Nat) (W : World) (hq : QS W g base 5 32 1 (zB last)) => bputY g base a n t last W hq ⟨h1, h2, h3, h4, h5, h6⟩ hl0)
  have hsum : IntKind.i64.wrap (32 + n) = 32 + n := by rw [i64_is]; exact wrap64_in _ (by omega)
  have hsum2 : wrap64 (32 + n) = 32 + n := wrap64_in _ (by omega)
  go_enter Try.func3, Try.ntmps3
  go_wp2_with fail
  (go_at_call 13; ((with_reducible refine (head_calls _).mono ?_); rintro e_ w1 ⟨rfl, b_⟩; have HX := Asd.mk ((Blk.new w 23 #[.int .i64 a, .int .i64 n, .int .i64 t]).below b_ (Blk.new w 23 #[.int .i64 a, .int .i64 n, .int .i64 t]).lt); have HB := Asd.mk (bcall (balloc (Below.refl _ w) _) b_); clear b_))
  go_wp2_with fail
  (go_at_call 14; ((with_reducible refine (new_qs 5 _ (by omega) (by omega) z0).mono ?_); rintro e_ w2 ⟨rfl, q_, b_⟩; have x_ := HX.out.below b_ HX.out.lt; have b2_ := bcall HB.out b_; have hg := HX.out.lt; clear HX HB; have HQ := Asd.mk q_; have HX := Asd.mk x_; have HB := Asd.mk b2_; clear q_ x_ b_ b2_))
  go_wp2_with fail
  (go_at_call 15; ((with_reducible refine (bput1 _ _ last _ hl0 hl1 HQ.out).mono ?_); rintro e_ w3 ⟨rfl, q_, t_⟩; have x_ := HX.out.keep (t_.block _ HX.out.lt (by omega)); have b2_ := t_.below HB.out (fun i hi => by omega); clear HX HB HQ; have HQ := Asd.mk q_; have HX := Asd.mk x_; have HB := Asd.mk b2_; clear q_ x_ t_ b2_))
  have c0 : w3.cell? ⟨w.heap.size, 0, none⟩ = some (.int .i64 a) := HX.out.cell 0
  have c1 : w3.cell? ⟨w.heap.size, 1, none⟩ = some (.int .i64 n) := HX.out.cell 1
  have c2 : w3.cell? ⟨w.heap.size, 2, none⟩ = some (.int .i64 t) := HX.out.cell 2
  go_wp2_with fail
  (go_at_call 15; ((with_reducible refine (HP.out _ _ _ HQ.out).mono ?_); rintro e_ w4 ⟨rfl, q_, t_⟩; have x_ := HX.out.keep (t_.block _ HX.out.lt (by omega)); have b2_ := t_.below HB.out (fun i hi => by omega); clear HX HB HQ; have HQ := Asd.mk q_; have HX := Asd.mk x_; have HB := Asd.mk b2_; clear q_ x_ t_ b2_))
  go_wp2_with fail
  refine start_ (n := 21) (S := fun w' => QS w' w1.heap.size (w1.heap.size + 1) 5 (32 + n) 2 (upd (zB last) 1 ⟨a, n, t⟩) ∧ w'.cell? ⟨w.heap.size, 1, none⟩ = some (.int .i64 n) ∧ Below w.heap.size w w') (ds := []) #[false, false, false, false, false, false, false, false, false, false, false, false, false, false, false, false, false, false, false, false, false] (by kernel_rfl) rfl rfl ⟨HQ.out, HX.out.cell 1, bdrew HB.out⟩ (fun hHeld => ?_)
  refine pure_ (i := 0) (N := some 72) (v := ?_) (a' := ?_) #[true, false, false, false, false, false, false, false, false, false, false, false, false, false, false, false, false, false, false, false, false] rfl rfl (by kernel_rfl) (fun _ _ _ h => h) (Or.inl ⟨by rfl, ?_⟩) ?_ ?_
  rotate_left
  · intro w'
    go_simp
    with_reducible rfl
  rotate_left
  · simp only [Act.put, List.setIfInBounds_toArray, List.set_cons_zero, List.set_cons_succ, i64_w, i32_w]
    rfl
  refine pure_ (i := 1) (N := some 73) (v := ?_) (a' := ?_) #[true, true, false, false, false, false, false, false, false, false, false, false, false, false, false, false, false, false, false, false, false] rfl rfl (by kernel_rfl) (fun _ _ _ h => h) (Or.inl ⟨by rfl, ?_⟩) ?_ ?_
  rotate_left
  · intro w'
    go_simp
    with_reducible rfl
  rotate_left
  · simp only [Act.put, List.setIfInBounds_toArray, List.set_cons_zero, List.set_cons_succ, i64_w, i32_w]
    rfl
  refine pure_ (i := 2) (N := some 74) (v := ?_) (a' := ?_) #[true, true, true, false, false, false, false, false, false, false, false, false, false, false, false, false, false, false, false, false, false] rfl rfl (by kernel_rfl) (fun _ _ _ h => h) (Or.inl ⟨by rfl, ?_⟩) ?_ ?_
  rotate_left
  · intro w'
    go_simp
    with_reducible rfl
  rotate_left
  · simp only [Act.put, List.setIfInBounds_toArray, List.set_cons_zero, List.set_cons_succ, i64_w, i32_w]
    rfl
  refine pure_ (i := 3) (N := some 75) (v := ?_) (a' := ?_) #[true, true, true, true, false, false, false, false, false, false, false, false, false, false, false, false, false, false, false, false, false] rfl rfl (by kernel_rfl) (fun _ _ _ h => h) (Or.inl ⟨by rfl, ?_⟩) ?_ ?_
  rotate_left
  · intro w'
    go_simp
    with_reducible rfl
  rotate_left
  · simp only [Act.put, List.setIfInBounds_toArray, List.set_cons_zero, List.set_cons_succ, i64_w, i32_w]
    rfl
  refine pure_ (i := 4) (N := some 76) (v := ?_) (a' := ?_) #[true, true, true, true, true, false, false, false, false, false, false, false, false, false, false, false, false, false, false, false, false] rfl rfl (by kernel_rfl) (fun _ _ _ h => h) (Or.inl ⟨by rfl, ?_⟩) ?_ ?_
  rotate_left
  · intro w'
    go_simp
    with_reducible rfl
  rotate_left
  · simp only [Act.put, List.setIfInBounds_toArray, List.set_cons_zero, List.set_cons_succ, i64_w, i32_w]
    rfl
  refine pure_ (i := 5) (N := some 77) (v := ?_) (a' := ?_) #[true, true, true, true, true, true, false, false, false, false, false, false, false, false, false, false, false, false, false, false, false] rfl rfl (by kernel_rfl) (fun _ _ _ h => h) (Or.inl ⟨by rfl, ?_⟩) ?_ ?_
  rotate_left
  · intro w'
    go_simp
    with_reducible rfl
  rotate_left
  · simp only [Act.put, List.setIfInBounds_toArray, List.set_cons_zero, List.set_cons_succ, i64_w, i32_w]
    rfl
  refine pure_ (i := 6) (N := some 78) (v := ?_) (a' := ?_) #[true, true, true, true, true, true, true, false, false, false, false, false, false, false, false, false, false, false, false, false, false] rfl rfl (by kernel_rfl) (fun _ _ _ h => h) (Or.inl ⟨by rfl, ?_⟩) ?_ ?_
  rotate_left
  · intro w'
    go_simp
    with_reducible rfl
  rotate_left
  · simp only [Act.put, List.setIfInBounds_toArray, List.set_cons_zero, List.set_cons_succ, i64_w, i32_w]
    rfl
  refine pure_ (i := 7) (N := some 79) (v := ?_) (a' := ?_) #[true, true, true, true, true, true, true, true, false, false, false, false, false, false, false, false, false, false, false, false, false] rfl rfl (by kernel_rfl) (fun _ _ _ h => h) (Or.inl ⟨by rfl, ?_⟩) ?_ ?_
  rotate_left
  · intro w'
    go_simp
    with_reducible rfl
  rotate_left
  · simp only [Act.put, List.setIfInBounds_toArray, List.set_cons_zero, List.set_cons_succ, i64_w, i32_w]
    rfl
  refine pure_ (i := 8) (N := some 80) (v := ?_) (a' := ?_) #[true, true, true, true, true, true, true, true, true, false, false, false, false, false, false, false, false, false, false, false, false] rfl rfl (by kernel_rfl) (fun _ _ _ h => h) (Or.inl ⟨by rfl, ?_⟩) ?_ ?_
  rotate_left
  · intro w'
    go_simp
    with_reducible rfl
  rotate_left
  · simp only [Act.put, List.setIfInBounds_toArray, List.set_cons_zero, List.set_cons_succ, i64_w, i32_w]
    rfl
  refine one_ (i := 9) (N := some 81) #[true, true, true, true, true, true, true, true, true, true, false, false, false, false, false, false, false, false, false, false, false] rfl rfl (by kernel_rfl) (by decide) (fun K hK => ?_)
  refine goes_ Try.func16 (by kernel_rfl) rfl #[.pointer (some ⟨w1.heap.size, 0, none⟩)] (by rfl) rfl rfl (by simp only [List.map_toArray, List.map_cons, List.map_nil]; rfl) ?_
  with_reducible refine (many_qs _ _ _ _ _ _ _ hHeld.1).mono ?_
  rintro e_ w5 ⟨rfl, rfl⟩
  refine ⟨_, rfl, ?_⟩
  refine hK.out _ _ ⟨hHeld.1, hHeld.2.1, hHeld.2.2⟩ (fun hHeld => ?_)
  clear hK K
  refine norm_ (a' := ?_) ?_ ?_
  rotate_left
  · show Act.put _ (some 81) _ = _
    simp only [Act.put, List.setIfInBounds_toArray, List.set_cons_zero, List.set_cons_succ, i64_w, i32_w]
    rfl
  refine pure_ (i := 10) (N := some 82) (v := ?_) (a' := ?_) #[true, true, true, true, true, true, true, true, true, true, true, false, false, false, false, false, false, false, false, false, false] rfl rfl (by kernel_rfl) (fun _ _ _ h => h) (Or.inl ⟨by rfl, ?_⟩) ?_ ?_
  rotate_left
  · intro w'
    go_simp
    with_reducible rfl
  rotate_left
  · simp only [Act.put, List.setIfInBounds_toArray, List.set_cons_zero, List.set_cons_succ, i64_w, i32_w]
    rfl
  refine pure_ (i := 11) (N := some 83) (v := ?_) (a' := ?_) #[true, true, true, true, true, true, true, true, true, true, true, true, false, false, false, false, false, false, false, false, false] rfl rfl (by kernel_rfl) (fun _ _ _ h => h) (Or.inl ⟨by rfl, ?_⟩) ?_ ?_
  rotate_left
  · intro w'
    go_simp
    with_reducible rfl
  rotate_left
  · simp only [Act.put, List.setIfInBounds_toArray, List.set_cons_zero, List.set_cons_succ, i64_w, i32_w]
    rfl
  refine pure_ (i := 12) (N := some 84) (v := ?_) (a' := ?_) #[true, true, true, true, true, true, true, true, true, true, true, true, true, false, false, false, false, false, false, false, false] rfl rfl (by kernel_rfl) (fun _ _ _ h => h) (Or.inl ⟨by rfl, ?_⟩) ?_ ?_
  rotate_left
  · intro w'
    go_simp
    with_reducible rfl
  rotate_left
  · simp only [Act.put, List.setIfInBounds_toArray, List.set_cons_zero, List.set_cons_succ, i64_w, i32_w]
    rfl
  refine pure_ (i := 13) (N := some 85) (v := ?_) (a' := ?_) #[true, true, true, true, true, true, true, true, true, true, true, true, true, true, false, false, false, false, false, false, false] rfl rfl (by kernel_rfl) (fun _ _ _ h => h) (Or.inl ⟨by rfl, ?_⟩) ?_ ?_
  rotate_left
  · intro w'
    go_simp
    with_reducible rfl
  rotate_left
  · simp only [Act.put, List.setIfInBounds_toArray, List.set_cons_zero, List.set_cons_succ, i64_w, i32_w]
    rfl
  refine pure_ (i := 15) (N := some 87) (v := ?_) (a' := ?_) #[true, true, true, true, true, true, true, true, true, true, true, true, true, true, false, true, false, false, false, false, false] rfl rfl (by kernel_rfl) (fun _ _ _ h => h) (Or.inl ⟨by rfl, ?_⟩) ?_ ?_
  rotate_left
  · intro w'
    go_simp
    with_reducible rfl
  rotate_left
  · simp only [Act.put, List.setIfInBounds_toArray, List.set_cons_zero, List.set_cons_succ, i64_w, i32_w]
    rfl
  refine take_ (i := 16) (N := some 88) (v := ?_) (a' := ?_) #[true, true, true, true, true, true, true, true, true, true, true, true, true, true, false, true, true, false, false, false, false] rfl rfl (by kernel_rfl) (fun _ _ _ h => h) (Or.inl ⟨by rfl, ?_⟩) hHeld ?_ ?_
  rotate_left
  · rintro w' ⟨s0, s1, s2⟩
    go_simp
    with_reducible rfl
  rotate_left
  · simp only [Act.put, List.setIfInBounds_toArray, List.set_cons_zero, List.set_cons_succ, i64_w, i32_w]
    rfl
  refine pure_ (i := 17) (N := some 89) (v := ?_) (a' := ?_) #[true, true, true, true, true, true, true, true, true, true, true, true, true, true, false, true, true, true, false, false, false] rfl rfl (by kernel_rfl) (fun _ _ _ h => h) (Or.inl ⟨by rfl, ?_⟩) ?_ ?_
  rotate_left
  · intro w'
    go_simp
    with_reducible rfl
  rotate_left
  · simp only [Act.put, List.setIfInBounds_toArray, List.set_cons_zero, List.set_cons_succ, i64_w, i32_w]
    rfl
  refine one_ (i := 14) (N := some 86) #[true, true, true, true, true, true, true, true, true, true, true, true, true, true, true, true, true, true, false, false, false] rfl rfl (by kernel_rfl) (by decide) (fun K hK => ?_)
  refine goes_ Try.func17 (by kernel_rfl) rfl #[.pointer (some ⟨w1.heap.size, 0, none⟩)] (by rfl) rfl rfl (by simp only [List.map_toArray, List.map_cons, List.map_nil]; rfl) ?_
  with_reducible refine (bytes_qs _ _ _ _ _ _ _ hHeld.1).mono ?_
  rintro e_ w5 ⟨rfl, rfl⟩
  refine ⟨_, rfl, ?_⟩
  refine hK.out _ _ ⟨hHeld.1, hHeld.2.1, hHeld.2.2⟩ (fun hHeld => ?_)
  clear hK K
  refine norm_ (a' := ?_) ?_ ?_
  rotate_left
  · show Act.put _ (some 86) _ = _
    simp only [Act.put, List.setIfInBounds_toArray, List.set_cons_zero, List.set_cons_succ, i64_w, i32_w]
    rfl
  refine pure_ (i := 18) (N := some 90) (v := ?_) (a' := ?_) #[true, true, true, true, true, true, true, true, true, true, true, true, true, true, true, true, true, true, true, false, false] rfl rfl (by kernel_rfl) (fun _ _ _ h => h) (Or.inl ⟨by rfl, ?_⟩) ?_ ?_
  rotate_left
  · intro w'
    go_simp
    with_reducible rfl
  rotate_left
  · simp only [Act.put, List.setIfInBounds_toArray, List.set_cons_zero, List.set_cons_succ, i64_w, i32_w]
    rfl
  refine pure_ (i := 19) (N := some 91) (v := ?_) (a' := ?_) #[true, true, true, true, true, true, true, true, true, true, true, true, true, true, true, true, true, true, true, true, false] rfl rfl (by kernel_rfl) (fun _ _ _ h => h) (Or.inl ⟨by rfl, ?_⟩) ?_ ?_
  rotate_left
  · intro w'
    go_simp
    with_reducible rfl
  rotate_left
  · simp only [Act.put, List.setIfInBounds_toArray, List.set_cons_zero, List.set_cons_succ, i64_w, i32_w]
    rfl
  refine pure_ (i := 20) (N := some 4) (v := ?_) (a' := ?_) #[true, true, true, true, true, true, true, true, true, true, true, true, true, true, true, true, true, true, true, true, true] rfl rfl (by kernel_rfl) (fun _ _ _ h => h) (Or.inl ⟨by rfl, ?_⟩) ?_ ?_
  rotate_left
  · intro w'
    go_simp
    with_reducible rfl
  rotate_left
  · simp only [Act.put, List.setIfInBounds_toArray, List.set_cons_zero, List.set_cons_succ, i64_w, i32_w]
    rfl
  refine done_ (by kernel_rfl) ?_
  have HB := Asd.mk hHeld.2.2
  clear hHeld
  go_wp2_with fail
  go_ret
  exact ⟨by simp, HB.out⟩
theorem quarBounds_calls (a n t last : Int) (w : World) (ha : I64 a) (hn : I64 n) (ht : I64 t) (hl : 0 ≤ last ∧ last ≤ 65535) : Calls Try.prog 3 #[.agg #[.int .i64 a, .int .i64 n, .int .i64 t], .int .u16 last] w fun e w' => e = .returned (.bool true) ∧ Below w.heap.size w w' := by
  by_cases c1 : 0 ≤ a
  case neg => exact bounds1 a n t last w hl.1 hl.2 ha hn ht  (by omega)
  by_cases c2 : a ≤ 16777216
  case neg => exact bounds2 a n t last w hl.1 hl.2 ha hn ht c1 (by omega)
  by_cases c3 : 0 ≤ n
  case neg => exact bounds3 a n t last w hl.1 hl.2 ha hn ht c1 c2 (by omega)
  by_cases c4 : n ≤ 16777216
  case neg => exact bounds4 a n t last w hl.1 hl.2 ha hn ht c1 c2 c3 (by omega)
  by_cases c5 : last ≤ t
  case neg => exact bounds5 a n t last w hl.1 hl.2 ha hn ht c1 c2 c3 c4 (by omega)
  by_cases c6 : t ≤ 2199023255552
  case neg => exact bounds6 a n t last w hl.1 hl.2 ha hn ht c1 c2 c3 c4 c5 (by omega)
  exact bounds7 a n t last w hl.1 hl.2 ha hn ht c1 c2 c3 c4 c5 c6
end Go.Proofs.Ytldgecnmmklldaa.Qr
