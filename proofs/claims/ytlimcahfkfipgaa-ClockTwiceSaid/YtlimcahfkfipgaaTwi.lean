/- ClockTwice's walk: for any time and any two shifts the call returns true. No condition but that each number is of its kind. -/
import Derived.Test.YtlimcahfkfipgaaBase
namespace Go.Proofs.Ytlimcahfkfipgaa.Twi
open Go.RowKit Go.Proofs.Ytlimcahfkfipgaa.PClockConverts Go.Proofs.YtlimcahfkfipgaaW.PrintWords Go.Proofs.YtlimcahfkfipgaaW.PrintLast Go.Proofs.YtlimcahfkfipgaaW.PrintMore Base
attribute [local go_sem] max2_int min2_int max_two min_two max_three min_three max_four min_four
set_option linter.unusedVariables false
set_option linter.unusedSimpArgs false

set_option maxHeartbeats 1600000 in
set_option maxRecDepth 100000 in
theorem wpp0 (t p q x y : Int) (w : World) (ht : 0 ≤ t ∧ t ≤ 18446744073709551615) (hx : wrap64 (p.tdiv 2) = x) (hy : wrap64 (q.tdiv 2) = y) (bx0 : -4611686018427387904 ≤ x) (bx1 : x ≤ 4611686018427387903) (by0 : -4611686018427387904 ≤ y) (by1 : y ≤ 4611686018427387903) (s0 : 0 ≤ x) (s1 : 0 ≤ y) (c : ¬ (0 ≤ t + x ∧ t + x ≤ 18446744073709551615)) :
    Calls Try.prog 8 #[.int .u64 t, .int .i64 p, .int .i64 q] w fun e w' => e = .returned (.bool true) ∧ Below w.heap.size w w' := by
  have HB := Aside0.mk (Below.refl w.heap.size w)
  have kx : decide (x < 0) = false := decide_eq_false (by omega)
  have ky : decide (y < 0) = false := decide_eq_false (by omega)
  go_enter Try.func8, Try.ntmps8
  go_wp2_with (first | (go_at_call 12; (with_reducible refine (shown_any _).mono ?_); rintro e w' ⟨rfl, hb⟩; have n0_ := Aside0.mk (below_step (by repeat (first | (with_reducible first | exact HB.out | apply below_alloc | apply pw_below_drewN | apply below_drew1) | exact HB.out)) hb); clear HB; have HB := n0_; clear n0_; clear hb) | (go_at_call 19; (with_reducible refine (shift_no t x _ ht ⟨by omega, by omega⟩ c).mono ?_); rintro e w' ⟨rfl, ⟨nd, rfl⟩⟩) | (go_at_call 19; (with_reducible refine (shift_no t (x + y) _ ht ⟨by omega, by omega⟩ (by omega)).mono ?_); rintro e w' ⟨rfl, ⟨nd, rfl⟩⟩))
  go_ret
  exact ⟨by first | rfl | (simp; done) | (simp [*]; done), (by repeat (first | (with_reducible first | exact HB.out | apply below_alloc | apply pw_below_drewN | apply below_drew1) | exact HB.out))⟩

set_option maxHeartbeats 1600000 in
set_option maxRecDepth 100000 in
theorem wpp1 (t p q x y : Int) (w : World) (ht : 0 ≤ t ∧ t ≤ 18446744073709551615) (hx : wrap64 (p.tdiv 2) = x) (hy : wrap64 (q.tdiv 2) = y) (bx0 : -4611686018427387904 ≤ x) (bx1 : x ≤ 4611686018427387903) (by0 : -4611686018427387904 ≤ y) (by1 : y ≤ 4611686018427387903) (s0 : 0 ≤ x) (s1 : 0 ≤ y) (c0 : 0 ≤ t + x) (c1 : t + x ≤ 18446744073709551615) (d0 : 0 ≤ t + x + y) (d1 : t + x + y ≤ 18446744073709551615) :
    Calls Try.prog 8 #[.int .u64 t, .int .i64 p, .int .i64 q] w fun e w' => e = .returned (.bool true) ∧ Below w.heap.size w w' := by
  have HB := Aside0.mk (Below.refl w.heap.size w)
  have kx : decide (x < 0) = false := decide_eq_false (by omega)
  have ky : decide (y < 0) = false := decide_eq_false (by omega)
  go_enter Try.func8, Try.ntmps8
  go_wp2_with (first | (go_at_call 12; (with_reducible refine (shown_any _).mono ?_); rintro e w' ⟨rfl, hb⟩; have n0_ := Aside0.mk (below_step (by repeat (first | (with_reducible first | exact HB.out | apply below_alloc | apply pw_below_drewN | apply below_drew1) | exact HB.out)) hb); clear HB; have HB := n0_; clear n0_; clear hb) | (go_at_call 19; (with_reducible refine (shift_eq t x (t + x) _ ht ⟨by omega, by omega⟩ ⟨c0, c1⟩ rfl).mono ?_); rintro e w' ⟨rfl, ⟨nd, rfl⟩⟩) | (go_at_call 19; (with_reducible refine (shift_eq (t + x) (y) (t + x + y) _ ⟨c0, c1⟩ ⟨by omega, by omega⟩ ⟨d0, d1⟩ rfl).mono ?_); rintro e w' ⟨rfl, ⟨nd, rfl⟩⟩) | (go_at_call 19; (with_reducible refine (shift_eq t (x + y) (t + x + y) _ ht ⟨by omega, by omega⟩ ⟨by omega, by omega⟩ (by omega)).mono ?_); rintro e w' ⟨rfl, ⟨nd, rfl⟩⟩))
  go_ret
  exact ⟨by first | rfl | (simp; done) | (simp [*]; done), (by repeat (first | (with_reducible first | exact HB.out | apply below_alloc | apply pw_below_drewN | apply below_drew1) | exact HB.out))⟩

set_option maxHeartbeats 1600000 in
set_option maxRecDepth 100000 in
theorem wpp2 (t p q x y : Int) (w : World) (ht : 0 ≤ t ∧ t ≤ 18446744073709551615) (hx : wrap64 (p.tdiv 2) = x) (hy : wrap64 (q.tdiv 2) = y) (bx0 : -4611686018427387904 ≤ x) (bx1 : x ≤ 4611686018427387903) (by0 : -4611686018427387904 ≤ y) (by1 : y ≤ 4611686018427387903) (s0 : 0 ≤ x) (s1 : 0 ≤ y) (c0 : 0 ≤ t + x) (c1 : t + x ≤ 18446744073709551615) (d : ¬ (0 ≤ t + x + y ∧ t + x + y ≤ 18446744073709551615)) :
    Calls Try.prog 8 #[.int .u64 t, .int .i64 p, .int .i64 q] w fun e w' => e = .returned (.bool true) ∧ Below w.heap.size w w' := by
  have HB := Aside0.mk (Below.refl w.heap.size w)
  have kx : decide (x < 0) = false := decide_eq_false (by omega)
  have ky : decide (y < 0) = false := decide_eq_false (by omega)
  go_enter Try.func8, Try.ntmps8
  go_wp2_with (first | (go_at_call 12; (with_reducible refine (shown_any _).mono ?_); rintro e w' ⟨rfl, hb⟩; have n0_ := Aside0.mk (below_step (by repeat (first | (with_reducible first | exact HB.out | apply below_alloc | apply pw_below_drewN | apply below_drew1) | exact HB.out)) hb); clear HB; have HB := n0_; clear n0_; clear hb) | (go_at_call 19; (with_reducible refine (shift_eq t x (t + x) _ ht ⟨by omega, by omega⟩ ⟨c0, c1⟩ rfl).mono ?_); rintro e w' ⟨rfl, ⟨nd, rfl⟩⟩) | (go_at_call 19; (with_reducible refine (shift_no (t + x) (y) _ ⟨c0, c1⟩ ⟨by omega, by omega⟩ d).mono ?_); rintro e w' ⟨rfl, ⟨nd, rfl⟩⟩) | (go_at_call 19; (with_reducible refine (shift_no t (x + y) _ ht ⟨by omega, by omega⟩ (by omega)).mono ?_); rintro e w' ⟨rfl, ⟨nd, rfl⟩⟩))
  go_ret
  exact ⟨by first | rfl | (simp; done) | (simp [*]; done), (by repeat (first | (with_reducible first | exact HB.out | apply below_alloc | apply pw_below_drewN | apply below_drew1) | exact HB.out))⟩

set_option maxHeartbeats 1600000 in
set_option maxRecDepth 100000 in
theorem wnn0 (t p q x y : Int) (w : World) (ht : 0 ≤ t ∧ t ≤ 18446744073709551615) (hx : wrap64 (p.tdiv 2) = x) (hy : wrap64 (q.tdiv 2) = y) (bx0 : -4611686018427387904 ≤ x) (bx1 : x ≤ 4611686018427387903) (by0 : -4611686018427387904 ≤ y) (by1 : y ≤ 4611686018427387903) (s0 : x < 0) (s1 : y < 0) (c : ¬ (0 ≤ t + x ∧ t + x ≤ 18446744073709551615)) :
    Calls Try.prog 8 #[.int .u64 t, .int .i64 p, .int .i64 q] w fun e w' => e = .returned (.bool true) ∧ Below w.heap.size w w' := by
  have HB := Aside0.mk (Below.refl w.heap.size w)
  have kx : decide (x < 0) = true := decide_eq_true (by omega)
  have ky : decide (y < 0) = true := decide_eq_true (by omega)
  go_enter Try.func8, Try.ntmps8
  go_wp2_with (first | (go_at_call 12; (with_reducible refine (shown_any _).mono ?_); rintro e w' ⟨rfl, hb⟩; have n0_ := Aside0.mk (below_step (by repeat (first | (with_reducible first | exact HB.out | apply below_alloc | apply pw_below_drewN | apply below_drew1) | exact HB.out)) hb); clear HB; have HB := n0_; clear n0_; clear hb) | (go_at_call 19; (with_reducible refine (shift_no t x _ ht ⟨by omega, by omega⟩ c).mono ?_); rintro e w' ⟨rfl, ⟨nd, rfl⟩⟩) | (go_at_call 19; (with_reducible refine (shift_no t (x + y) _ ht ⟨by omega, by omega⟩ (by omega)).mono ?_); rintro e w' ⟨rfl, ⟨nd, rfl⟩⟩))
  go_ret
  exact ⟨by first | rfl | (simp; done) | (simp [*]; done), (by repeat (first | (with_reducible first | exact HB.out | apply below_alloc | apply pw_below_drewN | apply below_drew1) | exact HB.out))⟩

set_option maxHeartbeats 1600000 in
set_option maxRecDepth 100000 in
theorem wnn1 (t p q x y : Int) (w : World) (ht : 0 ≤ t ∧ t ≤ 18446744073709551615) (hx : wrap64 (p.tdiv 2) = x) (hy : wrap64 (q.tdiv 2) = y) (bx0 : -4611686018427387904 ≤ x) (bx1 : x ≤ 4611686018427387903) (by0 : -4611686018427387904 ≤ y) (by1 : y ≤ 4611686018427387903) (s0 : x < 0) (s1 : y < 0) (c0 : 0 ≤ t + x) (c1 : t + x ≤ 18446744073709551615) (d0 : 0 ≤ t + x + y) (d1 : t + x + y ≤ 18446744073709551615) :
    Calls Try.prog 8 #[.int .u64 t, .int .i64 p, .int .i64 q] w fun e w' => e = .returned (.bool true) ∧ Below w.heap.size w w' := by
  have HB := Aside0.mk (Below.refl w.heap.size w)
  have kx : decide (x < 0) = true := decide_eq_true (by omega)
  have ky : decide (y < 0) = true := decide_eq_true (by omega)
  go_enter Try.func8, Try.ntmps8
  go_wp2_with (first | (go_at_call 12; (with_reducible refine (shown_any _).mono ?_); rintro e w' ⟨rfl, hb⟩; have n0_ := Aside0.mk (below_step (by repeat (first | (with_reducible first | exact HB.out | apply below_alloc | apply pw_below_drewN | apply below_drew1) | exact HB.out)) hb); clear HB; have HB := n0_; clear n0_; clear hb) | (go_at_call 19; (with_reducible refine (shift_eq t x (t + x) _ ht ⟨by omega, by omega⟩ ⟨c0, c1⟩ rfl).mono ?_); rintro e w' ⟨rfl, ⟨nd, rfl⟩⟩) | (go_at_call 19; (with_reducible refine (shift_eq (t + x) (y) (t + x + y) _ ⟨c0, c1⟩ ⟨by omega, by omega⟩ ⟨d0, d1⟩ rfl).mono ?_); rintro e w' ⟨rfl, ⟨nd, rfl⟩⟩) | (go_at_call 19; (with_reducible refine (shift_eq t (x + y) (t + x + y) _ ht ⟨by omega, by omega⟩ ⟨by omega, by omega⟩ (by omega)).mono ?_); rintro e w' ⟨rfl, ⟨nd, rfl⟩⟩))
  go_ret
  exact ⟨by first | rfl | (simp; done) | (simp [*]; done), (by repeat (first | (with_reducible first | exact HB.out | apply below_alloc | apply pw_below_drewN | apply below_drew1) | exact HB.out))⟩

set_option maxHeartbeats 1600000 in
set_option maxRecDepth 100000 in
theorem wnn2 (t p q x y : Int) (w : World) (ht : 0 ≤ t ∧ t ≤ 18446744073709551615) (hx : wrap64 (p.tdiv 2) = x) (hy : wrap64 (q.tdiv 2) = y) (bx0 : -4611686018427387904 ≤ x) (bx1 : x ≤ 4611686018427387903) (by0 : -4611686018427387904 ≤ y) (by1 : y ≤ 4611686018427387903) (s0 : x < 0) (s1 : y < 0) (c0 : 0 ≤ t + x) (c1 : t + x ≤ 18446744073709551615) (d : ¬ (0 ≤ t + x + y ∧ t + x + y ≤ 18446744073709551615)) :
    Calls Try.prog 8 #[.int .u64 t, .int .i64 p, .int .i64 q] w fun e w' => e = .returned (.bool true) ∧ Below w.heap.size w w' := by
  have HB := Aside0.mk (Below.refl w.heap.size w)
  have kx : decide (x < 0) = true := decide_eq_true (by omega)
  have ky : decide (y < 0) = true := decide_eq_true (by omega)
  go_enter Try.func8, Try.ntmps8
  go_wp2_with (first | (go_at_call 12; (with_reducible refine (shown_any _).mono ?_); rintro e w' ⟨rfl, hb⟩; have n0_ := Aside0.mk (below_step (by repeat (first | (with_reducible first | exact HB.out | apply below_alloc | apply pw_below_drewN | apply below_drew1) | exact HB.out)) hb); clear HB; have HB := n0_; clear n0_; clear hb) | (go_at_call 19; (with_reducible refine (shift_eq t x (t + x) _ ht ⟨by omega, by omega⟩ ⟨c0, c1⟩ rfl).mono ?_); rintro e w' ⟨rfl, ⟨nd, rfl⟩⟩) | (go_at_call 19; (with_reducible refine (shift_no (t + x) (y) _ ⟨c0, c1⟩ ⟨by omega, by omega⟩ d).mono ?_); rintro e w' ⟨rfl, ⟨nd, rfl⟩⟩) | (go_at_call 19; (with_reducible refine (shift_no t (x + y) _ ht ⟨by omega, by omega⟩ (by omega)).mono ?_); rintro e w' ⟨rfl, ⟨nd, rfl⟩⟩))
  go_ret
  exact ⟨by first | rfl | (simp; done) | (simp [*]; done), (by repeat (first | (with_reducible first | exact HB.out | apply below_alloc | apply pw_below_drewN | apply below_drew1) | exact HB.out))⟩

set_option maxHeartbeats 1600000 in
set_option maxRecDepth 100000 in
theorem wpn0 (t p q x y : Int) (w : World) (ht : 0 ≤ t ∧ t ≤ 18446744073709551615) (hx : wrap64 (p.tdiv 2) = x) (hy : wrap64 (q.tdiv 2) = y) (bx0 : -4611686018427387904 ≤ x) (bx1 : x ≤ 4611686018427387903) (by0 : -4611686018427387904 ≤ y) (by1 : y ≤ 4611686018427387903) (s0 : 0 ≤ x) (s1 : y < 0) (c : ¬ (0 ≤ t + x ∧ t + x ≤ 18446744073709551615)) :
    Calls Try.prog 8 #[.int .u64 t, .int .i64 p, .int .i64 q] w fun e w' => e = .returned (.bool true) ∧ Below w.heap.size w w' := by
  have HB := Aside0.mk (Below.refl w.heap.size w)
  have kx : decide (x < 0) = false := decide_eq_false (by omega)
  have ky : decide (y < 0) = true := decide_eq_true (by omega)
  go_enter Try.func8, Try.ntmps8
  go_wp2_with (first | (go_at_call 12; (with_reducible refine (shown_any _).mono ?_); rintro e w' ⟨rfl, hb⟩; have n0_ := Aside0.mk (below_step (by repeat (first | (with_reducible first | exact HB.out | apply below_alloc | apply pw_below_drewN | apply below_drew1) | exact HB.out)) hb); clear HB; have HB := n0_; clear n0_; clear hb) | (go_at_call 19; (with_reducible refine (shift_no t x _ ht ⟨by omega, by omega⟩ c).mono ?_); rintro e w' ⟨rfl, ⟨nd, rfl⟩⟩) | (go_at_call 19; (with_reducible refine (shift_no t (x + -y) _ ht ⟨by omega, by omega⟩ (by omega)).mono ?_); rintro e w' ⟨rfl, ⟨nd, rfl⟩⟩))
  go_ret
  exact ⟨by first | rfl | (simp; done) | (simp [*]; done), (by repeat (first | (with_reducible first | exact HB.out | apply below_alloc | apply pw_below_drewN | apply below_drew1) | exact HB.out))⟩

set_option maxHeartbeats 1600000 in
set_option maxRecDepth 100000 in
theorem wpn1 (t p q x y : Int) (w : World) (ht : 0 ≤ t ∧ t ≤ 18446744073709551615) (hx : wrap64 (p.tdiv 2) = x) (hy : wrap64 (q.tdiv 2) = y) (bx0 : -4611686018427387904 ≤ x) (bx1 : x ≤ 4611686018427387903) (by0 : -4611686018427387904 ≤ y) (by1 : y ≤ 4611686018427387903) (s0 : 0 ≤ x) (s1 : y < 0) (c0 : 0 ≤ t + x) (c1 : t + x ≤ 18446744073709551615) (d0 : 0 ≤ t + x + -y) (d1 : t + x + -y ≤ 18446744073709551615) :
    Calls Try.prog 8 #[.int .u64 t, .int .i64 p, .int .i64 q] w fun e w' => e = .returned (.bool true) ∧ Below w.heap.size w w' := by
  have HB := Aside0.mk (Below.refl w.heap.size w)
  have kx : decide (x < 0) = false := decide_eq_false (by omega)
  have ky : decide (y < 0) = true := decide_eq_true (by omega)
  go_enter Try.func8, Try.ntmps8
  go_wp2_with (first | (go_at_call 12; (with_reducible refine (shown_any _).mono ?_); rintro e w' ⟨rfl, hb⟩; have n0_ := Aside0.mk (below_step (by repeat (first | (with_reducible first | exact HB.out | apply below_alloc | apply pw_below_drewN | apply below_drew1) | exact HB.out)) hb); clear HB; have HB := n0_; clear n0_; clear hb) | (go_at_call 19; (with_reducible refine (shift_eq t x (t + x) _ ht ⟨by omega, by omega⟩ ⟨c0, c1⟩ rfl).mono ?_); rintro e w' ⟨rfl, ⟨nd, rfl⟩⟩) | (go_at_call 19; (with_reducible refine (shift_eq (t + x) (-y) (t + x + -y) _ ⟨c0, c1⟩ ⟨by omega, by omega⟩ ⟨d0, d1⟩ rfl).mono ?_); rintro e w' ⟨rfl, ⟨nd, rfl⟩⟩) | (go_at_call 19; (with_reducible refine (shift_eq t (x + -y) (t + x + -y) _ ht ⟨by omega, by omega⟩ ⟨by omega, by omega⟩ (by omega)).mono ?_); rintro e w' ⟨rfl, ⟨nd, rfl⟩⟩))
  go_ret
  exact ⟨by first | rfl | (simp; done) | (simp [*]; done), (by repeat (first | (with_reducible first | exact HB.out | apply below_alloc | apply pw_below_drewN | apply below_drew1) | exact HB.out))⟩

set_option maxHeartbeats 1600000 in
set_option maxRecDepth 100000 in
theorem wpn2 (t p q x y : Int) (w : World) (ht : 0 ≤ t ∧ t ≤ 18446744073709551615) (hx : wrap64 (p.tdiv 2) = x) (hy : wrap64 (q.tdiv 2) = y) (bx0 : -4611686018427387904 ≤ x) (bx1 : x ≤ 4611686018427387903) (by0 : -4611686018427387904 ≤ y) (by1 : y ≤ 4611686018427387903) (s0 : 0 ≤ x) (s1 : y < 0) (c0 : 0 ≤ t + x) (c1 : t + x ≤ 18446744073709551615) (d : ¬ (0 ≤ t + x + -y ∧ t + x + -y ≤ 18446744073709551615)) :
    Calls Try.prog 8 #[.int .u64 t, .int .i64 p, .int .i64 q] w fun e w' => e = .returned (.bool true) ∧ Below w.heap.size w w' := by
  have HB := Aside0.mk (Below.refl w.heap.size w)
  have kx : decide (x < 0) = false := decide_eq_false (by omega)
  have ky : decide (y < 0) = true := decide_eq_true (by omega)
  go_enter Try.func8, Try.ntmps8
  go_wp2_with (first | (go_at_call 12; (with_reducible refine (shown_any _).mono ?_); rintro e w' ⟨rfl, hb⟩; have n0_ := Aside0.mk (below_step (by repeat (first | (with_reducible first | exact HB.out | apply below_alloc | apply pw_below_drewN | apply below_drew1) | exact HB.out)) hb); clear HB; have HB := n0_; clear n0_; clear hb) | (go_at_call 19; (with_reducible refine (shift_eq t x (t + x) _ ht ⟨by omega, by omega⟩ ⟨c0, c1⟩ rfl).mono ?_); rintro e w' ⟨rfl, ⟨nd, rfl⟩⟩) | (go_at_call 19; (with_reducible refine (shift_no (t + x) (-y) _ ⟨c0, c1⟩ ⟨by omega, by omega⟩ d).mono ?_); rintro e w' ⟨rfl, ⟨nd, rfl⟩⟩) | (go_at_call 19; (with_reducible refine (shift_no t (x + -y) _ ht ⟨by omega, by omega⟩ (by omega)).mono ?_); rintro e w' ⟨rfl, ⟨nd, rfl⟩⟩))
  go_ret
  exact ⟨by first | rfl | (simp; done) | (simp [*]; done), (by repeat (first | (with_reducible first | exact HB.out | apply below_alloc | apply pw_below_drewN | apply below_drew1) | exact HB.out))⟩

set_option maxHeartbeats 1600000 in
set_option maxRecDepth 100000 in
theorem wnp0 (t p q x y : Int) (w : World) (ht : 0 ≤ t ∧ t ≤ 18446744073709551615) (hx : wrap64 (p.tdiv 2) = x) (hy : wrap64 (q.tdiv 2) = y) (bx0 : -4611686018427387904 ≤ x) (bx1 : x ≤ 4611686018427387903) (by0 : -4611686018427387904 ≤ y) (by1 : y ≤ 4611686018427387903) (s0 : x < 0) (s1 : 0 ≤ y) (c : ¬ (0 ≤ t + x ∧ t + x ≤ 18446744073709551615)) :
    Calls Try.prog 8 #[.int .u64 t, .int .i64 p, .int .i64 q] w fun e w' => e = .returned (.bool true) ∧ Below w.heap.size w w' := by
  have HB := Aside0.mk (Below.refl w.heap.size w)
  have kx : decide (x < 0) = true := decide_eq_true (by omega)
  have ky : decide (y < 0) = false := decide_eq_false (by omega)
  go_enter Try.func8, Try.ntmps8
  go_wp2_with (first | (go_at_call 12; (with_reducible refine (shown_any _).mono ?_); rintro e w' ⟨rfl, hb⟩; have n0_ := Aside0.mk (below_step (by repeat (first | (with_reducible first | exact HB.out | apply below_alloc | apply pw_below_drewN | apply below_drew1) | exact HB.out)) hb); clear HB; have HB := n0_; clear n0_; clear hb) | (go_at_call 19; (with_reducible refine (shift_no t x _ ht ⟨by omega, by omega⟩ c).mono ?_); rintro e w' ⟨rfl, ⟨nd, rfl⟩⟩) | (go_at_call 19; (with_reducible refine (shift_no t (x + -y) _ ht ⟨by omega, by omega⟩ (by omega)).mono ?_); rintro e w' ⟨rfl, ⟨nd, rfl⟩⟩))
  go_ret
  exact ⟨by first | rfl | (simp; done) | (simp [*]; done), (by repeat (first | (with_reducible first | exact HB.out | apply below_alloc | apply pw_below_drewN | apply below_drew1) | exact HB.out))⟩

set_option maxHeartbeats 1600000 in
set_option maxRecDepth 100000 in
theorem wnp1 (t p q x y : Int) (w : World) (ht : 0 ≤ t ∧ t ≤ 18446744073709551615) (hx : wrap64 (p.tdiv 2) = x) (hy : wrap64 (q.tdiv 2) = y) (bx0 : -4611686018427387904 ≤ x) (bx1 : x ≤ 4611686018427387903) (by0 : -4611686018427387904 ≤ y) (by1 : y ≤ 4611686018427387903) (s0 : x < 0) (s1 : 0 ≤ y) (c0 : 0 ≤ t + x) (c1 : t + x ≤ 18446744073709551615) (d0 : 0 ≤ t + x + -y) (d1 : t + x + -y ≤ 18446744073709551615) :
    Calls Try.prog 8 #[.int .u64 t, .int .i64 p, .int .i64 q] w fun e w' => e = .returned (.bool true) ∧ Below w.heap.size w w' := by
  have HB := Aside0.mk (Below.refl w.heap.size w)
  have kx : decide (x < 0) = true := decide_eq_true (by omega)
  have ky : decide (y < 0) = false := decide_eq_false (by omega)
  go_enter Try.func8, Try.ntmps8
  go_wp2_with (first | (go_at_call 12; (with_reducible refine (shown_any _).mono ?_); rintro e w' ⟨rfl, hb⟩; have n0_ := Aside0.mk (below_step (by repeat (first | (with_reducible first | exact HB.out | apply below_alloc | apply pw_below_drewN | apply below_drew1) | exact HB.out)) hb); clear HB; have HB := n0_; clear n0_; clear hb) | (go_at_call 19; (with_reducible refine (shift_eq t x (t + x) _ ht ⟨by omega, by omega⟩ ⟨c0, c1⟩ rfl).mono ?_); rintro e w' ⟨rfl, ⟨nd, rfl⟩⟩) | (go_at_call 19; (with_reducible refine (shift_eq (t + x) (-y) (t + x + -y) _ ⟨c0, c1⟩ ⟨by omega, by omega⟩ ⟨d0, d1⟩ rfl).mono ?_); rintro e w' ⟨rfl, ⟨nd, rfl⟩⟩) | (go_at_call 19; (with_reducible refine (shift_eq t (x + -y) (t + x + -y) _ ht ⟨by omega, by omega⟩ ⟨by omega, by omega⟩ (by omega)).mono ?_); rintro e w' ⟨rfl, ⟨nd, rfl⟩⟩))
  go_ret
  exact ⟨by first | rfl | (simp; done) | (simp [*]; done), (by repeat (first | (with_reducible first | exact HB.out | apply below_alloc | apply pw_below_drewN | apply below_drew1) | exact HB.out))⟩

set_option maxHeartbeats 1600000 in
set_option maxRecDepth 100000 in
theorem wnp2 (t p q x y : Int) (w : World) (ht : 0 ≤ t ∧ t ≤ 18446744073709551615) (hx : wrap64 (p.tdiv 2) = x) (hy : wrap64 (q.tdiv 2) = y) (bx0 : -4611686018427387904 ≤ x) (bx1 : x ≤ 4611686018427387903) (by0 : -4611686018427387904 ≤ y) (by1 : y ≤ 4611686018427387903) (s0 : x < 0) (s1 : 0 ≤ y) (c0 : 0 ≤ t + x) (c1 : t + x ≤ 18446744073709551615) (d : ¬ (0 ≤ t + x + -y ∧ t + x + -y ≤ 18446744073709551615)) :
    Calls Try.prog 8 #[.int .u64 t, .int .i64 p, .int .i64 q] w fun e w' => e = .returned (.bool true) ∧ Below w.heap.size w w' := by
  have HB := Aside0.mk (Below.refl w.heap.size w)
  have kx : decide (x < 0) = true := decide_eq_true (by omega)
  have ky : decide (y < 0) = false := decide_eq_false (by omega)
  go_enter Try.func8, Try.ntmps8
  go_wp2_with (first | (go_at_call 12; (with_reducible refine (shown_any _).mono ?_); rintro e w' ⟨rfl, hb⟩; have n0_ := Aside0.mk (below_step (by repeat (first | (with_reducible first | exact HB.out | apply below_alloc | apply pw_below_drewN | apply below_drew1) | exact HB.out)) hb); clear HB; have HB := n0_; clear n0_; clear hb) | (go_at_call 19; (with_reducible refine (shift_eq t x (t + x) _ ht ⟨by omega, by omega⟩ ⟨c0, c1⟩ rfl).mono ?_); rintro e w' ⟨rfl, ⟨nd, rfl⟩⟩) | (go_at_call 19; (with_reducible refine (shift_no (t + x) (-y) _ ⟨c0, c1⟩ ⟨by omega, by omega⟩ d).mono ?_); rintro e w' ⟨rfl, ⟨nd, rfl⟩⟩) | (go_at_call 19; (with_reducible refine (shift_no t (x + -y) _ ht ⟨by omega, by omega⟩ (by omega)).mono ?_); rintro e w' ⟨rfl, ⟨nd, rfl⟩⟩))
  go_ret
  exact ⟨by first | rfl | (simp; done) | (simp [*]; done), (by repeat (first | (with_reducible first | exact HB.out | apply below_alloc | apply pw_below_drewN | apply below_drew1) | exact HB.out))⟩

theorem half {p : Int} (hp : -9223372036854775808 ≤ p ∧ p ≤ 9223372036854775807) : -4611686018427387904 ≤ wrap64 (p.tdiv 2) ∧ wrap64 (p.tdiv 2) ≤ 4611686018427387903 := by
  have e : p.tdiv 2 = if 0 ≤ p then p / 2 else -(-p / 2) := by
    by_cases h : 0 ≤ p
    · rw [if_pos h, Int.tdiv_eq_ediv_of_nonneg h]
    · rw [if_neg h, ← Int.tdiv_eq_ediv_of_nonneg (by omega : 0 ≤ -p), Int.neg_tdiv, Int.neg_neg]
  rw [e]; unfold wrap64; split <;> omega

theorem walk (t p q : Int) (w : World) (ht : 0 ≤ t ∧ t ≤ 18446744073709551615) (hp : -9223372036854775808 ≤ p ∧ p ≤ 9223372036854775807) (hq : -9223372036854775808 ≤ q ∧ q ≤ 9223372036854775807) :
    Calls Try.prog 8 #[.int .u64 t, .int .i64 p, .int .i64 q] w fun e w' => e = .returned (.bool true) ∧ Below w.heap.size w w' := by
  have bx := half hp
  have byy := half hq
  obtain ⟨x, hx⟩ : ∃ x, wrap64 (p.tdiv 2) = x := ⟨_, rfl⟩
  obtain ⟨y, hy⟩ : ∃ y, wrap64 (q.tdiv 2) = y := ⟨_, rfl⟩
  rw [hx] at bx; rw [hy] at byy
  by_cases s : 0 ≤ x <;> by_cases r : 0 ≤ y
  · by_cases c : 0 ≤ t + x ∧ t + x ≤ 18446744073709551615
    · by_cases d : 0 ≤ t + x + y ∧ t + x + y ≤ 18446744073709551615
      · exact wpp1 t p q x y w ht hx hy bx.1 bx.2 byy.1 byy.2 (by omega) (by omega) c.1 c.2 d.1 d.2
      · exact wpp2 t p q x y w ht hx hy bx.1 bx.2 byy.1 byy.2 (by omega) (by omega) c.1 c.2 d
    · exact wpp0 t p q x y w ht hx hy bx.1 bx.2 byy.1 byy.2 (by omega) (by omega) c
  · by_cases c : 0 ≤ t + x ∧ t + x ≤ 18446744073709551615
    · by_cases d : 0 ≤ t + x + -y ∧ t + x + -y ≤ 18446744073709551615
      · exact wpn1 t p q x y w ht hx hy bx.1 bx.2 byy.1 byy.2 (by omega) (by omega) c.1 c.2 d.1 d.2
      · exact wpn2 t p q x y w ht hx hy bx.1 bx.2 byy.1 byy.2 (by omega) (by omega) c.1 c.2 d
    · exact wpn0 t p q x y w ht hx hy bx.1 bx.2 byy.1 byy.2 (by omega) (by omega) c
  · by_cases c : 0 ≤ t + x ∧ t + x ≤ 18446744073709551615
    · by_cases d : 0 ≤ t + x + -y ∧ t + x + -y ≤ 18446744073709551615
      · exact wnp1 t p q x y w ht hx hy bx.1 bx.2 byy.1 byy.2 (by omega) (by omega) c.1 c.2 d.1 d.2
      · exact wnp2 t p q x y w ht hx hy bx.1 bx.2 byy.1 byy.2 (by omega) (by omega) c.1 c.2 d
    · exact wnp0 t p q x y w ht hx hy bx.1 bx.2 byy.1 byy.2 (by omega) (by omega) c
  · by_cases c : 0 ≤ t + x ∧ t + x ≤ 18446744073709551615
    · by_cases d : 0 ≤ t + x + y ∧ t + x + y ≤ 18446744073709551615
      · exact wnn1 t p q x y w ht hx hy bx.1 bx.2 byy.1 byy.2 (by omega) (by omega) c.1 c.2 d.1 d.2
      · exact wnn2 t p q x y w ht hx hy bx.1 bx.2 byy.1 byy.2 (by omega) (by omega) c.1 c.2 d
    · exact wnn0 t p q x y w ht hx hy bx.1 bx.2 byy.1 byy.2 (by omega) (by omega) c

end Go.Proofs.Ytlimcahfkfipgaa.Twi
