/- ClockWindow's walk: for any time and two distances the call returns true. No condition but that each number is of its kind. -/
import Derived.Test.YtlimcahfkfipgaaBase
namespace Go.Proofs.Ytlimcahfkfipgaa.Win
open Go.RowKit Go.Proofs.Ytlimcahfkfipgaa.PClockConverts Go.Proofs.YtlimcahfkfipgaaW.PrintWords Go.Proofs.YtlimcahfkfipgaaW.PrintLast Go.Proofs.YtlimcahfkfipgaaW.PrintMore Base
attribute [local go_sem] max2_int min2_int max_two min_two max_three min_three max_four min_four
set_option linter.unusedVariables false
set_option linter.unusedSimpArgs false

set_option maxHeartbeats 800000 in
set_option maxRecDepth 100000 in
theorem walk (t a b : Int) (w : World) (ht : 0 ≤ t ∧ t ≤ 18446744073709551615) (ha : 0 ≤ a ∧ a ≤ 18446744073709551615) (hb : 0 ≤ b ∧ b ≤ 18446744073709551615) :
    Calls Try.prog 9 #[.int .u64 t, .int .u64 a, .int .u64 b] w fun e w' => e = .returned (.bool true) ∧ Below w.heap.size w w' := by
  have HB := Aside0.mk (Below.refl w.heap.size w)
  obtain ⟨x, hx⟩ : ∃ x : Int, (if b < a then b else a) = x := ⟨_, rfl⟩
  obtain ⟨y, hy⟩ : ∃ y : Int, (if a < b then b else a) = y := ⟨_, rfl⟩
  have hx0 : 0 ≤ x ∧ x ≤ 18446744073709551615 := by rw [← hx]; split <;> omega
  have hy0 : 0 ≤ y ∧ y ≤ 18446744073709551615 := by rw [← hy]; split <;> omega
  have hxy : x ≤ y := by rw [← hx, ← hy]; split <;> split <;> omega
  have k1 : decide (lessD t y ≤ lessD t x) = true := by simp only [decide_eq_true_eq]; unfold lessD; split <;> split <;> omega
  have k2 : decide (lessD t x ≤ t) = true := by simp only [decide_eq_true_eq]; unfold lessD; split <;> omega
  have k3 : decide (t ≤ moreD t x) = true := by simp only [decide_eq_true_eq]; unfold moreD; split <;> omega
  have k4 : decide (moreD t x ≤ moreD t y) = true := by simp only [decide_eq_true_eq]; unfold moreD; split <;> split <;> omega
  go_enter Try.func9, Try.ntmps9
  go_wp2_with (first | (go_at_call 12; (with_reducible refine (shown_any _).mono ?_); rintro e w' ⟨rfl, hb⟩; have n0_ := Aside0.mk (below_step (by repeat (first | (with_reducible first | exact HB.out | apply below_alloc | apply pw_below_drewN | apply below_drew1) | exact HB.out)) hb); clear HB; have HB := n0_; clear n0_; clear hb) | (go_at_call 18; (with_reducible refine (less_any t y _ ht hy0).mono ?_); rintro e w' ⟨rfl, hb⟩; have n0_ := Aside0.mk (below_step (by repeat (first | (with_reducible first | exact HB.out | apply below_alloc | apply pw_below_drewN | apply below_drew1) | exact HB.out)) hb); clear HB; have HB := n0_; clear n0_; clear hb) | (go_at_call 18; (with_reducible refine (less_any t x _ ht hx0).mono ?_); rintro e w' ⟨rfl, hb⟩; have n0_ := Aside0.mk (below_step (by repeat (first | (with_reducible first | exact HB.out | apply below_alloc | apply pw_below_drewN | apply below_drew1) | exact HB.out)) hb); clear HB; have HB := n0_; clear n0_; clear hb) | (go_at_call 17; (with_reducible refine (more_any t x _ ht hx0).mono ?_); rintro e w' ⟨rfl, ⟨nd, rfl⟩⟩) | (go_at_call 17; (with_reducible refine (more_any t y _ ht hy0).mono ?_); rintro e w' ⟨rfl, ⟨nd, rfl⟩⟩))
  go_ret
  exact ⟨by first | rfl | (simp; done) | (simp [*]; done), (by repeat (first | (with_reducible first | exact HB.out | apply below_alloc | apply pw_below_drewN | apply below_drew1) | exact HB.out))⟩

end Go.Proofs.Ytlimcahfkfipgaa.Win
