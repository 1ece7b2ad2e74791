/- ClockConverts' walk: for any two numbers the call returns true. No condition but that each number is of its kind. -/
import Derived.Test.YtlimcahfkfipgaaBase
namespace Go.Proofs.Ytlimcahfkfipgaa.Conv
open Go.RowKit Go.Proofs.Ytlimcahfkfipgaa.PClockConverts Go.Proofs.YtlimcahfkfipgaaW.PrintWords Go.Proofs.YtlimcahfkfipgaaW.PrintLast Go.Proofs.YtlimcahfkfipgaaW.PrintMore Base
attribute [local go_sem] max2_int min2_int max_two min_two max_three min_three max_four min_four
set_option linter.unusedVariables false
set_option linter.unusedSimpArgs false

set_option maxHeartbeats 800000 in
set_option maxRecDepth 100000 in
theorem w00 (n m : Int) (w : World) (h0 : 0 ≤ n) (h1 : n < 4294967296) (h2 : 0 ≤ m) (h3 : m ≤ 9223372036854775807) :
    Calls Try.prog 11 #[.int .u64 n, .int .i64 m] w fun e w' => e = .returned (.bool true) ∧ Below w.heap.size w w' := by
  have HB := Aside0.mk (Below.refl w.heap.size w)
  go_enter Try.func11, Try.ntmps11
  go_wp2_with (first | (go_at_call 12; (with_reducible refine (shown_any _).mono ?_); rintro e w' ⟨rfl, hb⟩; have n0_ := Aside0.mk (below_step (by repeat (first | (with_reducible first | exact HB.out | apply below_alloc | apply pw_below_drewN | apply below_drew1) | exact HB.out)) hb); clear HB; have HB := n0_; clear n0_; clear hb) | (go_at_call 24; (with_reducible refine (to32_yes n _ ⟨h0, by omega⟩).mono ?_); rintro e w' ⟨rfl, ⟨nd, rfl⟩⟩) | (go_at_call 25; (with_reducible refine (toi_yes n _ ⟨h0, by omega⟩).mono ?_); rintro e w' ⟨rfl, ⟨nd, rfl⟩⟩) | (go_at_call 26; (with_reducible refine (fromi_yes m _ ⟨h2, h3⟩).mono ?_); rintro e w' ⟨rfl, ⟨nd, rfl⟩⟩))
  go_ret
  exact ⟨by first | rfl | (simp; done) | (simp [*]; done), (by repeat (first | (with_reducible first | exact HB.out | apply below_alloc | apply pw_below_drewN | apply below_drew1) | exact HB.out))⟩

set_option maxHeartbeats 800000 in
set_option maxRecDepth 100000 in
theorem w01 (n m : Int) (w : World) (h0 : 0 ≤ n) (h1 : n < 4294967296) (h2 : -9223372036854775808 ≤ m) (h3 : m < 0) :
    Calls Try.prog 11 #[.int .u64 n, .int .i64 m] w fun e w' => e = .returned (.bool true) ∧ Below w.heap.size w w' := by
  have HB := Aside0.mk (Below.refl w.heap.size w)
  go_enter Try.func11, Try.ntmps11
  go_wp2_with (first | (go_at_call 12; (with_reducible refine (shown_any _).mono ?_); rintro e w' ⟨rfl, hb⟩; have n0_ := Aside0.mk (below_step (by repeat (first | (with_reducible first | exact HB.out | apply below_alloc | apply pw_below_drewN | apply below_drew1) | exact HB.out)) hb); clear HB; have HB := n0_; clear n0_; clear hb) | (go_at_call 24; (with_reducible refine (to32_yes n _ ⟨h0, by omega⟩).mono ?_); rintro e w' ⟨rfl, ⟨nd, rfl⟩⟩) | (go_at_call 25; (with_reducible refine (toi_yes n _ ⟨h0, by omega⟩).mono ?_); rintro e w' ⟨rfl, ⟨nd, rfl⟩⟩) | (go_at_call 26; (with_reducible refine (fromi_no m _ ⟨h2, h3⟩).mono ?_); rintro e w' ⟨rfl, ⟨nd, rfl⟩⟩))
  go_ret
  exact ⟨by first | rfl | (simp; done) | (simp [*]; done), (by repeat (first | (with_reducible first | exact HB.out | apply below_alloc | apply pw_below_drewN | apply below_drew1) | exact HB.out))⟩

set_option maxHeartbeats 800000 in
set_option maxRecDepth 100000 in
theorem w10 (n m : Int) (w : World) (h0 : 4294967296 ≤ n) (h1 : n < 9223372036854775808) (h2 : 0 ≤ m) (h3 : m ≤ 9223372036854775807) :
    Calls Try.prog 11 #[.int .u64 n, .int .i64 m] w fun e w' => e = .returned (.bool true) ∧ Below w.heap.size w w' := by
  have HB := Aside0.mk (Below.refl w.heap.size w)
  go_enter Try.func11, Try.ntmps11
  go_wp2_with (first | (go_at_call 12; (with_reducible refine (shown_any _).mono ?_); rintro e w' ⟨rfl, hb⟩; have n0_ := Aside0.mk (below_step (by repeat (first | (with_reducible first | exact HB.out | apply below_alloc | apply pw_below_drewN | apply below_drew1) | exact HB.out)) hb); clear HB; have HB := n0_; clear n0_; clear hb) | (go_at_call 24; (with_reducible refine (to32_no n _ h0).mono ?_); rintro e w' ⟨rfl, ⟨nd, rfl⟩⟩) | (go_at_call 25; (with_reducible refine (toi_yes n _ ⟨by omega, by omega⟩).mono ?_); rintro e w' ⟨rfl, ⟨nd, rfl⟩⟩) | (go_at_call 26; (with_reducible refine (fromi_yes m _ ⟨h2, h3⟩).mono ?_); rintro e w' ⟨rfl, ⟨nd, rfl⟩⟩))
  go_ret
  exact ⟨by first | rfl | (simp; done) | (simp [*]; done), (by repeat (first | (with_reducible first | exact HB.out | apply below_alloc | apply pw_below_drewN | apply below_drew1) | exact HB.out))⟩

set_option maxHeartbeats 800000 in
set_option maxRecDepth 100000 in
theorem w11 (n m : Int) (w : World) (h0 : 4294967296 ≤ n) (h1 : n < 9223372036854775808) (h2 : -9223372036854775808 ≤ m) (h3 : m < 0) :
    Calls Try.prog 11 #[.int .u64 n, .int .i64 m] w fun e w' => e = .returned (.bool true) ∧ Below w.heap.size w w' := by
  have HB := Aside0.mk (Below.refl w.heap.size w)
  go_enter Try.func11, Try.ntmps11
  go_wp2_with (first | (go_at_call 12; (with_reducible refine (shown_any _).mono ?_); rintro e w' ⟨rfl, hb⟩; have n0_ := Aside0.mk (below_step (by repeat (first | (with_reducible first | exact HB.out | apply below_alloc | apply pw_below_drewN | apply below_drew1) | exact HB.out)) hb); clear HB; have HB := n0_; clear n0_; clear hb) | (go_at_call 24; (with_reducible refine (to32_no n _ h0).mono ?_); rintro e w' ⟨rfl, ⟨nd, rfl⟩⟩) | (go_at_call 25; (with_reducible refine (toi_yes n _ ⟨by omega, by omega⟩).mono ?_); rintro e w' ⟨rfl, ⟨nd, rfl⟩⟩) | (go_at_call 26; (with_reducible refine (fromi_no m _ ⟨h2, h3⟩).mono ?_); rintro e w' ⟨rfl, ⟨nd, rfl⟩⟩))
  go_ret
  exact ⟨by first | rfl | (simp; done) | (simp [*]; done), (by repeat (first | (with_reducible first | exact HB.out | apply below_alloc | apply pw_below_drewN | apply below_drew1) | exact HB.out))⟩

set_option maxHeartbeats 800000 in
set_option maxRecDepth 100000 in
theorem w20 (n m : Int) (w : World) (h0 : 9223372036854775808 ≤ n) (h1 : n ≤ 18446744073709551615) (h2 : 0 ≤ m) (h3 : m ≤ 9223372036854775807) :
    Calls Try.prog 11 #[.int .u64 n, .int .i64 m] w fun e w' => e = .returned (.bool true) ∧ Below w.heap.size w w' := by
  have HB := Aside0.mk (Below.refl w.heap.size w)
  go_enter Try.func11, Try.ntmps11
  go_wp2_with (first | (go_at_call 12; (with_reducible refine (shown_any _).mono ?_); rintro e w' ⟨rfl, hb⟩; have n0_ := Aside0.mk (below_step (by repeat (first | (with_reducible first | exact HB.out | apply below_alloc | apply pw_below_drewN | apply below_drew1) | exact HB.out)) hb); clear HB; have HB := n0_; clear n0_; clear hb) | (go_at_call 24; (with_reducible refine (to32_no n _ (by omega)).mono ?_); rintro e w' ⟨rfl, ⟨nd, rfl⟩⟩) | (go_at_call 25; (with_reducible refine (toi_no n _ ⟨h0, h1⟩).mono ?_); rintro e w' ⟨rfl, ⟨nd, rfl⟩⟩) | (go_at_call 26; (with_reducible refine (fromi_yes m _ ⟨h2, h3⟩).mono ?_); rintro e w' ⟨rfl, ⟨nd, rfl⟩⟩))
  go_ret
  exact ⟨by first | rfl | (simp; done) | (simp [*]; done), (by repeat (first | (with_reducible first | exact HB.out | apply below_alloc | apply pw_below_drewN | apply below_drew1) | exact HB.out))⟩

set_option maxHeartbeats 800000 in
set_option maxRecDepth 100000 in
theorem w21 (n m : Int) (w : World) (h0 : 9223372036854775808 ≤ n) (h1 : n ≤ 18446744073709551615) (h2 : -9223372036854775808 ≤ m) (h3 : m < 0) :
    Calls Try.prog 11 #[.int .u64 n, .int .i64 m] w fun e w' => e = .returned (.bool true) ∧ Below w.heap.size w w' := by
  have HB := Aside0.mk (Below.refl w.heap.size w)
  go_enter Try.func11, Try.ntmps11
  go_wp2_with (first | (go_at_call 12; (with_reducible refine (shown_any _).mono ?_); rintro e w' ⟨rfl, hb⟩; have n0_ := Aside0.mk (below_step (by repeat (first | (with_reducible first | exact HB.out | apply below_alloc | apply pw_below_drewN | apply below_drew1) | exact HB.out)) hb); clear HB; have HB := n0_; clear n0_; clear hb) | (go_at_call 24; (with_reducible refine (to32_no n _ (by omega)).mono ?_); rintro e w' ⟨rfl, ⟨nd, rfl⟩⟩) | (go_at_call 25; (with_reducible refine (toi_no n _ ⟨h0, h1⟩).mono ?_); rintro e w' ⟨rfl, ⟨nd, rfl⟩⟩) | (go_at_call 26; (with_reducible refine (fromi_no m _ ⟨h2, h3⟩).mono ?_); rintro e w' ⟨rfl, ⟨nd, rfl⟩⟩))
  go_ret
  exact ⟨by first | rfl | (simp; done) | (simp [*]; done), (by repeat (first | (with_reducible first | exact HB.out | apply below_alloc | apply pw_below_drewN | apply below_drew1) | exact HB.out))⟩

theorem walk (n m : Int) (w : World) (hn : 0 ≤ n ∧ n ≤ 18446744073709551615) (hm : -9223372036854775808 ≤ m ∧ m ≤ 9223372036854775807) :
    Calls Try.prog 11 #[.int .u64 n, .int .i64 m] w fun e w' => e = .returned (.bool true) ∧ Below w.heap.size w w' := by
  by_cases h1 : n < 4294967296 <;> by_cases h2 : n < 9223372036854775808 <;> by_cases h3 : 0 ≤ m
  · exact w00 n m w hn.1 h1 h3 hm.2
  · exact w01 n m w hn.1 h1 hm.1 (by omega)
  · omega
  · omega
  · exact w10 n m w (by omega) h2 h3 hm.2
  · exact w11 n m w (by omega) h2 hm.1 (by omega)
  · exact w20 n m w (by omega) hn.2 h3 hm.2
  · exact w21 n m w (by omega) hn.2 hm.1 (by omega)

end Go.Proofs.Ytlimcahfkfipgaa.Conv
