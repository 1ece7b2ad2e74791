/- ClockEpochs' walk: for any time and epoch the call returns true. No condition but that each number is of its kind. -/
import Derived.Test.YtlimcahfkfipgaaBase
import Derived.Test.YtlimcahfkfipgaaPClockEpochsx1
namespace Go.Proofs.Ytlimcahfkfipgaa.Epo
open Go.RowKit Go.Proofs.Ytlimcahfkfipgaa.PClockConverts Go.Proofs.YtlimcahfkfipgaaW.PrintWords Go.Proofs.YtlimcahfkfipgaaW.PrintLast Go.Proofs.YtlimcahfkfipgaaW.PrintMore Base
attribute [local go_sem] max2_int min2_int max_two min_two max_three min_three max_four min_four
set_option linter.unusedVariables false
set_option linter.unusedSimpArgs false


theorem repoch_yes (a : Int) (w : World) (ha : 0 ≤ a ∧ a ≤ 4294967295999) :
    Calls Try.prog 22 #[.int .u64 a] w fun e w' => e = .returned (.tuple #[.int .u32 (a / 1000), .bool true]) ∧ Drawn0 w w' :=
  PClockEpochs.hourglassref02_Epoch.calls a _ _ w (by
    unfold PClockEpochs.hourglassref02_Epoch.f
    have e : IntKind.u64.wrap (Int.tdiv a 1000) = a / 1000 := by rw [wu, Int.tdiv_eq_ediv_of_nonneg ha.1]; omega
    rw [e, if_neg (by omega)]; congr 2; omega)

theorem repoch_no (a : Int) (w : World) (ha : 4294967296000 ≤ a ∧ a ≤ 18446744073709551615) :
    Calls Try.prog 22 #[.int .u64 a] w fun e w' => e = .returned (.tuple #[.int .u32 0, .bool false]) ∧ Drawn0 w w' :=
  PClockEpochs.hourglassref02_Epoch.calls a _ _ w (by
    unfold PClockEpochs.hourglassref02_Epoch.f
    have e : IntKind.u64.wrap (Int.tdiv a 1000) = a / 1000 := by rw [wu, Int.tdiv_eq_ediv_of_nonneg (by omega)]; omega
    rw [e, if_pos (by omega)])

set_option maxHeartbeats 1600000 in
set_option maxRecDepth 100000 in
theorem wyz (t : Int) (w : World) (h0 : 0 ≤ t) (h1 : t ≤ 4294967295999)  :
    Calls Try.prog 5 #[.int .u64 t, .int .u32 0] w fun e w' => e = .returned (.bool true) ∧ Below w.heap.size w w' := by
  have HB := Aside0.mk (Below.refl w.heap.size w)
  go_enter Try.func5, Try.ntmps5
  go_wp2_with (first | (go_at_call 12; (with_reducible refine (shown_any _).mono ?_); rintro e w' ⟨rfl, hb⟩; have n0_ := Aside0.mk (below_step (by repeat (first | (with_reducible first | exact HB.out | apply below_alloc | apply pw_below_drewN | apply below_drew1) | exact HB.out)) hb); clear HB; have HB := n0_; clear n0_; clear hb) | (go_at_call 21; (with_reducible refine (epoch_yes t (t / 1000) _ ⟨h0, h1⟩ rfl).mono ?_); rintro e w' ⟨rfl, ⟨nd, rfl⟩⟩) | (go_at_call 22; (with_reducible refine (repoch_yes t _ ⟨h0, h1⟩).mono ?_); rintro e w' ⟨rfl, ⟨nd, rfl⟩⟩) | (go_at_call 23; (with_reducible refine (start_any (t / 1000) _ ⟨by omega, by omega⟩).mono ?_); rintro e w' ⟨rfl, ⟨nd, rfl⟩⟩) | (go_at_call 23; (with_reducible refine (start_any 0 _ ⟨by omega, by omega⟩).mono ?_); rintro e w' ⟨rfl, ⟨nd, rfl⟩⟩) | (go_at_call 21; (with_reducible refine (epoch_yes 0 0 _ ⟨by omega, by omega⟩ rfl).mono ?_); rintro e w' ⟨rfl, ⟨nd, rfl⟩⟩) | (go_at_call 21; (with_reducible refine (epoch_yes 999 0 _ ⟨by omega, by omega⟩ rfl).mono ?_); rintro e w' ⟨rfl, ⟨nd, rfl⟩⟩))
  go_ret
  exact ⟨by first | rfl | (simp; done) | (simp [*]; done), (by repeat (first | (with_reducible first | exact HB.out | apply below_alloc | apply pw_below_drewN | apply below_drew1) | exact HB.out))⟩

set_option maxHeartbeats 1600000 in
set_option maxRecDepth 100000 in
theorem wyp (t b : Int) (w : World) (h0 : 0 ≤ t) (h1 : t ≤ 4294967295999) (h2 : 1 ≤ b) (h3 : b ≤ 4294967295) :
    Calls Try.prog 5 #[.int .u64 t, .int .u32 b] w fun e w' => e = .returned (.bool true) ∧ Below w.heap.size w w' := by
  have HB := Aside0.mk (Below.refl w.heap.size w)
  go_enter Try.func5, Try.ntmps5
  go_wp2_with (first | (go_at_call 12; (with_reducible refine (shown_any _).mono ?_); rintro e w' ⟨rfl, hb⟩; have n0_ := Aside0.mk (below_step (by repeat (first | (with_reducible first | exact HB.out | apply below_alloc | apply pw_below_drewN | apply below_drew1) | exact HB.out)) hb); clear HB; have HB := n0_; clear n0_; clear hb) | (go_at_call 21; (with_reducible refine (epoch_yes t (t / 1000) _ ⟨h0, h1⟩ rfl).mono ?_); rintro e w' ⟨rfl, ⟨nd, rfl⟩⟩) | (go_at_call 22; (with_reducible refine (repoch_yes t _ ⟨h0, h1⟩).mono ?_); rintro e w' ⟨rfl, ⟨nd, rfl⟩⟩) | (go_at_call 23; (with_reducible refine (start_any (t / 1000) _ ⟨by omega, by omega⟩).mono ?_); rintro e w' ⟨rfl, ⟨nd, rfl⟩⟩) | (go_at_call 23; (with_reducible refine (start_any b _ ⟨by omega, h3⟩).mono ?_); rintro e w' ⟨rfl, ⟨nd, rfl⟩⟩) | (go_at_call 21; (with_reducible refine (epoch_yes (b * 1000) b _ ⟨by omega, by omega⟩ (by omega)).mono ?_); rintro e w' ⟨rfl, ⟨nd, rfl⟩⟩) | (go_at_call 21; (with_reducible refine (epoch_yes (b * 1000 + 999) b _ ⟨by omega, by omega⟩ (by omega)).mono ?_); rintro e w' ⟨rfl, ⟨nd, rfl⟩⟩) | (go_at_call 21; (with_reducible refine (epoch_yes (b * 1000 - 1) (b - 1) _ ⟨by omega, by omega⟩ (by omega)).mono ?_); rintro e w' ⟨rfl, ⟨nd, rfl⟩⟩))
  go_ret
  exact ⟨by first | rfl | (simp; done) | (simp [*]; done), (by repeat (first | (with_reducible first | exact HB.out | apply below_alloc | apply pw_below_drewN | apply below_drew1) | exact HB.out))⟩

set_option maxHeartbeats 1600000 in
set_option maxRecDepth 100000 in
theorem wnz (t : Int) (w : World) (h0 : 4294967296000 ≤ t) (h1 : t ≤ 18446744073709551615)  :
    Calls Try.prog 5 #[.int .u64 t, .int .u32 0] w fun e w' => e = .returned (.bool true) ∧ Below w.heap.size w w' := by
  have HB := Aside0.mk (Below.refl w.heap.size w)
  go_enter Try.func5, Try.ntmps5
  go_wp2_with (first | (go_at_call 12; (with_reducible refine (shown_any _).mono ?_); rintro e w' ⟨rfl, hb⟩; have n0_ := Aside0.mk (below_step (by repeat (first | (with_reducible first | exact HB.out | apply below_alloc | apply pw_below_drewN | apply below_drew1) | exact HB.out)) hb); clear HB; have HB := n0_; clear n0_; clear hb) | (go_at_call 21; (with_reducible refine (epoch_no t _ ⟨h0, h1⟩).mono ?_); rintro e w' ⟨rfl, ⟨nd, rfl⟩⟩) | (go_at_call 22; (with_reducible refine (repoch_no t _ ⟨h0, h1⟩).mono ?_); rintro e w' ⟨rfl, ⟨nd, rfl⟩⟩) | (go_at_call 23; (with_reducible refine (start_any 0 _ ⟨by omega, by omega⟩).mono ?_); rintro e w' ⟨rfl, ⟨nd, rfl⟩⟩) | (go_at_call 21; (with_reducible refine (epoch_yes 0 0 _ ⟨by omega, by omega⟩ rfl).mono ?_); rintro e w' ⟨rfl, ⟨nd, rfl⟩⟩) | (go_at_call 21; (with_reducible refine (epoch_yes 999 0 _ ⟨by omega, by omega⟩ rfl).mono ?_); rintro e w' ⟨rfl, ⟨nd, rfl⟩⟩))
  go_ret
  exact ⟨by first | rfl | (simp; done) | (simp [*]; done), (by repeat (first | (with_reducible first | exact HB.out | apply below_alloc | apply pw_below_drewN | apply below_drew1) | exact HB.out))⟩

set_option maxHeartbeats 1600000 in
set_option maxRecDepth 100000 in
theorem wnp (t b : Int) (w : World) (h0 : 4294967296000 ≤ t) (h1 : t ≤ 18446744073709551615) (h2 : 1 ≤ b) (h3 : b ≤ 4294967295) :
    Calls Try.prog 5 #[.int .u64 t, .int .u32 b] w fun e w' => e = .returned (.bool true) ∧ Below w.heap.size w w' := by
  have HB := Aside0.mk (Below.refl w.heap.size w)
  go_enter Try.func5, Try.ntmps5
  go_wp2_with (first | (go_at_call 12; (with_reducible refine (shown_any _).mono ?_); rintro e w' ⟨rfl, hb⟩; have n0_ := Aside0.mk (below_step (by repeat (first | (with_reducible first | exact HB.out | apply below_alloc | apply pw_below_drewN | apply below_drew1) | exact HB.out)) hb); clear HB; have HB := n0_; clear n0_; clear hb) | (go_at_call 21; (with_reducible refine (epoch_no t _ ⟨h0, h1⟩).mono ?_); rintro e w' ⟨rfl, ⟨nd, rfl⟩⟩) | (go_at_call 22; (with_reducible refine (repoch_no t _ ⟨h0, h1⟩).mono ?_); rintro e w' ⟨rfl, ⟨nd, rfl⟩⟩) | (go_at_call 23; (with_reducible refine (start_any b _ ⟨by omega, h3⟩).mono ?_); rintro e w' ⟨rfl, ⟨nd, rfl⟩⟩) | (go_at_call 21; (with_reducible refine (epoch_yes (b * 1000) b _ ⟨by omega, by omega⟩ (by omega)).mono ?_); rintro e w' ⟨rfl, ⟨nd, rfl⟩⟩) | (go_at_call 21; (with_reducible refine (epoch_yes (b * 1000 + 999) b _ ⟨by omega, by omega⟩ (by omega)).mono ?_); rintro e w' ⟨rfl, ⟨nd, rfl⟩⟩) | (go_at_call 21; (with_reducible refine (epoch_yes (b * 1000 - 1) (b - 1) _ ⟨by omega, by omega⟩ (by omega)).mono ?_); rintro e w' ⟨rfl, ⟨nd, rfl⟩⟩))
  go_ret
  exact ⟨by first | rfl | (simp; done) | (simp [*]; done), (by repeat (first | (with_reducible first | exact HB.out | apply below_alloc | apply pw_below_drewN | apply below_drew1) | exact HB.out))⟩

theorem walk (t b : Int) (w : World) (ht : 0 ≤ t ∧ t ≤ 18446744073709551615) (hb : 0 ≤ b ∧ b ≤ 4294967295) :
    Calls Try.prog 5 #[.int .u64 t, .int .u32 b] w fun e w' => e = .returned (.bool true) ∧ Below w.heap.size w w' := by
  by_cases h : t ≤ 4294967295999 <;> by_cases g : b = 0
  · subst g; exact wyz t w ht.1 h
  · exact wyp t b w ht.1 h (by omega) hb.2
  · subst g; exact wnz t w (by omega) ht.2
  · exact wnp t b w (by omega) ht.2 (by omega) hb.2

end Go.Proofs.Ytlimcahfkfipgaa.Epo
