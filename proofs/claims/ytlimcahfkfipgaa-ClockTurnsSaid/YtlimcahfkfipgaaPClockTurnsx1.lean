-- PRINTED BY print.sh 35421559b90ae4d0a3588c463048766b98c2df88dd9212a6774a882060cdf62d: not written by this session
import Derived.Test.YtlimcahfkfipgaaPClockTurnsx0
namespace Go.Proofs.Ytlimcahfkfipgaa.PClockTurns
open Go.RowKit Go.Proofs.YtlimcahfkfipgaaW.PrintWords Go.Proofs.YtlimcahfkfipgaaW.PrintLast Go.Proofs.YtlimcahfkfipgaaW.PrintMore
attribute [local go_sem] max2_int min2_int max_two min_two max_three min_three max_four min_four   -- for this text's walks alone
set_option linter.unusedVariables false
set_option linter.unusedSimpArgs false

/-! ### clock_told: function 27 -/
def clock_told.f (a0 : Int) (a1 : Bool) : Option (Int × Bool) := if a1 = true then (some (a0, true)) else (some (0, false))
set_option maxHeartbeats 8000000 in
set_option maxRecDepth 100000 in
theorem clock_told.calls (a0 : Int) (a1 : Bool) (r1 : Int) (r2 : Bool) (w : World) (h : clock_told.f a0 a1 = some (r1, r2)) :
    Calls Try.prog 27 #[.int .u64 a0, .bool a1] w fun e w' => e = .returned (.tuple #[.int .u64 r1, .bool r2]) ∧ Drawn0 w w' := by
  have H : (if a1 = true then (some (a0, true)) else (some (0, false))) = some (r1, r2) := h
  clear h
  by_cases c3 : a1 = true
  · subst c3
    have H1 : (some (a0, true)) = some (r1, r2) := by rw [if_pos rfl] at H; exact H
    clear H
    have H := H1
    clear H1
    simp only [Option.some.injEq, Prod.mk.injEq] at H
    obtain ⟨rfl, rfl⟩ := H
    go_enter Try.func27, Try.ntmps27
    go_wp2
    go_ret2
    exact ⟨by first | rfl | (simp; done) | (simp [*]; done), by repeat (first | exact Drawn0.refl _ | apply Drawn0.step)⟩
  · replace c3 := Bool.eq_false_iff.mpr c3
    subst c3
    have H1 : (some (0, false)) = some (r1, r2) := by rw [if_neg (show ¬ (false = true) by decide)] at H; exact H
    clear H
    have H := H1
    clear H1
    simp only [Option.some.injEq, Prod.mk.injEq] at H
    obtain ⟨rfl, rfl⟩ := H
    go_enter Try.func27, Try.ntmps27
    go_wp2
    go_ret2
    exact ⟨by first | rfl | (simp; done) | (simp [*]; done), by repeat (first | exact Drawn0.refl _ | apply Drawn0.step)⟩

/-! ### clock_Add: function 13 -/
def clock_Add.f (a0 : Int) (a1 : Int) : Option (Int × Bool) := (clock_told.f (IntKind.u64.wrap (a0 + a1)) (decide ((IntKind.u64.wrap (a0 + a1)) ≥ a0))).bind fun bt101 => (some (bt101.1, bt101.2))
set_option maxHeartbeats 8000000 in
set_option maxRecDepth 100000 in
theorem clock_Add.calls (a0 : Int) (a1 : Int) (r1 : Int) (r2 : Bool) (w : World) (h : clock_Add.f a0 a1 = some (r1, r2)) :
    Calls Try.prog 13 #[.int .u64 a0, .int .u64 a1] w fun e w' => e = .returned (.tuple #[.int .u64 r1, .bool r2]) ∧ Drawn0 w w' := by
  have H : ((clock_told.f (IntKind.u64.wrap (a0 + a1)) (decide ((IntKind.u64.wrap (a0 + a1)) ≥ a0))).bind fun bt101 => (some (bt101.1, bt101.2))) = some (r1, r2) := h
  clear h
  replace H := Option.bind_eq_some_iff.mp H
  obtain ⟨⟨t101, t102⟩, A30, H⟩ := H
  replace H : (some (t101, t102)) = some (r1, r2) := H
  have A3 := Aside0.mk A30
  clear A30
  simp only [Option.some.injEq, Prod.mk.injEq] at H
  obtain ⟨rfl, rfl⟩ := H
  go_enter Try.func13, Try.ntmps13
  go_wp2_with (first | ((with_reducible refine gate_callee (f := 27) rfl ?_); refine goesL_ (some 14) rfl rfl Try.func27 (by kernel_rfl) rfl #[.int .u64 (IntKind.u64.wrap (a0 + a1)), .bool (decide ((IntKind.u64.wrap (a0 + a1)) ≥ a0))] rfl (by (try simp only [List.map_toArray, List.map_cons, List.map_nil]); first | done | rfl | (simp only [List.length_drop, List.length_take]; rfl)) ?_; (with_reducible refine (clock_told.calls (IntKind.u64.wrap (a0 + a1)) (decide ((IntKind.u64.wrap (a0 + a1)) ≥ a0)) t101 t102 _ A3.out).mono ?_); rintro e w' ⟨rfl, ⟨nd, rfl⟩⟩; refine ⟨_, rfl, ?_⟩))
  go_ret2
  exact ⟨by first | rfl | (simp; done) | (simp [*]; done), by repeat (first | exact Drawn0.refl _ | apply Drawn0.step)⟩

/-! ### clock_More: function 17 -/
def clock_More.f (a0 : Int) (a1 : Int) : Option (Int) := (clock_Add.f a0 a1).bind fun bt103 => (if bt103.2 = true then (some bt103.1) else (some 18446744073709551615))
set_option maxHeartbeats 8000000 in
set_option maxRecDepth 100000 in
theorem clock_More.calls (a0 : Int) (a1 : Int) (r : Int) (w : World) (h : clock_More.f a0 a1 = some r) :
    Calls Try.prog 17 #[.int .u64 a0, .int .u64 a1] w fun e w' => e = .returned (.int .u64 r) ∧ Drawn0 w w' := by
  have H : ((clock_Add.f a0 a1).bind fun bt103 => (if bt103.2 = true then (some bt103.1) else (some 18446744073709551615))) = some r := h
  clear h
  replace H := Option.bind_eq_some_iff.mp H
  obtain ⟨⟨t103, t104⟩, A30, H⟩ := H
  replace H : (if t104 = true then (some t103) else (some 18446744073709551615)) = some r := H
  have A3 := Aside0.mk A30
  clear A30
  by_cases c4 : t104 = true
  · subst c4
    have H1 : (some t103) = some r := by rw [if_pos rfl] at H; exact H
    clear H
    have H := H1
    clear H1
    obtain rfl := Option.some.inj H
    go_enter Try.func17, Try.ntmps17
    go_wp2_with (first | ((with_reducible refine gate_callee (f := 13) rfl ?_); refine goesL_ (some 10) rfl rfl Try.func13 (by kernel_rfl) rfl #[.int .u64 a0, .int .u64 a1] rfl (by (try simp only [List.map_toArray, List.map_cons, List.map_nil]); first | done | rfl | (simp only [List.length_drop, List.length_take]; rfl)) ?_; (with_reducible refine (clock_Add.calls a0 a1 t103 true _ A3.out).mono ?_); rintro e w' ⟨rfl, ⟨nd, rfl⟩⟩; refine ⟨_, rfl, ?_⟩))
    go_ret
    exact ⟨by first | rfl | (simp; done) | (simp [*]; done), by repeat (first | exact Drawn0.refl _ | apply Drawn0.step)⟩
  · replace c4 := Bool.eq_false_iff.mpr c4
    subst c4
    have H1 : (some 18446744073709551615) = some r := by rw [if_neg (show ¬ (false = true) by decide)] at H; exact H
    clear H
    have H := H1
    clear H1
    obtain rfl := Option.some.inj H
    go_enter Try.func17, Try.ntmps17
    go_wp2_with (first | ((with_reducible refine gate_callee (f := 13) rfl ?_); refine goesL_ (some 10) rfl rfl Try.func13 (by kernel_rfl) rfl #[.int .u64 a0, .int .u64 a1] rfl (by (try simp only [List.map_toArray, List.map_cons, List.map_nil]); first | done | rfl | (simp only [List.length_drop, List.length_take]; rfl)) ?_; (with_reducible refine (clock_Add.calls a0 a1 t103 false _ A3.out).mono ?_); rintro e w' ⟨rfl, ⟨nd, rfl⟩⟩; refine ⟨_, rfl, ?_⟩))
    go_ret
    exact ⟨by first | rfl | (simp; done) | (simp [*]; done), by repeat (first | exact Drawn0.refl _ | apply Drawn0.step)⟩

/-! ### clock_Less: function 18 -/
def clock_Less.f (a0 : Int) (a1 : Int) : Option (Int) := some (IntKind.u64.wrap (a0 - (mn a0 a1)))
set_option maxHeartbeats 8000000 in
set_option maxRecDepth 100000 in
theorem clock_Less.calls (a0 : Int) (a1 : Int) (r : Int) (w : World) (h : clock_Less.f a0 a1 = some r) :
    Calls Try.prog 18 #[.int .u64 a0, .int .u64 a1] w fun e w' => e = .returned (.int .u64 r) ∧ Below w.heap.size w w' := by
  have HB := Aside0.mk (Below.refl w.heap.size w)
  have H : (some (IntKind.u64.wrap (a0 - (mn a0 a1)))) = some r := h
  clear h
  obtain ⟨ji3, hji3⟩ : ∃ j_ : Int, (mn a0 a1) = j_ := ⟨_, rfl⟩
  replace H : (some (IntKind.u64.wrap (a0 - (ji3)))) = some r := by first | (rw [hji3] at H; exact H) | (simp only [hji3] at H ⊢; exact H)
  have hji3_ : (if a1 < a0 then a1 else a0) = ji3 := hji3
  obtain rfl := Option.some.inj H
  go_enter Try.func18, Try.ntmps18
  go_wp2
  go_ret
  exact ⟨by first | rfl | (simp [errW_none, errW_some] <;> rfl) | (simp only [← hji3]; first | rfl | (simp [errW_none, errW_some] <;> rfl)) | (simp [*, errW_none, errW_some] <;> rfl), by repeat (first | (with_reducible first | exact HB.out | apply below_alloc | apply pw_below_drewN | apply below_drew1) | exact HB.out)⟩

/-! ### clock_Sub: function 15 -/
def clock_Sub.f (a0 : Int) (a1 : Int) : Option (Int × Bool) := (clock_told.f (IntKind.u64.wrap (a0 - a1)) (decide (a0 ≥ a1))).bind fun bt105 => (some (bt105.1, bt105.2))
set_option maxHeartbeats 8000000 in
set_option maxRecDepth 100000 in
theorem clock_Sub.calls (a0 : Int) (a1 : Int) (r1 : Int) (r2 : Bool) (w : World) (h : clock_Sub.f a0 a1 = some (r1, r2)) :
    Calls Try.prog 15 #[.int .u64 a0, .int .u64 a1] w fun e w' => e = .returned (.tuple #[.int .u64 r1, .bool r2]) ∧ Drawn0 w w' := by
  have H : ((clock_told.f (IntKind.u64.wrap (a0 - a1)) (decide (a0 ≥ a1))).bind fun bt105 => (some (bt105.1, bt105.2))) = some (r1, r2) := h
  clear h
  replace H := Option.bind_eq_some_iff.mp H
  obtain ⟨⟨t105, t106⟩, A30, H⟩ := H
  replace H : (some (t105, t106)) = some (r1, r2) := H
  have A3 := Aside0.mk A30
  clear A30
  simp only [Option.some.injEq, Prod.mk.injEq] at H
  obtain ⟨rfl, rfl⟩ := H
  go_enter Try.func15, Try.ntmps15
  go_wp2_with (first | ((with_reducible refine gate_callee (f := 27) rfl ?_); refine goesL_ (some 12) rfl rfl Try.func27 (by kernel_rfl) rfl #[.int .u64 (IntKind.u64.wrap (a0 - a1)), .bool (decide (a0 ≥ a1))] rfl (by (try simp only [List.map_toArray, List.map_cons, List.map_nil]); first | done | rfl | (simp only [List.length_drop, List.length_take]; rfl)) ?_; (with_reducible refine (clock_told.calls (IntKind.u64.wrap (a0 - a1)) (decide (a0 ≥ a1)) t105 t106 _ A3.out).mono ?_); rintro e w' ⟨rfl, ⟨nd, rfl⟩⟩; refine ⟨_, rfl, ?_⟩))
  go_ret2
  exact ⟨by first | rfl | (simp; done) | (simp [*]; done), by repeat (first | exact Drawn0.refl _ | apply Drawn0.step)⟩

/-! ### clock_Shift: function 19 -/
def clock_Shift.f (a0 : Int) (a1 : Int) : Option (Int × Bool) := if a1 < 0 then ((clock_Sub.f a0 (IntKind.u64.wrap (-(IntKind.u64.wrap (a1))))).bind fun bt107 => (some (bt107.1, bt107.2))) else ((clock_Add.f a0 (IntKind.u64.wrap (a1))).bind fun bt109 => (some (bt109.1, bt109.2)))
set_option maxHeartbeats 8000000 in
set_option maxRecDepth 100000 in
theorem clock_Shift.calls (a0 : Int) (a1 : Int) (r1 : Int) (r2 : Bool) (w : World) (h : clock_Shift.f a0 a1 = some (r1, r2)) :
    Calls Try.prog 19 #[.int .u64 a0, .int .i64 a1] w fun e w' => e = .returned (.tuple #[.int .u64 r1, .bool r2]) ∧ Drawn0 w w' := by
  have H : (if a1 < 0 then ((clock_Sub.f a0 (IntKind.u64.wrap (-(IntKind.u64.wrap (a1))))).bind fun bt107 => (some (bt107.1, bt107.2))) else ((clock_Add.f a0 (IntKind.u64.wrap (a1))).bind fun bt109 => (some (bt109.1, bt109.2)))) = some (r1, r2) := h
  clear h
  by_cases c3 : a1 < 0
  · rw [if_pos c3] at H
    have c3b0 : decide (a1 < 0) = true := decide_eq_true c3
    clear c3
    replace H := Option.bind_eq_some_iff.mp H
    obtain ⟨⟨t107, t108⟩, A40, H⟩ := H
    replace H : (some (t107, t108)) = some (r1, r2) := H
    have A4 := Aside0.mk A40
    clear A40
    simp only [Option.some.injEq, Prod.mk.injEq] at H
    obtain ⟨rfl, rfl⟩ := H
    go_enter Try.func19, Try.ntmps19
    go_wp2_with (first | ((with_reducible refine gate_callee (f := 15) rfl ?_); refine goesL_ (some 12) rfl rfl Try.func15 (by kernel_rfl) rfl #[.int .u64 a0, .int .u64 (IntKind.u64.wrap (-(IntKind.u64.wrap (a1))))] rfl (by (try simp only [List.map_toArray, List.map_cons, List.map_nil]); first | done | rfl | (simp only [List.length_drop, List.length_take]; rfl)) ?_; (with_reducible refine (clock_Sub.calls a0 (IntKind.u64.wrap (-(IntKind.u64.wrap (a1)))) t107 t108 _ A4.out).mono ?_); rintro e w' ⟨rfl, ⟨nd, rfl⟩⟩; refine ⟨_, rfl, ?_⟩))
    go_ret2
    exact ⟨by first | rfl | (simp; done) | (simp [*]; done), by repeat (first | exact Drawn0.refl _ | apply Drawn0.step)⟩
  · rw [if_neg c3] at H
    have c3b0 : decide (a1 < 0) = false := decide_eq_false c3
    clear c3
    replace H := Option.bind_eq_some_iff.mp H
    obtain ⟨⟨t109, t110⟩, A50, H⟩ := H
    replace H : (some (t109, t110)) = some (r1, r2) := H
    have A5 := Aside0.mk A50
    clear A50
    simp only [Option.some.injEq, Prod.mk.injEq] at H
    obtain ⟨rfl, rfl⟩ := H
    go_enter Try.func19, Try.ntmps19
    go_wp2_with (first | ((with_reducible refine gate_callee (f := 13) rfl ?_); refine goesL_ (some 18) rfl rfl Try.func13 (by kernel_rfl) rfl #[.int .u64 a0, .int .u64 (IntKind.u64.wrap (a1))] rfl (by (try simp only [List.map_toArray, List.map_cons, List.map_nil]); first | done | rfl | (simp only [List.length_drop, List.length_take]; rfl)) ?_; (with_reducible refine (clock_Add.calls a0 (IntKind.u64.wrap (a1)) t109 t110 _ A5.out).mono ?_); rintro e w' ⟨rfl, ⟨nd, rfl⟩⟩; refine ⟨_, rfl, ?_⟩))
    go_ret2
    exact ⟨by first | rfl | (simp; done) | (simp [*]; done), by repeat (first | exact Drawn0.refl _ | apply Drawn0.step)⟩

/-! ### clock_fits_uint32_uint64: function 28 -/
def clock_fits_uint32_uint64.f (a0 : Int) : Option (Int × Bool) := if ((a0) % 4294967296) = a0 then (if ((decide (((a0) % 4294967296) < 0)) != (decide (a0 < 0))) = true then (some (0, false)) else (some ((a0) % 4294967296, true))) else (some (0, false))
set_option maxHeartbeats 8000000 in
set_option maxRecDepth 100000 in
theorem clock_fits_uint32_uint64.calls (a0 : Int) (r1 : Int) (r2 : Bool) (w : World) (h : clock_fits_uint32_uint64.f a0 = some (r1, r2)) :
    Calls Try.prog 28 #[.int .u64 a0] w fun e w' => e = .returned (.tuple #[.int .u32 r1, .bool r2]) ∧ Drawn0 w w' := by
  have H : (if ((a0) % 4294967296) = a0 then (if ((decide (((a0) % 4294967296) < 0)) != (decide (a0 < 0))) = true then (some (0, false)) else (some ((a0) % 4294967296, true))) else (some (0, false))) = some (r1, r2) := h
  clear h
  by_cases c2 : ((a0) % 4294967296) = a0
  · rw [if_pos c2] at H
    have c2b0 : (((a0) % 4294967296) == a0) = true := beq_iff_eq.mpr c2
    have c2b1 : (((a0) % 4294967296) != a0) = false := bne_eq_false_iff_eq.mpr c2
    clear c2
    by_cases c3 : ((decide (((a0) % 4294967296) < 0)) != (decide (a0 < 0))) = true
    · rw [if_pos c3] at H
      have c3b0 : ((decide (((a0) % 4294967296) < 0)) != (decide (a0 < 0))) = true := c3
      (try (have c3b1 : decide ((decide (((a0) % 4294967296) < 0)) = (decide (a0 < 0))) = false := by simpa using c3))
      (try (have c3b2 : ((decide (((a0) % 4294967296) < 0)) == (decide (a0 < 0))) = false := by simpa using c3))
      (try (have c3b3 : ¬ ((decide (((a0) % 4294967296) < 0)) = (decide (a0 < 0))) := by simpa using c3))
      clear c3
      simp only [Option.some.injEq, Prod.mk.injEq] at H
      obtain ⟨rfl, rfl⟩ := H
      go_enter Try.func28, Try.ntmps28
      go_wp2
      go_ret2
      exact ⟨by first | rfl | (simp; done) | (simp [*]; done), by repeat (first | exact Drawn0.refl _ | apply Drawn0.step)⟩
    · rw [if_neg c3] at H
      have c3b0 : ((decide (((a0) % 4294967296) < 0)) != (decide (a0 < 0))) = false := by simpa using c3
      (try (have c3b1 : decide ((decide (((a0) % 4294967296) < 0)) = (decide (a0 < 0))) = true := by simpa using c3))
      (try (have c3b2 : ((decide (((a0) % 4294967296) < 0)) == (decide (a0 < 0))) = true := by simpa using c3))
      clear c3
      simp only [Option.some.injEq, Prod.mk.injEq] at H
      obtain ⟨rfl, rfl⟩ := H
      go_enter Try.func28, Try.ntmps28
      go_wp2
      go_ret2
      exact ⟨by first | rfl | (simp; done) | (simp [*]; done), by repeat (first | exact Drawn0.refl _ | apply Drawn0.step)⟩
  · rw [if_neg c2] at H
    have c2b0 : (((a0) % 4294967296) == a0) = false := beq_eq_false_iff_ne.mpr c2
    have c2b1 : (((a0) % 4294967296) != a0) = true := bne_iff_ne.mpr c2
    simp only [Option.some.injEq, Prod.mk.injEq] at H
    obtain ⟨rfl, rfl⟩ := H
    go_enter Try.func28, Try.ntmps28
    go_wp2
    go_ret2
    exact ⟨by first | rfl | (simp; done) | (simp [*]; done), by repeat (first | exact Drawn0.refl _ | apply Drawn0.step)⟩

/-! ### clock_To32: function 24 -/
def clock_To32.f (a0 : Int) : Option (Int × Bool) := (clock_fits_uint32_uint64.f a0).bind fun bt111 => (some (bt111.1, bt111.2))
set_option maxHeartbeats 8000000 in
set_option maxRecDepth 100000 in
theorem clock_To32.calls (a0 : Int) (r1 : Int) (r2 : Bool) (w : World) (h : clock_To32.f a0 = some (r1, r2)) :
    Calls Try.prog 24 #[.int .u64 a0] w fun e w' => e = .returned (.tuple #[.int .u32 r1, .bool r2]) ∧ Drawn0 w w' := by
  have H : ((clock_fits_uint32_uint64.f a0).bind fun bt111 => (some (bt111.1, bt111.2))) = some (r1, r2) := h
  clear h
  replace H := Option.bind_eq_some_iff.mp H
  obtain ⟨⟨t111, t112⟩, A20, H⟩ := H
  replace H : (some (t111, t112)) = some (r1, r2) := H
  have A2 := Aside0.mk A20
  clear A20
  simp only [Option.some.injEq, Prod.mk.injEq] at H
  obtain ⟨rfl, rfl⟩ := H
  go_enter Try.func24, Try.ntmps24
  go_wp2_with (first | ((with_reducible refine gate_callee (f := 28) rfl ?_); refine goesL_ (some 5) rfl rfl Try.func28 (by kernel_rfl) rfl #[.int .u64 a0] rfl (by (try simp only [List.map_toArray, List.map_cons, List.map_nil]); first | done | rfl | (simp only [List.length_drop, List.length_take]; rfl)) ?_; (with_reducible refine (clock_fits_uint32_uint64.calls a0 t111 t112 _ A2.out).mono ?_); rintro e w' ⟨rfl, ⟨nd, rfl⟩⟩; refine ⟨_, rfl, ?_⟩))
  go_ret2
  exact ⟨by first | rfl | (simp; done) | (simp [*]; done), by repeat (first | exact Drawn0.refl _ | apply Drawn0.step)⟩

/-! ### clock_Epoch: function 21 -/
def clock_Epoch.f (a0 : Int) : Option (Int × Bool) := (clock_To32.f (IntKind.u64.wrap (Int.tdiv a0 1000))).bind fun bt113 => (some (bt113.1, bt113.2))
set_option maxHeartbeats 8000000 in
set_option maxRecDepth 100000 in
theorem clock_Epoch.calls (a0 : Int) (r1 : Int) (r2 : Bool) (w : World) (h : clock_Epoch.f a0 = some (r1, r2)) :
    Calls Try.prog 21 #[.int .u64 a0] w fun e w' => e = .returned (.tuple #[.int .u32 r1, .bool r2]) ∧ Drawn0 w w' := by
  have H : ((clock_To32.f (IntKind.u64.wrap (Int.tdiv a0 1000))).bind fun bt113 => (some (bt113.1, bt113.2))) = some (r1, r2) := h
  clear h
  replace H := Option.bind_eq_some_iff.mp H
  obtain ⟨⟨t113, t114⟩, A20, H⟩ := H
  replace H : (some (t113, t114)) = some (r1, r2) := H
  have A2 := Aside0.mk A20
  clear A20
  simp only [Option.some.injEq, Prod.mk.injEq] at H
  obtain ⟨rfl, rfl⟩ := H
  go_enter Try.func21, Try.ntmps21
  go_wp2_with (first | ((with_reducible refine gate_callee (f := 24) rfl ?_); refine goesL_ (some 6) rfl rfl Try.func24 (by kernel_rfl) rfl #[.int .u64 (IntKind.u64.wrap (Int.tdiv a0 1000))] rfl (by (try simp only [List.map_toArray, List.map_cons, List.map_nil]); first | done | rfl | (simp only [List.length_drop, List.length_take]; rfl)) ?_; (with_reducible refine (clock_To32.calls (IntKind.u64.wrap (Int.tdiv a0 1000)) t113 t114 _ A2.out).mono ?_); rintro e w' ⟨rfl, ⟨nd, rfl⟩⟩; refine ⟨_, rfl, ?_⟩))
  go_ret2
  exact ⟨by first | rfl | (simp; done) | (simp [*]; done), by repeat (first | exact Drawn0.refl _ | apply Drawn0.step)⟩

/-! ### clock_Start: function 23 -/
def clock_Start.f (a0 : Int) : Option (Int) := some (IntKind.u64.wrap ((IntKind.u64.wrap (a0)) * 1000))
set_option maxHeartbeats 8000000 in
set_option maxRecDepth 100000 in
theorem clock_Start.calls (a0 : Int) (r : Int) (w : World) (h : clock_Start.f a0 = some r) :
    Calls Try.prog 23 #[.int .u32 a0] w fun e w' => e = .returned (.int .u64 r) ∧ Drawn0 w w' := by
  have H : (some (IntKind.u64.wrap ((IntKind.u64.wrap (a0)) * 1000))) = some r := h
  clear h
  obtain rfl := Option.some.inj H
  go_enter Try.func23, Try.ntmps23
  go_wp2
  go_ret
  exact ⟨by first | rfl | (simp; done) | (simp [*]; done), by repeat (first | exact Drawn0.refl _ | apply Drawn0.step)⟩

/-! ### hourglasslaw02_shown: function 12 -/
def hourglasslaw02_shown.f  : Option (Bool) := (clock_Add.f 1 2).bind fun bt115 => ((clock_Shift.f 5 (-6)).bind fun bt117 => ((clock_Shift.f 5 (-5)).bind fun bt119 => ((clock_Epoch.f 1999).bind fun bt121 => (if bt115.1 = 3 then (if bt115.2 = true then (if bt117.2 = true then (some false) else (if bt119.1 = 0 then (if bt119.2 = true then (if bt121.1 = 1 then (if bt121.2 = true then ((clock_Start.f 2).bind fun t123 => (if t123 = 2000 then ((clock_Less.f 1 2).bind fun t124 => (if t124 = 0 then ((clock_More.f 18446744073709551615 1).bind fun t125 => (some (t125 == 18446744073709551615))) else (some false))) else (some false))) else (some false)) else (some false)) else (some false)) else (some false))) else (some false)) else (some false)))))
set_option maxHeartbeats 8000000 in
set_option maxRecDepth 100000 in
theorem hourglasslaw02_shown.calls  (r : Bool) (w : World) (h : hourglasslaw02_shown.f  = some r) :
    Calls Try.prog 12 #[] w fun e w' => e = .returned (.bool r) ∧ Below w.heap.size w w' := by
  have HB := Aside0.mk (Below.refl w.heap.size w)
  have H : ((clock_Add.f 1 2).bind fun bt115 => ((clock_Shift.f 5 (-6)).bind fun bt117 => ((clock_Shift.f 5 (-5)).bind fun bt119 => ((clock_Epoch.f 1999).bind fun bt121 => (if bt115.1 = 3 then (if bt115.2 = true then (if bt117.2 = true then (some false) else (if bt119.1 = 0 then (if bt119.2 = true then (if bt121.1 = 1 then (if bt121.2 = true then ((clock_Start.f 2).bind fun t123 => (if t123 = 2000 then ((clock_Less.f 1 2).bind fun t124 => (if t124 = 0 then ((clock_More.f 18446744073709551615 1).bind fun t125 => (some (t125 == 18446744073709551615))) else (some false))) else (some false))) else (some false)) else (some false)) else (some false)) else (some false))) else (some false)) else (some false)))))) = some r := h
  clear h
  replace H := Option.bind_eq_some_iff.mp H
  obtain ⟨⟨t115, t116⟩, A10, H⟩ := H
  replace H : ((clock_Shift.f 5 (-6)).bind fun bt117 => ((clock_Shift.f 5 (-5)).bind fun bt119 => ((clock_Epoch.f 1999).bind fun bt121 => (if t115 = 3 then (if t116 = true then (if bt117.2 = true then (some false) else (if bt119.1 = 0 then (if bt119.2 = true then (if bt121.1 = 1 then (if bt121.2 = true then ((clock_Start.f 2).bind fun t123 => (if t123 = 2000 then ((clock_Less.f 1 2).bind fun t124 => (if t124 = 0 then ((clock_More.f 18446744073709551615 1).bind fun t125 => (some (t125 == 18446744073709551615))) else (some false))) else (some false))) else (some false)) else (some false)) else (some false)) else (some false))) else (some false)) else (some false))))) = some r := H
  have A1 := Aside0.mk A10
  clear A10
  replace H := Option.bind_eq_some_iff.mp H
  obtain ⟨⟨t117, t118⟩, A20, H⟩ := H
  replace H : ((clock_Shift.f 5 (-5)).bind fun bt119 => ((clock_Epoch.f 1999).bind fun bt121 => (if t115 = 3 then (if t116 = true then (if t118 = true then (some false) else (if bt119.1 = 0 then (if bt119.2 = true then (if bt121.1 = 1 then (if bt121.2 = true then ((clock_Start.f 2).bind fun t123 => (if t123 = 2000 then ((clock_Less.f 1 2).bind fun t124 => (if t124 = 0 then ((clock_More.f 18446744073709551615 1).bind fun t125 => (some (t125 == 18446744073709551615))) else (some false))) else (some false))) else (some false)) else (some false)) else (some false)) else (some false))) else (some false)) else (some false)))) = some r := H
  have A2 := Aside0.mk A20
  clear A20
  replace H := Option.bind_eq_some_iff.mp H
  obtain ⟨⟨t119, t120⟩, A30, H⟩ := H
  replace H : ((clock_Epoch.f 1999).bind fun bt121 => (if t115 = 3 then (if t116 = true then (if t118 = true then (some false) else (if t119 = 0 then (if t120 = true then (if bt121.1 = 1 then (if bt121.2 = true then ((clock_Start.f 2).bind fun t123 => (if t123 = 2000 then ((clock_Less.f 1 2).bind fun t124 => (if t124 = 0 then ((clock_More.f 18446744073709551615 1).bind fun t125 => (some (t125 == 18446744073709551615))) else (some false))) else (some false))) else (some false)) else (some false)) else (some false)) else (some false))) else (some false)) else (some false))) = some r := H
  have A3 := Aside0.mk A30
  clear A30
  replace H := Option.bind_eq_some_iff.mp H
  obtain ⟨⟨t121, t122⟩, A40, H⟩ := H
  replace H : (if t115 = 3 then (if t116 = true then (if t118 = true then (some false) else (if t119 = 0 then (if t120 = true then (if t121 = 1 then (if t122 = true then ((clock_Start.f 2).bind fun t123 => (if t123 = 2000 then ((clock_Less.f 1 2).bind fun t124 => (if t124 = 0 then ((clock_More.f 18446744073709551615 1).bind fun t125 => (some (t125 == 18446744073709551615))) else (some false))) else (some false))) else (some false)) else (some false)) else (some false)) else (some false))) else (some false)) else (some false)) = some r := H
  have A4 := Aside0.mk A40
  clear A40
  by_cases c5 : t115 = 3
  · rw [if_pos c5] at H
    have c5b0 : (t115 == 3) = true := beq_iff_eq.mpr c5
    have c5b1 : (t115 != 3) = false := bne_eq_false_iff_eq.mpr c5
    clear c5
    by_cases c6 : t116 = true
    · subst c6
      have H1 : (if t118 = true then (some false) else (if t119 = 0 then (if t120 = true then (if t121 = 1 then (if t122 = true then ((clock_Start.f 2).bind fun t123 => (if t123 = 2000 then ((clock_Less.f 1 2).bind fun t124 => (if t124 = 0 then ((clock_More.f 18446744073709551615 1).bind fun t125 => (some (t125 == 18446744073709551615))) else (some false))) else (some false))) else (some false)) else (some false)) else (some false)) else (some false))) = some r := by rw [if_pos rfl] at H; exact H
      clear H
      have H := H1
      clear H1
      by_cases c7 : t118 = true
      · subst c7
        have H1 : (some false) = some r := by rw [if_pos rfl] at H; exact H
        clear H
        have H := H1
        clear H1
        obtain rfl := Option.some.inj H
        go_enter Try.func12, Try.ntmps12
        go_wp2_with (first | ((with_reducible refine gate_callee (f := 13) rfl ?_); refine goesL_ (some 10) rfl rfl Try.func13 (by kernel_rfl) rfl #[.int .u64 1, .int .u64 2] rfl (by (try simp only [List.map_toArray, List.map_cons, List.map_nil]); first | done | rfl | (simp only [List.length_drop, List.length_take]; rfl)) ?_; (with_reducible refine (clock_Add.calls 1 2 t115 true _ A1.out).mono ?_); rintro e w' ⟨rfl, ⟨nd, rfl⟩⟩; refine ⟨_, rfl, ?_⟩) | ((with_reducible refine gate_callee (f := 19) rfl ?_); refine goesL_ (some 14) rfl rfl Try.func19 (by kernel_rfl) rfl #[.int .u64 5, .int .i64 (-6)] rfl (by (try simp only [List.map_toArray, List.map_cons, List.map_nil]); first | done | rfl | (simp only [List.length_drop, List.length_take]; rfl)) ?_; (with_reducible refine (clock_Shift.calls 5 (-6) t117 true _ A2.out).mono ?_); rintro e w' ⟨rfl, ⟨nd, rfl⟩⟩; refine ⟨_, rfl, ?_⟩) | ((with_reducible refine gate_callee (f := 19) rfl ?_); refine goesL_ (some 18) rfl rfl Try.func19 (by kernel_rfl) rfl #[.int .u64 5, .int .i64 (-5)] rfl (by (try simp only [List.map_toArray, List.map_cons, List.map_nil]); first | done | rfl | (simp only [List.length_drop, List.length_take]; rfl)) ?_; (with_reducible refine (clock_Shift.calls 5 (-5) t119 t120 _ A3.out).mono ?_); rintro e w' ⟨rfl, ⟨nd, rfl⟩⟩; refine ⟨_, rfl, ?_⟩) | ((with_reducible refine gate_callee (f := 21) rfl ?_); refine goesL_ (some 22) rfl rfl Try.func21 (by kernel_rfl) rfl #[.int .u64 1999] rfl (by (try simp only [List.map_toArray, List.map_cons, List.map_nil]); first | done | rfl | (simp only [List.length_drop, List.length_take]; rfl)) ?_; (with_reducible refine (clock_Epoch.calls 1999 t121 t122 _ A4.out).mono ?_); rintro e w' ⟨rfl, ⟨nd, rfl⟩⟩; refine ⟨_, rfl, ?_⟩))
        go_ret
        exact ⟨by first | rfl | (simp [errW_none, errW_some] <;> rfl) | (simp [*, errW_none, errW_some] <;> rfl), by repeat (first | (with_reducible first | exact HB.out | apply below_alloc | apply pw_below_drewN | apply below_drew1) | exact HB.out)⟩
      · replace c7 := Bool.eq_false_iff.mpr c7
        subst c7
        have H1 : (if t119 = 0 then (if t120 = true then (if t121 = 1 then (if t122 = true then ((clock_Start.f 2).bind fun t123 => (if t123 = 2000 then ((clock_Less.f 1 2).bind fun t124 => (if t124 = 0 then ((clock_More.f 18446744073709551615 1).bind fun t125 => (some (t125 == 18446744073709551615))) else (some false))) else (some false))) else (some false)) else (some false)) else (some false)) else (some false)) = some r := by rw [if_neg (show ¬ (false = true) by decide)] at H; exact H
        clear H
        have H := H1
        clear H1
        by_cases c8 : t119 = 0
        · rw [if_pos c8] at H
          have c8b0 : (t119 == 0) = true := beq_iff_eq.mpr c8
          have c8b1 : (t119 != 0) = false := bne_eq_false_iff_eq.mpr c8
          clear c8
          by_cases c9 : t120 = true
          · subst c9
            have H1 : (if t121 = 1 then (if t122 = true then ((clock_Start.f 2).bind fun t123 => (if t123 = 2000 then ((clock_Less.f 1 2).bind fun t124 => (if t124 = 0 then ((clock_More.f 18446744073709551615 1).bind fun t125 => (some (t125 == 18446744073709551615))) else (some false))) else (some false))) else (some false)) else (some false)) = some r := by rw [if_pos rfl] at H; exact H
            clear H
            have H := H1
            clear H1
            by_cases c10 : t121 = 1
            · rw [if_pos c10] at H
              have c10b0 : (t121 == 1) = true := beq_iff_eq.mpr c10
              have c10b1 : (t121 != 1) = false := bne_eq_false_iff_eq.mpr c10
              clear c10
              by_cases c11 : t122 = true
              · subst c11
                have H1 : ((clock_Start.f 2).bind fun t123 => (if t123 = 2000 then ((clock_Less.f 1 2).bind fun t124 => (if t124 = 0 then ((clock_More.f 18446744073709551615 1).bind fun t125 => (some (t125 == 18446744073709551615))) else (some false))) else (some false))) = some r := by rw [if_pos rfl] at H; exact H
                clear H
                have H := H1
                clear H1
                replace H := Option.bind_eq_some_iff.mp H
                obtain ⟨t123, A120, H⟩ := H
                replace H : (if t123 = 2000 then ((clock_Less.f 1 2).bind fun t124 => (if t124 = 0 then ((clock_More.f 18446744073709551615 1).bind fun t125 => (some (t125 == 18446744073709551615))) else (some false))) else (some false)) = some r := H
                have A12 := Aside0.mk A120
                clear A120
                by_cases c13 : t123 = 2000
                · rw [if_pos c13] at H
                  have c13b0 : (t123 == 2000) = true := beq_iff_eq.mpr c13
                  have c13b1 : (t123 != 2000) = false := bne_eq_false_iff_eq.mpr c13
                  clear c13
                  replace H := Option.bind_eq_some_iff.mp H
                  obtain ⟨t124, A140, H⟩ := H
                  replace H : (if t124 = 0 then ((clock_More.f 18446744073709551615 1).bind fun t125 => (some (t125 == 18446744073709551615))) else (some false)) = some r := H
                  have A14 := Aside0.mk A140
                  clear A140
                  by_cases c15 : t124 = 0
                  · rw [if_pos c15] at H
                    have c15b0 : (t124 == 0) = true := beq_iff_eq.mpr c15
                    have c15b1 : (t124 != 0) = false := bne_eq_false_iff_eq.mpr c15
                    clear c15
                    replace H := Option.bind_eq_some_iff.mp H
                    obtain ⟨t125, A160, H⟩ := H
                    replace H : (some (t125 == 18446744073709551615)) = some r := H
                    have A16 := Aside0.mk A160
                    clear A160
                    obtain rfl := Option.some.inj H
                    go_enter Try.func12, Try.ntmps12
                    go_wp2_with (first | ((with_reducible refine gate_callee (f := 13) rfl ?_); refine goesL_ (some 10) rfl rfl Try.func13 (by kernel_rfl) rfl #[.int .u64 1, .int .u64 2] rfl (by (try simp only [List.map_toArray, List.map_cons, List.map_nil]); first | done | rfl | (simp only [List.length_drop, List.length_take]; rfl)) ?_; (with_reducible refine (clock_Add.calls 1 2 t115 true _ A1.out).mono ?_); rintro e w' ⟨rfl, ⟨nd, rfl⟩⟩; refine ⟨_, rfl, ?_⟩) | ((with_reducible refine gate_callee (f := 19) rfl ?_); refine goesL_ (some 14) rfl rfl Try.func19 (by kernel_rfl) rfl #[.int .u64 5, .int .i64 (-6)] rfl (by (try simp only [List.map_toArray, List.map_cons, List.map_nil]); first | done | rfl | (simp only [List.length_drop, List.length_take]; rfl)) ?_; (with_reducible refine (clock_Shift.calls 5 (-6) t117 false _ A2.out).mono ?_); rintro e w' ⟨rfl, ⟨nd, rfl⟩⟩; refine ⟨_, rfl, ?_⟩) | ((with_reducible refine gate_callee (f := 19) rfl ?_); refine goesL_ (some 18) rfl rfl Try.func19 (by kernel_rfl) rfl #[.int .u64 5, .int .i64 (-5)] rfl (by (try simp only [List.map_toArray, List.map_cons, List.map_nil]); first | done | rfl | (simp only [List.length_drop, List.length_take]; rfl)) ?_; (with_reducible refine (clock_Shift.calls 5 (-5) t119 true _ A3.out).mono ?_); rintro e w' ⟨rfl, ⟨nd, rfl⟩⟩; refine ⟨_, rfl, ?_⟩) | ((with_reducible refine gate_callee (f := 21) rfl ?_); refine goesL_ (some 22) rfl rfl Try.func21 (by kernel_rfl) rfl #[.int .u64 1999] rfl (by (try simp only [List.map_toArray, List.map_cons, List.map_nil]); first | done | rfl | (simp only [List.length_drop, List.length_take]; rfl)) ?_; (with_reducible refine (clock_Epoch.calls 1999 t121 true _ A4.out).mono ?_); rintro e w' ⟨rfl, ⟨nd, rfl⟩⟩; refine ⟨_, rfl, ?_⟩) | (go_at_call 23; (with_reducible refine (clock_Start.calls 2 t123 _ A12.out).mono ?_); rintro e w' ⟨rfl, ⟨nd, rfl⟩⟩) | (go_at_call 18; (with_reducible refine (clock_Less.calls 1 2 t124 _ A14.out).mono ?_); rintro e w17 ⟨rfl, hb⟩; have n0_ := Aside0.mk (below_step (by repeat (first | (with_reducible first | exact HB.out | apply below_alloc | apply pw_below_drewN | apply below_drew1) | exact HB.out)) hb); clear HB; have HB := n0_; clear n0_; (try clear hb); (try clear hb2); (try clear hk); (try clear hi)) | (go_at_call 17; (with_reducible refine (clock_More.calls 18446744073709551615 1 t125 _ A16.out).mono ?_); rintro e w' ⟨rfl, ⟨nd, rfl⟩⟩))
                    go_ret
                    exact ⟨by first | rfl | (simp [errW_none, errW_some] <;> rfl) | (simp [*, errW_none, errW_some] <;> rfl), by repeat (first | (with_reducible first | exact HB.out | apply below_alloc | apply pw_below_drewN | apply below_drew1) | exact HB.out)⟩
                  · rw [if_neg c15] at H
                    have c15b0 : (t124 == 0) = false := beq_eq_false_iff_ne.mpr c15
                    have c15b1 : (t124 != 0) = true := bne_iff_ne.mpr c15
                    obtain rfl := Option.some.inj H
                    go_enter Try.func12, Try.ntmps12
                    go_wp2_with (first | ((with_reducible refine gate_callee (f := 13) rfl ?_); refine goesL_ (some 10) rfl rfl Try.func13 (by kernel_rfl) rfl #[.int .u64 1, .int .u64 2] rfl (by (try simp only [List.map_toArray, List.map_cons, List.map_nil]); first | done | rfl | (simp only [List.length_drop, List.length_take]; rfl)) ?_; (with_reducible refine (clock_Add.calls 1 2 t115 true _ A1.out).mono ?_); rintro e w' ⟨rfl, ⟨nd, rfl⟩⟩; refine ⟨_, rfl, ?_⟩) | ((with_reducible refine gate_callee (f := 19) rfl ?_); refine goesL_ (some 14) rfl rfl Try.func19 (by kernel_rfl) rfl #[.int .u64 5, .int .i64 (-6)] rfl (by (try simp only [List.map_toArray, List.map_cons, List.map_nil]); first | done | rfl | (simp only [List.length_drop, List.length_take]; rfl)) ?_; (with_reducible refine (clock_Shift.calls 5 (-6) t117 false _ A2.out).mono ?_); rintro e w' ⟨rfl, ⟨nd, rfl⟩⟩; refine ⟨_, rfl, ?_⟩) | ((with_reducible refine gate_callee (f := 19) rfl ?_); refine goesL_ (some 18) rfl rfl Try.func19 (by kernel_rfl) rfl #[.int .u64 5, .int .i64 (-5)] rfl (by (try simp only [List.map_toArray, List.map_cons, List.map_nil]); first | done | rfl | (simp only [List.length_drop, List.length_take]; rfl)) ?_; (with_reducible refine (clock_Shift.calls 5 (-5) t119 true _ A3.out).mono ?_); rintro e w' ⟨rfl, ⟨nd, rfl⟩⟩; refine ⟨_, rfl, ?_⟩) | ((with_reducible refine gate_callee (f := 21) rfl ?_); refine goesL_ (some 22) rfl rfl Try.func21 (by kernel_rfl) rfl #[.int .u64 1999] rfl (by (try simp only [List.map_toArray, List.map_cons, List.map_nil]); first | done | rfl | (simp only [List.length_drop, List.length_take]; rfl)) ?_; (with_reducible refine (clock_Epoch.calls 1999 t121 true _ A4.out).mono ?_); rintro e w' ⟨rfl, ⟨nd, rfl⟩⟩; refine ⟨_, rfl, ?_⟩) | (go_at_call 23; (with_reducible refine (clock_Start.calls 2 t123 _ A12.out).mono ?_); rintro e w' ⟨rfl, ⟨nd, rfl⟩⟩) | (go_at_call 18; (with_reducible refine (clock_Less.calls 1 2 t124 _ A14.out).mono ?_); rintro e w18 ⟨rfl, hb⟩; have n0_ := Aside0.mk (below_step (by repeat (first | (with_reducible first | exact HB.out | apply below_alloc | apply pw_below_drewN | apply below_drew1) | exact HB.out)) hb); clear HB; have HB := n0_; clear n0_; (try clear hb); (try clear hb2); (try clear hk); (try clear hi)))
                    go_ret
                    exact ⟨by first | rfl | (simp [errW_none, errW_some] <;> rfl) | (simp [*, errW_none, errW_some] <;> rfl), by repeat (first | (with_reducible first | exact HB.out | apply below_alloc | apply pw_below_drewN | apply below_drew1) | exact HB.out)⟩
                · rw [if_neg c13] at H
                  have c13b0 : (t123 == 2000) = false := beq_eq_false_iff_ne.mpr c13
                  have c13b1 : (t123 != 2000) = true := bne_iff_ne.mpr c13
                  obtain rfl := Option.some.inj H
                  go_enter Try.func12, Try.ntmps12
                  go_wp2_with (first | ((with_reducible refine gate_callee (f := 13) rfl ?_); refine goesL_ (some 10) rfl rfl Try.func13 (by kernel_rfl) rfl #[.int .u64 1, .int .u64 2] rfl (by (try simp only [List.map_toArray, List.map_cons, List.map_nil]); first | done | rfl | (simp only [List.length_drop, List.length_take]; rfl)) ?_; (with_reducible refine (clock_Add.calls 1 2 t115 true _ A1.out).mono ?_); rintro e w' ⟨rfl, ⟨nd, rfl⟩⟩; refine ⟨_, rfl, ?_⟩) | ((with_reducible refine gate_callee (f := 19) rfl ?_); refine goesL_ (some 14) rfl rfl Try.func19 (by kernel_rfl) rfl #[.int .u64 5, .int .i64 (-6)] rfl (by (try simp only [List.map_toArray, List.map_cons, List.map_nil]); first | done | rfl | (simp only [List.length_drop, List.length_take]; rfl)) ?_; (with_reducible refine (clock_Shift.calls 5 (-6) t117 false _ A2.out).mono ?_); rintro e w' ⟨rfl, ⟨nd, rfl⟩⟩; refine ⟨_, rfl, ?_⟩) | ((with_reducible refine gate_callee (f := 19) rfl ?_); refine goesL_ (some 18) rfl rfl Try.func19 (by kernel_rfl) rfl #[.int .u64 5, .int .i64 (-5)] rfl (by (try simp only [List.map_toArray, List.map_cons, List.map_nil]); first | done | rfl | (simp only [List.length_drop, List.length_take]; rfl)) ?_; (with_reducible refine (clock_Shift.calls 5 (-5) t119 true _ A3.out).mono ?_); rintro e w' ⟨rfl, ⟨nd, rfl⟩⟩; refine ⟨_, rfl, ?_⟩) | ((with_reducible refine gate_callee (f := 21) rfl ?_); refine goesL_ (some 22) rfl rfl Try.func21 (by kernel_rfl) rfl #[.int .u64 1999] rfl (by (try simp only [List.map_toArray, List.map_cons, List.map_nil]); first | done | rfl | (simp only [List.length_drop, List.length_take]; rfl)) ?_; (with_reducible refine (clock_Epoch.calls 1999 t121 true _ A4.out).mono ?_); rintro e w' ⟨rfl, ⟨nd, rfl⟩⟩; refine ⟨_, rfl, ?_⟩) | (go_at_call 23; (with_reducible refine (clock_Start.calls 2 t123 _ A12.out).mono ?_); rintro e w' ⟨rfl, ⟨nd, rfl⟩⟩))
                  go_ret
                  exact ⟨by first | rfl | (simp [errW_none, errW_some] <;> rfl) | (simp [*, errW_none, errW_some] <;> rfl), by repeat (first | (with_reducible first | exact HB.out | apply below_alloc | apply pw_below_drewN | apply below_drew1) | exact HB.out)⟩
              · replace c11 := Bool.eq_false_iff.mpr c11
                subst c11
                have H1 : (some false) = some r := by rw [if_neg (show ¬ (false = true) by decide)] at H; exact H
                clear H
                have H := H1
                clear H1
                obtain rfl := Option.some.inj H
                go_enter Try.func12, Try.ntmps12
                go_wp2_with (first | ((with_reducible refine gate_callee (f := 13) rfl ?_); refine goesL_ (some 10) rfl rfl Try.func13 (by kernel_rfl) rfl #[.int .u64 1, .int .u64 2] rfl (by (try simp only [List.map_toArray, List.map_cons, List.map_nil]); first | done | rfl | (simp only [List.length_drop, List.length_take]; rfl)) ?_; (with_reducible refine (clock_Add.calls 1 2 t115 true _ A1.out).mono ?_); rintro e w' ⟨rfl, ⟨nd, rfl⟩⟩; refine ⟨_, rfl, ?_⟩) | ((with_reducible refine gate_callee (f := 19) rfl ?_); refine goesL_ (some 14) rfl rfl Try.func19 (by kernel_rfl) rfl #[.int .u64 5, .int .i64 (-6)] rfl (by (try simp only [List.map_toArray, List.map_cons, List.map_nil]); first | done | rfl | (simp only [List.length_drop, List.length_take]; rfl)) ?_; (with_reducible refine (clock_Shift.calls 5 (-6) t117 false _ A2.out).mono ?_); rintro e w' ⟨rfl, ⟨nd, rfl⟩⟩; refine ⟨_, rfl, ?_⟩) | ((with_reducible refine gate_callee (f := 19) rfl ?_); refine goesL_ (some 18) rfl rfl Try.func19 (by kernel_rfl) rfl #[.int .u64 5, .int .i64 (-5)] rfl (by (try simp only [List.map_toArray, List.map_cons, List.map_nil]); first | done | rfl | (simp only [List.length_drop, List.length_take]; rfl)) ?_; (with_reducible refine (clock_Shift.calls 5 (-5) t119 true _ A3.out).mono ?_); rintro e w' ⟨rfl, ⟨nd, rfl⟩⟩; refine ⟨_, rfl, ?_⟩) | ((with_reducible refine gate_callee (f := 21) rfl ?_); refine goesL_ (some 22) rfl rfl Try.func21 (by kernel_rfl) rfl #[.int .u64 1999] rfl (by (try simp only [List.map_toArray, List.map_cons, List.map_nil]); first | done | rfl | (simp only [List.length_drop, List.length_take]; rfl)) ?_; (with_reducible refine (clock_Epoch.calls 1999 t121 false _ A4.out).mono ?_); rintro e w' ⟨rfl, ⟨nd, rfl⟩⟩; refine ⟨_, rfl, ?_⟩))
                go_ret
                exact ⟨by first | rfl | (simp [errW_none, errW_some] <;> rfl) | (simp [*, errW_none, errW_some] <;> rfl), by repeat (first | (with_reducible first | exact HB.out | apply below_alloc | apply pw_below_drewN | apply below_drew1) | exact HB.out)⟩
            · rw [if_neg c10] at H
              have c10b0 : (t121 == 1) = false := beq_eq_false_iff_ne.mpr c10
              have c10b1 : (t121 != 1) = true := bne_iff_ne.mpr c10
              obtain rfl := Option.some.inj H
              go_enter Try.func12, Try.ntmps12
              go_wp2_with (first | ((with_reducible refine gate_callee (f := 13) rfl ?_); refine goesL_ (some 10) rfl rfl Try.func13 (by kernel_rfl) rfl #[.int .u64 1, .int .u64 2] rfl (by (try simp only [List.map_toArray, List.map_cons, List.map_nil]); first | done | rfl | (simp only [List.length_drop, List.length_take]; rfl)) ?_; (with_reducible refine (clock_Add.calls 1 2 t115 true _ A1.out).mono ?_); rintro e w' ⟨rfl, ⟨nd, rfl⟩⟩; refine ⟨_, rfl, ?_⟩) | ((with_reducible refine gate_callee (f := 19) rfl ?_); refine goesL_ (some 14) rfl rfl Try.func19 (by kernel_rfl) rfl #[.int .u64 5, .int .i64 (-6)] rfl (by (try simp only [List.map_toArray, List.map_cons, List.map_nil]); first | done | rfl | (simp only [List.length_drop, List.length_take]; rfl)) ?_; (with_reducible refine (clock_Shift.calls 5 (-6) t117 false _ A2.out).mono ?_); rintro e w' ⟨rfl, ⟨nd, rfl⟩⟩; refine ⟨_, rfl, ?_⟩) | ((with_reducible refine gate_callee (f := 19) rfl ?_); refine goesL_ (some 18) rfl rfl Try.func19 (by kernel_rfl) rfl #[.int .u64 5, .int .i64 (-5)] rfl (by (try simp only [List.map_toArray, List.map_cons, List.map_nil]); first | done | rfl | (simp only [List.length_drop, List.length_take]; rfl)) ?_; (with_reducible refine (clock_Shift.calls 5 (-5) t119 true _ A3.out).mono ?_); rintro e w' ⟨rfl, ⟨nd, rfl⟩⟩; refine ⟨_, rfl, ?_⟩) | ((with_reducible refine gate_callee (f := 21) rfl ?_); refine goesL_ (some 22) rfl rfl Try.func21 (by kernel_rfl) rfl #[.int .u64 1999] rfl (by (try simp only [List.map_toArray, List.map_cons, List.map_nil]); first | done | rfl | (simp only [List.length_drop, List.length_take]; rfl)) ?_; (with_reducible refine (clock_Epoch.calls 1999 t121 t122 _ A4.out).mono ?_); rintro e w' ⟨rfl, ⟨nd, rfl⟩⟩; refine ⟨_, rfl, ?_⟩))
              go_ret
              exact ⟨by first | rfl | (simp [errW_none, errW_some] <;> rfl) | (simp [*, errW_none, errW_some] <;> rfl), by repeat (first | (with_reducible first | exact HB.out | apply below_alloc | apply pw_below_drewN | apply below_drew1) | exact HB.out)⟩
          · replace c9 := Bool.eq_false_iff.mpr c9
            subst c9
            have H1 : (some false) = some r := by rw [if_neg (show ¬ (false = true) by decide)] at H; exact H
            clear H
            have H := H1
            clear H1
            obtain rfl := Option.some.inj H
            go_enter Try.func12, Try.ntmps12
            go_wp2_with (first | ((with_reducible refine gate_callee (f := 13) rfl ?_); refine goesL_ (some 10) rfl rfl Try.func13 (by kernel_rfl) rfl #[.int .u64 1, .int .u64 2] rfl (by (try simp only [List.map_toArray, List.map_cons, List.map_nil]); first | done | rfl | (simp only [List.length_drop, List.length_take]; rfl)) ?_; (with_reducible refine (clock_Add.calls 1 2 t115 true _ A1.out).mono ?_); rintro e w' ⟨rfl, ⟨nd, rfl⟩⟩; refine ⟨_, rfl, ?_⟩) | ((with_reducible refine gate_callee (f := 19) rfl ?_); refine goesL_ (some 14) rfl rfl Try.func19 (by kernel_rfl) rfl #[.int .u64 5, .int .i64 (-6)] rfl (by (try simp only [List.map_toArray, List.map_cons, List.map_nil]); first | done | rfl | (simp only [List.length_drop, List.length_take]; rfl)) ?_; (with_reducible refine (clock_Shift.calls 5 (-6) t117 false _ A2.out).mono ?_); rintro e w' ⟨rfl, ⟨nd, rfl⟩⟩; refine ⟨_, rfl, ?_⟩) | ((with_reducible refine gate_callee (f := 19) rfl ?_); refine goesL_ (some 18) rfl rfl Try.func19 (by kernel_rfl) rfl #[.int .u64 5, .int .i64 (-5)] rfl (by (try simp only [List.map_toArray, List.map_cons, List.map_nil]); first | done | rfl | (simp only [List.length_drop, List.length_take]; rfl)) ?_; (with_reducible refine (clock_Shift.calls 5 (-5) t119 false _ A3.out).mono ?_); rintro e w' ⟨rfl, ⟨nd, rfl⟩⟩; refine ⟨_, rfl, ?_⟩) | ((with_reducible refine gate_callee (f := 21) rfl ?_); refine goesL_ (some 22) rfl rfl Try.func21 (by kernel_rfl) rfl #[.int .u64 1999] rfl (by (try simp only [List.map_toArray, List.map_cons, List.map_nil]); first | done | rfl | (simp only [List.length_drop, List.length_take]; rfl)) ?_; (with_reducible refine (clock_Epoch.calls 1999 t121 t122 _ A4.out).mono ?_); rintro e w' ⟨rfl, ⟨nd, rfl⟩⟩; refine ⟨_, rfl, ?_⟩))
            go_ret
            exact ⟨by first | rfl | (simp [errW_none, errW_some] <;> rfl) | (simp [*, errW_none, errW_some] <;> rfl), by repeat (first | (with_reducible first | exact HB.out | apply below_alloc | apply pw_below_drewN | apply below_drew1) | exact HB.out)⟩
        · rw [if_neg c8] at H
          have c8b0 : (t119 == 0) = false := beq_eq_false_iff_ne.mpr c8
          have c8b1 : (t119 != 0) = true := bne_iff_ne.mpr c8
          obtain rfl := Option.some.inj H
          go_enter Try.func12, Try.ntmps12
          go_wp2_with (first | ((with_reducible refine gate_callee (f := 13) rfl ?_); refine goesL_ (some 10) rfl rfl Try.func13 (by kernel_rfl) rfl #[.int .u64 1, .int .u64 2] rfl (by (try simp only [List.map_toArray, List.map_cons, List.map_nil]); first | done | rfl | (simp only [List.length_drop, List.length_take]; rfl)) ?_; (with_reducible refine (clock_Add.calls 1 2 t115 true _ A1.out).mono ?_); rintro e w' ⟨rfl, ⟨nd, rfl⟩⟩; refine ⟨_, rfl, ?_⟩) | ((with_reducible refine gate_callee (f := 19) rfl ?_); refine goesL_ (some 14) rfl rfl Try.func19 (by kernel_rfl) rfl #[.int .u64 5, .int .i64 (-6)] rfl (by (try simp only [List.map_toArray, List.map_cons, List.map_nil]); first | done | rfl | (simp only [List.length_drop, List.length_take]; rfl)) ?_; (with_reducible refine (clock_Shift.calls 5 (-6) t117 false _ A2.out).mono ?_); rintro e w' ⟨rfl, ⟨nd, rfl⟩⟩; refine ⟨_, rfl, ?_⟩) | ((with_reducible refine gate_callee (f := 19) rfl ?_); refine goesL_ (some 18) rfl rfl Try.func19 (by kernel_rfl) rfl #[.int .u64 5, .int .i64 (-5)] rfl (by (try simp only [List.map_toArray, List.map_cons, List.map_nil]); first | done | rfl | (simp only [List.length_drop, List.length_take]; rfl)) ?_; (with_reducible refine (clock_Shift.calls 5 (-5) t119 t120 _ A3.out).mono ?_); rintro e w' ⟨rfl, ⟨nd, rfl⟩⟩; refine ⟨_, rfl, ?_⟩) | ((with_reducible refine gate_callee (f := 21) rfl ?_); refine goesL_ (some 22) rfl rfl Try.func21 (by kernel_rfl) rfl #[.int .u64 1999] rfl (by (try simp only [List.map_toArray, List.map_cons, List.map_nil]); first | done | rfl | (simp only [List.length_drop, List.length_take]; rfl)) ?_; (with_reducible refine (clock_Epoch.calls 1999 t121 t122 _ A4.out).mono ?_); rintro e w' ⟨rfl, ⟨nd, rfl⟩⟩; refine ⟨_, rfl, ?_⟩))
          go_ret
          exact ⟨by first | rfl | (simp [errW_none, errW_some] <;> rfl) | (simp [*, errW_none, errW_some] <;> rfl), by repeat (first | (with_reducible first | exact HB.out | apply below_alloc | apply pw_below_drewN | apply below_drew1) | exact HB.out)⟩
    · replace c6 := Bool.eq_false_iff.mpr c6
      subst c6
      have H1 : (some false) = some r := by rw [if_neg (show ¬ (false = true) by decide)] at H; exact H
      clear H
      have H := H1
      clear H1
      obtain rfl := Option.some.inj H
      go_enter Try.func12, Try.ntmps12
      go_wp2_with (first | ((with_reducible refine gate_callee (f := 13) rfl ?_); refine goesL_ (some 10) rfl rfl Try.func13 (by kernel_rfl) rfl #[.int .u64 1, .int .u64 2] rfl (by (try simp only [List.map_toArray, List.map_cons, List.map_nil]); first | done | rfl | (simp only [List.length_drop, List.length_take]; rfl)) ?_; (with_reducible refine (clock_Add.calls 1 2 t115 false _ A1.out).mono ?_); rintro e w' ⟨rfl, ⟨nd, rfl⟩⟩; refine ⟨_, rfl, ?_⟩) | ((with_reducible refine gate_callee (f := 19) rfl ?_); refine goesL_ (some 14) rfl rfl Try.func19 (by kernel_rfl) rfl #[.int .u64 5, .int .i64 (-6)] rfl (by (try simp only [List.map_toArray, List.map_cons, List.map_nil]); first | done | rfl | (simp only [List.length_drop, List.length_take]; rfl)) ?_; (with_reducible refine (clock_Shift.calls 5 (-6) t117 t118 _ A2.out).mono ?_); rintro e w' ⟨rfl, ⟨nd, rfl⟩⟩; refine ⟨_, rfl, ?_⟩) | ((with_reducible refine gate_callee (f := 19) rfl ?_); refine goesL_ (some 18) rfl rfl Try.func19 (by kernel_rfl) rfl #[.int .u64 5, .int .i64 (-5)] rfl (by (try simp only [List.map_toArray, List.map_cons, List.map_nil]); first | done | rfl | (simp only [List.length_drop, List.length_take]; rfl)) ?_; (with_reducible refine (clock_Shift.calls 5 (-5) t119 t120 _ A3.out).mono ?_); rintro e w' ⟨rfl, ⟨nd, rfl⟩⟩; refine ⟨_, rfl, ?_⟩) | ((with_reducible refine gate_callee (f := 21) rfl ?_); refine goesL_ (some 22) rfl rfl Try.func21 (by kernel_rfl) rfl #[.int .u64 1999] rfl (by (try simp only [List.map_toArray, List.map_cons, List.map_nil]); first | done | rfl | (simp only [List.length_drop, List.length_take]; rfl)) ?_; (with_reducible refine (clock_Epoch.calls 1999 t121 t122 _ A4.out).mono ?_); rintro e w' ⟨rfl, ⟨nd, rfl⟩⟩; refine ⟨_, rfl, ?_⟩))
      go_ret
      exact ⟨by first | rfl | (simp [errW_none, errW_some] <;> rfl) | (simp [*, errW_none, errW_some] <;> rfl), by repeat (first | (with_reducible first | exact HB.out | apply below_alloc | apply pw_below_drewN | apply below_drew1) | exact HB.out)⟩
  · rw [if_neg c5] at H
    have c5b0 : (t115 == 3) = false := beq_eq_false_iff_ne.mpr c5
    have c5b1 : (t115 != 3) = true := bne_iff_ne.mpr c5
    obtain rfl := Option.some.inj H
    go_enter Try.func12, Try.ntmps12
    go_wp2_with (first | ((with_reducible refine gate_callee (f := 13) rfl ?_); refine goesL_ (some 10) rfl rfl Try.func13 (by kernel_rfl) rfl #[.int .u64 1, .int .u64 2] rfl (by (try simp only [List.map_toArray, List.map_cons, List.map_nil]); first | done | rfl | (simp only [List.length_drop, List.length_take]; rfl)) ?_; (with_reducible refine (clock_Add.calls 1 2 t115 t116 _ A1.out).mono ?_); rintro e w' ⟨rfl, ⟨nd, rfl⟩⟩; refine ⟨_, rfl, ?_⟩) | ((with_reducible refine gate_callee (f := 19) rfl ?_); refine goesL_ (some 14) rfl rfl Try.func19 (by kernel_rfl) rfl #[.int .u64 5, .int .i64 (-6)] rfl (by (try simp only [List.map_toArray, List.map_cons, List.map_nil]); first | done | rfl | (simp only [List.length_drop, List.length_take]; rfl)) ?_; (with_reducible refine (clock_Shift.calls 5 (-6) t117 t118 _ A2.out).mono ?_); rintro e w' ⟨rfl, ⟨nd, rfl⟩⟩; refine ⟨_, rfl, ?_⟩) | ((with_reducible refine gate_callee (f := 19) rfl ?_); refine goesL_ (some 18) rfl rfl Try.func19 (by kernel_rfl) rfl #[.int .u64 5, .int .i64 (-5)] rfl (by (try simp only [List.map_toArray, List.map_cons, List.map_nil]); first | done | rfl | (simp only [List.length_drop, List.length_take]; rfl)) ?_; (with_reducible refine (clock_Shift.calls 5 (-5) t119 t120 _ A3.out).mono ?_); rintro e w' ⟨rfl, ⟨nd, rfl⟩⟩; refine ⟨_, rfl, ?_⟩) | ((with_reducible refine gate_callee (f := 21) rfl ?_); refine goesL_ (some 22) rfl rfl Try.func21 (by kernel_rfl) rfl #[.int .u64 1999] rfl (by (try simp only [List.map_toArray, List.map_cons, List.map_nil]); first | done | rfl | (simp only [List.length_drop, List.length_take]; rfl)) ?_; (with_reducible refine (clock_Epoch.calls 1999 t121 t122 _ A4.out).mono ?_); rintro e w' ⟨rfl, ⟨nd, rfl⟩⟩; refine ⟨_, rfl, ?_⟩))
    go_ret
    exact ⟨by first | rfl | (simp [errW_none, errW_some] <;> rfl) | (simp [*, errW_none, errW_some] <;> rfl), by repeat (first | (with_reducible first | exact HB.out | apply below_alloc | apply pw_below_drewN | apply below_drew1) | exact HB.out)⟩

/-! ### hourglasslaw02_ClockTurns: function 10 -/
def hourglasslaw02_ClockTurns.f (a0 : Int) (a1 : Int) (a2 : Int) : Option (Bool) := (hourglasslaw02_shown.f).bind fun t126 => ((clock_Epoch.f (Go.bits .and .u64 a0 2199023255551)).bind fun bt127 => ((clock_Epoch.f (IntKind.u64.wrap ((Go.bits .and .u64 a0 2199023255551) + (IntKind.u64.wrap (1000 * (IntKind.u64.wrap (Go.bits .and .u32 a1 1048575))))))).bind fun bt129 => ((clock_Epoch.f (Go.bits .and .u64 a2 2199023255551)).bind fun bt131 => (if bt127.2 = true then (if bt129.2 = true then (if bt131.2 = true then (if bt129.1 = ((bt127.1 + (Go.bits .and .u32 a1 1048575)) % 4294967296) then (if (Go.bits .and .u64 a0 2199023255551) ≤ (Go.bits .and .u64 a2 2199023255551) then (if bt127.1 > bt131.1 then (some false) else (if t126 = true then (if bt127.1 = bt131.1 then (if (IntKind.u64.wrap ((mx (Go.bits .and .u64 a0 2199023255551) (Go.bits .and .u64 a2 2199023255551)) - (mn (Go.bits .and .u64 a0 2199023255551) (Go.bits .and .u64 a2 2199023255551)))) < 1000 then (if (IntKind.u64.wrap ((mx (Go.bits .and .u64 a0 2199023255551) (Go.bits .and .u64 a2 2199023255551)) - (mn (Go.bits .and .u64 a0 2199023255551) (Go.bits .and .u64 a2 2199023255551)))) ≥ 1000 then ((clock_Start.f bt127.1).bind fun t133 => (some (t133 == (IntKind.u64.wrap ((Go.bits .and .u64 a0 2199023255551) - (Int.tmod (Go.bits .and .u64 a0 2199023255551) 1000)))))) else (if (((mx bt127.1 bt131.1) - (mn bt127.1 bt131.1)) % 4294967296) ≤ 1 then ((clock_Start.f bt127.1).bind fun t134 => (some (t134 == (IntKind.u64.wrap ((Go.bits .and .u64 a0 2199023255551) - (Int.tmod (Go.bits .and .u64 a0 2199023255551) 1000)))))) else (some false))) else (some false)) else (if (IntKind.u64.wrap ((mx (Go.bits .and .u64 a0 2199023255551) (Go.bits .and .u64 a2 2199023255551)) - (mn (Go.bits .and .u64 a0 2199023255551) (Go.bits .and .u64 a2 2199023255551)))) ≥ 1000 then ((clock_Start.f bt127.1).bind fun t135 => (some (t135 == (IntKind.u64.wrap ((Go.bits .and .u64 a0 2199023255551) - (Int.tmod (Go.bits .and .u64 a0 2199023255551) 1000)))))) else (if (((mx bt127.1 bt131.1) - (mn bt127.1 bt131.1)) % 4294967296) ≤ 1 then ((clock_Start.f bt127.1).bind fun t136 => (some (t136 == (IntKind.u64.wrap ((Go.bits .and .u64 a0 2199023255551) - (Int.tmod (Go.bits .and .u64 a0 2199023255551) 1000)))))) else (some false)))) else (some false))) else (if t126 = true then (if bt127.1 = bt131.1 then (if (IntKind.u64.wrap ((mx (Go.bits .and .u64 a0 2199023255551) (Go.bits .and .u64 a2 2199023255551)) - (mn (Go.bits .and .u64 a0 2199023255551) (Go.bits .and .u64 a2 2199023255551)))) < 1000 then (if (IntKind.u64.wrap ((mx (Go.bits .and .u64 a0 2199023255551) (Go.bits .and .u64 a2 2199023255551)) - (mn (Go.bits .and .u64 a0 2199023255551) (Go.bits .and .u64 a2 2199023255551)))) ≥ 1000 then ((clock_Start.f bt127.1).bind fun t137 => (some (t137 == (IntKind.u64.wrap ((Go.bits .and .u64 a0 2199023255551) - (Int.tmod (Go.bits .and .u64 a0 2199023255551) 1000)))))) else (if (((mx bt127.1 bt131.1) - (mn bt127.1 bt131.1)) % 4294967296) ≤ 1 then ((clock_Start.f bt127.1).bind fun t138 => (some (t138 == (IntKind.u64.wrap ((Go.bits .and .u64 a0 2199023255551) - (Int.tmod (Go.bits .and .u64 a0 2199023255551) 1000)))))) else (some false))) else (some false)) else (if (IntKind.u64.wrap ((mx (Go.bits .and .u64 a0 2199023255551) (Go.bits .and .u64 a2 2199023255551)) - (mn (Go.bits .and .u64 a0 2199023255551) (Go.bits .and .u64 a2 2199023255551)))) ≥ 1000 then ((clock_Start.f bt127.1).bind fun t139 => (some (t139 == (IntKind.u64.wrap ((Go.bits .and .u64 a0 2199023255551) - (Int.tmod (Go.bits .and .u64 a0 2199023255551) 1000)))))) else (if (((mx bt127.1 bt131.1) - (mn bt127.1 bt131.1)) % 4294967296) ≤ 1 then ((clock_Start.f bt127.1).bind fun t140 => (some (t140 == (IntKind.u64.wrap ((Go.bits .and .u64 a0 2199023255551) - (Int.tmod (Go.bits .and .u64 a0 2199023255551) 1000)))))) else (some false)))) else (some false))) else (some false)) else (some false)) else (some false)) else (some false)))))
set_option maxHeartbeats 8000000 in
set_option maxRecDepth 100000 in
theorem hourglasslaw02_ClockTurns.calls (a0 : Int) (a1 : Int) (a2 : Int) (r : Bool) (w : World) (h : hourglasslaw02_ClockTurns.f a0 a1 a2 = some r) :
    Calls Try.prog 10 #[.int .u64 a0, .int .u32 a1, .int .u64 a2] w fun e w' => e = .returned (.bool r) ∧ Below w.heap.size w w' := by
  have HB := Aside0.mk (Below.refl w.heap.size w)
  have H : ((hourglasslaw02_shown.f).bind fun t126 => ((clock_Epoch.f (Go.bits .and .u64 a0 2199023255551)).bind fun bt127 => ((clock_Epoch.f (IntKind.u64.wrap ((Go.bits .and .u64 a0 2199023255551) + (IntKind.u64.wrap (1000 * (IntKind.u64.wrap (Go.bits .and .u32 a1 1048575))))))).bind fun bt129 => ((clock_Epoch.f (Go.bits .and .u64 a2 2199023255551)).bind fun bt131 => (if bt127.2 = true then (if bt129.2 = true then (if bt131.2 = true then (if bt129.1 = ((bt127.1 + (Go.bits .and .u32 a1 1048575)) % 4294967296) then (if (Go.bits .and .u64 a0 2199023255551) ≤ (Go.bits .and .u64 a2 2199023255551) then (if bt127.1 > bt131.1 then (some false) else (if t126 = true then (if bt127.1 = bt131.1 then (if (IntKind.u64.wrap ((mx (Go.bits .and .u64 a0 2199023255551) (Go.bits .and .u64 a2 2199023255551)) - (mn (Go.bits .and .u64 a0 2199023255551) (Go.bits .and .u64 a2 2199023255551)))) < 1000 then (if (IntKind.u64.wrap ((mx (Go.bits .and .u64 a0 2199023255551) (Go.bits .and .u64 a2 2199023255551)) - (mn (Go.bits .and .u64 a0 2199023255551) (Go.bits .and .u64 a2 2199023255551)))) ≥ 1000 then ((clock_Start.f bt127.1).bind fun t133 => (some (t133 == (IntKind.u64.wrap ((Go.bits .and .u64 a0 2199023255551) - (Int.tmod (Go.bits .and .u64 a0 2199023255551) 1000)))))) else (if (((mx bt127.1 bt131.1) - (mn bt127.1 bt131.1)) % 4294967296) ≤ 1 then ((clock_Start.f bt127.1).bind fun t134 => (some (t134 == (IntKind.u64.wrap ((Go.bits .and .u64 a0 2199023255551) - (Int.tmod (Go.bits .and .u64 a0 2199023255551) 1000)))))) else (some false))) else (some false)) else (if (IntKind.u64.wrap ((mx (Go.bits .and .u64 a0 2199023255551) (Go.bits .and .u64 a2 2199023255551)) - (mn (Go.bits .and .u64 a0 2199023255551) (Go.bits .and .u64 a2 2199023255551)))) ≥ 1000 then ((clock_Start.f bt127.1).bind fun t135 => (some (t135 == (IntKind.u64.wrap ((Go.bits .and .u64 a0 2199023255551) - (Int.tmod (Go.bits .and .u64 a0 2199023255551) 1000)))))) else (if (((mx bt127.1 bt131.1) - (mn bt127.1 bt131.1)) % 4294967296) ≤ 1 then ((clock_Start.f bt127.1).bind fun t136 => (some (t136 == (IntKind.u64.wrap ((Go.bits .and .u64 a0 2199023255551) - (Int.tmod (Go.bits .and .u64 a0 2199023255551) 1000)))))) else (some false)))) else (some false))) else (if t126 = true then (if bt127.1 = bt131.1 then (if (IntKind.u64.wrap ((mx (Go.bits .and .u64 a0 2199023255551) (Go.bits .and .u64 a2 2199023255551)) - (mn (Go.bits .and .u64 a0 2199023255551) (Go.bits .and .u64 a2 2199023255551)))) < 1000 then (if (IntKind.u64.wrap ((mx (Go.bits .and .u64 a0 2199023255551) (Go.bits .and .u64 a2 2199023255551)) - (mn (Go.bits .and .u64 a0 2199023255551) (Go.bits .and .u64 a2 2199023255551)))) ≥ 1000 then ((clock_Start.f bt127.1).bind fun t137 => (some (t137 == (IntKind.u64.wrap ((Go.bits .and .u64 a0 2199023255551) - (Int.tmod (Go.bits .and .u64 a0 2199023255551) 1000)))))) else (if (((mx bt127.1 bt131.1) - (mn bt127.1 bt131.1)) % 4294967296) ≤ 1 then ((clock_Start.f bt127.1).bind fun t138 => (some (t138 == (IntKind.u64.wrap ((Go.bits .and .u64 a0 2199023255551) - (Int.tmod (Go.bits .and .u64 a0 2199023255551) 1000)))))) else (some false))) else (some false)) else (if (IntKind.u64.wrap ((mx (Go.bits .and .u64 a0 2199023255551) (Go.bits .and .u64 a2 2199023255551)) - (mn (Go.bits .and .u64 a0 2199023255551) (Go.bits .and .u64 a2 2199023255551)))) ≥ 1000 then ((clock_Start.f bt127.1).bind fun t139 => (some (t139 == (IntKind.u64.wrap ((Go.bits .and .u64 a0 2199023255551) - (Int.tmod (Go.bits .and .u64 a0 2199023255551) 1000)))))) else (if (((mx bt127.1 bt131.1) - (mn bt127.1 bt131.1)) % 4294967296) ≤ 1 then ((clock_Start.f bt127.1).bind fun t140 => (some (t140 == (IntKind.u64.wrap ((Go.bits .and .u64 a0 2199023255551) - (Int.tmod (Go.bits .and .u64 a0 2199023255551) 1000)))))) else (some false)))) else (some false))) else (some false)) else (some false)) else (some false)) else (some false)))))) = some r := h
  clear h
  replace H := Option.bind_eq_some_iff.mp H
  obtain ⟨t126, A40, H⟩ := H
  replace H : ((clock_Epoch.f (Go.bits .and .u64 a0 2199023255551)).bind fun bt127 => ((clock_Epoch.f (IntKind.u64.wrap ((Go.bits .and .u64 a0 2199023255551) + (IntKind.u64.wrap (1000 * (IntKind.u64.wrap (Go.bits .and .u32 a1 1048575))))))).bind fun bt129 => ((clock_Epoch.f (Go.bits .and .u64 a2 2199023255551)).bind fun bt131 => (if bt127.2 = true then (if bt129.2 = true then (if bt131.2 = true then (if bt129.1 = ((bt127.1 + (Go.bits .and .u32 a1 1048575)) % 4294967296) then (if (Go.bits .and .u64 a0 2199023255551) ≤ (Go.bits .and .u64 a2 2199023255551) then (if bt127.1 > bt131.1 then (some false) else (if t126 = true then (if bt127.1 = bt131.1 then (if (IntKind.u64.wrap ((mx (Go.bits .and .u64 a0 2199023255551) (Go.bits .and .u64 a2 2199023255551)) - (mn (Go.bits .and .u64 a0 2199023255551) (Go.bits .and .u64 a2 2199023255551)))) < 1000 then (if (IntKind.u64.wrap ((mx (Go.bits .and .u64 a0 2199023255551) (Go.bits .and .u64 a2 2199023255551)) - (mn (Go.bits .and .u64 a0 2199023255551) (Go.bits .and .u64 a2 2199023255551)))) ≥ 1000 then ((clock_Start.f bt127.1).bind fun t133 => (some (t133 == (IntKind.u64.wrap ((Go.bits .and .u64 a0 2199023255551) - (Int.tmod (Go.bits .and .u64 a0 2199023255551) 1000)))))) else (if (((mx bt127.1 bt131.1) - (mn bt127.1 bt131.1)) % 4294967296) ≤ 1 then ((clock_Start.f bt127.1).bind fun t134 => (some (t134 == (IntKind.u64.wrap ((Go.bits .and .u64 a0 2199023255551) - (Int.tmod (Go.bits .and .u64 a0 2199023255551) 1000)))))) else (some false))) else (some false)) else (if (IntKind.u64.wrap ((mx (Go.bits .and .u64 a0 2199023255551) (Go.bits .and .u64 a2 2199023255551)) - (mn (Go.bits .and .u64 a0 2199023255551) (Go.bits .and .u64 a2 2199023255551)))) ≥ 1000 then ((clock_Start.f bt127.1).bind fun t135 => (some (t135 == (IntKind.u64.wrap ((Go.bits .and .u64 a0 2199023255551) - (Int.tmod (Go.bits .and .u64 a0 2199023255551) 1000)))))) else (if (((mx bt127.1 bt131.1) - (mn bt127.1 bt131.1)) % 4294967296) ≤ 1 then ((clock_Start.f bt127.1).bind fun t136 => (some (t136 == (IntKind.u64.wrap ((Go.bits .and .u64 a0 2199023255551) - (Int.tmod (Go.bits .and .u64 a0 2199023255551) 1000)))))) else (some false)))) else (some false))) else (if t126 = true then (if bt127.1 = bt131.1 then (if (IntKind.u64.wrap ((mx (Go.bits .and .u64 a0 2199023255551) (Go.bits .and .u64 a2 2199023255551)) - (mn (Go.bits .and .u64 a0 2199023255551) (Go.bits .and .u64 a2 2199023255551)))) < 1000 then (if (IntKind.u64.wrap ((mx (Go.bits .and .u64 a0 2199023255551) (Go.bits .and .u64 a2 2199023255551)) - (mn (Go.bits .and .u64 a0 2199023255551) (Go.bits .and .u64 a2 2199023255551)))) ≥ 1000 then ((clock_Start.f bt127.1).bind fun t137 => (some (t137 == (IntKind.u64.wrap ((Go.bits .and .u64 a0 2199023255551) - (Int.tmod (Go.bits .and .u64 a0 2199023255551) 1000)))))) else (if (((mx bt127.1 bt131.1) - (mn bt127.1 bt131.1)) % 4294967296) ≤ 1 then ((clock_Start.f bt127.1).bind fun t138 => (some (t138 == (IntKind.u64.wrap ((Go.bits .and .u64 a0 2199023255551) - (Int.tmod (Go.bits .and .u64 a0 2199023255551) 1000)))))) else (some false))) else (some false)) else (if (IntKind.u64.wrap ((mx (Go.bits .and .u64 a0 2199023255551) (Go.bits .and .u64 a2 2199023255551)) - (mn (Go.bits .and .u64 a0 2199023255551) (Go.bits .and .u64 a2 2199023255551)))) ≥ 1000 then ((clock_Start.f bt127.1).bind fun t139 => (some (t139 == (IntKind.u64.wrap ((Go.bits .and .u64 a0 2199023255551) - (Int.tmod (Go.bits .and .u64 a0 2199023255551) 1000)))))) else (if (((mx bt127.1 bt131.1) - (mn bt127.1 bt131.1)) % 4294967296) ≤ 1 then ((clock_Start.f bt127.1).bind fun t140 => (some (t140 == (IntKind.u64.wrap ((Go.bits .and .u64 a0 2199023255551) - (Int.tmod (Go.bits .and .u64 a0 2199023255551) 1000)))))) else (some false)))) else (some false))) else (some false)) else (some false)) else (some false)) else (some false))))) = some r := H
  have A4 := Aside0.mk A40
  clear A40
  replace H := Option.bind_eq_some_iff.mp H
  obtain ⟨⟨t127, t128⟩, A50, H⟩ := H
  replace H : ((clock_Epoch.f (IntKind.u64.wrap ((Go.bits .and .u64 a0 2199023255551) + (IntKind.u64.wrap (1000 * (IntKind.u64.wrap (Go.bits .and .u32 a1 1048575))))))).bind fun bt129 => ((clock_Epoch.f (Go.bits .and .u64 a2 2199023255551)).bind fun bt131 => (if t128 = true then (if bt129.2 = true then (if bt131.2 = true then (if bt129.1 = ((t127 + (Go.bits .and .u32 a1 1048575)) % 4294967296) then (if (Go.bits .and .u64 a0 2199023255551) ≤ (Go.bits .and .u64 a2 2199023255551) then (if t127 > bt131.1 then (some false) else (if t126 = true then (if t127 = bt131.1 then (if (IntKind.u64.wrap ((mx (Go.bits .and .u64 a0 2199023255551) (Go.bits .and .u64 a2 2199023255551)) - (mn (Go.bits .and .u64 a0 2199023255551) (Go.bits .and .u64 a2 2199023255551)))) < 1000 then (if (IntKind.u64.wrap ((mx (Go.bits .and .u64 a0 2199023255551) (Go.bits .and .u64 a2 2199023255551)) - (mn (Go.bits .and .u64 a0 2199023255551) (Go.bits .and .u64 a2 2199023255551)))) ≥ 1000 then ((clock_Start.f t127).bind fun t133 => (some (t133 == (IntKind.u64.wrap ((Go.bits .and .u64 a0 2199023255551) - (Int.tmod (Go.bits .and .u64 a0 2199023255551) 1000)))))) else (if (((mx t127 bt131.1) - (mn t127 bt131.1)) % 4294967296) ≤ 1 then ((clock_Start.f t127).bind fun t134 => (some (t134 == (IntKind.u64.wrap ((Go.bits .and .u64 a0 2199023255551) - (Int.tmod (Go.bits .and .u64 a0 2199023255551) 1000)))))) else (some false))) else (some false)) else (if (IntKind.u64.wrap ((mx (Go.bits .and .u64 a0 2199023255551) (Go.bits .and .u64 a2 2199023255551)) - (mn (Go.bits .and .u64 a0 2199023255551) (Go.bits .and .u64 a2 2199023255551)))) ≥ 1000 then ((clock_Start.f t127).bind fun t135 => (some (t135 == (IntKind.u64.wrap ((Go.bits .and .u64 a0 2199023255551) - (Int.tmod (Go.bits .and .u64 a0 2199023255551) 1000)))))) else (if (((mx t127 bt131.1) - (mn t127 bt131.1)) % 4294967296) ≤ 1 then ((clock_Start.f t127).bind fun t136 => (some (t136 == (IntKind.u64.wrap ((Go.bits .and .u64 a0 2199023255551) - (Int.tmod (Go.bits .and .u64 a0 2199023255551) 1000)))))) else (some false)))) else (some false))) else (if t126 = true then (if t127 = bt131.1 then (if (IntKind.u64.wrap ((mx (Go.bits .and .u64 a0 2199023255551) (Go.bits .and .u64 a2 2199023255551)) - (mn (Go.bits .and .u64 a0 2199023255551) (Go.bits .and .u64 a2 2199023255551)))) < 1000 then (if (IntKind.u64.wrap ((mx (Go.bits .and .u64 a0 2199023255551) (Go.bits .and .u64 a2 2199023255551)) - (mn (Go.bits .and .u64 a0 2199023255551) (Go.bits .and .u64 a2 2199023255551)))) ≥ 1000 then ((clock_Start.f t127).bind fun t137 => (some (t137 == (IntKind.u64.wrap ((Go.bits .and .u64 a0 2199023255551) - (Int.tmod (Go.bits .and .u64 a0 2199023255551) 1000)))))) else (if (((mx t127 bt131.1) - (mn t127 bt131.1)) % 4294967296) ≤ 1 then ((clock_Start.f t127).bind fun t138 => (some (t138 == (IntKind.u64.wrap ((Go.bits .and .u64 a0 2199023255551) - (Int.tmod (Go.bits .and .u64 a0 2199023255551) 1000)))))) else (some false))) else (some false)) else (if (IntKind.u64.wrap ((mx (Go.bits .and .u64 a0 2199023255551) (Go.bits .and .u64 a2 2199023255551)) - (mn (Go.bits .and .u64 a0 2199023255551) (Go.bits .and .u64 a2 2199023255551)))) ≥ 1000 then ((clock_Start.f t127).bind fun t139 => (some (t139 == (IntKind.u64.wrap ((Go.bits .and .u64 a0 2199023255551) - (Int.tmod (Go.bits .and .u64 a0 2199023255551) 1000)))))) else (if (((mx t127 bt131.1) - (mn t127 bt131.1)) % 4294967296) ≤ 1 then ((clock_Start.f t127).bind fun t140 => (some (t140 == (IntKind.u64.wrap ((Go.bits .and .u64 a0 2199023255551) - (Int.tmod (Go.bits .and .u64 a0 2199023255551) 1000)))))) else (some false)))) else (some false))) else (some false)) else (some false)) else (some false)) else (some false)))) = some r := H
  have A5 := Aside0.mk A50
  clear A50
  replace H := Option.bind_eq_some_iff.mp H
  obtain ⟨⟨t129, t130⟩, A60, H⟩ := H
  replace H : ((clock_Epoch.f (Go.bits .and .u64 a2 2199023255551)).bind fun bt131 => (if t128 = true then (if t130 = true then (if bt131.2 = true then (if t129 = ((t127 + (Go.bits .and .u32 a1 1048575)) % 4294967296) then (if (Go.bits .and .u64 a0 2199023255551) ≤ (Go.bits .and .u64 a2 2199023255551) then (if t127 > bt131.1 then (some false) else (if t126 = true then (if t127 = bt131.1 then (if (IntKind.u64.wrap ((mx (Go.bits .and .u64 a0 2199023255551) (Go.bits .and .u64 a2 2199023255551)) - (mn (Go.bits .and .u64 a0 2199023255551) (Go.bits .and .u64 a2 2199023255551)))) < 1000 then (if (IntKind.u64.wrap ((mx (Go.bits .and .u64 a0 2199023255551) (Go.bits .and .u64 a2 2199023255551)) - (mn (Go.bits .and .u64 a0 2199023255551) (Go.bits .and .u64 a2 2199023255551)))) ≥ 1000 then ((clock_Start.f t127).bind fun t133 => (some (t133 == (IntKind.u64.wrap ((Go.bits .and .u64 a0 2199023255551) - (Int.tmod (Go.bits .and .u64 a0 2199023255551) 1000)))))) else (if (((mx t127 bt131.1) - (mn t127 bt131.1)) % 4294967296) ≤ 1 then ((clock_Start.f t127).bind fun t134 => (some (t134 == (IntKind.u64.wrap ((Go.bits .and .u64 a0 2199023255551) - (Int.tmod (Go.bits .and .u64 a0 2199023255551) 1000)))))) else (some false))) else (some false)) else (if (IntKind.u64.wrap ((mx (Go.bits .and .u64 a0 2199023255551) (Go.bits .and .u64 a2 2199023255551)) - (mn (Go.bits .and .u64 a0 2199023255551) (Go.bits .and .u64 a2 2199023255551)))) ≥ 1000 then ((clock_Start.f t127).bind fun t135 => (some (t135 == (IntKind.u64.wrap ((Go.bits .and .u64 a0 2199023255551) - (Int.tmod (Go.bits .and .u64 a0 2199023255551) 1000)))))) else (if (((mx t127 bt131.1) - (mn t127 bt131.1)) % 4294967296) ≤ 1 then ((clock_Start.f t127).bind fun t136 => (some (t136 == (IntKind.u64.wrap ((Go.bits .and .u64 a0 2199023255551) - (Int.tmod (Go.bits .and .u64 a0 2199023255551) 1000)))))) else (some false)))) else (some false))) else (if t126 = true then (if t127 = bt131.1 then (if (IntKind.u64.wrap ((mx (Go.bits .and .u64 a0 2199023255551) (Go.bits .and .u64 a2 2199023255551)) - (mn (Go.bits .and .u64 a0 2199023255551) (Go.bits .and .u64 a2 2199023255551)))) < 1000 then (if (IntKind.u64.wrap ((mx (Go.bits .and .u64 a0 2199023255551) (Go.bits .and .u64 a2 2199023255551)) - (mn (Go.bits .and .u64 a0 2199023255551) (Go.bits .and .u64 a2 2199023255551)))) ≥ 1000 then ((clock_Start.f t127).bind fun t137 => (some (t137 == (IntKind.u64.wrap ((Go.bits .and .u64 a0 2199023255551) - (Int.tmod (Go.bits .and .u64 a0 2199023255551) 1000)))))) else (if (((mx t127 bt131.1) - (mn t127 bt131.1)) % 4294967296) ≤ 1 then ((clock_Start.f t127).bind fun t138 => (some (t138 == (IntKind.u64.wrap ((Go.bits .and .u64 a0 2199023255551) - (Int.tmod (Go.bits .and .u64 a0 2199023255551) 1000)))))) else (some false))) else (some false)) else (if (IntKind.u64.wrap ((mx (Go.bits .and .u64 a0 2199023255551) (Go.bits .and .u64 a2 2199023255551)) - (mn (Go.bits .and .u64 a0 2199023255551) (Go.bits .and .u64 a2 2199023255551)))) ≥ 1000 then ((clock_Start.f t127).bind fun t139 => (some (t139 == (IntKind.u64.wrap ((Go.bits .and .u64 a0 2199023255551) - (Int.tmod (Go.bits .and .u64 a0 2199023255551) 1000)))))) else (if (((mx t127 bt131.1) - (mn t127 bt131.1)) % 4294967296) ≤ 1 then ((clock_Start.f t127).bind fun t140 => (some (t140 == (IntKind.u64.wrap ((Go.bits .and .u64 a0 2199023255551) - (Int.tmod (Go.bits .and .u64 a0 2199023255551) 1000)))))) else (some false)))) else (some false))) else (some false)) else (some false)) else (some false)) else (some false))) = some r := H
  have A6 := Aside0.mk A60
  clear A60
  replace H := Option.bind_eq_some_iff.mp H
  obtain ⟨⟨t131, t132⟩, A70, H⟩ := H
  replace H : (if t128 = true then (if t130 = true then (if t132 = true then (if t129 = ((t127 + (Go.bits .and .u32 a1 1048575)) % 4294967296) then (if (Go.bits .and .u64 a0 2199023255551) ≤ (Go.bits .and .u64 a2 2199023255551) then (if t127 > t131 then (some false) else (if t126 = true then (if t127 = t131 then (if (IntKind.u64.wrap ((mx (Go.bits .and .u64 a0 2199023255551) (Go.bits .and .u64 a2 2199023255551)) - (mn (Go.bits .and .u64 a0 2199023255551) (Go.bits .and .u64 a2 2199023255551)))) < 1000 then (if (IntKind.u64.wrap ((mx (Go.bits .and .u64 a0 2199023255551) (Go.bits .and .u64 a2 2199023255551)) - (mn (Go.bits .and .u64 a0 2199023255551) (Go.bits .and .u64 a2 2199023255551)))) ≥ 1000 then ((clock_Start.f t127).bind fun t133 => (some (t133 == (IntKind.u64.wrap ((Go.bits .and .u64 a0 2199023255551) - (Int.tmod (Go.bits .and .u64 a0 2199023255551) 1000)))))) else (if (((mx t127 t131) - (mn t127 t131)) % 4294967296) ≤ 1 then ((clock_Start.f t127).bind fun t134 => (some (t134 == (IntKind.u64.wrap ((Go.bits .and .u64 a0 2199023255551) - (Int.tmod (Go.bits .and .u64 a0 2199023255551) 1000)))))) else (some false))) else (some false)) else (if (IntKind.u64.wrap ((mx (Go.bits .and .u64 a0 2199023255551) (Go.bits .and .u64 a2 2199023255551)) - (mn (Go.bits .and .u64 a0 2199023255551) (Go.bits .and .u64 a2 2199023255551)))) ≥ 1000 then ((clock_Start.f t127).bind fun t135 => (some (t135 == (IntKind.u64.wrap ((Go.bits .and .u64 a0 2199023255551) - (Int.tmod (Go.bits .and .u64 a0 2199023255551) 1000)))))) else (if (((mx t127 t131) - (mn t127 t131)) % 4294967296) ≤ 1 then ((clock_Start.f t127).bind fun t136 => (some (t136 == (IntKind.u64.wrap ((Go.bits .and .u64 a0 2199023255551) - (Int.tmod (Go.bits .and .u64 a0 2199023255551) 1000)))))) else (some false)))) else (some false))) else (if t126 = true then (if t127 = t131 then (if (IntKind.u64.wrap ((mx (Go.bits .and .u64 a0 2199023255551) (Go.bits .and .u64 a2 2199023255551)) - (mn (Go.bits .and .u64 a0 2199023255551) (Go.bits .and .u64 a2 2199023255551)))) < 1000 then (if (IntKind.u64.wrap ((mx (Go.bits .and .u64 a0 2199023255551) (Go.bits .and .u64 a2 2199023255551)) - (mn (Go.bits .and .u64 a0 2199023255551) (Go.bits .and .u64 a2 2199023255551)))) ≥ 1000 then ((clock_Start.f t127).bind fun t137 => (some (t137 == (IntKind.u64.wrap ((Go.bits .and .u64 a0 2199023255551) - (Int.tmod (Go.bits .and .u64 a0 2199023255551) 1000)))))) else (if (((mx t127 t131) - (mn t127 t131)) % 4294967296) ≤ 1 then ((clock_Start.f t127).bind fun t138 => (some (t138 == (IntKind.u64.wrap ((Go.bits .and .u64 a0 2199023255551) - (Int.tmod (Go.bits .and .u64 a0 2199023255551) 1000)))))) else (some false))) else (some false)) else (if (IntKind.u64.wrap ((mx (Go.bits .and .u64 a0 2199023255551) (Go.bits .and .u64 a2 2199023255551)) - (mn (Go.bits .and .u64 a0 2199023255551) (Go.bits .and .u64 a2 2199023255551)))) ≥ 1000 then ((clock_Start.f t127).bind fun t139 => (some (t139 == (IntKind.u64.wrap ((Go.bits .and .u64 a0 2199023255551) - (Int.tmod (Go.bits .and .u64 a0 2199023255551) 1000)))))) else (if (((mx t127 t131) - (mn t127 t131)) % 4294967296) ≤ 1 then ((clock_Start.f t127).bind fun t140 => (some (t140 == (IntKind.u64.wrap ((Go.bits .and .u64 a0 2199023255551) - (Int.tmod (Go.bits .and .u64 a0 2199023255551) 1000)))))) else (some false)))) else (some false))) else (some false)) else (some false)) else (some false)) else (some false)) = some r := H
  have A7 := Aside0.mk A70
  clear A70
  by_cases c8 : t128 = true
  · subst c8
    have H1 : (if t130 = true then (if t132 = true then (if t129 = ((t127 + (Go.bits .and .u32 a1 1048575)) % 4294967296) then (if (Go.bits .and .u64 a0 2199023255551) ≤ (Go.bits .and .u64 a2 2199023255551) then (if t127 > t131 then (some false) else (if t126 = true then (if t127 = t131 then (if (IntKind.u64.wrap ((mx (Go.bits .and .u64 a0 2199023255551) (Go.bits .and .u64 a2 2199023255551)) - (mn (Go.bits .and .u64 a0 2199023255551) (Go.bits .and .u64 a2 2199023255551)))) < 1000 then (if (IntKind.u64.wrap ((mx (Go.bits .and .u64 a0 2199023255551) (Go.bits .and .u64 a2 2199023255551)) - (mn (Go.bits .and .u64 a0 2199023255551) (Go.bits .and .u64 a2 2199023255551)))) ≥ 1000 then ((clock_Start.f t127).bind fun t133 => (some (t133 == (IntKind.u64.wrap ((Go.bits .and .u64 a0 2199023255551) - (Int.tmod (Go.bits .and .u64 a0 2199023255551) 1000)))))) else (if (((mx t127 t131) - (mn t127 t131)) % 4294967296) ≤ 1 then ((clock_Start.f t127).bind fun t134 => (some (t134 == (IntKind.u64.wrap ((Go.bits .and .u64 a0 2199023255551) - (Int.tmod (Go.bits .and .u64 a0 2199023255551) 1000)))))) else (some false))) else (some false)) else (if (IntKind.u64.wrap ((mx (Go.bits .and .u64 a0 2199023255551) (Go.bits .and .u64 a2 2199023255551)) - (mn (Go.bits .and .u64 a0 2199023255551) (Go.bits .and .u64 a2 2199023255551)))) ≥ 1000 then ((clock_Start.f t127).bind fun t135 => (some (t135 == (IntKind.u64.wrap ((Go.bits .and .u64 a0 2199023255551) - (Int.tmod (Go.bits .and .u64 a0 2199023255551) 1000)))))) else (if (((mx t127 t131) - (mn t127 t131)) % 4294967296) ≤ 1 then ((clock_Start.f t127).bind fun t136 => (some (t136 == (IntKind.u64.wrap ((Go.bits .and .u64 a0 2199023255551) - (Int.tmod (Go.bits .and .u64 a0 2199023255551) 1000)))))) else (some false)))) else (some false))) else (if t126 = true then (if t127 = t131 then (if (IntKind.u64.wrap ((mx (Go.bits .and .u64 a0 2199023255551) (Go.bits .and .u64 a2 2199023255551)) - (mn (Go.bits .and .u64 a0 2199023255551) (Go.bits .and .u64 a2 2199023255551)))) < 1000 then (if (IntKind.u64.wrap ((mx (Go.bits .and .u64 a0 2199023255551) (Go.bits .and .u64 a2 2199023255551)) - (mn (Go.bits .and .u64 a0 2199023255551) (Go.bits .and .u64 a2 2199023255551)))) ≥ 1000 then ((clock_Start.f t127).bind fun t137 => (some (t137 == (IntKind.u64.wrap ((Go.bits .and .u64 a0 2199023255551) - (Int.tmod (Go.bits .and .u64 a0 2199023255551) 1000)))))) else (if (((mx t127 t131) - (mn t127 t131)) % 4294967296) ≤ 1 then ((clock_Start.f t127).bind fun t138 => (some (t138 == (IntKind.u64.wrap ((Go.bits .and .u64 a0 2199023255551) - (Int.tmod (Go.bits .and .u64 a0 2199023255551) 1000)))))) else (some false))) else (some false)) else (if (IntKind.u64.wrap ((mx (Go.bits .and .u64 a0 2199023255551) (Go.bits .and .u64 a2 2199023255551)) - (mn (Go.bits .and .u64 a0 2199023255551) (Go.bits .and .u64 a2 2199023255551)))) ≥ 1000 then ((clock_Start.f t127).bind fun t139 => (some (t139 == (IntKind.u64.wrap ((Go.bits .and .u64 a0 2199023255551) - (Int.tmod (Go.bits .and .u64 a0 2199023255551) 1000)))))) else (if (((mx t127 t131) - (mn t127 t131)) % 4294967296) ≤ 1 then ((clock_Start.f t127).bind fun t140 => (some (t140 == (IntKind.u64.wrap ((Go.bits .and .u64 a0 2199023255551) - (Int.tmod (Go.bits .and .u64 a0 2199023255551) 1000)))))) else (some false)))) else (some false))) else (some false)) else (some false)) else (some false)) = some r := by rw [if_pos rfl] at H; exact H
    clear H
    have H := H1
    clear H1
    by_cases c9 : t130 = true
    · subst c9
      have H1 : (if t132 = true then (if t129 = ((t127 + (Go.bits .and .u32 a1 1048575)) % 4294967296) then (if (Go.bits .and .u64 a0 2199023255551) ≤ (Go.bits .and .u64 a2 2199023255551) then (if t127 > t131 then (some false) else (if t126 = true then (if t127 = t131 then (if (IntKind.u64.wrap ((mx (Go.bits .and .u64 a0 2199023255551) (Go.bits .and .u64 a2 2199023255551)) - (mn (Go.bits .and .u64 a0 2199023255551) (Go.bits .and .u64 a2 2199023255551)))) < 1000 then (if (IntKind.u64.wrap ((mx (Go.bits .and .u64 a0 2199023255551) (Go.bits .and .u64 a2 2199023255551)) - (mn (Go.bits .and .u64 a0 2199023255551) (Go.bits .and .u64 a2 2199023255551)))) ≥ 1000 then ((clock_Start.f t127).bind fun t133 => (some (t133 == (IntKind.u64.wrap ((Go.bits .and .u64 a0 2199023255551) - (Int.tmod (Go.bits .and .u64 a0 2199023255551) 1000)))))) else (if (((mx t127 t131) - (mn t127 t131)) % 4294967296) ≤ 1 then ((clock_Start.f t127).bind fun t134 => (some (t134 == (IntKind.u64.wrap ((Go.bits .and .u64 a0 2199023255551) - (Int.tmod (Go.bits .and .u64 a0 2199023255551) 1000)))))) else (some false))) else (some false)) else (if (IntKind.u64.wrap ((mx (Go.bits .and .u64 a0 2199023255551) (Go.bits .and .u64 a2 2199023255551)) - (mn (Go.bits .and .u64 a0 2199023255551) (Go.bits .and .u64 a2 2199023255551)))) ≥ 1000 then ((clock_Start.f t127).bind fun t135 => (some (t135 == (IntKind.u64.wrap ((Go.bits .and .u64 a0 2199023255551) - (Int.tmod (Go.bits .and .u64 a0 2199023255551) 1000)))))) else (if (((mx t127 t131) - (mn t127 t131)) % 4294967296) ≤ 1 then ((clock_Start.f t127).bind fun t136 => (some (t136 == (IntKind.u64.wrap ((Go.bits .and .u64 a0 2199023255551) - (Int.tmod (Go.bits .and .u64 a0 2199023255551) 1000)))))) else (some false)))) else (some false))) else (if t126 = true then (if t127 = t131 then (if (IntKind.u64.wrap ((mx (Go.bits .and .u64 a0 2199023255551) (Go.bits .and .u64 a2 2199023255551)) - (mn (Go.bits .and .u64 a0 2199023255551) (Go.bits .and .u64 a2 2199023255551)))) < 1000 then (if (IntKind.u64.wrap ((mx (Go.bits .and .u64 a0 2199023255551) (Go.bits .and .u64 a2 2199023255551)) - (mn (Go.bits .and .u64 a0 2199023255551) (Go.bits .and .u64 a2 2199023255551)))) ≥ 1000 then ((clock_Start.f t127).bind fun t137 => (some (t137 == (IntKind.u64.wrap ((Go.bits .and .u64 a0 2199023255551) - (Int.tmod (Go.bits .and .u64 a0 2199023255551) 1000)))))) else (if (((mx t127 t131) - (mn t127 t131)) % 4294967296) ≤ 1 then ((clock_Start.f t127).bind fun t138 => (some (t138 == (IntKind.u64.wrap ((Go.bits .and .u64 a0 2199023255551) - (Int.tmod (Go.bits .and .u64 a0 2199023255551) 1000)))))) else (some false))) else (some false)) else (if (IntKind.u64.wrap ((mx (Go.bits .and .u64 a0 2199023255551) (Go.bits .and .u64 a2 2199023255551)) - (mn (Go.bits .and .u64 a0 2199023255551) (Go.bits .and .u64 a2 2199023255551)))) ≥ 1000 then ((clock_Start.f t127).bind fun t139 => (some (t139 == (IntKind.u64.wrap ((Go.bits .and .u64 a0 2199023255551) - (Int.tmod (Go.bits .and .u64 a0 2199023255551) 1000)))))) else (if (((mx t127 t131) - (mn t127 t131)) % 4294967296) ≤ 1 then ((clock_Start.f t127).bind fun t140 => (some (t140 == (IntKind.u64.wrap ((Go.bits .and .u64 a0 2199023255551) - (Int.tmod (Go.bits .and .u64 a0 2199023255551) 1000)))))) else (some false)))) else (some false))) else (some false)) else (some false)) = some r := by rw [if_pos rfl] at H; exact H
      clear H
      have H := H1
      clear H1
      by_cases c10 : t132 = true
      · subst c10
        have H1 : (if t129 = ((t127 + (Go.bits .and .u32 a1 1048575)) % 4294967296) then (if (Go.bits .and .u64 a0 2199023255551) ≤ (Go.bits .and .u64 a2 2199023255551) then (if t127 > t131 then (some false) else (if t126 = true then (if t127 = t131 then (if (IntKind.u64.wrap ((mx (Go.bits .and .u64 a0 2199023255551) (Go.bits .and .u64 a2 2199023255551)) - (mn (Go.bits .and .u64 a0 2199023255551) (Go.bits .and .u64 a2 2199023255551)))) < 1000 then (if (IntKind.u64.wrap ((mx (Go.bits .and .u64 a0 2199023255551) (Go.bits .and .u64 a2 2199023255551)) - (mn (Go.bits .and .u64 a0 2199023255551) (Go.bits .and .u64 a2 2199023255551)))) ≥ 1000 then ((clock_Start.f t127).bind fun t133 => (some (t133 == (IntKind.u64.wrap ((Go.bits .and .u64 a0 2199023255551) - (Int.tmod (Go.bits .and .u64 a0 2199023255551) 1000)))))) else (if (((mx t127 t131) - (mn t127 t131)) % 4294967296) ≤ 1 then ((clock_Start.f t127).bind fun t134 => (some (t134 == (IntKind.u64.wrap ((Go.bits .and .u64 a0 2199023255551) - (Int.tmod (Go.bits .and .u64 a0 2199023255551) 1000)))))) else (some false))) else (some false)) else (if (IntKind.u64.wrap ((mx (Go.bits .and .u64 a0 2199023255551) (Go.bits .and .u64 a2 2199023255551)) - (mn (Go.bits .and .u64 a0 2199023255551) (Go.bits .and .u64 a2 2199023255551)))) ≥ 1000 then ((clock_Start.f t127).bind fun t135 => (some (t135 == (IntKind.u64.wrap ((Go.bits .and .u64 a0 2199023255551) - (Int.tmod (Go.bits .and .u64 a0 2199023255551) 1000)))))) else (if (((mx t127 t131) - (mn t127 t131)) % 4294967296) ≤ 1 then ((clock_Start.f t127).bind fun t136 => (some (t136 == (IntKind.u64.wrap ((Go.bits .and .u64 a0 2199023255551) - (Int.tmod (Go.bits .and .u64 a0 2199023255551) 1000)))))) else (some false)))) else (some false))) else (if t126 = true then (if t127 = t131 then (if (IntKind.u64.wrap ((mx (Go.bits .and .u64 a0 2199023255551) (Go.bits .and .u64 a2 2199023255551)) - (mn (Go.bits .and .u64 a0 2199023255551) (Go.bits .and .u64 a2 2199023255551)))) < 1000 then (if (IntKind.u64.wrap ((mx (Go.bits .and .u64 a0 2199023255551) (Go.bits .and .u64 a2 2199023255551)) - (mn (Go.bits .and .u64 a0 2199023255551) (Go.bits .and .u64 a2 2199023255551)))) ≥ 1000 then ((clock_Start.f t127).bind fun t137 => (some (t137 == (IntKind.u64.wrap ((Go.bits .and .u64 a0 2199023255551) - (Int.tmod (Go.bits .and .u64 a0 2199023255551) 1000)))))) else (if (((mx t127 t131) - (mn t127 t131)) % 4294967296) ≤ 1 then ((clock_Start.f t127).bind fun t138 => (some (t138 == (IntKind.u64.wrap ((Go.bits .and .u64 a0 2199023255551) - (Int.tmod (Go.bits .and .u64 a0 2199023255551) 1000)))))) else (some false))) else (some false)) else (if (IntKind.u64.wrap ((mx (Go.bits .and .u64 a0 2199023255551) (Go.bits .and .u64 a2 2199023255551)) - (mn (Go.bits .and .u64 a0 2199023255551) (Go.bits .and .u64 a2 2199023255551)))) ≥ 1000 then ((clock_Start.f t127).bind fun t139 => (some (t139 == (IntKind.u64.wrap ((Go.bits .and .u64 a0 2199023255551) - (Int.tmod (Go.bits .and .u64 a0 2199023255551) 1000)))))) else (if (((mx t127 t131) - (mn t127 t131)) % 4294967296) ≤ 1 then ((clock_Start.f t127).bind fun t140 => (some (t140 == (IntKind.u64.wrap ((Go.bits .and .u64 a0 2199023255551) - (Int.tmod (Go.bits .and .u64 a0 2199023255551) 1000)))))) else (some false)))) else (some false))) else (some false)) = some r := by rw [if_pos rfl] at H; exact H
        clear H
        have H := H1
        clear H1
        by_cases c11 : t129 = ((t127 + (Go.bits .and .u32 a1 1048575)) % 4294967296)
        · rw [if_pos c11] at H
          have c11b0 : (t129 == ((t127 + (Go.bits .and .u32 a1 1048575)) % 4294967296)) = true := beq_iff_eq.mpr c11
          have c11b1 : (t129 != ((t127 + (Go.bits .and .u32 a1 1048575)) % 4294967296)) = false := bne_eq_false_iff_eq.mpr c11
          clear c11
          by_cases c12 : (Go.bits .and .u64 a0 2199023255551) ≤ (Go.bits .and .u64 a2 2199023255551)
          · rw [if_pos c12] at H
            have c12b0 : decide ((Go.bits .and .u64 a0 2199023255551) ≤ (Go.bits .and .u64 a2 2199023255551)) = true := decide_eq_true c12
            clear c12
            by_cases c13 : t127 > t131
            · rw [if_pos c13] at H
              have c13b0 : decide (t131 < t127) = true := decide_eq_true c13
              clear c13
              obtain rfl := Option.some.inj H
              go_enter Try.func10, Try.ntmps10
              go_wp2_with (first | ((with_reducible refine gate_callee (f := 12) rfl ?_); refine goesL_ (some 15) rfl rfl Try.func12 (by kernel_rfl) rfl #[] rfl (by (try simp only [List.map_toArray, List.map_cons, List.map_nil]); first | done | rfl | (simp only [List.length_drop, List.length_take]; rfl)) ?_; (with_reducible refine (hourglasslaw02_shown.calls  t126 _ A4.out).mono ?_); rintro e w14 ⟨rfl, hb⟩; refine ⟨_, rfl, ?_⟩; have n0_ := Aside0.mk (below_step (by repeat (first | (with_reducible first | exact HB.out | apply below_alloc | apply pw_below_drewN | apply below_drew1) | exact HB.out)) hb); clear HB; have HB := n0_; clear n0_; (try clear hb); (try clear hb2); (try clear hk); (try clear hi)) | ((with_reducible refine gate_callee (f := 21) rfl ?_); refine goesL_ (some 24) rfl rfl Try.func21 (by kernel_rfl) rfl #[.int .u64 (Go.bits .and .u64 a0 2199023255551)] rfl (by (try simp only [List.map_toArray, List.map_cons, List.map_nil]); first | done | rfl | (simp only [List.length_drop, List.length_take]; rfl)) ?_; (with_reducible refine (clock_Epoch.calls (Go.bits .and .u64 a0 2199023255551) t127 true _ A5.out).mono ?_); rintro e w' ⟨rfl, ⟨nd, rfl⟩⟩; refine ⟨_, rfl, ?_⟩) | ((with_reducible refine gate_callee (f := 21) rfl ?_); refine goesL_ (some 33) rfl rfl Try.func21 (by kernel_rfl) rfl #[.int .u64 (IntKind.u64.wrap ((Go.bits .and .u64 a0 2199023255551) + (IntKind.u64.wrap (1000 * (IntKind.u64.wrap (Go.bits .and .u32 a1 1048575))))))] rfl (by (try simp only [List.map_toArray, List.map_cons, List.map_nil]); first | done | rfl | (simp only [List.length_drop, List.length_take]; rfl)) ?_; (with_reducible refine (clock_Epoch.calls (IntKind.u64.wrap ((Go.bits .and .u64 a0 2199023255551) + (IntKind.u64.wrap (1000 * (IntKind.u64.wrap (Go.bits .and .u32 a1 1048575)))))) t129 true _ A6.out).mono ?_); rintro e w' ⟨rfl, ⟨nd, rfl⟩⟩; refine ⟨_, rfl, ?_⟩) | ((with_reducible refine gate_callee (f := 21) rfl ?_); refine goesL_ (some 38) rfl rfl Try.func21 (by kernel_rfl) rfl #[.int .u64 (Go.bits .and .u64 a2 2199023255551)] rfl (by (try simp only [List.map_toArray, List.map_cons, List.map_nil]); first | done | rfl | (simp only [List.length_drop, List.length_take]; rfl)) ?_; (with_reducible refine (clock_Epoch.calls (Go.bits .and .u64 a2 2199023255551) t131 true _ A7.out).mono ?_); rintro e w' ⟨rfl, ⟨nd, rfl⟩⟩; refine ⟨_, rfl, ?_⟩))
              go_ret
              exact ⟨by first | rfl | (simp [errW_none, errW_some] <;> rfl) | (simp [*, errW_none, errW_some] <;> rfl), by repeat (first | (with_reducible first | exact HB.out | apply below_alloc | apply pw_below_drewN | apply below_drew1) | exact HB.out)⟩
            · rw [if_neg c13] at H
              have c13b0 : decide (t131 < t127) = false := decide_eq_false c13
              clear c13
              obtain ⟨ji15, hji15⟩ : ∃ j_ : Int, (mx (Go.bits .and .u64 a0 2199023255551) (Go.bits .and .u64 a2 2199023255551)) = j_ := ⟨_, rfl⟩
              replace H : (if t126 = true then (if t127 = t131 then (if (IntKind.u64.wrap ((ji15) - (mn (Go.bits .and .u64 a0 2199023255551) (Go.bits .and .u64 a2 2199023255551)))) < 1000 then (if (IntKind.u64.wrap ((ji15) - (mn (Go.bits .and .u64 a0 2199023255551) (Go.bits .and .u64 a2 2199023255551)))) ≥ 1000 then ((clock_Start.f t127).bind fun t133 => (some (t133 == (IntKind.u64.wrap ((Go.bits .and .u64 a0 2199023255551) - (Int.tmod (Go.bits .and .u64 a0 2199023255551) 1000)))))) else (if (((mx t127 t131) - (mn t127 t131)) % 4294967296) ≤ 1 then ((clock_Start.f t127).bind fun t134 => (some (t134 == (IntKind.u64.wrap ((Go.bits .and .u64 a0 2199023255551) - (Int.tmod (Go.bits .and .u64 a0 2199023255551) 1000)))))) else (some false))) else (some false)) else (if (IntKind.u64.wrap ((ji15) - (mn (Go.bits .and .u64 a0 2199023255551) (Go.bits .and .u64 a2 2199023255551)))) ≥ 1000 then ((clock_Start.f t127).bind fun t135 => (some (t135 == (IntKind.u64.wrap ((Go.bits .and .u64 a0 2199023255551) - (Int.tmod (Go.bits .and .u64 a0 2199023255551) 1000)))))) else (if (((mx t127 t131) - (mn t127 t131)) % 4294967296) ≤ 1 then ((clock_Start.f t127).bind fun t136 => (some (t136 == (IntKind.u64.wrap ((Go.bits .and .u64 a0 2199023255551) - (Int.tmod (Go.bits .and .u64 a0 2199023255551) 1000)))))) else (some false)))) else (some false)) = some r := by first | (rw [hji15] at H; exact H) | (simp only [hji15] at H ⊢; exact H)
              (try rw [hji15] at A4)
              (try rw [hji15] at A5)
              (try rw [hji15] at A6)
              (try rw [hji15] at A7)
              have hji15_ : (if (Go.bits .and .u64 a0 2199023255551) < (Go.bits .and .u64 a2 2199023255551) then (Go.bits .and .u64 a2 2199023255551) else (Go.bits .and .u64 a0 2199023255551)) = ji15 := hji15
              obtain ⟨ji16, hji16⟩ : ∃ j_ : Int, (mn (Go.bits .and .u64 a0 2199023255551) (Go.bits .and .u64 a2 2199023255551)) = j_ := ⟨_, rfl⟩
              replace H : (if t126 = true then (if t127 = t131 then (if (IntKind.u64.wrap ((ji15) - (ji16))) < 1000 then (if (IntKind.u64.wrap ((ji15) - (ji16))) ≥ 1000 then ((clock_Start.f t127).bind fun t133 => (some (t133 == (IntKind.u64.wrap ((Go.bits .and .u64 a0 2199023255551) - (Int.tmod (Go.bits .and .u64 a0 2199023255551) 1000)))))) else (if (((mx t127 t131) - (mn t127 t131)) % 4294967296) ≤ 1 then ((clock_Start.f t127).bind fun t134 => (some (t134 == (IntKind.u64.wrap ((Go.bits .and .u64 a0 2199023255551) - (Int.tmod (Go.bits .and .u64 a0 2199023255551) 1000)))))) else (some false))) else (some false)) else (if (IntKind.u64.wrap ((ji15) - (ji16))) ≥ 1000 then ((clock_Start.f t127).bind fun t135 => (some (t135 == (IntKind.u64.wrap ((Go.bits .and .u64 a0 2199023255551) - (Int.tmod (Go.bits .and .u64 a0 2199023255551) 1000)))))) else (if (((mx t127 t131) - (mn t127 t131)) % 4294967296) ≤ 1 then ((clock_Start.f t127).bind fun t136 => (some (t136 == (IntKind.u64.wrap ((Go.bits .and .u64 a0 2199023255551) - (Int.tmod (Go.bits .and .u64 a0 2199023255551) 1000)))))) else (some false)))) else (some false)) = some r := by first | (rw [hji16] at H; exact H) | (simp only [hji16] at H ⊢; exact H)
              (try rw [hji16] at A4)
              (try rw [hji16] at A5)
              (try rw [hji16] at A6)
              (try rw [hji16] at A7)
              have hji16_ : (if (Go.bits .and .u64 a2 2199023255551) < (Go.bits .and .u64 a0 2199023255551) then (Go.bits .and .u64 a2 2199023255551) else (Go.bits .and .u64 a0 2199023255551)) = ji16 := hji16
              by_cases c17 : t126 = true
              · subst c17
                have H1 : (if t127 = t131 then (if (IntKind.u64.wrap ((ji15) - (ji16))) < 1000 then (if (IntKind.u64.wrap ((ji15) - (ji16))) ≥ 1000 then ((clock_Start.f t127).bind fun t133 => (some (t133 == (IntKind.u64.wrap ((Go.bits .and .u64 a0 2199023255551) - (Int.tmod (Go.bits .and .u64 a0 2199023255551) 1000)))))) else (if (((mx t127 t131) - (mn t127 t131)) % 4294967296) ≤ 1 then ((clock_Start.f t127).bind fun t134 => (some (t134 == (IntKind.u64.wrap ((Go.bits .and .u64 a0 2199023255551) - (Int.tmod (Go.bits .and .u64 a0 2199023255551) 1000)))))) else (some false))) else (some false)) else (if (IntKind.u64.wrap ((ji15) - (ji16))) ≥ 1000 then ((clock_Start.f t127).bind fun t135 => (some (t135 == (IntKind.u64.wrap ((Go.bits .and .u64 a0 2199023255551) - (Int.tmod (Go.bits .and .u64 a0 2199023255551) 1000)))))) else (if (((mx t127 t131) - (mn t127 t131)) % 4294967296) ≤ 1 then ((clock_Start.f t127).bind fun t136 => (some (t136 == (IntKind.u64.wrap ((Go.bits .and .u64 a0 2199023255551) - (Int.tmod (Go.bits .and .u64 a0 2199023255551) 1000)))))) else (some false)))) = some r := by rw [if_pos rfl] at H; exact H
                clear H
                have H := H1
                clear H1
                by_cases c18 : t127 = t131
                · rw [if_pos c18] at H
                  have c18b0 : (t127 == t131) = true := beq_iff_eq.mpr c18
                  have c18b1 : (t127 != t131) = false := bne_eq_false_iff_eq.mpr c18
                  clear c18
                  by_cases c19 : (IntKind.u64.wrap ((ji15) - (ji16))) < 1000
                  · rw [if_pos c19] at H
                    have c19b0 : decide ((IntKind.u64.wrap ((ji15) - (ji16))) < 1000) = true := decide_eq_true c19
                    clear c19
                    by_cases c20 : (IntKind.u64.wrap ((ji15) - (ji16))) ≥ 1000
                    · rw [if_pos c20] at H
                      have c20b0 : decide (1000 ≤ (IntKind.u64.wrap ((ji15) - (ji16)))) = true := decide_eq_true c20
                      clear c20
                      replace H := Option.bind_eq_some_iff.mp H
                      obtain ⟨t133, A210, H⟩ := H
                      replace H : (some (t133 == (IntKind.u64.wrap ((Go.bits .and .u64 a0 2199023255551) - (Int.tmod (Go.bits .and .u64 a0 2199023255551) 1000))))) = some r := H
                      have A21 := Aside0.mk A210
                      clear A210
                      obtain rfl := Option.some.inj H
                      go_enter Try.func10, Try.ntmps10
                      go_wp2_with (first | ((with_reducible refine gate_callee (f := 12) rfl ?_); refine goesL_ (some 15) rfl rfl Try.func12 (by kernel_rfl) rfl #[] rfl (by (try simp only [List.map_toArray, List.map_cons, List.map_nil]); first | done | rfl | (simp only [List.length_drop, List.length_take]; rfl)) ?_; (with_reducible refine (hourglasslaw02_shown.calls  true _ A4.out).mono ?_); rintro e w22 ⟨rfl, hb⟩; refine ⟨_, rfl, ?_⟩; have n0_ := Aside0.mk (below_step (by repeat (first | (with_reducible first | exact HB.out | apply below_alloc | apply pw_below_drewN | apply below_drew1) | exact HB.out)) hb); clear HB; have HB := n0_; clear n0_; (try clear hb); (try clear hb2); (try clear hk); (try clear hi)) | ((with_reducible refine gate_callee (f := 21) rfl ?_); refine goesL_ (some 24) rfl rfl Try.func21 (by kernel_rfl) rfl #[.int .u64 (Go.bits .and .u64 a0 2199023255551)] rfl (by (try simp only [List.map_toArray, List.map_cons, List.map_nil]); first | done | rfl | (simp only [List.length_drop, List.length_take]; rfl)) ?_; (with_reducible refine (clock_Epoch.calls (Go.bits .and .u64 a0 2199023255551) t127 true _ A5.out).mono ?_); rintro e w' ⟨rfl, ⟨nd, rfl⟩⟩; refine ⟨_, rfl, ?_⟩) | ((with_reducible refine gate_callee (f := 21) rfl ?_); refine goesL_ (some 33) rfl rfl Try.func21 (by kernel_rfl) rfl #[.int .u64 (IntKind.u64.wrap ((Go.bits .and .u64 a0 2199023255551) + (IntKind.u64.wrap (1000 * (IntKind.u64.wrap (Go.bits .and .u32 a1 1048575))))))] rfl (by (try simp only [List.map_toArray, List.map_cons, List.map_nil]); first | done | rfl | (simp only [List.length_drop, List.length_take]; rfl)) ?_; (with_reducible refine (clock_Epoch.calls (IntKind.u64.wrap ((Go.bits .and .u64 a0 2199023255551) + (IntKind.u64.wrap (1000 * (IntKind.u64.wrap (Go.bits .and .u32 a1 1048575)))))) t129 true _ A6.out).mono ?_); rintro e w' ⟨rfl, ⟨nd, rfl⟩⟩; refine ⟨_, rfl, ?_⟩) | ((with_reducible refine gate_callee (f := 21) rfl ?_); refine goesL_ (some 38) rfl rfl Try.func21 (by kernel_rfl) rfl #[.int .u64 (Go.bits .and .u64 a2 2199023255551)] rfl (by (try simp only [List.map_toArray, List.map_cons, List.map_nil]); first | done | rfl | (simp only [List.length_drop, List.length_take]; rfl)) ?_; (with_reducible refine (clock_Epoch.calls (Go.bits .and .u64 a2 2199023255551) t131 true _ A7.out).mono ?_); rintro e w' ⟨rfl, ⟨nd, rfl⟩⟩; refine ⟨_, rfl, ?_⟩) | (go_at_call 23; (with_reducible refine (clock_Start.calls t127 t133 _ A21.out).mono ?_); rintro e w' ⟨rfl, ⟨nd, rfl⟩⟩))
                      go_ret
                      exact ⟨by first | rfl | (simp [errW_none, errW_some] <;> rfl) | (simp only [← hji15, ← hji16]; first | rfl | (simp [errW_none, errW_some] <;> rfl)) | (simp [*, errW_none, errW_some] <;> rfl), by repeat (first | (with_reducible first | exact HB.out | apply below_alloc | apply pw_below_drewN | apply below_drew1) | exact HB.out)⟩
                    · rw [if_neg c20] at H
                      have c20b0 : decide (1000 ≤ (IntKind.u64.wrap ((ji15) - (ji16)))) = false := decide_eq_false c20
                      clear c20
                      obtain ⟨ji23, hji23⟩ : ∃ j_ : Int, (mx t127 t131) = j_ := ⟨_, rfl⟩
                      replace H : (if (((ji23) - (mn t127 t131)) % 4294967296) ≤ 1 then ((clock_Start.f t127).bind fun t134 => (some (t134 == (IntKind.u64.wrap ((Go.bits .and .u64 a0 2199023255551) - (Int.tmod (Go.bits .and .u64 a0 2199023255551) 1000)))))) else (some false)) = some r := by first | (rw [hji23] at H; exact H) | (simp only [hji23] at H ⊢; exact H)
                      (try rw [hji23] at A4)
                      (try rw [hji23] at A5)
                      (try rw [hji23] at A6)
                      (try rw [hji23] at A7)
                      have hji23_ : (if t127 < t131 then t131 else t127) = ji23 := hji23
                      obtain ⟨ji24, hji24⟩ : ∃ j_ : Int, (mn t127 t131) = j_ := ⟨_, rfl⟩
                      replace H : (if (((ji23) - (ji24)) % 4294967296) ≤ 1 then ((clock_Start.f t127).bind fun t134 => (some (t134 == (IntKind.u64.wrap ((Go.bits .and .u64 a0 2199023255551) - (Int.tmod (Go.bits .and .u64 a0 2199023255551) 1000)))))) else (some false)) = some r := by first | (rw [hji24] at H; exact H) | (simp only [hji24] at H ⊢; exact H)
                      (try rw [hji24] at A4)
                      (try rw [hji24] at A5)
                      (try rw [hji24] at A6)
                      (try rw [hji24] at A7)
                      have hji24_ : (if t131 < t127 then t131 else t127) = ji24 := hji24
                      by_cases c25 : (((ji23) - (ji24)) % 4294967296) ≤ 1
                      · rw [if_pos c25] at H
                        have c25b0 : decide ((((ji23) - (ji24)) % 4294967296) ≤ 1) = true := decide_eq_true c25
                        clear c25
                        replace H := Option.bind_eq_some_iff.mp H
                        obtain ⟨t134, A260, H⟩ := H
                        replace H : (some (t134 == (IntKind.u64.wrap ((Go.bits .and .u64 a0 2199023255551) - (Int.tmod (Go.bits .and .u64 a0 2199023255551) 1000))))) = some r := H
                        have A26 := Aside0.mk A260
                        clear A260
                        obtain rfl := Option.some.inj H
                        go_enter Try.func10, Try.ntmps10
                        go_wp2_with (first | ((with_reducible refine gate_callee (f := 12) rfl ?_); refine goesL_ (some 15) rfl rfl Try.func12 (by kernel_rfl) rfl #[] rfl (by (try simp only [List.map_toArray, List.map_cons, List.map_nil]); first | done | rfl | (simp only [List.length_drop, List.length_take]; rfl)) ?_; (with_reducible refine (hourglasslaw02_shown.calls  true _ A4.out).mono ?_); rintro e w27 ⟨rfl, hb⟩; refine ⟨_, rfl, ?_⟩; have n0_ := Aside0.mk (below_step (by repeat (first | (with_reducible first | exact HB.out | apply below_alloc | apply pw_below_drewN | apply below_drew1) | exact HB.out)) hb); clear HB; have HB := n0_; clear n0_; (try clear hb); (try clear hb2); (try clear hk); (try clear hi)) | ((with_reducible refine gate_callee (f := 21) rfl ?_); refine goesL_ (some 24) rfl rfl Try.func21 (by kernel_rfl) rfl #[.int .u64 (Go.bits .and .u64 a0 2199023255551)] rfl (by (try simp only [List.map_toArray, List.map_cons, List.map_nil]); first | done | rfl | (simp only [List.length_drop, List.length_take]; rfl)) ?_; (with_reducible refine (clock_Epoch.calls (Go.bits .and .u64 a0 2199023255551) t127 true _ A5.out).mono ?_); rintro e w' ⟨rfl, ⟨nd, rfl⟩⟩; refine ⟨_, rfl, ?_⟩) | ((with_reducible refine gate_callee (f := 21) rfl ?_); refine goesL_ (some 33) rfl rfl Try.func21 (by kernel_rfl) rfl #[.int .u64 (IntKind.u64.wrap ((Go.bits .and .u64 a0 2199023255551) + (IntKind.u64.wrap (1000 * (IntKind.u64.wrap (Go.bits .and .u32 a1 1048575))))))] rfl (by (try simp only [List.map_toArray, List.map_cons, List.map_nil]); first | done | rfl | (simp only [List.length_drop, List.length_take]; rfl)) ?_; (with_reducible refine (clock_Epoch.calls (IntKind.u64.wrap ((Go.bits .and .u64 a0 2199023255551) + (IntKind.u64.wrap (1000 * (IntKind.u64.wrap (Go.bits .and .u32 a1 1048575)))))) t129 true _ A6.out).mono ?_); rintro e w' ⟨rfl, ⟨nd, rfl⟩⟩; refine ⟨_, rfl, ?_⟩) | ((with_reducible refine gate_callee (f := 21) rfl ?_); refine goesL_ (some 38) rfl rfl Try.func21 (by kernel_rfl) rfl #[.int .u64 (Go.bits .and .u64 a2 2199023255551)] rfl (by (try simp only [List.map_toArray, List.map_cons, List.map_nil]); first | done | rfl | (simp only [List.length_drop, List.length_take]; rfl)) ?_; (with_reducible refine (clock_Epoch.calls (Go.bits .and .u64 a2 2199023255551) t131 true _ A7.out).mono ?_); rintro e w' ⟨rfl, ⟨nd, rfl⟩⟩; refine ⟨_, rfl, ?_⟩) | (go_at_call 23; (with_reducible refine (clock_Start.calls t127 t134 _ A26.out).mono ?_); rintro e w' ⟨rfl, ⟨nd, rfl⟩⟩))
                        go_ret
                        exact ⟨by first | rfl | (simp [errW_none, errW_some] <;> rfl) | (simp only [← hji15, ← hji16, ← hji23, ← hji24]; first | rfl | (simp [errW_none, errW_some] <;> rfl)) | (simp [*, errW_none, errW_some] <;> rfl), by repeat (first | (with_reducible first | exact HB.out | apply below_alloc | apply pw_below_drewN | apply below_drew1) | exact HB.out)⟩
                      · rw [if_neg c25] at H
                        have c25b0 : decide ((((ji23) - (ji24)) % 4294967296) ≤ 1) = false := decide_eq_false c25
                        clear c25
                        obtain rfl := Option.some.inj H
                        go_enter Try.func10, Try.ntmps10
                        go_wp2_with (first | ((with_reducible refine gate_callee (f := 12) rfl ?_); refine goesL_ (some 15) rfl rfl Try.func12 (by kernel_rfl) rfl #[] rfl (by (try simp only [List.map_toArray, List.map_cons, List.map_nil]); first | done | rfl | (simp only [List.length_drop, List.length_take]; rfl)) ?_; (with_reducible refine (hourglasslaw02_shown.calls  true _ A4.out).mono ?_); rintro e w28 ⟨rfl, hb⟩; refine ⟨_, rfl, ?_⟩; have n0_ := Aside0.mk (below_step (by repeat (first | (with_reducible first | exact HB.out | apply below_alloc | apply pw_below_drewN | apply below_drew1) | exact HB.out)) hb); clear HB; have HB := n0_; clear n0_; (try clear hb); (try clear hb2); (try clear hk); (try clear hi)) | ((with_reducible refine gate_callee (f := 21) rfl ?_); refine goesL_ (some 24) rfl rfl Try.func21 (by kernel_rfl) rfl #[.int .u64 (Go.bits .and .u64 a0 2199023255551)] rfl (by (try simp only [List.map_toArray, List.map_cons, List.map_nil]); first | done | rfl | (simp only [List.length_drop, List.length_take]; rfl)) ?_; (with_reducible refine (clock_Epoch.calls (Go.bits .and .u64 a0 2199023255551) t127 true _ A5.out).mono ?_); rintro e w' ⟨rfl, ⟨nd, rfl⟩⟩; refine ⟨_, rfl, ?_⟩) | ((with_reducible refine gate_callee (f := 21) rfl ?_); refine goesL_ (some 33) rfl rfl Try.func21 (by kernel_rfl) rfl #[.int .u64 (IntKind.u64.wrap ((Go.bits .and .u64 a0 2199023255551) + (IntKind.u64.wrap (1000 * (IntKind.u64.wrap (Go.bits .and .u32 a1 1048575))))))] rfl (by (try simp only [List.map_toArray, List.map_cons, List.map_nil]); first | done | rfl | (simp only [List.length_drop, List.length_take]; rfl)) ?_; (with_reducible refine (clock_Epoch.calls (IntKind.u64.wrap ((Go.bits .and .u64 a0 2199023255551) + (IntKind.u64.wrap (1000 * (IntKind.u64.wrap (Go.bits .and .u32 a1 1048575)))))) t129 true _ A6.out).mono ?_); rintro e w' ⟨rfl, ⟨nd, rfl⟩⟩; refine ⟨_, rfl, ?_⟩) | ((with_reducible refine gate_callee (f := 21) rfl ?_); refine goesL_ (some 38) rfl rfl Try.func21 (by kernel_rfl) rfl #[.int .u64 (Go.bits .and .u64 a2 2199023255551)] rfl (by (try simp only [List.map_toArray, List.map_cons, List.map_nil]); first | done | rfl | (simp only [List.length_drop, List.length_take]; rfl)) ?_; (with_reducible refine (clock_Epoch.calls (Go.bits .and .u64 a2 2199023255551) t131 true _ A7.out).mono ?_); rintro e w' ⟨rfl, ⟨nd, rfl⟩⟩; refine ⟨_, rfl, ?_⟩))
                        go_ret
                        exact ⟨by first | rfl | (simp [errW_none, errW_some] <;> rfl) | (simp only [← hji15, ← hji16, ← hji23, ← hji24]; first | rfl | (simp [errW_none, errW_some] <;> rfl)) | (simp [*, errW_none, errW_some] <;> rfl), by repeat (first | (with_reducible first | exact HB.out | apply below_alloc | apply pw_below_drewN | apply below_drew1) | exact HB.out)⟩
                  · rw [if_neg c19] at H
                    have c19b0 : decide ((IntKind.u64.wrap ((ji15) - (ji16))) < 1000) = false := decide_eq_false c19
                    clear c19
                    obtain rfl := Option.some.inj H
                    go_enter Try.func10, Try.ntmps10
                    go_wp2_with (first | ((with_reducible refine gate_callee (f := 12) rfl ?_); refine goesL_ (some 15) rfl rfl Try.func12 (by kernel_rfl) rfl #[] rfl (by (try simp only [List.map_toArray, List.map_cons, List.map_nil]); first | done | rfl | (simp only [List.length_drop, List.length_take]; rfl)) ?_; (with_reducible refine (hourglasslaw02_shown.calls  true _ A4.out).mono ?_); rintro e w29 ⟨rfl, hb⟩; refine ⟨_, rfl, ?_⟩; have n0_ := Aside0.mk (below_step (by repeat (first | (with_reducible first | exact HB.out | apply below_alloc | apply pw_below_drewN | apply below_drew1) | exact HB.out)) hb); clear HB; have HB := n0_; clear n0_; (try clear hb); (try clear hb2); (try clear hk); (try clear hi)) | ((with_reducible refine gate_callee (f := 21) rfl ?_); refine goesL_ (some 24) rfl rfl Try.func21 (by kernel_rfl) rfl #[.int .u64 (Go.bits .and .u64 a0 2199023255551)] rfl (by (try simp only [List.map_toArray, List.map_cons, List.map_nil]); first | done | rfl | (simp only [List.length_drop, List.length_take]; rfl)) ?_; (with_reducible refine (clock_Epoch.calls (Go.bits .and .u64 a0 2199023255551) t127 true _ A5.out).mono ?_); rintro e w' ⟨rfl, ⟨nd, rfl⟩⟩; refine ⟨_, rfl, ?_⟩) | ((with_reducible refine gate_callee (f := 21) rfl ?_); refine goesL_ (some 33) rfl rfl Try.func21 (by kernel_rfl) rfl #[.int .u64 (IntKind.u64.wrap ((Go.bits .and .u64 a0 2199023255551) + (IntKind.u64.wrap (1000 * (IntKind.u64.wrap (Go.bits .and .u32 a1 1048575))))))] rfl (by (try simp only [List.map_toArray, List.map_cons, List.map_nil]); first | done | rfl | (simp only [List.length_drop, List.length_take]; rfl)) ?_; (with_reducible refine (clock_Epoch.calls (IntKind.u64.wrap ((Go.bits .and .u64 a0 2199023255551) + (IntKind.u64.wrap (1000 * (IntKind.u64.wrap (Go.bits .and .u32 a1 1048575)))))) t129 true _ A6.out).mono ?_); rintro e w' ⟨rfl, ⟨nd, rfl⟩⟩; refine ⟨_, rfl, ?_⟩) | ((with_reducible refine gate_callee (f := 21) rfl ?_); refine goesL_ (some 38) rfl rfl Try.func21 (by kernel_rfl) rfl #[.int .u64 (Go.bits .and .u64 a2 2199023255551)] rfl (by (try simp only [List.map_toArray, List.map_cons, List.map_nil]); first | done | rfl | (simp only [List.length_drop, List.length_take]; rfl)) ?_; (with_reducible refine (clock_Epoch.calls (Go.bits .and .u64 a2 2199023255551) t131 true _ A7.out).mono ?_); rintro e w' ⟨rfl, ⟨nd, rfl⟩⟩; refine ⟨_, rfl, ?_⟩))
                    go_ret
                    exact ⟨by first | rfl | (simp [errW_none, errW_some] <;> rfl) | (simp only [← hji15, ← hji16]; first | rfl | (simp [errW_none, errW_some] <;> rfl)) | (simp [*, errW_none, errW_some] <;> rfl), by repeat (first | (with_reducible first | exact HB.out | apply below_alloc | apply pw_below_drewN | apply below_drew1) | exact HB.out)⟩
                · rw [if_neg c18] at H
                  have c18b0 : (t127 == t131) = false := beq_eq_false_iff_ne.mpr c18
                  have c18b1 : (t127 != t131) = true := bne_iff_ne.mpr c18
                  by_cases c30 : (IntKind.u64.wrap ((ji15) - (ji16))) ≥ 1000
                  · rw [if_pos c30] at H
                    have c30b0 : decide (1000 ≤ (IntKind.u64.wrap ((ji15) - (ji16)))) = true := decide_eq_true c30
                    clear c30
                    replace H := Option.bind_eq_some_iff.mp H
                    obtain ⟨t135, A310, H⟩ := H
                    replace H : (some (t135 == (IntKind.u64.wrap ((Go.bits .and .u64 a0 2199023255551) - (Int.tmod (Go.bits .and .u64 a0 2199023255551) 1000))))) = some r := H
                    have A31 := Aside0.mk A310
                    clear A310
                    obtain rfl := Option.some.inj H
                    go_enter Try.func10, Try.ntmps10
                    go_wp2_with (first | ((with_reducible refine gate_callee (f := 12) rfl ?_); refine goesL_ (some 15) rfl rfl Try.func12 (by kernel_rfl) rfl #[] rfl (by (try simp only [List.map_toArray, List.map_cons, List.map_nil]); first | done | rfl | (simp only [List.length_drop, List.length_take]; rfl)) ?_; (with_reducible refine (hourglasslaw02_shown.calls  true _ A4.out).mono ?_); rintro e w32 ⟨rfl, hb⟩; refine ⟨_, rfl, ?_⟩; have n0_ := Aside0.mk (below_step (by repeat (first | (with_reducible first | exact HB.out | apply below_alloc | apply pw_below_drewN | apply below_drew1) | exact HB.out)) hb); clear HB; have HB := n0_; clear n0_; (try clear hb); (try clear hb2); (try clear hk); (try clear hi)) | ((with_reducible refine gate_callee (f := 21) rfl ?_); refine goesL_ (some 24) rfl rfl Try.func21 (by kernel_rfl) rfl #[.int .u64 (Go.bits .and .u64 a0 2199023255551)] rfl (by (try simp only [List.map_toArray, List.map_cons, List.map_nil]); first | done | rfl | (simp only [List.length_drop, List.length_take]; rfl)) ?_; (with_reducible refine (clock_Epoch.calls (Go.bits .and .u64 a0 2199023255551) t127 true _ A5.out).mono ?_); rintro e w' ⟨rfl, ⟨nd, rfl⟩⟩; refine ⟨_, rfl, ?_⟩) | ((with_reducible refine gate_callee (f := 21) rfl ?_); refine goesL_ (some 33) rfl rfl Try.func21 (by kernel_rfl) rfl #[.int .u64 (IntKind.u64.wrap ((Go.bits .and .u64 a0 2199023255551) + (IntKind.u64.wrap (1000 * (IntKind.u64.wrap (Go.bits .and .u32 a1 1048575))))))] rfl (by (try simp only [List.map_toArray, List.map_cons, List.map_nil]); first | done | rfl | (simp only [List.length_drop, List.length_take]; rfl)) ?_; (with_reducible refine (clock_Epoch.calls (IntKind.u64.wrap ((Go.bits .and .u64 a0 2199023255551) + (IntKind.u64.wrap (1000 * (IntKind.u64.wrap (Go.bits .and .u32 a1 1048575)))))) t129 true _ A6.out).mono ?_); rintro e w' ⟨rfl, ⟨nd, rfl⟩⟩; refine ⟨_, rfl, ?_⟩) | ((with_reducible refine gate_callee (f := 21) rfl ?_); refine goesL_ (some 38) rfl rfl Try.func21 (by kernel_rfl) rfl #[.int .u64 (Go.bits .and .u64 a2 2199023255551)] rfl (by (try simp only [List.map_toArray, List.map_cons, List.map_nil]); first | done | rfl | (simp only [List.length_drop, List.length_take]; rfl)) ?_; (with_reducible refine (clock_Epoch.calls (Go.bits .and .u64 a2 2199023255551) t131 true _ A7.out).mono ?_); rintro e w' ⟨rfl, ⟨nd, rfl⟩⟩; refine ⟨_, rfl, ?_⟩) | (go_at_call 23; (with_reducible refine (clock_Start.calls t127 t135 _ A31.out).mono ?_); rintro e w' ⟨rfl, ⟨nd, rfl⟩⟩))
                    go_ret
                    exact ⟨by first | rfl | (simp [errW_none, errW_some] <;> rfl) | (simp only [← hji15, ← hji16]; first | rfl | (simp [errW_none, errW_some] <;> rfl)) | (simp [*, errW_none, errW_some] <;> rfl), by repeat (first | (with_reducible first | exact HB.out | apply below_alloc | apply pw_below_drewN | apply below_drew1) | exact HB.out)⟩
                  · rw [if_neg c30] at H
                    have c30b0 : decide (1000 ≤ (IntKind.u64.wrap ((ji15) - (ji16)))) = false := decide_eq_false c30
                    clear c30
                    obtain ⟨ji33, hji33⟩ : ∃ j_ : Int, (mx t127 t131) = j_ := ⟨_, rfl⟩
                    replace H : (if (((ji33) - (mn t127 t131)) % 4294967296) ≤ 1 then ((clock_Start.f t127).bind fun t136 => (some (t136 == (IntKind.u64.wrap ((Go.bits .and .u64 a0 2199023255551) - (Int.tmod (Go.bits .and .u64 a0 2199023255551) 1000)))))) else (some false)) = some r := by first | (rw [hji33] at H; exact H) | (simp only [hji33] at H ⊢; exact H)
                    (try rw [hji33] at A4)
                    (try rw [hji33] at A5)
                    (try rw [hji33] at A6)
                    (try rw [hji33] at A7)
                    have hji33_ : (if t127 < t131 then t131 else t127) = ji33 := hji33
                    obtain ⟨ji34, hji34⟩ : ∃ j_ : Int, (mn t127 t131) = j_ := ⟨_, rfl⟩
                    replace H : (if (((ji33) - (ji34)) % 4294967296) ≤ 1 then ((clock_Start.f t127).bind fun t136 => (some (t136 == (IntKind.u64.wrap ((Go.bits .and .u64 a0 2199023255551) - (Int.tmod (Go.bits .and .u64 a0 2199023255551) 1000)))))) else (some false)) = some r := by first | (rw [hji34] at H; exact H) | (simp only [hji34] at H ⊢; exact H)
                    (try rw [hji34] at A4)
                    (try rw [hji34] at A5)
                    (try rw [hji34] at A6)
                    (try rw [hji34] at A7)
                    have hji34_ : (if t131 < t127 then t131 else t127) = ji34 := hji34
                    by_cases c35 : (((ji33) - (ji34)) % 4294967296) ≤ 1
                    · rw [if_pos c35] at H
                      have c35b0 : decide ((((ji33) - (ji34)) % 4294967296) ≤ 1) = true := decide_eq_true c35
                      clear c35
                      replace H := Option.bind_eq_some_iff.mp H
                      obtain ⟨t136, A360, H⟩ := H
                      replace H : (some (t136 == (IntKind.u64.wrap ((Go.bits .and .u64 a0 2199023255551) - (Int.tmod (Go.bits .and .u64 a0 2199023255551) 1000))))) = some r := H
                      have A36 := Aside0.mk A360
                      clear A360
                      obtain rfl := Option.some.inj H
                      go_enter Try.func10, Try.ntmps10
                      go_wp2_with (first | ((with_reducible refine gate_callee (f := 12) rfl ?_); refine goesL_ (some 15) rfl rfl Try.func12 (by kernel_rfl) rfl #[] rfl (by (try simp only [List.map_toArray, List.map_cons, List.map_nil]); first | done | rfl | (simp only [List.length_drop, List.length_take]; rfl)) ?_; (with_reducible refine (hourglasslaw02_shown.calls  true _ A4.out).mono ?_); rintro e w37 ⟨rfl, hb⟩; refine ⟨_, rfl, ?_⟩; have n0_ := Aside0.mk (below_step (by repeat (first | (with_reducible first | exact HB.out | apply below_alloc | apply pw_below_drewN | apply below_drew1) | exact HB.out)) hb); clear HB; have HB := n0_; clear n0_; (try clear hb); (try clear hb2); (try clear hk); (try clear hi)) | ((with_reducible refine gate_callee (f := 21) rfl ?_); refine goesL_ (some 24) rfl rfl Try.func21 (by kernel_rfl) rfl #[.int .u64 (Go.bits .and .u64 a0 2199023255551)] rfl (by (try simp only [List.map_toArray, List.map_cons, List.map_nil]); first | done | rfl | (simp only [List.length_drop, List.length_take]; rfl)) ?_; (with_reducible refine (clock_Epoch.calls (Go.bits .and .u64 a0 2199023255551) t127 true _ A5.out).mono ?_); rintro e w' ⟨rfl, ⟨nd, rfl⟩⟩; refine ⟨_, rfl, ?_⟩) | ((with_reducible refine gate_callee (f := 21) rfl ?_); refine goesL_ (some 33) rfl rfl Try.func21 (by kernel_rfl) rfl #[.int .u64 (IntKind.u64.wrap ((Go.bits .and .u64 a0 2199023255551) + (IntKind.u64.wrap (1000 * (IntKind.u64.wrap (Go.bits .and .u32 a1 1048575))))))] rfl (by (try simp only [List.map_toArray, List.map_cons, List.map_nil]); first | done | rfl | (simp only [List.length_drop, List.length_take]; rfl)) ?_; (with_reducible refine (clock_Epoch.calls (IntKind.u64.wrap ((Go.bits .and .u64 a0 2199023255551) + (IntKind.u64.wrap (1000 * (IntKind.u64.wrap (Go.bits .and .u32 a1 1048575)))))) t129 true _ A6.out).mono ?_); rintro e w' ⟨rfl, ⟨nd, rfl⟩⟩; refine ⟨_, rfl, ?_⟩) | ((with_reducible refine gate_callee (f := 21) rfl ?_); refine goesL_ (some 38) rfl rfl Try.func21 (by kernel_rfl) rfl #[.int .u64 (Go.bits .and .u64 a2 2199023255551)] rfl (by (try simp only [List.map_toArray, List.map_cons, List.map_nil]); first | done | rfl | (simp only [List.length_drop, List.length_take]; rfl)) ?_; (with_reducible refine (clock_Epoch.calls (Go.bits .and .u64 a2 2199023255551) t131 true _ A7.out).mono ?_); rintro e w' ⟨rfl, ⟨nd, rfl⟩⟩; refine ⟨_, rfl, ?_⟩) | (go_at_call 23; (with_reducible refine (clock_Start.calls t127 t136 _ A36.out).mono ?_); rintro e w' ⟨rfl, ⟨nd, rfl⟩⟩))
                      go_ret
                      exact ⟨by first | rfl | (simp [errW_none, errW_some] <;> rfl) | (simp only [← hji15, ← hji16, ← hji33, ← hji34]; first | rfl | (simp [errW_none, errW_some] <;> rfl)) | (simp [*, errW_none, errW_some] <;> rfl), by repeat (first | (with_reducible first | exact HB.out | apply below_alloc | apply pw_below_drewN | apply below_drew1) | exact HB.out)⟩
                    · rw [if_neg c35] at H
                      have c35b0 : decide ((((ji33) - (ji34)) % 4294967296) ≤ 1) = false := decide_eq_false c35
                      clear c35
                      obtain rfl := Option.some.inj H
                      go_enter Try.func10, Try.ntmps10
                      go_wp2_with (first | ((with_reducible refine gate_callee (f := 12) rfl ?_); refine goesL_ (some 15) rfl rfl Try.func12 (by kernel_rfl) rfl #[] rfl (by (try simp only [List.map_toArray, List.map_cons, List.map_nil]); first | done | rfl | (simp only [List.length_drop, List.length_take]; rfl)) ?_; (with_reducible refine (hourglasslaw02_shown.calls  true _ A4.out).mono ?_); rintro e w38 ⟨rfl, hb⟩; refine ⟨_, rfl, ?_⟩; have n0_ := Aside0.mk (below_step (by repeat (first | (with_reducible first | exact HB.out | apply below_alloc | apply pw_below_drewN | apply below_drew1) | exact HB.out)) hb); clear HB; have HB := n0_; clear n0_; (try clear hb); (try clear hb2); (try clear hk); (try clear hi)) | ((with_reducible refine gate_callee (f := 21) rfl ?_); refine goesL_ (some 24) rfl rfl Try.func21 (by kernel_rfl) rfl #[.int .u64 (Go.bits .and .u64 a0 2199023255551)] rfl (by (try simp only [List.map_toArray, List.map_cons, List.map_nil]); first | done | rfl | (simp only [List.length_drop, List.length_take]; rfl)) ?_; (with_reducible refine (clock_Epoch.calls (Go.bits .and .u64 a0 2199023255551) t127 true _ A5.out).mono ?_); rintro e w' ⟨rfl, ⟨nd, rfl⟩⟩; refine ⟨_, rfl, ?_⟩) | ((with_reducible refine gate_callee (f := 21) rfl ?_); refine goesL_ (some 33) rfl rfl Try.func21 (by kernel_rfl) rfl #[.int .u64 (IntKind.u64.wrap ((Go.bits .and .u64 a0 2199023255551) + (IntKind.u64.wrap (1000 * (IntKind.u64.wrap (Go.bits .and .u32 a1 1048575))))))] rfl (by (try simp only [List.map_toArray, List.map_cons, List.map_nil]); first | done | rfl | (simp only [List.length_drop, List.length_take]; rfl)) ?_; (with_reducible refine (clock_Epoch.calls (IntKind.u64.wrap ((Go.bits .and .u64 a0 2199023255551) + (IntKind.u64.wrap (1000 * (IntKind.u64.wrap (Go.bits .and .u32 a1 1048575)))))) t129 true _ A6.out).mono ?_); rintro e w' ⟨rfl, ⟨nd, rfl⟩⟩; refine ⟨_, rfl, ?_⟩) | ((with_reducible refine gate_callee (f := 21) rfl ?_); refine goesL_ (some 38) rfl rfl Try.func21 (by kernel_rfl) rfl #[.int .u64 (Go.bits .and .u64 a2 2199023255551)] rfl (by (try simp only [List.map_toArray, List.map_cons, List.map_nil]); first | done | rfl | (simp only [List.length_drop, List.length_take]; rfl)) ?_; (with_reducible refine (clock_Epoch.calls (Go.bits .and .u64 a2 2199023255551) t131 true _ A7.out).mono ?_); rintro e w' ⟨rfl, ⟨nd, rfl⟩⟩; refine ⟨_, rfl, ?_⟩))
                      go_ret
                      exact ⟨by first | rfl | (simp [errW_none, errW_some] <;> rfl) | (simp only [← hji15, ← hji16, ← hji33, ← hji34]; first | rfl | (simp [errW_none, errW_some] <;> rfl)) | (simp [*, errW_none, errW_some] <;> rfl), by repeat (first | (with_reducible first | exact HB.out | apply below_alloc | apply pw_below_drewN | apply below_drew1) | exact HB.out)⟩
              · replace c17 := Bool.eq_false_iff.mpr c17
                subst c17
                have H1 : (some false) = some r := by rw [if_neg (show ¬ (false = true) by decide)] at H; exact H
                clear H
                have H := H1
                clear H1
                obtain rfl := Option.some.inj H
                go_enter Try.func10, Try.ntmps10
                go_wp2_with (first | ((with_reducible refine gate_callee (f := 12) rfl ?_); refine goesL_ (some 15) rfl rfl Try.func12 (by kernel_rfl) rfl #[] rfl (by (try simp only [List.map_toArray, List.map_cons, List.map_nil]); first | done | rfl | (simp only [List.length_drop, List.length_take]; rfl)) ?_; (with_reducible refine (hourglasslaw02_shown.calls  false _ A4.out).mono ?_); rintro e w39 ⟨rfl, hb⟩; refine ⟨_, rfl, ?_⟩; have n0_ := Aside0.mk (below_step (by repeat (first | (with_reducible first | exact HB.out | apply below_alloc | apply pw_below_drewN | apply below_drew1) | exact HB.out)) hb); clear HB; have HB := n0_; clear n0_; (try clear hb); (try clear hb2); (try clear hk); (try clear hi)) | ((with_reducible refine gate_callee (f := 21) rfl ?_); refine goesL_ (some 24) rfl rfl Try.func21 (by kernel_rfl) rfl #[.int .u64 (Go.bits .and .u64 a0 2199023255551)] rfl (by (try simp only [List.map_toArray, List.map_cons, List.map_nil]); first | done | rfl | (simp only [List.length_drop, List.length_take]; rfl)) ?_; (with_reducible refine (clock_Epoch.calls (Go.bits .and .u64 a0 2199023255551) t127 true _ A5.out).mono ?_); rintro e w' ⟨rfl, ⟨nd, rfl⟩⟩; refine ⟨_, rfl, ?_⟩) | ((with_reducible refine gate_callee (f := 21) rfl ?_); refine goesL_ (some 33) rfl rfl Try.func21 (by kernel_rfl) rfl #[.int .u64 (IntKind.u64.wrap ((Go.bits .and .u64 a0 2199023255551) + (IntKind.u64.wrap (1000 * (IntKind.u64.wrap (Go.bits .and .u32 a1 1048575))))))] rfl (by (try simp only [List.map_toArray, List.map_cons, List.map_nil]); first | done | rfl | (simp only [List.length_drop, List.length_take]; rfl)) ?_; (with_reducible refine (clock_Epoch.calls (IntKind.u64.wrap ((Go.bits .and .u64 a0 2199023255551) + (IntKind.u64.wrap (1000 * (IntKind.u64.wrap (Go.bits .and .u32 a1 1048575)))))) t129 true _ A6.out).mono ?_); rintro e w' ⟨rfl, ⟨nd, rfl⟩⟩; refine ⟨_, rfl, ?_⟩) | ((with_reducible refine gate_callee (f := 21) rfl ?_); refine goesL_ (some 38) rfl rfl Try.func21 (by kernel_rfl) rfl #[.int .u64 (Go.bits .and .u64 a2 2199023255551)] rfl (by (try simp only [List.map_toArray, List.map_cons, List.map_nil]); first | done | rfl | (simp only [List.length_drop, List.length_take]; rfl)) ?_; (with_reducible refine (clock_Epoch.calls (Go.bits .and .u64 a2 2199023255551) t131 true _ A7.out).mono ?_); rintro e w' ⟨rfl, ⟨nd, rfl⟩⟩; refine ⟨_, rfl, ?_⟩))
                go_ret
                exact ⟨by first | rfl | (simp [errW_none, errW_some] <;> rfl) | (simp only [← hji15, ← hji16]; first | rfl | (simp [errW_none, errW_some] <;> rfl)) | (simp [*, errW_none, errW_some] <;> rfl), by repeat (first | (with_reducible first | exact HB.out | apply below_alloc | apply pw_below_drewN | apply below_drew1) | exact HB.out)⟩
          · rw [if_neg c12] at H
            have c12b0 : decide ((Go.bits .and .u64 a0 2199023255551) ≤ (Go.bits .and .u64 a2 2199023255551)) = false := decide_eq_false c12
            clear c12
            obtain ⟨ji40, hji40⟩ : ∃ j_ : Int, (mx (Go.bits .and .u64 a0 2199023255551) (Go.bits .and .u64 a2 2199023255551)) = j_ := ⟨_, rfl⟩
            replace H : (if t126 = true then (if t127 = t131 then (if (IntKind.u64.wrap ((ji40) - (mn (Go.bits .and .u64 a0 2199023255551) (Go.bits .and .u64 a2 2199023255551)))) < 1000 then (if (IntKind.u64.wrap ((ji40) - (mn (Go.bits .and .u64 a0 2199023255551) (Go.bits .and .u64 a2 2199023255551)))) ≥ 1000 then ((clock_Start.f t127).bind fun t137 => (some (t137 == (IntKind.u64.wrap ((Go.bits .and .u64 a0 2199023255551) - (Int.tmod (Go.bits .and .u64 a0 2199023255551) 1000)))))) else (if (((mx t127 t131) - (mn t127 t131)) % 4294967296) ≤ 1 then ((clock_Start.f t127).bind fun t138 => (some (t138 == (IntKind.u64.wrap ((Go.bits .and .u64 a0 2199023255551) - (Int.tmod (Go.bits .and .u64 a0 2199023255551) 1000)))))) else (some false))) else (some false)) else (if (IntKind.u64.wrap ((ji40) - (mn (Go.bits .and .u64 a0 2199023255551) (Go.bits .and .u64 a2 2199023255551)))) ≥ 1000 then ((clock_Start.f t127).bind fun t139 => (some (t139 == (IntKind.u64.wrap ((Go.bits .and .u64 a0 2199023255551) - (Int.tmod (Go.bits .and .u64 a0 2199023255551) 1000)))))) else (if (((mx t127 t131) - (mn t127 t131)) % 4294967296) ≤ 1 then ((clock_Start.f t127).bind fun t140 => (some (t140 == (IntKind.u64.wrap ((Go.bits .and .u64 a0 2199023255551) - (Int.tmod (Go.bits .and .u64 a0 2199023255551) 1000)))))) else (some false)))) else (some false)) = some r := by first | (rw [hji40] at H; exact H) | (simp only [hji40] at H ⊢; exact H)
            (try rw [hji40] at A4)
            (try rw [hji40] at A5)
            (try rw [hji40] at A6)
            (try rw [hji40] at A7)
            have hji40_ : (if (Go.bits .and .u64 a0 2199023255551) < (Go.bits .and .u64 a2 2199023255551) then (Go.bits .and .u64 a2 2199023255551) else (Go.bits .and .u64 a0 2199023255551)) = ji40 := hji40
            obtain ⟨ji41, hji41⟩ : ∃ j_ : Int, (mn (Go.bits .and .u64 a0 2199023255551) (Go.bits .and .u64 a2 2199023255551)) = j_ := ⟨_, rfl⟩
            replace H : (if t126 = true then (if t127 = t131 then (if (IntKind.u64.wrap ((ji40) - (ji41))) < 1000 then (if (IntKind.u64.wrap ((ji40) - (ji41))) ≥ 1000 then ((clock_Start.f t127).bind fun t137 => (some (t137 == (IntKind.u64.wrap ((Go.bits .and .u64 a0 2199023255551) - (Int.tmod (Go.bits .and .u64 a0 2199023255551) 1000)))))) else (if (((mx t127 t131) - (mn t127 t131)) % 4294967296) ≤ 1 then ((clock_Start.f t127).bind fun t138 => (some (t138 == (IntKind.u64.wrap ((Go.bits .and .u64 a0 2199023255551) - (Int.tmod (Go.bits .and .u64 a0 2199023255551) 1000)))))) else (some false))) else (some false)) else (if (IntKind.u64.wrap ((ji40) - (ji41))) ≥ 1000 then ((clock_Start.f t127).bind fun t139 => (some (t139 == (IntKind.u64.wrap ((Go.bits .and .u64 a0 2199023255551) - (Int.tmod (Go.bits .and .u64 a0 2199023255551) 1000)))))) else (if (((mx t127 t131) - (mn t127 t131)) % 4294967296) ≤ 1 then ((clock_Start.f t127).bind fun t140 => (some (t140 == (IntKind.u64.wrap ((Go.bits .and .u64 a0 2199023255551) - (Int.tmod (Go.bits .and .u64 a0 2199023255551) 1000)))))) else (some false)))) else (some false)) = some r := by first | (rw [hji41] at H; exact H) | (simp only [hji41] at H ⊢; exact H)
            (try rw [hji41] at A4)
            (try rw [hji41] at A5)
            (try rw [hji41] at A6)
            (try rw [hji41] at A7)
            have hji41_ : (if (Go.bits .and .u64 a2 2199023255551) < (Go.bits .and .u64 a0 2199023255551) then (Go.bits .and .u64 a2 2199023255551) else (Go.bits .and .u64 a0 2199023255551)) = ji41 := hji41
            by_cases c42 : t126 = true
            · subst c42
              have H1 : (if t127 = t131 then (if (IntKind.u64.wrap ((ji40) - (ji41))) < 1000 then (if (IntKind.u64.wrap ((ji40) - (ji41))) ≥ 1000 then ((clock_Start.f t127).bind fun t137 => (some (t137 == (IntKind.u64.wrap ((Go.bits .and .u64 a0 2199023255551) - (Int.tmod (Go.bits .and .u64 a0 2199023255551) 1000)))))) else (if (((mx t127 t131) - (mn t127 t131)) % 4294967296) ≤ 1 then ((clock_Start.f t127).bind fun t138 => (some (t138 == (IntKind.u64.wrap ((Go.bits .and .u64 a0 2199023255551) - (Int.tmod (Go.bits .and .u64 a0 2199023255551) 1000)))))) else (some false))) else (some false)) else (if (IntKind.u64.wrap ((ji40) - (ji41))) ≥ 1000 then ((clock_Start.f t127).bind fun t139 => (some (t139 == (IntKind.u64.wrap ((Go.bits .and .u64 a0 2199023255551) - (Int.tmod (Go.bits .and .u64 a0 2199023255551) 1000)))))) else (if (((mx t127 t131) - (mn t127 t131)) % 4294967296) ≤ 1 then ((clock_Start.f t127).bind fun t140 => (some (t140 == (IntKind.u64.wrap ((Go.bits .and .u64 a0 2199023255551) - (Int.tmod (Go.bits .and .u64 a0 2199023255551) 1000)))))) else (some false)))) = some r := by rw [if_pos rfl] at H; exact H
              clear H
              have H := H1
              clear H1
              by_cases c43 : t127 = t131
              · rw [if_pos c43] at H
                have c43b0 : (t127 == t131) = true := beq_iff_eq.mpr c43
                have c43b1 : (t127 != t131) = false := bne_eq_false_iff_eq.mpr c43
                clear c43
                by_cases c44 : (IntKind.u64.wrap ((ji40) - (ji41))) < 1000
                · rw [if_pos c44] at H
                  have c44b0 : decide ((IntKind.u64.wrap ((ji40) - (ji41))) < 1000) = true := decide_eq_true c44
                  clear c44
                  by_cases c45 : (IntKind.u64.wrap ((ji40) - (ji41))) ≥ 1000
                  · rw [if_pos c45] at H
                    have c45b0 : decide (1000 ≤ (IntKind.u64.wrap ((ji40) - (ji41)))) = true := decide_eq_true c45
                    clear c45
                    replace H := Option.bind_eq_some_iff.mp H
                    obtain ⟨t137, A460, H⟩ := H
                    replace H : (some (t137 == (IntKind.u64.wrap ((Go.bits .and .u64 a0 2199023255551) - (Int.tmod (Go.bits .and .u64 a0 2199023255551) 1000))))) = some r := H
                    have A46 := Aside0.mk A460
                    clear A460
                    obtain rfl := Option.some.inj H
                    go_enter Try.func10, Try.ntmps10
                    go_wp2_with (first | ((with_reducible refine gate_callee (f := 12) rfl ?_); refine goesL_ (some 15) rfl rfl Try.func12 (by kernel_rfl) rfl #[] rfl (by (try simp only [List.map_toArray, List.map_cons, List.map_nil]); first | done | rfl | (simp only [List.length_drop, List.length_take]; rfl)) ?_; (with_reducible refine (hourglasslaw02_shown.calls  true _ A4.out).mono ?_); rintro e w47 ⟨rfl, hb⟩; refine ⟨_, rfl, ?_⟩; have n0_ := Aside0.mk (below_step (by repeat (first | (with_reducible first | exact HB.out | apply below_alloc | apply pw_below_drewN | apply below_drew1) | exact HB.out)) hb); clear HB; have HB := n0_; clear n0_; (try clear hb); (try clear hb2); (try clear hk); (try clear hi)) | ((with_reducible refine gate_callee (f := 21) rfl ?_); refine goesL_ (some 24) rfl rfl Try.func21 (by kernel_rfl) rfl #[.int .u64 (Go.bits .and .u64 a0 2199023255551)] rfl (by (try simp only [List.map_toArray, List.map_cons, List.map_nil]); first | done | rfl | (simp only [List.length_drop, List.length_take]; rfl)) ?_; (with_reducible refine (clock_Epoch.calls (Go.bits .and .u64 a0 2199023255551) t127 true _ A5.out).mono ?_); rintro e w' ⟨rfl, ⟨nd, rfl⟩⟩; refine ⟨_, rfl, ?_⟩) | ((with_reducible refine gate_callee (f := 21) rfl ?_); refine goesL_ (some 33) rfl rfl Try.func21 (by kernel_rfl) rfl #[.int .u64 (IntKind.u64.wrap ((Go.bits .and .u64 a0 2199023255551) + (IntKind.u64.wrap (1000 * (IntKind.u64.wrap (Go.bits .and .u32 a1 1048575))))))] rfl (by (try simp only [List.map_toArray, List.map_cons, List.map_nil]); first | done | rfl | (simp only [List.length_drop, List.length_take]; rfl)) ?_; (with_reducible refine (clock_Epoch.calls (IntKind.u64.wrap ((Go.bits .and .u64 a0 2199023255551) + (IntKind.u64.wrap (1000 * (IntKind.u64.wrap (Go.bits .and .u32 a1 1048575)))))) t129 true _ A6.out).mono ?_); rintro e w' ⟨rfl, ⟨nd, rfl⟩⟩; refine ⟨_, rfl, ?_⟩) | ((with_reducible refine gate_callee (f := 21) rfl ?_); refine goesL_ (some 38) rfl rfl Try.func21 (by kernel_rfl) rfl #[.int .u64 (Go.bits .and .u64 a2 2199023255551)] rfl (by (try simp only [List.map_toArray, List.map_cons, List.map_nil]); first | done | rfl | (simp only [List.length_drop, List.length_take]; rfl)) ?_; (with_reducible refine (clock_Epoch.calls (Go.bits .and .u64 a2 2199023255551) t131 true _ A7.out).mono ?_); rintro e w' ⟨rfl, ⟨nd, rfl⟩⟩; refine ⟨_, rfl, ?_⟩) | (go_at_call 23; (with_reducible refine (clock_Start.calls t127 t137 _ A46.out).mono ?_); rintro e w' ⟨rfl, ⟨nd, rfl⟩⟩))
                    go_ret
                    exact ⟨by first | rfl | (simp [errW_none, errW_some] <;> rfl) | (simp only [← hji40, ← hji41]; first | rfl | (simp [errW_none, errW_some] <;> rfl)) | (simp [*, errW_none, errW_some] <;> rfl), by repeat (first | (with_reducible first | exact HB.out | apply below_alloc | apply pw_below_drewN | apply below_drew1) | exact HB.out)⟩
                  · rw [if_neg c45] at H
                    have c45b0 : decide (1000 ≤ (IntKind.u64.wrap ((ji40) - (ji41)))) = false := decide_eq_false c45
                    clear c45
                    obtain ⟨ji48, hji48⟩ : ∃ j_ : Int, (mx t127 t131) = j_ := ⟨_, rfl⟩
                    replace H : (if (((ji48) - (mn t127 t131)) % 4294967296) ≤ 1 then ((clock_Start.f t127).bind fun t138 => (some (t138 == (IntKind.u64.wrap ((Go.bits .and .u64 a0 2199023255551) - (Int.tmod (Go.bits .and .u64 a0 2199023255551) 1000)))))) else (some false)) = some r := by first | (rw [hji48] at H; exact H) | (simp only [hji48] at H ⊢; exact H)
                    (try rw [hji48] at A4)
                    (try rw [hji48] at A5)
                    (try rw [hji48] at A6)
                    (try rw [hji48] at A7)
                    have hji48_ : (if t127 < t131 then t131 else t127) = ji48 := hji48
                    obtain ⟨ji49, hji49⟩ : ∃ j_ : Int, (mn t127 t131) = j_ := ⟨_, rfl⟩
                    replace H : (if (((ji48) - (ji49)) % 4294967296) ≤ 1 then ((clock_Start.f t127).bind fun t138 => (some (t138 == (IntKind.u64.wrap ((Go.bits .and .u64 a0 2199023255551) - (Int.tmod (Go.bits .and .u64 a0 2199023255551) 1000)))))) else (some false)) = some r := by first | (rw [hji49] at H; exact H) | (simp only [hji49] at H ⊢; exact H)
                    (try rw [hji49] at A4)
                    (try rw [hji49] at A5)
                    (try rw [hji49] at A6)
                    (try rw [hji49] at A7)
                    have hji49_ : (if t131 < t127 then t131 else t127) = ji49 := hji49
                    by_cases c50 : (((ji48) - (ji49)) % 4294967296) ≤ 1
                    · rw [if_pos c50] at H
                      have c50b0 : decide ((((ji48) - (ji49)) % 4294967296) ≤ 1) = true := decide_eq_true c50
                      clear c50
                      replace H := Option.bind_eq_some_iff.mp H
                      obtain ⟨t138, A510, H⟩ := H
                      replace H : (some (t138 == (IntKind.u64.wrap ((Go.bits .and .u64 a0 2199023255551) - (Int.tmod (Go.bits .and .u64 a0 2199023255551) 1000))))) = some r := H
                      have A51 := Aside0.mk A510
                      clear A510
                      obtain rfl := Option.some.inj H
                      go_enter Try.func10, Try.ntmps10
                      go_wp2_with (first | ((with_reducible refine gate_callee (f := 12) rfl ?_); refine goesL_ (some 15) rfl rfl Try.func12 (by kernel_rfl) rfl #[] rfl (by (try simp only [List.map_toArray, List.map_cons, List.map_nil]); first | done | rfl | (simp only [List.length_drop, List.length_take]; rfl)) ?_; (with_reducible refine (hourglasslaw02_shown.calls  true _ A4.out).mono ?_); rintro e w52 ⟨rfl, hb⟩; refine ⟨_, rfl, ?_⟩; have n0_ := Aside0.mk (below_step (by repeat (first | (with_reducible first | exact HB.out | apply below_alloc | apply pw_below_drewN | apply below_drew1) | exact HB.out)) hb); clear HB; have HB := n0_; clear n0_; (try clear hb); (try clear hb2); (try clear hk); (try clear hi)) | ((with_reducible refine gate_callee (f := 21) rfl ?_); refine goesL_ (some 24) rfl rfl Try.func21 (by kernel_rfl) rfl #[.int .u64 (Go.bits .and .u64 a0 2199023255551)] rfl (by (try simp only [List.map_toArray, List.map_cons, List.map_nil]); first | done | rfl | (simp only [List.length_drop, List.length_take]; rfl)) ?_; (with_reducible refine (clock_Epoch.calls (Go.bits .and .u64 a0 2199023255551) t127 true _ A5.out).mono ?_); rintro e w' ⟨rfl, ⟨nd, rfl⟩⟩; refine ⟨_, rfl, ?_⟩) | ((with_reducible refine gate_callee (f := 21) rfl ?_); refine goesL_ (some 33) rfl rfl Try.func21 (by kernel_rfl) rfl #[.int .u64 (IntKind.u64.wrap ((Go.bits .and .u64 a0 2199023255551) + (IntKind.u64.wrap (1000 * (IntKind.u64.wrap (Go.bits .and .u32 a1 1048575))))))] rfl (by (try simp only [List.map_toArray, List.map_cons, List.map_nil]); first | done | rfl | (simp only [List.length_drop, List.length_take]; rfl)) ?_; (with_reducible refine (clock_Epoch.calls (IntKind.u64.wrap ((Go.bits .and .u64 a0 2199023255551) + (IntKind.u64.wrap (1000 * (IntKind.u64.wrap (Go.bits .and .u32 a1 1048575)))))) t129 true _ A6.out).mono ?_); rintro e w' ⟨rfl, ⟨nd, rfl⟩⟩; refine ⟨_, rfl, ?_⟩) | ((with_reducible refine gate_callee (f := 21) rfl ?_); refine goesL_ (some 38) rfl rfl Try.func21 (by kernel_rfl) rfl #[.int .u64 (Go.bits .and .u64 a2 2199023255551)] rfl (by (try simp only [List.map_toArray, List.map_cons, List.map_nil]); first | done | rfl | (simp only [List.length_drop, List.length_take]; rfl)) ?_; (with_reducible refine (clock_Epoch.calls (Go.bits .and .u64 a2 2199023255551) t131 true _ A7.out).mono ?_); rintro e w' ⟨rfl, ⟨nd, rfl⟩⟩; refine ⟨_, rfl, ?_⟩) | (go_at_call 23; (with_reducible refine (clock_Start.calls t127 t138 _ A51.out).mono ?_); rintro e w' ⟨rfl, ⟨nd, rfl⟩⟩))
                      go_ret
                      exact ⟨by first | rfl | (simp [errW_none, errW_some] <;> rfl) | (simp only [← hji40, ← hji41, ← hji48, ← hji49]; first | rfl | (simp [errW_none, errW_some] <;> rfl)) | (simp [*, errW_none, errW_some] <;> rfl), by repeat (first | (with_reducible first | exact HB.out | apply below_alloc | apply pw_below_drewN | apply below_drew1) | exact HB.out)⟩
                    · rw [if_neg c50] at H
                      have c50b0 : decide ((((ji48) - (ji49)) % 4294967296) ≤ 1) = false := decide_eq_false c50
                      clear c50
                      obtain rfl := Option.some.inj H
                      go_enter Try.func10, Try.ntmps10
                      go_wp2_with (first | ((with_reducible refine gate_callee (f := 12) rfl ?_); refine goesL_ (some 15) rfl rfl Try.func12 (by kernel_rfl) rfl #[] rfl (by (try simp only [List.map_toArray, List.map_cons, List.map_nil]); first | done | rfl | (simp only [List.length_drop, List.length_take]; rfl)) ?_; (with_reducible refine (hourglasslaw02_shown.calls  true _ A4.out).mono ?_); rintro e w53 ⟨rfl, hb⟩; refine ⟨_, rfl, ?_⟩; have n0_ := Aside0.mk (below_step (by repeat (first | (with_reducible first | exact HB.out | apply below_alloc | apply pw_below_drewN | apply below_drew1) | exact HB.out)) hb); clear HB; have HB := n0_; clear n0_; (try clear hb); (try clear hb2); (try clear hk); (try clear hi)) | ((with_reducible refine gate_callee (f := 21) rfl ?_); refine goesL_ (some 24) rfl rfl Try.func21 (by kernel_rfl) rfl #[.int .u64 (Go.bits .and .u64 a0 2199023255551)] rfl (by (try simp only [List.map_toArray, List.map_cons, List.map_nil]); first | done | rfl | (simp only [List.length_drop, List.length_take]; rfl)) ?_; (with_reducible refine (clock_Epoch.calls (Go.bits .and .u64 a0 2199023255551) t127 true _ A5.out).mono ?_); rintro e w' ⟨rfl, ⟨nd, rfl⟩⟩; refine ⟨_, rfl, ?_⟩) | ((with_reducible refine gate_callee (f := 21) rfl ?_); refine goesL_ (some 33) rfl rfl Try.func21 (by kernel_rfl) rfl #[.int .u64 (IntKind.u64.wrap ((Go.bits .and .u64 a0 2199023255551) + (IntKind.u64.wrap (1000 * (IntKind.u64.wrap (Go.bits .and .u32 a1 1048575))))))] rfl (by (try simp only [List.map_toArray, List.map_cons, List.map_nil]); first | done | rfl | (simp only [List.length_drop, List.length_take]; rfl)) ?_; (with_reducible refine (clock_Epoch.calls (IntKind.u64.wrap ((Go.bits .and .u64 a0 2199023255551) + (IntKind.u64.wrap (1000 * (IntKind.u64.wrap (Go.bits .and .u32 a1 1048575)))))) t129 true _ A6.out).mono ?_); rintro e w' ⟨rfl, ⟨nd, rfl⟩⟩; refine ⟨_, rfl, ?_⟩) | ((with_reducible refine gate_callee (f := 21) rfl ?_); refine goesL_ (some 38) rfl rfl Try.func21 (by kernel_rfl) rfl #[.int .u64 (Go.bits .and .u64 a2 2199023255551)] rfl (by (try simp only [List.map_toArray, List.map_cons, List.map_nil]); first | done | rfl | (simp only [List.length_drop, List.length_take]; rfl)) ?_; (with_reducible refine (clock_Epoch.calls (Go.bits .and .u64 a2 2199023255551) t131 true _ A7.out).mono ?_); rintro e w' ⟨rfl, ⟨nd, rfl⟩⟩; refine ⟨_, rfl, ?_⟩))
                      go_ret
                      exact ⟨by first | rfl | (simp [errW_none, errW_some] <;> rfl) | (simp only [← hji40, ← hji41, ← hji48, ← hji49]; first | rfl | (simp [errW_none, errW_some] <;> rfl)) | (simp [*, errW_none, errW_some] <;> rfl), by repeat (first | (with_reducible first | exact HB.out | apply below_alloc | apply pw_below_drewN | apply below_drew1) | exact HB.out)⟩
                · rw [if_neg c44] at H
                  have c44b0 : decide ((IntKind.u64.wrap ((ji40) - (ji41))) < 1000) = false := decide_eq_false c44
                  clear c44
                  obtain rfl := Option.some.inj H
                  go_enter Try.func10, Try.ntmps10
                  go_wp2_with (first | ((with_reducible refine gate_callee (f := 12) rfl ?_); refine goesL_ (some 15) rfl rfl Try.func12 (by kernel_rfl) rfl #[] rfl (by (try simp only [List.map_toArray, List.map_cons, List.map_nil]); first | done | rfl | (simp only [List.length_drop, List.length_take]; rfl)) ?_; (with_reducible refine (hourglasslaw02_shown.calls  true _ A4.out).mono ?_); rintro e w54 ⟨rfl, hb⟩; refine ⟨_, rfl, ?_⟩; have n0_ := Aside0.mk (below_step (by repeat (first | (with_reducible first | exact HB.out | apply below_alloc | apply pw_below_drewN | apply below_drew1) | exact HB.out)) hb); clear HB; have HB := n0_; clear n0_; (try clear hb); (try clear hb2); (try clear hk); (try clear hi)) | ((with_reducible refine gate_callee (f := 21) rfl ?_); refine goesL_ (some 24) rfl rfl Try.func21 (by kernel_rfl) rfl #[.int .u64 (Go.bits .and .u64 a0 2199023255551)] rfl (by (try simp only [List.map_toArray, List.map_cons, List.map_nil]); first | done | rfl | (simp only [List.length_drop, List.length_take]; rfl)) ?_; (with_reducible refine (clock_Epoch.calls (Go.bits .and .u64 a0 2199023255551) t127 true _ A5.out).mono ?_); rintro e w' ⟨rfl, ⟨nd, rfl⟩⟩; refine ⟨_, rfl, ?_⟩) | ((with_reducible refine gate_callee (f := 21) rfl ?_); refine goesL_ (some 33) rfl rfl Try.func21 (by kernel_rfl) rfl #[.int .u64 (IntKind.u64.wrap ((Go.bits .and .u64 a0 2199023255551) + (IntKind.u64.wrap (1000 * (IntKind.u64.wrap (Go.bits .and .u32 a1 1048575))))))] rfl (by (try simp only [List.map_toArray, List.map_cons, List.map_nil]); first | done | rfl | (simp only [List.length_drop, List.length_take]; rfl)) ?_; (with_reducible refine (clock_Epoch.calls (IntKind.u64.wrap ((Go.bits .and .u64 a0 2199023255551) + (IntKind.u64.wrap (1000 * (IntKind.u64.wrap (Go.bits .and .u32 a1 1048575)))))) t129 true _ A6.out).mono ?_); rintro e w' ⟨rfl, ⟨nd, rfl⟩⟩; refine ⟨_, rfl, ?_⟩) | ((with_reducible refine gate_callee (f := 21) rfl ?_); refine goesL_ (some 38) rfl rfl Try.func21 (by kernel_rfl) rfl #[.int .u64 (Go.bits .and .u64 a2 2199023255551)] rfl (by (try simp only [List.map_toArray, List.map_cons, List.map_nil]); first | done | rfl | (simp only [List.length_drop, List.length_take]; rfl)) ?_; (with_reducible refine (clock_Epoch.calls (Go.bits .and .u64 a2 2199023255551) t131 true _ A7.out).mono ?_); rintro e w' ⟨rfl, ⟨nd, rfl⟩⟩; refine ⟨_, rfl, ?_⟩))
                  go_ret
                  exact ⟨by first | rfl | (simp [errW_none, errW_some] <;> rfl) | (simp only [← hji40, ← hji41]; first | rfl | (simp [errW_none, errW_some] <;> rfl)) | (simp [*, errW_none, errW_some] <;> rfl), by repeat (first | (with_reducible first | exact HB.out | apply below_alloc | apply pw_below_drewN | apply below_drew1) | exact HB.out)⟩
              · rw [if_neg c43] at H
                have c43b0 : (t127 == t131) = false := beq_eq_false_iff_ne.mpr c43
                have c43b1 : (t127 != t131) = true := bne_iff_ne.mpr c43
                by_cases c55 : (IntKind.u64.wrap ((ji40) - (ji41))) ≥ 1000
                · rw [if_pos c55] at H
                  have c55b0 : decide (1000 ≤ (IntKind.u64.wrap ((ji40) - (ji41)))) = true := decide_eq_true c55
                  clear c55
                  replace H := Option.bind_eq_some_iff.mp H
                  obtain ⟨t139, A560, H⟩ := H
                  replace H : (some (t139 == (IntKind.u64.wrap ((Go.bits .and .u64 a0 2199023255551) - (Int.tmod (Go.bits .and .u64 a0 2199023255551) 1000))))) = some r := H
                  have A56 := Aside0.mk A560
                  clear A560
                  obtain rfl := Option.some.inj H
                  go_enter Try.func10, Try.ntmps10
                  go_wp2_with (first | ((with_reducible refine gate_callee (f := 12) rfl ?_); refine goesL_ (some 15) rfl rfl Try.func12 (by kernel_rfl) rfl #[] rfl (by (try simp only [List.map_toArray, List.map_cons, List.map_nil]); first | done | rfl | (simp only [List.length_drop, List.length_take]; rfl)) ?_; (with_reducible refine (hourglasslaw02_shown.calls  true _ A4.out).mono ?_); rintro e w57 ⟨rfl, hb⟩; refine ⟨_, rfl, ?_⟩; have n0_ := Aside0.mk (below_step (by repeat (first | (with_reducible first | exact HB.out | apply below_alloc | apply pw_below_drewN | apply below_drew1) | exact HB.out)) hb); clear HB; have HB := n0_; clear n0_; (try clear hb); (try clear hb2); (try clear hk); (try clear hi)) | ((with_reducible refine gate_callee (f := 21) rfl ?_); refine goesL_ (some 24) rfl rfl Try.func21 (by kernel_rfl) rfl #[.int .u64 (Go.bits .and .u64 a0 2199023255551)] rfl (by (try simp only [List.map_toArray, List.map_cons, List.map_nil]); first | done | rfl | (simp only [List.length_drop, List.length_take]; rfl)) ?_; (with_reducible refine (clock_Epoch.calls (Go.bits .and .u64 a0 2199023255551) t127 true _ A5.out).mono ?_); rintro e w' ⟨rfl, ⟨nd, rfl⟩⟩; refine ⟨_, rfl, ?_⟩) | ((with_reducible refine gate_callee (f := 21) rfl ?_); refine goesL_ (some 33) rfl rfl Try.func21 (by kernel_rfl) rfl #[.int .u64 (IntKind.u64.wrap ((Go.bits .and .u64 a0 2199023255551) + (IntKind.u64.wrap (1000 * (IntKind.u64.wrap (Go.bits .and .u32 a1 1048575))))))] rfl (by (try simp only [List.map_toArray, List.map_cons, List.map_nil]); first | done | rfl | (simp only [List.length_drop, List.length_take]; rfl)) ?_; (with_reducible refine (clock_Epoch.calls (IntKind.u64.wrap ((Go.bits .and .u64 a0 2199023255551) + (IntKind.u64.wrap (1000 * (IntKind.u64.wrap (Go.bits .and .u32 a1 1048575)))))) t129 true _ A6.out).mono ?_); rintro e w' ⟨rfl, ⟨nd, rfl⟩⟩; refine ⟨_, rfl, ?_⟩) | ((with_reducible refine gate_callee (f := 21) rfl ?_); refine goesL_ (some 38) rfl rfl Try.func21 (by kernel_rfl) rfl #[.int .u64 (Go.bits .and .u64 a2 2199023255551)] rfl (by (try simp only [List.map_toArray, List.map_cons, List.map_nil]); first | done | rfl | (simp only [List.length_drop, List.length_take]; rfl)) ?_; (with_reducible refine (clock_Epoch.calls (Go.bits .and .u64 a2 2199023255551) t131 true _ A7.out).mono ?_); rintro e w' ⟨rfl, ⟨nd, rfl⟩⟩; refine ⟨_, rfl, ?_⟩) | (go_at_call 23; (with_reducible refine (clock_Start.calls t127 t139 _ A56.out).mono ?_); rintro e w' ⟨rfl, ⟨nd, rfl⟩⟩))
                  go_ret
                  exact ⟨by first | rfl | (simp [errW_none, errW_some] <;> rfl) | (simp only [← hji40, ← hji41]; first | rfl | (simp [errW_none, errW_some] <;> rfl)) | (simp [*, errW_none, errW_some] <;> rfl), by repeat (first | (with_reducible first | exact HB.out | apply below_alloc | apply pw_below_drewN | apply below_drew1) | exact HB.out)⟩
                · rw [if_neg c55] at H
                  have c55b0 : decide (1000 ≤ (IntKind.u64.wrap ((ji40) - (ji41)))) = false := decide_eq_false c55
                  clear c55
                  obtain ⟨ji58, hji58⟩ : ∃ j_ : Int, (mx t127 t131) = j_ := ⟨_, rfl⟩
                  replace H : (if (((ji58) - (mn t127 t131)) % 4294967296) ≤ 1 then ((clock_Start.f t127).bind fun t140 => (some (t140 == (IntKind.u64.wrap ((Go.bits .and .u64 a0 2199023255551) - (Int.tmod (Go.bits .and .u64 a0 2199023255551) 1000)))))) else (some false)) = some r := by first | (rw [hji58] at H; exact H) | (simp only [hji58] at H ⊢; exact H)
                  (try rw [hji58] at A4)
                  (try rw [hji58] at A5)
                  (try rw [hji58] at A6)
                  (try rw [hji58] at A7)
                  have hji58_ : (if t127 < t131 then t131 else t127) = ji58 := hji58
                  obtain ⟨ji59, hji59⟩ : ∃ j_ : Int, (mn t127 t131) = j_ := ⟨_, rfl⟩
                  replace H : (if (((ji58) - (ji59)) % 4294967296) ≤ 1 then ((clock_Start.f t127).bind fun t140 => (some (t140 == (IntKind.u64.wrap ((Go.bits .and .u64 a0 2199023255551) - (Int.tmod (Go.bits .and .u64 a0 2199023255551) 1000)))))) else (some false)) = some r := by first | (rw [hji59] at H; exact H) | (simp only [hji59] at H ⊢; exact H)
                  (try rw [hji59] at A4)
                  (try rw [hji59] at A5)
                  (try rw [hji59] at A6)
                  (try rw [hji59] at A7)
                  have hji59_ : (if t131 < t127 then t131 else t127) = ji59 := hji59
                  by_cases c60 : (((ji58) - (ji59)) % 4294967296) ≤ 1
                  · rw [if_pos c60] at H
                    have c60b0 : decide ((((ji58) - (ji59)) % 4294967296) ≤ 1) = true := decide_eq_true c60
                    clear c60
                    replace H := Option.bind_eq_some_iff.mp H
                    obtain ⟨t140, A610, H⟩ := H
                    replace H : (some (t140 == (IntKind.u64.wrap ((Go.bits .and .u64 a0 2199023255551) - (Int.tmod (Go.bits .and .u64 a0 2199023255551) 1000))))) = some r := H
                    have A61 := Aside0.mk A610
                    clear A610
                    obtain rfl := Option.some.inj H
                    go_enter Try.func10, Try.ntmps10
                    go_wp2_with (first | ((with_reducible refine gate_callee (f := 12) rfl ?_); refine goesL_ (some 15) rfl rfl Try.func12 (by kernel_rfl) rfl #[] rfl (by (try simp only [List.map_toArray, List.map_cons, List.map_nil]); first | done | rfl | (simp only [List.length_drop, List.length_take]; rfl)) ?_; (with_reducible refine (hourglasslaw02_shown.calls  true _ A4.out).mono ?_); rintro e w62 ⟨rfl, hb⟩; refine ⟨_, rfl, ?_⟩; have n0_ := Aside0.mk (below_step (by repeat (first | (with_reducible first | exact HB.out | apply below_alloc | apply pw_below_drewN | apply below_drew1) | exact HB.out)) hb); clear HB; have HB := n0_; clear n0_; (try clear hb); (try clear hb2); (try clear hk); (try clear hi)) | ((with_reducible refine gate_callee (f := 21) rfl ?_); refine goesL_ (some 24) rfl rfl Try.func21 (by kernel_rfl) rfl #[.int .u64 (Go.bits .and .u64 a0 2199023255551)] rfl (by (try simp only [List.map_toArray, List.map_cons, List.map_nil]); first | done | rfl | (simp only [List.length_drop, List.length_take]; rfl)) ?_; (with_reducible refine (clock_Epoch.calls (Go.bits .and .u64 a0 2199023255551) t127 true _ A5.out).mono ?_); rintro e w' ⟨rfl, ⟨nd, rfl⟩⟩; refine ⟨_, rfl, ?_⟩) | ((with_reducible refine gate_callee (f := 21) rfl ?_); refine goesL_ (some 33) rfl rfl Try.func21 (by kernel_rfl) rfl #[.int .u64 (IntKind.u64.wrap ((Go.bits .and .u64 a0 2199023255551) + (IntKind.u64.wrap (1000 * (IntKind.u64.wrap (Go.bits .and .u32 a1 1048575))))))] rfl (by (try simp only [List.map_toArray, List.map_cons, List.map_nil]); first | done | rfl | (simp only [List.length_drop, List.length_take]; rfl)) ?_; (with_reducible refine (clock_Epoch.calls (IntKind.u64.wrap ((Go.bits .and .u64 a0 2199023255551) + (IntKind.u64.wrap (1000 * (IntKind.u64.wrap (Go.bits .and .u32 a1 1048575)))))) t129 true _ A6.out).mono ?_); rintro e w' ⟨rfl, ⟨nd, rfl⟩⟩; refine ⟨_, rfl, ?_⟩) | ((with_reducible refine gate_callee (f := 21) rfl ?_); refine goesL_ (some 38) rfl rfl Try.func21 (by kernel_rfl) rfl #[.int .u64 (Go.bits .and .u64 a2 2199023255551)] rfl (by (try simp only [List.map_toArray, List.map_cons, List.map_nil]); first | done | rfl | (simp only [List.length_drop, List.length_take]; rfl)) ?_; (with_reducible refine (clock_Epoch.calls (Go.bits .and .u64 a2 2199023255551) t131 true _ A7.out).mono ?_); rintro e w' ⟨rfl, ⟨nd, rfl⟩⟩; refine ⟨_, rfl, ?_⟩) | (go_at_call 23; (with_reducible refine (clock_Start.calls t127 t140 _ A61.out).mono ?_); rintro e w' ⟨rfl, ⟨nd, rfl⟩⟩))
                    go_ret
                    exact ⟨by first | rfl | (simp [errW_none, errW_some] <;> rfl) | (simp only [← hji40, ← hji41, ← hji58, ← hji59]; first | rfl | (simp [errW_none, errW_some] <;> rfl)) | (simp [*, errW_none, errW_some] <;> rfl), by repeat (first | (with_reducible first | exact HB.out | apply below_alloc | apply pw_below_drewN | apply below_drew1) | exact HB.out)⟩
                  · rw [if_neg c60] at H
                    have c60b0 : decide ((((ji58) - (ji59)) % 4294967296) ≤ 1) = false := decide_eq_false c60
                    clear c60
                    obtain rfl := Option.some.inj H
                    go_enter Try.func10, Try.ntmps10
                    go_wp2_with (first | ((with_reducible refine gate_callee (f := 12) rfl ?_); refine goesL_ (some 15) rfl rfl Try.func12 (by kernel_rfl) rfl #[] rfl (by (try simp only [List.map_toArray, List.map_cons, List.map_nil]); first | done | rfl | (simp only [List.length_drop, List.length_take]; rfl)) ?_; (with_reducible refine (hourglasslaw02_shown.calls  true _ A4.out).mono ?_); rintro e w63 ⟨rfl, hb⟩; refine ⟨_, rfl, ?_⟩; have n0_ := Aside0.mk (below_step (by repeat (first | (with_reducible first | exact HB.out | apply below_alloc | apply pw_below_drewN | apply below_drew1) | exact HB.out)) hb); clear HB; have HB := n0_; clear n0_; (try clear hb); (try clear hb2); (try clear hk); (try clear hi)) | ((with_reducible refine gate_callee (f := 21) rfl ?_); refine goesL_ (some 24) rfl rfl Try.func21 (by kernel_rfl) rfl #[.int .u64 (Go.bits .and .u64 a0 2199023255551)] rfl (by (try simp only [List.map_toArray, List.map_cons, List.map_nil]); first | done | rfl | (simp only [List.length_drop, List.length_take]; rfl)) ?_; (with_reducible refine (clock_Epoch.calls (Go.bits .and .u64 a0 2199023255551) t127 true _ A5.out).mono ?_); rintro e w' ⟨rfl, ⟨nd, rfl⟩⟩; refine ⟨_, rfl, ?_⟩) | ((with_reducible refine gate_callee (f := 21) rfl ?_); refine goesL_ (some 33) rfl rfl Try.func21 (by kernel_rfl) rfl #[.int .u64 (IntKind.u64.wrap ((Go.bits .and .u64 a0 2199023255551) + (IntKind.u64.wrap (1000 * (IntKind.u64.wrap (Go.bits .and .u32 a1 1048575))))))] rfl (by (try simp only [List.map_toArray, List.map_cons, List.map_nil]); first | done | rfl | (simp only [List.length_drop, List.length_take]; rfl)) ?_; (with_reducible refine (clock_Epoch.calls (IntKind.u64.wrap ((Go.bits .and .u64 a0 2199023255551) + (IntKind.u64.wrap (1000 * (IntKind.u64.wrap (Go.bits .and .u32 a1 1048575)))))) t129 true _ A6.out).mono ?_); rintro e w' ⟨rfl, ⟨nd, rfl⟩⟩; refine ⟨_, rfl, ?_⟩) | ((with_reducible refine gate_callee (f := 21) rfl ?_); refine goesL_ (some 38) rfl rfl Try.func21 (by kernel_rfl) rfl #[.int .u64 (Go.bits .and .u64 a2 2199023255551)] rfl (by (try simp only [List.map_toArray, List.map_cons, List.map_nil]); first | done | rfl | (simp only [List.length_drop, List.length_take]; rfl)) ?_; (with_reducible refine (clock_Epoch.calls (Go.bits .and .u64 a2 2199023255551) t131 true _ A7.out).mono ?_); rintro e w' ⟨rfl, ⟨nd, rfl⟩⟩; refine ⟨_, rfl, ?_⟩))
                    go_ret
                    exact ⟨by first | rfl | (simp [errW_none, errW_some] <;> rfl) | (simp only [← hji40, ← hji41, ← hji58, ← hji59]; first | rfl | (simp [errW_none, errW_some] <;> rfl)) | (simp [*, errW_none, errW_some] <;> rfl), by repeat (first | (with_reducible first | exact HB.out | apply below_alloc | apply pw_below_drewN | apply below_drew1) | exact HB.out)⟩
            · replace c42 := Bool.eq_false_iff.mpr c42
              subst c42
              have H1 : (some false) = some r := by rw [if_neg (show ¬ (false = true) by decide)] at H; exact H
              clear H
              have H := H1
              clear H1
              obtain rfl := Option.some.inj H
              go_enter Try.func10, Try.ntmps10
              go_wp2_with (first | ((with_reducible refine gate_callee (f := 12) rfl ?_); refine goesL_ (some 15) rfl rfl Try.func12 (by kernel_rfl) rfl #[] rfl (by (try simp only [List.map_toArray, List.map_cons, List.map_nil]); first | done | rfl | (simp only [List.length_drop, List.length_take]; rfl)) ?_; (with_reducible refine (hourglasslaw02_shown.calls  false _ A4.out).mono ?_); rintro e w64 ⟨rfl, hb⟩; refine ⟨_, rfl, ?_⟩; have n0_ := Aside0.mk (below_step (by repeat (first | (with_reducible first | exact HB.out | apply below_alloc | apply pw_below_drewN | apply below_drew1) | exact HB.out)) hb); clear HB; have HB := n0_; clear n0_; (try clear hb); (try clear hb2); (try clear hk); (try clear hi)) | ((with_reducible refine gate_callee (f := 21) rfl ?_); refine goesL_ (some 24) rfl rfl Try.func21 (by kernel_rfl) rfl #[.int .u64 (Go.bits .and .u64 a0 2199023255551)] rfl (by (try simp only [List.map_toArray, List.map_cons, List.map_nil]); first | done | rfl | (simp only [List.length_drop, List.length_take]; rfl)) ?_; (with_reducible refine (clock_Epoch.calls (Go.bits .and .u64 a0 2199023255551) t127 true _ A5.out).mono ?_); rintro e w' ⟨rfl, ⟨nd, rfl⟩⟩; refine ⟨_, rfl, ?_⟩) | ((with_reducible refine gate_callee (f := 21) rfl ?_); refine goesL_ (some 33) rfl rfl Try.func21 (by kernel_rfl) rfl #[.int .u64 (IntKind.u64.wrap ((Go.bits .and .u64 a0 2199023255551) + (IntKind.u64.wrap (1000 * (IntKind.u64.wrap (Go.bits .and .u32 a1 1048575))))))] rfl (by (try simp only [List.map_toArray, List.map_cons, List.map_nil]); first | done | rfl | (simp only [List.length_drop, List.length_take]; rfl)) ?_; (with_reducible refine (clock_Epoch.calls (IntKind.u64.wrap ((Go.bits .and .u64 a0 2199023255551) + (IntKind.u64.wrap (1000 * (IntKind.u64.wrap (Go.bits .and .u32 a1 1048575)))))) t129 true _ A6.out).mono ?_); rintro e w' ⟨rfl, ⟨nd, rfl⟩⟩; refine ⟨_, rfl, ?_⟩) | ((with_reducible refine gate_callee (f := 21) rfl ?_); refine goesL_ (some 38) rfl rfl Try.func21 (by kernel_rfl) rfl #[.int .u64 (Go.bits .and .u64 a2 2199023255551)] rfl (by (try simp only [List.map_toArray, List.map_cons, List.map_nil]); first | done | rfl | (simp only [List.length_drop, List.length_take]; rfl)) ?_; (with_reducible refine (clock_Epoch.calls (Go.bits .and .u64 a2 2199023255551) t131 true _ A7.out).mono ?_); rintro e w' ⟨rfl, ⟨nd, rfl⟩⟩; refine ⟨_, rfl, ?_⟩))
              go_ret
              exact ⟨by first | rfl | (simp [errW_none, errW_some] <;> rfl) | (simp only [← hji40, ← hji41]; first | rfl | (simp [errW_none, errW_some] <;> rfl)) | (simp [*, errW_none, errW_some] <;> rfl), by repeat (first | (with_reducible first | exact HB.out | apply below_alloc | apply pw_below_drewN | apply below_drew1) | exact HB.out)⟩
        · rw [if_neg c11] at H
          have c11b0 : (t129 == ((t127 + (Go.bits .and .u32 a1 1048575)) % 4294967296)) = false := beq_eq_false_iff_ne.mpr c11
          have c11b1 : (t129 != ((t127 + (Go.bits .and .u32 a1 1048575)) % 4294967296)) = true := bne_iff_ne.mpr c11
          obtain rfl := Option.some.inj H
          go_enter Try.func10, Try.ntmps10
          go_wp2_with (first | ((with_reducible refine gate_callee (f := 12) rfl ?_); refine goesL_ (some 15) rfl rfl Try.func12 (by kernel_rfl) rfl #[] rfl (by (try simp only [List.map_toArray, List.map_cons, List.map_nil]); first | done | rfl | (simp only [List.length_drop, List.length_take]; rfl)) ?_; (with_reducible refine (hourglasslaw02_shown.calls  t126 _ A4.out).mono ?_); rintro e w65 ⟨rfl, hb⟩; refine ⟨_, rfl, ?_⟩; have n0_ := Aside0.mk (below_step (by repeat (first | (with_reducible first | exact HB.out | apply below_alloc | apply pw_below_drewN | apply below_drew1) | exact HB.out)) hb); clear HB; have HB := n0_; clear n0_; (try clear hb); (try clear hb2); (try clear hk); (try clear hi)) | ((with_reducible refine gate_callee (f := 21) rfl ?_); refine goesL_ (some 24) rfl rfl Try.func21 (by kernel_rfl) rfl #[.int .u64 (Go.bits .and .u64 a0 2199023255551)] rfl (by (try simp only [List.map_toArray, List.map_cons, List.map_nil]); first | done | rfl | (simp only [List.length_drop, List.length_take]; rfl)) ?_; (with_reducible refine (clock_Epoch.calls (Go.bits .and .u64 a0 2199023255551) t127 true _ A5.out).mono ?_); rintro e w' ⟨rfl, ⟨nd, rfl⟩⟩; refine ⟨_, rfl, ?_⟩) | ((with_reducible refine gate_callee (f := 21) rfl ?_); refine goesL_ (some 33) rfl rfl Try.func21 (by kernel_rfl) rfl #[.int .u64 (IntKind.u64.wrap ((Go.bits .and .u64 a0 2199023255551) + (IntKind.u64.wrap (1000 * (IntKind.u64.wrap (Go.bits .and .u32 a1 1048575))))))] rfl (by (try simp only [List.map_toArray, List.map_cons, List.map_nil]); first | done | rfl | (simp only [List.length_drop, List.length_take]; rfl)) ?_; (with_reducible refine (clock_Epoch.calls (IntKind.u64.wrap ((Go.bits .and .u64 a0 2199023255551) + (IntKind.u64.wrap (1000 * (IntKind.u64.wrap (Go.bits .and .u32 a1 1048575)))))) t129 true _ A6.out).mono ?_); rintro e w' ⟨rfl, ⟨nd, rfl⟩⟩; refine ⟨_, rfl, ?_⟩) | ((with_reducible refine gate_callee (f := 21) rfl ?_); refine goesL_ (some 38) rfl rfl Try.func21 (by kernel_rfl) rfl #[.int .u64 (Go.bits .and .u64 a2 2199023255551)] rfl (by (try simp only [List.map_toArray, List.map_cons, List.map_nil]); first | done | rfl | (simp only [List.length_drop, List.length_take]; rfl)) ?_; (with_reducible refine (clock_Epoch.calls (Go.bits .and .u64 a2 2199023255551) t131 true _ A7.out).mono ?_); rintro e w' ⟨rfl, ⟨nd, rfl⟩⟩; refine ⟨_, rfl, ?_⟩))
          go_ret
          exact ⟨by first | rfl | (simp [errW_none, errW_some] <;> rfl) | (simp [*, errW_none, errW_some] <;> rfl), by repeat (first | (with_reducible first | exact HB.out | apply below_alloc | apply pw_below_drewN | apply below_drew1) | exact HB.out)⟩
      · replace c10 := Bool.eq_false_iff.mpr c10
        subst c10
        have H1 : (some false) = some r := by rw [if_neg (show ¬ (false = true) by decide)] at H; exact H
        clear H
        have H := H1
        clear H1
        obtain rfl := Option.some.inj H
        go_enter Try.func10, Try.ntmps10
        go_wp2_with (first | ((with_reducible refine gate_callee (f := 12) rfl ?_); refine goesL_ (some 15) rfl rfl Try.func12 (by kernel_rfl) rfl #[] rfl (by (try simp only [List.map_toArray, List.map_cons, List.map_nil]); first | done | rfl | (simp only [List.length_drop, List.length_take]; rfl)) ?_; (with_reducible refine (hourglasslaw02_shown.calls  t126 _ A4.out).mono ?_); rintro e w66 ⟨rfl, hb⟩; refine ⟨_, rfl, ?_⟩; have n0_ := Aside0.mk (below_step (by repeat (first | (with_reducible first | exact HB.out | apply below_alloc | apply pw_below_drewN | apply below_drew1) | exact HB.out)) hb); clear HB; have HB := n0_; clear n0_; (try clear hb); (try clear hb2); (try clear hk); (try clear hi)) | ((with_reducible refine gate_callee (f := 21) rfl ?_); refine goesL_ (some 24) rfl rfl Try.func21 (by kernel_rfl) rfl #[.int .u64 (Go.bits .and .u64 a0 2199023255551)] rfl (by (try simp only [List.map_toArray, List.map_cons, List.map_nil]); first | done | rfl | (simp only [List.length_drop, List.length_take]; rfl)) ?_; (with_reducible refine (clock_Epoch.calls (Go.bits .and .u64 a0 2199023255551) t127 true _ A5.out).mono ?_); rintro e w' ⟨rfl, ⟨nd, rfl⟩⟩; refine ⟨_, rfl, ?_⟩) | ((with_reducible refine gate_callee (f := 21) rfl ?_); refine goesL_ (some 33) rfl rfl Try.func21 (by kernel_rfl) rfl #[.int .u64 (IntKind.u64.wrap ((Go.bits .and .u64 a0 2199023255551) + (IntKind.u64.wrap (1000 * (IntKind.u64.wrap (Go.bits .and .u32 a1 1048575))))))] rfl (by (try simp only [List.map_toArray, List.map_cons, List.map_nil]); first | done | rfl | (simp only [List.length_drop, List.length_take]; rfl)) ?_; (with_reducible refine (clock_Epoch.calls (IntKind.u64.wrap ((Go.bits .and .u64 a0 2199023255551) + (IntKind.u64.wrap (1000 * (IntKind.u64.wrap (Go.bits .and .u32 a1 1048575)))))) t129 true _ A6.out).mono ?_); rintro e w' ⟨rfl, ⟨nd, rfl⟩⟩; refine ⟨_, rfl, ?_⟩) | ((with_reducible refine gate_callee (f := 21) rfl ?_); refine goesL_ (some 38) rfl rfl Try.func21 (by kernel_rfl) rfl #[.int .u64 (Go.bits .and .u64 a2 2199023255551)] rfl (by (try simp only [List.map_toArray, List.map_cons, List.map_nil]); first | done | rfl | (simp only [List.length_drop, List.length_take]; rfl)) ?_; (with_reducible refine (clock_Epoch.calls (Go.bits .and .u64 a2 2199023255551) t131 false _ A7.out).mono ?_); rintro e w' ⟨rfl, ⟨nd, rfl⟩⟩; refine ⟨_, rfl, ?_⟩))
        go_ret
        exact ⟨by first | rfl | (simp [errW_none, errW_some] <;> rfl) | (simp [*, errW_none, errW_some] <;> rfl), by repeat (first | (with_reducible first | exact HB.out | apply below_alloc | apply pw_below_drewN | apply below_drew1) | exact HB.out)⟩
    · replace c9 := Bool.eq_false_iff.mpr c9
      subst c9
      have H1 : (some false) = some r := by rw [if_neg (show ¬ (false = true) by decide)] at H; exact H
      clear H
      have H := H1
      clear H1
      obtain rfl := Option.some.inj H
      go_enter Try.func10, Try.ntmps10
      go_wp2_with (first | ((with_reducible refine gate_callee (f := 12) rfl ?_); refine goesL_ (some 15) rfl rfl Try.func12 (by kernel_rfl) rfl #[] rfl (by (try simp only [List.map_toArray, List.map_cons, List.map_nil]); first | done | rfl | (simp only [List.length_drop, List.length_take]; rfl)) ?_; (with_reducible refine (hourglasslaw02_shown.calls  t126 _ A4.out).mono ?_); rintro e w67 ⟨rfl, hb⟩; refine ⟨_, rfl, ?_⟩; have n0_ := Aside0.mk (below_step (by repeat (first | (with_reducible first | exact HB.out | apply below_alloc | apply pw_below_drewN | apply below_drew1) | exact HB.out)) hb); clear HB; have HB := n0_; clear n0_; (try clear hb); (try clear hb2); (try clear hk); (try clear hi)) | ((with_reducible refine gate_callee (f := 21) rfl ?_); refine goesL_ (some 24) rfl rfl Try.func21 (by kernel_rfl) rfl #[.int .u64 (Go.bits .and .u64 a0 2199023255551)] rfl (by (try simp only [List.map_toArray, List.map_cons, List.map_nil]); first | done | rfl | (simp only [List.length_drop, List.length_take]; rfl)) ?_; (with_reducible refine (clock_Epoch.calls (Go.bits .and .u64 a0 2199023255551) t127 true _ A5.out).mono ?_); rintro e w' ⟨rfl, ⟨nd, rfl⟩⟩; refine ⟨_, rfl, ?_⟩) | ((with_reducible refine gate_callee (f := 21) rfl ?_); refine goesL_ (some 33) rfl rfl Try.func21 (by kernel_rfl) rfl #[.int .u64 (IntKind.u64.wrap ((Go.bits .and .u64 a0 2199023255551) + (IntKind.u64.wrap (1000 * (IntKind.u64.wrap (Go.bits .and .u32 a1 1048575))))))] rfl (by (try simp only [List.map_toArray, List.map_cons, List.map_nil]); first | done | rfl | (simp only [List.length_drop, List.length_take]; rfl)) ?_; (with_reducible refine (clock_Epoch.calls (IntKind.u64.wrap ((Go.bits .and .u64 a0 2199023255551) + (IntKind.u64.wrap (1000 * (IntKind.u64.wrap (Go.bits .and .u32 a1 1048575)))))) t129 false _ A6.out).mono ?_); rintro e w' ⟨rfl, ⟨nd, rfl⟩⟩; refine ⟨_, rfl, ?_⟩) | ((with_reducible refine gate_callee (f := 21) rfl ?_); refine goesL_ (some 38) rfl rfl Try.func21 (by kernel_rfl) rfl #[.int .u64 (Go.bits .and .u64 a2 2199023255551)] rfl (by (try simp only [List.map_toArray, List.map_cons, List.map_nil]); first | done | rfl | (simp only [List.length_drop, List.length_take]; rfl)) ?_; (with_reducible refine (clock_Epoch.calls (Go.bits .and .u64 a2 2199023255551) t131 t132 _ A7.out).mono ?_); rintro e w' ⟨rfl, ⟨nd, rfl⟩⟩; refine ⟨_, rfl, ?_⟩))
      go_ret
      exact ⟨by first | rfl | (simp [errW_none, errW_some] <;> rfl) | (simp [*, errW_none, errW_some] <;> rfl), by repeat (first | (with_reducible first | exact HB.out | apply below_alloc | apply pw_below_drewN | apply below_drew1) | exact HB.out)⟩
  · replace c8 := Bool.eq_false_iff.mpr c8
    subst c8
    have H1 : (some false) = some r := by rw [if_neg (show ¬ (false = true) by decide)] at H; exact H
    clear H
    have H := H1
    clear H1
    obtain rfl := Option.some.inj H
    go_enter Try.func10, Try.ntmps10
    go_wp2_with (first | ((with_reducible refine gate_callee (f := 12) rfl ?_); refine goesL_ (some 15) rfl rfl Try.func12 (by kernel_rfl) rfl #[] rfl (by (try simp only [List.map_toArray, List.map_cons, List.map_nil]); first | done | rfl | (simp only [List.length_drop, List.length_take]; rfl)) ?_; (with_reducible refine (hourglasslaw02_shown.calls  t126 _ A4.out).mono ?_); rintro e w68 ⟨rfl, hb⟩; refine ⟨_, rfl, ?_⟩; have n0_ := Aside0.mk (below_step (by repeat (first | (with_reducible first | exact HB.out | apply below_alloc | apply pw_below_drewN | apply below_drew1) | exact HB.out)) hb); clear HB; have HB := n0_; clear n0_; (try clear hb); (try clear hb2); (try clear hk); (try clear hi)) | ((with_reducible refine gate_callee (f := 21) rfl ?_); refine goesL_ (some 24) rfl rfl Try.func21 (by kernel_rfl) rfl #[.int .u64 (Go.bits .and .u64 a0 2199023255551)] rfl (by (try simp only [List.map_toArray, List.map_cons, List.map_nil]); first | done | rfl | (simp only [List.length_drop, List.length_take]; rfl)) ?_; (with_reducible refine (clock_Epoch.calls (Go.bits .and .u64 a0 2199023255551) t127 false _ A5.out).mono ?_); rintro e w' ⟨rfl, ⟨nd, rfl⟩⟩; refine ⟨_, rfl, ?_⟩) | ((with_reducible refine gate_callee (f := 21) rfl ?_); refine goesL_ (some 33) rfl rfl Try.func21 (by kernel_rfl) rfl #[.int .u64 (IntKind.u64.wrap ((Go.bits .and .u64 a0 2199023255551) + (IntKind.u64.wrap (1000 * (IntKind.u64.wrap (Go.bits .and .u32 a1 1048575))))))] rfl (by (try simp only [List.map_toArray, List.map_cons, List.map_nil]); first | done | rfl | (simp only [List.length_drop, List.length_take]; rfl)) ?_; (with_reducible refine (clock_Epoch.calls (IntKind.u64.wrap ((Go.bits .and .u64 a0 2199023255551) + (IntKind.u64.wrap (1000 * (IntKind.u64.wrap (Go.bits .and .u32 a1 1048575)))))) t129 t130 _ A6.out).mono ?_); rintro e w' ⟨rfl, ⟨nd, rfl⟩⟩; refine ⟨_, rfl, ?_⟩) | ((with_reducible refine gate_callee (f := 21) rfl ?_); refine goesL_ (some 38) rfl rfl Try.func21 (by kernel_rfl) rfl #[.int .u64 (Go.bits .and .u64 a2 2199023255551)] rfl (by (try simp only [List.map_toArray, List.map_cons, List.map_nil]); first | done | rfl | (simp only [List.length_drop, List.length_take]; rfl)) ?_; (with_reducible refine (clock_Epoch.calls (Go.bits .and .u64 a2 2199023255551) t131 t132 _ A7.out).mono ?_); rintro e w' ⟨rfl, ⟨nd, rfl⟩⟩; refine ⟨_, rfl, ?_⟩))
    go_ret
    exact ⟨by first | rfl | (simp [errW_none, errW_some] <;> rfl) | (simp [*, errW_none, errW_some] <;> rfl), by repeat (first | (with_reducible first | exact HB.out | apply below_alloc | apply pw_below_drewN | apply below_drew1) | exact HB.out)⟩

/-- THE ONE PURE STATEMENT of hourglasslaw02_ClockTurns: yours. -/
def hourglasslaw02_ClockTurns.Pure : Prop := ∀ (a0 : Int) (a1 : Int) (a2 : Int), (Lit.int .u64 a0).wf = true → (Lit.int .u32 a1).wf = true → (Lit.int .u64 a2).wf = true → hourglasslaw02_ClockTurns.f a0 a1 a2 = some true
theorem hourglasslaw02_ClockTurns.walk (P : hourglasslaw02_ClockTurns.Pure) (a0 : Int) (a1 : Int) (a2 : Int) (w : World) (w0 : (Lit.int .u64 a0).wf = true) (w1 : (Lit.int .u32 a1).wf = true) (w2 : (Lit.int .u64 a2).wf = true) :
    Calls Try.prog 10 #[.int .u64 a0, .int .u32 a1, .int .u64 a2] w fun e w' => e = .returned (.bool true) ∧ Below w.heap.size w w' := by
  have h := P a0 a1 a2 w0 w1 w2
  refine (hourglasslaw02_ClockTurns.calls a0 a1 a2 true w h).mono ?_
  rintro e w' ⟨rfl, hd⟩
  exact ⟨rfl, hd⟩

end Go.Proofs.Ytlimcahfkfipgaa.PClockTurns
