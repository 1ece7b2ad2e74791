/- For any time and any signed shift the clock's shift is the document's, and shifting back gives the time again. No condition. -/
import Derived.Test.YtlimcahfkfipgaaPClockShiftsx1
namespace Go.Proofs.Ytlimcahfkfipgaa.Pure
open Go.RowKit Go.Proofs.Ytlimcahfkfipgaa.PClockShifts Go.Proofs.YtlimcahfkfipgaaW.PrintWords Go.Proofs.YtlimcahfkfipgaaW.PrintLast

theorem wu (n : Int) : IntKind.u64.wrap n = n % 18446744073709551616 := by simp [IntKind.wrap, IntKind.bits, IntKind.signed]

theorem bu {a : Int} (h : (Lit.int .u64 a).wf = true) : 0 ≤ a ∧ a ≤ 18446744073709551615 := by
  simpa [Lit.wf, IntKind.min, IntKind.max, IntKind.signed, IntKind.bits] using h

theorem bu32 {a : Int} (h : (Lit.int .u32 a).wf = true) : 0 ≤ a ∧ a ≤ 4294967295 := by
  simpa [Lit.wf, IntKind.min, IntKind.max, IntKind.signed, IntKind.bits] using h

theorem bi {a : Int} (h : (Lit.int .i64 a).wf = true) : -9223372036854775808 ≤ a ∧ a ≤ 9223372036854775807 := by
  simpa [Lit.wf, IntKind.min, IntKind.max, IntKind.signed, IntKind.bits] using h

def addD (a b : Int) : Int × Bool := if a + b ≤ 18446744073709551615 then (a + b, true) else (0, false)
def subD (a b : Int) : Int × Bool := if b ≤ a then (a - b, true) else (0, false)
def moreD (a b : Int) : Int := if a + b ≤ 18446744073709551615 then a + b else 18446744073709551615
def lessD (a b : Int) : Int := if b ≤ a then a - b else 0
def shiftD (a b : Int) : Int × Bool := if 0 ≤ a + b ∧ a + b ≤ 18446744073709551615 then (a + b, true) else (0, false)
def epochD (a : Int) : Int × Bool := if a / 1000 ≤ 4294967295 then (a / 1000, true) else (0, false)

theorem add_is {a b : Int} (ha : 0 ≤ a ∧ a ≤ 18446744073709551615) (hb : 0 ≤ b ∧ b ≤ 18446744073709551615) :
    clock_Add.f a b = some (addD a b) := by
  unfold clock_Add.f clock_told.f addD
  rw [wu]
  by_cases h : a + b ≤ 18446744073709551615
  · have e : (a + b) % 18446744073709551616 = a + b := by omega
    rw [e, if_pos h, if_pos (by simp; omega)]; rfl
  · have e : ¬ (a + b) % 18446744073709551616 ≥ a := by omega
    rw [if_neg h, if_neg (by simp; omega)]; rfl

theorem sub_is {a b : Int} (ha : 0 ≤ a ∧ a ≤ 18446744073709551615) (hb : 0 ≤ b ∧ b ≤ 18446744073709551615) :
    clock_Sub.f a b = some (subD a b) := by
  unfold clock_Sub.f clock_told.f subD
  rw [wu]
  by_cases h : b ≤ a
  · have e : (a - b) % 18446744073709551616 = a - b := by omega
    rw [e, if_pos h, if_pos (by simp; omega)]; rfl
  · rw [if_neg h, if_neg (by simp; omega)]; rfl

theorem more_is {a b : Int} (ha : 0 ≤ a ∧ a ≤ 18446744073709551615) (hb : 0 ≤ b ∧ b ≤ 18446744073709551615) :
    clock_More.f a b = some (moreD a b) := by
  unfold clock_More.f moreD
  rw [add_is ha hb]; unfold addD
  by_cases h : a + b ≤ 18446744073709551615
  · rw [if_pos h, if_pos h]; rfl
  · rw [if_neg h, if_neg h]; rfl

theorem less_is {a b : Int} (ha : 0 ≤ a ∧ a ≤ 18446744073709551615) (hb : 0 ≤ b ∧ b ≤ 18446744073709551615) :
    clock_Less.f a b = some (lessD a b) := by
  unfold clock_Less.f lessD mn
  rw [wu]
  by_cases h : b < a
  · rw [if_pos h, if_pos (by omega)]; congr 1; omega
  · rw [if_neg h]
    by_cases e : b ≤ a
    · rw [if_pos e]; congr 1; omega
    · rw [if_neg e]; congr 1; omega

theorem shift_is {a b : Int} (ha : 0 ≤ a ∧ a ≤ 18446744073709551615) (hb : -9223372036854775808 ≤ b ∧ b ≤ 9223372036854775807) :
    clock_Shift.f a b = some (shiftD a b) := by
  unfold clock_Shift.f shiftD
  by_cases h : b < 0
  · have e : IntKind.u64.wrap (-(IntKind.u64.wrap b)) = -b := by rw [wu, wu]; omega
    rw [if_pos h, e, sub_is ha (by omega)]; unfold subD
    by_cases g : -b ≤ a
    · rw [if_pos g, if_pos (by omega), Int.sub_neg]; rfl
    · rw [if_neg g, if_neg (by omega)]; rfl
  · have e : IntKind.u64.wrap b = b := by rw [wu]; omega
    rw [if_neg h, e, add_is ha (by omega)]; unfold addD
    by_cases g : a + b ≤ 18446744073709551615
    · rw [if_pos g, if_pos (by omega)]; rfl
    · rw [if_neg g, if_neg (by omega)]; rfl

theorem epoch_is {a : Int} (ha : 0 ≤ a ∧ a ≤ 18446744073709551615) : clock_Epoch.f a = some (epochD a) := by
  unfold clock_Epoch.f clock_To32.f clock_fits_uint32_uint64.f epochD
  have e : IntKind.u64.wrap (Int.tdiv a 1000) = a / 1000 := by rw [wu, Int.tdiv_eq_ediv_of_nonneg ha.1]; omega
  rw [e]
  have e2 : (decide (a / 1000 % 4294967296 < 0) != decide (a / 1000 < 0)) = false := by
    have h1 : ¬ a / 1000 % 4294967296 < 0 := by omega
    have h2 : ¬ a / 1000 < 0 := by omega
    simp [h1, h2]
  by_cases h : a / 1000 ≤ 4294967295
  · have e1 : a / 1000 % 4294967296 = a / 1000 := by omega
    rw [if_pos e1, if_neg (by rw [e2]; decide), if_pos h, e1]; rfl
  · rw [if_neg (by omega), if_neg h]; rfl

theorem start_is {a : Int} (ha : 0 ≤ a ∧ a ≤ 4294967295) : clock_Start.f a = some (a * 1000) := by
  unfold clock_Start.f; rw [wu, wu]; congr 1; omega

theorem shown_is : hourglasslaw02_shown.f = some true := by
  unfold hourglasslaw02_shown.f
  rw [add_is (by decide) (by decide), shift_is (by decide) (by decide), shift_is (by decide) (by decide), epoch_is (by decide), start_is (by decide), less_is (by decide) (by decide), more_is (by decide) (by decide)]
  rfl

theorem rshift_is {a b : Int} (ha : 0 ≤ a ∧ a ≤ 18446744073709551615) (hb : -9223372036854775808 ≤ b ∧ b ≤ 9223372036854775807) :
    hourglassref02_Shift.f a b = some (shiftD a b) := by
  unfold hourglassref02_Shift.f hourglassref02_Add.f hourglassref02_Sub.f shiftD
  by_cases h : b ≥ 0
  · have e : IntKind.u64.wrap b = b := by rw [wu]; omega
    rw [if_pos h, e, wu, wu]
    by_cases g : a + b ≤ 18446744073709551615
    · rw [if_neg (by omega), if_pos (by omega)]; simp; omega
    · rw [if_pos (by omega), if_neg (by omega)]; rfl
  · have e : IntKind.u64.wrap ((IntKind.u64.wrap (wrap64 (-(wrap64 (b + 1))))) + 1) = -b := by
      rw [wu, wu]; unfold wrap64; omega
    rw [if_neg h, e, wu]
    by_cases g : -b ≤ a
    · rw [if_neg (by omega), if_pos (by omega)]; simp; omega
    · rw [if_pos (by omega), if_neg (by omega)]; rfl

theorem ClockShifts : hourglasslaw02_ClockShifts.Pure := by
  intro a b ha hb
  have ha := bu ha
  have hb := bi hb
  refine ⟨1, ?_⟩
  unfold hourglasslaw02_ClockShifts.f
  rw [shown_is, shift_is ha hb, rshift_is ha hb]
  simp only [Option.bind_some, if_true, bne_self_eq_false]
  unfold hourglasslaw02_ClockShifts.j0 shiftD
  by_cases h : 0 ≤ a + b ∧ a + b ≤ 18446744073709551615
  · rw [if_pos h]
    simp only [if_true, Bool.false_eq_true, if_false]
    by_cases e : b = -9223372036854775808
    · rw [if_pos e]
    · rw [if_neg e]
      have e1 : wrap64 (-b) = -b := by unfold wrap64; omega
      rw [e1, shift_is h (by omega)]
      unfold shiftD
      have e2 : a + b + -b = a := by omega
      rw [e2, if_pos ha]; simp
  · rw [if_neg h]; simp

end Go.Proofs.Ytlimcahfkfipgaa.Pure
