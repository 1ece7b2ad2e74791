/- For any time below 2^41 and any number of epochs below 2^20 the epochs follow each other a thousand times each. No condition. -/
import Derived.Test.YtlimcahfkfipgaaPClockTurnsx1
namespace Go.Proofs.Ytlimcahfkfipgaa.Pure
open Go.RowKit Go.Proofs.Ytlimcahfkfipgaa.PClockTurns Go.Proofs.YtlimcahfkfipgaaW.PrintWords Go.Proofs.YtlimcahfkfipgaaW.PrintLast

theorem wu (n : Int) : IntKind.u64.wrap n = n % 18446744073709551616 := by simp [IntKind.wrap, IntKind.bits, IntKind.signed]

theorem bu {a : Int} (h : (Lit.int .u64 a).wf = true) : 0 ≤ a ∧ a ≤ 18446744073709551615 := by
  simpa [Lit.wf, IntKind.min, IntKind.max, IntKind.signed, IntKind.bits] using h

theorem bu32 {a : Int} (h : (Lit.int .u32 a).wf = true) : 0 ≤ a ∧ a ≤ 4294967295 := by
  simpa [Lit.wf, IntKind.min, IntKind.max, IntKind.signed, IntKind.bits] using h

theorem bi {a : Int} (h : (Lit.int .i64 a).wf = true) : -9223372036854775808 ≤ a ∧ a ≤ 9223372036854775807 := by
  simpa [Lit.wf, IntKind.min, IntKind.max, IntKind.signed, IntKind.bits] using h

def addD (a b : Int) : Int × Bool := if a + b ≤ 18446744073709551615 then (a + b, true) else (0, false)
def subD (a b : Int) : Int × Bool := if b ≤ a then (a - b, true) else (0, false)
def moreD (a b : Int) : Int := if a + b ≤ 18446744073709551615 then a + b else 18446744073709551615
def lessD (a b : Int) : Int := if b ≤ a then a - b else 0
def shiftD (a b : Int) : Int × Bool := if 0 ≤ a + b ∧ a + b ≤ 18446744073709551615 then (a + b, true) else (0, false)
def epochD (a : Int) : Int × Bool := if a / 1000 ≤ 4294967295 then (a / 1000, true) else (0, false)

theorem add_is {a b : Int} (ha : 0 ≤ a ∧ a ≤ 18446744073709551615) (hb : 0 ≤ b ∧ b ≤ 18446744073709551615) :
    clock_Add.f a b = some (addD a b) := by
  unfold clock_Add.f clock_told.f addD
  rw [wu]
  by_cases h : a + b ≤ 18446744073709551615
  · have e : (a + b) % 18446744073709551616 = a + b := by omega
    rw [e, if_pos h, if_pos (by simp; omega)]; rfl
  · have e : ¬ (a + b) % 18446744073709551616 ≥ a := by omega
    rw [if_neg h, if_neg (by simp; omega)]; rfl

theorem sub_is {a b : Int} (ha : 0 ≤ a ∧ a ≤ 18446744073709551615) (hb : 0 ≤ b ∧ b ≤ 18446744073709551615) :
    clock_Sub.f a b = some (subD a b) := by
  unfold clock_Sub.f clock_told.f subD
  rw [wu]
  by_cases h : b ≤ a
  · have e : (a - b) % 18446744073709551616 = a - b := by omega
    rw [e, if_pos h, if_pos (by simp; omega)]; rfl
  · rw [if_neg h, if_neg (by simp; omega)]; rfl

theorem more_is {a b : Int} (ha : 0 ≤ a ∧ a ≤ 18446744073709551615) (hb : 0 ≤ b ∧ b ≤ 18446744073709551615) :
    clock_More.f a b = some (moreD a b) := by
  unfold clock_More.f moreD
  rw [add_is ha hb]; unfold addD
  by_cases h : a + b ≤ 18446744073709551615
  · rw [if_pos h, if_pos h]; rfl
  · rw [if_neg h, if_neg h]; rfl

theorem less_is {a b : Int} (ha : 0 ≤ a ∧ a ≤ 18446744073709551615) (hb : 0 ≤ b ∧ b ≤ 18446744073709551615) :
    clock_Less.f a b = some (lessD a b) := by
  unfold clock_Less.f lessD mn
  rw [wu]
  by_cases h : b < a
  · rw [if_pos h, if_pos (by omega)]; congr 1; omega
  · rw [if_neg h]
    by_cases e : b ≤ a
    · rw [if_pos e]; congr 1; omega
    · rw [if_neg e]; congr 1; omega

theorem shift_is {a b : Int} (ha : 0 ≤ a ∧ a ≤ 18446744073709551615) (hb : -9223372036854775808 ≤ b ∧ b ≤ 9223372036854775807) :
    clock_Shift.f a b = some (shiftD a b) := by
  unfold clock_Shift.f shiftD
  by_cases h : b < 0
  · have e : IntKind.u64.wrap (-(IntKind.u64.wrap b)) = -b := by rw [wu, wu]; omega
    rw [if_pos h, e, sub_is ha (by omega)]; unfold subD
    by_cases g : -b ≤ a
    · rw [if_pos g, if_pos (by omega), Int.sub_neg]; rfl
    · rw [if_neg g, if_neg (by omega)]; rfl
  · have e : IntKind.u64.wrap b = b := by rw [wu]; omega
    rw [if_neg h, e, add_is ha (by omega)]; unfold addD
    by_cases g : a + b ≤ 18446744073709551615
    · rw [if_pos g, if_pos (by omega)]; rfl
    · rw [if_neg g, if_neg (by omega)]; rfl

theorem epoch_is {a : Int} (ha : 0 ≤ a ∧ a ≤ 18446744073709551615) : clock_Epoch.f a = some (epochD a) := by
  unfold clock_Epoch.f clock_To32.f clock_fits_uint32_uint64.f epochD
  have e : IntKind.u64.wrap (Int.tdiv a 1000) = a / 1000 := by rw [wu, Int.tdiv_eq_ediv_of_nonneg ha.1]; omega
  rw [e]
  have e2 : (decide (a / 1000 % 4294967296 < 0) != decide (a / 1000 < 0)) = false := by
    have h1 : ¬ a / 1000 % 4294967296 < 0 := by omega
    have h2 : ¬ a / 1000 < 0 := by omega
    simp [h1, h2]
  by_cases h : a / 1000 ≤ 4294967295
  · have e1 : a / 1000 % 4294967296 = a / 1000 := by omega
    rw [if_pos e1, if_neg (by rw [e2]; decide), if_pos h, e1]; rfl
  · rw [if_neg (by omega), if_neg h]; rfl

theorem start_is {a : Int} (ha : 0 ≤ a ∧ a ≤ 4294967295) : clock_Start.f a = some (a * 1000) := by
  unfold clock_Start.f; rw [wu, wu]; congr 1; omega

theorem shown_is : hourglasslaw02_shown.f = some true := by
  unfold hourglasslaw02_shown.f
  rw [add_is (by decide) (by decide), shift_is (by decide) (by decide), shift_is (by decide) (by decide), epoch_is (by decide), start_is (by decide), less_is (by decide) (by decide), more_is (by decide) (by decide)]
  rfl

theorem m64 {x : Int} (h : 0 ≤ x ∧ x ≤ 18446744073709551615) : 0 ≤ Go.bits .and .u64 x 2199023255551 ∧ Go.bits .and .u64 x 2199023255551 ≤ 2199023255551 := by
  have e := bits_mask .u64 64 (by decide) (fun n h0 h1 => by rw [wu]; omega) 41 (by decide) x h.1 (by omega)
  have e2 : ((2 : Int) ^ 41 - 1) = 2199023255551 := by decide
  rw [e2] at e
  rw [e]; omega

theorem wu32 (n : Int) : IntKind.u32.wrap n = n % 4294967296 := by simp [IntKind.wrap, IntKind.bits, IntKind.signed]

theorem m32 {x : Int} (h : 0 ≤ x ∧ x ≤ 4294967295) : 0 ≤ Go.bits .and .u32 x 1048575 ∧ Go.bits .and .u32 x 1048575 ≤ 1048575 := by
  have e := bits_mask .u32 32 (by decide) (fun n h0 h1 => by rw [wu32]; omega) 20 (by decide) x h.1 (by omega)
  have e2 : ((2 : Int) ^ 20 - 1) = 1048575 := by decide
  rw [e2] at e
  rw [e]; omega

theorem ClockTurns : hourglasslaw02_ClockTurns.Pure := by
  intro a n c ha hn hc
  have ha := m64 (bu ha)
  have hn := m32 (bu32 hn)
  have hc := m64 (bu hc)
  unfold hourglasslaw02_ClockTurns.f
  generalize Go.bits .and .u64 a 2199023255551 = x at *
  generalize Go.bits .and .u64 c 2199023255551 = y at *
  generalize Go.bits .and .u32 n 1048575 = z at *
  have e1 : IntKind.u64.wrap (x + IntKind.u64.wrap (1000 * IntKind.u64.wrap z)) = x + 1000 * z := by rw [wu, wu, wu]; omega
  rw [shown_is, e1, epoch_is (by omega), epoch_is (by omega), epoch_is (by omega)]
  unfold epochD
  rw [if_pos (by omega), if_pos (by omega), if_pos (by omega)]
  have e2 : (x / 1000 + z) % 4294967296 = (x + 1000 * z) / 1000 := by omega
  have e3 : IntKind.u64.wrap (mx x y - mn x y) = if x ≤ y then y - x else x - y := by
    rw [wu]; unfold mx mn; split <;> split <;> split <;> omega
  have e4 : (mx (x / 1000) (y / 1000) - mn (x / 1000) (y / 1000)) % 4294967296 = if x / 1000 ≤ y / 1000 then y / 1000 - x / 1000 else x / 1000 - y / 1000 := by
    unfold mx mn; split <;> split <;> split <;> omega
  have e5 : IntKind.u64.wrap (x - Int.tmod x 1000) = x / 1000 * 1000 := by
    rw [wu, Int.tmod_eq_emod_of_nonneg ha.1]; omega
  simp only [Option.bind_some, if_true]
  rw [e2, e3, e4, e5, start_is (by omega)]
  simp only [Option.bind_some, if_true]
  have f1 : x / 1000 = y / 1000 → (if x ≤ y then y - x else x - y) < 1000 := by intro g; split <;> omega
  have f2 : (if x ≤ y then y - x else x - y) < 1000 → (if x / 1000 ≤ y / 1000 then y / 1000 - x / 1000 else x / 1000 - y / 1000) ≤ 1 := by split <;> split <;> omega
  have f3 : x ≤ y → ¬ x / 1000 > y / 1000 := by omega
  by_cases h : x ≤ y <;> by_cases g : x / 1000 = y / 1000 <;> by_cases l : (if x ≤ y then y - x else x - y) < 1000
  all_goals generalize (if x / 1000 ≤ y / 1000 then y / 1000 - x / 1000 else x / 1000 - y / 1000) = p at *
  all_goals generalize hq : (if x ≤ y then y - x else x - y) = q at *
  · rw [if_pos h, if_neg (f3 h), if_pos g, if_pos l, if_neg (by omega), if_pos (f2 l)]; simp
  · exact absurd (f1 g) l
  · rw [if_pos h, if_neg (f3 h), if_neg g, if_neg (by omega), if_pos (f2 l)]; simp
  · rw [if_pos h, if_neg (f3 h), if_neg g, if_pos (by omega)]; simp
  · rw [if_neg h, if_pos g, if_pos l, if_neg (by omega), if_pos (f2 l)]; simp
  · exact absurd (f1 g) l
  · rw [if_neg h, if_neg g, if_neg (by omega), if_pos (f2 l)]; simp
  · rw [if_neg h, if_neg g, if_pos (by omega)]; simp

end Go.Proofs.Ytlimcahfkfipgaa.Pure
