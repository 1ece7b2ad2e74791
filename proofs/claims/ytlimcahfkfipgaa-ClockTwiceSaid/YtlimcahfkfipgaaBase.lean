/- The clock's functions in closed form, and their contracts: no condition but that each number is of its kind. -/
import Derived.Test.YtlimcahfkfipgaaPClockConvertsx1
namespace Go.Proofs.Ytlimcahfkfipgaa.Base
open Go.RowKit Go.Proofs.Ytlimcahfkfipgaa.PClockConverts Go.Proofs.YtlimcahfkfipgaaW.PrintWords Go.Proofs.YtlimcahfkfipgaaW.PrintLast

theorem wu (n : Int) : IntKind.u64.wrap n = n % 18446744073709551616 := by simp [IntKind.wrap, IntKind.bits, IntKind.signed]

theorem bu {a : Int} (h : (Lit.int .u64 a).wf = true) : 0 ≤ a ∧ a ≤ 18446744073709551615 := by
  simpa [Lit.wf, IntKind.min, IntKind.max, IntKind.signed, IntKind.bits] using h

theorem bu32 {a : Int} (h : (Lit.int .u32 a).wf = true) : 0 ≤ a ∧ a ≤ 4294967295 := by
  simpa [Lit.wf, IntKind.min, IntKind.max, IntKind.signed, IntKind.bits] using h

theorem bi {a : Int} (h : (Lit.int .i64 a).wf = true) : -9223372036854775808 ≤ a ∧ a ≤ 9223372036854775807 := by
  simpa [Lit.wf, IntKind.min, IntKind.max, IntKind.signed, IntKind.bits] using h

def addD (a b : Int) : Int × Bool := if a + b ≤ 18446744073709551615 then (a + b, true) else (0, false)
def subD (a b : Int) : Int × Bool := if b ≤ a then (a - b, true) else (0, false)
def moreD (a b : Int) : Int := if a + b ≤ 18446744073709551615 then a + b else 18446744073709551615
def lessD (a b : Int) : Int := if b ≤ a then a - b else 0
def shiftD (a b : Int) : Int × Bool := if 0 ≤ a + b ∧ a + b ≤ 18446744073709551615 then (a + b, true) else (0, false)
def epochD (a : Int) : Int × Bool := if a / 1000 ≤ 4294967295 then (a / 1000, true) else (0, false)

theorem add_is {a b : Int} (ha : 0 ≤ a ∧ a ≤ 18446744073709551615) (hb : 0 ≤ b ∧ b ≤ 18446744073709551615) :
    clock_Add.f a b = some (addD a b) := by
  unfold clock_Add.f clock_told.f addD
  rw [wu]
  by_cases h : a + b ≤ 18446744073709551615
  · have e : (a + b) % 18446744073709551616 = a + b := by omega
    rw [e, if_pos h, if_pos (by simp; omega)]; rfl
  · have e : ¬ (a + b) % 18446744073709551616 ≥ a := by omega
    rw [if_neg h, if_neg (by simp; omega)]; rfl

theorem sub_is {a b : Int} (ha : 0 ≤ a ∧ a ≤ 18446744073709551615) (hb : 0 ≤ b ∧ b ≤ 18446744073709551615) :
    clock_Sub.f a b = some (subD a b) := by
  unfold clock_Sub.f clock_told.f subD
  rw [wu]
  by_cases h : b ≤ a
  · have e : (a - b) % 18446744073709551616 = a - b := by omega
    rw [e, if_pos h, if_pos (by simp; omega)]; rfl
  · rw [if_neg h, if_neg (by simp; omega)]; rfl

theorem more_is {a b : Int} (ha : 0 ≤ a ∧ a ≤ 18446744073709551615) (hb : 0 ≤ b ∧ b ≤ 18446744073709551615) :
    clock_More.f a b = some (moreD a b) := by
  unfold clock_More.f moreD
  rw [add_is ha hb]; unfold addD
  by_cases h : a + b ≤ 18446744073709551615
  · rw [if_pos h, if_pos h]; rfl
  · rw [if_neg h, if_neg h]; rfl

theorem less_is {a b : Int} (ha : 0 ≤ a ∧ a ≤ 18446744073709551615) (hb : 0 ≤ b ∧ b ≤ 18446744073709551615) :
    clock_Less.f a b = some (lessD a b) := by
  unfold clock_Less.f lessD mn
  rw [wu]
  by_cases h : b < a
  · rw [if_pos h, if_pos (by omega)]; congr 1; omega
  · rw [if_neg h]
    by_cases e : b ≤ a
    · rw [if_pos e]; congr 1; omega
    · rw [if_neg e]; congr 1; omega

theorem shift_is {a b : Int} (ha : 0 ≤ a ∧ a ≤ 18446744073709551615) (hb : -9223372036854775808 ≤ b ∧ b ≤ 9223372036854775807) :
    clock_Shift.f a b = some (shiftD a b) := by
  unfold clock_Shift.f shiftD
  by_cases h : b < 0
  · have e : IntKind.u64.wrap (-(IntKind.u64.wrap b)) = -b := by rw [wu, wu]; omega
    rw [if_pos h, e, sub_is ha (by omega)]; unfold subD
    by_cases g : -b ≤ a
    · rw [if_pos g, if_pos (by omega), Int.sub_neg]; rfl
    · rw [if_neg g, if_neg (by omega)]; rfl
  · have e : IntKind.u64.wrap b = b := by rw [wu]; omega
    rw [if_neg h, e, add_is ha (by omega)]; unfold addD
    by_cases g : a + b ≤ 18446744073709551615
    · rw [if_pos g, if_pos (by omega)]; rfl
    · rw [if_neg g, if_neg (by omega)]; rfl

theorem epoch_is {a : Int} (ha : 0 ≤ a ∧ a ≤ 18446744073709551615) : clock_Epoch.f a = some (epochD a) := by
  unfold clock_Epoch.f clock_To32.f clock_fits_uint32_uint64.f epochD
  have e : IntKind.u64.wrap (Int.tdiv a 1000) = a / 1000 := by rw [wu, Int.tdiv_eq_ediv_of_nonneg ha.1]; omega
  rw [e]
  have e2 : (decide (a / 1000 % 4294967296 < 0) != decide (a / 1000 < 0)) = false := by
    have h1 : ¬ a / 1000 % 4294967296 < 0 := by omega
    have h2 : ¬ a / 1000 < 0 := by omega
    simp [h1, h2]
  by_cases h : a / 1000 ≤ 4294967295
  · have e1 : a / 1000 % 4294967296 = a / 1000 := by omega
    rw [if_pos e1, if_neg (by rw [e2]; decide), if_pos h, e1]; rfl
  · rw [if_neg (by omega), if_neg h]; rfl

theorem start_is {a : Int} (ha : 0 ≤ a ∧ a ≤ 4294967295) : clock_Start.f a = some (a * 1000) := by
  unfold clock_Start.f; rw [wu, wu]; congr 1; omega

theorem shown_is : hourglasslaw02_shown.f = some true := by
  unfold hourglasslaw02_shown.f
  rw [add_is (by decide) (by decide), shift_is (by decide) (by decide), shift_is (by decide) (by decide), epoch_is (by decide), start_is (by decide), less_is (by decide) (by decide), more_is (by decide) (by decide)]
  rfl


def AnyP (p : Int × Bool) (w : World) (e : Ending) (w' : World) : Prop := e = .returned (.tuple #[.int .u64 p.1, .bool p.2]) ∧ Drawn0 w w'

theorem add_any (a b : Int) (w : World) (ha : 0 ≤ a ∧ a ≤ 18446744073709551615) (hb : 0 ≤ b ∧ b ≤ 18446744073709551615) :
    Calls Try.prog 13 #[.int .u64 a, .int .u64 b] w fun e w' => e = .returned (.tuple #[.int .u64 (addD a b).1, .bool (addD a b).2]) ∧ Drawn0 w w' :=
  clock_Add.calls a b _ _ w (add_is ha hb)

theorem sub_any (a b : Int) (w : World) (ha : 0 ≤ a ∧ a ≤ 18446744073709551615) (hb : 0 ≤ b ∧ b ≤ 18446744073709551615) :
    Calls Try.prog 15 #[.int .u64 a, .int .u64 b] w fun e w' => e = .returned (.tuple #[.int .u64 (subD a b).1, .bool (subD a b).2]) ∧ Drawn0 w w' :=
  clock_Sub.calls a b _ _ w (sub_is ha hb)

theorem more_any (a b : Int) (w : World) (ha : 0 ≤ a ∧ a ≤ 18446744073709551615) (hb : 0 ≤ b ∧ b ≤ 18446744073709551615) :
    Calls Try.prog 17 #[.int .u64 a, .int .u64 b] w fun e w' => e = .returned (.int .u64 (moreD a b)) ∧ Drawn0 w w' :=
  clock_More.calls a b _ w (more_is ha hb)

theorem less_any (a b : Int) (w : World) (ha : 0 ≤ a ∧ a ≤ 18446744073709551615) (hb : 0 ≤ b ∧ b ≤ 18446744073709551615) :
    Calls Try.prog 18 #[.int .u64 a, .int .u64 b] w fun e w' => e = .returned (.int .u64 (lessD a b)) ∧ Below w.heap.size w w' :=
  clock_Less.calls a b _ w (less_is ha hb)

theorem shift_any (a b : Int) (w : World) (ha : 0 ≤ a ∧ a ≤ 18446744073709551615) (hb : -9223372036854775808 ≤ b ∧ b ≤ 9223372036854775807) :
    Calls Try.prog 19 #[.int .u64 a, .int .i64 b] w fun e w' => e = .returned (.tuple #[.int .u64 (shiftD a b).1, .bool (shiftD a b).2]) ∧ Drawn0 w w' :=
  clock_Shift.calls a b _ _ w (shift_is ha hb)

theorem shift_yes (a b : Int) (w : World) (ha : 0 ≤ a ∧ a ≤ 18446744073709551615) (hb : -9223372036854775808 ≤ b ∧ b ≤ 9223372036854775807) (h : 0 ≤ a + b ∧ a + b ≤ 18446744073709551615) :
    Calls Try.prog 19 #[.int .u64 a, .int .i64 b] w fun e w' => e = .returned (.tuple #[.int .u64 (a + b), .bool true]) ∧ Drawn0 w w' :=
  clock_Shift.calls a b _ _ w (by rw [shift_is ha hb]; unfold shiftD; rw [if_pos h])

theorem shift_no (a b : Int) (w : World) (ha : 0 ≤ a ∧ a ≤ 18446744073709551615) (hb : -9223372036854775808 ≤ b ∧ b ≤ 9223372036854775807) (h : ¬ (0 ≤ a + b ∧ a + b ≤ 18446744073709551615)) :
    Calls Try.prog 19 #[.int .u64 a, .int .i64 b] w fun e w' => e = .returned (.tuple #[.int .u64 0, .bool false]) ∧ Drawn0 w w' :=
  clock_Shift.calls a b _ _ w (by rw [shift_is ha hb]; unfold shiftD; rw [if_neg h])

theorem epoch_any (a : Int) (w : World) (ha : 0 ≤ a ∧ a ≤ 18446744073709551615) :
    Calls Try.prog 21 #[.int .u64 a] w fun e w' => e = .returned (.tuple #[.int .u32 (epochD a).1, .bool (epochD a).2]) ∧ Drawn0 w w' :=
  clock_Epoch.calls a _ _ w (epoch_is ha)

theorem start_any (a : Int) (w : World) (ha : 0 ≤ a ∧ a ≤ 4294967295) :
    Calls Try.prog 23 #[.int .u32 a] w fun e w' => e = .returned (.int .u64 (a * 1000)) ∧ Drawn0 w w' :=
  clock_Start.calls a _ w (start_is ha)

theorem shown_any (w : World) :
    Calls Try.prog 12 #[] w fun e w' => e = .returned (.bool true) ∧ Below w.heap.size w w' :=
  hourglasslaw02_shown.calls true w shown_is

theorem to32_yes (n : Int) (w : World) (h : 0 ≤ n ∧ n ≤ 4294967295) :
    Calls Try.prog 24 #[.int .u64 n] w fun e w' => e = .returned (.tuple #[.int .u32 n, .bool true]) ∧ Drawn0 w w' :=
  clock_To32.calls n n true w (by
    unfold clock_To32.f clock_fits_uint32_uint64.f
    have e1 : n % 4294967296 = n := by omega
    have e2 : (decide (n < 0) != decide (n < 0)) = false := by simp
    rw [e1, if_pos rfl, e2]; rfl)

theorem to32_no (n : Int) (w : World) (h : 4294967296 ≤ n) :
    Calls Try.prog 24 #[.int .u64 n] w fun e w' => e = .returned (.tuple #[.int .u32 0, .bool false]) ∧ Drawn0 w w' :=
  clock_To32.calls n 0 false w (by
    unfold clock_To32.f clock_fits_uint32_uint64.f
    rw [if_neg (by omega)]; rfl)

theorem toi_yes (n : Int) (w : World) (h : 0 ≤ n ∧ n ≤ 9223372036854775807) :
    Calls Try.prog 25 #[.int .u64 n] w fun e w' => e = .returned (.tuple #[.int .i64 n, .bool true]) ∧ Drawn0 w w' :=
  clock_ToInt64.calls n n true w (by
    unfold clock_ToInt64.f clock_fits_int64_uint64.f
    have e1 : wrap64 n = n := by unfold wrap64; omega
    have e2 : (decide (n < 0) != decide (n < 0)) = false := by simp
    have e3 : IntKind.u64.wrap n = n := by rw [wu]; omega
    rw [e1, e3, if_pos rfl, e2]; rfl)

theorem toi_no (n : Int) (w : World) (h : 9223372036854775808 ≤ n ∧ n ≤ 18446744073709551615) :
    Calls Try.prog 25 #[.int .u64 n] w fun e w' => e = .returned (.tuple #[.int .i64 0, .bool false]) ∧ Drawn0 w w' :=
  clock_ToInt64.calls n 0 false w (by
    unfold clock_ToInt64.f clock_fits_int64_uint64.f
    have e1 : wrap64 n < 0 := by unfold wrap64; omega
    have e0 : ¬ n < 0 := by omega
    have e2 : (decide (wrap64 n < 0) != decide (n < 0)) = true := by simp [e1, e0]
    rw [e2]; simp)

theorem fromi_yes (n : Int) (w : World) (h : 0 ≤ n ∧ n ≤ 9223372036854775807) :
    Calls Try.prog 26 #[.int .i64 n] w fun e w' => e = .returned (.tuple #[.int .u64 n, .bool true]) ∧ Drawn0 w w' :=
  clock_FromInt64.calls n n true w (by
    unfold clock_FromInt64.f clock_fits_uint64_int64.f
    have e1 : wrap64 n = n := by unfold wrap64; omega
    have e2 : (decide (n < 0) != decide (n < 0)) = false := by simp
    have e3 : IntKind.u64.wrap n = n := by rw [wu]; omega
    rw [e3, e1, if_pos rfl, e2]; rfl)

theorem fromi_no (n : Int) (w : World) (h : -9223372036854775808 ≤ n ∧ n < 0) :
    Calls Try.prog 26 #[.int .i64 n] w fun e w' => e = .returned (.tuple #[.int .u64 0, .bool false]) ∧ Drawn0 w w' :=
  clock_FromInt64.calls n 0 false w (by
    unfold clock_FromInt64.f clock_fits_uint64_int64.f
    have e3 : ¬ IntKind.u64.wrap n < 0 := by rw [wu]; omega
    have e2 : (decide (IntKind.u64.wrap n < 0) != decide (n < 0)) = true := by simp [e3, h.2]
    rw [e2]; simp)

theorem add_yes (a b r : Int) (w : World) (ha : 0 ≤ a ∧ a ≤ 18446744073709551615) (hb : 0 ≤ b ∧ b ≤ 18446744073709551615) (h : a + b ≤ 18446744073709551615) (e : a + b = r) :
    Calls Try.prog 13 #[.int .u64 a, .int .u64 b] w fun e w' => e = .returned (.tuple #[.int .u64 r, .bool true]) ∧ Drawn0 w w' :=
  clock_Add.calls a b _ _ w (by rw [add_is ha hb]; unfold addD; rw [if_pos h, e])

theorem add_no (a b : Int) (w : World) (ha : 0 ≤ a ∧ a ≤ 18446744073709551615) (hb : 0 ≤ b ∧ b ≤ 18446744073709551615) (h : 18446744073709551615 < a + b) :
    Calls Try.prog 13 #[.int .u64 a, .int .u64 b] w fun e w' => e = .returned (.tuple #[.int .u64 0, .bool false]) ∧ Drawn0 w w' :=
  clock_Add.calls a b _ _ w (by rw [add_is ha hb]; unfold addD; rw [if_neg (by omega)])

theorem sub_yes (a b r : Int) (w : World) (ha : 0 ≤ a ∧ a ≤ 18446744073709551615) (hb : 0 ≤ b ∧ b ≤ 18446744073709551615) (h : b ≤ a) (e : a - b = r) :
    Calls Try.prog 15 #[.int .u64 a, .int .u64 b] w fun e w' => e = .returned (.tuple #[.int .u64 r, .bool true]) ∧ Drawn0 w w' :=
  clock_Sub.calls a b _ _ w (by rw [sub_is ha hb]; unfold subD; rw [if_pos h, e])

theorem more_eq (a b r : Int) (w : World) (ha : 0 ≤ a ∧ a ≤ 18446744073709551615) (hb : 0 ≤ b ∧ b ≤ 18446744073709551615) (e : moreD a b = r) :
    Calls Try.prog 17 #[.int .u64 a, .int .u64 b] w fun e w' => e = .returned (.int .u64 r) ∧ Drawn0 w w' :=
  clock_More.calls a b _ w (by rw [more_is ha hb, e])

theorem less_eq (a b r : Int) (w : World) (ha : 0 ≤ a ∧ a ≤ 18446744073709551615) (hb : 0 ≤ b ∧ b ≤ 18446744073709551615) (e : lessD a b = r) :
    Calls Try.prog 18 #[.int .u64 a, .int .u64 b] w fun e w' => e = .returned (.int .u64 r) ∧ Below w.heap.size w w' :=
  clock_Less.calls a b _ w (by rw [less_is ha hb, e])

theorem shift_eq (a b r : Int) (w : World) (ha : 0 ≤ a ∧ a ≤ 18446744073709551615) (hb : -9223372036854775808 ≤ b ∧ b ≤ 9223372036854775807) (h : 0 ≤ a + b ∧ a + b ≤ 18446744073709551615) (e : a + b = r) :
    Calls Try.prog 19 #[.int .u64 a, .int .i64 b] w fun e w' => e = .returned (.tuple #[.int .u64 r, .bool true]) ∧ Drawn0 w w' :=
  clock_Shift.calls a b _ _ w (by rw [shift_is ha hb]; unfold shiftD; rw [if_pos h, e])

theorem epoch_yes (a r : Int) (w : World) (ha : 0 ≤ a ∧ a ≤ 4294967295999) (e : a / 1000 = r) :
    Calls Try.prog 21 #[.int .u64 a] w fun e w' => e = .returned (.tuple #[.int .u32 r, .bool true]) ∧ Drawn0 w w' :=
  clock_Epoch.calls a _ _ w (by rw [epoch_is (by omega)]; unfold epochD; rw [if_pos (by omega), e])

theorem epoch_no (a : Int) (w : World) (ha : 4294967296000 ≤ a ∧ a ≤ 18446744073709551615) :
    Calls Try.prog 21 #[.int .u64 a] w fun e w' => e = .returned (.tuple #[.int .u32 0, .bool false]) ∧ Drawn0 w w' :=
  clock_Epoch.calls a _ _ w (by rw [epoch_is (by omega)]; unfold epochD; rw [if_neg (by omega)])

theorem more_bd {a b : Int} (ha : 0 ≤ a ∧ a ≤ 18446744073709551615) (hb : 0 ≤ b ∧ b ≤ 18446744073709551615) : 0 ≤ moreD a b ∧ moreD a b ≤ 18446744073709551615 := by
  unfold moreD; split <;> omega
theorem less_bd {a b : Int} (ha : 0 ≤ a ∧ a ≤ 18446744073709551615) (hb : 0 ≤ b ∧ b ≤ 18446744073709551615) : 0 ≤ lessD a b ∧ lessD a b ≤ 18446744073709551615 := by
  unfold lessD; split <;> omega
theorem more_assoc {a b c : Int} (ha : 0 ≤ a ∧ a ≤ 18446744073709551615) (hb : 0 ≤ b ∧ b ≤ 18446744073709551615) (hc : 0 ≤ c ∧ c ≤ 18446744073709551615) :
    moreD a (moreD b c) = moreD (moreD a b) c := by
  unfold moreD
  by_cases h1 : a + b ≤ 18446744073709551615 <;> by_cases h2 : b + c ≤ 18446744073709551615
  · rw [if_pos h1, if_pos h2, Int.add_assoc]
  · rw [if_pos h1, if_neg h2]; split <;> split <;> omega
  · rw [if_neg h1, if_pos h2, if_neg (by omega)]; split <;> omega
  · rw [if_neg h1, if_neg h2]; split <;> split <;> omega
theorem less_more {a b c : Int} (ha : 0 ≤ a ∧ a ≤ 18446744073709551615) (hb : 0 ≤ b ∧ b ≤ 18446744073709551615) (hc : 0 ≤ c ∧ c ≤ 18446744073709551615) :
    lessD a (moreD b c) = lessD (lessD a b) c := by
  unfold lessD moreD
  by_cases h1 : b ≤ a <;> by_cases h2 : b + c ≤ 18446744073709551615
  · rw [if_pos h1, if_pos h2]; split <;> split <;> omega
  · rw [if_pos h1, if_neg h2]; split <;> split <;> omega
  · rw [if_neg h1, if_pos h2]; split <;> split <;> omega
  · rw [if_neg h1, if_neg h2]; split <;> split <;> omega
theorem more_zero {a : Int} (ha : 0 ≤ a ∧ a ≤ 18446744073709551615) : moreD a 0 = a := by unfold moreD; split <;> omega
theorem less_zero {a : Int} (ha : 0 ≤ a ∧ a ≤ 18446744073709551615) : lessD a 0 = a := by unfold lessD; split <;> omega
theorem less_self {a : Int} : lessD a a = 0 := by unfold lessD; split <;> omega

end Go.Proofs.Ytlimcahfkfipgaa.Base
