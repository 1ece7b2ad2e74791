/- The document's Xor is the plain one. -/
import Derived.Test.YtlpfmehcghhdcaaDoorM11
import Derived.Test.YtlpfmehcghhdcaaDoorX4
namespace Go.Proofs.YtlpfmehcghhdcaaDoor.XB
open Go.RowKit Go.Proofs.YtlpfmehcghhdcaaDoorW.PrintWords Go.Proofs.YtlpfmehcghhdcaaDoorW.PrintLast Go.Proofs.YtlpfmehcghhdcaaDoorW.PrintMore PChachaTells
set_option linter.unusedVariables false
set_option linter.unusedSimpArgs false

theorem bt_str (a : List Int) (i : Nat) (hi : i < a.length) (hb : ∀ x ∈ a, 0 ≤ x ∧ x ≤ 255) : bt (strOfNums a) (i : Int) = a.getD i 0 := by
  have hs := strOfNums_size a
  have hd : (strOfNums a).data.toList = a.map fun n => UInt8.ofNat n.toNat := strOfNums_data a
  have hx := hb _ (List.getElem_mem hi)
  unfold bt
  rw [dif_pos (by rw [Int.toNat_natCast, hs]; exact hi)]
  have : (strOfNums a)[((i : Int)).toNat]'(by rw [Int.toNat_natCast, hs]; exact hi) = UInt8.ofNat (a[i]).toNat := by
    show (strOfNums a).data[((i : Int)).toNat]'_ = _
    simp [strOfNums]
  rw [this, List.getD_eq_getElem?_getD, List.getElem?_eq_getElem hi]
  simp only [Option.getD_some, UInt8.toNat_ofNat']
  omega
theorem refxor_l0 (a b : List Int) (ha : ∀ x ∈ a, 0 ≤ x ∧ x ≤ 255) (hb : ∀ x ∈ b, 0 ≤ x ∧ x ≤ 255) (hl : a.length ≤ 1000000) : ∀ d i : Nat, i + d = min a.length b.length →
    hourglassref05_Xor.l0 (d + 1) (strOfNums a) (strOfNums b) (strOfNums ((xorL a b).take i)) (i : Int) = some (strOfNums (xorL a b)) := by
  intro d
  induction d with
  | zero =>
    intro i hi
    unfold hourglassref05_Xor.l0
    rw [List.take_of_length_le (by rw [xorL_len]; omega), strOfNums_size, strOfNums_size]
    by_cases h : (i : Int) < (a.length : Int)
    · rw [if_pos h, if_neg (by omega)]
    · rw [if_neg h]
  | succ d ih =>
    intro i hi
    unfold hourglassref05_Xor.l0
    rw [strOfNums_size, strOfNums_size, if_pos (by omega), if_pos (by omega), if_pos (by omega)]
    simp only [Option.bind_some]
    have h1 : (strOfNums ((xorL a b).take i)).size = i := by rw [strOfNums_size, List.length_take, xorL_len]; omega
    rw [h1, strOfNums_size, if_pos (by simp; omega)]
    rw [bt_str a i (by omega) ha, bt_str b i (by omega) hb]
    have hx : (xorL a b)[i]? = some (Go.bits .xor .u8 (a.getD i 0) (b.getD i 0)) := xorL_get a b i (by omega) (by omega)
    have e : wrap64 ((i : Int) + 1) = ((i + 1 : Nat) : Int) := by
      have e1 : wrap64 ((i : Int) + 1) = (i : Int) + 1 := IntWalk.wrap64_in _ (by omega)
      exact e1.trans (by omega)
    rw [e, ← strOfNums_append]
    have ht : (xorL a b).take i ++ [Go.bits .xor .u8 (a.getD i 0) (b.getD i 0)] = (xorL a b).take (i + 1) := by
      rw [List.take_add_one, hx]; rfl
    rw [ht]
    exact ih (i + 1) (by omega)
theorem refxor_any (a b : List Int) (w : World) (ha : ∀ x ∈ a, 0 ≤ x ∧ x ≤ 255) (hb : ∀ x ∈ b, 0 ≤ x ∧ x ≤ 255) (hl : a.length ≤ 1000000) :
    Calls Tryd.prog 14 #[.string (strOfNums a), .string (strOfNums b)] w fun e w' => e = .returned (.string (strOfNums (xorL a b))) ∧ Below w.heap.size w w' := by
  refine hourglassref05_Xor.calls (min a.length b.length + 1) _ _ _ w ?_
  unfold hourglassref05_Xor.f
  have := refxor_l0 a b ha hb hl (min a.length b.length) 0 (by omega)
  exact this
end Go.Proofs.YtlpfmehcghhdcaaDoor.XB
