/- Bounds of the windows' sums where the numbers are small: plain facts. -/
import Derived.Test.YtehghblhjclpdaaC1
namespace Go.Proofs.Ytehghblhjclpdaa.WB
open Go.RowKit Go.Proofs.YtehghblhjclpdaaW.PrintWords Go.Proofs.YtehghblhjclpdaaW.PrintLast Go.Proofs.YtehghblhjclpdaaW.PrintMore PWindowTells
attribute [local go_sem] max2_int min2_int max_two min_two max_three min_three max_four min_four   -- for this text's walks alone
set_option linter.unusedVariables false
set_option linter.unusedSimpArgs false

theorem m40 {x : Int} (h : 0 ≤ x ∧ x ≤ 18446744073709551615) : 0 ≤ Go.bits .and .u64 x 1099511627775 ∧ Go.bits .and .u64 x 1099511627775 ≤ 1099511627775 := by
  have e := bits_mask .u64 64 (by decide) (fun n h0 h1 => by rw [wu]; omega) 40 (by decide) x h.1 (by omega)
  have e2 : ((2 : Int) ^ 40 - 1) = 1099511627775 := by decide
  rw [e2] at e
  rw [e]; omega

theorem cut_is (l : List Int) (hl : ∀ x ∈ l, (Lit.int .u32 x).wf = true) : ∃ ds : List Int, l.take (mn (l.length : Int) 5).toNat = ds ∧ ds.length ≤ 5 ∧ (∀ x ∈ ds, 0 ≤ x ∧ x ≤ 4294967295) ∧ 0 ≤ mn (l.length : Int) 5 ∧ mn (l.length : Int) 5 ≤ l.length := by
  have h : 0 ≤ mn (l.length : Int) 5 ∧ mn (l.length : Int) 5 ≤ l.length ∧ mn (l.length : Int) 5 ≤ 5 := by unfold mn; split <;> omega
  refine ⟨_, rfl, ?_, fun x hx => bu32 (hl x (List.mem_of_mem_take hx)), h.1, h.2.1⟩
  rw [List.length_take]; omega

theorem mul_bd {i : Nat} {link B : Int} (h : i ≤ 5) (h0 : 0 ≤ link) (h1 : link ≤ B) : 0 ≤ (i : Int) * link ∧ (i : Int) * link ≤ 5 * B := by
  rcases (by omega : i = 0 ∨ i = 1 ∨ i = 2 ∨ i = 3 ∨ i = 4 ∨ i = 5) with rfl | rfl | rfl | rfl | rfl | rfl <;> omega

theorem hi_small {s link skew : Int} {ds : List Int} (hs : s ≤ 3000000000000) (hl : 0 ≤ link ∧ link ≤ 1099511627775) (hk : skew ≤ 1099511627775)
    (hd : ∀ x ∈ ds, 0 ≤ x ∧ x ≤ 4294967295) (h5 : ds.length ≤ 5) {i : Nat} (hi : i ≤ ds.length) : hiT s link skew ds i ≤ 100000000000000 := by
  unfold hiT
  have a := sumT_bd hd i hi
  have b := mul_bd (show i ≤ 5 by omega) hl.1 hl.2
  omega

end Go.Proofs.Ytehghblhjclpdaa.WB
