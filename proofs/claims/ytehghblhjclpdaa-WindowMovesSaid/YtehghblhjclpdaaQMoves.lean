/- The plain law: For any start, lateness, link below 2^40, delays cut to five and a skew no larger than the start, a later start moves every window and the latest time by as much. No condition. -/
import Derived.Test.YtehghblhjclpdaaC2
import Derived.Test.YtehghblhjclpdaaLMoves
namespace Go.Proofs.Ytehghblhjclpdaa.WB
open Go.RowKit Go.Proofs.YtehghblhjclpdaaW.PrintWords Go.Proofs.YtehghblhjclpdaaW.PrintLast Go.Proofs.YtehghblhjclpdaaW.PrintMore PWindowTells
attribute [local go_sem] max2_int min2_int max_two min_two max_three min_three max_four min_four   -- for this text's walks alone
set_option linter.unusedVariables false
set_option linter.unusedSimpArgs false

theorem moves_l0 {s by_ link skew : Int} {ds : List Int} (hs : 0 ≤ s ∧ s ≤ 1099511627775) (hb : 0 ≤ by_ ∧ by_ ≤ 1099511627775) (hl : 0 ≤ link ∧ link ≤ 1099511627775) (hk : 0 ≤ skew ∧ skew ≤ s)
    (hd : ∀ x ∈ ds, 0 ≤ x ∧ x ≤ 4294967295) (h5 : ds.length ≤ 5) (m : Nat) :
    ∀ (i k : Nat), i + m = ds.length → m < k →
      hourglasslaw08_WindowMoves.l0 k by_ true (winL s link skew ds ds.length) (winL (s + by_) link skew ds ds.length) i = some true := by
  induction m with
  | zero =>
    intro i k hi hk2
    obtain ⟨k, rfl⟩ : ∃ n, k = n + 1 := ⟨k - 1, by omega⟩
    simp only [hourglasslaw08_WindowMoves.l0]
    rw [if_neg (by rw [winL_len]; omega)]
  | succ m ih =>
    intro i k hi hk2
    obtain ⟨k, rfl⟩ : ∃ n, k = n + 1 := ⟨k - 1, by omega⟩
    simp only [hourglasslaw08_WindowMoves.l0]
    have a := sumT_bd hd i (by omega)
    have c := hi_small (s := s) (skew := skew) (by omega) hl (by omega) hd h5 (show i ≤ ds.length by omega)
    have c0 := hiT_nonneg (s := s) (skew := skew) hs.1 hl.1 hk.1 hd (show i ≤ ds.length by omega)
    have hlo : (winI (s + by_) link skew ds i).f0 = IntKind.u64.wrap ((winI s link skew ds i).f0 + by_) := by
      show lessD (s + by_ + sumT ds i) skew = IntKind.u64.wrap (lessD (s + sumT ds i) skew + by_)
      rw [wu]; unfold lessD; rw [if_pos (by omega), if_pos (by omega)]; omega
    have hhi : (winI (s + by_) link skew ds i).f1 = IntKind.u64.wrap ((winI s link skew ds i).f1 + by_) := by
      show hiT (s + by_) link skew ds i = IntKind.u64.wrap (hiT s link skew ds i + by_)
      rw [wu]
      have : hiT (s + by_) link skew ds i = hiT s link skew ds i + by_ := by unfold hiT; omega
      omega
    rw [if_pos (by rw [winL_len]; omega), if_pos (by omega), if_pos (by rw [winL_len]; omega), winL_rd (by omega), winL_rd (by omega), if_pos hlo, if_pos hhi, wrap_succ (by omega)]
    exact ih (i + 1) k (by omega) (by omega)

theorem WindowMoves : hourglasslaw08_WindowMoves.Pure := by
  intro a0 a1 l2 a3 a4 h0 h1 hlen hlen4 hl h3 h4
  have h0 := m40 (bu h0)
  have h1 := m40 (bu h1)
  have h3 := m40 (bu h3)
  have h4 := m40 (bu h4)
  obtain ⟨ds, hds, h5, hd, c1, c2⟩ := cut_is l2 hl
  refine ⟨40, ?_⟩
  unfold hourglasslaw08_WindowMoves.f
  rw [shown_is 40 (by omega), hds]
  have hm : 0 ≤ mn (Go.bits .and .u64 a4 1099511627775) (Go.bits .and .u64 a0 1099511627775) ∧ mn (Go.bits .and .u64 a4 1099511627775) (Go.bits .and .u64 a0 1099511627775) ≤ Go.bits .and .u64 a0 1099511627775 := by
    unfold mn; split <;> omega
  generalize mn (Go.bits .and .u64 a4 1099511627775) (Go.bits .and .u64 a0 1099511627775) = skew at *
  generalize Go.bits .and .u64 a0 1099511627775 = s at *
  generalize Go.bits .and .u64 a1 1099511627775 = b at *
  generalize Go.bits .and .u64 a3 1099511627775 = link at *
  have e : IntKind.u64.wrap (s + b) = s + b := by rw [wu]; omega
  rw [e]
  simp only [Option.bind_some]
  rw [if_pos c1, if_pos c2]
  by_cases hn : ds.length < 1
  · rw [windows_arg (Or.inl hn) 40 (by omega), windows_arg (Or.inl hn) 40 (by omega), latest_arg (Or.inl hn) 40 (by omega), latest_arg (Or.inl hn) 40 (by omega)]
    simp only [Option.bind_some]
    rw [if_pos (by omega)]; simp
  · have bl : 0 ≤ link ∧ link ≤ 18446744073709551615 := by omega
    have bk : 0 ≤ skew ∧ skew ≤ 18446744073709551615 := by omega
    rw [windows_is (by omega) bl bk hd (by omega) h5 40 (by omega), windows_is (by omega) bl bk hd (by omega) h5 40 (by omega),
      latest_is (by omega) bl bk hd (by omega) h5 40 (by omega), latest_is (by omega) bl bk hd (by omega) h5 40 (by omega)]
    have c := hi_small (s := s) (skew := skew) (by omega) h3 (by omega) hd h5 (show ds.length - 1 ≤ ds.length by omega)
    have c0 := hiT_nonneg (s := s) (skew := skew) h0.1 h3.1 hm.1 hd (show ds.length - 1 ≤ ds.length by omega)
    have e2 : hiT (s + b) link skew ds (ds.length - 1) = hiT s link skew ds (ds.length - 1) + b := by unfold hiT; omega
    have r := rd_bd hd (show ds.length - 1 < ds.length by omega)
    unfold winR lateR addD
    rw [e2, if_pos (by omega), if_pos (by omega), if_pos (by omega), if_pos (by omega), if_pos (by omega), if_pos (by omega)]
    simp only [Option.bind_some, winL_len]
    rw [if_neg (by omega), if_pos trivial, if_pos trivial, if_pos trivial, if_pos trivial, if_pos trivial, if_pos trivial]
    have e3 : IntKind.u64.wrap (hiT s link skew ds (ds.length - 1) + rd ds ((ds.length - 1 : Nat) : Int) + b) = hiT s link skew ds (ds.length - 1) + b + rd ds ((ds.length - 1 : Nat) : Int) := by
      rw [wu]; omega
    rw [e3, bne_self_eq_false]
    simp only [hourglasslaw08_WindowMoves.j0, Bool.false_eq_true, if_false]
    exact moves_l0 h0 h1 h3 ⟨hm.1, hm.2⟩ hd h5 ds.length 0 39 (by omega) (by omega)

end Go.Proofs.Ytehghblhjclpdaa.WB
