/- The plain law: For any start, delays cut to five, links, skews and time, each window begins and ends no earlier than the one ahead, and a larger link or skew has all that a smaller one has. No condition. -/
import Derived.Test.YtehghblhjclpdaaC2
import Derived.Test.YtehghblhjclpdaaLOrder
namespace Go.Proofs.Ytehghblhjclpdaa.WB
open Go.RowKit Go.Proofs.YtehghblhjclpdaaW.PrintWords Go.Proofs.YtehghblhjclpdaaW.PrintLast Go.Proofs.YtehghblhjclpdaaW.PrintMore PWindowTells
attribute [local go_sem] max2_int min2_int max_two min_two max_three min_three max_four min_four   -- for this text's walks alone
set_option linter.unusedVariables false
set_option linter.unusedSimpArgs false

theorem less_mono {a b s : Int} (h : a ≤ b) : lessD a s ≤ lessD b s := by unfold lessD; split <;> split <;> omega
theorem less_anti {a s t : Int} (h0 : 0 ≤ s) (h : s ≤ t) : lessD a t ≤ lessD a s := by unfold lessD; split <;> split <;> omega

theorem order_l0 {s lw ln kw kn t : Int} {ds : List Int} (hs : 0 ≤ s) (hl : 0 ≤ ln ∧ ln ≤ lw) (hk : 0 ≤ kn ∧ kn ≤ kw) (hd : ∀ x ∈ ds, 0 ≤ x ∧ x ≤ 4294967295) (h5 : ds.length ≤ 5) (m : Nat) :
    ∀ (i k : Nat), i + m = ds.length → m < k →
      hourglasslaw08_WindowOrder.l0 k t true (winL s lw kw ds ds.length) (winL s ln kn ds ds.length) i = some true := by
  induction m with
  | zero =>
    intro i k hi hk2
    obtain ⟨k, rfl⟩ : ∃ n, k = n + 1 := ⟨k - 1, by omega⟩
    simp only [hourglasslaw08_WindowOrder.l0]
    rw [if_neg (by rw [winL_len]; omega)]
  | succ m ih =>
    intro i k hi hk2
    obtain ⟨k, rfl⟩ : ∃ n, k = n + 1 := ⟨k - 1, by omega⟩
    simp only [hourglasslaw08_WindowOrder.l0]
    have a := sumT_bd hd i (by omega)
    have hLw : 0 ≤ (i : Int) * lw := Int.mul_nonneg (by omega) (by omega)
    have hLn : 0 ≤ (i : Int) * ln := Int.mul_nonneg (by omega) (by omega)
    have hLL : (i : Int) * ln ≤ (i : Int) * lw := Int.mul_le_mul_of_nonneg_left hl.2 (by omega)
    have lo : (winI s lw kw ds i).f0 ≤ (winI s ln kn ds i).f0 := less_anti hk.1 hk.2
    have hi' : (winI s ln kn ds i).f1 ≤ (winI s lw kw ds i).f1 := by
      show hiT s ln kn ds i ≤ hiT s lw kw ds i
      unfold hiT; omega
    have lh : ¬ (winI s lw kw ds i).f0 > (winI s lw kw ds i).f1 := by
      show ¬ lessD (s + sumT ds i) kw > hiT s lw kw ds i
      unfold lessD hiT; split <;> omega
    have rest : (if (i : Int) > 0 then (if 0 ≤ (wrap64 ((i : Int) - 1)) then (if (wrap64 ((i : Int) - 1)) < ((winL s lw kw ds ds.length).length : Int) then (if ((winI s lw kw ds i).f0) < ((rd_T35 (winL s lw kw ds ds.length) (wrap64 ((i : Int) - 1))).f0) then (some false) else (if ((winI s lw kw ds i).f1) < ((rd_T35 (winL s lw kw ds ds.length) (wrap64 ((i : Int) - 1))).f1) then (some false) else (hourglasslaw08_WindowOrder.l0 k t true (winL s lw kw ds ds.length) (winL s ln kn ds ds.length) (wrap64 ((i : Int) + 1))))) else (none)) else (none)) else (hourglasslaw08_WindowOrder.l0 k t true (winL s lw kw ds ds.length) (winL s ln kn ds ds.length) (wrap64 ((i : Int) + 1)))) = some true := by
      have next := ih (i + 1) k (by omega) (by omega)
      rw [wrap_succ (by omega)]
      by_cases h0 : (i : Int) > 0
      · have e : wrap64 ((i : Int) - 1) = ((i - 1 : Nat) : Int) := by unfold wrap64; omega
        have g1 : ¬ (winI s lw kw ds i).f0 < (winI s lw kw ds (i - 1)).f0 := by
          have := less_mono (s := kw) (show s + sumT ds (i - 1) ≤ s + sumT ds i by have := sumT_mono hd (i - 1) i (by omega) (by omega); omega)
          show ¬ lessD (s + sumT ds i) kw < lessD (s + sumT ds (i - 1)) kw
          omega
        have g2 : ¬ (winI s lw kw ds i).f1 < (winI s lw kw ds (i - 1)).f1 := by
          have := hiT_mono (s := s) (skew := kw) (link := lw) (by omega) hd (show i - 1 ≤ i by omega) (by omega)
          show ¬ hiT s lw kw ds i < hiT s lw kw ds (i - 1)
          omega
        rw [if_pos h0, e, if_pos (by omega), if_pos (by rw [winL_len]; omega), winL_rd (by omega), if_neg g1, if_neg g2]; exact next
      · rw [if_neg h0]; exact next
    rw [if_pos (by rw [winL_len]; omega), if_pos (by omega), if_pos (by rw [winL_len]; omega), winL_rd (by omega), winL_rd (by omega)]
    by_cases hn : t < (winI s ln kn ds i).f0 ∨ t > (winI s ln kn ds i).f1
    · have e : ∃ r, window_Window_Has.f (winI s ln kn ds i).f0 (winI s ln kn ds i).f1 t = some r ∧ ¬ r = 0 := by
        unfold window_Window_Has.f
        by_cases h1 : t < (winI s ln kn ds i).f0
        · rw [if_pos h1]; exact ⟨5, rfl, by decide⟩
        · rw [if_neg h1, if_pos (by omega)]; exact ⟨6, rfl, by decide⟩
      obtain ⟨r, e, r0⟩ := e
      rw [e]
      simp only [Option.bind_some]
      rw [if_neg r0, if_neg lh]; exact rest
    · have e : window_Window_Has.f (winI s ln kn ds i).f0 (winI s ln kn ds i).f1 t = some 0 := by
        unfold window_Window_Has.f; rw [if_neg (by omega), if_neg (by omega)]
      have e2 : window_Window_Has.f (winI s lw kw ds i).f0 (winI s lw kw ds i).f1 t = some 0 := by
        unfold window_Window_Has.f; rw [if_neg (by omega), if_neg (by omega)]
      rw [e]
      simp only [Option.bind_some, if_true]
      rw [e2]
      simp only [Option.bind_some, if_true]
      rw [if_neg lh]; exact rest

theorem WindowOrder : hourglasslaw08_WindowOrder.Pure := by
  intro a0 l1 a2 a3 a4 a5 a6 h0 hlen hlen4 hl h2 h3 h4 h5 h6
  have h0 := bu h0
  have h2 := bu h2
  have h3 := bu h3
  have h4 := bu h4
  have h5 := bu h5
  obtain ⟨ds, hds, hn5, hd, c1, c2⟩ := cut_is l1 hl
  refine ⟨40, ?_⟩
  unfold hourglasslaw08_WindowOrder.f
  rw [shown_is 40 (by omega), hds]
  simp only [Option.bind_some]
  rw [if_pos c1, if_pos c2]
  have m1 : 0 ≤ mn a2 a3 ∧ mn a2 a3 ≤ mx a2 a3 ∧ mx a2 a3 ≤ 18446744073709551615 := by unfold mn mx; split <;> split <;> omega
  have m2 : 0 ≤ mn a4 a5 ∧ mn a4 a5 ≤ mx a4 a5 ∧ mx a4 a5 ≤ 18446744073709551615 := by unfold mn mx; split <;> split <;> omega
  generalize mn a2 a3 = ln at *
  generalize mx a2 a3 = lw at *
  generalize mn a4 a5 = kn at *
  generalize mx a4 a5 = kw at *
  by_cases hn : ds.length < 1
  · rw [windows_arg (Or.inl hn) 40 (by omega), windows_arg (Or.inl hn) 40 (by omega)]
    simp
  · rw [windows_is h0 (by omega) (by omega) hd (by omega) hn5 40 (by omega), windows_is h0 (by omega) (by omega) hd (by omega) hn5 40 (by omega)]
    simp only [Option.bind_some]
    unfold winR
    by_cases hH : hiT a0 lw kw ds (ds.length - 1) ≤ 18446744073709551615
    · have hH2 : hiT a0 ln kn ds (ds.length - 1) ≤ 18446744073709551615 := by
        have hLL : ((ds.length - 1 : Nat) : Int) * ln ≤ ((ds.length - 1 : Nat) : Int) * lw := Int.mul_le_mul_of_nonneg_left m1.2.1 (by omega)
        unfold hiT at hH ⊢; omega
      rw [if_pos hH, if_pos hH2, if_pos rfl, if_pos rfl]
      simp only [winL_len, bne_self_eq_false]
      simp only [hourglasslaw08_WindowOrder.j0, Bool.false_eq_true, if_false]
      exact order_l0 h0.1 ⟨m1.1, m1.2.1⟩ ⟨m2.1, m2.2.1⟩ hd hn5 ds.length 0 39 (by omega) (by omega)
    · rw [if_neg hH]
      simp

end Go.Proofs.Ytehghblhjclpdaa.WB
