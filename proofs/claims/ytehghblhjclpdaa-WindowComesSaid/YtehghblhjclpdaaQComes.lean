/- The plain law: For any start, link and skew below 2^40 and delays cut to five, who is at most link late and skew wrong at each hop comes in each window and is out by the latest time. No condition. -/
import Derived.Test.YtehghblhjclpdaaC2
import Derived.Test.YtehghblhjclpdaaLComes
namespace Go.Proofs.Ytehghblhjclpdaa.WB
open Go.RowKit Go.Proofs.YtehghblhjclpdaaW.PrintWords Go.Proofs.YtehghblhjclpdaaW.PrintLast Go.Proofs.YtehghblhjclpdaaW.PrintMore PWindowTells
attribute [local go_sem] max2_int min2_int max_two min_two max_three min_three max_four min_four   -- for this text's walks alone
set_option linter.unusedVariables false
set_option linter.unusedSimpArgs false

theorem has_ok {s link skew : Int} {ds : List Int} {i : Nat} {t : Int} (h1 : s + sumT ds i - skew ≤ t) (h0 : 0 ≤ t) (h2 : t ≤ hiT s link skew ds i) :
    window_Window_Has.f (winI s link skew ds i).f0 (winI s link skew ds i).f1 t = some 0 := by
  unfold window_Window_Has.f
  have a : ¬ t < (winI s link skew ds i).f0 := by show ¬ t < lessD (s + sumT ds i) skew; unfold lessD; split <;> omega
  have b : ¬ t > (winI s link skew ds i).f1 := by show ¬ t > hiT s link skew ds i; omega
  rw [if_neg a, if_neg b]

theorem and62 {x : Int} : 0 ≤ IntKind.u64.wrap (Go.bits .and .i64 x 4611686018427387903) := by rw [wu]; omega

theorem rd_nonneg {l : List Int} (hl : ∀ x ∈ l, (Lit.int .u64 x).wf = true) {i : Nat} (h : i < l.length) : 0 ≤ rd l i := by
  unfold rd
  have : l.getD (i : Int).toNat 0 = l[i] := by simp [List.getD, h]
  rw [this]; exact (bu (hl _ (List.getElem_mem h))).1

theorem tmod_bd {x y : Int} (hx : 0 ≤ x) (hy : 0 ≤ y) : 0 ≤ Int.tmod x (y + 1) ∧ Int.tmod x (y + 1) ≤ y := by
  rw [Int.tmod_eq_emod_of_nonneg hx]
  have a := Int.emod_nonneg x (show y + 1 ≠ 0 by omega)
  have b := Int.emod_lt_of_pos x (show 0 < y + 1 by omega)
  omega

theorem comes_l0 {s link skew : Int} {ds l4 l5 : List Int} (hs : 0 ≤ s ∧ s ≤ 1099511627775) (hl : 0 ≤ link ∧ link ≤ 1099511627775) (hk : 0 ≤ skew ∧ skew ≤ 1099511627775)
    (hd : ∀ x ∈ ds, 0 ≤ x ∧ x ≤ 4294967295) (h1 : 1 ≤ ds.length) (h5 : ds.length ≤ 5) (hl4 : ∀ x ∈ l4, (Lit.int .u64 x).wf = true) (m : Nat) :
    ∀ (i k : Nat) (t : Int), i + m = ds.length → 2 * m + 20 < k → s + sumT ds i ≤ t → t ≤ s + sumT ds i + (i : Int) * link →
      hourglasslaw08_WindowComes.l0 k s ds link skew l4 l5 true (winL s link skew ds ds.length) t i = some true := by
  have bl : 0 ≤ link ∧ link ≤ 18446744073709551615 := by omega
  have bk : 0 ≤ skew ∧ skew ≤ 18446744073709551615 := by omega
  have ew : IntKind.u64.wrap (link + 1) = link + 1 := by rw [wu]; omega
  have ek : IntKind.u64.wrap (skew + 1) = skew + 1 := by rw [wu]; omega
  induction m with
  | zero =>
    intro i k t hi hk2 ht0 ht1
    obtain ⟨k, rfl⟩ : ∃ n, k = n + 1 := ⟨k - 1, by omega⟩
    simp only [hourglasslaw08_WindowComes.l0]
    rw [if_neg (by omega), latest_is (by omega) bl bk hd h1 h5 k (by omega)]
    have c := hi_small (s := s) (skew := skew) (by omega) hl (by omega) hd h5 (show ds.length - 1 ≤ ds.length by omega)
    have r := rd_bd hd (show ds.length - 1 < ds.length by omega)
    unfold lateR addD
    rw [if_pos (by omega), if_pos (by omega)]
    simp only [Option.bind_some, if_true]
    have e : sumT ds ds.length = sumT ds (ds.length - 1) + rd ds ((ds.length - 1 : Nat) : Int) := by
      rw [← sumT_succ (show ds.length - 1 < ds.length by omega)]; congr 1; omega
    have ei : i = ds.length := by omega
    have e2 : (i : Int) * link = ((ds.length - 1 : Nat) : Int) * link + link := by
      have : (i : Int) = ((ds.length - 1 : Nat) : Int) + 1 := by omega
      rw [this, Int.add_mul, Int.one_mul]
    rw [ei] at ht1
    rw [ei] at e2
    have : t ≤ hiT s link skew ds (ds.length - 1) + rd ds ((ds.length - 1 : Nat) : Int) := by unfold hiT; omega
    simp [this]
  | succ m ih =>
    intro i k t hi hk2 ht0 ht1
    obtain ⟨k, rfl⟩ : ∃ n, k = n + 2 := ⟨k - 2, by omega⟩
    have a := sumT_bd hd i (by omega)
    have c := hi_small (s := s) (skew := skew) (by omega) hl (by omega) hd h5 (show i ≤ ds.length by omega)
    have b := mul_bd (show i ≤ 5 by omega) hl.1 hl.2
    have r := rd_bd hd (show i < ds.length by omega)
    have er : IntKind.u64.wrap (rd ds i) = rd ds i := by rw [wu]; omega
    have hh : hiT s link skew ds i = s + sumT ds i + ((i : Int) * link + link) + skew := rfl
    -- behind the lateness
    have step : ∀ t' : Int, s + sumT ds i ≤ t' → t' ≤ s + sumT ds i + ((i : Int) * link + link) →
        hourglasslaw08_WindowComes.j2 (k + 1) s ds link skew l4 l5 true (winL s link skew ds ds.length) t' i = some true := by
      intro t' h0 h2
      have next : hourglasslaw08_WindowComes.l0 k s ds link skew l4 l5 true (winL s link skew ds ds.length) (IntKind.u64.wrap (t' + IntKind.u64.wrap (rd ds i))) (wrap64 ((i : Int) + 1)) = some true := by
        have e : IntKind.u64.wrap (t' + IntKind.u64.wrap (rd ds i)) = t' + rd ds i := by rw [er, wu]; omega
        have e2 : ((i + 1 : Nat) : Int) * link = (i : Int) * link + link := by rw [Int.natCast_succ, Int.add_mul, Int.one_mul]
        rw [e, wrap_succ (by omega)]
        refine ih (i + 1) k (t' + rd ds i) (by omega) (by omega) ?_ ?_
        · rw [sumT_succ (by omega)]; omega
        · rw [sumT_succ (by omega), e2]; omega
      simp only [hourglasslaw08_WindowComes.j2]
      have g2 : (i : Int) < ((winL s link skew ds ds.length).length : Int) := by rw [winL_len]; omega
      by_cases h5' : (i : Int) < (l5.length : Int)
      · rw [if_pos h5', if_pos (by omega), if_neg (by rw [ek]; omega), ek]
        have q := tmod_bd (x := IntKind.u64.wrap (Go.bits .and .i64 (rd l5 i) 4611686018427387903)) and62 hk.1
        generalize Int.tmod (IntKind.u64.wrap (Go.bits .and .i64 (rd l5 i) 4611686018427387903)) (skew + 1) = z at *
        by_cases hneg : rd l5 i < 0
        · have e : ∃ u, IntKind.u64.wrap (t' - mn z t') = u ∧ s + sumT ds i - skew ≤ u ∧ 0 ≤ u ∧ u ≤ t' := by
            refine ⟨_, rfl, ?_⟩; rw [wu]; unfold mn; split <;> omega
          obtain ⟨u, eu, u1, u2, u3⟩ := e
          rw [if_pos hneg, if_pos g2, eu, winL_rd (by omega), has_ok u1 u2 (by omega)]
          simp only [Option.bind_some, if_true]
          rw [if_pos (by omega)]; exact next
        · have e : IntKind.u64.wrap (t' + z) = t' + z := by rw [wu]; omega
          rw [if_neg hneg, if_pos g2, e, winL_rd (by omega), has_ok (by omega) (by omega) (by omega)]
          simp only [Option.bind_some, if_true]
          rw [if_pos (by omega)]; exact next
      · rw [if_neg h5', if_pos (by omega), if_pos g2, winL_rd (by omega), has_ok (by omega) (by omega) (by omega)]
        simp only [Option.bind_some, if_true]
        rw [if_pos (by omega)]; exact next
    unfold hourglasslaw08_WindowComes.l0
    rw [if_pos (by omega)]
    by_cases h4 : (i : Int) < (l4.length : Int)
    · rw [if_pos h4, if_pos (by omega), if_neg (by rw [ew]; omega), ew]
      have q := tmod_bd (rd_nonneg hl4 (show i < l4.length by omega)) hl.1
      generalize Int.tmod (rd l4 i) (link + 1) = z at *
      have e : IntKind.u64.wrap (t + z) = t + z := by rw [wu]; omega
      rw [e]
      exact step (t + z) (by omega) (by omega)
    · rw [if_neg h4]
      exact step t (by omega) (by omega)

theorem WindowComes : hourglasslaw08_WindowComes.Pure := by
  intro a0 l1 a2 a3 l4 l5 h0 hlen hlen4 hl h2 h3 h4 h4b hl4 h5a h5b hl5
  have h0 := m40 (bu h0)
  have h2 := m40 (bu h2)
  have h3 := m40 (bu h3)
  obtain ⟨ds, hds, h5, hd, c1, c2⟩ := cut_is l1 hl
  refine ⟨60, ?_⟩
  unfold hourglasslaw08_WindowComes.f
  rw [shown_is 60 (by omega), hds]
  simp only [Option.bind_some]
  rw [if_pos c1, if_pos c2]
  generalize Go.bits .and .u64 a0 1099511627775 = s at *
  generalize Go.bits .and .u64 a2 1099511627775 = link at *
  generalize Go.bits .and .u64 a3 1099511627775 = skew at *
  by_cases hn : ds.length < 1
  · rw [windows_arg (Or.inl hn) 60 (by omega)]
    simp only [Option.bind_some]
    rw [if_pos (by omega)]; rfl
  · rw [windows_is (by omega) (by omega) (by omega) hd (by omega) h5 60 (by omega)]
    have c := hi_small (s := s) (skew := skew) (by omega) h2 (by omega) hd h5 (show ds.length - 1 ≤ ds.length by omega)
    simp only [Option.bind_some]
    unfold winR
    have hH : hiT s link skew ds (ds.length - 1) ≤ 18446744073709551615 := by omega
    rw [if_pos hH, if_neg (by omega), if_pos rfl]
    simp only [winL_len, bne_self_eq_false]
    simp only [hourglasslaw08_WindowComes.j0, Bool.false_eq_true, if_false]
    exact comes_l0 h0 h2 h3 hd (by omega) h5 hl4 ds.length 0 59 s (by omega) (by omega) (by rw [sumT_zero]; omega) (by rw [sumT_zero]; simp)

end Go.Proofs.Ytehghblhjclpdaa.WB
