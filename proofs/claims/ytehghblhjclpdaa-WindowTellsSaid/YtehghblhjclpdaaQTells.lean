/- The plain law: For any start, delays cut to eight, link, skew and time, the windows, the latest time and Has are the document's. No condition. -/
import Derived.Test.YtehghblhjclpdaaC2
import Derived.Test.YtehghblhjclpdaaLTells
namespace Go.Proofs.Ytehghblhjclpdaa.WB
open Go.RowKit Go.Proofs.YtehghblhjclpdaaW.PrintWords Go.Proofs.YtehghblhjclpdaaW.PrintLast Go.Proofs.YtehghblhjclpdaaW.PrintMore PWindowTells
attribute [local go_sem] max2_int min2_int max_two min_two max_three min_three max_four min_four   -- for this text's walks alone
set_option linter.unusedVariables false
set_option linter.unusedSimpArgs false

/-- A number of two words. -/
def Bg (x : Int) (p : Int × Int) : Prop := p.1 * 18446744073709551616 + p.2 = x ∧ 0 ≤ p.1 ∧ 0 ≤ p.2 ∧ p.2 < 18446744073709551616

theorem big_is {x b : Int} {p : Int × Int} (h : Bg x p) (hx : x ≤ 1000000000000000000000) (hb : 0 ≤ b ∧ b ≤ 18446744073709551615) :
    ∃ q, hourglassref08_Big_Plus.f p.1 p.2 b = some q ∧ Bg (x + b) q := by
  obtain ⟨h1, h2, h3, h4⟩ := h
  unfold hourglassref08_Big_Plus.f
  by_cases hs : p.2 + b ≤ 18446744073709551615
  · have e : IntKind.u64.wrap (p.2 + b) = p.2 + b := by rw [wu]; omega
    rw [e, if_neg (by omega)]
    exact ⟨_, rfl, by show p.1 * 18446744073709551616 + (p.2 + b) = x + b; omega, h2, by show 0 ≤ p.2 + b; omega, by show p.2 + b < _; omega⟩
  · have e : IntKind.u64.wrap (p.2 + b) = p.2 + b - 18446744073709551616 := by rw [wu]; omega
    have e2 : IntKind.u64.wrap (p.1 + 1) = p.1 + 1 := by rw [wu]; omega
    rw [e, e2, if_pos (by omega)]
    exact ⟨_, rfl, by show (p.1 + 1) * 18446744073709551616 + (p.2 + b - 18446744073709551616) = x + b; omega, by show 0 ≤ p.1 + 1; omega, by show 0 ≤ p.2 + b - _; omega, by show p.2 + b - _ < _; omega⟩

theorem big_low {x : Int} {p : Int × Int} (h : Bg x p) (h0 : 0 ≤ x) (hx : x ≤ 18446744073709551615) : p = (0, x) := by
  obtain ⟨h1, h2, h3, h4⟩ := h
  have a : p.1 = 0 := by omega
  have b : p.2 = x := by rw [a] at h1; omega
  rw [← b, ← a]

theorem big_high {x : Int} {p : Int × Int} (h : Bg x p) (hx : 18446744073709551615 < x) : 0 < p.1 := by
  obtain ⟨h1, h2, h3, h4⟩ := h
  omega

theorem earl_l0 {s : Int} {ds : List Int} (hs : 0 ≤ s ∧ s ≤ 18446744073709551615) (hd : ∀ x ∈ ds, 0 ≤ x ∧ x ≤ 4294967295) (h5 : ds.length ≤ 5) (n : Nat) (hn : n ≤ ds.length) (m : Nat) :
    ∀ (i k : Nat) (p : Int × Int), i + m = n → m < k → Bg (s + sumT ds i) p →
      ∃ q, hourglassref08_earliest.l0 k ds n i p.1 p.2 = some q ∧ Bg (s + sumT ds n) q := by
  induction m with
  | zero =>
    intro i k p hi hk hp
    obtain ⟨k, rfl⟩ : ∃ n, k = n + 1 := ⟨k - 1, by omega⟩
    simp only [hourglassref08_earliest.l0]
    have e : i = n := by omega
    rw [if_neg (by omega)]
    rw [e] at hp
    exact ⟨p, rfl, hp⟩
  | succ m ih =>
    intro i k p hi hk hp
    obtain ⟨k, rfl⟩ : ∃ n, k = n + 1 := ⟨k - 1, by omega⟩
    simp only [hourglassref08_earliest.l0]
    have r := rd_bd hd (show i < ds.length by omega)
    have a := sumT_bd hd i (by omega)
    have er : IntKind.u64.wrap (rd ds i) = rd ds i := by rw [wu]; omega
    obtain ⟨q, e, hq⟩ := big_is hp (b := rd ds i) (by omega) (by omega)
    rw [if_pos (by omega), if_pos (by omega), if_pos (by omega), er, e]
    simp only [Option.bind_some]
    rw [wrap_succ (by omega)]
    exact ih (i + 1) k q (by omega) (by omega) (by rw [sumT_succ (by omega), ← Int.add_assoc]; exact hq)

theorem earl_is {s : Int} {ds : List Int} (hs : 0 ≤ s ∧ s ≤ 18446744073709551615) (hd : ∀ x ∈ ds, 0 ≤ x ∧ x ≤ 4294967295) (h5 : ds.length ≤ 5) (n : Nat) (hn : n ≤ ds.length) (k : Nat) (hk : 6 ≤ k) :
    ∃ q, hourglassref08_earliest.f k s ds n = some q ∧ Bg (s + sumT ds n) q := by
  unfold hourglassref08_earliest.f
  exact earl_l0 hs hd h5 n hn n 0 k (0, s) (by omega) (by omega) ⟨by simp [sumT_zero], by simp, by simpa using hs.1, by show s < _; omega⟩

theorem hi_l0 {x link skew : Int} (hx : 0 ≤ x ∧ x ≤ 20000000000000000000) (hl : 0 ≤ link ∧ link ≤ 18446744073709551615) (hk : 0 ≤ skew ∧ skew ≤ 18446744073709551615) (n : Nat) (hn : n ≤ 4) (m : Nat) :
    ∀ (i k : Nat) (p : Int × Int), i + m = n + 1 → m < k → Bg (x + (i : Int) * link) p →
      ∃ q, hourglassref08_hi.l0 k link skew n i p.1 p.2 = some q ∧ Bg (x + ((n : Int) * link + link) + skew) q := by
  induction m with
  | zero =>
    intro i k p hi hk2 hp
    obtain ⟨k, rfl⟩ : ∃ n, k = n + 1 := ⟨k - 1, by omega⟩
    simp only [hourglassref08_hi.l0]
    have b := mul_bd (show i ≤ 5 by omega) hl.1 hl.2
    obtain ⟨q, e, hq⟩ := big_is hp (b := skew) (by omega) hk
    have ei : (i : Int) * link = (n : Int) * link + link := by
      have : (i : Int) = (n : Int) + 1 := by omega
      rw [this, Int.add_mul, Int.one_mul]
    rw [if_neg (by omega), e]
    exact ⟨q, rfl, by rw [← ei]; exact hq⟩
  | succ m ih =>
    intro i k p hi hk2 hp
    obtain ⟨k, rfl⟩ : ∃ n, k = n + 1 := ⟨k - 1, by omega⟩
    simp only [hourglassref08_hi.l0]
    have b := mul_bd (show i ≤ 5 by omega) hl.1 hl.2
    obtain ⟨q, e, hq⟩ := big_is hp (b := link) (by omega) hl
    rw [if_pos (by omega), e]
    simp only [Option.bind_some]
    rw [wrap_succ (by omega)]
    refine ih (i + 1) k q (by omega) (by omega) ?_
    have e2 : ((i + 1 : Nat) : Int) * link = (i : Int) * link + link := by rw [Int.natCast_succ, Int.add_mul, Int.one_mul]
    rw [e2, ← Int.add_assoc]; exact hq

theorem rhi_is {s link skew : Int} {ds : List Int} (hs : 0 ≤ s ∧ s ≤ 18446744073709551615) (hl : 0 ≤ link ∧ link ≤ 18446744073709551615) (hk : 0 ≤ skew ∧ skew ≤ 18446744073709551615)
    (hd : ∀ x ∈ ds, 0 ≤ x ∧ x ≤ 4294967295) (h5 : ds.length ≤ 5) (n : Nat) (hn : n < ds.length) (k : Nat) (hk2 : 8 ≤ k) :
    ∃ q, hourglassref08_hi.f k s ds link skew n = some q ∧ Bg (hiT s link skew ds n) q := by
  unfold hourglassref08_hi.f
  obtain ⟨p, e, hp⟩ := earl_is hs hd h5 n (by omega) k (by omega)
  have a := sumT_bd hd n (by omega)
  rw [e]
  simp only [Option.bind_some]
  exact hi_l0 (x := s + sumT ds n) (by omega) hl hk n (by omega) (n + 1) 0 k p (by omega) (by omega) (by simpa using hp)

def winL6 (s link skew : Int) (ds : List Int) (n : Nat) : List S36 := (List.range n).map (fun i => ⟨(winI s link skew ds i).f0, (winI s link skew ds i).f1⟩)
theorem winL6_len (s link skew : Int) (ds : List Int) (n : Nat) : (winL6 s link skew ds n).length = n := by simp [winL6]
theorem winL6_succ (s link skew : Int) (ds : List Int) (n : Nat) : winL6 s link skew ds (n + 1) = winL6 s link skew ds n ++ [⟨(winI s link skew ds n).f0, (winI s link skew ds n).f1⟩] := by
  simp [winL6, List.range_succ]
theorem winL6_rd {s link skew : Int} {ds : List Int} {n i : Nat} (h : i < n) : rd_T36 (winL6 s link skew ds n) i = ⟨(winI s link skew ds i).f0, (winI s link skew ds i).f1⟩ := by
  simp [rd_T36, winL6, List.getD, h]

def winR6 (s link skew : Int) (ds : List Int) : List S36 × Int :=
  if hiT s link skew ds (ds.length - 1) ≤ 18446744073709551615 then (winL6 s link skew ds ds.length, 0) else ([], 9)

theorem rl0_is {s link skew : Int} {ds : List Int} (hs : 0 ≤ s ∧ s ≤ 18446744073709551615) (hl : 0 ≤ link ∧ link ≤ 18446744073709551615) (hk : 0 ≤ skew ∧ skew ≤ 18446744073709551615)
    (hd : ∀ x ∈ ds, 0 ≤ x ∧ x ≤ 4294967295) (h1 : 1 ≤ ds.length) (h5 : ds.length ≤ 5) (m : Nat) :
    ∀ (i k : Nat), i + m = ds.length → (∀ j, j < i → hiT s link skew ds j ≤ 18446744073709551615) → 2 * m + 20 < k →
      hourglassref08_Windows.l0 k s ds link skew (winL6 s link skew ds i) i = some (winR6 s link skew ds) := by
  induction m with
  | zero =>
    intro i k hi hprev hk2
    obtain ⟨k, rfl⟩ : ∃ n, k = n + 1 := ⟨k - 1, by omega⟩
    simp only [hourglassref08_Windows.l0]
    have e : i = ds.length := by omega
    rw [if_neg (by omega), e]
    unfold winR6
    rw [if_pos (hprev _ (by omega))]
  | succ m ih =>
    intro i k hi hprev hk2
    obtain ⟨k, rfl⟩ : ∃ n, k = n + 2 := ⟨k - 2, by omega⟩
    obtain ⟨q1, e1, b1⟩ := earl_is hs hd h5 i (by omega) (k + 1) (by omega)
    obtain ⟨q2, e2, b2⟩ := rhi_is hs hl hk hd h5 i (by omega) (k + 1) (by omega)
    have a := sumT_bd hd i (by omega)
    have hL : 0 ≤ (i : Int) * link := Int.mul_nonneg (by omega) hl.1
    have hh : hiT s link skew ds i = s + sumT ds i + ((i : Int) * link + link) + skew := rfl
    unfold hourglassref08_Windows.l0
    rw [if_pos (by omega), e1]
    simp only [Option.bind_some]
    rw [e2]
    simp only [Option.bind_some]
    by_cases hH : hiT s link skew ds i ≤ 18446744073709551615
    · have p1 := big_low b1 (by omega) (by omega)
      have p2 := big_low b2 (by omega) hH
      subst p1; subst p2
      rw [if_neg (by simp)]
      simp only [hourglassref08_Windows.j2]
      rw [if_neg (by simp), wrap_succ (by omega)]
      have rest := ih (i + 1) k (by omega) (fun j hj => by
        by_cases e : j = i
        · subst e; exact hH
        · exact hprev j (by omega)) (by omega)
      rw [winL6_succ] at rest
      by_cases hc : s + sumT ds i > skew
      · have e : IntKind.u64.wrap (s + sumT ds i - skew) = (winI s link skew ds i).f0 := by
          show _ = lessD (s + sumT ds i) skew
          rw [wu]; unfold lessD; rw [if_pos (by omega)]; omega
        rw [if_pos hc, if_pos (by rw [winL6_len]; omega), e]; exact rest
      · have e : (0 : Int) = (winI s link skew ds i).f0 := by
          show _ = lessD (s + sumT ds i) skew
          unfold lessD; split <;> omega
        rw [if_neg hc, if_pos (by rw [winL6_len]; omega), e]; exact rest
    · have hR : winR6 s link skew ds = ([], 9) := by
        unfold winR6
        rw [if_neg]
        have := hiT_mono (s := s) (skew := skew) hl.1 hd (show i ≤ ds.length - 1 by omega) (by omega)
        omega
      have g := big_high b2 (by omega)
      rw [hR]
      have e : decide (q2.1 > 0) = true := by simpa using g
      rw [e, ite_self]
      simp only [hourglassref08_Windows.j2, if_true]

theorem rwindows_is {s link skew : Int} {ds : List Int} (hs : 0 ≤ s ∧ s ≤ 18446744073709551615) (hl : 0 ≤ link ∧ link ≤ 18446744073709551615) (hk : 0 ≤ skew ∧ skew ≤ 18446744073709551615)
    (hd : ∀ x ∈ ds, 0 ≤ x ∧ x ≤ 4294967295) (h1 : 1 ≤ ds.length) (h5 : ds.length ≤ 5) (k : Nat) (hk2 : 60 ≤ k) :
    hourglassref08_Windows.f k s ds link skew = some (winR6 s link skew ds) := by
  unfold hourglassref08_Windows.f
  rw [if_neg (by omega)]
  have e : decide ((ds.length : Int) > 5) = false := by simp; omega
  rw [e]
  obtain ⟨k, rfl⟩ : ∃ n, k = n + 1 := ⟨k - 1, by omega⟩
  simp only [hourglassref08_Windows.j0]
  rw [if_neg (by simp)]
  exact rl0_is hs hl hk hd h1 h5 ds.length 0 k (by omega) (fun j hj => absurd hj (by omega)) (by omega)

theorem rwindows_arg {s link skew : Int} {ds : List Int} (h : ds.length < 1 ∨ 5 < ds.length) (k : Nat) (hk2 : 20 ≤ k) : hourglassref08_Windows.f k s ds link skew = some ([], 1) := by
  unfold hourglassref08_Windows.f
  obtain ⟨k, rfl⟩ : ∃ n, k = n + 1 := ⟨k - 1, by omega⟩
  rcases h with h | h
  · rw [if_pos (by omega)]; simp only [hourglassref08_Windows.j0, if_true]
  · rw [if_neg (by omega)]
    have e : decide ((ds.length : Int) > 5) = true := by simp; omega
    rw [e]; simp only [hourglassref08_Windows.j0, if_true]

theorem rlatest_is {s link skew : Int} {ds : List Int} (hs : 0 ≤ s ∧ s ≤ 18446744073709551615) (hl : 0 ≤ link ∧ link ≤ 18446744073709551615) (hk : 0 ≤ skew ∧ skew ≤ 18446744073709551615)
    (hd : ∀ x ∈ ds, 0 ≤ x ∧ x ≤ 4294967295) (h1 : 1 ≤ ds.length) (h5 : ds.length ≤ 5) (k : Nat) (hk2 : 60 ≤ k) :
    hourglassref08_Latest.f k s ds link skew = some (lateR s link skew ds) := by
  unfold hourglassref08_Latest.f
  rw [rwindows_is hs hl hk hd h1 h5 k hk2]
  simp only [Option.bind_some]
  unfold winR6 lateR
  by_cases h : hiT s link skew ds (ds.length - 1) ≤ 18446744073709551615
  · have e1 : wrap64 ((ds.length : Int) - 1) = ((ds.length - 1 : Nat) : Int) := by unfold wrap64; omega
    obtain ⟨q, e, b⟩ := rhi_is hs hl hk hd h5 (ds.length - 1) (by omega) k (by omega)
    have b0 := hiT_nonneg (s := s) (skew := skew) hs.1 hl.1 hk.1 hd (show ds.length - 1 ≤ ds.length by omega)
    have p := big_low b b0 h
    subst p
    have r := rd_bd hd (show ds.length - 1 < ds.length by omega)
    have hw : IntKind.u64.wrap (rd ds ((ds.length - 1 : Nat) : Int)) = rd ds ((ds.length - 1 : Nat) : Int) := by rw [wu]; omega
    rw [if_pos h, if_pos h, if_pos rfl, e1, e]
    simp only [Option.bind_some]
    obtain ⟨z, ez, bz⟩ := big_is (b := rd ds ((ds.length - 1 : Nat) : Int)) b (by omega) (by omega)
    rw [if_pos (by omega), if_pos (by omega), hw, ez]
    simp only [Option.bind_some]
    unfold addD
    by_cases g : hiT s link skew ds (ds.length - 1) + rd ds ((ds.length - 1 : Nat) : Int) ≤ 18446744073709551615
    · have pz := big_low bz (by omega) g
      subst pz
      rw [if_pos g, if_neg (by simp)]
    · rw [if_neg g, if_pos (big_high bz (by omega))]
  · rw [if_neg h, if_neg h, if_neg (by decide)]

theorem rlatest_arg {s link skew : Int} {ds : List Int} (h : ds.length < 1 ∨ 5 < ds.length) (k : Nat) (hk2 : 20 ≤ k) : hourglassref08_Latest.f k s ds link skew = some (0, false) := by
  unfold hourglassref08_Latest.f
  rw [rwindows_arg h k hk2]; rfl

theorem has_same (a b t : Int) : ∃ r, window_Window_Has.f a b t = some r ∧ hourglassref08_Has.f a b t = some r := by
  unfold window_Window_Has.f hourglassref08_Has.f
  by_cases h1 : t < a
  · rw [if_pos h1]; exact ⟨_, rfl, rfl⟩
  · by_cases h2 : t > b
    · rw [if_neg h1, if_pos h2]; exact ⟨_, rfl, rfl⟩
    · rw [if_neg h1, if_neg h2]; exact ⟨_, rfl, rfl⟩

theorem tells_l0 {s link skew t : Int} {ds : List Int} (n : Nat) (h5 : n ≤ 5) (m : Nat) :
    ∀ (i k : Nat), i + m = n → m < k →
      hourglasslaw08_WindowTells.l0 k t true (winL s link skew ds n) (winL6 s link skew ds n) i = some true := by
  induction m with
  | zero =>
    intro i k hi hk2
    obtain ⟨k, rfl⟩ : ∃ n, k = n + 1 := ⟨k - 1, by omega⟩
    simp only [hourglasslaw08_WindowTells.l0]
    rw [if_neg (by rw [winL_len]; omega)]
  | succ m ih =>
    intro i k hi hk2
    obtain ⟨k, rfl⟩ : ∃ n, k = n + 1 := ⟨k - 1, by omega⟩
    simp only [hourglasslaw08_WindowTells.l0]
    obtain ⟨r, r1, r2⟩ := has_same (winI s link skew ds i).f0 (winI s link skew ds i).f1 t
    rw [if_pos (by rw [winL_len]; omega), if_pos (by omega), if_pos (by rw [winL6_len]; omega), winL_rd (by omega), winL6_rd (by omega), if_pos rfl, if_pos rfl, r1]
    simp only [Option.bind_some]
    rw [r2]
    simp only [Option.bind_some, if_true]
    rw [wrap_succ (by omega)]
    exact ih (i + 1) k (by omega) (by omega)

theorem WindowTells : hourglasslaw08_WindowTells.Pure := by
  intro a0 l1 a2 a3 a4 h0 hlen hlen4 hl h2 h3 h4
  have h0 := bu h0
  have h2 := bu h2
  have h3 := bu h3
  have hm : 0 ≤ mn (l1.length : Int) 8 ∧ mn (l1.length : Int) 8 ≤ l1.length := by unfold mn; split <;> omega
  obtain ⟨ds, hds⟩ : ∃ ds, l1.take (mn (l1.length : Int) 8).toNat = ds := ⟨_, rfl⟩
  have hd : ∀ x ∈ ds, 0 ≤ x ∧ x ≤ 4294967295 := by
    rw [← hds]; exact fun x hx => bu32 (hl x (List.mem_of_mem_take hx))
  refine ⟨70, ?_⟩
  unfold hourglasslaw08_WindowTells.f
  rw [shown_is 70 (by omega), hds]
  simp only [Option.bind_some]
  rw [if_pos hm.1, if_pos hm.2]
  by_cases hn : ds.length < 1 ∨ 5 < ds.length
  · rw [windows_arg hn 70 (by omega), rwindows_arg hn 70 (by omega), latest_arg hn 70 (by omega), rlatest_arg hn 70 (by omega)]
    simp only [Option.bind_some]
    simp only [if_true, List.length_nil, bne_self_eq_false, hourglasslaw08_WindowTells.j0, Bool.false_eq_true, if_false]
    exact tells_l0 (s := 0) (link := 0) (skew := 0) (ds := []) 0 (by omega) 0 0 69 (by omega) (by omega)
  · have n1 : 1 ≤ ds.length := by omega
    have n5 : ds.length ≤ 5 := by omega
    rw [windows_is h0 h2 h3 hd n1 n5 70 (by omega), rwindows_is h0 h2 h3 hd n1 n5 70 (by omega), latest_is h0 h2 h3 hd n1 n5 70 (by omega), rlatest_is h0 h2 h3 hd n1 n5 70 (by omega)]
    simp only [Option.bind_some]
    unfold winR winR6
    by_cases hH : hiT a0 a2 a3 ds (ds.length - 1) ≤ 18446744073709551615
    · rw [if_pos hH, if_pos hH]
      simp only [winL_len, winL6_len, bne_self_eq_false, if_true]
      simp only [hourglasslaw08_WindowTells.j0, Bool.false_eq_true, if_false]
      exact tells_l0 ds.length n5 ds.length 0 69 (by omega) (by omega)
    · rw [if_neg hH, if_neg hH]
      simp only [List.length_nil, bne_self_eq_false, if_true]
      simp only [hourglasslaw08_WindowTells.j0, Bool.false_eq_true, if_false]
      exact tells_l0 (s := 0) (link := 0) (skew := 0) (ds := []) 0 (by omega) 0 0 69 (by omega) (by omega)

end Go.Proofs.Ytehghblhjclpdaa.WB
