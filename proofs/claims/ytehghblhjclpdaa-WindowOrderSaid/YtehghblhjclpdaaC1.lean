/- The window's functions in closed form: plain facts on numbers and lists. -/
import Derived.Test.YtehghblhjclpdaaB2
namespace Go.Proofs.Ytehghblhjclpdaa.WB
open Go.RowKit Go.Proofs.YtehghblhjclpdaaW.PrintWords Go.Proofs.YtehghblhjclpdaaW.PrintLast Go.Proofs.YtehghblhjclpdaaW.PrintMore PWindowTells
attribute [local go_sem] max2_int min2_int max_two min_two max_three min_three max_four min_four   -- for this text's walks alone
set_option linter.unusedVariables false
set_option linter.unusedSimpArgs false

theorem wu (n : Int) : IntKind.u64.wrap n = n % 18446744073709551616 := by simp [IntKind.wrap, IntKind.bits, IntKind.signed]

theorem bu {a : Int} (h : (Lit.int .u64 a).wf = true) : 0 ≤ a ∧ a ≤ 18446744073709551615 := by
  simpa [Lit.wf, IntKind.min, IntKind.max, IntKind.signed, IntKind.bits] using h

theorem bu32 {a : Int} (h : (Lit.int .u32 a).wf = true) : 0 ≤ a ∧ a ≤ 4294967295 := by
  simpa [Lit.wf, IntKind.min, IntKind.max, IntKind.signed, IntKind.bits] using h

theorem bi {a : Int} (h : (Lit.int .i64 a).wf = true) : -9223372036854775808 ≤ a ∧ a ≤ 9223372036854775807 := by
  simpa [Lit.wf, IntKind.min, IntKind.max, IntKind.signed, IntKind.bits] using h

def addD (a b : Int) : Int × Bool := if a + b ≤ 18446744073709551615 then (a + b, true) else (0, false)
def lessD (a b : Int) : Int := if b ≤ a then a - b else 0

theorem add_is {a b : Int} (ha : 0 ≤ a ∧ a ≤ 18446744073709551615) (hb : 0 ≤ b ∧ b ≤ 18446744073709551615) :
    clock_Add.f a b = some (addD a b) := by
  unfold clock_Add.f clock_told.f addD
  rw [wu]
  by_cases h : a + b ≤ 18446744073709551615
  · have e : (a + b) % 18446744073709551616 = a + b := by omega
    rw [e, if_pos h, if_pos (by simp; omega)]; rfl
  · have e : ¬ (a + b) % 18446744073709551616 ≥ a := by omega
    rw [if_neg h, if_neg (by simp; omega)]; rfl

theorem less_is {a b : Int} (ha : 0 ≤ a ∧ a ≤ 18446744073709551615) (hb : 0 ≤ b ∧ b ≤ 18446744073709551615) :
    clock_Less.f a b = some (lessD a b) := by
  unfold clock_Less.f lessD mn
  rw [wu]
  by_cases h : b < a
  · rw [if_pos h, if_pos (by omega)]; congr 1; omega
  · rw [if_neg h]
    by_cases e : b ≤ a
    · rw [if_pos e]; congr 1; omega
    · rw [if_neg e]; congr 1; omega

/-- A sum that goes as far as numbers go: x is the sum, p what the program holds of it. -/
def Sm (x : Int) (p : Int × Bool) : Prop := 0 ≤ p.1 ∧ p.1 ≤ 18446744073709551615 ∧ ((x ≤ 18446744073709551615 ∧ p = (x, false)) ∨ (18446744073709551615 < x ∧ p.2 = true))

theorem plus_is {x b : Int} {p : Int × Bool} (h : Sm x p) (hx : 0 ≤ x) (hb : 0 ≤ b ∧ b ≤ 18446744073709551615) :
    ∃ q, window_sum_plus.f p.1 p.2 b = some q ∧ Sm (x + b) q := by
  obtain ⟨h0, h1, h⟩ := h
  unfold window_sum_plus.f
  rw [add_is ⟨h0, h1⟩ hb]
  rcases h with ⟨hle, rfl⟩ | ⟨hgt, hp⟩
  · unfold addD
    by_cases hs : x + b ≤ 18446744073709551615
    · rw [if_pos hs]; exact ⟨_, rfl, by show 0 ≤ x + b; omega, hs, Or.inl ⟨hs, rfl⟩⟩
    · rw [if_neg hs]; exact ⟨_, rfl, by decide, by decide, Or.inr ⟨by omega, rfl⟩⟩
  · rw [hp]
    refine ⟨((addD p.1 b).1, true), rfl, ?_, ?_, Or.inr ⟨by omega, rfl⟩⟩
    · show 0 ≤ (addD p.1 b).1; unfold addD; split <;> simp; omega
    · show (addD p.1 b).1 ≤ _; unfold addD; split <;> simp; omega

def sumT (ds : List Int) (i : Nat) : Int := (ds.take i).sum

theorem sumT_zero (ds : List Int) : sumT ds 0 = 0 := rfl

theorem sumT_succ {ds : List Int} {i : Nat} (h : i < ds.length) : sumT ds (i + 1) = sumT ds i + rd ds i := by
  unfold sumT rd
  rw [List.take_succ_eq_append_getElem h, List.sum_append]
  simp [List.getD, h]

theorem rd_bd {ds : List Int} (hd : ∀ x ∈ ds, 0 ≤ x ∧ x ≤ 4294967295) {i : Nat} (h : i < ds.length) : 0 ≤ rd ds i ∧ rd ds i ≤ 4294967295 := by
  unfold rd
  have : ds.getD (i : Int).toNat 0 = ds[i] := by simp [List.getD, h]
  rw [this]; exact hd _ (List.getElem_mem h)

theorem sumT_bd {ds : List Int} (hd : ∀ x ∈ ds, 0 ≤ x ∧ x ≤ 4294967295) (i : Nat) (h : i ≤ ds.length) : 0 ≤ sumT ds i ∧ sumT ds i ≤ i * 4294967295 := by
  induction i with
  | zero => simp [sumT_zero]
  | succ i ih =>
    have a := ih (by omega)
    have b := rd_bd hd (show i < ds.length by omega)
    rw [sumT_succ (by omega)]; constructor <;> omega

theorem sumT_mono {ds : List Int} (hd : ∀ x ∈ ds, 0 ≤ x ∧ x ≤ 4294967295) (i j : Nat) (hij : i ≤ j) (h : j ≤ ds.length) : sumT ds i ≤ sumT ds j := by
  induction j with
  | zero => have : i = 0 := by omega
            subst this; exact Int.le_refl _
  | succ j ih =>
    by_cases e : i = j + 1
    · subst e; exact Int.le_refl _
    · have a := ih (by omega) (by omega)
      have b := rd_bd hd (show j < ds.length by omega)
      rw [sumT_succ (by omega)]; omega

def hiT (s link skew : Int) (ds : List Int) (i : Nat) : Int := s + sumT ds i + ((i : Int) * link + link) + skew
def winI (s link skew : Int) (ds : List Int) (i : Nat) : S35 := ⟨lessD (s + sumT ds i) skew, hiT s link skew ds i⟩
def winL (s link skew : Int) (ds : List Int) (n : Nat) : List S35 := (List.range n).map (winI s link skew ds)

theorem hiT_mono {s link skew : Int} {ds : List Int} (hl : 0 ≤ link) (hd : ∀ x ∈ ds, 0 ≤ x ∧ x ≤ 4294967295) {i j : Nat} (hij : i ≤ j) (h : j ≤ ds.length) : hiT s link skew ds i ≤ hiT s link skew ds j := by
  unfold hiT
  have a := sumT_mono hd i j hij h
  have b : (i : Int) * link ≤ (j : Int) * link := Int.mul_le_mul_of_nonneg_right (by omega) hl
  omega

theorem winL_len (s link skew : Int) (ds : List Int) (n : Nat) : (winL s link skew ds n).length = n := by simp [winL]

theorem winL_succ (s link skew : Int) (ds : List Int) (n : Nat) : winL s link skew ds (n + 1) = winL s link skew ds n ++ [winI s link skew ds n] := by
  simp [winL, List.range_succ]

theorem winL_rd {s link skew : Int} {ds : List Int} {n i : Nat} (h : i < n) : rd_T35 (winL s link skew ds n) i = winI s link skew ds i := by
  simp [rd_T35, winL, List.getD, h]

theorem wrap_succ {i : Nat} (h : i ≤ 100) : wrap64 ((i : Int) + 1) = ((i + 1 : Nat) : Int) := by unfold wrap64; omega

def winR (s link skew : Int) (ds : List Int) : List S35 × Int :=
  if hiT s link skew ds (ds.length - 1) ≤ 18446744073709551615 then (winL s link skew ds ds.length, 0) else ([], 9)

theorem l0_is {s link skew : Int} {ds : List Int} (hs : 0 ≤ s) (hl : 0 ≤ link ∧ link ≤ 18446744073709551615) (hk : 0 ≤ skew ∧ skew ≤ 18446744073709551615)
    (hd : ∀ x ∈ ds, 0 ≤ x ∧ x ≤ 4294967295) (h1 : 1 ≤ ds.length) (h5 : ds.length ≤ 5) (m : Nat) :
    ∀ (i k : Nat) (t l : Int × Bool), i + m = ds.length → Sm (s + sumT ds i) t → Sm ((i : Int) * link) l → (∀ j, j < i → hiT s link skew ds j ≤ 18446744073709551615) → 2 * m < k →
      window_Windows.l0 k link skew (winL s link skew ds i) ds ds.length i t.1 t.2 l.1 l.2 = some (winR s link skew ds) := by
  induction m with
  | zero =>
    intro i k t l hi ht hlk hprev hk2
    obtain ⟨k, rfl⟩ : ∃ n, k = n + 1 := ⟨k - 1, by omega⟩
    unfold window_Windows.l0
    have e : i = ds.length := by omega
    rw [if_neg (by omega), e]
    unfold winR
    rw [if_pos (hprev _ (by omega))]
  | succ m ih =>
    intro i k t l hi ht hlk hprev hk2
    obtain ⟨k, rfl⟩ : ∃ n, k = n + 2 := ⟨k - 2, by omega⟩
    have hT := sumT_bd hd i (by omega)
    have hL : 0 ≤ (i : Int) * link := Int.mul_nonneg (by omega) hl.1
    have hr := rd_bd hd (show i < ds.length by omega)
    obtain ⟨q1, e1, s1⟩ := plus_is hlk hL hl
    obtain ⟨q2, e2, s2⟩ := plus_is (b := q1.1) ht (by omega) ⟨s1.1, s1.2.1⟩
    obtain ⟨q3, e3, s3⟩ := plus_is s2 (by have := s1.1; omega) hk
    obtain ⟨q4, e4, s4⟩ := plus_is (b := rd ds i) ht (by omega) ⟨hr.1, by omega⟩
    have hw : IntKind.u64.wrap (rd ds i) = rd ds i := by rw [wu]; omega
    unfold window_Windows.l0
    rw [if_pos (by omega), if_pos (by omega), if_pos (by omega), e1]
    simp only [Option.bind_some]
    rw [e2]
    simp only [Option.bind_some]
    rw [e3]
    simp only [Option.bind_some]
    by_cases hH : hiT s link skew ds i ≤ 18446744073709551615
    · -- both sums go
      have hH' : s + sumT ds i + ((i : Int) * link + link) + skew ≤ 18446744073709551615 := hH
      have q1e : q1 = ((i : Int) * link + link, false) := by
        rcases s1.2.2 with ⟨_, h⟩ | ⟨h, _⟩
        · exact h
        · omega
      have te : t = (s + sumT ds i, false) := by
        rcases ht.2.2 with ⟨_, h⟩ | ⟨h, _⟩
        · exact h
        · omega
      subst q1e
      have q3e : q3 = (hiT s link skew ds i, false) := by
        rcases s3.2.2 with ⟨_, h⟩ | ⟨h, _⟩
        · exact h
        · exfalso; have : 18446744073709551615 < s + sumT ds i + ((i : Int) * link + link) + skew := h; omega
      subst q3e
      subst te
      rw [if_neg (by simp)]
      unfold window_Windows.j2
      rw [if_neg (by simp), less_is (by show 0 ≤ s + sumT ds i ∧ _; omega) hk]
      simp only [Option.bind_some]
      rw [if_pos (by rw [winL_len]; omega), hw, e4]
      simp only [Option.bind_some]
      rw [wrap_succ (by omega)]
      have hwin : winL s link skew ds i ++ [⟨lessD (s + sumT ds i) skew, hiT s link skew ds i⟩] = winL s link skew ds (i + 1) := by rw [winL_succ]; rfl
      rw [hwin]
      refine ih (i + 1) k q4 ((i : Int) * link + link, false) (by omega) ?_ ?_ ?_ (by omega)
      · rw [sumT_succ (by omega), ← Int.add_assoc]; exact s4
      · have : ((i + 1 : Nat) : Int) * link = (i : Int) * link + link := by rw [Int.natCast_succ, Int.add_mul, Int.one_mul]
        rw [this]; exact s1
      · intro j hj
        by_cases e : j = i
        · subst e; exact hH
        · exact hprev j (by omega)
    · -- too large
      have hR : winR s link skew ds = ([], 9) := by
        unfold winR
        rw [if_neg]
        have := hiT_mono (s := s) (skew := skew) hl.1 hd (show i ≤ ds.length - 1 by omega) (by omega)
        omega
      have hb : q3.2 = true ∨ q1.2 = true := by
        rcases s1.2.2 with ⟨hle, h⟩ | ⟨_, h⟩
        · left
          rcases s3.2.2 with ⟨h3, _⟩ | ⟨_, h3⟩
          · exfalso; rw [h] at h3; apply hH; exact h3
          · exact h3
        · right; exact h
      rw [hR]
      by_cases h3 : q3.2 = true
      · rw [if_pos h3]; unfold window_Windows.j2; rw [if_pos rfl]
      · rw [if_neg h3]
        have := hb.resolve_left h3
        rw [this]; unfold window_Windows.j2; rw [if_pos rfl]

theorem windows_is {s link skew : Int} {ds : List Int} (hs : 0 ≤ s ∧ s ≤ 18446744073709551615) (hl : 0 ≤ link ∧ link ≤ 18446744073709551615) (hk : 0 ≤ skew ∧ skew ≤ 18446744073709551615)
    (hd : ∀ x ∈ ds, 0 ≤ x ∧ x ≤ 4294967295) (h1 : 1 ≤ ds.length) (h5 : ds.length ≤ 5) (k : Nat) (hk2 : 20 ≤ k) :
    window_Windows.f k s ds link skew = some (winR s link skew ds) := by
  unfold window_Windows.f
  rw [if_neg (by omega)]
  have e : decide ((ds.length : Int) > 5) = false := by simp; omega
  rw [e]
  obtain ⟨k, rfl⟩ : ∃ n, k = n + 1 := ⟨k - 1, by omega⟩
  simp only [window_Windows.j0]
  rw [if_neg (by simp)]
  refine l0_is hs.1 hl hk hd h1 h5 ds.length 0 k (s, false) (0, false) (by omega) ?_ ?_ (fun j hj => absurd hj (by omega)) (by omega)
  · rw [sumT_zero]; exact ⟨hs.1, hs.2, Or.inl ⟨by omega, by simp⟩⟩
  · exact ⟨by decide, by decide, Or.inl ⟨by simp, by simp⟩⟩

theorem windows_arg {s link skew : Int} {ds : List Int} (h : ds.length < 1 ∨ 5 < ds.length) (k : Nat) (hk2 : 20 ≤ k) : window_Windows.f k s ds link skew = some ([], 1) := by
  unfold window_Windows.f
  obtain ⟨k, rfl⟩ : ∃ n, k = n + 1 := ⟨k - 1, by omega⟩
  rcases h with h | h
  · rw [if_pos (by omega)]; simp only [window_Windows.j0, if_true]
  · rw [if_neg (by omega)]
    have e : decide ((ds.length : Int) > 5) = true := by simp; omega
    rw [e]; simp only [window_Windows.j0, if_true]

def lateR (s link skew : Int) (ds : List Int) : Int × Bool :=
  if hiT s link skew ds (ds.length - 1) ≤ 18446744073709551615 then addD (hiT s link skew ds (ds.length - 1)) (rd ds ((ds.length - 1 : Nat) : Int)) else (0, false)

theorem hiT_nonneg {s link skew : Int} {ds : List Int} (hs : 0 ≤ s) (hl : 0 ≤ link) (hk : 0 ≤ skew) (hd : ∀ x ∈ ds, 0 ≤ x ∧ x ≤ 4294967295) {i : Nat} (h : i ≤ ds.length) : 0 ≤ hiT s link skew ds i := by
  unfold hiT
  have := (sumT_bd hd i h).1
  have hL : 0 ≤ (i : Int) * link := Int.mul_nonneg (by omega) hl
  omega

theorem latest_is {s link skew : Int} {ds : List Int} (hs : 0 ≤ s ∧ s ≤ 18446744073709551615) (hl : 0 ≤ link ∧ link ≤ 18446744073709551615) (hk : 0 ≤ skew ∧ skew ≤ 18446744073709551615)
    (hd : ∀ x ∈ ds, 0 ≤ x ∧ x ≤ 4294967295) (h1 : 1 ≤ ds.length) (h5 : ds.length ≤ 5) (k : Nat) (hk2 : 20 ≤ k) :
    window_Latest.f k s ds link skew = some (lateR s link skew ds) := by
  unfold window_Latest.f
  rw [windows_is hs hl hk hd h1 h5 k hk2]
  simp only [Option.bind_some]
  unfold winR lateR
  by_cases h : hiT s link skew ds (ds.length - 1) ≤ 18446744073709551615
  · rw [if_pos h, if_pos h]
    have e1 : wrap64 ((ds.length : Int) - 1) = ((ds.length - 1 : Nat) : Int) := by unfold wrap64; omega
    simp only [winL_len]
    rw [e1]
    have hr := rd_bd hd (show ds.length - 1 < ds.length by omega)
    have hw : IntKind.u64.wrap (rd ds ((ds.length - 1 : Nat) : Int)) = rd ds ((ds.length - 1 : Nat) : Int) := by rw [wu]; omega
    rw [if_pos trivial, if_pos (by omega), if_pos (by omega), if_pos (by omega), if_pos (by omega), winL_rd (by omega), hw]
    show (clock_Add.f (hiT s link skew ds (ds.length - 1)) _).bind _ = _
    rw [add_is ⟨hiT_nonneg hs.1 hl.1 hk.1 hd (by omega), h⟩ ⟨hr.1, by omega⟩]
    rfl
  · rw [if_neg h, if_neg h, if_neg (by decide)]

theorem latest_arg {s link skew : Int} {ds : List Int} (h : ds.length < 1 ∨ 5 < ds.length) (k : Nat) (hk2 : 20 ≤ k) : window_Latest.f k s ds link skew = some (0, false) := by
  unfold window_Latest.f
  rw [windows_arg h k hk2]; rfl

theorem shown_is (k : Nat) (h : 20 ≤ k) : hourglasslaw08_shown.f k = some true := by
  obtain ⟨n, rfl⟩ : ∃ n, k = 20 + n := ⟨k - 20, by omega⟩
  exact mono_add _ hourglasslaw08_shown.mono 20 n true shown_val

end Go.Proofs.Ytehghblhjclpdaa.WB
