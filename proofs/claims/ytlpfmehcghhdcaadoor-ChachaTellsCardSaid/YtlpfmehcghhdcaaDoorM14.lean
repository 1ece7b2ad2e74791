/- The document's block is the plain one. -/
import Derived.Test.YtlpfmehcghhdcaaDoorM13
namespace Go.Proofs.YtlpfmehcghhdcaaDoor.XB
open Go.RowKit Go.Proofs.YtlpfmehcghhdcaaDoorW.PrintWords Go.Proofs.YtlpfmehcghhdcaaDoorW.PrintLast Go.Proofs.YtlpfmehcghhdcaaDoorW.PrintMore PChachaTells
set_option linter.unusedVariables false
set_option linter.unusedSimpArgs false

theorem w64 (n : Int) (h : -9223372036854775808 ≤ n ∧ n ≤ 9223372036854775807) : wrap64 n = n := IntWalk.wrap64_in n h
theorem l2_run (F L : List Int) (hL : L.length = 16) (r : Int) (m : Nat) : ∀ d j : Nat, j + d = 4 → hourglassref05_Block.l2 (m + d + 1) F (quartersL j L) r (j : Int) = hourglassref05_Block.l3 m F (quartersL 4 L) r 0 := by
  intro d
  induction d with
  | zero =>
    intro j hj
    obtain rfl : j = 4 := by omega
    unfold hourglassref05_Block.l2
    rw [if_neg (by decide)]
  | succ d ih =>
    intro j hj
    unfold hourglassref05_Block.l2
    rw [if_pos (by omega), w64 _ (by omega), w64 _ (by omega), w64 _ (by omega), w64 _ (by omega)]
    have hq : hourglassref05_quarter.f (quartersL j L) (j : Int) (4 + (j : Int)) (8 + (j : Int)) (12 + (j : Int)) = some (quartersL (j + 1) L) := by
      have h := quarter_ref (quartersL j L) (by rw [quartersL_len, hL]) j (4 + j) (8 + j) (12 + j) (by omega) (by omega) (by omega) (by omega) (by omega) (by omega) (by omega) (by omega) (by omega) (by omega)
      have hs : qs j = (j, 4 + j, 8 + j, 12 + j) := by
        have : ∀ j, j < 4 → qs j = (j, 4 + j, 8 + j, 12 + j) := by decide
        exact this j (by omega)
      rw [quartersL, hs]
      exact h
    rw [hq]
    simp only [Option.bind_some]
    have := ih (j + 1) (by omega)
    rw [show (j : Int) + 1 = ((j + 1 : Nat) : Int) by omega, show m + (d + 1) = m + d + 1 by omega]
    exact this
theorem qs_hi (j : Nat) (hj : j < 4) : (qs (4 + j)).1 = j ∧ wrap64 (4 + (Int.tmod (wrap64 ((j : Int) + 1)) 4)) = ((qs (4 + j)).2.1 : Int) ∧ wrap64 (8 + (Int.tmod (wrap64 ((j : Int) + 2)) 4)) = ((qs (4 + j)).2.2.1 : Int) ∧ wrap64 (12 + (Int.tmod (wrap64 ((j : Int) + 3)) 4)) = ((qs (4 + j)).2.2.2 : Int) := by
  have e1 : wrap64 ((j : Int) + 1) = ((j + 1 : Nat) : Int) := (w64 _ (by omega)).trans (by omega)
  have e2 : wrap64 ((j : Int) + 2) = ((j + 2 : Nat) : Int) := (w64 _ (by omega)).trans (by omega)
  have e3 : wrap64 ((j : Int) + 3) = ((j + 3 : Nat) : Int) := (w64 _ (by omega)).trans (by omega)
  have t : ∀ n : Nat, Int.tmod (n : Int) 4 = ((n % 4 : Nat) : Int) := fun n => by
    rw [Int.tmod_eq_emod_of_nonneg (by omega)]; omega
  rw [e1, e2, e3, t, t, t, w64 _ (by omega), w64 _ (by omega), w64 _ (by omega)]
  have q : ∀ j : Nat, j < 4 → (qs (4 + j)).1 = j ∧ (qs (4 + j)).2.1 = 4 + (j + 1) % 4 ∧ (qs (4 + j)).2.2.1 = 8 + (j + 2) % 4 ∧ (qs (4 + j)).2.2.2 = 12 + (j + 3) % 4 := by decide
  obtain ⟨q1, q2, q3, q4⟩ := q j hj
  rw [q2, q3, q4]
  exact ⟨q1, by omega, by omega, by omega⟩
theorem quarter_hi (L : List Int) (hL : L.length = 16) (j : Nat) (hj : j < 4) : hourglassref05_quarter.f (quartersL (4 + j) L) (j : Int) (wrap64 (4 + (Int.tmod (wrap64 ((j : Int) + 1)) 4))) (wrap64 (8 + (Int.tmod (wrap64 ((j : Int) + 2)) 4))) (wrap64 (12 + (Int.tmod (wrap64 ((j : Int) + 3)) 4))) = some (quartersL (4 + (j + 1)) L) := by
  obtain ⟨h1, h2, h3, h4⟩ := qs_hi j hj
  obtain ⟨l0, l1, l2, l3, n01, n02, n03, n12, n13, n23⟩ := qs_ok (4 + j) (by omega)
  have h := quarter_ref (quartersL (4 + j) L) (by rw [quartersL_len, hL]) _ _ _ _ l0 l1 l2 l3 n01 n02 n03 n12 n13 n23
  rw [h2, h3, h4, show 4 + (j + 1) = (4 + j) + 1 by omega, quartersL]
  rw [h1] at h
  rw [h]
  have e : ((j, (qs (4 + j)).2.1, (qs (4 + j)).2.2.1, (qs (4 + j)).2.2.2) : Nat × Nat × Nat × Nat) = qs (4 + j) := by
    rw [← h1]
    have : ∀ j : Nat, j < 4 → (((qs (4 + j)).1, (qs (4 + (qs (4 + j)).1)).2.1, (qs (4 + (qs (4 + j)).1)).2.2.1, (qs (4 + (qs (4 + j)).1)).2.2.2) : Nat × Nat × Nat × Nat) = qs (4 + (qs (4 + j)).1) := by decide
    exact this j hj
  rw [e]
theorem v1 : wrap64 (0 + 1) = 1 := by kernel_rfl
theorem v2 : wrap64 (1 + 1) = 2 := by kernel_rfl
theorem v3 : wrap64 (2 + 1) = 3 := by kernel_rfl
theorem v4 : wrap64 (3 + 1) = 4 := by kernel_rfl
theorem push_front (x : Int) (L : List Int) : strOfNums [x] ++ strOfNums L = strOfNums (x :: L) := by rw [← strOfNums_append]; rfl
theorem text_run (n : Int) (h0 : 0 ≤ n) (h1 : n ≤ 4294967295) (m : Nat) : hourglassref01_Text.f (m + 5) n 4 = some (strOfNums [n / 16777216 % 256, n / 65536 % 256, n / 256 % 256, n % 256]) := by
  have td : ∀ x : Int, 0 ≤ x → x ≤ 4294967295 → IntKind.u64.wrap (Int.tdiv x 256) = x / 256 := by
    intro x hx hx1
    rw [Int.tdiv_eq_ediv_of_nonneg hx, IntKind.wrap_u64]; omega
  have tm : ∀ x : Int, 0 ≤ x → Int.tmod x 256 % 256 = x % 256 := by
    intro x hx
    rw [Int.tmod_eq_emod_of_nonneg hx]; omega
  have e0 : (⟨#[]⟩ : ByteArray) = strOfNums [] := rfl
  unfold hourglassref01_Text.f
  rw [e0]
  unfold hourglassref01_Text.l0
  rw [if_pos (by decide), tm _ h0, td _ h0 h1]
  simp only [Option.bind_some]
  rw [if_pos (by rw [strOfNums_size, strOfNums_size]; simp), push_front]
  try simp only [v1, v2, v3, v4]
  unfold hourglassref01_Text.l0
  rw [if_pos (by decide), tm _ (by omega), td _ (by omega) (by omega)]
  simp only [Option.bind_some]
  rw [if_pos (by rw [strOfNums_size, strOfNums_size]; simp), push_front]
  try simp only [v1, v2, v3, v4]
  unfold hourglassref01_Text.l0
  rw [if_pos (by decide), tm _ (by omega), td _ (by omega) (by omega)]
  simp only [Option.bind_some]
  rw [if_pos (by rw [strOfNums_size, strOfNums_size]; simp), push_front]
  try simp only [v1, v2, v3, v4]
  unfold hourglassref01_Text.l0
  rw [if_pos (by decide), tm _ (by omega), td _ (by omega) (by omega)]
  simp only [Option.bind_some]
  rw [if_pos (by rw [strOfNums_size, strOfNums_size]; simp), push_front]
  try simp only [v1, v2, v3, v4]
  unfold hourglassref01_Text.l0
  rw [if_neg (by decide)]
  rw [show n / 256 / 256 = n / 65536 by omega, show n / 65536 / 256 = n / 16777216 by omega]
theorem str_mid (L : List Int) (a b : Nat) : (strOfNums L).extract a b = strOfNums ((L.take b).drop a) := by
  apply ByteArray.ext
  simp [strOfNums, List.map_drop, List.map_take, List.drop_take]
theorem turned_run (a b c d : Int) (m : Nat) : hourglassref05_turned.f (m + 5) (strOfNums [a, b, c, d]) = some (strOfNums [d, c, b, a]) := by
  have e0 : (⟨#[]⟩ : ByteArray) = strOfNums [] := rfl
  have sz : (strOfNums [a, b, c, d]).size = 4 := strOfNums_size _
  unfold hourglassref05_turned.f
  rw [e0]
  unfold hourglassref05_turned.l0
  try simp only [v1, v2, v3, v4]
  rw [sz, if_pos (by decide), if_pos (by decide), if_pos (by decide), if_pos (by decide), str_mid]
  rw [if_pos (by rw [strOfNums_size, strOfNums_size]; simp), ← strOfNums_append]
  unfold hourglassref05_turned.l0
  try simp only [v1, v2, v3, v4]
  rw [sz, if_pos (by decide), if_pos (by decide), if_pos (by decide), if_pos (by decide), str_mid]
  rw [if_pos (by rw [strOfNums_size, strOfNums_size]; simp), ← strOfNums_append]
  unfold hourglassref05_turned.l0
  try simp only [v1, v2, v3, v4]
  rw [sz, if_pos (by decide), if_pos (by decide), if_pos (by decide), if_pos (by decide), str_mid]
  rw [if_pos (by rw [strOfNums_size, strOfNums_size]; simp), ← strOfNums_append]
  unfold hourglassref05_turned.l0
  try simp only [v1, v2, v3, v4]
  rw [sz, if_pos (by decide), if_pos (by decide), if_pos (by decide), if_pos (by decide), str_mid]
  rw [if_pos (by rw [strOfNums_size, strOfNums_size]; simp), ← strOfNums_append]
  unfold hourglassref05_turned.l0
  try simp only [v1, v2, v3, v4]
  rw [sz, if_neg (by decide)]
  rfl
end Go.Proofs.YtlpfmehcghhdcaaDoor.XB
