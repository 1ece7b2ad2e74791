/- The document's block is the plain one. -/
import Derived.Test.YtlpfmehcghhdcaaDoorM14
namespace Go.Proofs.YtlpfmehcghhdcaaDoor.XB
open Go.RowKit Go.Proofs.YtlpfmehcghhdcaaDoorW.PrintWords Go.Proofs.YtlpfmehcghhdcaaDoorW.PrintLast Go.Proofs.YtlpfmehcghhdcaaDoorW.PrintMore PChachaTells
set_option linter.unusedVariables false
set_option linter.unusedSimpArgs false

theorem l3_zero (F L : List Int) (r : Nat) (hr : r < 10) (m : Nat) : hourglassref05_Block.l3 (m + 1) F (quartersL 8 L) (r : Int) ((4 : Nat) : Int) = hourglassref05_Block.l1 m F (quartersL 8 L) ((r + 1 : Nat) : Int) := by
  unfold hourglassref05_Block.l3
  have e : wrap64 ((r : Int) + 1) = ((r + 1 : Nat) : Int) := (w64 _ (by omega)).trans (by omega)
  rw [if_neg (by decide), e]
theorem l3_step (F L : List Int) (hL : L.length = 16) (r : Nat) (m j : Nat) (hj : j < 4) : hourglassref05_Block.l3 (m + 1) F (quartersL (4 + j) L) (r : Int) (j : Int) = hourglassref05_Block.l3 m F (quartersL (4 + (j + 1)) L) (r : Int) ((j + 1 : Nat) : Int) := by
  have e : wrap64 ((j : Int) + 1) = ((j + 1 : Nat) : Int) := (w64 _ (by omega)).trans (by omega)
  have hq := quarter_hi L hL j hj
  generalize quartersL (4 + (j + 1)) L = Z at hq ⊢
  generalize quartersL (4 + j) L = Y at hq ⊢
  have hu : hourglassref05_Block.l3 (m + 1) F Y (r : Int) (j : Int) = if (j : Int) < 4 then ((hourglassref05_quarter.f Y (j : Int) (wrap64 (4 + (Int.tmod (wrap64 ((j : Int) + 1)) 4))) (wrap64 (8 + (Int.tmod (wrap64 ((j : Int) + 2)) 4))) (wrap64 (12 + (Int.tmod (wrap64 ((j : Int) + 3)) 4)))).bind fun t162 => (hourglassref05_Block.l3 m F t162 (r : Int) (wrap64 ((j : Int) + 1)))) else (hourglassref05_Block.l1 m F Y (wrap64 ((r : Int) + 1))) := by rw [hourglassref05_Block.l3]
  rw [hu, if_pos (by omega), hq, Option.bind_some, e]
theorem l3_run (F L : List Int) (hL : L.length = 16) (r : Nat) (hr : r < 10) (m : Nat) : ∀ d j : Nat, j + d = 4 → hourglassref05_Block.l3 (m + d + 1) F (quartersL (4 + j) L) (r : Int) (j : Int) = hourglassref05_Block.l1 m F (quartersL 8 L) ((r + 1 : Nat) : Int) := by
  intro d
  induction d with
  | zero =>
    intro j hj
    obtain rfl : j = 4 := by omega
    exact l3_zero F L r hr m
  | succ d ih =>
    intro j hj
    have h := l3_step F L hL r (m + d + 1) j (by omega)
    rw [show m + (d + 1) + 1 = m + d + 1 + 1 by omega, h]
    exact ih (j + 1) (by omega)
theorem l1_zero (F L : List Int) (m : Nat) : hourglassref05_Block.l1 (m + 1) F L ((10 : Nat) : Int) = hourglassref05_Block.l4 m F L (⟨#[]⟩ : ByteArray) 0 := by
  rw [hourglassref05_Block.l1, if_neg (by decide)]
theorem l1_step (F L : List Int) (m r : Nat) (hr : r < 10) : hourglassref05_Block.l1 (m + 1) F L (r : Int) = hourglassref05_Block.l2 m F L (r : Int) 0 := by
  rw [hourglassref05_Block.l1, if_pos (by omega)]
theorem l1_run (F L : List Int) (hL : L.length = 16) (m : Nat) : ∀ d r : Nat, r + d = 10 → hourglassref05_Block.l1 (m + 11 * d + 1) F (roundsL r L) (r : Int) = hourglassref05_Block.l4 m F (roundsL 10 L) (⟨#[]⟩ : ByteArray) 0 := by
  intro d
  induction d with
  | zero =>
    intro r hr
    obtain rfl : r = 10 := by omega
    exact l1_zero F _ m
  | succ d ih =>
    intro r hr
    have h16 : (roundsL r L).length = 16 := by rw [roundsL_len, hL]
    have h1 := l1_step F (roundsL r L) (m + 11 * d + 1 + 4 + 1 + 4 + 1) r (by omega)
    have h2 := l2_run F (roundsL r L) h16 (r : Int) (m + 11 * d + 1 + 4 + 1) 4 0 (by omega)
    have h3 := l3_run F (roundsL r L) h16 r (by omega) (m + 11 * d + 1) 4 0 (by omega)
    have h4 := ih (r + 1) (by omega)
    rw [show m + 11 * (d + 1) + 1 = m + 11 * d + 1 + 4 + 1 + 4 + 1 + 1 by omega, h1]
    refine Eq.trans ?_ h4
    refine Eq.trans ?_ h3
    exact h2
end Go.Proofs.YtlpfmehcghhdcaaDoor.XB
