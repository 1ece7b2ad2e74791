/- The plain law: For any start, delays cut to five, link and skew, the windows of the first delays are the first windows of all of them. No condition. -/
import Derived.Test.YtehghblhjclpdaaC2
import Derived.Test.YtehghblhjclpdaaLParts
namespace Go.Proofs.Ytehghblhjclpdaa.WB
open Go.RowKit Go.Proofs.YtehghblhjclpdaaW.PrintWords Go.Proofs.YtehghblhjclpdaaW.PrintLast Go.Proofs.YtehghblhjclpdaaW.PrintMore PWindowTells
attribute [local go_sem] max2_int min2_int max_two min_two max_three min_three max_four min_four   -- for this text's walks alone
set_option linter.unusedVariables false
set_option linter.unusedSimpArgs false

theorem sumT_take {ds : List Int} {n i : Nat} (h : i ≤ n) : sumT (ds.take n) i = sumT ds i := by
  unfold sumT; rw [List.take_take, Nat.min_eq_left h]

theorem winI_take {s link skew : Int} {ds : List Int} {n i : Nat} (h : i ≤ n) : winI s link skew (ds.take n) i = winI s link skew ds i := by
  unfold winI hiT; rw [sumT_take h]

theorem parts_l0 {s link skew : Int} {ds : List Int} {n : Nat} (hn : n ≤ ds.length) (h5 : ds.length ≤ 5) (m : Nat) :
    ∀ (i k : Nat), i + m = n → m < k →
      hourglasslaw08_WindowParts.l0 k n true (winL s link skew ds ds.length) (winL s link skew (ds.take n) n) i = some true := by
  induction m with
  | zero =>
    intro i k hi hk2
    obtain ⟨k, rfl⟩ : ∃ n, k = n + 1 := ⟨k - 1, by omega⟩
    simp only [hourglasslaw08_WindowParts.l0]
    rw [if_neg (by omega)]
  | succ m ih =>
    intro i k hi hk2
    obtain ⟨k, rfl⟩ : ∃ n, k = n + 1 := ⟨k - 1, by omega⟩
    simp only [hourglasslaw08_WindowParts.l0]
    rw [if_pos (by omega), if_pos (by omega), if_pos (by rw [winL_len]; omega), if_pos (by rw [winL_len]; omega), winL_rd (by omega), winL_rd (by omega), winI_take (by omega), if_neg (by simp), wrap_succ (by omega)]
    exact ih (i + 1) k (by omega) (by omega)

theorem n16 {x : Int} : ∃ y : Int, Go.bits .and .i64 x 65535 = y ∧ 0 ≤ y ∧ y ≤ 65535 := by
  refine ⟨_, rfl, ?_⟩
  have e : Go.bits .and .i64 x 65535 = IntKind.i64.wrap (((BitVec.ofInt 64 x) &&& (BitVec.ofInt 64 65535)).toNat : Int) := rfl
  have hb : ((BitVec.ofInt 64 x) &&& (BitVec.ofInt 64 65535)).toNat ≤ 65535 := by
    rw [BitVec.toNat_and]
    exact Nat.le_trans Nat.and_le_right (by decide)
  rw [e]
  generalize ((BitVec.ofInt 64 x) &&& (BitVec.ofInt 64 65535)).toNat = v at *
  rw [IntKind.wrap_i64]; omega

theorem WindowParts : hourglasslaw08_WindowParts.Pure := by
  intro a0 l1 a2 a3 a4 h0 hlen hlen4 hl h2 h3 h4
  have h0 := bu h0
  have h2 := bu h2
  have h3 := bu h3
  obtain ⟨ds, hds, h5, hd, c1, c2⟩ := cut_is l1 hl
  refine ⟨40, ?_⟩
  unfold hourglasslaw08_WindowParts.f
  rw [shown_is 40 (by omega), hds]
  simp only [Option.bind_some]
  rw [if_pos c1, if_pos c2]
  by_cases hn : ds.length < 1
  · rw [windows_arg (Or.inl hn) 40 (by omega)]
    simp only [Option.bind_some]
    rw [if_neg (by decide)]
  · rw [windows_is h0 h2 h3 hd (by omega) h5 40 (by omega)]
    simp only [Option.bind_some]
    unfold winR
    by_cases hH : hiT a0 a2 a3 ds (ds.length - 1) ≤ 18446744073709551615
    · rw [if_pos hH, if_pos rfl, if_neg (by omega)]
      obtain ⟨y, hy, hy0, hy1⟩ := n16 (x := a4)
      rw [hy]
      have e : ∃ n : Nat, wrap64 (1 + Int.tmod y (ds.length : Int)) = n ∧ 1 ≤ n ∧ n ≤ ds.length := by
        refine ⟨1 + y.toNat % ds.length, ?_, by omega, ?_⟩
        · rw [Int.tmod_eq_emod_of_nonneg hy0]
          have hm : y % (ds.length : Int) = ((y.toNat % ds.length : Nat) : Int) := by rw [Int.natCast_emod]; congr 1; omega
          have := Nat.mod_lt y.toNat (show 0 < ds.length by omega)
          rw [hm]; unfold wrap64; omega
        · have := Nat.mod_lt y.toNat (show 0 < ds.length by omega)
          omega
      obtain ⟨n, en, hn1, hn2⟩ := e
      rw [en, if_pos (by omega), if_pos (by omega)]
      have et : ((n : Int)).toNat = n := by omega
      have el : (ds.take n).length = n := by rw [List.length_take]; omega
      rw [et, windows_is h0 h2 h3 (fun x hx => hd x (List.mem_of_mem_take hx)) (by omega) (by omega) 40 (by omega)]
      simp only [Option.bind_some]
      unfold winR
      rw [el]
      have hH2 : hiT a0 a2 a3 (ds.take n) (n - 1) ≤ 18446744073709551615 := by
        have e1 : hiT a0 a2 a3 (ds.take n) (n - 1) = hiT a0 a2 a3 ds (n - 1) := by unfold hiT; rw [sumT_take (by omega)]
        have := hiT_mono (s := a0) (skew := a3) h2.1 hd (show n - 1 ≤ ds.length - 1 by omega) (by omega)
        omega
      rw [if_pos hH2, if_pos rfl]
      simp only [winL_len]
      rw [if_pos trivial, bne_self_eq_false]
      simp only [hourglasslaw08_WindowParts.j0, Bool.false_eq_true, if_false]
      exact parts_l0 hn2 h5 n 0 39 (by omega) (by omega)
    · rw [if_neg hH, if_neg (by decide)]

end Go.Proofs.Ytehghblhjclpdaa.WB
