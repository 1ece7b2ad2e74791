/- The document's quarter and rounds are the plain ones. -/
import Derived.Test.YtlpfmehcghhdcaaDoorM12
import Derived.Test.YtlpfmehcghhdcaaDoorX3
namespace Go.Proofs.YtlpfmehcghhdcaaDoor.XB
open Go.RowKit Go.Proofs.YtlpfmehcghhdcaaDoorW.PrintWords Go.Proofs.YtlpfmehcghhdcaaDoorW.PrintLast Go.Proofs.YtlpfmehcghhdcaaDoorW.PrintMore PChachaTells
set_option linter.unusedVariables false
set_option linter.unusedSimpArgs false

theorem left_ref (k : Nat) (hk : k ≤ 31) (hk0 : 1 ≤ k) (p q x : Int) (hp : p = 2 ^ k) (hq : q = 2 ^ (32 - k)) (hp2 : p < 4294967296) (hq2 : q < 4294967296) (hq0 : 0 < q) (hp0 : 0 ≤ p) (h0 : 0 ≤ x) (h1 : x ≤ 4294967295) : hourglassref05_left.f x (k : Int) = some (rot p q x) := by
  have s1 : shl .u32 1 (k : Int) = p := by
    unfold shl
    rw [Int.toNat_natCast, Nat.min_eq_left (show k ≤ IntKind.bits .u32 from by show k ≤ 32; omega), Int.one_mul, ← hp, IntKind.wrap_u32]
    omega
  have w1 : wrap64 (32 - (k : Int)) = ((32 - k : Nat) : Int) := by
    have e : wrap64 (32 - (k : Int)) = 32 - (k : Int) := IntWalk.wrap64_in _ (by omega)
    rw [e]; omega
  have s2 : shl .u32 1 (((32 - k : Nat) : Int)) = q := by
    unfold shl
    rw [Int.toNat_natCast, Nat.min_eq_left (show 32 - k ≤ IntKind.bits .u32 from by show 32 - k ≤ 32; omega), Int.one_mul, ← hq, IntKind.wrap_u32]
    omega
  unfold hourglassref05_left.f
  rw [w1, s1, s2, if_pos (by omega), if_pos (by omega), if_neg (by omega)]
  have hd : Int.tdiv x q = x / q := Int.tdiv_eq_ediv_of_nonneg h0
  have hb := rot_bd (p := p) (q := q) k (by omega) h0 h1 hp hq
  have hx : x / q ≤ x := Int.ediv_le_self _ h0
  have hx0 : 0 ≤ x / q := Int.ediv_nonneg h0 (by omega)
  rw [hd]
  unfold rot at hb ⊢
  congr 1
  rw [Int.emod_eq_of_lt hx0 (by omega)]
  exact Int.emod_eq_of_lt hb.1 (by omega)
theorem left16 (x y : Int) : hourglassref05_left.f (Go.bits .xor .u32 x y) 16 = some (rot 65536 65536 (xr x y)) := left_ref 16 (by decide) (by decide) _ _ _ (by decide) (by decide) (by decide) (by decide) (by decide) (by decide) (xr_bd x y).1 (xr_bd x y).2
theorem left12 (x y : Int) : hourglassref05_left.f (Go.bits .xor .u32 x y) 12 = some (rot 4096 1048576 (xr x y)) := left_ref 12 (by decide) (by decide) _ _ _ (by decide) (by decide) (by decide) (by decide) (by decide) (by decide) (xr_bd x y).1 (xr_bd x y).2
theorem left8 (x y : Int) : hourglassref05_left.f (Go.bits .xor .u32 x y) 8 = some (rot 256 16777216 (xr x y)) := left_ref 8 (by decide) (by decide) _ _ _ (by decide) (by decide) (by decide) (by decide) (by decide) (by decide) (xr_bd x y).1 (xr_bd x y).2
theorem left7 (x y : Int) : hourglassref05_left.f (Go.bits .xor .u32 x y) 7 = some (rot 128 33554432 (xr x y)) := left_ref 7 (by decide) (by decide) _ _ _ (by decide) (by decide) (by decide) (by decide) (by decide) (by decide) (xr_bd x y).1 (xr_bd x y).2

theorem rd_same (l : List Int) (i : Nat) (v : Int) (h : i < l.length) : rd (l.set i v) (i : Int) = v := by
  unfold rd; rw [Int.toNat_natCast, List.getD_eq_getElem?_getD, List.getElem?_set_self h]; rfl
theorem rd_ne (l : List Int) (i j : Nat) (v : Int) (h : i ≠ j) : rd (l.set i v) (j : Int) = rd l (j : Int) := by
  unfold rd; rw [Int.toNat_natCast, List.getD_eq_getElem?_getD, List.getElem?_set_ne h, List.getD_eq_getElem?_getD]
theorem quarter_ref (L : List Int) (hL : L.length = 16) (a b c d : Nat) (ha : a < 16) (hb : b < 16) (hc : c < 16) (hd : d < 16) (ab : a ≠ b) (ac : a ≠ c) (ad : a ≠ d) (bc : b ≠ c) (bd : b ≠ d) (cd : c ≠ d) :
    hourglassref05_quarter.f L (a : Int) (b : Int) (c : Int) (d : Int) = some (quarterL L (a, b, c, d)) := by
  unfold hourglassref05_quarter.f
  simp only [Option.bind_some, List.nil_append, List.length_nil, hL]
  rw [if_pos (by omega)]
  rw [if_pos (by omega), if_pos (by omega), if_pos (by omega), if_pos (by omega), if_pos (by omega), if_pos (by omega)]
  simp only [Int.toNat_natCast]
  rw [rd_ne _ _ _ _ ad, rd_same _ _ _ (by omega), left16]
  simp only [Option.bind_some]
  rw [if_pos (by omega), if_pos (by omega)]
  rw [rd_ne _ _ _ _ cd.symm, rd_ne _ _ _ _ ac, rd_same _ _ _ (by simp; omega)]
  rw [rd_ne _ _ _ _ bc.symm, rd_ne _ _ _ _ bd.symm, rd_ne _ _ _ _ ab, rd_same _ _ _ (by simp; omega), left12]
  simp only [Option.bind_some]
  rw [rd_ne _ _ _ _ ab.symm, rd_ne _ _ _ _ ac.symm, rd_ne _ _ _ _ ad.symm, rd_same _ _ _ (by omega), rd_same _ _ _ (by simp; omega)]
  rw [rd_ne _ _ _ _ ad, rd_ne _ _ _ _ bd, rd_ne _ _ _ _ cd, rd_same _ _ _ (by simp; omega), rd_same _ _ _ (by simp; omega), left8]
  simp only [Option.bind_some]
  rw [rd_ne _ _ _ _ cd.symm, rd_ne _ _ _ _ ac, rd_ne _ _ _ _ bc, rd_same _ _ _ (by simp; omega), rd_same _ _ _ (by simp; omega)]
  rw [rd_ne _ _ _ _ bc.symm, rd_ne _ _ _ _ bd.symm, rd_ne _ _ _ _ ab, rd_same _ _ _ (by simp; omega), rd_same _ _ _ (by simp; omega), left7]
  simp only [Option.bind_some]
  congr 1
  have e : qrAt L (a, b, c, d) = qr (rd L (a : Int), rd L (b : Int), rd L (c : Int), rd L (d : Int)) := rfl
  unfold quarterL
  rw [e]
  apply List.ext_getElem?
  intro j
  simp only [qr, half]
  by_cases ja : a = j
  · subst ja
    simp [List.getElem?_set, hL, ha, hb, hc, hd, ab, ac, ad, bc, bd, cd, ab.symm, ac.symm, ad.symm, bc.symm, bd.symm, cd.symm]
  by_cases jb : b = j
  · subst jb
    simp [List.getElem?_set, hL, ha, hb, hc, hd, ab, ac, ad, bc, bd, cd, ab.symm, ac.symm, ad.symm, bc.symm, bd.symm, cd.symm]
  by_cases jc : c = j
  · subst jc
    simp [List.getElem?_set, hL, ha, hb, hc, hd, ab, ac, ad, bc, bd, cd, ab.symm, ac.symm, ad.symm, bc.symm, bd.symm, cd.symm]
  by_cases jd : d = j
  · subst jd
    simp [List.getElem?_set, hL, ha, hb, hc, hd, ab, ac, ad, bc, bd, cd, ab.symm, ac.symm, ad.symm, bc.symm, bd.symm, cd.symm]
  simp [List.getElem?_set, ja, jb, jc, jd]
end Go.Proofs.YtlpfmehcghhdcaaDoor.XB
