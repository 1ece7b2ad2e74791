/- The document's block is the plain one: its beginning, its end, the whole. -/
import Derived.Test.YtlpfmehcghhdcaaDoorM15
namespace Go.Proofs.YtlpfmehcghhdcaaDoor.XB
open Go.RowKit Go.Proofs.YtlpfmehcghhdcaaDoorW.PrintWords Go.Proofs.YtlpfmehcghhdcaaDoorW.PrintLast Go.Proofs.YtlpfmehcghhdcaaDoorW.PrintMore PChachaTells
set_option linter.unusedVariables false
set_option linter.unusedSimpArgs false

theorem out_next (F S : List Int) (i : Nat) (hi : i < 16) : (outL F S).take (4 * i) ++ [sumN F S i % 256, sumN F S i / 256 % 256, sumN F S i / 65536 % 256, sumN F S i / 16777216 % 256] = (outL F S).take (4 * (i + 1)) := by
  have g : ∀ j, j < 64 → (outL F S)[j]? = some (outN F S j) := fun j hj => by simp [outL, hj]
  have o : ∀ j, j < 4 → outN F S (4 * i + j) = sumN F S i / p256 j % 256 := fun j hj => by
    unfold outN; rw [show (4 * i + j) / 4 = i by omega, show (4 * i + j) % 4 = j by omega]
  rw [show 4 * (i + 1) = 4 * i + 3 + 1 by omega, List.take_add_one, g _ (by omega), List.take_add_one, g _ (by omega), List.take_add_one, g _ (by omega), List.take_add_one, g _ (by omega)]
  have o0 := o 0 (by omega)
  rw [o 1 (by omega), o 2 (by omega), o 3 (by omega), show outN F S (4 * i) = sumN F S i / p256 0 % 256 from o0]
  simp only [Option.toList_some, List.append_assoc, List.cons_append, List.nil_append, p256, Int.ediv_one]
theorem l4_zero (F S : List Int) (x : ByteArray) (m : Nat) : hourglassref05_Block.l4 (m + 1) F S x ((16 : Nat) : Int) = some x := by
  rw [hourglassref05_Block.l4, if_neg (by decide)]
theorem l4_step (F S : List Int) (hF : F.length = 16) (hS : S.length = 16) (m i : Nat) (hi : i < 16) : hourglassref05_Block.l4 (m + 5 + 1) F S (strOfNums ((outL F S).take (4 * i))) (i : Int) = hourglassref05_Block.l4 (m + 5) F S (strOfNums ((outL F S).take (4 * (i + 1)))) ((i + 1 : Nat) : Int) := by
  have hn : (rd S (i : Int) + rd F (i : Int)) % 4294967296 = sumN F S i := rfl
  have hb : 0 ≤ sumN F S i ∧ sumN F S i ≤ 4294967295 := by unfold sumN; omega
  have e : wrap64 ((i : Int) + 1) = ((i + 1 : Nat) : Int) := (w64 _ (by omega)).trans (by omega)
  have hl : ((outL F S).take (4 * i)).length ≤ 64 := by rw [List.length_take]; have : (outL F S).length = 64 := by simp [outL]
                                                        omega
  rw [hourglassref05_Block.l4, if_pos (by omega), if_pos (by omega), if_pos (by omega), if_pos (by omega), hn, text_run _ hb.1 hb.2, Option.bind_some, turned_run, Option.bind_some]
  rw [if_pos (by rw [strOfNums_size, strOfNums_size]; simp only [List.length_cons, List.length_nil]; omega), ← strOfNums_append, out_next F S i hi, e]
theorem l4_run (F S : List Int) (hF : F.length = 16) (hS : S.length = 16) (m : Nat) : ∀ d i : Nat, i + d = 16 → hourglassref05_Block.l4 (m + d + 5 + 1) F S (strOfNums ((outL F S).take (4 * i))) (i : Int) = some (strOfNums (outL F S)) := by
  intro d
  induction d with
  | zero =>
    intro i hi
    obtain rfl : i = 16 := by omega
    rw [l4_zero, List.take_of_length_le (by simp [outL])]
  | succ d ih =>
    intro i hi
    rw [l4_step F S hF hS _ i (by omega), show m + (d + 1) + 5 = m + d + 5 + 1 by omega]
    exact ih (i + 1) (by omega)

theorem low_run (a b c d : Int) (ha : 0 ≤ a ∧ a ≤ 255) (hb : 0 ≤ b ∧ b ≤ 255) (hc : 0 ≤ c ∧ c ≤ 255) (hd : 0 ≤ d ∧ d ≤ 255) : hourglassref05_low.f (strOfNums [a, b, c, d]) = some (a + b * 256 + c * 65536 + d * 16777216) := by
  have hx : ∀ x ∈ [a, b, c, d], 0 ≤ x ∧ x ≤ 255 := by
    intro x hx
    simp only [List.mem_cons, List.not_mem_nil, or_false] at hx
    rcases hx with rfl | rfl | rfl | rfl <;> assumption
  have b0 : bt (strOfNums [a, b, c, d]) 0 = a := bt_str [a, b, c, d] 0 (by simp) hx
  have b1 : bt (strOfNums [a, b, c, d]) 1 = b := bt_str [a, b, c, d] 1 (by simp) hx
  have b2 : bt (strOfNums [a, b, c, d]) 2 = c := bt_str [a, b, c, d] 2 (by simp) hx
  have b3 : bt (strOfNums [a, b, c, d]) 3 = d := bt_str [a, b, c, d] 3 (by simp) hx
  have sz : (strOfNums [a, b, c, d]).size = 4 := strOfNums_size _
  unfold hourglassref05_low.f
  rw [sz, b0, b1, b2, b3, if_pos (by decide), if_pos (by decide), if_pos (by decide), if_pos (by decide)]
  congr 1
  omega
def wordAt (A : List Int) (i : Nat) : Int := A.getD (4 * i) 0 + A.getD (4 * i + 1) 0 * 256 + A.getD (4 * i + 2) 0 * 65536 + A.getD (4 * i + 3) 0 * 16777216
theorem four_of (A : List Int) (i : Nat) (h : 4 * i + 4 ≤ A.length) : (A.take (4 * i + 4)).drop (4 * i) = [A.getD (4 * i) 0, A.getD (4 * i + 1) 0, A.getD (4 * i + 2) 0, A.getD (4 * i + 3) 0] := by
  apply List.ext_getElem?
  intro j
  rw [List.getElem?_drop]
  rcases j with _ | _ | _ | _ | j
  · rw [List.getElem?_take_of_lt (by omega), List.getElem?_eq_getElem (by omega)]; simp [List.getD, List.getElem?_eq_getElem (show 4 * i < A.length by omega)]
  · rw [List.getElem?_take_of_lt (by omega), List.getElem?_eq_getElem (by omega)]; simp [List.getD, List.getElem?_eq_getElem (show 4 * i + 1 < A.length by omega)]
  · rw [List.getElem?_take_of_lt (by omega), List.getElem?_eq_getElem (by omega)]; simp [List.getD, List.getElem?_eq_getElem (show 4 * i + 2 < A.length by omega)]
  · rw [List.getElem?_take_of_lt (by omega), List.getElem?_eq_getElem (by omega)]; simp [List.getD, List.getElem?_eq_getElem (show 4 * i + 3 < A.length by omega)]
  · rw [List.getElem?_eq_none (by simp; omega), List.getElem?_eq_none (by simp)]
theorem l0_zero (x : ByteArray) (F : List Int) (hF : F.length = 16) (m : Nat) : hourglassref05_Block.l0 (m + 1) x F ((64 : Nat) : Int) = hourglassref05_Block.l1 m F F 0 := by
  rw [hourglassref05_Block.l0, if_neg (by decide), Option.bind_some, if_pos (by rw [hF]; decide), List.nil_append]
theorem l0_step (A F : List Int) (hA : A.length = 64) (hb : ∀ x ∈ A, 0 ≤ x ∧ x ≤ 255) (hF : F.length = 16) (hw : ∀ i, i < 16 → F[i]? = some (wordAt A i)) (m i : Nat) (hi : i < 16) :
    hourglassref05_Block.l0 (m + 1) (strOfNums A) (F.take i) ((4 * i : Nat) : Int) = hourglassref05_Block.l0 m (strOfNums A) (F.take (i + 1)) ((4 * (i + 1) : Nat) : Int) := by
  have e : wrap64 (((4 * i : Nat) : Int) + 4) = ((4 * i + 4 : Nat) : Int) := (w64 _ (by omega)).trans (by omega)
  have g : ∀ j, j < 64 → 0 ≤ A.getD j 0 ∧ A.getD j 0 ≤ 255 := fun j hj => by
    rw [List.getD_eq_getElem?_getD, List.getElem?_eq_getElem (by omega)]
    exact hb _ (List.getElem_mem _)
  rw [hourglassref05_Block.l0, if_pos (by omega), if_pos (by omega), e, if_pos (by omega), if_pos (by rw [strOfNums_size, hA]; omega), Int.toNat_natCast, Int.toNat_natCast, str_mid, four_of A i (by omega), low_run _ _ _ _ (g _ (by omega)) (g _ (by omega)) (g _ (by omega)) (g _ (by omega)), Option.bind_some,
    if_pos (by rw [List.length_take]; omega)]
  have h2 : F.take i ++ [wordAt A i] = F.take (i + 1) := by rw [List.take_add_one, hw i hi]; rfl
  rw [show A.getD (4 * i) 0 + A.getD (4 * i + 1) 0 * 256 + A.getD (4 * i + 2) 0 * 65536 + A.getD (4 * i + 3) 0 * 16777216 = wordAt A i from rfl, h2, show 4 * (i + 1) = 4 * i + 4 by omega]
theorem l0_run (A F : List Int) (hA : A.length = 64) (hb : ∀ x ∈ A, 0 ≤ x ∧ x ≤ 255) (hF : F.length = 16) (hw : ∀ i, i < 16 → F[i]? = some (wordAt A i)) (m : Nat) : ∀ d i : Nat, i + d = 16 →
    hourglassref05_Block.l0 (m + d + 1) (strOfNums A) (F.take i) ((4 * i : Nat) : Int) = hourglassref05_Block.l1 m F F 0 := by
  intro d
  induction d with
  | zero =>
    intro i hi
    obtain rfl : i = 16 := by omega
    rw [List.take_of_length_le (by omega)]
    exact l0_zero _ F hF m
  | succ d ih =>
    intro i hi
    rw [l0_step A F hA hb hF hw _ i (by omega), show m + (d + 1) = m + d + 1 by omega]
    exact ih (i + 1) (by omega)

def bytesL (K : Array Value) (n : Nat) : List Int := (List.range n).map (byte K)
theorem bytesL_bd {K : Array Value} {n : Nat} (h : Bytes K n) : ∀ x ∈ bytesL K n, 0 ≤ x ∧ x ≤ 255 := by
  intro x hx
  simp only [bytesL, List.mem_map, List.mem_range] at hx
  obtain ⟨i, hi, rfl⟩ := hx
  exact (h.2 i hi).2
theorem bytesL_of {K : Array Value} {n : Nat} (h : Bytes K n) : K = toB (bytesL K n) := by
  refine ext16 (n := n) h.1 (by rw [toB_size]; simp [bytesL]) fun j hj => ?_
  rw [(h.2 j hj).1, toB_get]
  simp [bytesL, hj]
def allL (K : Array Value) (c : Int) (V : Array Value) : List Int := [101, 120, 112, 97, 110, 100, 32, 51, 50, 45, 98, 121, 116, 101, 32, 107, byte K 0, byte K 1, byte K 2, byte K 3, byte K 4, byte K 5, byte K 6, byte K 7, byte K 8, byte K 9, byte K 10, byte K 11, byte K 12, byte K 13, byte K 14, byte K 15, byte K 16, byte K 17, byte K 18, byte K 19, byte K 20, byte K 21, byte K 22, byte K 23, byte K 24, byte K 25, byte K 26, byte K 27, byte K 28, byte K 29, byte K 30, byte K 31, c % 256, c / 256 % 256, c / 65536 % 256, c / 16777216 % 256, byte V 0, byte V 1, byte V 2, byte V 3, byte V 4, byte V 5, byte V 6, byte V 7, byte V 8, byte V 9, byte V 10, byte V 11]
theorem all_str (K : Array Value) (c : Int) (V : Array Value) : (((⟨#[101, 120, 112, 97, 110, 100, 32, 51, 50, 45, 98, 121, 116, 101, 32, 107]⟩ : ByteArray) ++ strOfNums (bytesL K 32)) ++ strOfNums [c % 256, c / 256 % 256, c / 65536 % 256, c / 16777216 % 256]) ++ strOfNums (bytesL V 12) = strOfNums (allL K c V) := by
  have e : (⟨#[101, 120, 112, 97, 110, 100, 32, 51, 50, 45, 98, 121, 116, 101, 32, 107]⟩ : ByteArray) = strOfNums [101, 120, 112, 97, 110, 100, 32, 51, 50, 45, 98, 121, 116, 101, 32, 107] := by kernel_rfl
  rw [e, ← strOfNums_append, ← strOfNums_append, ← strOfNums_append]
  rfl
theorem all_bd (K : Array Value) (c : Int) (V : Array Value) (hK : Bytes K 32) (hV : Bytes V 12) : ∀ x ∈ allL K c V, 0 ≤ x ∧ x ≤ 255 := by
  have e : allL K c V = ([101, 120, 112, 97, 110, 100, 32, 51, 50, 45, 98, 121, 116, 101, 32, 107] ++ bytesL K 32) ++ ([c % 256, c / 256 % 256, c / 65536 % 256, c / 16777216 % 256] ++ bytesL V 12) := rfl
  rw [e]
  intro x hx
  rcases List.mem_append.1 hx with hx | hx
  · rcases List.mem_append.1 hx with hx | hx
    · have : ∀ x ∈ ([101, 120, 112, 97, 110, 100, 32, 51, 50, 45, 98, 121, 116, 101, 32, 107] : List Int), 0 ≤ x ∧ x ≤ 255 := by decide
      exact this x hx
    · exact bytesL_bd hK x hx
  · rcases List.mem_append.1 hx with hx | hx
    · simp only [List.mem_cons, List.not_mem_nil, or_false] at hx
      rcases hx with rfl | rfl | rfl | rfl <;> omega
    · exact bytesL_bd hV x hx
theorem all_word (K : Array Value) (c : Int) (V : Array Value) (h0 : 0 ≤ c) (h1 : c ≤ 4294967295) : ∀ i, i < 16 → (firstL K c V)[i]? = some (wordAt (allL K c V) i) := by
  intro i hi
  rcases i with _ | _ | _ | _ | _ | _ | _ | _ | _ | _ | _ | _ | _ | _ | _ | _ | i
  case _ => kernel_rfl
  case _ => kernel_rfl
  case _ => kernel_rfl
  case _ => kernel_rfl
  case _ => rfl
  case _ => rfl
  case _ => rfl
  case _ => rfl
  case _ => rfl
  case _ => rfl
  case _ => rfl
  case _ => rfl
  case _ =>
    show some c = some (c % 256 + c / 256 % 256 * 256 + c / 65536 % 256 * 65536 + c / 16777216 % 256 * 16777216)
    congr 1
    omega
  case _ => rfl
  case _ => rfl
  case _ => rfl
  case _ => omega
theorem block_ref (K : Array Value) (c : Int) (V : Array Value) (hK : Bytes K 32) (hV : Bytes V 12) (h0 : 0 ≤ c) (h1 : c ≤ 4294967295) (m : Nat) :
    hourglassref05_Block.f (m + 150) (strOfNums (bytesL K 32)) c (strOfNums (bytesL V 12)) = some (strOfNums (blockL K c V)) := by
  have lk : (bytesL K 32).length = 32 := by simp [bytesL]
  have lv : (bytesL V 12).length = 12 := by simp [bytesL]
  have s16 : (⟨#[101, 120, 112, 97, 110, 100, 32, 51, 50, 45, 98, 121, 116, 101, 32, 107]⟩ : ByteArray).size = 16 := rfl
  have e1 : IntKind.u64.wrap c = c := by rw [IntKind.wrap_u64]; omega
  unfold hourglassref05_Block.f
  rw [if_pos (by rw [strOfNums_size, lk]; decide), e1, show m + 150 = m + 145 + 5 by omega, text_run c h0 h1, Option.bind_some, turned_run, Option.bind_some]
  rw [if_pos (by rw [ByteArray.size_append, strOfNums_size, strOfNums_size, lk, s16]; simp), if_pos (by rw [ByteArray.size_append, ByteArray.size_append, strOfNums_size, strOfNums_size, strOfNums_size, lk, lv, s16]; simp), all_str]
  have hl0 := l0_run (allL K c V) (firstL K c V) rfl (all_bd K c V hK hV) rfl (all_word K c V h0 h1) (m + 16 + 5 + 1 + 11 * 10 + 1) 16 0 (by omega)
  have hl1 := l1_run (firstL K c V) (firstL K c V) rfl (m + 16 + 5 + 1) 10 0 (by omega)
  have hl4 := l4_run (firstL K c V) (roundsL 10 (firstL K c V)) rfl (by rw [roundsL_len]; rfl) m 16 0 (by omega)
  rw [show m + 145 + 5 = m + 16 + 5 + 1 + 11 * 10 + 1 + 16 + 1 by omega]
  exact (hl0.trans hl1).trans hl4
end Go.Proofs.YtlpfmehcghhdcaaDoor.XB
