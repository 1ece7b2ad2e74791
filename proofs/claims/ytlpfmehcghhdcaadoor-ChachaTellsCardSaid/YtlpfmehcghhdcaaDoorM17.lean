/- The document's stream is the plain one; both by their contracts. -/
import Derived.Test.YtlpfmehcghhdcaaDoorM16
namespace Go.Proofs.YtlpfmehcghhdcaaDoor.XB
open Go.RowKit Go.Proofs.YtlpfmehcghhdcaaDoorW.PrintWords Go.Proofs.YtlpfmehcghhdcaaDoorW.PrintLast Go.Proofs.YtlpfmehcghhdcaaDoorW.PrintMore PChachaTells
set_option linter.unusedVariables false
set_option linter.unusedSimpArgs false
variable {T : Nat × Nat × Nat}

theorem s_step (K V : Array Value) (hK : Bytes K 32) (hV : Bytes V 12) (n : Int) (hn : n ≤ 1000) (m j : Nat) (hj : ((64 * j : Nat) : Int) < n) :
    hourglassref05_Stream.l0 (m + 150 + 1) (strOfNums (bytesL K 32)) (strOfNums (bytesL V 12)) n (strOfNums (streamL K V (64 * j))) (j : Int) = hourglassref05_Stream.l0 (m + 150) (strOfNums (bytesL K 32)) (strOfNums (bytesL V 12)) n (strOfNums (streamL K V (64 * (j + 1)))) ((j + 1 : Nat) : Int) := by
  have e : wrap64 ((j : Int) + 1) = ((j + 1 : Nat) : Int) := (w64 _ (by omega)).trans (by omega)
  have hb := streamL_block K V j 64 (by omega)
  rw [List.take_of_length_le (by rw [blockL_len]; exact Nat.le_refl _)] at hb
  rw [hourglassref05_Stream.l0, strOfNums_size, streamL_len, if_pos hj, show (j : Int) % 4294967296 = (j : Int) by omega, block_ref K j V hK hV (by omega) (by omega), Option.bind_some,
    if_pos (by rw [strOfNums_size, blockL_len]; omega), ← strOfNums_append, hb, e, show 64 * (j + 1) = 64 * j + 64 by omega]
theorem s_zero (K V : Array Value) (n : Int) (m L : Nat) (x : ByteArray) (y : ByteArray) (i : Int) (h1 : ¬ (L : Int) < n) :
    hourglassref05_Stream.l0 (m + 1) x y n (strOfNums (streamL K V L)) i = some (strOfNums (streamL K V n.toNat)) := by
  have hm : mx n 0 = (n.toNat : Int) := by unfold mx; split <;> omega
  rw [hourglassref05_Stream.l0, strOfNums_size, streamL_len, if_neg h1, hm, if_pos (by omega), if_pos (by omega), str_mid, Int.toNat_natCast, List.drop_zero, streamL_take K V L n.toNat (by omega)]
theorem s_run (K V : Array Value) (hK : Bytes K 32) (hV : Bytes V 12) (n : Int) (hn : n ≤ 1000) (m : Nat) : ∀ d j : Nat, j + d = (n.toNat + 63) / 64 →
    hourglassref05_Stream.l0 (m + d + 150 + 1) (strOfNums (bytesL K 32)) (strOfNums (bytesL V 12)) n (strOfNums (streamL K V (64 * j))) (j : Int) = some (strOfNums (streamL K V n.toNat)) := by
  intro d
  induction d with
  | zero =>
    intro j hj
    exact s_zero K V n (m + 0 + 150) (64 * j) _ _ _ (by omega)
  | succ d ih =>
    intro j hj
    rw [s_step K V hK hV n hn _ j (by omega), show m + (d + 1) + 150 = m + d + 150 + 1 by omega]
    exact ih (j + 1) (by omega)
theorem refstream_any (K V : Array Value) (n : Int) (w : World) (hK : Bytes K 32) (hV : Bytes V 12) (hn : n ≤ 1000) :
    Calls Tryd.prog 16 #[.string (strOfNums (bytesL K 32)), .string (strOfNums (bytesL V 12)), .int .i64 n] w fun e w' => e = .returned (.string (strOfNums (streamL K V n.toNat))) ∧ Below w.heap.size w w' := by
  refine hourglassref05_Stream.calls (0 + (n.toNat + 63) / 64 + 150 + 1) _ _ _ _ w ?_
  unfold hourglassref05_Stream.f
  exact s_run K V hK hV n hn 0 _ 0 (by omega)
theorem refblock_any (K V : Array Value) (c : Int) (w : World) (hK : Bytes K 32) (hV : Bytes V 12) (h0 : 0 ≤ c) (h1 : c ≤ 4294967295) :
    Calls Tryd.prog 15 #[.string (strOfNums (bytesL K 32)), .int .u32 c, .string (strOfNums (bytesL V 12))] w fun e w' => e = .returned (.string (strOfNums (blockL K c V))) ∧ Below w.heap.size w w' :=
  hourglassref05_Block.calls (0 + 150) _ _ _ _ w (block_ref K c V hK hV h0 h1 0)
end Go.Proofs.YtlpfmehcghhdcaaDoor.XB
