/- Keys of the map of tags: an epoch and sixteen bytes; each reads as a key, unlike ones as unlike keys. -/
import Derived.Test.YthlpbihkbafgbaaChecked
import Derived.Test.YthlpbihkbafgbaaWLast
import Derived.WalkKit
import Derived.DeepKeys4
import Derived.Maps.OwnSet
import Derived.Maps.OwnOps
import Derived.Maps.RangeWalk
namespace Go.Proofs.Ythlpbihkbafgbaa.RB
open Go Go.Maps Go.RowKit
set_option linter.unusedVariables false
set_option linter.unusedSimpArgs false

theorem laidOut : laidOutB Try.prog = true := by kernel_rfl
theorem law50 : Keyed Try.prog 50 := Keyed.of_law (deep_law_laid laidOut (m := 3) (by omega) (of_decide_eq_true (by kernel_rfl)) (by kernel_rfl) (by kernel_rfl))
theorem law28 : Keyed Try.prog 28 := int_keyed Try.underlying28

structure IsTag (t : List Int) : Prop where
  len : t.length = 16
  bd : ∀ x ∈ t, 0 ≤ x ∧ x ≤ 255
def tagA (t : List Int) : Array Value := (t.map (Value.int .u8)).toArray
def keyA (e : Int) (t : List Int) : Array Value := (Value.int .u32 e :: t.map (Value.int .u8)).toArray
theorem wf8 {x : Int} (h : 0 ≤ x ∧ x ≤ 255) : (Lit.int .u8 x).wf = true := by
  simp [Lit.wf, IntKind.min, IntKind.max, IntKind.signed, IntKind.bits]; omega
theorem wf32 {x : Int} (h : 0 ≤ x ∧ x ≤ 4294967295) : (Lit.int .u32 x).wf = true := by
  simp [Lit.wf, IntKind.min, IntKind.max, IntKind.signed, IntKind.bits]; omega
theorem mapM_range {α : Type} (f : Nat → Option α) (g : Nat → α) : ∀ (l : List Nat), (∀ i ∈ l, f i = some (g i)) → l.mapM f = some (l.map g)
  | [], _ => rfl
  | a :: l, h => by
    rw [List.mapM_cons, h a (List.mem_cons_self ..), mapM_range f g l (fun i hi => h i (List.mem_cons_of_mem _ hi))]; rfl
theorem c5 : Try.prog.cellsOf 5 = 1 := by kernel_rfl
theorem c28 : Try.prog.cellsOf 28 = 1 := by kernel_rfl
theorem c30 : Try.prog.cellsOf 30 = 16 := by kernel_rfl
theorem c50 : Try.prog.cellsOf 50 = 17 := by kernel_rfl
theorem lits_tag (d : Nat) (t : List Int) (ht : IsTag t) : ∃ ls, Try.prog.keyLits (d + 2) 30 (t.map (Value.int .u8)) = some ls := by
  have hl : (t.map (Value.int .u8)).length = 16 := by simp [ht.len]
  have hm := mapM_range (fun i => Try.prog.keyLits (d + 1) 5 (((t.map (Value.int .u8)).drop (i * 1)).take 1)) (fun i => [Lit.int .u8 (t.getD i 0)]) (List.range 16) (fun i hi => by
    have hi' : i < 16 := List.mem_range.1 hi
    have hlt : i < t.length := by rw [ht.len]; exact hi'
    have e : ((t.map (Value.int .u8)).drop (i * 1)).take 1 = [.int .u8 (t.getD i 0)] := by
      rw [Nat.mul_one, List.drop_eq_getElem_cons (by rw [hl]; exact hi'), List.take_succ_cons, List.take_zero, List.getElem_map, List.getD_eq_getElem?_getD, List.getElem?_eq_getElem hlt]
      rfl
    have hw : (Lit.int .u8 (t.getD i 0)).wf = true := wf8 (ht.bd _ (by rw [List.getD_eq_getElem?_getD, List.getElem?_eq_getElem hlt]; exact List.getElem_mem _))
    show Try.prog.keyLits (d + 1) 5 _ = _
    rw [e]
    unfold Program.keyLits
    rw [Try.underlying5]
    simp only [hw, and_self, if_true])
  unfold Program.keyLits
  rw [Try.underlying30]
  simp only [c30, c5, hl, if_true]
  exact ⟨_, by rw [hm]; rfl⟩
theorem key_some (e : Int) (t : List Int) (he : 0 ≤ e ∧ e ≤ 4294967295) (ht : IsTag t) : ∃ kl, keyOf Try.prog 50 (.agg (keyA e t)) = some kl := by
  have hw := wf32 he
  have hs : ∃ d, Try.prog.types.size = d + 2 := ⟨Try.prog.types.size - 2, by have : 2 ≤ Try.prog.types.size := of_decide_eq_true (by kernel_rfl); omega⟩
  obtain ⟨d, hd⟩ := hs
  obtain ⟨ls, hls⟩ := lits_tag d t ht
  have hk : Try.prog.keyType 50 = true := by kernel_rfl
  have hf : (Value.agg (keyA e t)).formed Try.prog 50 = true := by
    simp [Value.formed, Try.underlying50, c50, keyA, ht.len]
  have h2 : ∃ ls', Try.prog.keyLits (d + 2 + 1) 50 (keyA e t).toList = some ls' := by
    have e1 : (keyA e t).toList = .int .u32 e :: t.map (Value.int .u8) := rfl
    have hl : (Value.int .u32 e :: t.map (Value.int .u8)).length = 17 := by simp [ht.len]
    have t16 : (t.map (Value.int .u8)).take 16 = t.map (Value.int .u8) := List.take_of_length_le (by simp [ht.len])
    have k28 : Try.prog.keyLits (d + 2) 28 [.int .u32 e] = some [.int .u32 e] := by
      unfold Program.keyLits
      rw [Try.underlying28]
      simp only [hw, and_self, if_true]
    rw [e1]
    unfold Program.keyLits
    rw [Try.underlying50]
    simp [c50, c28, c30, ht.len, k28, hls, t16]
  obtain ⟨ls', h2⟩ := h2
  unfold keyOf
  rw [Try.underlying50]
  simp only [hk, hf, Bool.and_self, if_true]
  rw [hd]
  have e2 : (Value.agg (keyA e t)).cells = keyA e t := rfl
  rw [e2, h2]
  exact ⟨_, rfl⟩
end Go.Proofs.Ythlpbihkbafgbaa.RB
