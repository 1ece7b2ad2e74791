/- A slice of one step is built. -/
import Derived.Test.YthlpbihkbafgbaaP15
namespace Go.Proofs.Ythlpbihkbafgbaa.RB
open Go Go.Maps Go.RowKit Go.BigFrame Go.Proofs.YthlpbihkbafgbaaW.PrintWords Go.Proofs.YthlpbihkbafgbaaW.PrintLast Go.Proofs.YthlpbihkbafgbaaW.PrintMore
set_option linter.unusedVariables false
set_option linter.unusedSimpArgs false

set_option maxRecDepth 100000 in
theorem run_slice1 (w : World) (k e : Int) {t : List Int} (ht : IsTag t) : (Instr.buildSlice 22 1 #[(0, .agg (stpR (k, e, t)))]).run Try.prog w = .ok (.slice (some ⟨w.heap.size, 0, none⟩) 1 1) (w.alloc (.cells (stpR (k, e, t)) 32)) := by
  obtain ⟨a, b, c, d, e1, f, g, h, i, j, k1, l, m, n, o, p, rfl⟩ := tag16 ht
  kernel_rfl
theorem wpList_slice1 {ops : Array Oper} {rest : List Oper} {o : Oper} {a : Act} {w : World} {Q : Exit → Act → World → Prop} (hgd : o.guard = none) (x : Operand) (ho : o.op = .buildSlice 22 1 #[(0, x)])
    (k e : Int) {t : List Int} (ht : IsTag t) (hx : a.eval x = .agg (stpR (k, e, t))) (h : wpList Try.prog ops Q rest (a.put o.dst (.slice (some ⟨w.heap.size, 0, none⟩) 1 1)) (w.alloc (.cells (stpR (k, e, t)) 32))) : wpList Try.prog ops Q (o :: rest) a w :=
  wpList_plain hgd fun _ hK => by
    have hr := run_slice1 w k e ht
    unfold Oper.wp execOp
    simp only [ho, List.map_toArray, List.map_cons, List.map_nil, hx, Sem.run_bind, hr, Result.andThen_ok]
    exact hK _ _ h
theorem wpList_append_stp {ops : Array Oper} {rest : List Oper} {o : Oper} {a : Act} {w0 W : World} {Q : Exit → Act → World → Prop} (base : Nat) (hgd : o.guard = none) (s x : Operand) (ho : o.op = .call { callee := .builtin .append, args := #[s, x], argTypes := #[22, 22] })
    (v : Value) (D : List Stp) (st : Stp) (hst : OkStp st) (hs : a.eval s = v) (hx : a.eval x = .slice (some ⟨W.heap.size, 0, none⟩) 1 1) (HO : Done W base v D) (HB : Below base w0 W) (hbase : base ≤ W.heap.size) (hl : D.length ≤ 1000000)
    (h : ∀ v1 w1, Done w1 base v1 (D ++ [st]) → Below base w0 w1 → W.grownBy w1 v.ownBlock → wpList Try.prog ops Q rest (a.put o.dst v1) w1) :
    wpList Try.prog ops Q (o :: rest) a (W.alloc (.cells (stpR st) 32)) := by
  refine print_append_cells (w0 := w0) (W := W) base hgd s x 22 32 (.agg zero32) 18 32 ho Try.underlying22 (by kernel_rfl) rfl (by omega) (by omega) v D.length (D.flatMap stpA) (stpA st) hs hx (stpA_len hst) (by simp [stpA, Value.oneCell']) HO.1 HB hbase (by omega) ?_
  intro v1 w1 h1 h2 h3 _
  exact h v1 w1 (Done.snoc h1 HO.2 hst) h2 h3
/-- Was the tag of the epoch among these? -/
def seen (D : List Stp) (e : Int) (t : List Int) : Bool := D.any fun s => decide (s.2.1 = e) && decide (s.2.2 = t)
theorem seen_snoc (D : List Stp) (s : Stp) (e : Int) (t : List Int) : seen (D ++ [s]) e t = (seen D e t || (decide (s.2.1 = e) && decide (s.2.2 = t))) := by
  simp [seen, List.any_append]
structure OnceInv (m fl : Int) (S : List Ent) (D : List Stp) : Prop where
  i1 : ∀ e t, (e, t) ∈ S → seen D e t = true
  i2 : ∀ e t, seen D e t = true → e < fl ∨ (e, t) ∈ S
  i3 : ∀ e, (cnt S e : Int) ≤ m
theorem once_start (m : Int) (hm : 0 ≤ m) : OnceInv m 0 [] [] := ⟨by simp, by simp [seen], fun e => by simp [cnt]; exact hm⟩
theorem addC_cases (m fl : Int) (S : List Ent) (e : Int) (t : List Int) : (addC m fl S e t = 11 ∧ e < fl) ∨ (addC m fl S e t = 7 ∧ fl ≤ e ∧ (e, t) ∈ S) ∨ (addC m fl S e t = 8 ∧ fl ≤ e ∧ (e, t) ∉ S ∧ m ≤ (cnt S e : Int)) ∨ (addC m fl S e t = 0 ∧ fl ≤ e ∧ (e, t) ∉ S ∧ (cnt S e : Int) < m) := by
  unfold addC
  by_cases h1 : e < fl
  · exact Or.inl ⟨if_pos h1, h1⟩
  · rw [if_neg h1]
    by_cases h2 : (e, t) ∈ S
    · exact Or.inr (Or.inl ⟨if_pos h2, by omega, h2⟩)
    · rw [if_neg h2]
      by_cases h3 : m ≤ (cnt S e : Int)
      · exact Or.inr (Or.inr (Or.inl ⟨if_pos h3, by omega, h2, h3⟩))
      · exact Or.inr (Or.inr (Or.inr ⟨if_neg h3, by omega, h2, by omega⟩))
theorem addS_not {m fl : Int} {S : List Ent} {e : Int} {t : List Int} (h : addC m fl S e t ≠ 0) : addS m fl S e t = S := by unfold addS; rw [if_neg h]
theorem addS_yes {m fl : Int} {S : List Ent} {e : Int} {t : List Int} (h : addC m fl S e t = 0) : addS m fl S e t = S ++ [(e, t)] := by unfold addS; rw [if_pos h]
theorem once_not {m fl : Int} {S : List Ent} {D : List Stp} (h : OnceInv m fl S D) {e : Int} {t : List Int} (hc : addC m fl S e t ≠ 0) : OnceInv m fl (addS m fl S e t) D := by rw [addS_not hc]; exact h
theorem once_add {m fl : Int} {S : List Ent} {D : List Stp} (h : OnceInv m fl S D) {k e : Int} {t : List Int} (hc : addC m fl S e t = 0) : OnceInv m fl (addS m fl S e t) (D ++ [(k, e, t)]) := by
  rw [addS_yes hc]
  have hlt : (cnt S e : Int) < m := by
    rcases addC_cases m fl S e t with h1 | h1 | h1 | h1
    · rw [h1.1] at hc; cases hc
    · rw [h1.1] at hc; cases hc
    · rw [h1.1] at hc; cases hc
    · exact h1.2.2.2
  refine ⟨fun e' t' hm => ?_, fun e' t' hs => ?_, fun e' => ?_⟩
  · rw [seen_snoc]
    rcases List.mem_append.1 hm with hm | hm
    · rw [h.i1 e' t' hm, Bool.true_or]
    · have := List.mem_singleton.1 hm
      injection this with h1 h2
      subst h1 h2
      simp
  · rw [seen_snoc, Bool.or_eq_true] at hs
    rcases hs with hs | hs
    · rcases h.i2 e' t' hs with h1 | h1
      · exact Or.inl h1
      · exact Or.inr (List.mem_append_left _ h1)
    · rw [Bool.and_eq_true, decide_eq_true_iff, decide_eq_true_iff] at hs
      obtain ⟨h1, h2⟩ := hs
      subst h1 h2
      exact Or.inr (List.mem_append_right _ (List.mem_singleton.2 rfl))
  · rw [cnt_snoc]
    by_cases he : e = e'
    · subst he
      rw [if_pos rfl]; omega
    · rw [if_neg he]; exact h.i3 e'
theorem cnt_keep_le (fl : Int) (S : List Ent) (e : Int) : cnt (keepE fl S) e ≤ cnt S e := by
  rw [cnt_keep]; split <;> omega
theorem once_expire {m fl : Int} {S : List Ent} {D : List Stp} (h : OnceInv m fl S D) (e : Int) : OnceInv m (max fl e) (keepE (max fl e) S) D := by
  refine ⟨fun e' t' hm => h.i1 e' t' (List.mem_filter.1 hm).1, fun e' t' hs => ?_, fun e' => ?_⟩
  · rcases h.i2 e' t' hs with h1 | h1
    · exact Or.inl (by omega)
    · by_cases hlt : e' < max fl e
      · exact Or.inl hlt
      · exact Or.inr (List.mem_filter.2 ⟨h1, decide_eq_true (by show max fl e ≤ e'; omega)⟩)
  · have := cnt_keep_le (max fl e) S e'
    have := h.i3 e'
    omega
theorem once_zero {m fl : Int} {S : List Ent} {D : List Stp} (h : OnceInv m fl S D) {e : Int} {t : List Int} (hc : addC m fl S e t = 0) : seen D e t = false := by
  cases hs : seen D e t with
  | false => rfl
  | true =>
    rcases addC_cases m fl S e t with h1 | h1 | h1 | h1
    · rw [h1.1] at hc; cases hc
    · rw [h1.1] at hc; cases hc
    · rw [h1.1] at hc; cases hc
    · rcases h.i2 e t hs with h2 | h2
      · omega
      · exact absurd h2 h1.2.2.1
theorem once_seven {m fl : Int} {S : List Ent} {D : List Stp} (h : OnceInv m fl S D) {e : Int} {t : List Int} (hc : addC m fl S e t = 7) : seen D e t = true := by
  rcases addC_cases m fl S e t with h1 | h1 | h1 | h1
  · rw [h1.1] at hc; cases hc
  · exact h.i1 e t h1.2.2
  · rw [h1.1] at hc; cases hc
  · rw [h1.1] at hc; cases hc
theorem seen_take (D : List Stp) {j : Nat} {s : Stp} (h : D[j]? = some s) (e : Int) (t : List Int) : seen (D.take (j + 1)) e t = (seen (D.take j) e t || (decide (s.2.1 = e) && decide (s.2.2 = t))) := by
  rw [List.take_add_one, h]
  exact seen_snoc _ _ _ _
end Go.Proofs.Ythlpbihkbafgbaa.RB
