/- Two tags compared; a row of steps of one's own. -/
import Derived.Test.YthlpbihkbafgbaaP14
import Derived.Laws.StructEq
namespace Go.Proofs.Ythlpbihkbafgbaa.RB
open Go Go.Maps Go.RowKit Go.BigFrame Go.Proofs.YthlpbihkbafgbaaW.PrintWords Go.Proofs.YthlpbihkbafgbaaW.PrintLast Go.Proofs.YthlpbihkbafgbaaW.PrintMore
open Go.ChangeShapes Go.WideShapes
set_option linter.unusedVariables false
set_option linter.unusedSimpArgs false

theorem law30 : Keyed Try.prog 30 := Keyed.of_law (deep_law_laid laidOut (m := 2) (by omega) (of_decide_eq_true (by kernel_rfl)) (by kernel_rfl) (by kernel_rfl))
theorem tag_key {t : List Int} (ht : IsTag t) : ∃ kl, keyOf Try.prog 30 (.agg (tagA t)) = some kl := by
  have hs : ∃ d, Try.prog.types.size = d + 1 := ⟨Try.prog.types.size - 1, by have : 1 ≤ Try.prog.types.size := of_decide_eq_true (by kernel_rfl); omega⟩
  obtain ⟨d, hd⟩ := hs
  obtain ⟨ls, hls⟩ := lits_tag d t ht
  have hk : Try.prog.keyType 30 = true := by kernel_rfl
  have hf : (Value.agg (tagA t)).formed Try.prog 30 = true := by
    simp [Value.formed, Try.underlying30, c30, tagA, ht.len]
  unfold keyOf
  rw [Try.underlying30]
  simp only [hk, hf, Bool.and_self, if_true]
  have e2 : (Value.agg (tagA t)).cells.toList = t.map (Value.int .u8) := rfl
  rw [hd, e2, hls]
  exact ⟨_, rfl⟩
theorem tagA_inj {t t' : List Int} (h : tagA t = tagA t') : t = t' := by
  have h1 : keyA 0 t = keyA 0 t' := by
    have h2 := congrArg Array.toList h
    unfold keyA
    have h3 : t.map (Value.int .u8) = t'.map (Value.int .u8) := h2
    rw [h3]
  exact (keyA_inj h1).2
theorem run_equal_tag (w : World) {t t' : List Int} (ht : IsTag t) (ht' : IsTag t') : (Op.equal 30 (.agg (tagA t)) (.agg (tagA t'))).run Try.prog w = .ok (decide (t = t')) w := by
  obtain ⟨l, h1⟩ := tag_key ht
  obtain ⟨l', h2⟩ := tag_key ht'
  obtain ⟨r, hr, hi⟩ := run_equal_deep (P := Try.prog) w (m := 2) (by omega) (k := 30) (by kernel_rfl) (by kernel_rfl) h1 h2
  rw [hr]
  congr 1
  by_cases h : t = t'
  · subst h
    rw [h1] at h2
    injection h2 with h2
    rw [decide_eq_true rfl]; exact hi.2 h2
  · rw [decide_eq_false h]
    cases r with
    | false => rfl
    | true =>
      have h3 := hi.1 rfl
      subst h3
      have h4 := law30.inj h1 h2
      injection h4 with h4
      exact absurd (tagA_inj h4) h
theorem exec_eqtag {o : Oper} {a : Act} (w : World) (x y : Operand) (u : TypeId) (ho : o.op = .binOp .eql 30 x y u) {t t' : List Int} (ht : IsTag t) (ht' : IsTag t') (hx : a.eval x = .agg (tagA t)) (hy : a.eval y = .agg (tagA t')) :
    (execOp a.eval o).run Try.prog w = .ok (.value (.bool (decide (t = t')))) w := by
  unfold execOp
  have hg := run_eqGuard_agg (P := Try.prog) w .eql 30 x y (tagA t) (tagA t') (by kernel_rfl)
  have he : (Go.binOp .eql 30 (.agg (tagA t)) (.agg (tagA t'))).run Try.prog w = .ok (.bool (decide (t = t'))) w := by
    have h1 := run_eql_struct (P := Try.prog) w 30 (tagA t) (tagA t')
    have h2 := run_equal_tag w ht ht'
    unfold Op.equal at h2
    rw [h1]
    have : (Op.equalIn 10000 30 (.agg (tagA t)) (.agg (tagA t'))).run Try.prog w = .ok (decide (t = t')) w := h2
    rw [this]; rfl
  simp only [ho, hx, hy, Sem.run_bind, hg, he, Result.andThen_ok]
  rfl
theorem quiet_eqtag {C : World → Prop} {K : Act → Prop} {a : Act} {o : Oper} (x y : Operand) (u : TypeId) (ho : o.op = .binOp .eql 30 x y u) {t t' : List Int} (ht : IsTag t) (ht' : IsTag t') (hx : a.eval x = .agg (tagA t)) (hy : a.eval y = .agg (tagA t'))
    (hk : K (a.put o.dst (.bool (decide (t = t'))))) : o.quiet Try.prog a C K :=
  quiet_run _ (fun w _ => exec_eqtag w x y u ho ht ht' hx hy) hk
/-- A row of steps of one's own. -/
def Done (w : World) (B : Nat) (v : Value) (D : List Stp) : Prop := w.ownsRow B 32 18 v D.length (D.flatMap stpA) ∧ ∀ s ∈ D, OkStp s
theorem done_nil (w : World) (B : Nat) : Done w B (.slice none 0 0) [] := ⟨⟨rfl, Or.inl ⟨rfl, rfl⟩⟩, by simp⟩
theorem flat_at : ∀ (D : List Stp), (∀ s ∈ D, OkStp s) → ∀ (i : Nat) (s : Stp), D[i]? = some s → ∀ (j : Nat) (v : Value), (stpA s)[j]? = some v → (D.flatMap stpA)[i * 18 + j]? = some v
  | [], _, i, s, h, _, _, _ => by simp at h
  | d :: D, hk, 0, s, h, j, v, hj => by
    simp at h
    subst h
    have hl := stpA_len (hk d (List.mem_cons_self ..))
    have hjl : j < 18 := by have := (List.getElem?_eq_some_iff.1 hj).1; omega
    rw [List.flatMap_cons, List.getElem?_append_left (by omega)]
    simpa using hj
  | d :: D, hk, i + 1, s, h, j, v, hj => by
    have hl := stpA_len (hk d (List.mem_cons_self ..))
    rw [List.flatMap_cons, List.getElem?_append_right (by omega)]
    have := flat_at D (fun s hs => hk s (List.mem_cons_of_mem _ hs)) i s (by simpa using h) j v hj
    rw [hl]
    have e : (i + 1) * 18 + j - 18 = i * 18 + j := by omega
    rw [e]; exact this
/-- It reads as steps. -/
theorem Done.steps {w : World} {B : Nat} {v : Value} {D : List Stp} (h : Done w B v D) : ∃ a cap, v = .slice a D.length cap ∧ Steps w a D.length D := by
  obtain ⟨⟨hl, ho⟩, hk⟩ := h
  rcases ho with ⟨rfl, h0⟩ | ⟨g, cap, cur, rfl, hb, hg, hn, hc, hs, ht⟩
  · have : D = [] := List.length_eq_zero_iff.1 h0
    subst this
    exact ⟨none, 0, rfl, rfl, Nat.zero_le _, by simp, by simp⟩
  · refine ⟨_, _, rfl, rfl, Nat.le_trans hn hc, hk, fun i s hi => ⟨_, rfl, fun j u hj => ?_⟩⟩
    have e : ((⟨g, 0, none⟩ : Addr).add (i * 18)).add j = ⟨g, i * 18 + j, none⟩ := by
      rw [Go.Deep.add_add]; unfold Addr.add; split <;> simp_all
    rw [e, cell_of_row w g _ cur 32 (0, 0) hg]
    have h1 := flat_at D hk i s hi j u hj
    rw [← ht] at h1
    have hlt := (List.getElem?_eq_some_iff.1 h1).1
    rw [List.getElem?_take_of_lt (by rw [List.length_take] at hlt; omega)] at h1
    simpa using h1
theorem Done.fr {w w' : World} {B B' : Nat} {v : Value} {D : List Stp} (h : Done w B v D) (f : Fr B' w w') : Done w' B v D := by
  obtain ⟨⟨hl, ho⟩, hk⟩ := h
  refine ⟨⟨hl, ?_⟩, hk⟩
  rcases ho with ho | ⟨g, cap, cur, hv, hb, hg, r⟩
  · exact Or.inl ho
  · exact Or.inr ⟨g, cap, cur, hv, hb, f.kept _ _ _ _ hg (by decide), r⟩
theorem Done.below {w w' : World} {B : Nat} {v : Value} {D : List Stp} (h : Done w B v D) (b : Below w.heap.size w w') : Done w' B v D := h.fr (B' := 0) (Fr.of_below (Nat.zero_le _) b)
/-- The Tags stay while the row grows. -/
theorem At.grown {B B2 : Nat} {w w' : World} {p n : Nat} {most floor : Int} {S : List Ent} {v : Value} {D : List Stp} (h : At B w p n most floor S) (hd : Done w B2 v D) (hg : w.grownBy w' v.ownBlock) : At B w' p n most floor S := by
  obtain ⟨bh, bm, M1, M2, T, hB⟩ := h
  have key : ∀ k, k < w.heap.size → (∀ cur, w.heap[k]? ≠ some (.cells cur 32 (0, 0))) → w'.heap[k]? = w.heap[k]? := fun k hk hne => by
    refine hg.block k hk fun e => ?_
    rcases hd.1.2 with ⟨rfl, _⟩ | ⟨g, cap, cur, rfl, _, hg', _⟩
    · simp [Value.ownBlock] at e
    · simp [Value.ownBlock] at e
      subst e
      exact hne cur hg'
  have mv : ∀ {k : TypeId} {R} {b n : Nat} {D : DataW Unit}, w.ownsMap Try.prog k R b n D → w'.ownsMap Try.prog k R b n D := by
    intro k R b n D ho
    have hlt := ho.lt
    obtain ⟨es, clock, hb, r⟩ := ho
    exact ⟨es, clock, (key b hlt (fun cur hc => by rw [hb] at hc; cases hc)).trans hb, r⟩
  refine ⟨bh, bm, M1, M2, ⟨(key p T.lt.1 (fun cur hc => by rw [T.cells] at hc; injection hc with hc; injection hc with _ hc _; exact absurd hc (by decide))).trans T.cells, mv T.h, mv T.m, T.ne, T.rel, T.mostOk, T.floorOk, T.len⟩, hB⟩
theorem Done.snoc {w : World} {B : Nat} {v : Value} {D : List Stp} {s : Stp} (h : w.ownsRow B 32 18 v (D.length + 1) (D.flatMap stpA ++ stpA s)) (hk : ∀ s ∈ D, OkStp s) (hs : OkStp s) : Done w B v (D ++ [s]) := by
  refine ⟨?_, ?_⟩
  · rw [List.length_append, List.flatMap_append]
    simpa using h
  · intro x hx
    rcases List.mem_append.1 hx with hx | hx
    · exact hk x hx
    · rw [List.mem_singleton.1 hx]; exact hs
end Go.Proofs.Ythlpbihkbafgbaa.RB
