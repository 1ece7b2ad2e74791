/- Rows of entries joined; what a region that draws its order runs. -/
import Derived.Test.YthlpbihkbafgbaaP19
namespace Go.Proofs.Ythlpbihkbafgbaa.RB
open Go Go.Maps Go.RowKit Go.BigFrame Go.Proofs.YthlpbihkbafgbaaW.PrintWords Go.Proofs.YthlpbihkbafgbaaW.PrintLast Go.Proofs.YthlpbihkbafgbaaW.PrintMore
set_option linter.unusedVariables false
set_option linter.unusedSimpArgs false

theorem Ents.flat {w : World} {x : Addr} {n : Nat} {S : List Ent} (h : Ents w (some x) n S) (hk : OkS S) : ∀ j u, (S.flatMap entA)[j]? = some u → w.cell? (x.add j) = some u := by
  intro j u hj
  have hlen := flatE_len S hk
  have hlt := (List.getElem?_eq_some_iff.1 hj).1
  have hi : j / 17 < S.length := by omega
  obtain ⟨x', hx', hc⟩ := h.2.2 (j / 17) S[j / 17] (List.getElem?_eq_getElem hi)
  injection hx' with hx'
  subst hx'
  have hl := entA_len (hk S[j / 17] (List.getElem_mem hi)).2
  have hr : j % 17 < (entA S[j / 17]).length := by rw [hl]; omega
  have h1 := flatE_at S hk (j / 17) S[j / 17] (List.getElem?_eq_getElem hi) (j % 17) _ (List.getElem?_eq_getElem hr)
  have e : j / 17 * 17 + j % 17 = j := by omega
  rw [e, hj] at h1
  injection h1 with h1
  have h2 := hc (j % 17) _ (List.getElem?_eq_getElem hr)
  rw [Go.Deep.add_add, e] at h2
  rw [h2, h1]
theorem run_append_ents {W : World} {base : Nat} {v v2 : Value} {S S2 : List Ent} (ty : TypeId) (hown : ERow W base v S) (A : Option Addr) (c : Nat) (hv2 : v2 = .slice A S2.length c) (hE : Ents W A S2.length S2) (hk2 : OkS S2) (hl : S.length + S2.length ≤ 1000000) (hbase : base ≤ W.heap.size) :
    ∃ v1 w1, (Builtin.append_ #[38, 38] ty #[v, v2]).run Try.prog W = .ok v1 w1 ∧ ERow w1 base v1 (S ++ S2) ∧ W.grownBy w1 v.ownBlock := by
  subst hv2
  have hinfo : (Try.prog.info? 52).map (fun i => (i.zero, i.size, i.bytes)) = some (some (.agg zero50), 17, 20) := by kernel_rfl
  obtain ⟨i0, hi, hzz⟩ := Option.map_eq_some_iff.1 hinfo
  simp only [Prod.mk.injEq] at hzz
  obtain ⟨hz0, hz1, hz2⟩ := hzz
  rcases A with _ | ad
  · have h0 : S2 = [] := by
      rcases S2 with _ | ⟨s, r⟩
      · rfl
      · obtain ⟨x, hx, _⟩ := hE.2.2 0 s rfl
        cases hx
    subst h0
    refine ⟨v, W, ?_, by rw [List.append_nil]; exact hown, World.grownBy.refl W _⟩
    rcases hown.2 with ⟨rfl, hn⟩ | ⟨g, cap, cur, rfl, _, _, hnc, _⟩
    · simp [Builtin.append_, run_underlying Try.underlying38, sizeOf, typeInfo, hi, Builtin.lenOf, Builtin.firstCells]
    · simp [Builtin.append_, run_underlying Try.underlying38, sizeOf, typeInfo, hi, Builtin.lenOf, Builtin.firstCells, hnc, storeCells]
  · obtain ⟨v1, w1, hrun, h2, hg, _⟩ := run_append_own (P := Try.prog) W base 38 ty 52 i0 (.agg zero50) 17 20 Try.underlying38 hi hz0 hz1 hz2 rfl (by omega) v S.length (S.flatMap entA) hown ad S2.length c (S2.flatMap entA) (flatE_len S2 hk2) (hE.flat hk2)
      (by
        intro u hu
        obtain ⟨s, hs, hu⟩ := List.mem_flatMap.1 hu
        rcases List.mem_cons.1 hu with rfl | hu
        · rfl
        · obtain ⟨z, _, rfl⟩ := List.mem_map.1 hu
          rfl) (by simp only [maxLen]; omega) (by omega) hbase
    refine ⟨v1, w1, hrun, ?_, hg⟩
    unfold ERow
    rw [List.length_append, List.flatMap_append]
    exact h2
theorem exec_append {o : Oper} {a : Act} {W w1 : World} {v v2 v1 : Value} (s x : Operand) (ho : o.op = .call { callee := .builtin .append, args := #[s, x], argTypes := #[38, 38] }) (hs : a.eval s = v) (hx : a.eval x = v2) (hr : (Builtin.append_ #[38, 38] o.type #[v, v2]).run Try.prog W = .ok v1 w1) :
    (execOp a.eval o).run Try.prog W = .ok (.value v1) w1 := by
  unfold execOp
  simp [ho, resolve, invoke, builtin, hs, hx, hr]
theorem run_eslice0 (w : World) : (Instr.buildSlice 38 0 #[]).run Try.prog w = .ok (.slice (some ⟨w.heap.size, 0, none⟩) 0 0) (w.alloc (.cells #[] 52)) := by kernel_rfl
theorem exec_slice0 {o : Oper} {a : Act} (W : World) (ho : o.op = .buildSlice 38 0 #[]) : (execOp a.eval o).run Try.prog W = .ok (.value (.slice (some ⟨W.heap.size, 0, none⟩) 0 0)) (W.alloc (.cells #[] 52)) := by
  unfold execOp
  have hr := run_eslice0 W
  simp only [ho, List.map_toArray, List.map_nil, Sem.run_bind, hr, Result.andThen_ok]
  rfl
theorem exec_slice1 {o : Oper} {a : Act} (W : World) (x : Operand) (ho : o.op = .buildSlice 38 1 #[(0, x)]) (e : Int) {t : List Int} (ht : IsTag t) (hx : a.eval x = .agg (keyA e t)) : (execOp a.eval o).run Try.prog W = .ok (.value (.slice (some ⟨W.heap.size, 0, none⟩) 1 1)) (W.alloc (.cells (keyA e t) 52)) := by
  unfold execOp
  have hr := run_eslice1 W e ht
  simp only [ho, List.map_toArray, List.map_cons, List.map_nil, hx, Sem.run_bind, hr, Result.andThen_ok]
  rfl
theorem built_ent (e : Int) {t : List Int} (ht : IsTag t) : Try.prog.built 52 [(0, .int .u32 e), (1, .agg (tagA t))] = some (keyA e t) := by
  obtain ⟨a, b, c, d, e1, f, g, h, i, j, k, l, m, n, o, p, rfl⟩ := tag16 ht
  kernel_rfl
theorem exec_ent {o : Oper} {a : Act} (W : World) (x y : Operand) (ho : o.op = .build 52 #[(0, x), (1, y)]) (e : Int) {t : List Int} (ht : IsTag t) (hx : a.eval x = .int .u32 e) (hy : a.eval y = .agg (tagA t)) : (execOp a.eval o).run Try.prog W = .ok (.value (.agg (keyA e t))) W := by
  unfold execOp
  have hr := run_build W 52 #[(0, .int .u32 e), (1, .agg (tagA t))] _ (built_ent e ht)
  simp only [ho, List.map_toArray, List.map_cons, List.map_nil, hx, hy, Sem.run_bind, hr, Result.andThen_ok]
  rfl
theorem erow_empty (w : World) (B g : Nat) (hB : B ≤ g) (hg : w.heap[g]? = some (.cells #[] 52 (0, 0))) : ERow w B (.slice (some ⟨g, 0, none⟩) 0 0) [] :=
  ⟨rfl, Or.inr ⟨g, 0, #[], rfl, hB, hg, Nat.le_refl _, Nat.zero_le _, rfl, rfl⟩⟩
theorem ents_one {w : World} {g : Nat} {e : Int} {t : List Int} (hg : w.heap[g]? = some (.cells (keyA e t) 52 (0, 0))) : Ents w (some ⟨g, 0, none⟩) 1 [(e, t)] := by
  refine ⟨rfl, by unfold maxLen; omega, fun i s hi => ⟨_, rfl, fun j u hj => ?_⟩⟩
  have hi0 : i = 0 := by
    have := (List.getElem?_eq_some_iff.1 hi).1
    simp at this; exact this
  subst hi0
  simp at hi
  subst hi
  rw [Nat.zero_mul, add0]
  have e2 : (⟨g, 0, none⟩ : Addr).add j = ⟨g, j, none⟩ := by unfold Addr.add; split <;> simp_all
  rw [e2, cell_of_row w g j _ 52 (0, 0) hg]
  rw [← entA_key] at hj
  simpa using hj
theorem exec_load {o : Oper} {a : Act} (W : World) (x : Operand) (ty : TypeId) (ho : o.op = .load ty x) {d : TypeDesc} (hu : Try.prog.underlying ty = some d) (hd : (match d with | .struct _ | .array _ _ => false | _ => true) = true) (A : Addr) (hx : a.eval x = .pointer (some A)) (v : Value) (hc : W.cell? A = some v) :
    (execOp a.eval o).run Try.prog W = .ok (.value v) W := by
  unfold execOp
  have hagg : (isAgg ty).run Try.prog W = .ok false W := by
    unfold isAgg
    rw [Sem.run_bind, run_underlying hu W]
    cases d <;> simp_all
  simp [ho, hx, Instr.loadAt, Instr.sureAddr, loadVar, hagg, hc]
theorem exec_loadtag {o : Oper} {a : Act} (W : World) (x : Operand) (ho : o.op = .load 30 x) (A : Addr) (hx : a.eval x = .pointer (some A)) (t : List Int) (ht : IsTag t) (hc : CellsAt W A (t.map (Value.int .u8))) :
    (execOp a.eval o).run Try.prog W = .ok (.value (.agg (tagA t))) W := by
  unfold execOp
  simp only [ho, hx, Instr.loadAt, Instr.sureAddr, Sem.run_bind, Sem.run_pure, Result.andThen_ok, run_loadVar_at W A 30 _ _ hc Try.underlying30 rfl (tag_info ht)]
  rfl
/-- A tag in a box of its own. -/
theorem tagbox {w : World} {g : Nat} {t : List Int} (h : w.heap[g]? = some (.cells (tagA t) 30 (0, 0))) : CellsAt w ⟨g, 0, none⟩ (t.map (Value.int .u8)) := by
  intro j u hj
  have e2 : (⟨g, 0, none⟩ : Addr).add j = ⟨g, j, none⟩ := by unfold Addr.add; split <;> simp_all
  rw [e2, cell_of_row w g j _ 30 (0, 0) h]
  simpa [tagA] using hj
end Go.Proofs.Ythlpbihkbafgbaa.RB
