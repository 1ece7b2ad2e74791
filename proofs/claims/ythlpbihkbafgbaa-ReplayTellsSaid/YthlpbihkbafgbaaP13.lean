/- Steps that came in: how the slice reads; whole values loaded at any address. -/
import Derived.Test.YthlpbihkbafgbaaP12
import Derived.Deep.Slices
import Derived.OpenShut
import Derived.ProofKit
namespace Go.Proofs.Ythlpbihkbafgbaa.RB
open Go Go.Maps Go.RowKit Go.BigFrame Go.Proofs.YthlpbihkbafgbaaW.PrintWords Go.Proofs.YthlpbihkbafgbaaW.PrintLast Go.Proofs.YthlpbihkbafgbaaW.PrintMore
open Go.ChangeShapes Go.WideShapes
set_option linter.unusedVariables false
set_option linter.unusedSimpArgs false

/-- A step: kind, epoch, tag. -/
abbrev Stp := Int × Int × List Int
def stpA (s : Stp) : List Value := .int .i64 s.1 :: .int .u32 s.2.1 :: s.2.2.map (Value.int .u8)
structure OkStp (s : Stp) : Prop where
  k : -9223372036854775808 ≤ s.1 ∧ s.1 ≤ 9223372036854775807
  e : OkE s.2.1
  t : IsTag s.2.2
theorem stpA_len {s : Stp} (h : OkStp s) : (stpA s).length = 18 := by simp [stpA, h.t.len]
/-- The cells behind an address. -/
def CellsAt (w : World) (A : Addr) (cs : List Value) : Prop := ∀ j v, cs[j]? = some v → w.cell? (A.add j) = some v
theorem CellsAt.tail {w : World} {A : Addr} {c : Value} {cs : List Value} (h : CellsAt w A (c :: cs)) (n : Nat) (hn : n = 1) : CellsAt w (A.add n) cs := by
  subst hn
  intro j v hj
  rw [Go.Deep.add_add, Nat.add_comm]
  exact h (j + 1) v (by simpa using hj)
theorem CellsAt.head {w : World} {A : Addr} {c : Value} {cs : List Value} (h : CellsAt w A (c :: cs)) : w.cell? (A.add 0) = some c := h 0 c rfl
theorem CellsAt.below {w w' : World} {A : Addr} {cs : List Value} (h : CellsAt w A cs) (hn : cs ≠ []) {B : Nat} (b : Below B w w') (hB : A.block < B) : CellsAt w' A cs := fun j v hj =>
  (b.cell (p := A.add j) (by unfold Addr.add; split <;> exact hB)).trans (h j v hj)
def Steps (w : World) (a : Option Addr) (len : Nat) (L : List Stp) : Prop :=
  L.length = len ∧ len ≤ maxLen ∧ (∀ s ∈ L, OkStp s) ∧ ∀ i s, L[i]? = some s → ∃ x, a = some x ∧ CellsAt w (x.add (i * 18)) (stpA s)
theorem c32 : Try.prog.cellsOf 32 = 18 := by kernel_rfl
theorem c3 : Try.prog.cellsOf 3 = 1 := by kernel_rfl
section
variable {H : Type} {enc : TypeId × Value → H} {w : World} {base : Nat} {sp : Nat → Bool} {held : Bool}
theorem tag_of_trod {n : Nat} {cs : List Value} {x : DataW H × List MemPlace} (h : DataW.trod enc Try.prog w base sp held n 30 cs = some x) : ∃ t, IsTag t ∧ cs = t.map (Value.int .u8) := by
  obtain ⟨xs, m, rfl, hx, hl, hn, hel⟩ := DataW.trod_array Try.underlying30 h
  rw [c30] at hl
  have hv : ∀ i, i < 16 → ∃ z : Int, cs[i]? = some (.int .u8 z) ∧ 0 ≤ z ∧ z ≤ 255 := fun i hi => by
    have h0 := hel i hi
    rw [c5, Nat.mul_one, List.getElem?_eq_getElem (by omega)] at h0
    obtain ⟨z, e1, e2, e3⟩ := DataW.trod_int Try.underlying5 h0
    have h4 := congrArg (fun l => l[0]?) e1
    simp only [List.getElem?_take_of_lt (show 0 < 1 by omega), List.getElem?_drop, Nat.add_zero, List.getElem?_cons_zero] at h4
    exact ⟨z, h4, bd8 e3⟩
  let g : Value → Int := fun v => match v with | .int _ x => x | _ => 0
  refine ⟨cs.map g, ⟨by simp [hl], ?_⟩, ?_⟩
  · intro z hm
    obtain ⟨v, hv', rfl⟩ := List.mem_map.1 hm
    obtain ⟨i, hi, rfl⟩ := List.getElem_of_mem hv'
    obtain ⟨z, hz1, hz2⟩ := hv i (by omega)
    rw [List.getElem?_eq_getElem hi] at hz1
    injection hz1 with hz1
    rw [hz1]; exact hz2
  · apply List.ext_getElem?
    intro i
    by_cases hi : i < 16
    · obtain ⟨z, hz1, _⟩ := hv i hi
      simp [hz1, g]
    · rw [List.getElem?_eq_none (by omega), List.getElem?_eq_none (by simp; omega)]
theorem tag_open {v : Value} {d : DataW H} {p : List MemPlace} (h : DataW.Trod enc Try.prog w base sp held 30 v d p) : ∃ t, v = .agg (tagA t) ∧ IsTag t := by
  obtain ⟨fuel, h⟩ := h
  obtain ⟨t, ht, hc⟩ := tag_of_trod h
  have hv : ∃ ys : Array Value, v = .agg ys := by
    have hl := congrArg List.length hc
    rw [List.length_map, ht.len] at hl
    cases v <;> first | exact ⟨_, rfl⟩ | (simp [Value.cells] at hl)
  obtain ⟨ys, rfl⟩ := hv
  refine ⟨t, ?_, ht⟩
  have : ys = tagA t := Array.toList_inj.1 (by rw [show ys.toList = (Value.agg ys).cells.toList from rfl, hc]; rfl)
  rw [this]
theorem stp_of_trod {n : Nat} {cs : List Value} {x : DataW H × List MemPlace} (h : DataW.trod enc Try.prog w base sp held n 32 cs = some x) : ∃ s, OkStp s ∧ cs = stpA s := by
  obtain ⟨xs, k, hk, hxy, hl, hxl, hf⟩ := DataW.trod_struct Try.underlying32 h
  rw [c32] at hl
  have h0 : DataW.trod enc Try.prog w base sp held k 3 ((cs.drop 0).take (Try.prog.cellsOf 3)) = xs[0]? := hf 0 _ rfl
  have h1 : DataW.trod enc Try.prog w base sp held k 28 ((cs.drop 1).take (Try.prog.cellsOf 28)) = xs[1]? := hf 1 _ rfl
  have h2 : DataW.trod enc Try.prog w base sp held k 30 ((cs.drop 2).take (Try.prog.cellsOf 30)) = xs[2]? := hf 2 _ rfl
  have hx3 : xs.length = 3 := hxl
  rw [List.getElem?_eq_getElem (by omega)] at h0 h1 h2
  simp only [c3, c28, c30] at h0 h1 h2
  obtain ⟨z0, e0, _, b0⟩ := DataW.trod_int Try.underlying3 h0
  obtain ⟨z1, e1, _, b1⟩ := DataW.trod_int Try.underlying28 h1
  obtain ⟨t, ht, e2⟩ := tag_of_trod h2
  obtain ⟨v0, v1, r, rfl⟩ : ∃ v0 v1 r, cs = v0 :: v1 :: r := by
    match cs, hl with
    | v0 :: v1 :: r, _ => exact ⟨v0, v1, r, rfl⟩
  simp at e0 e1 e2
  have hr : r.take 16 = r := List.take_of_length_le (by simp at hl; omega)
  rw [hr] at e2
  refine ⟨(z0, z1, t), ⟨?_, bd32 b1, ht⟩, by rw [e0, e1, e2]; rfl⟩
  simp [Lit.wf, IntKind.min, IntKind.max, IntKind.signed, IntKind.bits] at b0
  exact ⟨by omega, by omega⟩
theorem steps_open {a : Option Addr} {len cap : Nat} {d : DataW H} {p : List MemPlace} (h : DataW.Trod enc Try.prog w 0 (fun _ => true) true 22 (.slice a len cap) d p) : ∃ L, Steps w a len L := by
  obtain ⟨fuel, h⟩ := h
  rcases Go.Deep.open_slice Try.underlying22 h with ⟨hc, _⟩ | ⟨x, l, c, m, n, D, Pl, hc, _, hl, hm, hmm, _, hx⟩
  · simp [Value.cells] at hc
    obtain ⟨rfl, rfl, rfl⟩ := hc
    exact ⟨[], rfl, Nat.zero_le _, by simp, by simp⟩
  · simp [Value.cells] at hc
    obtain ⟨rfl, rfl, rfl⟩ := hc
    simp only [if_true] at hmm
    have hs : ∀ i, i < len → ∃ s : Stp, OkStp s ∧ CellsAt w (x.add (i * 18)) (stpA s) := fun i hi => by
      obtain ⟨cs', h1, h2⟩ := hx i (by omega)
      obtain ⟨s, hs, hcs⟩ := stp_of_trod h2
      rw [c32] at h1
      obtain ⟨_, hlen, hcell⟩ := World.cells?_some h1
      refine ⟨s, hs, fun j v hj => ?_⟩
      rw [← hcs] at hj
      have hjl : j < 18 := by
        have := (List.getElem?_eq_some_iff.1 hj).1
        omega
      exact (hcell j hjl).trans hj
    obtain ⟨f, hf⟩ := Go.Deep.choose_lt (α := Stp) hs
    refine ⟨(List.range len).map f, by simp, by omega, ?_, ?_⟩
    · intro s hm
      obtain ⟨i, hi, rfl⟩ := List.mem_map.1 hm
      exact (hf i (List.mem_range.1 hi)).1
    · intro i s hi
      have hil : i < len := by
        have := (List.getElem?_eq_some_iff.1 hi).1
        simpa using this
      refine ⟨x, rfl, ?_⟩
      have : s = f i := by simpa [hil] using hi.symm
      rw [this]
      exact (hf i hil).2
end
theorem add_block (x : Addr) (i : Nat) : (x.add i).block = x.block := by unfold Addr.add; split <;> rfl
theorem Steps.below {w w' : World} {a : Option Addr} {len : Nat} {L : List Stp} (h : Steps w a len L) (b : Below w.heap.size w w') : Steps w' a len L := by
  obtain ⟨h1, h2, h3, h4⟩ := h
  refine ⟨h1, h2, h3, fun i s hi => ?_⟩
  obtain ⟨x, hx, hc⟩ := h4 i s hi
  have hb : (x.add (i * 18)).block < w.heap.size := by
    have := World.block_lt_of_cell? w _ (hc.head)
    rw [add_block, add_block] at this
    rw [add_block]; exact this
  exact ⟨x, hx, hc.below (by simp [stpA]) b hb⟩
theorem Steps.low {w w' : World} {a : Option Addr} {len : Nat} {L : List Stp} (h : Steps w a len L) (b : Below w.heap.size w w') : Steps w' a len L := h.below b
/-- Step i: its address and its cells. -/
theorem Steps.at_ {w : World} {a : Option Addr} {len : Nat} {L : List Stp} (h : Steps w a len L) {i : Nat} (hi : i < len) : ∃ s x, L[i]? = some s ∧ OkStp s ∧ a = some x ∧ CellsAt w (x.add (i * 18)) (stpA s) := by
  have hl : i < L.length := by rw [h.1]; exact hi
  obtain ⟨x, hx, hc⟩ := h.2.2.2 i L[i] (List.getElem?_eq_getElem hl)
  exact ⟨L[i], x, List.getElem?_eq_getElem hl, h.2.2.1 _ (List.getElem_mem hl), hx, hc⟩
theorem run_loadVar_at {P : Program} (w : World) (A : Addr) (ty : TypeId) (cs : List Value) (d : TypeDesc) (hc : CellsAt w A cs)
    (hu : P.underlying ty = some d) (hd : (match d with | .struct _ | .array _ _ => true | _ => false) = true) (hi : (P.info? ty).map (·.size) = some cs.length) :
    (loadVar ty A).run P w = .ok (.agg cs.toArray) w := by
  have hl : (loadCells A cs.length).run P w = .ok cs.toArray w := run_loadCells_list (P := P) w A cs hc
  cases hq : P.info? ty with
  | none => simp [hq] at hi
  | some i =>
    have hs : i.size = cs.length := by simpa [hq] using hi
    have hagg : (isAgg ty).run P w = .ok true w := by
      unfold isAgg
      rw [Sem.run_bind, run_underlying hu w]
      cases d <;> simp_all
    simp [loadVar, Sem.run_bind, hagg, sizeOf, typeInfo, hq, hs, hl]
theorem wpList_load_at {P : Program} {ops : Array Oper} {rest : List Oper} {o : Oper} {a : Act} {w : World} {Q : Exit → Act → World → Prop} (hgd : o.guard = none) (ty : TypeId) (x : Operand) (ho : o.op = .load ty x)
    (A : Addr) (hx : a.eval x = .pointer (some A)) (cs : List Value) (d : TypeDesc) (hc : CellsAt w A cs)
    (hu : P.underlying ty = some d) (hd : (match d with | .struct _ | .array _ _ => true | _ => false) = true) (hi : (P.info? ty).map (·.size) = some cs.length)
    (h : wpList P ops Q rest (a.put o.dst (.agg cs.toArray)) w) : wpList P ops Q (o :: rest) a w :=
  wpList_plain hgd fun _ hK => by
    unfold Oper.wp execOp
    simp only [ho, hx, Instr.loadAt, Instr.sureAddr, Sem.run_bind, Sem.run_pure, Result.andThen_ok, run_loadVar_at w A ty cs d hc hu hd hi]
    exact hK _ _ h
theorem add0 (x : Addr) : x.add 0 = x := by unfold Addr.add; simp
theorem tag_info {t : List Int} (ht : IsTag t) : (Try.prog.info? 30).map (·.size) = some (t.map (Value.int .u8)).length := by rw [List.length_map, ht.len]; kernel_rfl
theorem stp_info {s : Stp} (h : OkStp s) : (Try.prog.info? 32).map (·.size) = some (stpA s).length := by rw [stpA_len h]; kernel_rfl
/-- A tag is loaded. -/
theorem wpList_load_tag {ops : Array Oper} {rest : List Oper} {o : Oper} {a : Act} {w : World} {Q : Exit → Act → World → Prop} (hgd : o.guard = none) (x : Operand) (ho : o.op = .load 30 x)
    (A : Addr) (hx : a.eval x = .pointer (some A)) (t : List Int) (ht : IsTag t) (hc : CellsAt w A (t.map (Value.int .u8))) (h : wpList Try.prog ops Q rest (a.put o.dst (.agg (tagA t))) w) : wpList Try.prog ops Q (o :: rest) a w :=
  wpList_load_at hgd 30 x ho A hx _ _ hc Try.underlying30 rfl (tag_info ht) h
theorem want_load_tag {ops : Array Oper} {rest : List Oper} {o : Oper} {a : Act} {w : World} {Q : Exit → Act → World → Prop} (hw : Region.wanted o (yielded ops a.tmps) = true) (x : Operand) (ho : o.op = .load 30 x)
    (A : Addr) (hx : a.eval x = .pointer (some A)) (t : List Int) (ht : IsTag t) (hc : CellsAt w A (t.map (Value.int .u8))) (h : wpList Try.prog ops Q rest (a.put o.dst (.agg (tagA t))) w) : wpList Try.prog ops Q (o :: rest) a w :=
  BigFrame.wpList_want hw fun K hK => by
    unfold Oper.wp execOp
    simp only [ho, hx, Instr.loadAt, Instr.sureAddr, Sem.run_bind, Sem.run_pure, Result.andThen_ok, run_loadVar_at w A 30 _ _ hc Try.underlying30 rfl (tag_info ht)]
    exact hK _ _ h
theorem wpStill_load_tag {ops : Array Oper} {w : World} {Q : Act → Prop} {a : Act} {o : Oper} {rest : List Oper} (hw : Region.wanted o (yielded ops a.tmps) = true) (x : Operand) (ho : o.op = .load 30 x)
    (A : Addr) (hx : a.eval x = .pointer (some A)) (t : List Int) (ht : IsTag t) (hc : CellsAt w A (t.map (Value.int .u8))) (hk : wpStill Try.prog ops w Q rest (a.put o.dst (.agg (tagA t)))) : wpStill Try.prog ops w Q (o :: rest) a := by
  refine wpStill_step fun K hK => ?_
  rw [if_pos hw]
  unfold Oper.still execOp
  simp only [ho, hx, Instr.loadAt, Instr.sureAddr, Sem.run_bind, Sem.run_pure, Result.andThen_ok, run_loadVar_at w A 30 _ _ hc Try.underlying30 rfl (tag_info ht)]
  exact ⟨rfl, hK _ hk⟩
/-- A step's cells, one by one. -/
theorem stp_cells {w : World} {A : Addr} {s : Stp} (h : CellsAt w A (stpA s)) : w.cell? A = some (.int .i64 s.1) ∧ w.cell? ⟨A.block, A.off + 1, none⟩ = some (.int .u32 s.2.1) ∧ CellsAt w ⟨A.block, A.off + 2, none⟩ (s.2.2.map (Value.int .u8)) := by
  have h1 := h.tail 1 rfl
  have h2 := h1.tail 1 rfl
  rw [Go.Deep.add_add] at h2
  have h0 := h.head
  rw [add0] at h0
  have h3 := h1.head
  rw [add0] at h3
  exact ⟨h0, h3, h2⟩
end Go.Proofs.Ythlpbihkbafgbaa.RB
