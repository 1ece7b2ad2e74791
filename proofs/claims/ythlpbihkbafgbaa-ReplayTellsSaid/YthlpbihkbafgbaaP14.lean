/- A call in a region whose order is drawn, in a class of worlds; a step in a box; two Tags beside each other. -/
import Derived.Test.YthlpbihkbafgbaaP13
namespace Go.Proofs.Ythlpbihkbafgbaa.RB
open Go Go.Maps Go.RowKit Go.BigFrame Go.Proofs.YthlpbihkbafgbaaW.PrintWords Go.Proofs.YthlpbihkbafgbaaW.PrintLast Go.Proofs.YthlpbihkbafgbaaW.PrintMore
open Go.ChangeShapes Go.WideShapes
set_option linter.unusedVariables false
set_option linter.unusedSimpArgs false

/-- A step in a box of its own. -/
def stpR (s : Stp) : Array Value := (stpA s).toArray
theorem quiet_call {P : Program} {C : World → Prop} {K : Act → Prop} {a : Act} {o : Oper} (v : Value) {f : FuncId} {fn : Func} {us : Array Operand} {ts : Array TypeId} (hf : P.funcs[f]? = some fn) (hname : (fn.name == "runtime.NumGoroutine") = false) (hb : fn.body.isSome = true) (args : Array Value)
    (hop : o.op = .call { callee := .value (.func f), args := us, argTypes := ts }) (hargs : us.map a.eval = args)
    (h : ∀ w, C w → Calls P f args w fun e w' => e = .returned v ∧ C w') (hk : K (a.put o.dst v)) : o.quiet P a C K :=
  ⟨v, fun w hw => by
    have he := enters_ hf hname hb args w
    have hrun : (execOp a.eval o).run P w = .ok (.enter f args) w := by
      unfold execOp
      simp [hop, resolve, Deferred.ofValue, invoke, Act.eval, hargs, he]
    unfold Oper.quietAt
    rw [hrun]
    exact ⟨rfl, h w hw⟩, hk⟩
theorem wp_region_quiet_in {P : Program} (C : World → Prop) {id : Nat} {Q : Exit → Act → World → Prop} {a : Act} {w : World} {l : List Oper} (hm : P.follows .mixedOrders = true) (hB : Region.lexB .any l.toArray = true) (hC : C w.drew)
    (h : wpQuiet P l.toArray C (fun a' => ∀ w', C w' → Q .normal a' w') l a) : (Code.region id l.toArray true).wp P Q a w :=
  wp_region_quiet (C := C) hm hB hC (by simpa using h)
/-- A step is loaded out of the slice. -/
theorem wpList_load_stp {ops : Array Oper} {rest : List Oper} {o : Oper} {a : Act} {w : World} {Q : Exit → Act → World → Prop} (hgd : o.guard = none) (x : Operand) (ho : o.op = .load 32 x)
    (A : Addr) (hx : a.eval x = .pointer (some A)) (s : Stp) (hs : OkStp s) (hc : CellsAt w A (stpA s)) (h : wpList Try.prog ops Q rest (a.put o.dst (.agg (stpR s))) w) : wpList Try.prog ops Q (o :: rest) a w :=
  wpList_load_at hgd 32 x ho A hx _ _ hc Try.underlying32 rfl (stp_info hs) h
theorem quiet_load_tag {C : World → Prop} {K : Act → Prop} {a : Act} {o : Oper} (x : Operand) (ho : o.op = .load 30 x) (A : Addr) (hx : a.eval x = .pointer (some A)) (t : List Int) (ht : IsTag t) (hc : ∀ w, C w → CellsAt w A (t.map (Value.int .u8)))
    (hk : K (a.put o.dst (.agg (tagA t)))) : o.quiet Try.prog a C K :=
  quiet_run _ (fun w hw => by
    unfold execOp
    simp only [ho, hx, Instr.loadAt, Instr.sureAddr, Sem.run_bind, Sem.run_pure, Result.andThen_ok, run_loadVar_at w A 30 _ _ (hc w hw) Try.underlying30 rfl (tag_info ht)]
    rfl) hk
def zero32 : Array Value := #[.int .i64 0, .int .u32 0, .int .u8 0, .int .u8 0, .int .u8 0, .int .u8 0, .int .u8 0, .int .u8 0, .int .u8 0, .int .u8 0, .int .u8 0, .int .u8 0, .int .u8 0, .int .u8 0, .int .u8 0, .int .u8 0, .int .u8 0, .int .u8 0]
theorem stpR_size {s : Stp} (h : OkStp s) : (stpR s).size = 18 := by simp [stpR, stpA_len h]
theorem store_stp (w : World) {s : Stp} (h : OkStp s) : (storeCells ⟨w.heap.size, 0, none⟩ (stpR s).toList 0).run Try.prog (w.alloc (.cells zero32 32)) = .ok () (w.alloc (.cells (stpR s) 32)) :=
  run_storeCells_new (P := Try.prog) w 32 zero32 (stpR s) (by rw [stpR_size h]; kernel_rfl) (by rw [stpR_size h]; rfl) (by simp [stpR, stpA, Value.oneCell'])
theorem box_cells {w : World} {g : Nat} {s : Stp} (h : w.heap[g]? = some (.cells (stpR s) 32 (0, 0))) : w.cell? ⟨g, 0, none⟩ = some (.int .i64 s.1) ∧ w.cell? ⟨g, 1, none⟩ = some (.int .u32 s.2.1) ∧ CellsAt w ⟨g, 2, none⟩ (s.2.2.map (Value.int .u8)) := by
  refine ⟨(cell_of_row w g 0 _ 32 (0, 0) h).trans rfl, (cell_of_row w g 1 _ 32 (0, 0) h).trans rfl, fun j v hj => ?_⟩
  have e : (⟨g, 2, none⟩ : Addr).add j = ⟨g, 2 + j, none⟩ := by unfold Addr.add; split <;> simp_all
  rw [e, cell_of_row w g (2 + j) _ 32 (0, 0) h]
  have : 2 + j = j + 1 + 1 := by omega
  rw [this]
  simpa [stpR, stpA] using hj
/-- Two Tags, of the same room, none of whose blocks are one. -/
def Two (B : Nat) (w : World) (pa pb na nb : Nat) (most : Int) (Sa Sb : List Ent) : Prop :=
  ∃ ha ma Da Ma hb mb Db Mb, TagsAt w pa ha ma na most Sa 0 Da Ma ∧ TagsAt w pb hb mb nb most Sb 0 Db Mb ∧ (B ≤ pa ∧ B ≤ ha ∧ B ≤ ma) ∧ (B ≤ pb ∧ B ≤ hb ∧ B ≤ mb) ∧ (pa ≠ pb ∧ pa ≠ hb ∧ pa ≠ mb) ∧ (ha ≠ pb ∧ ha ≠ hb ∧ ha ≠ mb) ∧ (ma ≠ pb ∧ ma ≠ hb ∧ ma ≠ mb)
theorem Two.swap {B : Nat} {w : World} {pa pb na nb : Nat} {most : Int} {Sa Sb : List Ent} (h : Two B w pa pb na nb most Sa Sb) : Two B w pb pa nb na most Sb Sa := by
  obtain ⟨ha, ma, Da, Ma, hb, mb, Db, Mb, T1, T2, b1, b2, d1, d2, d3⟩ := h
  exact ⟨hb, mb, Db, Mb, ha, ma, Da, Ma, T2, T1, b2, b1, by omega, by omega, by omega⟩
theorem Two.left {B : Nat} {w : World} {pa pb na nb : Nat} {most : Int} {Sa Sb : List Ent} (h : Two B w pa pb na nb most Sa Sb) : At B w pa na most 0 Sa := by
  obtain ⟨ha, ma, Da, Ma, hb, mb, Db, Mb, T1, T2, b1, _⟩ := h
  exact ⟨ha, ma, Da, Ma, T1, b1⟩
theorem Two.below {B : Nat} {w w' : World} {pa pb na nb : Nat} {most : Int} {Sa Sb : List Ent} (h : Two B w pa pb na nb most Sa Sb) (b : Below w.heap.size w w') : Two B w' pa pb na nb most Sa Sb := by
  obtain ⟨ha, ma, Da, Ma, hb, mb, Db, Mb, T1, T2, r⟩ := h
  exact ⟨ha, ma, Da, Ma, hb, mb, Db, Mb, T1.below b, T2.below b, r⟩
theorem two_new {w : World} {B pa na : Nat} {k : Int} {S : List Ent} (h : At B w pa na (max k 1) 0 S) (hk : -9223372036854775808 ≤ k ∧ k ≤ 9223372036854775807) :
    Calls Try.prog 9 #[.int .i64 k] w fun e_ w' => ∃ p, e_ = .returned (.pointer (some ⟨p, 0, none⟩)) ∧ Two B w' pa p na 0 (max k 1) S [] ∧ Fr B w w' := by
  have hB := h.low
  obtain ⟨ha, ma, D, M, T, b1, b2, b3⟩ := h
  have hl := T.lt
  refine (new_any w k hk).mono ?_
  rintro e_ w' ⟨p, rfl, bh, bm, T', b, h1, h2, h3⟩
  exact ⟨p, rfl, ⟨ha, ma, D, M, bh, bm, _, _, T.below b, T', ⟨b1, b2, b3⟩, by omega, by omega, by omega, by omega⟩, Fr.of_below hB b⟩
theorem two_add {w : World} {B pa pb na nb : Nat} {most : Int} {Sa Sb : List Ent} (h : Two B w pa pb na nb most Sa Sb) (e : Int) (he : OkE e) (t : List Int) (ht : IsTag t) (hn : na + 1 < 1000000) {c : Int} (hc : addC most 0 Sa e t = c) :
    Calls Try.prog 11 #[.pointer (some ⟨pa, 0, none⟩), .int .u32 e, .agg (tagA t)] w fun e_ w' => e_ = .returned (.int .i64 c) ∧ Two B w' pa pb (na + 1) nb most (addS most 0 Sa e t) Sb ∧ Fr B w w' := by
  obtain ⟨ha, ma, Da, Ma, hb, mb, Db, Mb, T1, T2, b1, b2, d1, d2, d3⟩ := h
  subst hc
  refine (add_any w T1 e he t ht hn).mono ?_
  rintro e_ w' ⟨D', M', rfl, T', o⟩
  exact ⟨rfl, ⟨ha, ma, D', M', hb, mb, Db, Mb, T', T2.off o (by omega) (by omega) (by omega), b1, b2, d1, d2, d3⟩, (o.sub (Or.inr (Or.inl rfl)) (Or.inr (Or.inr rfl)) (Or.inr (Or.inr rfl))).fr T1 b1⟩
/-- Of epoch e, two lists hold the same. -/
def Same (e : Int) (Sa Sb : List Ent) : Prop := (∀ t, (e, t) ∈ Sa ↔ (e, t) ∈ Sb) ∧ cnt Sa e = cnt Sb e
theorem addS_mem {m fl : Int} {S : List Ent} {e e' : Int} {t t' : List Int} (h : e ≠ e') : (e', t') ∈ addS m fl S e t ↔ (e', t') ∈ S := by
  unfold addS
  split
  · rw [List.mem_append, List.mem_singleton]
    constructor
    · rintro (h1 | h1)
      · exact h1
      · injection h1 with h1 _; exact absurd h1.symm h
    · exact Or.inl
  · rfl
theorem addS_cnt {m fl : Int} {S : List Ent} {e e' : Int} {t : List Int} (h : e ≠ e') : cnt (addS m fl S e t) e' = cnt S e' := by
  unfold addS
  split
  · rw [cnt_snoc, if_neg h]; rfl
  · rfl
theorem same_other {m : Int} {Sa Sb : List Ent} {e xe : Int} {t : List Int} (h : Same e Sa Sb) (hx : xe ≠ e) : Same e (addS m 0 Sa xe t) Sb :=
  ⟨fun t' => (addS_mem hx).trans (h.1 t'), (addS_cnt hx).trans h.2⟩
theorem same_addC {m : Int} {Sa Sb : List Ent} {e : Int} {t : List Int} (h : Same e Sa Sb) : addC m 0 Sa e t = addC m 0 Sb e t := by
  unfold addC
  rw [h.2]
  by_cases h1 : (e, t) ∈ Sa
  · have h2 := (h.1 t).1 h1
    simp [h1, h2]
  · have h2 : (e, t) ∉ Sb := fun hb => h1 ((h.1 t).2 hb)
    simp [h1, h2]
theorem same_add {m : Int} {Sa Sb : List Ent} {e : Int} {t : List Int} (h : Same e Sa Sb) : Same e (addS m 0 Sa e t) (addS m 0 Sb e t) := by
  unfold addS
  rw [same_addC h]
  split
  · refine ⟨fun t' => ?_, ?_⟩
    · rw [List.mem_append, List.mem_append, h.1 t']
    · rw [cnt_snoc, cnt_snoc, h.2]
  · exact h
theorem same_has {Sa Sb : List Ent} {e : Int} (h : Same e Sa Sb) (t : List Int) : decide ((e, t) ∈ Sa) = decide ((e, t) ∈ Sb) := by
  simp only [h.1 t]
end Go.Proofs.Ythlpbihkbafgbaa.RB
