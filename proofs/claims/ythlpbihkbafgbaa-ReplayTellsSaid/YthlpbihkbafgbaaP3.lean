/- Has: a look-up of a key that is built of an epoch and a tag. -/
import Derived.Test.YthlpbihkbafgbaaP2
import Derived.BigQuiet
import Derived.Test.YthlpbihkbafgbaaWMore
import Derived.Test.YthlpbihkbafgbaaWTab
namespace Go.Proofs.Ythlpbihkbafgbaa.RB
open Go Go.Maps Go.RowKit Go.BigFrame Go.Proofs.YthlpbihkbafgbaaW.PrintWords Go.Proofs.YthlpbihkbafgbaaW.PrintLast Go.Proofs.YthlpbihkbafgbaaW.PrintMore
set_option linter.unusedVariables false
set_option linter.unusedSimpArgs false

theorem plainElem_bool_inv {H : Type} {P : Program} {e : TypeId} (he : P.underlying e = some .bool) {v : Value} {z : DataW H × List MemPlace} (h : plainElem P e v = some z) : ∃ x, v = .bool x ∧ z = (.lit (.bool x), []) := by
  unfold plainElem at h
  rw [he] at h
  cases v <;> simp at h
  exact ⟨_, rfl, h.symm⟩
theorem lookup_has {w : World} {bh n : Nat} {D : DataW Unit} (h : w.ownsMap Try.prog 50 (plainElem Try.prog 4) bh n D) {key : Value} {kl : Lit} (hkey : keyOf Try.prog 50 key = some kl) :
    ∃ b, (Instr.lookup 45 (.map (some bh)) key false).run Try.prog w = .ok (.bool b) w ∧ D.atKey kl (.lit (.bool false)) = .lit (.bool b) := by
  obtain ⟨v, ps, hrun, hv⟩ := h.lookup law50 Try.underlying45 (zero4 w) (plainElem_bool Try.underlying4 false) hkey
  obtain ⟨b, rfl, hb⟩ := plainElem_bool_inv Try.underlying4 hv
  exact ⟨b, hrun, congrArg Prod.fst hb⟩
/-- The look-up of a key in the map of tags. -/
theorem run_has {w : World} {bh n : Nat} {S : List Ent} {D M : DataW Unit} (h : w.ownsMap Try.prog 50 (plainElem Try.prog 4) bh n D) (hr : Rel D M S) {e : Int} {t : List Int} (he : OkE e) (ht : IsTag t) :
    (Instr.lookup 45 (.map (some bh)) (.agg (keyA e t)) false).run Try.prog w = .ok (.bool (decide ((e, t) ∈ S))) w := by
  obtain ⟨b, hrun, hat⟩ := lookup_has h (key_of he ht)
  rw [hr.at_ e t he ht] at hat
  injection hat with hat; injection hat with hat
  rw [hat]; exact hrun
theorem tag16 {t : List Int} (ht : IsTag t) : ∃ a b c d e f g h i j k l m n o p, t = [a, b, c, d, e, f, g, h, i, j, k, l, m, n, o, p] := by
  have hl := ht.len
  match t, hl with
  | [a, b, c, d, e, f, g, h, i, j, k, l, m, n, o, p], _ => exact ⟨a, b, c, d, e, f, g, h, i, j, k, l, m, n, o, p, rfl⟩
theorem tagA_size {t : List Int} (ht : IsTag t) : (tagA t).size = 16 := by simp [tagA, ht.len]
theorem built_key (e : Int) {t : List Int} (ht : IsTag t) : Try.prog.built 50 [(0, .int .u32 e), (1, .agg (tagA t))] = some (keyA e t) := by
  obtain ⟨a, b, c, d, e1, f, g, h, i, j, k, l, m, n, o, p, rfl⟩ := tag16 ht
  kernel_rfl
theorem run_key (w : World) (e : Int) {t : List Int} (ht : IsTag t) : (Instr.build 50 #[(0, .int .u32 e), (1, .agg (tagA t))]).run Try.prog w = .ok (.agg (keyA e t)) w :=
  run_build w 50 _ _ (built_key e ht)
theorem info30 {t : List Int} (ht : IsTag t) : (Try.prog.info? 30).map (·.size) = some (tagA t).size := by rw [tagA_size ht]; kernel_rfl
theorem run_loadTag {w : World} {b ty : Nat} {fr : Nat × Nat} {t : List Int} (ht : IsTag t) (h : w.heap[b]? = some (.cells (tagA t) ty fr)) :
    (loadVar 30 ⟨b, 0, none⟩).run Try.prog w = .ok (.agg (tagA t)) w :=
  run_loadVar_row w b ty 30 (tagA t) fr _ h Try.underlying30 rfl (info30 ht)
section
variable {P : Program} {C : World → Prop} {K : Act → Prop} {a : Act} {o : Oper}
theorem quiet_run (v : Value) (h : ∀ w, C w → (execOp a.eval o).run P w = .ok (.value v) w) (hk : K (a.put o.dst v)) : o.quiet P a C K :=
  ⟨v, fun w hw => by unfold Oper.quietAt; rw [h w hw]; exact ⟨rfl, rfl⟩, hk⟩
/-- A whole array is loaded. -/
theorem quiet_load (ty : TypeId) (x : Operand) (ho : o.op = .load ty x) (g : Nat) (hx : a.eval x = .pointer (some ⟨g, 0, none⟩)) (t : TypeId) (cs : Array Value) (fr : Nat × Nat) (d : TypeDesc) (hS : ∀ w, C w → w.heap[g]? = some (.cells cs t fr))
    (hu : P.underlying ty = some d) (hd : (match d with | .struct _ | .array _ _ => true | _ => false) = true) (hi : (P.info? ty).map (·.size) = some cs.size) (hk : K (a.put o.dst (.agg cs))) : o.quiet P a C K :=
  quiet_run _ (fun w hw' => by
    unfold execOp
    simp only [ho, hx, Instr.loadAt, Instr.sureAddr, Sem.run_bind, Sem.run_pure, Result.andThen_ok, run_loadVar_row w g t ty cs fr d (hS w hw') hu hd hi]) hk
/-- A struct is built. -/
theorem quiet_build (ty : TypeId) (parts : Array (Nat × Operand)) (ho : o.op = .build ty parts) (vs : Array (Nat × Value)) (hv : parts.map (fun (i, x) => (i, a.eval x)) = vs) (cs : Array Value) (hb : P.built ty vs.toList = some cs) (hk : K (a.put o.dst (.agg cs))) : o.quiet P a C K :=
  quiet_run _ (fun w _ => by
    unfold execOp
    simp only [ho, hv, Sem.run_bind, run_build w ty _ cs hb, Result.andThen_ok, Sem.run_pure]) hk
/-- A look-up. -/
theorem quiet_lookup (ty : TypeId) (m x : Operand) (ho : o.op = .lookup ty m x false) (mv xv v : Value) (hm : a.eval m = mv) (hx : a.eval x = xv) (hr : ∀ w, C w → (Instr.lookup ty mv xv false).run P w = .ok v w) (hk : K (a.put o.dst v)) : o.quiet P a C K :=
  quiet_run _ (fun w hw => by
    unfold execOp
    simp only [ho, hm, hx, Sem.run_bind, hr w hw, Result.andThen_ok, Sem.run_pure]) hk
end
set_option maxHeartbeats 1000000 in
set_option maxRecDepth 100000 in
theorem has_any (w : World) {p bh bm n : Nat} {most floor : Int} {S : List Ent} {D M : DataW Unit} (h : TagsAt w p bh bm n most S floor D M) (e : Int) (he : OkE e) (t : List Int) (ht : IsTag t) :
    Calls Try.prog 15 #[.pointer (some ⟨p, 0, none⟩), .int .u32 e, .agg (tagA t)] w fun e_ w' => e_ = .returned (.bool (decide ((e, t) ∈ S))) ∧ Below w.heap.size w w' := by
  have c1 : ∀ (o : Obj) (m : Nat), ((w.alloc o).drewN m).cell? ⟨p, 1, none⟩ = some (.map (some bh)) := fun o m => by
    have hlt : p < w.heap.size := (Array.getElem?_eq_some_iff.1 h.cells).1
    have hb : (w.alloc o).heap[p]? = _ := (MapKept.heap_alloc w o).2 p hlt |>.trans h.cells
    exact (cell_of_row _ p 1 _ 48 (0, 0) hb).trans rfl
  have HH := Aside0.mk h.h
  have HR := Aside0.mk h.rel
  clear h
  go_enter Try.func15, Try.ntmps15
  go_wp2_with fail
  refine wp_region_quiet_lit (by kernel_rfl) (by kernel_rfl) ?_
  repeat (first | (go_big_quiet_want; refine quiet_load 30 _ rfl w.heap.size rfl 30 (tagA t) (0, 0) _ ?_ Try.underlying30 rfl (info30 ht) ?_; (rintro w_ ⟨m, rfl⟩; exact (MapKept.heap_alloc w _).1); go_frame; go_big_quiet_on) | (go_big_quiet_want; refine quiet_build 50 _ rfl #[(0, .int .u32 e), (1, .agg (tagA t))] (by simp [Act.eval]) _ (built_key e ht) ?_; go_frame; go_big_quiet_on) | (go_big_quiet_want; refine quiet_lookup 45 _ _ rfl _ _ (.bool (decide ((e, t) ∈ S))) rfl rfl ?_ ?_; (rintro w_ ⟨m, rfl⟩; exact run_has (w := (w.alloc _).drewN m) (HH.out.alloc _) HR.out he ht); go_frame; go_big_quiet_on) | go_big_quiet_step (fail))
  refine wpQuiet_nil ?_
  rintro _ ⟨nq, rfl⟩
  go_wp2

  go_ret
  exact ⟨rfl, pw_below_drewN (below_alloc (Below.refl _ _) _) _⟩
end Go.Proofs.Ythlpbihkbafgbaa.RB
