/- Add: the plain law of the list; the walk's ways. -/
import Derived.Test.YthlpbihkbafgbaaP4
import Derived.StillTailTactics
import Derived.Deep.WholeRow
namespace Go.Proofs.Ythlpbihkbafgbaa.RB
open Go Go.Maps Go.RowKit Go.BigFrame Go.Proofs.YthlpbihkbafgbaaW.PrintWords Go.Proofs.YthlpbihkbafgbaaW.PrintLast Go.Proofs.YthlpbihkbafgbaaW.PrintMore
set_option linter.unusedVariables false
set_option linter.unusedSimpArgs false

def addC (most floor : Int) (S : List Ent) (e : Int) (t : List Int) : Int :=
  if e < floor then 11 else if (e, t) ∈ S then 7 else if most ≤ (cnt S e : Int) then 8 else 0
def addS (most floor : Int) (S : List Ent) (e : Int) (t : List Int) : List Ent :=
  if addC most floor S e t = 0 then S ++ [(e, t)] else S
theorem addC_old {most floor : Int} {S : List Ent} {e : Int} {t : List Int} (h : e < floor) : addC most floor S e t = 11 := by unfold addC; rw [if_pos h]
theorem addC_has {most floor : Int} {S : List Ent} {e : Int} {t : List Int} (h : floor ≤ e) (h2 : (e, t) ∈ S) : addC most floor S e t = 7 := by unfold addC; rw [if_neg (by omega), if_pos h2]
theorem addC_full {most floor : Int} {S : List Ent} {e : Int} {t : List Int} (h : floor ≤ e) (h2 : (e, t) ∉ S) (h3 : most ≤ (cnt S e : Int)) : addC most floor S e t = 8 := by unfold addC; rw [if_neg (by omega), if_neg h2, if_pos h3]
theorem addC_ok {most floor : Int} {S : List Ent} {e : Int} {t : List Int} (h : floor ≤ e) (h2 : (e, t) ∉ S) (h3 : (cnt S e : Int) < most) : addC most floor S e t = 0 := by unfold addC; rw [if_neg (by omega), if_neg h2, if_neg (by omega)]
theorem cnt_snoc (S : List Ent) (e e' : Int) (t : List Int) : cnt (S ++ [(e, t)]) e' = cnt S e' + (if e = e' then 1 else 0) := by
  unfold cnt
  rw [List.filter_append, List.length_append]
  by_cases h : e = e' <;> simp [h]
theorem cnt_le (S : List Ent) (e : Int) : cnt S e ≤ S.length := List.length_filter_le _ _
theorem keyInt {e : Int} (he : OkE e) : keyOf Try.prog 28 (.int .u32 e) = some (.int .u32 e) := keyOf_int_mk Try.underlying28 (wf32 he)
theorem rel_add {D M : DataW Unit} {S : List Ent} (h : Rel D M S) (hD : Tidy D) (hM : IsMap M) {e : Int} {t : List Int} (he : OkE e) (ht : IsTag t) (hn : (e, t) ∉ S) :
    Rel (D.put (keyL e t) (.lit (.bool true))) (M.put (.int .u32 e) (.lit (.int .i64 ((cnt S e : Int) + 1)))) (S ++ [(e, t)]) := by
  have K1 := law50.key (key_of he ht)
  have K2 := law28.key (keyInt he)
  have hmem : ∀ e' t', ((e', t') ∈ S ++ [(e, t)]) ↔ ((e', t') ∈ S ∨ (e' = e ∧ t' = t)) := fun e' t' => by simp
  refine ⟨?_, ?_, ?_, ?_, ?_, ?_⟩
  · intro p hp
    rcases List.mem_append.1 hp with hp | hp
    · exact h.ok p hp
    · rw [List.mem_singleton.1 hp]; exact ⟨he, ht⟩
  · rw [List.nodup_append]
    refine ⟨h.nd, by simp, ?_⟩
    intro a ha b hb e1
    rw [List.mem_singleton.1 hb] at e1
    exact hn (e1 ▸ ha)
  · intro e' t' he' ht'
    by_cases hk : keyL e' t' = keyL e t
    · obtain ⟨rfl, rfl⟩ := keyL_inj he' ht' he ht hk
      rw [atKey_put_same hD.isMap K1]; simp
    · rw [atKey_put_other hk, h.at_ e' t' he' ht']
      have : ¬ (e' = e ∧ t' = t) := fun ⟨a, b⟩ => hk (by rw [a, b])
      simp only [hmem, this, or_false]
  · intro e' t' he' ht'
    by_cases hk : keyL e' t' = keyL e t
    · obtain ⟨rfl, rfl⟩ := keyL_inj he' ht' he ht hk
      rw [has_put_same hD.isMap K1]; simp
    · rw [has_put_other hk, h.has e' t' he' ht']
      have : ¬ (e' = e ∧ t' = t) := fun ⟨a, b⟩ => hk (by rw [a, b])
      simp only [hmem, this, or_false]
  · rw [size_put hD, h.has e t he ht]
    simp [hn, h.size]
  · intro e' he'
    by_cases hk : (Lit.int .u32 e') = .int .u32 e
    · injection hk with _ hk
      subst hk
      rw [atKey_put_same hM K2, cnt_snoc]; simp
    · rw [atKey_put_other hk, h.many e' he', cnt_snoc]
      have : ¬ e = e' := fun a => hk (by rw [a])
      simp [this]
theorem wpList_build_to {P : Program} {ops : Array Oper} {rest : List Oper} {o : Oper} {a : Act} {w : World} {Q : Exit → Act → World → Prop} (hg : o.guard = none) (t : TypeId) (parts : Array (Nat × Operand)) (ho : o.op = .build t parts)
    (vs : Array (Nat × Value)) (hv : parts.map (fun (i, x) => (i, a.eval x)) = vs) (cs : Array Value) (hb : P.built t vs.toList = some cs) (h : wpList P ops Q rest (a.put o.dst (.agg cs)) w) : wpList P ops Q (o :: rest) a w := by
  refine wpList_plain hg fun K' hK' => ?_
  unfold Oper.wp
  simp only [execOp, ho, hv, Sem.run_bind, run_build w t _ cs hb, Result.andThen_ok]
  exact hK' _ _ h
theorem wpStill_load {P : Program} {ops : Array Oper} {w : World} {Q : Act → Prop} {a : Act} {o : Oper} {rest : List Oper} (hw : Region.wanted o (yielded ops a.tmps) = true) (ty : TypeId) (x : Operand) (ho : o.op = .load ty x) (g : Nat) (hx : a.eval x = .pointer (some ⟨g, 0, none⟩)) (t : TypeId) (cs : Array Value) (fr : Nat × Nat) (d : TypeDesc) (hS : w.heap[g]? = some (.cells cs t fr))
    (hu : P.underlying ty = some d) (hd : (match d with | .struct _ | .array _ _ => true | _ => false) = true) (hi : (P.info? ty).map (·.size) = some cs.size) (hk : wpStill P ops w Q rest (a.put o.dst (.agg cs))) : wpStill P ops w Q (o :: rest) a := by
  refine wpStill_step fun K hK => ?_
  rw [if_pos hw]
  unfold Oper.still execOp
  simp only [ho, hx, Instr.loadAt, Instr.sureAddr, Sem.run_bind, Sem.run_pure, Result.andThen_ok, run_loadVar_row w g t ty cs fr d hS hu hd hi]
  exact ⟨rfl, hK _ hk⟩
def zero50 : Array Value := #[.int .u32 0, .int .u8 0, .int .u8 0, .int .u8 0, .int .u8 0, .int .u8 0, .int .u8 0, .int .u8 0, .int .u8 0, .int .u8 0, .int .u8 0, .int .u8 0, .int .u8 0, .int .u8 0, .int .u8 0, .int .u8 0, .int .u8 0]
theorem keyA_size (e : Int) {t : List Int} (ht : IsTag t) : (keyA e t).size = 17 := by simp [keyA, ht.len]
theorem info50 (e : Int) {t : List Int} (ht : IsTag t) : (Try.prog.info? 50).map (·.size) = some (keyA e t).size := by rw [keyA_size e ht]; kernel_rfl
theorem keyA_cells (e : Int) (t : List Int) : (keyA e t).all (·.oneCell') = true := by
  simp [keyA, Value.oneCell']
theorem store_key (w : World) (e : Int) {t : List Int} (ht : IsTag t) : (storeCells ⟨w.heap.size + 1, 0, none⟩ (keyA e t).toList 0).run Try.prog ((w.alloc (.cells (tagA t) 30)).alloc (.cells zero50 50)) = .ok () ((w.alloc (.cells (tagA t) 30)).alloc (.cells (keyA e t) 50)) := by
  have := run_storeCells_new (P := Try.prog) (w.alloc (.cells (tagA t) 30)) 50 zero50 (keyA e t) (info50 e ht) (by rw [keyA_size e ht]; rfl) (keyA_cells e t)
  rw [sz_alloc] at this; exact this
theorem TagsAt.c0 {w : World} {p bh bm n : Nat} {most floor : Int} {S : List Ent} {D M : DataW Unit} (h : TagsAt w p bh bm n most S floor D M) : w.cell? ⟨p, 0, none⟩ = some (.int .i64 most) := (cell_of_row w p 0 _ 48 (0, 0) h.cells).trans rfl
theorem TagsAt.c1 {w : World} {p bh bm n : Nat} {most floor : Int} {S : List Ent} {D M : DataW Unit} (h : TagsAt w p bh bm n most S floor D M) : w.cell? ⟨p, 1, none⟩ = some (.map (some bh)) := (cell_of_row w p 1 _ 48 (0, 0) h.cells).trans rfl
theorem TagsAt.c2 {w : World} {p bh bm n : Nat} {most floor : Int} {S : List Ent} {D M : DataW Unit} (h : TagsAt w p bh bm n most S floor D M) : w.cell? ⟨p, 2, none⟩ = some (.map (some bm)) := (cell_of_row w p 2 _ 48 (0, 0) h.cells).trans rfl
theorem TagsAt.c3 {w : World} {p bh bm n : Nat} {most floor : Int} {S : List Ent} {D M : DataW Unit} (h : TagsAt w p bh bm n most S floor D M) : w.cell? ⟨p, 3, none⟩ = some (.int .u32 floor) := (cell_of_row w p 3 _ 48 (0, 0) h.cells).trans rfl
theorem below3 (w : World) (o1 o2 : Obj) (m : Nat) : Below w.heap.size w (((w.alloc o1).alloc o2).drewN m) := pw_below_drewN (below_alloc (below_alloc (Below.refl _ _) _) _) _
theorem add_early {w w' : World} {p bh bm n : Nat} {most floor : Int} {S : List Ent} {D M : DataW Unit} (h : TagsAt w p bh bm n most S floor D M) {e : Int} {t : List Int} (b : Below w.heap.size w w') {c : Int} (hc : addC most floor S e t = c) (h0 : c ≠ 0) :
    ∃ D' M', Ending.returned (.int .i64 c) = .returned (.int .i64 (addC most floor S e t)) ∧ TagsAt w' p bh bm (n + 1) most (addS most floor S e t) floor D' M' ∧ Off bh bm bm w w' := by
  have h' := h.below b
  refine ⟨D, M, by rw [hc], ?_, Off.of_below b⟩
  unfold addS
  rw [hc, if_neg h0]
  exact ⟨h'.cells, h'.h.mono (Nat.le_succ _), h'.m.mono (Nat.le_succ _), h'.ne, h'.rel, h'.mostOk, h'.floorOk, Nat.le_succ_of_le h'.len⟩
theorem run_many {w : World} {bm n : Nat} {S : List Ent} {D M : DataW Unit} (h : w.ownsMap Try.prog 28 (plainElem Try.prog 3) bm n M) (hr : Rel D M S) {e : Int} (he : OkE e) :
    (Instr.lookup 46 (.map (some bm)) (.int .u32 e) false).run Try.prog w = .ok (.int .i64 (cnt S e : Int)) w := by
  obtain ⟨c, hrun, hat, _⟩ := h.lookup_int law28 Try.underlying46 Try.underlying3 (zero3 w) (keyOf_int_mk Try.underlying28 (wf32 he))
  rw [hr.many e he] at hat
  injection hat with hat; injection hat with _ hat
  rw [hat]; exact hrun
set_option maxHeartbeats 1000000 in
set_option maxRecDepth 100000 in
theorem add_any (w : World) {p bh bm n : Nat} {most floor : Int} {S : List Ent} {D M : DataW Unit} (h : TagsAt w p bh bm n most S floor D M) (e : Int) (he : OkE e) (t : List Int) (ht : IsTag t) (hn : n + 1 < 1000000) :
    Calls Try.prog 11 #[.pointer (some ⟨p, 0, none⟩), .int .u32 e, .agg (tagA t)] w fun e_ w' => ∃ D' M', e_ = .returned (.int .i64 (addC most floor S e t)) ∧ TagsAt w' p bh bm (n + 1) most (addS most floor S e t) floor D' M' ∧ Off bh bm bm w w' := by
  have H := Aside0.mk h
  have hst := store_key w e ht
  unfold zero50 at hst
  have hsz := keyA_size e ht
  have hkb : Aside0 (((w.alloc (.cells (tagA t) 30)).alloc (.cells (keyA e t) 50)).heap[w.heap.size + 1]? = some (.cells (keyA e t) 50 (0, 0))) := ⟨by have := blk_new (w.alloc (.cells (tagA t) 30)) (.cells (keyA e t) 50); rw [sz_alloc] at this; exact this⟩
  have HT : Aside0 (∀ m, TagsAt (((w.alloc (.cells (tagA t) 30)).alloc (.cells (keyA e t) 50)).drewN m) p bh bm n most S floor D M) := ⟨fun m => h.below (below3 _ _ _ _)⟩
  have c3 := (HT.out 0).c3
  rw [World.drewN_zero] at c3
  clear h
  have hb := below3 w (.cells (tagA t) 30) (.cells (keyA e t) 50)
  have HB := Aside0.mk hb
  clear hb
  have HN := Aside0.mk hn
  clear hn
  go_enter Try.func11, Try.ntmps11
  go_wp2_with (first | (refine wpList_load_row rfl 30 _ rfl w.heap.size rfl 30 _ (0, 0) _ (blk_new _ _) Try.underlying30 rfl (info30 ht) ?_) | (refine wpList_build_to rfl 50 _ rfl #[(0, .int .u32 e), (1, .agg (tagA t))] (by simp [Act.eval, Act.put]) _ (built_key e ht) ?_))
  · go_ret
    exact add_early H.out (by have := HB.out 0; rw [World.drewN_zero] at this; exact this) (c := 11) (addC_old (by omega)) (by decide)
  have h1 : Aside0 (floor ≤ e) := ⟨by omega⟩
  obtain ⟨w5, hw5⟩ : ∃ w_ : World, w_ = ((w.alloc (.cells (tagA t) 30)).alloc (.cells (keyA e t) 50)) := ⟨_, rfl⟩
  rw [← hw5]
  simp only [← hw5] at HT HB hkb
  clear hw5 hst hsz c3
  have c1 : ∀ m, (w5.drewN m).cell? ⟨p, 1, none⟩ = some (.map (some bh)) := fun m => (HT.out m).c1
  refine wp_region_quiet_lit (by kernel_rfl) (by kernel_rfl) ?_
  repeat (first | (go_big_quiet_want; refine quiet_load 50 _ rfl (w.heap.size + 1) rfl 50 (keyA e t) (0, 0) _ ?_ Try.underlying50 rfl (info50 e ht) ?_; (rintro w_ ⟨m, rfl⟩; exact hkb.out); go_frame; go_big_quiet_on) | (go_big_quiet_want; refine quiet_lookup 45 _ _ rfl _ _ (.bool (decide ((e, t) ∈ S))) rfl rfl ?_ ?_; (rintro w_ ⟨m, rfl⟩; exact run_has (HT.out m).h H.out.rel he ht); go_frame; go_big_quiet_on) | go_big_quiet_step (fail))
  refine wpQuiet_nil ?_
  rintro _ ⟨nq, rfl⟩
  clear c1
  by_cases h2 : (e, t) ∈ S
  · have h3 := decide_eq_true h2
    rw [h3]
    go_wp2
    go_ret
    exact add_early H.out (HB.out nq) (c := 7) (addC_has h1.out h2) (by decide)
  have h3 := decide_eq_false h2
  rw [h3]
  go_wp2
  have m1 := H.out.mostOk
  have m2 : Aside0 (cnt S e ≤ n) := ⟨Nat.le_trans (cnt_le S e) H.out.len⟩
  obtain ⟨w6, hw6⟩ : ∃ w_ : World, w_ = w5.drewN nq := ⟨_, rfl⟩
  rw [← hw6]
  have HT6 : Aside0 (∀ m, TagsAt (w6.drewN m) p bh bm n most S floor D M) := ⟨fun m => by rw [hw6, World.drewN_drewN]; exact HT.out _⟩
  have HB6 : Aside0 (∀ m, Below w.heap.size w (w6.drewN m)) := ⟨fun m => by rw [hw6, World.drewN_drewN]; exact HB.out _⟩
  have hkb6 : Aside0 (w6.heap[w.heap.size + 1]? = some (.cells (keyA e t) 50 (0, 0))) := ⟨by rw [hw6]; exact hkb.out⟩
  clear hw6 HT HB hkb
  have c2 : ∀ m, (w6.drewN m).cell? ⟨p, 2, none⟩ = some (.map (some bm)) := fun m => (HT6.out m).c2
  have c0 : ∀ m, (w6.drewN m).cell? ⟨p, 0, none⟩ = some (.int .i64 most) := fun m => (HT6.out m).c0
  obtain ⟨cn, hcn⟩ : ∃ c_ : Int, c_ = (cnt S e : Int) := ⟨_, rfl⟩
  have hcn := Aside0.mk hcn
  refine wp_region_quiet_lit (by kernel_rfl) (by kernel_rfl) ?_
  repeat (first | (go_big_quiet_want; refine quiet_lookup 46 _ _ rfl _ _ (.int .i64 cn) rfl rfl ?_ ?_; (rintro w_ ⟨m, rfl⟩; rw [hcn.out]; exact run_many (HT6.out m).m H.out.rel he); go_frame; go_big_quiet_on) | go_big_quiet_step (fail))
  refine wpQuiet_nil ?_
  rintro _ ⟨nq2, rfl⟩
  clear c2 c0
  go_wp2
  · go_ret
    exact add_early H.out (HB6.out nq2) (c := 8) (addC_full h1.out h2 (by have := hcn.out; omega)) (by decide)
  have h4 : Aside0 ((cnt S e : Int) < most) := ⟨by have := hcn.out; omega⟩
  obtain ⟨w7, hw7⟩ : ∃ w_ : World, w_ = w6.drewN nq2 := ⟨_, rfl⟩
  rw [← hw7]
  have HT7 : Aside0 (TagsAt w7 p bh bm n most S floor D M) := ⟨by rw [hw7]; exact HT6.out _⟩
  have HB7 : Aside0 (Below w.heap.size w w7) := ⟨by rw [hw7]; exact HB6.out _⟩
  have hkb7 : Aside0 (w7.heap[w.heap.size + 1]? = some (.cells (keyA e t) 50 (0, 0))) := ⟨by rw [hw7]; exact hkb6.out⟩
  clear hw7 HT6 HB6 hkb6 h3
  have c1 : w7.cell? ⟨p, 1, none⟩ = some (.map (some bh)) := HT7.out.c1
  refine wp_region_still_tail 5 (by kernel_rfl) (by kernel_rfl) ?_
  simp only [List.take_succ_cons, List.take_zero, List.drop_succ_cons, List.drop_zero]
  iterate 4 still_step
  refine wpStill_load rfl 50 _ rfl (w.heap.size + 1) rfl 50 (keyA e t) (0, 0) _ hkb7.out Try.underlying50 rfl (info50 e ht) ?_
  refine wpStill_nil ?_
  go_frame
  clear c1
  change wpList _ _ _ _ _ w7.drew
  obtain ⟨w8, hw8⟩ : ∃ w_ : World, w_ = w7.drew := ⟨_, rfl⟩
  rw [← hw8]
  have HT8 : Aside0 (TagsAt w8 p bh bm n most S floor D M) := ⟨by rw [hw8]; exact HT7.out.below (below_drew1 (Below.refl _ _))⟩
  have HB8 : Aside0 (Below w.heap.size w w8) := ⟨by rw [hw8]; exact below_drew1 HB7.out⟩
  clear hw8 HT7 HB7 hkb7
  refine wpList_mapUpdate_own _ rfl _ _ _ 45 rfl 50 4 law50 Try.underlying45 _ bh n _ rfl HT8.out.h (by have := HN.out; unfold maxLen; omega) _ _ _ rfl rfl (key_of he ht) (.lit (.bool true)) [] (plainElem_bool Try.underlying4 true) ?_
  intro w9 hown9 hg9
  have hown9 := Aside0.mk hown9
  have hg9 := Aside0.mk hg9
  have hp9 : Aside0 (w9.heap[p]? = some (.cells #[.int .i64 most, .map (some bh), .map (some bm), .int .u32 floor] 48 (0, 0))) := ⟨(hg9.out.block p HT8.out.lt.1 (by intro e; exact HT8.out.apart.1 (Option.some.inj e))).trans HT8.out.cells⟩
  have hm9 : Aside0 (w9.ownsMap Try.prog 28 (plainElem Try.prog 3) bm n M) := ⟨HT8.out.m.kept hg9.out (by intro e; exact HT8.out.ne (Option.some.inj e).symm)⟩
  have c2 : w9.cell? ⟨p, 2, none⟩ = some (.map (some bm)) := (cell_of_row w9 p 2 _ 48 (0, 0) hp9.out).trans rfl
  have lk := run_many hm9.out H.out.rel he
  have cb : 0 ≤ (cnt S e : Int) ∧ (cnt S e : Int) < 1000000 := ⟨by omega, by have := m2.out; have := HN.out; omega⟩
  go_wp2_with (at_mapUpdate; refine wpList_mapUpdate_own _ rfl _ _ _ 46 rfl 28 3 law28 Try.underlying46 _ bm n _ rfl hm9.out (by have := HN.out; unfold maxLen; omega) _ _ _ rfl rfl (keyInt he) (.lit (.int .i64 ((cnt S e : Int) + 1))) [] (plainElem_int Try.underlying3 (WalkArith.wf_i64 (by omega))) ?_; intro w10 hown10 hg10; have hown10 := Aside0.mk hown10; have hg10 := Aside0.mk hg10)
  go_ret
  have hC := addC_ok h1.out h2 h4.out
  have T8 := HT8.out
  refine ⟨D.put (keyL e t) (.lit (.bool true)), M.put (.int .u32 e) (.lit (.int .i64 ((cnt S e : Int) + 1))), by rw [hC]; rfl, ?_, ((Off.of_below HB8.out).grown hg9.out (Or.inl rfl)).grown hg10.out (Or.inr (Or.inl rfl))⟩
  unfold addS
  rw [if_pos hC]
  exact { cells := (hg10.out.block p (Nat.lt_of_lt_of_le T8.lt.1 hg9.out.size) (by intro e; exact T8.apart.2 (Option.some.inj e))).trans hp9.out
          h := hown9.out.kept hg10.out (by intro e; exact T8.ne (Option.some.inj e))
          m := hown10.out
          ne := T8.ne
          rel := rel_add T8.rel (T8.h.tidy law50) T8.m.isMap he ht h2
          mostOk := T8.mostOk
          floorOk := T8.floorOk
          len := by rw [List.length_append]; have := T8.len; simp; omega }
end Go.Proofs.Ythlpbihkbafgbaa.RB
