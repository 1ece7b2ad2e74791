/- The document's Expire. -/
import Derived.Test.YthlpbihkbafgbaaP18
namespace Go.Proofs.Ythlpbihkbafgbaa.RB
open Go Go.Maps Go.RowKit Go.BigFrame Go.Proofs.YthlpbihkbafgbaaW.PrintWords Go.Proofs.YthlpbihkbafgbaaW.PrintLast Go.Proofs.YthlpbihkbafgbaaW.PrintMore
set_option linter.unusedVariables false
set_option linter.unusedSimpArgs false

set_option maxRecDepth 100000 in
theorem run_eslice1 (w : World) (e : Int) {t : List Int} (ht : IsTag t) : (Instr.buildSlice 38 1 #[(0, .agg (keyA e t))]).run Try.prog w = .ok (.slice (some ⟨w.heap.size, 0, none⟩) 1 1) (w.alloc (.cells (keyA e t) 52)) := by
  obtain ⟨a, b, c, d, e1, f, g, h, i, j, k1, l, m, n, o, p, rfl⟩ := tag16 ht
  kernel_rfl
theorem wpList_eslice1 {ops : Array Oper} {rest : List Oper} {o : Oper} {a : Act} {w : World} {Q : Exit → Act → World → Prop} (hgd : o.guard = none) (x : Operand) (ho : o.op = .buildSlice 38 1 #[(0, x)])
    (e : Int) {t : List Int} (ht : IsTag t) (hx : a.eval x = .agg (keyA e t)) (h : wpList Try.prog ops Q rest (a.put o.dst (.slice (some ⟨w.heap.size, 0, none⟩) 1 1)) (w.alloc (.cells (keyA e t) 52))) : wpList Try.prog ops Q (o :: rest) a w :=
  wpList_plain hgd fun _ hK => by
    have hr := run_eslice1 w e ht
    unfold Oper.wp execOp
    simp only [ho, List.map_toArray, List.map_cons, List.map_nil, hx, Sem.run_bind, hr, Result.andThen_ok]
    exact hK _ _ h
theorem ent_info {e : Int} {t : List Int} (ht : IsTag t) : (Try.prog.info? 52).map (·.size) = some (entA (e, t)).length := by rw [entA_len ht]; kernel_rfl
/-- An entry is loaded. -/
theorem wpList_load_ent {ops : Array Oper} {rest : List Oper} {o : Oper} {a : Act} {w : World} {Q : Exit → Act → World → Prop} (hgd : o.guard = none) (x : Operand) (ho : o.op = .load 52 x)
    (A : Addr) (hx : a.eval x = .pointer (some A)) (e : Int) (t : List Int) (ht : IsTag t) (hc : CellsAt w A (entA (e, t))) (h : wpList Try.prog ops Q rest (a.put o.dst (.agg (keyA e t))) w) : wpList Try.prog ops Q (o :: rest) a w :=
  wpList_load_at hgd 52 x ho A hx _ _ hc Try.underlying52 rfl (ent_info ht) h
theorem erow_snoc {w : World} {B : Nat} {v : Value} {S : List Ent} {s : Ent} (h : w.ownsRow B 52 17 v (S.length + 1) (S.flatMap entA ++ entA s)) : ERow w B v (S ++ [s]) := by
  unfold ERow
  rw [List.length_append, List.flatMap_append]
  simpa using h
theorem wpList_append_ent {ops : Array Oper} {rest : List Oper} {o : Oper} {a : Act} {w0 W : World} {Q : Exit → Act → World → Prop} (base : Nat) (hgd : o.guard = none) (s x : Operand) (ho : o.op = .call { callee := .builtin .append, args := #[s, x], argTypes := #[38, 38] })
    (v : Value) (S : List Ent) (e : Int) (t : List Int) (ht : IsTag t) (hs : a.eval s = v) (hx : a.eval x = .slice (some ⟨W.heap.size, 0, none⟩) 1 1) (HO : ERow W base v S) (HB : Below base w0 W) (hbase : base ≤ W.heap.size) (hl : S.length ≤ 1000000)
    (h : ∀ v1 w1, ERow w1 base v1 (S ++ [(e, t)]) → Below base w0 w1 → wpList Try.prog ops Q rest (a.put o.dst v1) w1) :
    wpList Try.prog ops Q (o :: rest) a (W.alloc (.cells (keyA e t) 52)) := by
  refine print_append_cells (w0 := w0) (W := W) base hgd s x 38 52 (.agg zero50) 17 20 ho Try.underlying38 (by kernel_rfl) rfl (by omega) (by omega) v S.length (S.flatMap entA) (entA (e, t)) hs hx (entA_len ht) (by simp [entA, Value.oneCell']) HO HB hbase (by omega) ?_
  intro v1 w1 h1 h2 h3 _
  exact h v1 w1 (erow_snoc h1) h2
theorem keep_take (fl : Int) (S : List Ent) {j : Nat} {s : Ent} (h : S[j]? = some s) : keepE fl (S.take (j + 1)) = keepE fl (S.take j) ++ (if fl ≤ s.1 then [s] else []) := by
  unfold keepE
  rw [List.take_add_one, h, List.filter_append]
  congr 1
  simp only [Option.toList, List.filter_cons, List.filter_nil]
  by_cases hh : fl ≤ s.1 <;> simp [hh]
theorem keep_take_le (fl : Int) (S : List Ent) (j : Nat) : (keepE fl (S.take j)).length ≤ S.length := Nat.le_trans (keepE_le _ _) (by rw [List.length_take]; omega)
theorem okS_keep {fl : Int} {S : List Ent} (h : OkS S) : OkS (keepE fl S) := fun s hs => h s (List.mem_filter.1 hs).1
theorem okS_take {S : List Ent} (h : OkS S) (j : Nat) : OkS (S.take j) := fun s hs => h s (List.mem_of_mem_take hs)
theorem Off.frR {B p : Nat} {w w' : World} {cs : Array Value} {fr : Nat × Nat} (o : Off p p p w w') (hc : w.heap[p]? = some (.cells cs 40 fr)) (hB : B ≤ p) : FrR B w w' := by
  have hl := (Array.getElem?_eq_some_iff.1 hc).1
  refine ⟨o.below (by omega) hB hB hB, fun k ob hk hne => ?_⟩
  have hkp : k ≠ p := by intro e; rw [e, hc] at hk; injection hk with hk; exact hne cs fr hk.symm
  exact (o.block k (Array.getElem?_eq_some_iff.1 hk).1 hkp hkp hkp).trans hk
theorem heap_set1 (w : World) (p i : Nat) (cs : Array Value) (v : Value) (hg : w.heap[p]? = some (.cells cs 40 (0, 0))) : (w.setCell ⟨p, i, none⟩ v).heap[p]? = some (.cells (cs.setIfInBounds i v) 40 (0, 0)) := heap_setCell_same w p i cs 40 v hg
set_option maxHeartbeats 4000000 in
set_option maxRecDepth 100000 in
theorem rexpire_any {B : Nat} {w : World} {p : Nat} {most floor : Int} {S : List Ent} (h : RefAt B w p most floor S) (hn : S.length ≤ 1000000) (e : Int) (he : OkE e) {fl c : Int} {S' : List Ent} (hfl : max floor e = fl) (hS : keepE fl S = S') (hc0 : (S.length : Int) - (S'.length : Int) = c) :
    Calls Try.prog 14 #[.pointer (some ⟨p, 0, none⟩), .int .u32 e] w fun e_ w' => e_ = .returned (.int .i64 c) ∧ RefAt B w' p most fl S' ∧ FrR B w w' := by
  obtain ⟨v, hc, hB, hr, hok, hmo, hfo⟩ := h
  obtain ⟨a, cap, rfl, hE⟩ := hr.ents hok
  have HE := Aside0.mk hE
  have HR := Aside0.mk hr
  have HK := Aside0.mk hok
  have HC := Aside0.mk hc
  have HF := Aside0.mk hfl
  have HS := Aside0.mk hS
  have HC0 := Aside0.mk hc0
  have HM := Aside0.mk hmo
  have HPB := Aside0.mk hB
  have PL : Aside0 (p < w.heap.size) := ⟨(Array.getElem?_eq_some_iff.1 hc).1⟩
  have hb1 : 0 ≤ e ∧ e ≤ 4294967295 := he
  have hb2 : 0 ≤ floor ∧ floor ≤ 4294967295 := hfo
  have c2 : w.cell? ⟨p, 2, none⟩ = some (.int .u32 floor) := (cell_of_row w p 2 _ 40 (0, 0) hc).trans rfl
  have f2 : w.frozen? ⟨p, 2, none⟩ = false := frozen_of_row w p 2 _ 40 hc
  clear hE hr hok hc hS hc0 hmo hB
  rcases (show (floor < e ∧ fl = e) ∨ (e ≤ floor ∧ fl = floor) by omega) with ⟨hlt, rfl⟩ | ⟨hlt, rfl⟩
  all_goals
    clear hfl
    obtain ⟨w1, hw1⟩ : ∃ w_ : World, w.setCell ⟨p, 2, none⟩ (.int .u32 fl) = w_ := ⟨_, rfl⟩
    have P1 : Aside0 (w1.heap[p]? = some (.cells #[.int .i64 most, .slice a S.length cap, .int .u32 fl] 40 (0, 0))) := ⟨by rw [← hw1, heap_set1 _ _ _ _ _ HC.out]; rfl⟩
    have O1 : Aside0 (Off p p p w w1) := ⟨by rw [← hw1]; exact (Off.refl p p p w).setCell (p := ⟨p, 2, none⟩) (Or.inl rfl) _⟩
    have SZ : Aside0 (w1.heap.size = w.heap.size) := ⟨by rw [← hw1]; simp [World.setCell]⟩
    have E1 : Aside0 (Ents w1 a S.length S) := ⟨by
      obtain ⟨g1, g2, g3⟩ := HE.out
      refine ⟨g1, g2, fun i s hi => ?_⟩
      obtain ⟨x, hx, hcc⟩ := g3 i s hi
      refine ⟨x, hx, fun j u hj => ?_⟩
      have hcu := hcc j u hj
      refine (World.cell?_of_block (w := w) (O1.out.block _ (World.block_lt_of_cell? w _ hcu) ?_ ?_ ?_)).trans hcu
      all_goals
        subst hx
        rcases HR.out.2 with ⟨hv, _⟩ | ⟨g, cp, cur, hv, _, hg, _⟩
        · cases hv
        · injection hv with hv _ _
          injection hv with hv
          intro e1
          rw [add_block, add_block, hv] at e1
          have e1' : g = p := e1
          rw [e1', HC.out] at hg
          injection hg with hg
          injection hg with _ hg _
          exact absurd hg (by decide)⟩
    go_enter Try.func14, Try.ntmps14
    go_wp2_with fail
    have B1 : Aside0 (Below w1.heap.size w1 w1) := ⟨Below.refl _ _⟩
    go_loopw [5, 6] (fun kv iv wr => ∃ j : Nat, iv = .int .i64 (j : Int) ∧ j ≤ S.length ∧ Aside0 (ERow wr w1.heap.size kv (keepE fl (S.take j))) ∧ Aside0 (Below w1.heap.size w1 wr)) (fun _ iv _ => S.length - (intOf iv).toNat)
    case atStart => exact ⟨0, rfl, Nat.zero_le _, ⟨erow_nil _ _⟩, B1⟩
    case round =>
      obtain ⟨j, rfl, hj, R3, B3⟩ := hrel
      have P3 : Aside0 (wr.heap[p]? = some (.cells #[.int .i64 most, .slice a S.length cap, .int .u32 fl] 40 (0, 0))) := ⟨(B3.out.block p (Array.getElem?_eq_some_iff.1 P1.out).1).trans P1.out⟩
      have E3 : Aside0 (Ents wr a S.length S) := ⟨E1.out.below B3.out⟩
      have c1 : wr.cell? ⟨p, 1, none⟩ = some (.slice a S.length cap) := (cell_of_row wr p 1 _ 40 (0, 0) P3.out).trans rfl
      by_cases hjl : j < S.length
      · obtain ⟨⟨e2, t2⟩, x, hs, rfl, hcc⟩ := E3.out.at_ hjl
        obtain ⟨A, hA⟩ : ∃ A_ : Addr, x.add (j * 17) = A_ := ⟨_, rfl⟩
        rw [hA] at hcc
        have g1 : ∀ m_, (wr.drewN m_).cell? A = some (.int .u32 e2) := fun m_ => (ent_cells hcc).1
        have g2 : ∀ m_, (wr.drewN m_).cell? ⟨p, 1, none⟩ = some (.slice (some x) S.length cap) := fun m_ => c1
        have g3 : ∀ m_, (wr.drewN m_).cell? ⟨p, 2, none⟩ = some (.int .u32 fl) := fun m_ => (cell_of_row (wr.drewN m_) p 2 _ 40 (0, 0) P3.out).trans rfl
        have HCC := Aside0.mk hcc
        have HT2 : Aside0 (IsTag t2) := ⟨(HK.out _ (List.mem_of_getElem? hs)).2⟩
        have HKT := Aside0.mk (keep_take fl S hs)
        have hkl := keep_take_le fl S j
        have G2 := Aside0.mk g2
        clear hcc hs
        by_cases hge : fl ≤ e2
        · have hge' : decide (fl ≤ e2) = true := decide_eq_true hge
          go_wp2_with fail
          refine wp_region_quiet_lit (by kernel_rfl) (by kernel_rfl) ?_
          repeat (go_big_quiet_step (fail))
          refine wpQuiet_nil ?_
          rintro _ ⟨nq, rfl⟩
          clear c1 g1 g2 g3
          obtain ⟨w4, hw4⟩ : ∃ w_ : World, w_ = wr.drewN nq := ⟨_, rfl⟩
          rw [← hw4]
          have c14 : w4.cell? ⟨p, 1, none⟩ = some (.slice (some x) S.length cap) := by rw [hw4]; exact G2.out nq
          have C4 : Aside0 (CellsAt w4 A (entA (e2, t2))) := ⟨by rw [hw4]; exact HCC.out⟩
          have R4 : Aside0 (ERow w4 w1.heap.size u5 (keepE fl (S.take j))) := ⟨by rw [hw4]; exact R3.out.below (pw_below_drewN (Below.refl _ _) _)⟩
          have B4 : Aside0 (Below w1.heap.size w1 w4) := ⟨by rw [hw4]; exact pw_below_drewN B3.out _⟩
          clear hw4
          go_wp2_with (first | (refine wpList_load_ent rfl _ rfl A rfl e2 t2 HT2.out C4.out ?_) | (refine wpList_eslice1 rfl _ rfl e2 HT2.out rfl ?_) | (at_builtin; refine wpList_append_ent (w0 := w1) w1.heap.size rfl _ _ rfl u5 (keepE fl (S.take j)) e2 t2 HT2.out rfl rfl R4.out B4.out B4.out.size (by omega) ?_; intro v5 w5 R5 B5; have R5 := Aside0.mk R5; have B5 := Aside0.mk B5))
          refine ⟨⟨j + 1, by simp, by omega, ⟨?_⟩, B5⟩, by simp only [intOf]; omega⟩
          rw [HKT.out, if_pos (by omega)]
          exact R5.out
        · have hge' : decide (fl ≤ e2) = false := decide_eq_false hge
          go_wp2_with fail
          refine wp_region_quiet_lit (by kernel_rfl) (by kernel_rfl) ?_
          repeat (go_big_quiet_step (fail))
          refine wpQuiet_nil ?_
          rintro _ ⟨nq, rfl⟩
          clear c1 g1 g2 g3
          go_wp2_with fail
          refine ⟨⟨j + 1, by simp, by omega, ⟨?_⟩, ⟨pw_below_drewN B3.out _⟩⟩, by simp only [intOf]; omega⟩
          rw [HKT.out, if_neg (by omega), List.append_nil]
          exact R3.out.below (pw_below_drewN (Below.refl _ _) _)
      · obtain rfl : j = S.length := by omega
        have R6 : Aside0 (ERow wr w1.heap.size u5 S') := ⟨by have := R3.out; rw [List.take_length, HS.out] at this; exact this⟩
        have HKS : Aside0 (OkS S') := ⟨by rw [← HS.out]; exact okS_keep HK.out⟩
        obtain ⟨ak, ck, hkv, _⟩ := R6.out.ents HKS.out
        subst hkv
        have hsl : S'.length ≤ S.length := by rw [← HS.out]; exact keepE_le fl S
        have hc0 := HC0.out
        have f1 : wr.frozen? ⟨p, 1, none⟩ = false := frozen_of_row wr p 1 _ 40 P3.out
        go_wp2_with fail
        go_ret
        refine ⟨rfl, ⟨_, heap_set1 wr p 1 _ _ P3.out, HPB.out, ?_, HKS.out, HM.out, by unfold OkE; omega⟩, Off.frR (((O1.out.then_below B3.out).setCell (p := ⟨p, 1, none⟩) (Or.inl rfl) _)) HC.out HPB.out⟩
        refine (R6.out.mono (Nat.le_trans (Nat.le_trans HPB.out (Nat.le_of_lt PL.out)) (Nat.le_of_eq SZ.out.symm))).keep fun k cur hg => ?_
        refine (Below.heap_setCell wr ⟨p, 1, none⟩ _ k ?_).trans hg
        intro e1
        have e1' : k = p := e1
        rw [e1', P3.out] at hg
        injection hg with hg
        injection hg with _ hg _
        exact absurd hg (by decide)
end Go.Proofs.Ythlpbihkbafgbaa.RB
