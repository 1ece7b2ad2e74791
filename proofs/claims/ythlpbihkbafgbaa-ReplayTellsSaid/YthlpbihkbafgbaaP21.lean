/- The document's Add. -/
import Derived.Test.YthlpbihkbafgbaaP20
namespace Go.Proofs.Ythlpbihkbafgbaa.RB
open Go Go.Maps Go.RowKit Go.BigFrame Go.Proofs.YthlpbihkbafgbaaW.PrintWords Go.Proofs.YthlpbihkbafgbaaW.PrintLast Go.Proofs.YthlpbihkbafgbaaW.PrintMore
set_option linter.unusedVariables false
set_option linter.unusedSimpArgs false

/-- What is known of the region's places on the way. -/
structure Way (w7 : World) (e : Int) (t : List Int) (w_ : World) (g28 g37 : Option Nat) : Prop where
  b : Below w7.heap.size w7 w_
  k28 : ∀ g, g28 = some g → w7.heap.size ≤ g ∧ w_.heap[g]? = some (.cells #[] 52 (0, 0))
  k37 : ∀ g, g37 = some g → w_.heap[g]? = some (.cells (keyA e t) 52 (0, 0))
  ne : ∀ g h, g28 = some g → g37 = some h → g ≠ h
theorem Way.start {w7 w_ : World} {e : Int} {t : List Int} (h : Below w7.heap.size w7 w_) : Way w7 e t w_ none none := ⟨h, by simp, by simp, by simp⟩
theorem Way.mk28 {w7 w_ : World} {e : Int} {t : List Int} {g37 : Option Nat} (h : Way w7 e t w_ none g37) : Way w7 e t (w_.alloc (.cells #[] 52)) (some w_.heap.size) g37 := by
  refine ⟨below_alloc h.b _, fun g hg => ?_, fun g hg => ?_, fun g k hg hk => ?_⟩
  · injection hg with hg; subst hg; exact ⟨h.b.size, blk_new _ _⟩
  · exact (Below.heap_alloc _ _ _ (Array.getElem?_eq_some_iff.1 (h.k37 g hg)).1).trans (h.k37 g hg)
  · injection hg with hg; subst hg
    have := (Array.getElem?_eq_some_iff.1 (h.k37 k hk)).1
    omega
theorem Way.mk37 {w7 w_ : World} {e : Int} {t : List Int} {g28 : Option Nat} (h : Way w7 e t w_ g28 none) : Way w7 e t (w_.alloc (.cells (keyA e t) 52)) g28 (some w_.heap.size) := by
  refine ⟨below_alloc h.b _, fun g hg => ?_, fun g hg => ?_, fun g k hg hk => ?_⟩
  · exact ⟨(h.k28 g hg).1, (Below.heap_alloc _ _ _ (Array.getElem?_eq_some_iff.1 (h.k28 g hg).2).1).trans (h.k28 g hg).2⟩
  · injection hg with hg; subst hg; exact blk_new _ _
  · injection hk with hk; subst hk
    have := (Array.getElem?_eq_some_iff.1 (h.k28 g hg).2).1
    omega
/-- Behind the first append. -/
structure Way2 (w7 : World) (e : Int) (t : List Int) (S : List Ent) (w_ : World) (v : Value) (g37 : Option Nat) : Prop where
  b : Below w7.heap.size w7 w_
  r : ERow w_ w7.heap.size v S
  k37 : ∀ g, g37 = some g → w_.heap[g]? = some (.cells (keyA e t) 52 (0, 0))
theorem grown_below {B : Nat} {a w w' : World} {r : Option Nat} (h : Below B a w) (hg : w.grownBy w' r) (hB : ∀ g, r = some g → B ≤ g) (hs : B ≤ w.heap.size) : Below B a w' := h.grown hg hs hB
theorem Way.append {w7 w_ : World} {e : Int} {t : List Int} {S : List Ent} {g28 : Nat} {g37 : Option Nat} (h : Way w7 e t w_ (some g28) g37) (ty : TypeId) {a : Option Addr} {cap : Nat} (hE : Ents w7 a S.length S) (hk : OkS S) (hl : S.length ≤ 900000) :
    ∃ v1 w1, (Builtin.append_ #[38, 38] ty #[.slice (some ⟨g28, 0, none⟩) 0 0, .slice a S.length cap]).run Try.prog w_ = .ok v1 w1 ∧ Way2 w7 e t S w1 v1 g37 := by
  obtain ⟨k1, k2⟩ := h.k28 g28 rfl
  obtain ⟨v1, w1, hrun, hr, hg⟩ := run_append_ents ty (erow_empty w_ w7.heap.size g28 k1 k2) a cap rfl (hE.below h.b) hk (by simp; omega) h.b.size
  rw [List.nil_append] at hr
  refine ⟨v1, w1, hrun, grown_below h.b hg (fun g hg => by simp [Value.ownBlock] at hg; omega) h.b.size, hr, fun g hg37 => ?_⟩
  exact (hg.block g (Array.getElem?_eq_some_iff.1 (h.k37 g hg37)).1 (by intro e1; simp [Value.ownBlock] at e1; exact h.ne g28 g rfl hg37 e1.symm)).trans (h.k37 g hg37)
theorem Way2.mk37 {w7 w_ : World} {e : Int} {t : List Int} {S : List Ent} {v : Value} (h : Way2 w7 e t S w_ v none) : Way2 w7 e t S (w_.alloc (.cells (keyA e t) 52)) v (some w_.heap.size) :=
  ⟨below_alloc h.b _, h.r.below (below_alloc (Below.refl _ _) _), fun g hg => by injection hg with hg; subst hg; exact blk_new _ _⟩
theorem Way2.append {w7 w_ : World} {e : Int} {t : List Int} {S : List Ent} {v : Value} {g37 : Nat} (h : Way2 w7 e t S w_ v (some g37)) (ty : TypeId) (he : OkE e) (ht : IsTag t) (hl : S.length ≤ 900000) :
    ∃ v1 w1, (Builtin.append_ #[38, 38] ty #[v, .slice (some ⟨g37, 0, none⟩) 1 1]).run Try.prog w_ = .ok v1 w1 ∧ Below w7.heap.size w7 w1 ∧ ERow w1 w7.heap.size v1 (S ++ [(e, t)]) := by
  obtain ⟨v1, w1, hrun, hr, hg⟩ := run_append_ents (S2 := [(e, t)]) ty h.r (some ⟨g37, 0, none⟩) 1 rfl (ents_one (h.k37 g37 rfl)) (fun s hs => by rw [List.mem_singleton.1 hs]; exact ⟨he, ht⟩) (by simp; omega) h.b.size
  refine ⟨v1, w1, hrun, grown_below h.b hg (fun g hg => ?_) h.b.size, hr⟩
  rcases h.r.2 with ⟨hv, _⟩ | ⟨g', cap, cur, hv, hb, _⟩
  · rw [hv] at hg; simp [Value.ownBlock] at hg
  · rw [hv] at hg; simp [Value.ownBlock] at hg; omega
theorem exec_store {o : Oper} {a : Act} (W : World) (x y : Operand) (ho : o.op = .store 38 x y) (A : Addr) (hx : a.eval x = .pointer (some A)) (sa : Option Addr) (sn sc : Nat) (u : Value) (hy : a.eval y = .slice sa sn sc) (hc : W.cell? A = some u) (hf : W.frozen? A = false) :
    (execOp a.eval o).run Try.prog W = .ok .skip (W.setCell A (.slice sa sn sc)) := by
  unfold execOp
  simp only [ho, hx, hy, Sem.run_bind]
  go_simp
theorem ERow.one {w : World} {B : Nat} {v : Value} {S : List Ent} (h : ERow w B v S) : v.oneCell' = true := by
  rcases h.2 with ⟨hv, _⟩ | ⟨g, cap, cur, hv, _⟩ <;> rw [hv] <;> rfl
theorem okS_add {S : List Ent} {e : Int} {t : List Int} (h : OkS S) (he : OkE e) (ht : IsTag t) : OkS (S ++ [(e, t)]) := fun s hs => by
  rcases List.mem_append.1 hs with hs | hs
  · exact h s hs
  · rw [List.mem_singleton.1 hs]; exact ⟨he, ht⟩
theorem radd_end {B : Nat} {w w6 w7 w38 : World} {p : Nat} {most floor : Int} {S : List Ent} {e : Int} {t : List Int} {a a38 : Option Addr} {cap n38 cap38 : Nat} (hC : addC most floor S e t = 0) (hok : OkS S) (he : OkE e) (ht : IsTag t)
    (hc6 : w6.heap[p]? = some (.cells #[.int .i64 most, .slice a S.length cap, .int .u32 floor] 40 (0, 0))) (h : RefAt B w p most floor S) (b38 : Below w7.heap.size w7 w38) (b7 : Below w.heap.size w w7)
    (hc7 : w7.heap[p]? = some (.cells #[.int .i64 most, .slice a S.length cap, .int .u32 floor] 40 (0, 0))) (hr : ERow w38 w7.heap.size (.slice a38 n38 cap38) (S ++ [(e, t)])) :
    Ending.returned (.int .i64 0) = .returned (.int .i64 0) ∧ RefAt B (w38.setCell ⟨p, 1, none⟩ (.slice a38 n38 cap38)) p most floor (addS most floor S e t) ∧ FrR B w (w38.setCell ⟨p, 1, none⟩ (.slice a38 n38 cap38)) := by
  have hlow := h.low
  obtain ⟨v, hc, hB, _, _, hmo, hfo⟩ := h
  have pl := (Array.getElem?_eq_some_iff.1 hc).1
  have hc38 : w38.heap[p]? = some (.cells #[.int .i64 most, .slice a S.length cap, .int .u32 floor] 40 (0, 0)) := (b38.block p (by have := b7.size; omega)).trans hc7
  rw [addS_yes hC]
  refine ⟨rfl, ⟨_, heap_set1 w38 p 1 _ _ hc38, hB, ?_, okS_add hok he ht, hmo, hfo⟩, Off.frR (((Off.of_below b7).trans (Off.of_below b38)).setCell (p := ⟨p, 1, none⟩) (Or.inl rfl) _) hc hB⟩
  refine (hr.mono (by have := b7.size; omega)).keep fun k cur hg => ?_
  refine (Below.heap_setCell w38 ⟨p, 1, none⟩ _ k ?_).trans hg
  intro e1
  have e1' : k = p := e1
  rw [e1', hc38] at hg
  injection hg with hg
  injection hg with _ hg _
  exact absurd hg (by decide)
theorem rhas_to {B : Nat} {w : World} {p : Nat} {most floor : Int} {S : List Ent} (h : RefAt B w p most floor S) (hn : S.length ≤ 1000000) (e : Int) (he : OkE e) (t : List Int) (ht : IsTag t) {q : Bool} (hq : decide ((e, t) ∈ S) = q) :
    Calls Try.prog 16 #[.pointer (some ⟨p, 0, none⟩), .int .u32 e, .agg (tagA t)] w fun e_ w' => e_ = .returned (.bool q) ∧ Below w.heap.size w w' := by
  subst hq; exact rhas_any h hn e he t ht
theorem rlen_to {B : Nat} {w : World} {p : Nat} {most floor : Int} {S : List Ent} (h : RefAt B w p most floor S) (hn : S.length ≤ 1000000) (e : Int) (he : OkE e) {z : Int} (hz : (cnt S e : Int) = z) :
    Calls Try.prog 18 #[.pointer (some ⟨p, 0, none⟩), .int .u32 e] w fun e_ w' => e_ = .returned (.int .i64 z) ∧ w' = w := by
  subst hz; exact rlen_any h hn e he
set_option maxHeartbeats 4000000 in
set_option maxRecDepth 100000 in
theorem radd_any {B : Nat} {w : World} {p : Nat} {most floor : Int} {S : List Ent} (h : RefAt B w p most floor S) (hn : S.length ≤ 900000) (e : Int) (he : OkE e) (t : List Int) (ht : IsTag t) {c : Int} (hc0 : addC most floor S e t = c) :
    Calls Try.prog 12 #[.pointer (some ⟨p, 0, none⟩), .int .u32 e, .agg (tagA t)] w fun e_ w' => e_ = .returned (.int .i64 c) ∧ RefAt B w' p most floor (addS most floor S e t) ∧ FrR B w w' := by
  have HR := Aside0.mk h
  have HB := Aside0.mk h.low
  have HC0 := Aside0.mk hc0
  have HT := Aside0.mk ht
  have HE := Aside0.mk he
  obtain ⟨v, hc, hB, hr, hok, hmo, hfo⟩ := h
  have c2 : (w.alloc (.cells (tagA t) 30)).cell? ⟨p, 2, none⟩ = some (.int .u32 floor) := ((below_alloc (Below.refl w.heap.size w) (.cells (tagA t) 30)).cell (p := ⟨p, 2, none⟩) (Array.getElem?_eq_some_iff.1 hc).1).trans ((cell_of_row w p 2 _ 40 (0, 0) hc).trans rfl)
  have HOK := Aside0.mk hok
  clear hc hr hok hc0
  have e1 : 0 ≤ e ∧ e ≤ 4294967295 := he
  have e2 : 0 ≤ floor ∧ floor ≤ 4294967295 := hfo
  by_cases hlt : e < floor
  · have hlt' : decide (e < floor) = true := decide_eq_true hlt
    obtain rfl : c = 11 := by rw [← HC0.out]; exact addC_old hlt
    go_enter Try.func12, Try.ntmps12
    go_wp2_with fail
    go_ret
    refine ⟨rfl, ?_, FrR.of_below HB.out (below_alloc (Below.refl _ _) _)⟩
    rw [addS_not (by rw [HC0.out]; decide)]
    exact HR.out.below (below_alloc (Below.refl _ _) _)
  · have hlt' : decide (e < floor) = false := decide_eq_false hlt
    have BX : Aside0 ((w.alloc (.cells (tagA t) 30)).heap[w.heap.size]? = some (.cells (tagA t) 30 (0, 0))) := ⟨blk_new _ _⟩
    have R5 : Aside0 (RefAt B (w.alloc (.cells (tagA t) 30)) p most floor S) := ⟨HR.out.below (below_alloc (Below.refl _ _) _)⟩
    obtain ⟨q, hq⟩ : ∃ q_ : Bool, decide ((e, t) ∈ S) = q_ := ⟨_, rfl⟩
    have HQ := Aside0.mk hq
    clear hq
    cases q with
    | true =>
      obtain rfl : c = 7 := by rw [← HC0.out]; exact addC_has (by omega) (of_decide_eq_true HQ.out)
      go_enter Try.func12, Try.ntmps12
      go_wp2_with (first | (refine wpList_load_row rfl 30 _ rfl w.heap.size rfl 30 _ (0, 0) _ BX.out Try.underlying30 rfl (info30 HT.out) ?_) | (go_at_call 16; (with_reducible refine (rhas_to (w := (w.alloc (.cells (tagA t) 30))) R5.out (by omega) e HE.out t HT.out HQ.out).mono ?_); rintro e_ w6 ⟨rfl, b6⟩; have B6 := Aside0.mk b6; clear b6))
      go_ret
      refine ⟨rfl, ?_, FrR.of_below HB.out (below_then (below_alloc (Below.refl w.heap.size w) _) (below_alloc (Below.refl w.heap.size w) _).size B6.out)⟩
      rw [addS_not (by rw [HC0.out]; decide)]
      exact R5.out.below B6.out
    | false =>
      obtain ⟨z, hz⟩ : ∃ z_ : Int, (cnt S e : Int) = z_ := ⟨_, rfl⟩
      have HZ := Aside0.mk hz
      have hz0 : 0 ≤ z ∧ z ≤ 900000 := by have := cnt_le S e; omega
      clear hz
      go_enter Try.func12, Try.ntmps12
      go_wp2_with (first | (refine wpList_load_row rfl 30 _ rfl w.heap.size rfl 30 _ (0, 0) _ BX.out Try.underlying30 rfl (info30 HT.out) ?_) | (go_at_call 16; (with_reducible refine (rhas_to (w := (w.alloc (.cells (tagA t) 30))) R5.out (by omega) e HE.out t HT.out HQ.out).mono ?_); rintro e_ w6 ⟨rfl, b6⟩; have B6 := Aside0.mk b6; clear b6))
      have R6 : Aside0 (RefAt B w6 p most floor S) := ⟨R5.out.below B6.out⟩
      have BX6 : Aside0 (w6.heap[w.heap.size]? = some (.cells (tagA t) 30 (0, 0))) := ⟨(B6.out.block _ (Array.getElem?_eq_some_iff.1 BX.out).1).trans BX.out⟩
      have BW6 : Aside0 (Below w.heap.size w w6) := ⟨below_then (below_alloc (Below.refl w.heap.size w) _) (below_alloc (Below.refl w.heap.size w) _).size B6.out⟩
      obtain ⟨v6, hc6, hB6, hr6, hok6, hmo6, hfo6⟩ := R6.out
      obtain ⟨a, cap, rfl, hE6⟩ := hr6.ents hok6
      have g0 : ∀ m_, (w6.drewN m_).cell? ⟨p, 0, none⟩ = some (.int .i64 most) := fun m_ => (cell_of_row (w6.drewN m_) p 0 _ 40 (0, 0) hc6).trans rfl
      have HC6 := Aside0.mk hc6
      have HE6 := Aside0.mk hE6
      have HM := Aside0.mk hmo6
      clear hc6 hr6 hok6 hE6
      refine wp_region_quiet_lit (by kernel_rfl) (by kernel_rfl) ?_
      repeat (first | (go_big_quiet_want; refine quiet_call (.int .i64 z) Try.func18 (by kernel_rfl) rfl #[.pointer (some ⟨p, 0, none⟩), .int .u32 e] rfl ?_ ?_ ?_; (focus (simp [Act.eval, Act.put]; done)); (rintro w_ ⟨m_, rfl⟩; refine (rlen_to (w := w6.drewN m_) (R6.out.below (pw_below_drewN (Below.refl _ _) _)) (by omega) e HE.out HZ.out).mono ?_; rintro e_ w' ⟨rfl, rfl⟩; exact ⟨rfl, _, rfl⟩); go_frame; go_big_quiet_on) | go_big_quiet_step (fail))
      refine wpQuiet_nil ?_
      rintro _ ⟨nq, rfl⟩
      clear g0
      by_cases hfull : most ≤ z
      · have hfull' : decide (most ≤ z) = true := decide_eq_true hfull
        obtain rfl : c = 8 := by rw [← HC0.out]; exact addC_full (by omega) (of_decide_eq_false HQ.out) (by have := HZ.out; omega)
        go_wp2_with fail
        go_ret
        refine ⟨rfl, ?_, FrR.of_below HB.out (pw_below_drewN BW6.out _)⟩
        rw [addS_not (by rw [HC0.out]; decide)]
        exact R6.out.below (pw_below_drewN (Below.refl _ _) _)
      · have hfull' : decide (most ≤ z) = false := decide_eq_false hfull
        obtain rfl : c = 0 := by rw [← HC0.out]; exact addC_ok (by omega) (of_decide_eq_false HQ.out) (by have := HZ.out; omega)
        go_wp2_with fail
        obtain ⟨w7, hw7⟩ : ∃ w_ : World, w_ = w6.drewN nq := ⟨_, rfl⟩
        rw [← hw7]
        have HC7 : Aside0 (w7.heap[p]? = some (.cells #[.int .i64 most, .slice a S.length cap, .int .u32 floor] 40 (0, 0))) := ⟨by rw [hw7]; exact HC6.out⟩
        have BX7 : Aside0 (w7.heap[w.heap.size]? = some (.cells (tagA t) 30 (0, 0))) := ⟨by rw [hw7]; exact BX6.out⟩
        have E7 : Aside0 (Ents w7 a S.length S) := ⟨by rw [hw7]; exact HE6.out.below (pw_below_drewN (Below.refl _ _) _)⟩
        have B7 : Aside0 (Below w.heap.size w w7) := ⟨by rw [hw7]; exact pw_below_drewN BW6.out _⟩
        have PL7 : Aside0 (p < w7.heap.size) := ⟨(Array.getElem?_eq_some_iff.1 HC7.out).1⟩
        have C71 : Aside0 (w7.cell? ⟨p, 1, none⟩ = some (.slice a S.length cap)) := ⟨(cell_of_row w7 p 1 _ 40 (0, 0) HC7.out).trans rfl⟩
        clear hw7
        refine start_ (n := 15) (S := (fun w_ : World => Below w7.heap.size w7 w_)) (ds := [14]) #[false, false, false, false, false, false, false, false, false, false, false, false, false, false, false] (by kernel_rfl) rfl rfl (below_drew1 (Below.refl _ _)) (fun hHeld => ?_)
        generalize w7.drew = w8 at hHeld ⊢
        refine pure_ (i := 0) (N := (some 27)) (v := ?_) (a' := ?_) #[true, false, false, false, false, false, false, false, false, false, false, false, false, false, false] rfl rfl (by kernel_rfl) (fun _ _ _ h => h) (Or.inl ⟨by rfl, ?_⟩) ?_ ?_
        rotate_left
        · intro w'
          go_simp
          with_reducible rfl
        rotate_left
        · simp only [Act.put, List.setIfInBounds_toArray, List.set_cons_zero, List.set_cons_succ]
          rfl
        refine pure_ (i := 2) (N := (some 29)) (v := ?_) (a' := ?_) #[true, false, true, false, false, false, false, false, false, false, false, false, false, false, false] rfl rfl (by kernel_rfl) (fun _ _ _ h => h) (Or.inl ⟨by rfl, ?_⟩) ?_ ?_
        rotate_left
        · intro w'
          go_simp
          with_reducible rfl
        rotate_left
        · simp only [Act.put, List.setIfInBounds_toArray, List.set_cons_zero, List.set_cons_succ]
          rfl
        refine pure_ (i := 3) (N := (some 30)) (v := ?_) (a' := ?_) #[true, false, true, true, false, false, false, false, false, false, false, false, false, false, false] rfl rfl (by kernel_rfl) (fun _ _ _ h => h) (Or.inl ⟨by rfl, ?_⟩) ?_ ?_
        rotate_left
        · intro w'
          go_simp
          with_reducible rfl
        rotate_left
        · simp only [Act.put, List.setIfInBounds_toArray, List.set_cons_zero, List.set_cons_succ]
          rfl
        refine pure_ (i := 4) (N := (some 31)) (v := ?_) (a' := ?_) #[true, false, true, true, true, false, false, false, false, false, false, false, false, false, false] rfl rfl (by kernel_rfl) (fun _ _ _ h => h) (Or.inl ⟨by rfl, ?_⟩) ?_ ?_
        rotate_left
        · intro w'
          go_simp
          with_reducible rfl
        rotate_left
        · simp only [Act.put, List.setIfInBounds_toArray, List.set_cons_zero, List.set_cons_succ]
          rfl
        refine take_ (i := 5) (N := (some 32)) (v := (.slice a S.length cap)) (a' := ?_) #[true, false, true, true, true, true, false, false, false, false, false, false, false, false, false] rfl rfl (by kernel_rfl) (fun _ _ _ h => h) (Or.inl ⟨by rfl, fun w_ h_ => exec_load w_ _ 38 rfl Try.underlying38 rfl ⟨p, 1, none⟩ rfl _ ((h_.cell (p := ⟨p, 1, none⟩) PL7.out).trans C71.out)⟩) hHeld ?_ ?_
        rotate_left
        · simp only [Act.put, List.setIfInBounds_toArray, List.set_cons_zero, List.set_cons_succ]
          rfl
        refine pure_ (i := 7) (N := (some 34)) (v := ?_) (a' := ?_) #[true, false, true, true, true, true, false, true, false, false, false, false, false, false, false] rfl rfl (by kernel_rfl) (fun _ _ _ h => h) (Or.inl ⟨by rfl, ?_⟩) ?_ ?_
        rotate_left
        · intro w'
          go_simp
          with_reducible rfl
        rotate_left
        · simp only [Act.put, List.setIfInBounds_toArray, List.set_cons_zero, List.set_cons_succ]
          rfl
        refine take_ (i := 8) (N := (some 35)) (v := (.agg (tagA t))) (a' := ?_) #[true, false, true, true, true, true, false, true, true, false, false, false, false, false, false] rfl rfl (by kernel_rfl) (fun _ _ _ h => h) (Or.inl ⟨by rfl, fun w_ h_ => exec_loadtag w_ _ rfl ⟨w.heap.size, 0, none⟩ rfl t HT.out (tagbox ((h_.block _ (Array.getElem?_eq_some_iff.1 BX7.out).1).trans BX7.out))⟩) hHeld ?_ ?_
        rotate_left
        · simp only [Act.put, List.setIfInBounds_toArray, List.set_cons_zero, List.set_cons_succ]
          rfl
        refine pure_ (i := 9) (N := (some 36)) (v := (.agg (keyA e t))) (a' := ?_) #[true, false, true, true, true, true, false, true, true, true, false, false, false, false, false] rfl rfl (by kernel_rfl) (fun _ _ _ h => h) (Or.inl ⟨by rfl, fun w_ => exec_ent w_ _ _ rfl e HT.out rfl rfl⟩) ?_ ?_
        rotate_left
        · simp only [Act.put, List.setIfInBounds_toArray, List.set_cons_zero, List.set_cons_succ]
          rfl
        have hWy : Way w7 e t w8 none none := Way.start hHeld
        refine two_ (i := 1) (j := 10) (Ni := some 28) (Nj := some 37) #[true, true, true, true, true, true, false, true, true, true, false, false, false, false, false] #[true, false, true, true, true, true, false, true, true, true, true, false, false, false, false] rfl rfl rfl rfl (by kernel_rfl) (by decide) (by decide) (fun KK hKK => ?_) (fun KK hKK => ?_)
        · refine value_ (w1 := _) (v := _) (by rfl) rfl (exec_slice0 _ rfl) ?_
          replace hWy := hWy.mk28
          refine hKK.out _ _ hWy.b (fun hHeld => ?_)
          clear hKK KK
          refine norm_ (a' := ?_) ?_ ?_
          rotate_left
          · show Act.put _ (some 28) _ = _
            simp only [Act.put, List.setIfInBounds_toArray, List.set_cons_zero, List.set_cons_succ]
            rfl
          refine two_ (i := 6) (j := 10) (Ni := some 33) (Nj := some 37) #[true, true, true, true, true, true, true, true, true, true, false, false, false, false, false] #[true, true, true, true, true, true, false, true, true, true, true, false, false, false, false] rfl rfl rfl rfl (by kernel_rfl) (by decide) (by decide) (fun KK hKK => ?_) (fun KK hKK => ?_)
          · obtain ⟨v33, w33, hrun33, hW2⟩ := hWy.append 38 E7.out HOK.out (by omega)
            refine value_ (w1 := w33) (v := v33) (by rfl) rfl (exec_append _ _ rfl rfl rfl hrun33) ?_
            clear hWy hrun33
            refine hKK.out _ _ hW2.b (fun hHeld => ?_)
            clear hKK KK
            refine norm_ (a' := ?_) ?_ ?_
            rotate_left
            · show Act.put _ (some 33) _ = _
              simp only [Act.put, List.setIfInBounds_toArray, List.set_cons_zero, List.set_cons_succ]
              rfl
            refine one_ (i := 10) (N := (some 37)) #[true, true, true, true, true, true, true, true, true, true, true, false, false, false, false] rfl rfl (by kernel_rfl) (by decide) (fun KK hKK => ?_)
            refine value_ (w1 := _) (v := _) (by rfl) rfl (exec_slice1 _ _ rfl e HT.out rfl) ?_
            replace hW2 := hW2.mk37
            refine hKK.out _ _ hW2.b (fun hHeld => ?_)
            clear hKK KK
            refine norm_ (a' := ?_) ?_ ?_
            rotate_left
            · show Act.put _ (some 37) _ = _
              simp only [Act.put, List.setIfInBounds_toArray, List.set_cons_zero, List.set_cons_succ]
              rfl
            refine one_ (i := 11) (N := (some 38)) #[true, true, true, true, true, true, true, true, true, true, true, true, false, false, false] rfl rfl (by kernel_rfl) (by decide) (fun KK hKK => ?_)
            obtain ⟨v38, w38, hrun38, hb38, hr38⟩ := hW2.append 38 HE.out HT.out (by omega)
            refine value_ (w1 := w38) (v := v38) (by rfl) rfl (exec_append _ _ rfl rfl rfl hrun38) ?_
            clear hrun38
            refine hKK.out _ _ hb38 (fun hHeld => ?_)
            clear hKK KK
            refine norm_ (a' := ?_) ?_ ?_
            rotate_left
            · show Act.put _ (some 38) _ = _
              simp only [Act.put, List.setIfInBounds_toArray, List.set_cons_zero, List.set_cons_succ]
              rfl
            obtain ⟨a38, cap38, hv38, _⟩ := hr38.ents (okS_add HOK.out HE.out HT.out)
            subst hv38
            have HB38 := Aside0.mk hb38
            have HR38 := Aside0.mk hr38
            clear hb38 hr38 hW2
            refine pure_ (i := 12) (N := (some 39)) (v := ?_) (a' := ?_) #[true, true, true, true, true, true, true, true, true, true, true, true, true, false, false] rfl rfl (by kernel_rfl) (fun _ _ _ h => h) (Or.inl ⟨by rfl, ?_⟩) ?_ ?_
            rotate_left
            · intro w'
              go_simp
              with_reducible rfl
            rotate_left
            · simp only [Act.put, List.setIfInBounds_toArray, List.set_cons_zero, List.set_cons_succ]
              rfl
            refine pure_ (i := 13) (N := (some 40)) (v := ?_) (a' := ?_) #[true, true, true, true, true, true, true, true, true, true, true, true, true, true, false] rfl rfl (by kernel_rfl) (fun _ _ _ h => h) (Or.inl ⟨by rfl, ?_⟩) ?_ ?_
            rotate_left
            · intro w'
              go_simp
              with_reducible rfl
            rotate_left
            · simp only [Act.put, List.setIfInBounds_toArray, List.set_cons_zero, List.set_cons_succ]
              rfl
            refine last_ (i := 14) (N := none) #[true, true, true, true, true, true, true, true, true, true, true, true, true, true, true] rfl rfl (by kernel_rfl) (by decide) (fun KK hKK => ?_)
            refine skip_ (w1 := _) (by rfl) rfl (exec_store _ _ _ rfl ⟨p, 1, none⟩ rfl _ _ _ _ rfl (((HB38.out.cell (p := ⟨p, 1, none⟩) PL7.out).trans C71.out)) (frozen_of_row w38 p 1 _ 40 ((HB38.out.block p PL7.out).trans HC7.out))) ?_
            refine hKK.out _ _ ?_
            refine done_ (by kernel_rfl) ?_
            go_wp2
            go_ret
            exact radd_end HC0.out HOK.out HE.out HT.out HC6.out HR.out HB38.out B7.out HC7.out HR38.out
          · refine value_ (w1 := _) (v := _) (by rfl) rfl (exec_slice1 _ _ rfl e HT.out rfl) ?_
            replace hWy := hWy.mk37
            refine hKK.out _ _ hWy.b (fun hHeld => ?_)
            clear hKK KK
            refine norm_ (a' := ?_) ?_ ?_
            rotate_left
            · show Act.put _ (some 37) _ = _
              simp only [Act.put, List.setIfInBounds_toArray, List.set_cons_zero, List.set_cons_succ]
              rfl
            refine one_ (i := 6) (N := (some 33)) #[true, true, true, true, true, true, true, true, true, true, true, false, false, false, false] rfl rfl (by kernel_rfl) (by decide) (fun KK hKK => ?_)
            obtain ⟨v33, w33, hrun33, hW2⟩ := hWy.append 38 E7.out HOK.out (by omega)
            refine value_ (w1 := w33) (v := v33) (by rfl) rfl (exec_append _ _ rfl rfl rfl hrun33) ?_
            clear hWy hrun33
            refine hKK.out _ _ hW2.b (fun hHeld => ?_)
            clear hKK KK
            refine norm_ (a' := ?_) ?_ ?_
            rotate_left
            · show Act.put _ (some 33) _ = _
              simp only [Act.put, List.setIfInBounds_toArray, List.set_cons_zero, List.set_cons_succ]
              rfl
            refine one_ (i := 11) (N := (some 38)) #[true, true, true, true, true, true, true, true, true, true, true, true, false, false, false] rfl rfl (by kernel_rfl) (by decide) (fun KK hKK => ?_)
            obtain ⟨v38, w38, hrun38, hb38, hr38⟩ := hW2.append 38 HE.out HT.out (by omega)
            refine value_ (w1 := w38) (v := v38) (by rfl) rfl (exec_append _ _ rfl rfl rfl hrun38) ?_
            clear hrun38
            refine hKK.out _ _ hb38 (fun hHeld => ?_)
            clear hKK KK
            refine norm_ (a' := ?_) ?_ ?_
            rotate_left
            · show Act.put _ (some 38) _ = _
              simp only [Act.put, List.setIfInBounds_toArray, List.set_cons_zero, List.set_cons_succ]
              rfl
            obtain ⟨a38, cap38, hv38, _⟩ := hr38.ents (okS_add HOK.out HE.out HT.out)
            subst hv38
            have HB38 := Aside0.mk hb38
            have HR38 := Aside0.mk hr38
            clear hb38 hr38 hW2
            refine pure_ (i := 12) (N := (some 39)) (v := ?_) (a' := ?_) #[true, true, true, true, true, true, true, true, true, true, true, true, true, false, false] rfl rfl (by kernel_rfl) (fun _ _ _ h => h) (Or.inl ⟨by rfl, ?_⟩) ?_ ?_
            rotate_left
            · intro w'
              go_simp
              with_reducible rfl
            rotate_left
            · simp only [Act.put, List.setIfInBounds_toArray, List.set_cons_zero, List.set_cons_succ]
              rfl
            refine pure_ (i := 13) (N := (some 40)) (v := ?_) (a' := ?_) #[true, true, true, true, true, true, true, true, true, true, true, true, true, true, false] rfl rfl (by kernel_rfl) (fun _ _ _ h => h) (Or.inl ⟨by rfl, ?_⟩) ?_ ?_
            rotate_left
            · intro w'
              go_simp
              with_reducible rfl
            rotate_left
            · simp only [Act.put, List.setIfInBounds_toArray, List.set_cons_zero, List.set_cons_succ]
              rfl
            refine last_ (i := 14) (N := none) #[true, true, true, true, true, true, true, true, true, true, true, true, true, true, true] rfl rfl (by kernel_rfl) (by decide) (fun KK hKK => ?_)
            refine skip_ (w1 := _) (by rfl) rfl (exec_store _ _ _ rfl ⟨p, 1, none⟩ rfl _ _ _ _ rfl (((HB38.out.cell (p := ⟨p, 1, none⟩) PL7.out).trans C71.out)) (frozen_of_row w38 p 1 _ 40 ((HB38.out.block p PL7.out).trans HC7.out))) ?_
            refine hKK.out _ _ ?_
            refine done_ (by kernel_rfl) ?_
            go_wp2
            go_ret
            exact radd_end HC0.out HOK.out HE.out HT.out HC6.out HR.out HB38.out B7.out HC7.out HR38.out
        · refine value_ (w1 := _) (v := _) (by rfl) rfl (exec_slice1 _ _ rfl e HT.out rfl) ?_
          replace hWy := hWy.mk37
          refine hKK.out _ _ hWy.b (fun hHeld => ?_)
          clear hKK KK
          refine norm_ (a' := ?_) ?_ ?_
          rotate_left
          · show Act.put _ (some 37) _ = _
            simp only [Act.put, List.setIfInBounds_toArray, List.set_cons_zero, List.set_cons_succ]
            rfl
          refine one_ (i := 1) (N := (some 28)) #[true, true, true, true, true, true, false, true, true, true, true, false, false, false, false] rfl rfl (by kernel_rfl) (by decide) (fun KK hKK => ?_)
          refine value_ (w1 := _) (v := _) (by rfl) rfl (exec_slice0 _ rfl) ?_
          replace hWy := hWy.mk28
          refine hKK.out _ _ hWy.b (fun hHeld => ?_)
          clear hKK KK
          refine norm_ (a' := ?_) ?_ ?_
          rotate_left
          · show Act.put _ (some 28) _ = _
            simp only [Act.put, List.setIfInBounds_toArray, List.set_cons_zero, List.set_cons_succ]
            rfl
          refine one_ (i := 6) (N := (some 33)) #[true, true, true, true, true, true, true, true, true, true, true, false, false, false, false] rfl rfl (by kernel_rfl) (by decide) (fun KK hKK => ?_)
          obtain ⟨v33, w33, hrun33, hW2⟩ := hWy.append 38 E7.out HOK.out (by omega)
          refine value_ (w1 := w33) (v := v33) (by rfl) rfl (exec_append _ _ rfl rfl rfl hrun33) ?_
          clear hWy hrun33
          refine hKK.out _ _ hW2.b (fun hHeld => ?_)
          clear hKK KK
          refine norm_ (a' := ?_) ?_ ?_
          rotate_left
          · show Act.put _ (some 33) _ = _
            simp only [Act.put, List.setIfInBounds_toArray, List.set_cons_zero, List.set_cons_succ]
            rfl
          refine one_ (i := 11) (N := (some 38)) #[true, true, true, true, true, true, true, true, true, true, true, true, false, false, false] rfl rfl (by kernel_rfl) (by decide) (fun KK hKK => ?_)
          obtain ⟨v38, w38, hrun38, hb38, hr38⟩ := hW2.append 38 HE.out HT.out (by omega)
          refine value_ (w1 := w38) (v := v38) (by rfl) rfl (exec_append _ _ rfl rfl rfl hrun38) ?_
          clear hrun38
          refine hKK.out _ _ hb38 (fun hHeld => ?_)
          clear hKK KK
          refine norm_ (a' := ?_) ?_ ?_
          rotate_left
          · show Act.put _ (some 38) _ = _
            simp only [Act.put, List.setIfInBounds_toArray, List.set_cons_zero, List.set_cons_succ]
            rfl
          obtain ⟨a38, cap38, hv38, _⟩ := hr38.ents (okS_add HOK.out HE.out HT.out)
          subst hv38
          have HB38 := Aside0.mk hb38
          have HR38 := Aside0.mk hr38
          clear hb38 hr38 hW2
          refine pure_ (i := 12) (N := (some 39)) (v := ?_) (a' := ?_) #[true, true, true, true, true, true, true, true, true, true, true, true, true, false, false] rfl rfl (by kernel_rfl) (fun _ _ _ h => h) (Or.inl ⟨by rfl, ?_⟩) ?_ ?_
          rotate_left
          · intro w'
            go_simp
            with_reducible rfl
          rotate_left
          · simp only [Act.put, List.setIfInBounds_toArray, List.set_cons_zero, List.set_cons_succ]
            rfl
          refine pure_ (i := 13) (N := (some 40)) (v := ?_) (a' := ?_) #[true, true, true, true, true, true, true, true, true, true, true, true, true, true, false] rfl rfl (by kernel_rfl) (fun _ _ _ h => h) (Or.inl ⟨by rfl, ?_⟩) ?_ ?_
          rotate_left
          · intro w'
            go_simp
            with_reducible rfl
          rotate_left
          · simp only [Act.put, List.setIfInBounds_toArray, List.set_cons_zero, List.set_cons_succ]
            rfl
          refine last_ (i := 14) (N := none) #[true, true, true, true, true, true, true, true, true, true, true, true, true, true, true] rfl rfl (by kernel_rfl) (by decide) (fun KK hKK => ?_)
          refine skip_ (w1 := _) (by rfl) rfl (exec_store _ _ _ rfl ⟨p, 1, none⟩ rfl _ _ _ _ rfl (((HB38.out.cell (p := ⟨p, 1, none⟩) PL7.out).trans C71.out)) (frozen_of_row w38 p 1 _ 40 ((HB38.out.block p PL7.out).trans HC7.out))) ?_
          refine hKK.out _ _ ?_
          refine done_ (by kernel_rfl) ?_
          go_wp2
          go_ret
          exact radd_end HC0.out HOK.out HE.out HT.out HC6.out HR.out HB38.out B7.out HC7.out HR38.out
end Go.Proofs.Ythlpbihkbafgbaa.RB
