/- Expire. -/
import Derived.Test.YthlpbihkbafgbaaP9
namespace Go.Proofs.Ythlpbihkbafgbaa.RB
open Go Go.Maps Go.RowKit Go.BigFrame Go.Proofs.YthlpbihkbafgbaaW.PrintWords Go.Proofs.YthlpbihkbafgbaaW.PrintLast Go.Proofs.YthlpbihkbafgbaaW.PrintMore
set_option linter.unusedVariables false
set_option linter.unusedSimpArgs false

theorem Off.sub {x y z x' y' z' : Nat} {a w : World} (h : Off x y z a w) (hx : x = x' ∨ x = y' ∨ x = z') (hy : y = x' ∨ y = y' ∨ y = z') (hz : z = x' ∨ z = y' ∨ z = z') : Off x' y' z' a w :=
  ⟨h.os, h.tape, h.output, h.size, fun k hk h1 h2 h3 => h.block k hk (by omega) (by omega) (by omega)⟩
theorem keepE_le (fl : Int) (S : List Ent) : (keepE fl S).length ≤ S.length := List.length_filter_le _ _
theorem owns_off {x y z : Nat} {w w' : World} (o : Off x y z w w') {k : TypeId} {R} {b n : Nat} {D : DataW Unit} (h : w.ownsMap Try.prog k R b n D) (d : b ≠ x ∧ b ≠ y ∧ b ≠ z) : w'.ownsMap Try.prog k R b n D := by
  have hlt := h.lt
  obtain ⟨es, clock, hb, r⟩ := h
  exact ⟨es, clock, (o.block b hlt d.1 d.2.1 d.2.2).trans hb, r⟩
set_option maxHeartbeats 2000000 in
set_option maxRecDepth 100000 in
theorem expire_any (w : World) {p bh bm n : Nat} {most floor : Int} {S : List Ent} {D M : DataW Unit} (h : TagsAt w p bh bm n most S floor D M) (e : Int) (he : OkE e) (hn : n < 1000000) (fl : Int) (hfl : fl = max floor e) :
    Calls Try.prog 13 #[.pointer (some ⟨p, 0, none⟩), .int .u32 e] w fun e_ w' => ∃ D' M', e_ = .returned (.int .i64 ((S.length : Int) - ((keepE fl S).length : Int))) ∧ TagsAt w' p bh bm n most (keepE fl S) fl D' M' ∧ Off p bh bm w w' := by
  have H := Aside0.mk h
  have HF := Aside0.mk hfl
  have HN := Aside0.mk hn
  have hf := h.floorOk
  unfold OkE at hf he
  clear h hfl hn
  go_enter Try.func13, Try.ntmps13
  go_wp2_with fail
  obtain ⟨w5, hw5⟩ : ∃ w_ : World, w_ = w.alloc (.cells #[.pointer (some ⟨p, 0, none⟩)] 24) := ⟨_, rfl⟩
  rw [← hw5]
  have HO5 : Aside0 (Off p bh bm w w5) := ⟨by rw [hw5]; exact (Off.refl _ _ _ _).alloc _⟩
  have T5 : Aside0 (TagsAt w5 p bh bm n most S floor D M) := ⟨by rw [hw5]; exact H.out.below (below_alloc (Below.refl _ _) _)⟩
  have b5 : w5.cell? ⟨w.heap.size, 0, none⟩ = some (.pointer (some ⟨p, 0, none⟩)) := by rw [hw5]; exact (cell_of_row _ _ 0 _ 24 (0, 0) (blk_new w _)).trans rfl
  have c3 : w5.cell? ⟨p, 3, none⟩ = some (.int .u32 floor) := T5.out.c3
  have B5 := Aside0.mk b5
  clear hw5
  by_cases hlt : floor < e
  all_goals
    refine wp_region_still_tail 9 (by kernel_rfl) (by kernel_rfl) ?_
    simp only [List.take_succ_cons, List.take_zero, List.drop_succ_cons, List.drop_zero]
    iterate 9 still_step
    refine wpStill_nil ?_
    change wpList _ _ _ _ _ w5.drew
    first | (have hfe : fl = e := by have := HF.out; omega) | (have hfe : fl = floor := by have := HF.out; omega)
    subst hfe
    obtain ⟨w7, hw7⟩ : ∃ w_ : World, w_ = w5.drew := ⟨_, rfl⟩
    rw [← hw7]
    have T7 : Aside0 (TagsAt w7 p bh bm n most S _ D M) := ⟨by rw [hw7]; exact T5.out.below (below_drew1 (Below.refl _ _))⟩
    have HO7 : Aside0 (Off p bh bm w w7) := ⟨by rw [hw7]; exact HO5.out.then_below (below_drew1 (Below.refl _ _))⟩
    have b7 : w7.cell? ⟨w.heap.size, 0, none⟩ = some (.pointer (some ⟨p, 0, none⟩)) := by rw [hw7]; exact B5.out
    clear hw7 T5 HO5 b5 B5 c3
    have c3 := T7.out.c3
    have f3 : w7.frozen? ⟨p, 3, none⟩ = false := frozen_of_row _ p 3 _ 48 T7.out.cells
    obtain ⟨w6, hw6⟩ : ∃ w_ : World, w7.setCell ⟨p, 3, none⟩ (.int .u32 fl) = w_ := ⟨_, rfl⟩
    have PB : Aside0 (p ≠ bh ∧ p ≠ bm) := ⟨H.out.apart⟩
    have LB : Aside0 (w.heap.size ≠ bh ∧ w.heap.size ≠ bm) := ⟨by have := H.out.lt; omega⟩
    have P6 : Aside0 (w6.heap[p]? = some (.cells #[.int .i64 most, .map (some bh), .map (some bm), .int .u32 fl] 48 (0, 0))) := ⟨by rw [← hw6, heap_setCell_same _ _ _ _ _ _ T7.out.cells]; rfl⟩
    have PL : Aside0 (p < w6.heap.size) := ⟨(Array.getElem?_eq_some_iff.1 P6.out).1⟩
    have H6 : Aside0 (w6.ownsMap Try.prog 50 (plainElem Try.prog 4) bh n D) := ⟨by rw [← hw6]; exact T7.out.h.setCell (Ne.symm PB.out.1) _⟩
    have M6 : Aside0 (w6.ownsMap Try.prog 28 (plainElem Try.prog 3) bm n M) := ⟨by rw [← hw6]; exact T7.out.m.setCell (Ne.symm PB.out.2) _⟩
    have b6 : w6.cell? ⟨w.heap.size, 0, none⟩ = some (.pointer (some ⟨p, 0, none⟩)) := by
      rw [← hw6]
      exact (World.cell?_of_block (w := w7) (Below.heap_setCell w7 ⟨p, 3, none⟩ _ w.heap.size (by have := H.out.lt.1; show w.heap.size ≠ p; omega))).trans b7
    have c16 : w6.cell? ⟨p, 1, none⟩ = some (.map (some bh)) := (cell_of_row w6 p 1 _ 48 (0, 0) P6.out).trans rfl
    have c26 : w6.cell? ⟨p, 2, none⟩ = some (.map (some bm)) := (cell_of_row w6 p 2 _ 48 (0, 0) P6.out).trans rfl
    have c36 : w6.cell? ⟨p, 3, none⟩ = some (.int .u32 fl) := (cell_of_row w6 p 3 _ 48 (0, 0) P6.out).trans rfl
    have HO6 : Aside0 (Off p bh bm w w6) := ⟨by rw [← hw6]; exact HO7.out.setCell (Or.inl rfl) _⟩
    have RH : Aside0 (RelH D S) := ⟨H.out.rel.toH⟩
    have RM : Aside0 (RelM M fl (Maps.has M) S) := ⟨relM_start H.out.rel fl⟩
    have hz : Maps.size D = S.length := H.out.rel.size
    have hl1 := keepE_le fl S
    have hl2 : S.length < 1000000 := by have := HN.out; have := H.out.len; omega
    have hmf : ∀ (fn : Fn) (first cap : Array Value) (w : World), (Instr.makeFunc fn first cap).run Try.prog w = .ok (.func fn first cap) w := fun _ _ _ _ => rfl
    clear T7 HO7 b7
    go_wp2_with (first | (at_len; refine wpList_len_own _ rfl _ 45 rfl 50 4 Try.underlying45 _ bh n D rfl H6.out ?_) | (at_len; refine wpList_len_own _ rfl _ 45 rfl 50 4 Try.underlying45 _ bh n D' rfl H9.out ?_) | (go_at_call 20; (with_reducible refine (drop_keys w6 H6.out RH.out b6 c36).mono ?_); rintro e_ w8 ⟨rfl, D', hown8, hk8, ho8⟩; have H8 := Aside0.mk hown8; have K8 := Aside0.mk hk8; have HO8 : Aside0 (Off p bh bm w w8) := ⟨HO6.out.trans (ho8.sub (Or.inr (Or.inl rfl)) (Or.inr (Or.inl rfl)) (Or.inr (Or.inl rfl)))⟩; have b8 : w8.cell? ⟨w.heap.size, 0, none⟩ = some (.pointer (some ⟨p, 0, none⟩)) := cell_off ho8 b6 ⟨LB.out.1, LB.out.1, LB.out.1⟩; have c28 : w8.cell? ⟨p, 2, none⟩ = some (.map (some bm)) := cell_off ho8 c26 ⟨PB.out.1, PB.out.1, PB.out.1⟩; have c18 : w8.cell? ⟨p, 1, none⟩ = some (.map (some bh)) := cell_off ho8 c16 ⟨PB.out.1, PB.out.1, PB.out.1⟩; have c38 : w8.cell? ⟨p, 3, none⟩ = some (.int .u32 fl) := cell_off ho8 c36 ⟨PB.out.1, PB.out.1, PB.out.1⟩; have M8 : Aside0 (w8.ownsMap Try.prog 28 (plainElem Try.prog 3) bm n M) := ⟨owns_off ho8 M6.out ⟨Ne.symm H.out.ne, Ne.symm H.out.ne, Ne.symm H.out.ne⟩⟩; have P8 : Aside0 (w8.heap[p]? = some (.cells #[.int .i64 most, .map (some bh), .map (some bm), .int .u32 fl] 48 (0, 0))) := ⟨(ho8.block p PL.out PB.out.1 PB.out.1 PB.out.1).trans P6.out⟩; have ho8s := Aside0.mk ho8.size; clear hown8 hk8 ho8) | (go_at_call 22; (with_reducible refine (drop_epochs w8 M8.out RM.out b8 c38).mono ?_); rintro e_ w9 ⟨rfl, M', left, hown9, hm9, hl9, ho9⟩; have M9 := Aside0.mk hown9; have L9 := Aside0.mk hm9; have Z9 := Aside0.mk hl9; have HO9 : Aside0 (Off p bh bm w w9) := ⟨HO8.out.trans (ho9.sub (Or.inr (Or.inr rfl)) (Or.inr (Or.inr rfl)) (Or.inr (Or.inr rfl)))⟩; have b9 : w9.cell? ⟨w.heap.size, 0, none⟩ = some (.pointer (some ⟨p, 0, none⟩)) := cell_off ho9 b8 ⟨LB.out.2, LB.out.2, LB.out.2⟩; have c19 : w9.cell? ⟨p, 1, none⟩ = some (.map (some bh)) := cell_off ho9 c18 ⟨PB.out.2, PB.out.2, PB.out.2⟩; have H9 : Aside0 (w9.ownsMap Try.prog 50 (plainElem Try.prog 4) bh n D') := ⟨owns_off ho9 H8.out ⟨H.out.ne, H.out.ne, H.out.ne⟩⟩; have hz9 : Maps.size D' = (keepE fl S).length := K8.out.size; have P9 : Aside0 (w9.heap[p]? = some (.cells #[.int .i64 most, .map (some bh), .map (some bm), .int .u32 fl] 48 (0, 0))) := ⟨(ho9.block p (Nat.lt_of_lt_of_le PL.out ho8s.out) PB.out.2 PB.out.2 PB.out.2).trans P8.out⟩; clear hown9 hm9 hl9 ho9))
    go_ret
    refine ⟨D', M', rfl, ?_, HO9.out⟩
    exact { cells := P9.out
            h := H9.out
            m := M9.out
            ne := H.out.ne
            rel := rel_end K8.out L9.out Z9.out
            mostOk := H.out.mostOk
            floorOk := by unfold OkE; omega
            len := by have := H.out.len; omega }
end Go.Proofs.Ythlpbihkbafgbaa.RB
