/- What a call leaves as it was; New. -/
import Derived.Test.YthlpbihkbafgbaaP3
namespace Go.Proofs.Ythlpbihkbafgbaa.RB
open Go Go.Maps Go.RowKit Go.BigFrame Go.Proofs.YthlpbihkbafgbaaW.PrintWords Go.Proofs.YthlpbihkbafgbaaW.PrintLast Go.Proofs.YthlpbihkbafgbaaW.PrintMore
set_option linter.unusedVariables false
set_option linter.unusedSimpArgs false

/-- w' is w but for the blocks x, y, z, and for what is new. -/
structure Off (x y z : Nat) (w w' : World) : Prop where
  os : w'.os = w.os
  tape : w'.tape = w.tape
  output : w'.output = w.output
  size : w.heap.size ≤ w'.heap.size
  block : ∀ k, k < w.heap.size → k ≠ x → k ≠ y → k ≠ z → w'.heap[k]? = w.heap[k]?
namespace Off
variable {x y z : Nat} {a w w' : World}
theorem refl (x y z : Nat) (w : World) : Off x y z w w := ⟨rfl, rfl, rfl, Nat.le_refl _, fun _ _ _ _ _ => rfl⟩
theorem trans (h : Off x y z a w) (k : Off x y z w w') : Off x y z a w' :=
  ⟨k.os.trans h.os, k.tape.trans h.tape, k.output.trans h.output, Nat.le_trans h.size k.size, fun i hi h1 h2 h3 => (k.block i (Nat.lt_of_lt_of_le hi h.size) h1 h2 h3).trans (h.block i hi h1 h2 h3)⟩
theorem of_below (h : Below a.heap.size a w) : Off x y z a w := ⟨h.os, h.tape, h.output, h.size, fun k hk _ _ _ => h.block k hk⟩
theorem below (h : Off x y z a w) {B : Nat} (hB : B ≤ a.heap.size) (hx : B ≤ x) (hy : B ≤ y) (hz : B ≤ z) : Below B a w :=
  ⟨h.os, h.tape, h.output, h.size, fun k hk => h.block k (by omega) (by omega) (by omega) (by omega)⟩
theorem then_below (h : Off x y z a w) (k : Below w.heap.size w w') : Off x y z a w' := h.trans (of_below k)
theorem grown (h : Off x y z a w) {b : Nat} (hg : w.grownBy w' (some b)) (hb : b = x ∨ b = y ∨ b = z ∨ a.heap.size ≤ b) : Off x y z a w' :=
  ⟨hg.os.trans h.os, hg.tape.trans h.tape, hg.output.trans h.output, Nat.le_trans h.size hg.size, fun i hi h1 h2 h3 => (hg.block i (Nat.lt_of_lt_of_le hi h.size) (by intro e; cases e; omega)).trans (h.block i hi h1 h2 h3)⟩
theorem setCell (h : Off x y z a w) {p : Addr} (hb : p.block = x ∨ p.block = y ∨ p.block = z ∨ a.heap.size ≤ p.block) (u : Value) : Off x y z a (w.setCell p u) :=
  ⟨h.os, h.tape, h.output, by have := (Below.setCell (Below.refl 0 w) (p := p) (Nat.zero_le _) u).size; have := h.size; omega, fun i hi h1 h2 h3 => (Below.heap_setCell w p u i (by omega)).trans (h.block i hi h1 h2 h3)⟩
theorem alloc (h : Off x y z a w) (o : Obj) : Off x y z a (w.alloc o) := h.then_below (below_alloc (Below.refl _ _) _)
theorem drewN (h : Off x y z a w) (n : Nat) : Off x y z a (w.drewN n) := h.then_below (pw_below_drewN (Below.refl _ _) _)
end Off
theorem TagsAt.off {w w' : World} {p bh bm n : Nat} {most floor : Int} {S : List Ent} {D M : DataW Unit} (h : TagsAt w p bh bm n most S floor D M) {x y z : Nat} (o : Off x y z w w')
    (d1 : p ≠ x ∧ p ≠ y ∧ p ≠ z) (d2 : bh ≠ x ∧ bh ≠ y ∧ bh ≠ z) (d3 : bm ≠ x ∧ bm ≠ y ∧ bm ≠ z) : TagsAt w' p bh bm n most S floor D M := by
  have l1 : p < w.heap.size := (Array.getElem?_eq_some_iff.1 h.cells).1
  have k : ∀ b, b < w.heap.size → (b ≠ x ∧ b ≠ y ∧ b ≠ z) → w.grownBy w' none ∨ True := fun _ _ _ => Or.inr trivial
  have mv : ∀ {k : TypeId} {R} {b n : Nat} {D : DataW Unit}, w.ownsMap Try.prog k R b n D → (b ≠ x ∧ b ≠ y ∧ b ≠ z) → w'.ownsMap Try.prog k R b n D := by
    intro k R b n D ho hd
    have hlt := ho.lt
    obtain ⟨es, clock, hb, r⟩ := ho
    exact ⟨es, clock, (o.block b hlt hd.1 hd.2.1 hd.2.2).trans hb, r⟩
  exact ⟨(o.block p l1 d1.1 d1.2.1 d1.2.2).trans h.cells, mv h.h d2, mv h.m d3, h.ne, h.rel, h.mostOk, h.floorOk, h.len⟩
theorem TagsAt.lt {w : World} {p bh bm n : Nat} {most floor : Int} {S : List Ent} {D M : DataW Unit} (h : TagsAt w p bh bm n most S floor D M) : p < w.heap.size ∧ bh < w.heap.size ∧ bm < w.heap.size :=
  ⟨(Array.getElem?_eq_some_iff.1 h.cells).1, h.h.lt, h.m.lt⟩
theorem TagsAt.below {w w' : World} {p bh bm n : Nat} {most floor : Int} {S : List Ent} {D M : DataW Unit} (h : TagsAt w p bh bm n most S floor D M) (b : Below w.heap.size w w') : TagsAt w' p bh bm n most S floor D M :=
  h.off (x := w.heap.size) (y := w.heap.size) (z := w.heap.size) (Off.of_below b) (by have := h.lt; omega) (by have := h.lt; omega) (by have := h.lt; omega)
theorem TagsAt.apart {w : World} {p bh bm n : Nat} {most floor : Int} {S : List Ent} {D M : DataW Unit} (h : TagsAt w p bh bm n most S floor D M) : p ≠ bh ∧ p ≠ bm := by
  obtain ⟨es, clock, hb, _⟩ := h.h
  obtain ⟨es', clock', hb', _⟩ := h.m
  have hc := h.cells
  constructor
  · intro e; rw [e, hb] at hc; cases hc
  · intro e; rw [e, hb'] at hc; cases hc
theorem rel_empty : Rel (.map [] : DataW Unit) (.map []) [] where
  ok := by simp
  nd := List.nodup_nil
  at_ := fun e t _ _ => by simp [DataW.atKey]
  has := fun e t _ _ => by simp [Maps.has]
  size := rfl
  many := fun e _ => by simp [DataW.atKey, cnt]
theorem sz_alloc (w : World) (o : Obj) : (w.alloc o).heap.size = w.heap.size + 1 := Go.Deep.nblk_alloc w o
theorem blk_new (w : World) (o : Obj) : (w.alloc o).heap[w.heap.size]? = some o := (MapKept.heap_alloc w o).1
theorem new_tags (w : World) (m : Int) (hm : 1 ≤ m ∧ m ≤ 9223372036854775807) : TagsAt (((w.alloc (.map #[] 0)).alloc (.map #[] 0)).alloc (.cells #[.int .i64 m, .map (some w.heap.size), .map (some (w.heap.size + 1)), .int .u32 0] 48)) (w.heap.size + 1 + 1) w.heap.size (w.heap.size + 1) 0 m [] 0 (.map []) (.map []) where
  cells := by
    have := blk_new ((w.alloc (.map #[] 0)).alloc (.map #[] 0)) (.cells #[.int .i64 m, .map (some w.heap.size), .map (some (w.heap.size + 1)), .int .u32 0] 48)
    rw [sz_alloc, sz_alloc] at this; exact this
  h := ((World.ownsMap_made w _ _ _).alloc _).alloc _
  m := by
    have := (World.ownsMap_made (H := Unit) (w.alloc (.map #[] 0)) Try.prog 28 (plainElem Try.prog 3)).alloc (.cells #[.int .i64 m, .map (some w.heap.size), .map (some (w.heap.size + 1)), .int .u32 0] 48)
    rw [sz_alloc] at this; exact this
  ne := by omega
  rel := rel_empty
  mostOk := hm
  floorOk := by unfold OkE; omega
  len := Nat.le_refl _
theorem new_post (w : World) (k m : Int) (h1 : m = max k 1) (hm : 1 ≤ m ∧ m ≤ 9223372036854775807) :
    ∃ p, Ending.returned (.pointer (some ⟨w.heap.size + 1 + 1, 0, none⟩)) = .returned (.pointer (some ⟨p, 0, none⟩)) ∧ ∃ bh bm, TagsAt (((w.alloc (.map #[] 0)).alloc (.map #[] 0)).alloc (.cells #[.int .i64 m, .map (some w.heap.size), .map (some (w.heap.size + 1)), .int .u32 0] 48)) p bh bm 0 (max k 1) [] 0 (.map []) (.map [])
      ∧ Below w.heap.size w (((w.alloc (.map #[] 0)).alloc (.map #[] 0)).alloc (.cells #[.int .i64 m, .map (some w.heap.size), .map (some (w.heap.size + 1)), .int .u32 0] 48)) ∧ w.heap.size ≤ p ∧ w.heap.size ≤ bh ∧ w.heap.size ≤ bm :=
  ⟨_, rfl, w.heap.size, w.heap.size + 1, by rw [← h1]; exact new_tags w m hm, below_alloc (below_alloc (below_alloc (Below.refl _ _) _) _) _, by omega, by omega, by omega⟩
set_option maxHeartbeats 1000000 in
set_option maxRecDepth 100000 in
theorem new_any (w : World) (k : Int) (hk : -9223372036854775808 ≤ k ∧ k ≤ 9223372036854775807) :
    Calls Try.prog 9 #[.int .i64 k] w fun e_ w' => ∃ p, e_ = .returned (.pointer (some ⟨p, 0, none⟩)) ∧ ∃ bh bm, TagsAt w' p bh bm 0 (max k 1) [] 0 (.map []) (.map []) ∧ Below w.heap.size w w' ∧ w.heap.size ≤ p ∧ w.heap.size ≤ bh ∧ w.heap.size ≤ bm := by
  have hmm := @run_makeMap Try.prog
  go_enter Try.func9, Try.ntmps9
  go_wp2
  all_goals
    go_ret
    first | exact new_post w k k (by omega) (by omega) | exact new_post w k 1 (by omega) (by omega)
end Go.Proofs.Ythlpbihkbafgbaa.RB
