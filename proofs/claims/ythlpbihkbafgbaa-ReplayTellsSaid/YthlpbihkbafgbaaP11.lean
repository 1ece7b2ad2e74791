/- The contracts, with the maps' places hidden: what a caller needs. -/
import Derived.Test.YthlpbihkbafgbaaP10
namespace Go.Proofs.Ythlpbihkbafgbaa.RB
open Go Go.Maps Go.RowKit Go.BigFrame Go.Proofs.YthlpbihkbafgbaaW.PrintWords Go.Proofs.YthlpbihkbafgbaaW.PrintLast Go.Proofs.YthlpbihkbafgbaaW.PrintMore
set_option linter.unusedVariables false
set_option linter.unusedSimpArgs false

/-- What a call leaves as it was: all below B, and every row that is no Tags. -/
structure Fr (B : Nat) (w w' : World) : Prop where
  be : Below B w w'
  kept : ∀ (k : Nat) (cs : Array Value) (t : TypeId) (fr : Nat × Nat), w.heap[k]? = some (Obj.cells cs t fr) → t ≠ 48 → w'.heap[k]? = some (Obj.cells cs t fr)
theorem Fr.trans {B : Nat} {a w w' : World} (h : Fr B a w) (k : Fr B w w') : Fr B a w' := ⟨h.be.trans k.be, fun i cs t fr hi ht => k.kept i cs t fr (h.kept i cs t fr hi ht) ht⟩
theorem Fr.of_below {B : Nat} {w w' : World} (hB : B ≤ w.heap.size) (h : Below w.heap.size w w') : Fr B w w' :=
  ⟨h.mono hB, fun i cs t fr hi _ => (h.block i (Array.getElem?_eq_some_iff.1 hi).1).trans hi⟩
/-- A Tags whose blocks all lie at B or above. -/
def At (B : Nat) (w : World) (p n : Nat) (most floor : Int) (S : List Ent) : Prop :=
  ∃ bh bm D M, TagsAt w p bh bm n most S floor D M ∧ B ≤ p ∧ B ≤ bh ∧ B ≤ bm
theorem At.low {B : Nat} {w : World} {p n : Nat} {most floor : Int} {S : List Ent} (h : At B w p n most floor S) : B ≤ w.heap.size := by
  obtain ⟨bh, bm, D, M, T, h1, _⟩ := h
  have := T.lt
  omega
theorem At.below {B : Nat} {w w' : World} {p n : Nat} {most floor : Int} {S : List Ent} (h : At B w p n most floor S) (b : Below w.heap.size w w') : At B w' p n most floor S := by
  obtain ⟨bh, bm, D, M, T, h1⟩ := h
  exact ⟨bh, bm, D, M, T.below b, h1⟩
theorem Off.fr {B : Nat} {w w' : World} {p bh bm n : Nat} {most floor : Int} {S : List Ent} {D M : DataW Unit} (o : Off p bh bm w w') (h : TagsAt w p bh bm n most S floor D M) (hB : B ≤ p ∧ B ≤ bh ∧ B ≤ bm) : Fr B w w' := by
  refine ⟨o.below (by have := h.lt; omega) hB.1 hB.2.1 hB.2.2, fun k cs t fr hk ht => ?_⟩
  refine (o.block k (Array.getElem?_eq_some_iff.1 hk).1 ?_ ?_ ?_).trans hk
  · intro e; rw [e, h.cells] at hk; injection hk with hk; injection hk with _ hk _; exact ht hk.symm
  · obtain ⟨es, clock, hb, _⟩ := h.h
    intro e; rw [e, hb] at hk; cases hk
  · obtain ⟨es, clock, hb, _⟩ := h.m
    intro e; rw [e, hb] at hk; cases hk
theorem new_at (w : World) (B : Nat) (hB : B ≤ w.heap.size) (k : Int) (hk : -9223372036854775808 ≤ k ∧ k ≤ 9223372036854775807) :
    Calls Try.prog 9 #[.int .i64 k] w fun e_ w' => ∃ p, e_ = .returned (.pointer (some ⟨p, 0, none⟩)) ∧ At B w' p 0 (max k 1) 0 [] ∧ Fr B w w' := by
  refine (new_any w k hk).mono ?_
  rintro e_ w' ⟨p, rfl, bh, bm, T, b, h1, h2, h3⟩
  exact ⟨p, rfl, ⟨bh, bm, _, _, T, by omega, by omega, by omega⟩, Fr.of_below hB b⟩
theorem add_at {w : World} {B p n : Nat} {most floor : Int} {S : List Ent} (h : At B w p n most floor S) (e : Int) (he : OkE e) (t : List Int) (ht : IsTag t) (hn : n + 1 < 1000000) {cs : Array Value} (hcs : cs = tagA t) {c : Int} {S' : List Ent} (hc : addC most floor S e t = c) (hS : addS most floor S e t = S') :
    Calls Try.prog 11 #[.pointer (some ⟨p, 0, none⟩), .int .u32 e, .agg cs] w fun e_ w' => e_ = .returned (.int .i64 c) ∧ At B w' p (n + 1) most floor S' ∧ Fr B w w' := by
  subst hcs
  obtain ⟨bh, bm, D, M, T, h1, h2, h3⟩ := h
  refine (add_any w T e he t ht hn).mono ?_
  rintro e_ w' ⟨D', M', rfl, T', o⟩
  subst hc hS
  exact ⟨rfl, ⟨bh, bm, D', M', T', h1, h2, h3⟩, (o.sub (Or.inr (Or.inl rfl)) (Or.inr (Or.inr rfl)) (Or.inr (Or.inr rfl))).fr T ⟨h1, h2, h3⟩⟩
theorem expire_at {w : World} {B p n : Nat} {most floor : Int} {S : List Ent} (h : At B w p n most floor S) (e : Int) (he : OkE e) (hn : n < 1000000) {c fl : Int} {S' : List Ent} (hfl : max floor e = fl) (hS : keepE fl S = S') (hc : (S.length : Int) - (S'.length : Int) = c) :
    Calls Try.prog 13 #[.pointer (some ⟨p, 0, none⟩), .int .u32 e] w fun e_ w' => e_ = .returned (.int .i64 c) ∧ At B w' p n most fl S' ∧ Fr B w w' := by
  obtain ⟨bh, bm, D, M, T, h1, h2, h3⟩ := h
  refine (expire_any w T e he hn fl hfl.symm).mono ?_
  rintro e_ w' ⟨D', M', rfl, T', o⟩
  subst hS hc
  exact ⟨rfl, ⟨bh, bm, D', M', T', h1, h2, h3⟩, o.fr T ⟨h1, h2, h3⟩⟩
theorem has_at {w : World} {B p n : Nat} {most floor : Int} {S : List Ent} (h : At B w p n most floor S) (e : Int) (he : OkE e) (t : List Int) (ht : IsTag t) {cs : Array Value} (hcs : cs = tagA t) {c : Bool} (hc : decide ((e, t) ∈ S) = c) :
    Calls Try.prog 15 #[.pointer (some ⟨p, 0, none⟩), .int .u32 e, .agg cs] w fun e_ w' => e_ = .returned (.bool c) ∧ Below w.heap.size w w' := by
  subst hcs hc
  obtain ⟨bh, bm, D, M, T, h1⟩ := h
  exact has_any w T e he t ht
theorem len_at {w : World} {B p n : Nat} {most floor : Int} {S : List Ent} (h : At B w p n most floor S) (e : Int) (he : OkE e) {c : Int} (hc : (cnt S e : Int) = c) :
    Calls Try.prog 17 #[.pointer (some ⟨p, 0, none⟩), .int .u32 e] w fun e_ w' => e_ = .returned (.int .i64 c) ∧ w' = w := by
  subst hc
  obtain ⟨bh, bm, D, M, T, h1⟩ := h
  exact len_any w T e he
theorem floor_at {w : World} {B p n : Nat} {most floor : Int} {S : List Ent} (h : At B w p n most floor S) :
    Calls Try.prog 19 #[.pointer (some ⟨p, 0, none⟩)] w fun e_ w' => e_ = .returned (.int .u32 floor) ∧ w' = w := by
  obtain ⟨bh, bm, D, M, T, h1⟩ := h
  exact floor_any w T
/-- A tag that begins with x, y; noughts behind. -/
def tg (x y : Int) : List Int := [x, y, 0, 0, 0, 0, 0, 0, 0, 0, 0, 0, 0, 0, 0, 0]
theorem tg_ok (x y : Int) (hx : 0 ≤ x ∧ x ≤ 255) (hy : 0 ≤ y ∧ y ≤ 255) : IsTag (tg x y) := ⟨rfl, by
  intro z hz
  simp only [tg, List.mem_cons, List.mem_nil_iff, or_false] at hz
  omega⟩
end Go.Proofs.Ythlpbihkbafgbaa.RB
