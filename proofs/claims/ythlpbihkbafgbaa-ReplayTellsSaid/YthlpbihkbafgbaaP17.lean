/- The document's Tags: a row of entries behind a pointer; New. -/
import Derived.Test.YthlpbihkbafgbaaP16
namespace Go.Proofs.Ythlpbihkbafgbaa.RB
open Go Go.Maps Go.RowKit Go.BigFrame Go.Proofs.YthlpbihkbafgbaaW.PrintWords Go.Proofs.YthlpbihkbafgbaaW.PrintLast Go.Proofs.YthlpbihkbafgbaaW.PrintMore
set_option linter.unusedVariables false
set_option linter.unusedSimpArgs false

def entA (s : Ent) : List Value := .int .u32 s.1 :: s.2.map (Value.int .u8)
theorem entA_key (e : Int) (t : List Int) : (keyA e t).toList = entA (e, t) := rfl
theorem entA_len {s : Ent} (h : IsTag s.2) : (entA s).length = 17 := by simp [entA, h.len]
def OkS (S : List Ent) : Prop := ∀ s ∈ S, OkE s.1 ∧ IsTag s.2
/-- A row of entries, read. -/
def Ents (w : World) (a : Option Addr) (len : Nat) (S : List Ent) : Prop :=
  S.length = len ∧ len ≤ maxLen ∧ ∀ i s, S[i]? = some s → ∃ x, a = some x ∧ CellsAt w (x.add (i * 17)) (entA s)
/-- A row of entries, owned. -/
def ERow (w : World) (B : Nat) (v : Value) (S : List Ent) : Prop := w.ownsRow B 52 17 v S.length (S.flatMap entA)
theorem erow_nil (w : World) (B : Nat) : ERow w B (.slice none 0 0) [] := ⟨rfl, Or.inl ⟨rfl, rfl⟩⟩
theorem flatE_at : ∀ (S : List Ent), OkS S → ∀ (i : Nat) (s : Ent), S[i]? = some s → ∀ (j : Nat) (v : Value), (entA s)[j]? = some v → (S.flatMap entA)[i * 17 + j]? = some v
  | [], _, i, s, h, _, _, _ => by simp at h
  | d :: D, hk, 0, s, h, j, v, hj => by
    simp at h
    subst h
    have hl := entA_len (hk d (List.mem_cons_self ..)).2
    have hjl : j < 17 := by have := (List.getElem?_eq_some_iff.1 hj).1; omega
    rw [List.flatMap_cons, List.getElem?_append_left (by omega)]
    simpa using hj
  | d :: D, hk, i + 1, s, h, j, v, hj => by
    have hl := entA_len (hk d (List.mem_cons_self ..)).2
    rw [List.flatMap_cons, List.getElem?_append_right (by omega)]
    have := flatE_at D (fun s hs => hk s (List.mem_cons_of_mem _ hs)) i s (by simpa using h) j v hj
    rw [hl]
    have e : (i + 1) * 17 + j - 17 = i * 17 + j := by omega
    rw [e]; exact this
theorem flatE_len : ∀ (S : List Ent), OkS S → (S.flatMap entA).length = S.length * 17
  | [], _ => rfl
  | d :: D, hk => by
    rw [List.flatMap_cons, List.length_append, entA_len (hk d (List.mem_cons_self ..)).2, flatE_len D (fun s hs => hk s (List.mem_cons_of_mem _ hs)), List.length_cons]
    omega
theorem ERow.ents {w : World} {B : Nat} {v : Value} {S : List Ent} (h : ERow w B v S) (hk : OkS S) : ∃ a cap, v = .slice a S.length cap ∧ Ents w a S.length S := by
  obtain ⟨hl, ho⟩ := h
  rcases ho with ⟨rfl, h0⟩ | ⟨g, cap, cur, rfl, hb, hg, hn, hc, hs, ht⟩
  · have : S = [] := List.length_eq_zero_iff.1 h0
    subst this
    exact ⟨none, 0, rfl, rfl, Nat.zero_le _, by simp⟩
  · refine ⟨_, _, rfl, rfl, Nat.le_trans hn hc, fun i s hi => ⟨_, rfl, fun j u hj => ?_⟩⟩
    have e : ((⟨g, 0, none⟩ : Addr).add (i * 17)).add j = ⟨g, i * 17 + j, none⟩ := by
      rw [Go.Deep.add_add]; unfold Addr.add; split <;> simp_all
    rw [e, cell_of_row w g _ cur 52 (0, 0) hg]
    have h1 := flatE_at S hk i s hi j u hj
    rw [← ht] at h1
    have hlt := (List.getElem?_eq_some_iff.1 h1).1
    rw [List.getElem?_take_of_lt (by rw [List.length_take] at hlt; omega)] at h1
    simpa using h1
theorem ERow.mono {w : World} {B B' : Nat} {v : Value} {S : List Ent} (h : ERow w B v S) (hB : B' ≤ B) : ERow w B' v S := by
  obtain ⟨hl, ho⟩ := h
  rcases ho with ho | ⟨g, cap, cur, hv, hb, r⟩
  · exact ⟨hl, Or.inl ho⟩
  · exact ⟨hl, Or.inr ⟨g, cap, cur, hv, by omega, r⟩⟩
/-- Kept while its block is. -/
theorem ERow.keep {w w' : World} {B : Nat} {v : Value} {S : List Ent} (h : ERow w B v S) (hk : ∀ (k : Nat) (cur : Array Value), w.heap[k]? = some (Obj.cells cur 52 (0, 0)) → w'.heap[k]? = some (Obj.cells cur 52 (0, 0))) : ERow w' B v S := by
  obtain ⟨hl, ho⟩ := h
  rcases ho with ho | ⟨g, cap, cur, hv, hb, hg, r⟩
  · exact ⟨hl, Or.inl ho⟩
  · exact ⟨hl, Or.inr ⟨g, cap, cur, hv, hb, hk _ _ hg, r⟩⟩
theorem ERow.below {w w' : World} {B : Nat} {v : Value} {S : List Ent} (h : ERow w B v S) (b : Below w.heap.size w w') : ERow w' B v S :=
  h.keep fun k cur hg => (b.block k (Array.getElem?_eq_some_iff.1 hg).1).trans hg
theorem Ents.at_ {w : World} {a : Option Addr} {len : Nat} {S : List Ent} (h : Ents w a len S) {i : Nat} (hi : i < len) : ∃ s x, S[i]? = some s ∧ a = some x ∧ CellsAt w (x.add (i * 17)) (entA s) := by
  have hl : i < S.length := by rw [h.1]; exact hi
  obtain ⟨x, hx, hc⟩ := h.2.2 i S[i] (List.getElem?_eq_getElem hl)
  exact ⟨S[i], x, List.getElem?_eq_getElem hl, hx, hc⟩
theorem Ents.below {w w' : World} {a : Option Addr} {len : Nat} {S : List Ent} (h : Ents w a len S) (b : Below w.heap.size w w') : Ents w' a len S := by
  obtain ⟨h1, h2, h4⟩ := h
  refine ⟨h1, h2, fun i s hi => ?_⟩
  obtain ⟨x, hx, hc⟩ := h4 i s hi
  have hb : (x.add (i * 17)).block < w.heap.size := by
    have := World.block_lt_of_cell? w _ (hc.head)
    rw [add_block, add_block] at this
    rw [add_block]; exact this
  exact ⟨x, hx, hc.below (by simp [entA]) b hb⟩
/-- An entry's cells. -/
theorem ent_cells {w : World} {A : Addr} {s : Ent} (h : CellsAt w A (entA s)) : w.cell? A = some (.int .u32 s.1) ∧ CellsAt w ⟨A.block, A.off + 1, none⟩ (s.2.map (Value.int .u8)) := by
  have h1 := h.tail 1 rfl
  have h0 := h.head
  rw [add0] at h0
  exact ⟨h0, h1⟩
/-- What the document's functions leave: all but the one Tags. -/
structure FrR (B : Nat) (w w' : World) : Prop where
  be : Below B w w'
  kept : ∀ (k : Nat) (o : Obj), w.heap[k]? = some o → (∀ (cs : Array Value) (fr : Nat × Nat), o ≠ Obj.cells cs 40 fr) → w'.heap[k]? = some o
theorem FrR.of_below {B : Nat} {w w' : World} (hB : B ≤ w.heap.size) (h : Below w.heap.size w w') : FrR B w w' :=
  ⟨h.mono hB, fun k o hk _ => (h.block k (Array.getElem?_eq_some_iff.1 hk).1).trans hk⟩
theorem FrR.trans {B : Nat} {a w w' : World} (h : FrR B a w) (k : FrR B w w') : FrR B a w' := ⟨h.be.trans k.be, fun i o hi ho => k.kept i o (h.kept i o hi ho) ho⟩
theorem At.frR {B B2 : Nat} {w w' : World} {p n : Nat} {most floor : Int} {S : List Ent} (h : At B w p n most floor S) (f : FrR B2 w w') : At B w' p n most floor S := by
  obtain ⟨bh, bm, D, M, T, hB⟩ := h
  have mv : ∀ {k : TypeId} {R} {b n : Nat} {D : DataW Unit}, w.ownsMap Try.prog k R b n D → w'.ownsMap Try.prog k R b n D := by
    intro k R b n D ho
    obtain ⟨es, clock, hb, r⟩ := ho
    exact ⟨es, clock, f.kept _ _ hb (fun cs fr e => by cases e), r⟩
  exact ⟨bh, bm, D, M, ⟨f.kept _ _ T.cells (fun cs fr e => by injection e with _ e; exact absurd e (by decide)), mv T.h, mv T.m, T.ne, T.rel, T.mostOk, T.floorOk, T.len⟩, hB⟩
theorem FrR.row {B : Nat} {w w' : World} (f : FrR B w w') {k : Nat} {cs : Array Value} {t : TypeId} {fr : Nat × Nat} (h : w.heap[k]? = some (.cells cs t fr)) (ht : t ≠ 40) : w'.heap[k]? = some (.cells cs t fr) :=
  f.kept _ _ h (fun cs' fr' e => by injection e with _ e; exact ht e)
/-- The document's Tags. -/
def RefAt (B : Nat) (w : World) (p : Nat) (most floor : Int) (S : List Ent) : Prop :=
  ∃ v, w.heap[p]? = some (.cells #[.int .i64 most, v, .int .u32 floor] 40 (0, 0)) ∧ B ≤ p ∧ ERow w B v S ∧ OkS S ∧ (1 ≤ most ∧ most ≤ 9223372036854775807) ∧ OkE floor
theorem RefAt.fr {B B' : Nat} {w w' : World} {p : Nat} {most floor : Int} {S : List Ent} (h : RefAt B w p most floor S) (f : Fr B' w w') : RefAt B w' p most floor S := by
  obtain ⟨v, hc, hB, hr, r⟩ := h
  exact ⟨v, f.kept _ _ _ _ hc (by decide), hB, hr.keep (fun k cur hg => f.kept _ _ _ _ hg (by decide)), r⟩
theorem RefAt.below {B : Nat} {w w' : World} {p : Nat} {most floor : Int} {S : List Ent} (h : RefAt B w p most floor S) (b : Below w.heap.size w w') : RefAt B w' p most floor S := h.fr (B' := 0) (Fr.of_below (Nat.zero_le _) b)
theorem RefAt.low {B : Nat} {w : World} {p : Nat} {most floor : Int} {S : List Ent} (h : RefAt B w p most floor S) : B ≤ w.heap.size := by
  obtain ⟨v, hc, hB, _⟩ := h
  have := (Array.getElem?_eq_some_iff.1 hc).1
  omega
theorem rnew_post (w : World) (B : Nat) (hB : B ≤ w.heap.size) (k m : Int) (h1 : m = max k 1) (hm : 1 ≤ m ∧ m ≤ 9223372036854775807) :
    ∃ p, Ending.returned (.pointer (some ⟨w.heap.size, 0, none⟩)) = .returned (.pointer (some ⟨p, 0, none⟩)) ∧ RefAt B (w.alloc (.cells #[.int .i64 m, .slice none 0 0, .int .u32 0] 40)) p (max k 1) 0 [] ∧ FrR B w (w.alloc (.cells #[.int .i64 m, .slice none 0 0, .int .u32 0] 40)) := by
  subst h1
  exact ⟨_, rfl, ⟨_, blk_new _ _, hB, erow_nil _ _, (fun s hs => by cases hs), hm, by unfold OkE; omega⟩, FrR.of_below hB (below_alloc (Below.refl _ _) _)⟩
set_option maxHeartbeats 1000000 in
set_option maxRecDepth 100000 in
theorem rnew_any (w : World) (B : Nat) (hB : B ≤ w.heap.size) (k : Int) (hk : -9223372036854775808 ≤ k ∧ k ≤ 9223372036854775807) :
    Calls Try.prog 10 #[.int .i64 k] w fun e_ w' => ∃ p, e_ = .returned (.pointer (some ⟨p, 0, none⟩)) ∧ RefAt B w' p (max k 1) 0 [] ∧ FrR B w w' := by
  go_enter Try.func10, Try.ntmps10
  go_wp2
  all_goals
    go_ret
    first | exact rnew_post w B hB k k (by omega) (by omega) | exact rnew_post w B hB k 1 (by omega) (by omega)
end Go.Proofs.Ythlpbihkbafgbaa.RB
