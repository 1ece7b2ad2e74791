/- What a Tags holds, as a list of epochs' tags; the small readers: Len, Floor, Has. -/
import Derived.Test.YthlpbihkbafgbaaP1
import Derived.BigQuiet
namespace Go.Proofs.Ythlpbihkbafgbaa.RB
open Go Go.Maps Go.RowKit
set_option linter.unusedVariables false
set_option linter.unusedSimpArgs false

def OkE (e : Int) : Prop := 0 ≤ e ∧ e ≤ 4294967295
noncomputable def keyL (e : Int) (t : List Int) : Lit := (keyOf Try.prog 50 (.agg (keyA e t))).getD .nil
theorem key_of {e : Int} {t : List Int} (he : OkE e) (ht : IsTag t) : keyOf Try.prog 50 (.agg (keyA e t)) = some (keyL e t) := by
  obtain ⟨kl, h⟩ := key_some e t he ht
  unfold keyL; rw [h]; rfl
theorem keyA_inj {e e' : Int} {t t' : List Int} (h : keyA e t = keyA e' t') : e = e' ∧ t = t' := by
  have h1 := congrArg Array.toList h
  simp only [keyA, List.cons.injEq, Value.int.injEq, true_and] at h1
  refine ⟨h1.1, ?_⟩
  have : ∀ a b : List Int, a.map (Value.int .u8) = b.map (Value.int .u8) → a = b := by
    intro a
    induction a with
    | nil => intro b h; cases b with | nil => rfl | cons _ _ => simp at h
    | cons x a ih =>
      intro b h
      cases b with
      | nil => simp at h
      | cons y b => simp only [List.map_cons, List.cons.injEq, Value.int.injEq, true_and] at h; rw [h.1, ih b h.2]
  exact this t t' h1.2
theorem keyL_inj {e e' : Int} {t t' : List Int} (he : OkE e) (ht : IsTag t) (he' : OkE e') (ht' : IsTag t') (h : keyL e t = keyL e' t') : e = e' ∧ t = t' := by
  have h1 := key_of he ht
  have h2 := key_of he' ht'
  rw [h] at h1
  have := law50.inj h1 h2
  injection this with this
  exact keyA_inj this

abbrev Ent := Int × List Int
def cnt (S : List Ent) (e : Int) : Nat := (S.filter fun p => decide (p.1 = e)).length
structure Rel (D M : DataW Unit) (S : List Ent) : Prop where
  ok : ∀ p ∈ S, OkE p.1 ∧ IsTag p.2
  nd : S.Nodup
  at_ : ∀ e t, OkE e → IsTag t → D.atKey (keyL e t) (.lit (.bool false)) = .lit (.bool (decide ((e, t) ∈ S)))
  has : ∀ e t, OkE e → IsTag t → Maps.has D (keyL e t) = decide ((e, t) ∈ S)
  size : Maps.size D = S.length
  many : ∀ e, OkE e → M.atKey (.int .u32 e) (.lit (.int .i64 0)) = .lit (.int .i64 (cnt S e : Int))
/-- A Tags at p: its four cells, its two maps. -/
structure TagsAt (w : World) (p bh bm : Nat) (n : Nat) (most : Int) (S : List Ent) (floor : Int) (D M : DataW Unit) : Prop where
  cells : w.heap[p]? = some (.cells #[.int .i64 most, .map (some bh), .map (some bm), .int .u32 floor] 48 (0, 0))
  h : w.ownsMap Try.prog 50 (plainElem Try.prog 4) bh n D
  m : w.ownsMap Try.prog 28 (plainElem Try.prog 3) bm n M
  ne : bh ≠ bm
  rel : Rel D M S
  mostOk : 1 ≤ most ∧ most ≤ 9223372036854775807
  floorOk : OkE floor
  len : S.length ≤ n
set_option maxHeartbeats 1000000 in
set_option maxRecDepth 100000 in
theorem floor_any (w : World) {p bh bm n : Nat} {most floor : Int} {S : List Ent} {D M : DataW Unit} (h : TagsAt w p bh bm n most S floor D M) :
    Calls Try.prog 19 #[.pointer (some ⟨p, 0, none⟩)] w fun e w' => e = .returned (.int .u32 floor) ∧ w' = w := by
  have c3 : w.cell? ⟨p, 3, none⟩ = some (.int .u32 floor) := (cell_of_row w p 3 _ 48 (0, 0) h.cells).trans rfl
  clear h
  go_enter Try.func19, Try.ntmps19
  go_wp2
  go_ret
  exact ⟨rfl, rfl⟩
theorem zero3 (w : World) : (zeroValue 3).run Try.prog w = .ok (.int .i64 0) w := by kernel_rfl
theorem zero4 (w : World) : (zeroValue 4).run Try.prog w = .ok (.bool false) w := by kernel_rfl
set_option maxHeartbeats 1000000 in
set_option maxRecDepth 100000 in
theorem len_any (w : World) {p bh bm n : Nat} {most floor : Int} {S : List Ent} {D M : DataW Unit} (h : TagsAt w p bh bm n most S floor D M) (e : Int) (he : OkE e) :
    Calls Try.prog 17 #[.pointer (some ⟨p, 0, none⟩), .int .u32 e] w fun e_ w' => e_ = .returned (.int .i64 (cnt S e : Int)) ∧ w' = w := by
  have c2 : w.cell? ⟨p, 2, none⟩ = some (.map (some bm)) := (cell_of_row w p 2 _ 48 (0, 0) h.cells).trans rfl
  obtain ⟨c, hrun, hat, _⟩ := h.m.lookup_int law28 Try.underlying46 Try.underlying3 (zero3 w) (keyOf_int_mk Try.underlying28 (wf32 he))
  rw [h.rel.many e he] at hat
  have hc : (cnt S e : Int) = c := by injection hat with hat; injection hat
  subst hc
  clear h hat
  go_enter Try.func17, Try.ntmps17
  go_wp2
  go_ret
  exact ⟨rfl, rfl⟩
end Go.Proofs.Ythlpbihkbafgbaa.RB
