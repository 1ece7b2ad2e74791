/- What the laws' walks share. -/
import Derived.Test.YtlpfmehcghhdcaaDoorM8
import Derived.BigFrame
namespace Go.Proofs.YtlpfmehcghhdcaaDoor.XB
open Go.RowKit Go.Proofs.YtlpfmehcghhdcaaDoorW.PrintWords Go.Proofs.YtlpfmehcghhdcaaDoorW.PrintLast Go.Proofs.YtlpfmehcghhdcaaDoorW.PrintMore PChachaTells
set_option linter.unusedVariables false
set_option linter.unusedSimpArgs false
variable {T : Nat × Nat × Nat}

theorem and_bd (n : Int) : 0 ≤ Go.bits .and .i64 n 65535 ∧ Go.bits .and .i64 n 65535 ≤ 65535 := by
  have e : Go.bits .and .i64 n 65535 = IntKind.i64.wrap (((BitVec.ofInt 64 n) &&& (BitVec.ofInt 64 65535)).toNat : Int) := rfl
  have h : ((BitVec.ofInt 64 n) &&& (BitVec.ofInt 64 65535)).toNat ≤ 65535 := by
    rw [BitVec.toNat_and]
    exact Nat.and_le_right
  rw [e, IntWalk.i64_in _ (by omega)]
  omega
theorem str_of_R {w : World} {base : Nat} {ok : Nat → Prop} {A : Option Addr} {n c : Nat} {xs : List Int} (h : Kd.R (Kd.int .u8) 5 w base ok (.slice A n c) xs) :
    (convert 26 9 (.slice A n c)).run Tryd.prog w = .ok (.string (strOfNums xs)) w := by
  obtain ⟨rfl, _, hc⟩ := Kd.R_reads' h
  exact Kd.C_string Tryd.underlying26 Tryd.underlying5 Tryd.underlying9 hc
theorem str_of_C {w : World} {A : Option Addr} {n c : Nat} {xs : List Int} (h : Kd.C (Kd.int .u8) w A n xs) :
    (convert 26 9 (.slice A n c)).run Tryd.prog w = .ok (.string (strOfNums xs)) w :=
  Kd.C_string Tryd.underlying26 Tryd.underlying5 Tryd.underlying9 h
/-- The two boxed arguments' world. -/
structure Boxed (T : Nat × Nat × Nat) (w w1 : World) (kb nb : Nat) (K V : Array Value) : Prop where
  be : Below w.heap.size w w1
  va : Vars T w1
  hk : w1.heap[kb]? = some (.cells K 23 (0, 0))
  hv : w1.heap[nb]? = some (.cells V 24 (0, 0))
theorem boxed_new {w : World} {K V : Array Value} (hv : Vars T w) : Boxed T w ((w.alloc (.cells K 23)).alloc (.cells V 24)) w.heap.size (w.heap.size + 1) K V := by
  have be : Below w.heap.size w ((w.alloc (.cells K 23)).alloc (.cells V 24)) := below_alloc (below_alloc (Below.refl _ _) _) _
  refine ⟨be, hv.below be hv.size, blk_alloc (blk_new _ _) _, ?_⟩
  have := blk_new (w.alloc (.cells K 23)) (.cells V 24)
  rw [sz_alloc] at this; exact this
theorem Boxed.step {w w1 w2 : World} {kb nb : Nat} {K V : Array Value} (h : Boxed T w w1 kb nb K V) (b : Below w1.heap.size w1 w2) : Boxed T w w2 kb nb K V :=
  ⟨below_then h.be h.be.size b, h.va.below b h.va.size, blk_below h.hk b, blk_below h.hv b⟩
theorem Boxed.set {w w1 : World} {kb nb : Nat} {K V : Array Value} (h : Boxed T w w1 kb nb K V) {g : Nat} {cs : Array Value} (hg : w1.heap[g]? = some (.cells cs 5 (0, 0))) (hw : w.heap.size ≤ g) (h3 : 3 ≤ w.heap.size) (i : Nat) (v : Value) : Boxed T w (w1.setCell ⟨g, i, none⟩ v) kb nb K V := by
  exact ⟨below_set h.be hw, ⟨(Below.heap_setCell w1 ⟨g, i, none⟩ v 0 (by show 0 ≠ g; omega)).trans h.va.g0, (Below.heap_setCell w1 ⟨g, i, none⟩ v 1 (by show 1 ≠ g; omega)).trans h.va.g1, (Below.heap_setCell w1 ⟨g, i, none⟩ v 2 (by show 2 ≠ g; omega)).trans h.va.g2⟩, (Below.heap_setCell w1 ⟨g, i, none⟩ v kb (blk_ne h.hk hg (by decide))).trans h.hk, (Below.heap_setCell w1 ⟨g, i, none⟩ v nb (blk_ne h.hv hg (by decide))).trans h.hv⟩
theorem load_fact {w : World} {g ty : Nat} {fr : Nat × Nat} {cs : Array Value} (h : w.heap[g]? = some (.cells cs ty fr)) (n : Nat) (hn : cs.size = n) :
    (loadCellsFrom ⟨g, 0, none⟩ 0 n #[]).run Tryd.prog w = .ok cs w := by
  subst hn
  have := run_loadCells_list (P := Tryd.prog) w ⟨g, 0, none⟩ cs.toList (fun j v hv => by
    rw [add_at, Nat.zero_add, cell_of_row w g j cs ty fr h]
    simpa using hv)
  simpa [loadCells] using this
theorem load_want {P : Program} {ops : Array Oper} {rest : List Oper} {o : Oper} {a : Act} {w : World} {Q : Exit → Act → World → Prop} (hw : Region.wanted o (yielded ops a.tmps) = true) (ty : TypeId) (x : Operand) (ho : o.op = .load ty x)
    (g : Nat) (hx : a.eval x = .pointer (some ⟨g, 0, none⟩)) (t : TypeId) (cs : Array Value) (fr : Nat × Nat) (d : TypeDesc) (hg : w.heap[g]? = some (.cells cs t fr))
    (hu : P.underlying ty = some d) (hd : (match d with | .struct _ | .array _ _ => true | _ => false) = true) (hi : (P.info? ty).map (·.size) = some cs.size)
    (h : wpList P ops Q rest (a.put o.dst (.agg cs)) w) : wpList P ops Q (o :: rest) a w :=
  BigFrame.wpList_want hw fun K hK => wp_load_row ty x ho g hx t cs fr d hg hu hd hi (hK _ _ h)
end Go.Proofs.YtlpfmehcghhdcaaDoor.XB
