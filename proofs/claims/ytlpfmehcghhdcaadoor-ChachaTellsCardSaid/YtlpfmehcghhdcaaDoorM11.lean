/- Regions whose order is drawn: what a read yields; xor twice, xor with noughts. -/
import Derived.Test.YtlpfmehcghhdcaaDoorM10
namespace Go.Proofs.YtlpfmehcghhdcaaDoor.XB
open Go.RowKit Go.Proofs.YtlpfmehcghhdcaaDoorW.PrintWords Go.Proofs.YtlpfmehcghhdcaaDoorW.PrintLast Go.Proofs.YtlpfmehcghhdcaaDoorW.PrintMore PChachaTells
set_option linter.unusedVariables false
set_option linter.unusedSimpArgs false
variable {T : Nat × Nat × Nat}

theorem yields_load {P : Program} {ops : Array Oper} {S : World → Prop} {o : Oper} {a : Act} (hw : Region.wanted o (yielded ops a.tmps) = true) (ty : TypeId) (x : Operand) (ho : o.op = .load ty x)
    (g : Nat) (hx : a.eval x = .pointer (some ⟨g, 0, none⟩)) (t : TypeId) (cs : Array Value) (fr : Nat × Nat) (d : TypeDesc) (hS : ∀ w, S w → w.heap[g]? = some (.cells cs t fr))
    (hu : P.underlying ty = some d) (hd : (match d with | .struct _ | .array _ _ => true | _ => false) = true) (hi : (P.info? ty).map (·.size) = some cs.size) : YieldsIf P ops S o (.agg cs) a :=
  .inl ⟨hw, fun w hw' => by
    unfold execOp
    simp only [ho, hx, Instr.loadAt, Instr.sureAddr, Sem.run_bind, Sem.run_pure, Result.andThen_ok, run_loadVar_row w g t ty cs fr d (hS w hw') hu hd hi]⟩
theorem conv_run {o : Oper} {a : Act} {w : World} (x : Operand) (ho : o.op = .convert 26 9 x) {A : Option Addr} {n c : Nat} (hx : a.eval x = .slice A n c) {xs : List Int} (h : Kd.C (Kd.int .u8) w A n xs) :
    (execOp a.eval o).run Tryd.prog w = .ok (.value (.string (strOfNums xs))) w := by
  unfold execOp
  simp [ho, hx, str_of_C h]
theorem yields_conv {ops : Array Oper} {S : World → Prop} {o : Oper} {a : Act} (hw : Region.wanted o (yielded ops a.tmps) = true) (x : Operand) (ho : o.op = .convert 26 9 x) (A : Option Addr) (n c : Nat) (hx : a.eval x = .slice A n c) (xs : List Int)
    (hS : ∀ w, S w → Kd.C (Kd.int .u8) w A n xs) : YieldsIf Tryd.prog ops S o (.string (strOfNums xs)) a :=
  .inl ⟨hw, fun w hw' => conv_run x ho hx (hS w hw')⟩

theorem xor8_eq (x s : Int) : Go.bits .xor .u8 x s = ((BitVec.ofInt 8 x ^^^ BitVec.ofInt 8 s).toNat : Int) := by
  have e : Go.bits .xor .u8 x s = IntKind.u8.wrap ((BitVec.ofInt 8 x ^^^ BitVec.ofInt 8 s).toNat : Int) := rfl
  have h := (BitVec.ofInt 8 x ^^^ BitVec.ofInt 8 s).isLt
  rw [e, IntKind.wrap_u8]
  omega
theorem xor8_bd (x s : Int) : 0 ≤ Go.bits .xor .u8 x s ∧ Go.bits .xor .u8 x s ≤ 255 := by
  have h := (BitVec.ofInt 8 x ^^^ BitVec.ofInt 8 s).isLt
  rw [xor8_eq]; omega
theorem ofInt8 (x : Int) (h0 : 0 ≤ x) (h1 : x ≤ 255) : ((BitVec.ofInt 8 x).toNat : Int) = x := by
  rw [BitVec.toNat_ofInt]; omega
theorem xor8_ofInt (x s : Int) : BitVec.ofInt 8 (Go.bits .xor .u8 x s) = BitVec.ofInt 8 x ^^^ BitVec.ofInt 8 s := by
  rw [xor8_eq, BitVec.ofInt_natCast, BitVec.ofNat_toNat, BitVec.setWidth_eq]
theorem xor8_twice (x s : Int) (h0 : 0 ≤ x) (h1 : x ≤ 255) : Go.bits .xor .u8 (Go.bits .xor .u8 x s) s = x := by
  rw [xor8_eq, xor8_ofInt, BitVec.xor_assoc, BitVec.xor_self, BitVec.xor_zero]
  exact ofInt8 x h0 h1
theorem xor8_zero (s : Int) (h0 : 0 ≤ s) (h1 : s ≤ 255) : Go.bits .xor .u8 0 s = s := by
  rw [xor8_eq, show BitVec.ofInt 8 0 = 0#8 from rfl, BitVec.zero_xor]
  exact ofInt8 s h0 h1
theorem xor8_comm (x s : Int) : Go.bits .xor .u8 x s = Go.bits .xor .u8 s x := by
  rw [xor8_eq, xor8_eq, BitVec.xor_comm]
theorem xor8_assoc (x y z : Int) : Go.bits .xor .u8 (Go.bits .xor .u8 x y) z = Go.bits .xor .u8 x (Go.bits .xor .u8 y z) := by
  rw [xor8_eq, xor8_ofInt, xor8_eq x, xor8_ofInt, BitVec.xor_assoc]
theorem xorL_twice : ∀ (L S : List Int), L.length = S.length → (∀ x ∈ L, 0 ≤ x ∧ x ≤ 255) → xorL (xorL L S) S = L
  | [], _, _, _ => by simp [xorL]
  | x :: L, [], h, _ => by simp at h
  | x :: L, s :: S, h, hb => by
    have ih := xorL_twice L S (by simpa using h) (fun y hy => hb y (List.mem_cons_of_mem _ hy))
    have hx := hb x (List.mem_cons_self ..)
    simp only [xorL, List.zipWith_cons_cons] at ih ⊢
    rw [ih, xor8_twice x s hx.1 hx.2]
theorem xorL_zero : ∀ (S : List Int), (∀ x ∈ S, 0 ≤ x ∧ x ≤ 255) → xorL (List.replicate S.length 0) S = S
  | [], _ => by simp [xorL]
  | s :: S, hb => by
    have ih := xorL_zero S (fun y hy => hb y (List.mem_cons_of_mem _ hy))
    have hx := hb s (List.mem_cons_self ..)
    simp only [xorL, List.length_cons, List.replicate_succ, List.zipWith_cons_cons] at ih ⊢
    rw [ih, xor8_zero s hx.1 hx.2]
theorem xorL_comm : ∀ (L S : List Int), xorL L S = xorL S L
  | [], S => by simp [xorL]
  | x :: L, [] => by simp [xorL]
  | x :: L, s :: S => by
    have ih := xorL_comm L S
    simp only [xorL, List.zipWith_cons_cons] at ih ⊢
    rw [ih, xor8_comm]
theorem xorL_assoc : ∀ (L S R : List Int), xorL (xorL L S) R = xorL L (xorL S R)
  | [], S, R => by simp [xorL]
  | x :: L, [], R => by simp [xorL]
  | x :: L, s :: S, [] => by simp [xorL]
  | x :: L, s :: S, r :: R => by
    have ih := xorL_assoc L S R
    simp only [xorL, List.zipWith_cons_cons] at ih ⊢
    rw [ih, xor8_assoc]
theorem xorL_back (L S : List Int) (hb : ∀ x ∈ L, 0 ≤ x ∧ x ≤ 255) : xorL (xorL L S) S = L.take (min L.length S.length) := by
  induction L generalizing S with
  | nil => simp [xorL]
  | cons x L ih =>
    cases S with
    | nil => simp [xorL]
    | cons s S =>
      have := ih S (fun y hy => hb y (List.mem_cons_of_mem _ hy))
      have hx := hb x (List.mem_cons_self ..)
      simp only [xorL, List.zipWith_cons_cons, List.length_cons] at this ⊢
      rw [this, xor8_twice x s hx.1 hx.2, Nat.succ_min_succ, List.take_succ_cons]
theorem streamL_bd (K V : Array Value) (n : Nat) : ∀ x ∈ streamL K V n, 0 ≤ x ∧ x ≤ 255 := by
  intro x hx
  simp only [streamL, List.mem_map, List.mem_range] at hx
  obtain ⟨i, _, rfl⟩ := hx
  unfold streamAt
  have h := block_get K ((i / 64 : Nat) : Int) V (i % 64) (Nat.mod_lt _ (by omega))
  have h2 : (blockL K ((i / 64 : Nat) : Int) V)[i % 64]? = some (outN (firstL K ((i / 64 : Nat) : Int) V) (roundsL 10 (firstL K ((i / 64 : Nat) : Int) V)) (i % 64)) := by
    simp [blockL, outL, Nat.mod_lt]
  rw [h] at h2
  injection h2 with h2
  rw [h2]
  unfold outN
  omega
end Go.Proofs.YtlpfmehcghhdcaaDoor.XB
