/- A quarter of a state is mixed: the Go code comes to the plain function 'half', twice; no condition but that the numbers are of their kinds and the places differ. -/
import Derived.Test.YtlpfmehcghhdcaaDoorX1
import Derived.StillTailTactics
import Derived.RegionTactic
import Derived.BigRegion
namespace Go.Proofs.YtlpfmehcghhdcaaDoor.XB
open Go.RowKit Go.Proofs.YtlpfmehcghhdcaaDoorW.PrintWords Go.Proofs.YtlpfmehcghhdcaaDoorW.PrintLast Go.Proofs.YtlpfmehcghhdcaaDoorW.PrintMore PChachaTells
set_option linter.unusedVariables false
set_option linter.unusedSimpArgs false

/-- Turned left: p is two to the places, q two to the rest of thirty-two. -/
def rot (p q x : Int) : Int := x * p % 4294967296 + x / q

theorem wrap_or (k : Nat) (hk : k ≤ 32) (x : Int) (h0 : 0 ≤ x) (h1 : x ≤ 4294967295) (p q : Int) (hp : p = 2 ^ k) (hq : q = 2 ^ (32 - k)) : Go.bits .or .u32 (x * p % 4294967296) (x / q) = rot p q x := by
  have hpq : (2 : Int) ^ k * 2 ^ (32 - k) = 4294967296 := by
    rw [← Int.pow_add]; have : k + (32 - k) = 32 := by omega
    rw [this]; rfl
  have hp0 : (0 : Int) < 2 ^ k := Int.pow_pos (by decide)
  have hq0 : (0 : Int) < 2 ^ (32 - k) := Int.pow_pos (by decide)
  have hlow : x / q < 2 ^ k := by
    rw [hq]
    refine Int.ediv_lt_of_lt_mul hq0 ?_
    rw [hpq]; omega
  have hlow0 : 0 ≤ x / q := by rw [hq]; exact Int.ediv_nonneg h0 (Int.le_of_lt hq0)
  have hle : (2 : Int) ^ k ≤ 4294967296 := by
    rw [← hpq]
    have : (2 : Int) ^ k * 1 ≤ 2 ^ k * 2 ^ (32 - k) := Int.mul_le_mul_of_nonneg_left (by omega) (Int.le_of_lt hp0)
    omega
  refine bits_join .u32 32 (by decide) (fun n a b => by rw [IntKind.wrap_u32]; omega) k _ _ ?_ ?_ ?_ hlow0 hlow ?_
  · exact Int.emod_nonneg _ (by decide)
  · rw [hp, ← hpq, Int.mul_comm x, Int.mul_emod_mul_of_pos _ _ hp0]; exact Int.mul_emod_right _ _
  · have := Int.emod_lt_of_pos (x * p) (show (0 : Int) < 4294967296 by decide); omega
  · omega

theorem rot_bd {p q x : Int} (k : Nat) (hk : k ≤ 32) (h0 : 0 ≤ x) (h1 : x ≤ 4294967295) (hp : p = 2 ^ k) (hq : q = 2 ^ (32 - k)) : 0 ≤ rot p q x ∧ rot p q x ≤ 4294967295 := by
  rw [← wrap_or k hk x h0 h1 p q hp hq]
  have e : Go.bits .or .u32 (x * p % 4294967296) (x / q) = IntKind.u32.wrap (((BitVec.ofInt 32 (x * p % 4294967296)) ||| (BitVec.ofInt 32 (x / q))).toNat : Int) := rfl
  rw [e, IntKind.wrap_u32]; omega

def xr (x y : Int) : Int := Go.bits .xor .u32 x y
theorem xr_bd (x y : Int) : 0 ≤ xr x y ∧ xr x y ≤ 4294967295 := by
  have e : xr x y = IntKind.u32.wrap (((BitVec.ofInt 32 x) ^^^ (BitVec.ofInt 32 y)).toNat : Int) := rfl
  rw [e, IntKind.wrap_u32]; omega

set_option maxHeartbeats 1000000 in
set_option maxRecDepth 100000 in
theorem rot16 (x : Int) (w : World) (h0 : 0 ≤ x) (h1 : x ≤ 4294967295) : Calls Tryd.prog 23 #[.int .u32 x, .int .i64 16] w fun e w' => e = .returned (.int .u32 (rot 65536 65536 x)) ∧ w' = w := by
  have hand : Go.bits .and .u64 16 31 = 16 := by decide
  have ho := wrap_or 16 (by decide) x h0 h1 65536 65536 (by decide) (by decide)
  go_enter Tryd.func23, Tryd.ntmps23
  go_wp2
  go_ret
  exact ⟨rfl, rfl⟩

set_option maxHeartbeats 1000000 in
set_option maxRecDepth 100000 in
theorem rot12 (x : Int) (w : World) (h0 : 0 ≤ x) (h1 : x ≤ 4294967295) : Calls Tryd.prog 23 #[.int .u32 x, .int .i64 12] w fun e w' => e = .returned (.int .u32 (rot 4096 1048576 x)) ∧ w' = w := by
  have hand : Go.bits .and .u64 12 31 = 12 := by decide
  have ho := wrap_or 12 (by decide) x h0 h1 4096 1048576 (by decide) (by decide)
  go_enter Tryd.func23, Tryd.ntmps23
  go_wp2
  go_ret
  exact ⟨rfl, rfl⟩

set_option maxHeartbeats 1000000 in
set_option maxRecDepth 100000 in
theorem rot8 (x : Int) (w : World) (h0 : 0 ≤ x) (h1 : x ≤ 4294967295) : Calls Tryd.prog 23 #[.int .u32 x, .int .i64 8] w fun e w' => e = .returned (.int .u32 (rot 256 16777216 x)) ∧ w' = w := by
  have hand : Go.bits .and .u64 8 31 = 8 := by decide
  have ho := wrap_or 8 (by decide) x h0 h1 256 16777216 (by decide) (by decide)
  go_enter Tryd.func23, Tryd.ntmps23
  go_wp2
  go_ret
  exact ⟨rfl, rfl⟩

set_option maxHeartbeats 1000000 in
set_option maxRecDepth 100000 in
theorem rot7 (x : Int) (w : World) (h0 : 0 ≤ x) (h1 : x ≤ 4294967295) : Calls Tryd.prog 23 #[.int .u32 x, .int .i64 7] w fun e w' => e = .returned (.int .u32 (rot 128 33554432 x)) ∧ w' = w := by
  have hand : Go.bits .and .u64 7 31 = 7 := by decide
  have ho := wrap_or 7 (by decide) x h0 h1 128 33554432 (by decide) (by decide)
  go_enter Tryd.func23, Tryd.ntmps23
  go_wp2
  go_ret
  exact ⟨rfl, rfl⟩

/-- Block b alone has been written to, and new ones made. -/
structure Fr (b : Nat) (w w' : World) : Prop where
  os : w'.os = w.os
  tape : w'.tape = w.tape
  output : w'.output = w.output
  size : w.heap.size ≤ w'.heap.size
  block : ∀ k, k < w.heap.size → k ≠ b → w'.heap[k]? = w.heap[k]?
theorem Fr.refl (b : Nat) (w : World) : Fr b w w := ⟨rfl, rfl, rfl, Nat.le_refl _, fun _ _ _ => rfl⟩
theorem Fr.trans {b : Nat} {u v w : World} (h : Fr b u v) (k : Fr b v w) : Fr b u w :=
  ⟨k.os.trans h.os, k.tape.trans h.tape, k.output.trans h.output, Nat.le_trans h.size k.size, fun i hi hb => (k.block i (Nat.lt_of_lt_of_le hi h.size) hb).trans (h.block i hi hb)⟩
theorem Fr.of_below {b B : Nat} {w w' : World} (h : Below B w w') (hB : w.heap.size ≤ B) : Fr b w w' := ⟨h.os, h.tape, h.output, h.size, fun k hk _ => h.block k (Nat.lt_of_lt_of_le hk hB)⟩
theorem Fr.below {b : Nat} {w w' : World} (h : Fr b w w') {B : Nat} (h1 : B ≤ b) (h2 : B ≤ w.heap.size) : Below B w w' := ⟨h.os, h.tape, h.output, h.size, fun k hk => h.block k (by omega) (by omega)⟩
theorem Fr.alloc {b : Nat} {u w : World} (h : Fr b u w) (o : Obj) : Fr b u (w.alloc o) := h.trans (Fr.of_below (Below.alloc (Below.refl _ _) (Nat.le_refl _) o) (Nat.le_refl _))
theorem Fr.drew {b : Nat} {u w : World} (h : Fr b u w) : Fr b u w.drew := ⟨h.os, h.tape, h.output, h.size, h.block⟩
theorem Fr.drewN {b : Nat} {u w : World} (h : Fr b u w) (n : Nat) : Fr b u (w.drewN n) := ⟨h.os, h.tape, h.output, h.size, h.block⟩
theorem Fr.set {b : Nat} {u w : World} (h : Fr b u w) (i : Nat) (v : Value) : Fr b u (w.setCell ⟨b, i, none⟩ v) :=
  h.trans ⟨rfl, rfl, rfl, by simp, fun k _ hb => Below.heap_setCell w ⟨b, i, none⟩ v k hb⟩
end Go.Proofs.YtlpfmehcghhdcaaDoor.XB
