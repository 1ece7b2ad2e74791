/- What the laws' walks share, on slices. -/
import Derived.Test.YtlpfmehcghhdcaaDoorM9
namespace Go.Proofs.YtlpfmehcghhdcaaDoor.XB
open Go.RowKit Go.Proofs.YtlpfmehcghhdcaaDoorW.PrintWords Go.Proofs.YtlpfmehcghhdcaaDoorW.PrintLast Go.Proofs.YtlpfmehcghhdcaaDoorW.PrintMore PChachaTells
set_option linter.unusedVariables false
set_option linter.unusedSimpArgs false
variable {T : Nat × Nat × Nat}

theorem xor_at {n0 n1 n : Nat} (A0 : Option Addr) (c0 : Nat) (l0 : List Int) (A1 : Option Addr) (c1 : Nat) (l1 : List Int) (w : World) (h0 : l0.length = n0) (h1 : l1.length = n1) (hr0 : Kd.C (Kd.int .u8) w A0 n0 l0) (hc0 : n0 ≤ c0) (hr1 : Kd.C (Kd.int .u8) w A1 n1 l1) (hc1 : n1 ≤ c1) (hb : n0 ≤ 1000000) (hn : min n0 n1 = n) :
    Calls Tryd.prog 13 #[.slice A0 n0 c0, .slice A1 n1 c1] w fun e w' => ∃ A c, e = .returned (.slice A n c) ∧ Kd.R (Kd.int .u8) 5 w' w.heap.size (fun _ => True) (.slice A n c) (xorL l0 l1) ∧ Below w.heap.size w w' := by
  subst h0; subst h1; subst hn
  refine (xor_any A0 c0 l0 A1 c1 l1 w hr0 hc0 hr1 hc1 hb).mono ?_
  rintro e w' ⟨v, rfl, hR, hB⟩
  obtain ⟨A, c, e7⟩ := Kd.R_slice hR
  rw [xorL_len] at e7
  subst e7
  exact ⟨A, c, rfl, hR, hB⟩
theorem stream_at (K V : Array Value) (n : Int) (N : Nat) (w : World) (hK : Bytes K 32) (hV : Bytes V 12) (hv : Vars T w) (hn : n = (N : Int)) (hN : N ≤ 65536) :
    Calls Tryd.prog 11 #[.agg K, .agg V, .int .i64 n] w fun e w' => ∃ A c, e = .returned (.slice A N c) ∧ Kd.R (Kd.int .u8) 5 w' w.heap.size (fun _ => True) (.slice A N c) (streamL K V N) ∧ Below w.heap.size w w' := by
  subst hn
  refine (stream_any K V _ w hK hV hv (by omega) (by omega)).mono ?_
  rintro e w' ⟨v, rfl, hR, hB⟩
  obtain ⟨A, c, e7⟩ := Kd.R_slice hR
  rw [streamL_len, Int.toNat_natCast] at e7
  rw [Int.toNat_natCast] at hR
  subst e7
  exact ⟨A, c, rfl, hR, hB⟩
theorem R_C {w : World} {base : Nat} {ok : Nat → Prop} {A : Option Addr} {n c : Nat} {xs : List Int} (h : Kd.R (Kd.int .u8) 5 w base ok (.slice A n c) xs) : Kd.C (Kd.int .u8) w A n xs ∧ n ≤ c ∧ xs.length = n := by
  obtain ⟨rfl, h1, h2⟩ := Kd.R_reads' h
  exact ⟨h2, h1, rfl⟩
theorem info5' : ∃ i, Tryd.prog.info? 5 = some i ∧ i.size = 1 := by
  cases h : Tryd.prog.info? 5 with
  | none => have := info5; rw [h] at this; simp at this
  | some i => have := info5; rw [h] at this; simp at this; exact ⟨i, rfl, this.2.1⟩
/-- The bytes from a place on. -/
theorem slice_from (A : Option Addr) (n c a : Nat) (ha : a ≤ n) (hc : n ≤ c) : ∃ A', (∀ W, (Instr.slice 26 (.slice A n c) (some (.int .i64 (a : Int))) none none).run Tryd.prog W = .ok (.slice A' (n - a) (c - a)) W) ∧
    ∀ W xs, Kd.C (Kd.int .u8) W A n xs → Kd.C (Kd.int .u8) W A' (n - a) (xs.drop a) := by
  obtain ⟨i, hi, hz⟩ := info5'
  refine ⟨if c = (a : Int).toNat then A else A.map (·.add ((a : Int).toNat * 1)), fun W => ?_, fun W xs h => ?_⟩
  · have := cut_from (P := Tryd.prog) 26 5 .i64 Tryd.underlying26 hi 1 hz A n c (a : Int) (by omega) (by omega) W
    simpa using this
  · have hl := Kd.C_len h
    subst hl
    have := Kd.C_drop h ha hc
    rw [List.length_drop] at this
    rw [Int.toNat_natCast]
    exact this
theorem slice_to (A : Option Addr) (n c a : Nat) (ha : a ≤ n) (hc : n ≤ c) : (∀ W, (Instr.slice 26 (.slice A n c) none (some (.int .i64 (a : Int))) none).run Tryd.prog W = .ok (.slice A a c) W) ∧
    ∀ W xs, Kd.C (Kd.int .u8) W A n xs → Kd.C (Kd.int .u8) W A a (xs.take a) := by
  obtain ⟨i, hi, hz⟩ := info5'
  refine ⟨fun W => ?_, fun W xs h => ?_⟩
  · have := cut_to (P := Tryd.prog) 26 5 .i64 Tryd.underlying26 hi A n c (a : Int) (by omega) (by omega) hc W
    simpa using this
  · have hl := Kd.C_len h
    subst hl
    have := Kd.C_take h ha
    rw [List.length_take, Nat.min_eq_left ha] at this
    exact this
theorem strOfNums_append (x y : List Int) : strOfNums (x ++ y) = strOfNums x ++ strOfNums y := by
  apply ByteArray.ext
  simp [strOfNums]
theorem xorL_cut (L S : List Int) (a : Nat) (h : L.length ≤ S.length) (ha : a ≤ L.length) : xorL L S = xorL (L.take a) S ++ xorL (L.drop a) (S.drop a) := by
  have h1 : xorL (L.take a) S = xorL (L.take a) (S.take a) := by
    unfold xorL
    apply List.ext_getElem?; intro i
    simp only [List.getElem?_zipWith]
    by_cases hi : i < a
    · rw [List.getElem?_take_of_lt hi, List.getElem?_take_of_lt hi]
    · have : (L.take a)[i]? = none := List.getElem?_eq_none (by simp; omega)
      rw [this]
  rw [h1]
  unfold xorL
  rw [← List.zipWith_append (by simp; omega), List.take_append_drop, List.take_append_drop]
theorem cell_len {k : Kd Int} {w : World} {A : Option Addr} {n : Nat} {xs : List Int} (h : k.C w A n xs) : xs.length = n := Kd.C_len h
end Go.Proofs.YtlpfmehcghhdcaaDoor.XB
