/- From 'the listed variables read so' to their cells; the world in which the door's own run has laid them. -/
import Derived.Test.YtlpfmehcghhdcaaDoorM9
import Derived.Test.YtlpfmehcghhdcaaDoorRows
import Derived.ProofKit
import Derived.LaidMore
import Derived.OpenShut
import Derived.Stop.Joined
namespace Go.Proofs.YtlpfmehcghhdcaaDoor
open Go.ChangeShapes Go.WideShapes Go.ChangeAt Go.WideElems Go.RowKit XB

theorem own : ownKnob Tryd.prog.godebug = none := by kernel_rfl
theorem gn0 : Tryd.prog.globalNamed "hourglass/chacha.begins" = some 0 := by kernel_rfl
theorem gn1 : Tryd.prog.globalNamed "hourglass/chacha.quarters" = some 1 := by kernel_rfl
theorem gn2 : Tryd.prog.globalNamed "hourglass/chacha.turns" = some 2 := by kernel_rfl
theorem gt0 : (Tryd.prog.globals[0]?).map (·.type) = some 45 := by kernel_rfl
theorem gt1 : (Tryd.prog.globals[1]?).map (·.type) = some 48 := by kernel_rfl
theorem gt2 : (Tryd.prog.globals[2]?).map (·.type) = some 59 := by kernel_rfl
abbrev laidV : List (String × DataW Unit) := [("hourglass/chacha.begins", Rows.laid_hourglass_chacha_begins), ("hourglass/chacha.quarters", Rows.laid_hourglass_chacha_quarters), ("hourglass/chacha.turns", Rows.laid_hourglass_chacha_turns)]
theorem door_met (os : Os) (args : Array Value) : laidMetH Tryd.prog laidV ((World.doorLaid Tryd.prog 400 os).forCall (fun _ _ => 0) ⟨#[], args, []⟩).memory :=
  laidMetH_of_parts3 (fuel := 8) (laidMet_of_run' 8 (by kernel_rfl) (by kernel_rfl)) (by kernel_rfl) (by kernel_rfl)

section
variable {H : Type} {enc : TypeId × Value → H} {w : World} {base : Nat} {sp : Nat → Bool} {held : Bool} {fuel : Nat} {t : TypeId} {cs : List Value}
/-- An array of numbers: what it reads as tells its cells. -/
theorem ints_of_trod {e n : Nat} {k : IntKind} {zs : List Int} {p : List MemPlace} (ht : Tryd.prog.underlying t = some (.array n e)) (he : Tryd.prog.underlying e = some (.int k)) (hce : Tryd.prog.cellsOf e = 1) (hct : Tryd.prog.cellsOf t = n) (hz : zs.length = n)
    (h : DataW.trod enc Tryd.prog w base sp held fuel t cs = some (.agg (zs.map fun z => .lit (.int k z)), p)) : cs = zs.map (Value.int k) := by
  obtain ⟨xs, m, rfl, hx, hl, hn, hel⟩ := DataW.trod_array ht h
  rw [hct] at hl
  apply List.ext_getElem (by simp [hl, hz])
  intro i h1 h2
  have hi : i < n := by omega
  have h0 := hel i hi
  rw [hce, Nat.mul_one] at h0
  rw [List.getElem?_eq_getElem (by omega)] at h0
  obtain ⟨z, e1, e2, _⟩ := DataW.trod_int he h0
  simp only [Prod.mk.injEq, DataW.agg.injEq] at hx
  have h3 := congrArg (fun l => l[i]?) hx.1
  simp only [List.getElem?_map] at h3
  rw [List.getElem?_eq_getElem (show i < xs.length by omega), List.getElem?_eq_getElem (show i < zs.length by omega)] at h3
  simp only [Option.map_some, Option.some.injEq] at h3
  rw [e2] at h3
  simp only [DataW.lit.injEq, Lit.int.injEq, true_and] at h3
  have h4 := congrArg (fun l => l[0]?) e1
  simp only [List.getElem?_take_of_lt (show 0 < 1 by omega), List.getElem?_drop, Nat.add_zero, List.getElem?_eq_getElem h1] at h4
  simp only [List.getElem?_cons_zero, Option.some.injEq] at h4
  rw [h4, List.getElem_map, h3]
/-- An array of arrays of numbers: each part. -/
theorem parts_of_trod {e e2 n n2 : Nat} {k : IntKind} {zss : List (List Int)} {p : List MemPlace} (ht : Tryd.prog.underlying t = some (.array n e)) (he : Tryd.prog.underlying e = some (.array n2 e2)) (he2 : Tryd.prog.underlying e2 = some (.int k)) (hce2 : Tryd.prog.cellsOf e2 = 1) (hce : Tryd.prog.cellsOf e = n2) (hz : zss.length = n) (hz2 : ∀ zs ∈ zss, zs.length = n2)
    (h : DataW.trod enc Tryd.prog w base sp held fuel t cs = some (.agg (zss.map fun zs => .agg (zs.map fun z => .lit (.int k z))), p)) : cs.length = Tryd.prog.cellsOf t ∧ ∀ i zs, zss[i]? = some zs → (cs.drop (i * n2)).take n2 = zs.map (Value.int k) := by
  obtain ⟨xs, m, rfl, hx, hl, hn, hel⟩ := DataW.trod_array ht h
  refine ⟨hl, fun i zs hi => ?_⟩
  obtain ⟨hlt, hzs⟩ := List.getElem?_eq_some_iff.1 hi
  have h0 := hel i (by omega)
  rw [hce, List.getElem?_eq_getElem (by omega)] at h0
  simp only [Prod.mk.injEq, DataW.agg.injEq] at hx
  have h3 := congrArg (fun l => l[i]?) hx.1
  simp only [List.getElem?_map, hi] at h3
  rw [List.getElem?_eq_getElem (show i < xs.length by omega)] at h3
  simp only [Option.map_some, Option.some.injEq] at h3
  refine ints_of_trod (p := xs[i].2) he he2 hce2 hce (hz2 zs (List.mem_of_getElem? hi)) (h0.trans ?_)
  rw [h3]
end

theorem c3 : Tryd.prog.cellsOf 3 = 1 := by kernel_rfl
theorem c31 : Tryd.prog.cellsOf 31 = 1 := by kernel_rfl
theorem c45 : Tryd.prog.cellsOf 45 = 4 := by kernel_rfl
theorem c47 : Tryd.prog.cellsOf 47 = 4 := by kernel_rfl
theorem c48 : Tryd.prog.cellsOf 48 = 32 := by kernel_rfl
theorem c58 : Tryd.prog.cellsOf 58 = 2 := by kernel_rfl
theorem c59 : Tryd.prog.cellsOf 59 = 4 := by kernel_rfl

theorem list32 {cs : List Value} (hl : cs.length = 32) (h0 : (cs.drop (0 * 4)).take 4 = [.int .i64 0, .int .i64 4, .int .i64 8, .int .i64 12]) (h1 : (cs.drop (1 * 4)).take 4 = [.int .i64 1, .int .i64 5, .int .i64 9, .int .i64 13]) (h2 : (cs.drop (2 * 4)).take 4 = [.int .i64 2, .int .i64 6, .int .i64 10, .int .i64 14]) (h3 : (cs.drop (3 * 4)).take 4 = [.int .i64 3, .int .i64 7, .int .i64 11, .int .i64 15]) (h4 : (cs.drop (4 * 4)).take 4 = [.int .i64 0, .int .i64 5, .int .i64 10, .int .i64 15]) (h5 : (cs.drop (5 * 4)).take 4 = [.int .i64 1, .int .i64 6, .int .i64 11, .int .i64 12]) (h6 : (cs.drop (6 * 4)).take 4 = [.int .i64 2, .int .i64 7, .int .i64 8, .int .i64 13]) (h7 : (cs.drop (7 * 4)).take 4 = [.int .i64 3, .int .i64 4, .int .i64 9, .int .i64 14]) : cs = quartersC.toList := by
  match cs, hl with
  | [c0, c1, c2, c3, c4, c5, c6, c7, c8, c9, c10, c11, c12, c13, c14, c15, c16, c17, c18, c19, c20, c21, c22, c23, c24, c25, c26, c27, c28, c29, c30, c31], _ =>
    simp only [Nat.zero_mul, Nat.one_mul, Nat.reduceMul, List.drop_succ_cons, List.drop_zero, List.take_succ_cons, List.take_zero, List.cons.injEq] at h0 h1 h2 h3 h4 h5 h6 h7
    simp only [quartersC]
    simp_all
theorem list4 {cs : List Value} (hl : cs.length = 4) (h0 : (cs.drop (0 * 2)).take 2 = [.int .i64 16, .int .i64 12]) (h1 : (cs.drop (1 * 2)).take 2 = [.int .i64 8, .int .i64 7]) : cs = turnsC.toList := by
  match cs, hl with
  | [c0, c1, c2, c3], _ =>
    simp only [Nat.zero_mul, Nat.one_mul, List.drop_succ_cons, List.drop_zero, List.take_succ_cons, List.take_zero, List.cons.injEq] at h0 h1
    simp only [turnsC]
    simp_all

/-- WHAT THE CONDITION GIVES THE WALKS: the three variables' cells. -/
theorem vars_of_laid {W : World} (h : laidMetH Tryd.prog laidV W) : ∃ T, Vars T W := by
  rw [MakeChecks.laidMetH_plain _ _ _ (by kernel_rfl)] at h
  obtain ⟨ps, ⟨g0, t0, cs0, f0, p0, q0, hg0, ht0, hv0, hd0, ⟨g1, t1, cs1, f1, p1, q1, hg1, ht1, hv1, hd1, ⟨g2, t2, cs2, f2, p2, q2, hg2, ht2, hv2, hd2, hq2, hp2⟩, hp1⟩, hp0⟩, hnd, hfz⟩ := h
  obtain rfl := Option.some.inj (gn0.symm.trans hg0)
  obtain rfl := Option.some.inj (gn1.symm.trans hg1)
  obtain rfl := Option.some.inj (gn2.symm.trans hg2)
  obtain rfl := Option.some.inj (gt0.symm.trans ht0)
  obtain rfl := Option.some.inj (gt1.symm.trans ht1)
  obtain rfl := Option.some.inj (gt2.symm.trans ht2)
  have e0 : cs0 = beginsC := by
    have := ints_of_trod (zs := [1634760805, 857760878, 2036477234, 1797285236]) Tryd.underlying45 Tryd.underlying31 c31 c45 rfl hd0
    exact Array.toList_inj.1 this
  have e1 : cs1 = quartersC := by
    obtain ⟨hl, hs⟩ := parts_of_trod (zss := [[0, 4, 8, 12], [1, 5, 9, 13], [2, 6, 10, 14], [3, 7, 11, 15], [0, 5, 10, 15], [1, 6, 11, 12], [2, 7, 8, 13], [3, 4, 9, 14]]) Tryd.underlying48 Tryd.underlying47 Tryd.underlying3 c3 c47 rfl (by decide) hd1
    rw [c48] at hl
    exact Array.toList_inj.1 (list32 hl (hs 0 _ rfl) (hs 1 _ rfl) (hs 2 _ rfl) (hs 3 _ rfl) (hs 4 _ rfl) (hs 5 _ rfl) (hs 6 _ rfl) (hs 7 _ rfl))
  have e2 : cs2 = turnsC := by
    obtain ⟨hl, hs⟩ := parts_of_trod (zss := [[16, 12], [8, 7]]) Tryd.underlying59 Tryd.underlying58 Tryd.underlying3 c3 c58 rfl (by decide) hd2
    rw [c59] at hl
    exact Array.toList_inj.1 (list4 hl (hs 0 _ rfl) (hs 1 _ rfl))
  subst e0; subst e1; subst e2
  have cell : ∀ {nm : String} {g : Nat} {cs : Array Value}, Tryd.prog.globalNamed nm = some g → W.var? Tryd.prog nm = some cs → MemPlace.cell g 0 ∈ ps → ∃ t, W.heap[g]? = some (.cells cs t (0, 0)) := by
    intro nm g cs hg hv hm
    obtain ⟨⟨c, t, hh⟩, _⟩ := hfz g 0 hm
    unfold World.var? at hv
    rw [hg] at hv
    simp only [Option.bind_some, hh, Option.some.injEq] at hv
    subst hv
    exact ⟨t, hh⟩
  have m0 : MemPlace.cell 0 0 ∈ ps := by rw [hp0]; simp [MemPlace.row, beginsC]
  have m1 : MemPlace.cell 1 0 ∈ ps := by rw [hp0, hp1]; simp [MemPlace.row, quartersC]
  have m2 : MemPlace.cell 2 0 ∈ ps := by rw [hp0, hp1, hp2]; simp [MemPlace.row, turnsC]
  obtain ⟨t0, k0⟩ := cell gn0 hv0 m0
  obtain ⟨t1, k1⟩ := cell gn1 hv1 m1
  obtain ⟨t2, k2⟩ := cell gn2 hv2 m2
  exact ⟨(t0, t1, t2), k0, k1, k2⟩

/-- Bytes of a parameter that is an array. -/
theorem bytes_of_trod {H : Type} {enc : TypeId × Value → H} {w : World} {base : Nat} {sp : Nat → Bool} {held : Bool} {t e n : Nat} {v : Value} {d : DataW H} {p : List MemPlace} (hn : n ≠ 1) (ht : Tryd.prog.underlying t = some (.array n e)) (he : Tryd.prog.underlying e = some (.int .u8)) (hce : Tryd.prog.cellsOf e = 1) (hct : Tryd.prog.cellsOf t = n)
    (h : DataW.Trod enc Tryd.prog w base sp held t v d p) : ∃ xs : Array Value, v = .agg xs ∧ Bytes xs n := by
  obtain ⟨fuel, h⟩ := h
  obtain ⟨xs, m, rfl, hx, hl, hnn, hel⟩ := DataW.trod_array ht h
  rw [hct] at hl
  have hv : ∃ ys : Array Value, v = .agg ys := by
    cases v <;> first | exact ⟨_, rfl⟩ | (simp [Value.cells] at hl; omega)
  obtain ⟨ys, rfl⟩ := hv
  refine ⟨ys, rfl, by simpa [Value.cells] using hl, fun i hi => ?_⟩
  have h0 := hel i hi
  rw [hce, Nat.mul_one, List.getElem?_eq_getElem (by omega)] at h0
  obtain ⟨z, e1, e2, e3⟩ := DataW.trod_int he h0
  have h4 := congrArg (fun l => l[0]?) e1
  simp only [List.getElem?_take_of_lt (show 0 < 1 by omega), List.getElem?_drop, Nat.add_zero, List.getElem?_cons_zero] at h4
  have h5 : ys[i]? = some (.int .u8 z) := by simpa [Value.cells] using h4
  have h6 : byte ys i = z := by unfold byte; rw [h5]
  have h7 := bounds_u8 e3
  rw [h6]
  exact ⟨h5, by omega, by omega⟩
def IsRow (k : IntKind) (w : World) (a : Option Addr) (len cap : Nat) (zs : List Int) : Prop :=
  (a = none ∧ len = 0 ∧ cap = 0 ∧ zs = []) ∨
  ∃ x, a = some x ∧ len ≤ cap ∧ cap ≤ maxLen ∧ zs.length = cap ∧ (∀ i, i < zs.length → w.cell? (x.add i) = some (.int k (zs.getD i 0))) ∧ ∀ n ∈ zs, (Lit.int k n).wf = true
/-- A slice of bytes that came in. -/
theorem bytes_of_row {w : World} {a : Option Addr} {len cap : Nat} {zs : List Int} (h : IsRow .u8 w a len cap zs) :
    ∃ xs : List Int, len = xs.length ∧ Go.Proofs.YtlpfmehcghhdcaaDoorW.PrintWords.Kd.C (Go.Proofs.YtlpfmehcghhdcaaDoorW.PrintWords.Kd.int .u8) w a xs.length xs ∧ xs.length ≤ cap ∧ ∀ x ∈ xs, 0 ≤ x ∧ x ≤ 255 := by
  rcases h with ⟨rfl, rfl, rfl, rfl⟩ | ⟨x, rfl, hl, hm, hz, hc, hw⟩
  · exact ⟨[], rfl, Go.Proofs.YtlpfmehcghhdcaaDoorW.PrintWords.Kd.C_nil _ _, Nat.le_refl _, fun x hx => by simp at hx⟩
  · have e : (zs.take len).length = len := by simp; omega
    refine ⟨zs.take len, e.symm, ⟨rfl, Nat.le_trans (by rw [e]; exact Nat.le_trans hl hm) (show maxLen ≤ 9223372036854775807 by decide), fun _ => ⟨x, rfl, fun j p hj => ⟨[.int .u8 p], rfl, rfl, fun i u hu => ?_⟩⟩⟩, by omega, fun y hy => ?_⟩
    · rcases i with _ | i
      · obtain rfl : Value.int .u8 p = u := by simpa using hu
        show w.cell? (x.add (j * 1 + 0)) = _
        rw [List.getElem?_take] at hj
        split at hj
        · obtain ⟨hlt, hp⟩ := List.getElem?_eq_some_iff.1 hj
          rw [show j * 1 + 0 = j by omega, hc j hlt, List.getD_eq_getElem?_getD, List.getElem?_eq_getElem hlt, hp]; rfl
        · cases hj
      · simp at hu
    · have := bounds_u8 (hw y (List.mem_of_mem_take hy)); omega
end Go.Proofs.YtlpfmehcghhdcaaDoor
