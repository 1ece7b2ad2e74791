/- The walk of ReplayFull: as many are remembered as there is room for. -/
import Derived.Test.YthlpbihkbafgbaaP12
namespace Go.Proofs.Ythlpbihkbafgbaa.RB
open Go Go.Maps Go.RowKit Go.BigFrame Go.Proofs.YthlpbihkbafgbaaW.PrintWords Go.Proofs.YthlpbihkbafgbaaW.PrintLast Go.Proofs.YthlpbihkbafgbaaW.PrintMore
set_option linter.unusedVariables false
set_option linter.unusedSimpArgs false

theorem i64_and65535 (n : Int) : bits .and .i64 n 65535 = n % 65536 := by
  have h : bits .and .i64 n 65535 = IntKind.i64.wrap ((BitVec.ofInt 64 n &&& 65535#64).toNat : Int) := rfl
  rw [h]
  have h2 : (BitVec.ofInt 64 n &&& 65535#64).toNat = (n % 65536).toNat := by
    rw [BitVec.toNat_and, BitVec.toNat_ofInt]
    have e : (65535#64).toNat = 2 ^ 16 - 1 := rfl
    rw [e, Nat.and_two_pow_sub_one_eq_mod]
    omega
  rw [h2, IntKind.wrap_i64]
  omega
def fullS (e : Int) (m k : Nat) : List Ent := (List.range (min k m)).map fun (j : Nat) => (e, tg (j : Int) 5)
theorem full_mem {e : Int} {m k : Nat} (i : Nat) : (e, tg (i : Int) 5) ∈ fullS e m k ↔ i < k ∧ i < m := by
  unfold fullS
  rw [List.mem_map]
  constructor
  · rintro ⟨j, hj, h⟩
    injection h with _ h
    injection h with h
    have := List.mem_range.1 hj
    omega
  · intro h
    exact ⟨i, List.mem_range.2 (by omega), rfl⟩
theorem full_cnt (e : Int) (m k : Nat) : cnt (fullS e m k) e = min k m := by
  unfold cnt fullS
  rw [List.filter_eq_self.2]
  · simp
  · intro p hp
    obtain ⟨j, _, rfl⟩ := List.mem_map.1 hp
    simp
theorem full_addC {e : Int} (he : OkE e) {m k : Nat} : addC (m : Int) 0 (fullS e m k) e (tg (k : Int) 5) = if k < m then 0 else 8 := by
  by_cases h : k < m
  · rw [if_pos h]
    refine addC_ok he.1 (fun hm => ?_) (by rw [full_cnt]; omega)
    have := (full_mem k).1 hm
    omega
  · rw [if_neg h]
    refine addC_full he.1 (fun hm => ?_) (by rw [full_cnt]; omega)
    have := (full_mem k).1 hm
    omega
theorem full_addS {e : Int} (he : OkE e) {m k : Nat} : addS (m : Int) 0 (fullS e m k) e (tg (k : Int) 5) = fullS e m (k + 1) := by
  unfold addS
  rw [full_addC he]
  unfold fullS
  by_cases h : k < m
  · rw [if_pos (by rw [if_pos h])]
    have e1 : min (k + 1) m = k + 1 := by omega
    have e2 : min k m = k := by omega
    rw [e1, e2, List.range_succ, List.map_append]; rfl
  · rw [if_neg (by rw [if_neg h]; decide)]
    have e1 : min (k + 1) m = min k m := by omega
    rw [e1]
theorem full_zero (e : Int) (m : Nat) : fullS e m 0 = [] := by simp [fullS]
set_option maxHeartbeats 4000000 in
set_option maxRecDepth 100000 in
theorem full_any (w : World) (x y e : Int) (hx : (Lit.int .i64 x).wf = true) (hy : (Lit.int .i64 y).wf = true) (he : OkE e) : Calls Try.prog 7 #[.int .i64 x, .int .i64 y, .int .u32 e] w fun e_ w' => e_ = .returned (.bool true) ∧ Below w.heap.size w w' := by
  have hx1 := i64_and65535 x
  have hy1 := i64_and65535 y
  obtain ⟨m, hm⟩ : ∃ m : Nat, 1 + x % 65536 % 60 = (m : Int) := ⟨(1 + x % 65536 % 60).toNat, by omega⟩
  obtain ⟨n, hn⟩ : ∃ n : Nat, y % 65536 % 100 = (n : Int) := ⟨(y % 65536 % 100).toNat, by omega⟩
  have m1 : 1 ≤ (m : Int) ∧ (m : Int) ≤ 60 := by omega
  have n1 : 0 ≤ (n : Int) ∧ (n : Int) ≤ 99 := by omega
  have M1 := Aside0.mk m1
  have N1 := Aside0.mk n1
  go_enter Try.func7, Try.ntmps7
  go_wp2_with (first | (go_at_call 8; (with_reducible refine (shown_any w).mono ?_); rintro e_ w1 ⟨rfl, b1⟩; have B1 := Aside0.mk b1; clear b1) | (go_at_call 9; (with_reducible refine (new_at w1 w.heap.size B1.out.size (m : Int) (by omega)).mono ?_); rintro e_ w2 ⟨p, rfl, A2, F2⟩; have A2 : Aside0 (At w.heap.size w2 p 0 (m : Int) 0 (fullS e m 0)) := ⟨by rw [full_zero, ← Int.max_eq_left M1.out.1]; exact A2⟩; have F2 := Aside0.mk F2))
  go_loopw [9] (fun v wr => ∃ k : Nat, v = .int .i64 (k : Int) ∧ k ≤ n ∧ Aside0 (At w.heap.size wr p k (m : Int) 0 (fullS e m k)) ∧ Aside0 (Below w.heap.size w wr)) (fun v _ => n - (intOf v).toNat)
  case atStart => exact ⟨0, rfl, Nat.zero_le _, A2, ⟨B1.out.trans F2.out.be⟩⟩
  case round =>
    obtain ⟨k, rfl, hk, A3, B3⟩ := hrel
    by_cases hkn : k < n
    · by_cases hkm : k < m
      all_goals
        go_wp2_with (first | (go_at_call 11; (with_reducible refine (add_at (w := wr) A3.out e he (tg (k : Int) 5) (tg_ok _ _ (by have := N1.out; omega) (by omega)) (by have := N1.out; omega) (tagA_lit _ _) (full_addC he) (full_addS he)).mono ?_); rintro e_ w4 ⟨rfl, A4, F4⟩; have A4 := Aside0.mk A4; have F4 := Aside0.mk F4))
      all_goals exact ⟨⟨k + 1, by simp, by omega, A4, ⟨B3.out.trans F4.out.be⟩⟩, by simp only [intOf]; omega⟩
    obtain rfl : k = n := by omega
    obtain ⟨w10, rfl⟩ : ∃ x_ : World, x_ = wr := ⟨_, rfl⟩
    go_wp2_with fail
    go_loopw [11] (fun v wr => ∃ j : Nat, v = .int .i64 (j : Int) ∧ j ≤ k ∧ Aside0 (At w.heap.size wr p k (m : Int) 0 (fullS e m k)) ∧ Aside0 (Below w.heap.size w wr)) (fun v _ => k - (intOf v).toNat)
    case atStart => exact ⟨0, rfl, Nat.zero_le _, A3, B3⟩
    case round =>
      obtain ⟨j, rfl, hj, A5, B5⟩ := hrel
      by_cases hjk : j < k
      · by_cases hjm : j < m
        · have hh : Aside0 (decide ((e, tg (j : Int) 5) ∈ fullS e m k) = true) := ⟨decide_eq_true ((full_mem j).2 ⟨hjk, hjm⟩)⟩
          go_wp2_with (first | (go_at_call 15; (with_reducible refine (has_at (w := wr) A5.out e he (tg (j : Int) 5) (tg_ok _ _ (by have := N1.out; omega) (by omega)) (tagA_lit _ _) hh.out).mono ?_); rintro e_ w6 ⟨rfl, b6⟩; have B6 := Aside0.mk b6; clear b6))
          exact ⟨⟨j + 1, by simp, by omega, ⟨A5.out.below B6.out⟩, ⟨B5.out.trans (B6.out.mono A5.out.low)⟩⟩, by simp only [intOf]; omega⟩
        · have hh : Aside0 (decide ((e, tg (j : Int) 5) ∈ fullS e m k) = false) := ⟨decide_eq_false (fun h => hjm ((full_mem j).1 h).2)⟩
          go_wp2_with (first | (go_at_call 15; (with_reducible refine (has_at (w := wr) A5.out e he (tg (j : Int) 5) (tg_ok _ _ (by have := N1.out; omega) (by omega)) (tagA_lit _ _) hh.out).mono ?_); rintro e_ w6 ⟨rfl, b6⟩; have B6 := Aside0.mk b6; clear b6))
          exact ⟨⟨j + 1, by simp, by omega, ⟨A5.out.below B6.out⟩, ⟨B5.out.trans (B6.out.mono A5.out.low)⟩⟩, by simp only [intOf]; omega⟩
      · have hc := full_cnt e m k
        go_wp2_with (first | (go_at_call 17; (with_reducible refine (len_at (w := wr) A5.out e he (c := ((min k m : Nat) : Int)) (by rw [full_cnt])).mono ?_); rintro e_ w' ⟨rfl, hw'⟩; subst w'))
        all_goals
          go_ret
          refine ⟨?_, B5.out⟩
          have e1 : ((min k m : Nat) : Int) = (m : Int) ∨ ((min k m : Nat) : Int) = (k : Int) := by omega
          first
          | (have e2 : ((min k m : Nat) : Int) = (m : Int) := by omega
             show Ending.returned (.bool (((min k m : Nat) : Int) == (m : Int))) = _
             rw [e2, beq_self_eq_true])
          | (have e2 : ((min k m : Nat) : Int) = (k : Int) := by omega
             show Ending.returned (.bool (((min k m : Nat) : Int) == (k : Int))) = _
             rw [e2, beq_self_eq_true])
end Go.Proofs.Ythlpbihkbafgbaa.RB
