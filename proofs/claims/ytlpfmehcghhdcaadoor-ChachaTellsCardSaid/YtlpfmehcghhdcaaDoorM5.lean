/- A block: the Go code comes to the plain function 'blockL'; the key and the nonce are rows of bytes of their sizes; the program's three variables are as begun. -/
import Derived.Test.YtlpfmehcghhdcaaDoorM4
import Derived.Deep.WholeRow
namespace Go.Proofs.YtlpfmehcghhdcaaDoor.XB
open Go.RowKit Go.Proofs.YtlpfmehcghhdcaaDoorW.PrintWords Go.Proofs.YtlpfmehcghhdcaaDoorW.PrintLast Go.Proofs.YtlpfmehcghhdcaaDoorW.PrintMore PChachaTells
set_option linter.unusedVariables false
set_option linter.unusedSimpArgs false

def quartersC : Array Value := #[.int .i64 0, .int .i64 4, .int .i64 8, .int .i64 12, .int .i64 1, .int .i64 5, .int .i64 9, .int .i64 13, .int .i64 2, .int .i64 6, .int .i64 10, .int .i64 14, .int .i64 3, .int .i64 7, .int .i64 11, .int .i64 15, .int .i64 0, .int .i64 5, .int .i64 10, .int .i64 15, .int .i64 1, .int .i64 6, .int .i64 11, .int .i64 12, .int .i64 2, .int .i64 7, .int .i64 8, .int .i64 13, .int .i64 3, .int .i64 4, .int .i64 9, .int .i64 14]
def turnsC : Array Value := #[.int .i64 16, .int .i64 12, .int .i64 8, .int .i64 7]
structure Vars (T : Nat × Nat × Nat) (w : World) : Prop where
  g0 : w.heap[0]? = some (.cells beginsC T.1 (0, 0))
  g1 : w.heap[1]? = some (.cells quartersC T.2.1 (0, 0))
  g2 : w.heap[2]? = some (.cells turnsC T.2.2 (0, 0))
variable {T : Nat × Nat × Nat}
theorem Vars.size {w : World} (h : Vars T w) : 3 ≤ w.heap.size := blk_lt h.g2
theorem Vars.below {B : Nat} {w w' : World} (h : Vars T w) (b : Below B w w') (hB : 3 ≤ B) : Vars T w' :=
  ⟨(b.block 0 (by omega)).trans h.g0, (b.block 1 (by omega)).trans h.g1, (b.block 2 (by omega)).trans h.g2⟩

theorem sz_alloc (w : World) (o : Obj) : (w.alloc o).heap.size = w.heap.size + 1 := Go.Deep.nblk_alloc w o
theorem index_q : ∀ k : Nat, k < 8 → ∀ w, (Instr.index 48 (.agg quartersC) (.int .i64 (k : Int))).run Tryd.prog w = .ok (.agg #[.int .i64 (((qs k).1 : Nat) : Int), .int .i64 (((qs k).2.1 : Nat) : Int), .int .i64 (((qs k).2.2.1 : Nat) : Int), .int .i64 (((qs k).2.2.2 : Nat) : Int)]) w := by
  intro k hk w
  rcases k with _ | _ | _ | _ | _ | _ | _ | _ | k
  all_goals first | omega | kernel_rfl

theorem index_c (S : List Int) (hS : S.length = 16) (i : Nat) (hi : i < 16) (w : World) : (Instr.index 43 (.agg (toC S)) (.int .i64 (i : Int))).run Tryd.prog w = .ok (.int .u32 (S.getD i 0)) w := by
  obtain ⟨a0, a1, a2, a3, a4, a5, a6, a7, a8, a9, a10, a11, a12, a13, a14, a15, rfl⟩ : ∃ a0 a1 a2 a3 a4 a5 a6 a7 a8 a9 a10 a11 a12 a13 a14 a15, S = [a0, a1, a2, a3, a4, a5, a6, a7, a8, a9, a10, a11, a12, a13, a14, a15] := by
    match S, hS with
    | [a0, a1, a2, a3, a4, a5, a6, a7, a8, a9, a10, a11, a12, a13, a14, a15], _ => exact ⟨_, _, _, _, _, _, _, _, _, _, _, _, _, _, _, _, rfl⟩
  rcases i with _ | _ | _ | _ | _ | _ | _ | _ | _ | _ | _ | _ | _ | _ | _ | _ | i
  all_goals first | omega | kernel_rfl

/-- The first n bytes told lie in their block. -/
def OutRel (ob : Nat) (F S : List Int) (n : Nat) (w w' : World) : Prop :=
  ∃ O : Array Value, w'.heap[ob]? = some (.cells O 29 (0, 0)) ∧ O.size = 64 ∧ (∀ j, j < n → O[j]? = some (.int .u8 (outN F S j))) ∧ Fr ob w w'
theorem OutRel.other {ob : Nat} {F S : List Int} {n : Nat} {w w' : World} (h : OutRel ob F S n w w') (g : Nat) (hg : g < w.heap.size) (hne : g ≠ ob) {o : Obj} (ho : w.heap[g]? = some o) : w'.heap[g]? = some o := by
  obtain ⟨O, _, _, _, fr⟩ := h
  exact (fr.block g hg hne).trans ho

theorem OutRel.at {ob : Nat} {F S : List Int} {n : Nat} {w w' : World} (h : OutRel ob F S n w w') (m : Nat) (hm : m < 64) : w'.frozen? ⟨ob, m, none⟩ = false ∧ ∃ ov, w'.cell? ⟨ob, m, none⟩ = some ov := by
  obtain ⟨O, ho, hz, _, _⟩ := h
  exact ⟨blk_frozen ho _, _, (blk_cell ho _).trans (Array.getElem?_eq_getElem (by omega))⟩
theorem outRel_step {ob : Nat} {F S : List Int} {m : Nat} {w v : World} (h : OutRel ob F S m w v) (hm : m < 64) : OutRel ob F S (m + 1) w (v.setCell ⟨ob, m, none⟩ (.int .u8 (outN F S m))) := by
  obtain ⟨O, ho, hz, he, fr⟩ := h
  refine ⟨_, blk_put ho m _ rfl, by simpa using hz, fun j hj => ?_, fr.set _ _⟩
  by_cases hjm : j = m
  · subst hjm; simp [Array.getElem?_setIfInBounds, hz, hm]
  · rw [set_other (by omega)]; exact he j (by omega)
theorem OutRel.whole {ob : Nat} {F S : List Int} {w w' : World} (h : OutRel ob F S (4 * 16) w w') : w'.heap[ob]? = some (.cells (toB (outL F S)) 29 (0, 0)) := by
  obtain ⟨O, ho, hz, he, _⟩ := h
  rw [ho, ext16 (n := 64) hz (by rw [toB_size]; simp [outL]) fun j hj => (he j (by omega)).trans (outL_get F S j hj).symm]
theorem OutRel.below {ob : Nat} {F S : List Int} {n : Nat} {w w' : World} (h : OutRel ob F S n w w') {B : Nat} (h1 : B ≤ ob) (h2 : B ≤ w.heap.size) : Below B w w' := by
  obtain ⟨O, _, _, _, fr⟩ := h
  exact fr.below h1 h2

theorem store_first (w6 : World) (K V : Array Value) (ctr : Int) : (storeCells ⟨w6.heap.size, 0, none⟩ (toC (firstL K ctr V)).toList).run Tryd.prog (w6.alloc (.cells #[.int .u32 0, .int .u32 0, .int .u32 0, .int .u32 0, .int .u32 0, .int .u32 0, .int .u32 0, .int .u32 0, .int .u32 0, .int .u32 0, .int .u32 0, .int .u32 0, .int .u32 0, .int .u32 0, .int .u32 0, .int .u32 0] 43)) = .ok () (w6.alloc (.cells (toC (firstL K ctr V)) 43)) :=
  run_storeCells_new (P := Tryd.prog) w6 43 #[.int .u32 0, .int .u32 0, .int .u32 0, .int .u32 0, .int .u32 0, .int .u32 0, .int .u32 0, .int .u32 0, .int .u32 0, .int .u32 0, .int .u32 0, .int .u32 0, .int .u32 0, .int .u32 0, .int .u32 0, .int .u32 0] (toC (firstL K ctr V)) (by kernel_rfl) (by kernel_rfl) (by kernel_rfl)

set_option maxHeartbeats 4000000 in
set_option maxRecDepth 100000 in
theorem block_any (K V : Array Value) (ctr : Int) (w : World) (hK : Bytes K 32) (hV : Bytes V 12) (hv : Vars T w) :
    Calls Tryd.prog 12 #[.agg K, .int .u32 ctr, .agg V] w fun e w' => e = .returned (.agg (toB (blockL K ctr V))) ∧ Below w.heap.size w w' := by
  have HG := Aside0.mk hv
  have KB := Aside0.mk hK
  have VB := Aside0.mk hV
  clear hv hK hV
  go_enter Tryd.func12, Tryd.ntmps12
  go_wp2_with fail
  obtain ⟨w1, hW⟩ : ∃ w_ : World, w_ = ((((w.alloc (.cells K 23)).alloc (.cells V 24)).alloc (.cells #[.int .u8 0, .int .u8 0, .int .u8 0, .int .u8 0, .int .u8 0, .int .u8 0, .int .u8 0, .int .u8 0, .int .u8 0, .int .u8 0, .int .u8 0, .int .u8 0, .int .u8 0, .int .u8 0, .int .u8 0, .int .u8 0, .int .u8 0, .int .u8 0, .int .u8 0, .int .u8 0, .int .u8 0, .int .u8 0, .int .u8 0, .int .u8 0, .int .u8 0, .int .u8 0, .int .u8 0, .int .u8 0, .int .u8 0, .int .u8 0, .int .u8 0, .int .u8 0, .int .u8 0, .int .u8 0, .int .u8 0, .int .u8 0, .int .u8 0, .int .u8 0, .int .u8 0, .int .u8 0, .int .u8 0, .int .u8 0, .int .u8 0, .int .u8 0, .int .u8 0, .int .u8 0, .int .u8 0, .int .u8 0, .int .u8 0, .int .u8 0, .int .u8 0, .int .u8 0, .int .u8 0, .int .u8 0, .int .u8 0, .int .u8 0, .int .u8 0, .int .u8 0, .int .u8 0, .int .u8 0, .int .u8 0, .int .u8 0, .int .u8 0, .int .u8 0] 29)).alloc (.cells #[.int .u32 0, .int .u32 0, .int .u32 0, .int .u32 0, .int .u32 0, .int .u32 0, .int .u32 0, .int .u32 0, .int .u32 0, .int .u32 0, .int .u32 0, .int .u32 0, .int .u32 0, .int .u32 0, .int .u32 0, .int .u32 0] 43)) := ⟨_, rfl⟩
  rw [← hW]
  have BE : Aside0 (Below w.heap.size w w1) := ⟨by rw [hW]; exact Below.alloc (Below.alloc (Below.alloc (Below.alloc (Below.refl _ _) (Nat.le_refl _) _) (by simp only [sz_alloc]; omega) _) (by simp only [sz_alloc]; omega) _) (by simp only [sz_alloc]; omega) _⟩
  have HK : Aside0 (w1.heap[w.heap.size]? = some (.cells K 23 (0, 0))) := ⟨by rw [hW]; exact blk_alloc (blk_alloc (blk_alloc (blk_new _ _) _) _) _⟩
  have HV : Aside0 (w1.heap[w.heap.size + 1]? = some (.cells V 24 (0, 0))) := ⟨by rw [hW]; have := blk_alloc (blk_alloc (blk_new (w.alloc (.cells K 23)) (.cells V 24)) (.cells #[.int .u8 0, .int .u8 0, .int .u8 0, .int .u8 0, .int .u8 0, .int .u8 0, .int .u8 0, .int .u8 0, .int .u8 0, .int .u8 0, .int .u8 0, .int .u8 0, .int .u8 0, .int .u8 0, .int .u8 0, .int .u8 0, .int .u8 0, .int .u8 0, .int .u8 0, .int .u8 0, .int .u8 0, .int .u8 0, .int .u8 0, .int .u8 0, .int .u8 0, .int .u8 0, .int .u8 0, .int .u8 0, .int .u8 0, .int .u8 0, .int .u8 0, .int .u8 0, .int .u8 0, .int .u8 0, .int .u8 0, .int .u8 0, .int .u8 0, .int .u8 0, .int .u8 0, .int .u8 0, .int .u8 0, .int .u8 0, .int .u8 0, .int .u8 0, .int .u8 0, .int .u8 0, .int .u8 0, .int .u8 0, .int .u8 0, .int .u8 0, .int .u8 0, .int .u8 0, .int .u8 0, .int .u8 0, .int .u8 0, .int .u8 0, .int .u8 0, .int .u8 0, .int .u8 0, .int .u8 0, .int .u8 0, .int .u8 0, .int .u8 0, .int .u8 0] 29)) (.cells #[.int .u32 0, .int .u32 0, .int .u32 0, .int .u32 0, .int .u32 0, .int .u32 0, .int .u32 0, .int .u32 0, .int .u32 0, .int .u32 0, .int .u32 0, .int .u32 0, .int .u32 0, .int .u32 0, .int .u32 0, .int .u32 0] 43); simp only [sz_alloc] at this; exact this⟩
  have HO : Aside0 (w1.heap[w.heap.size + 1 + 1]? = some (.cells #[.int .u8 0, .int .u8 0, .int .u8 0, .int .u8 0, .int .u8 0, .int .u8 0, .int .u8 0, .int .u8 0, .int .u8 0, .int .u8 0, .int .u8 0, .int .u8 0, .int .u8 0, .int .u8 0, .int .u8 0, .int .u8 0, .int .u8 0, .int .u8 0, .int .u8 0, .int .u8 0, .int .u8 0, .int .u8 0, .int .u8 0, .int .u8 0, .int .u8 0, .int .u8 0, .int .u8 0, .int .u8 0, .int .u8 0, .int .u8 0, .int .u8 0, .int .u8 0, .int .u8 0, .int .u8 0, .int .u8 0, .int .u8 0, .int .u8 0, .int .u8 0, .int .u8 0, .int .u8 0, .int .u8 0, .int .u8 0, .int .u8 0, .int .u8 0, .int .u8 0, .int .u8 0, .int .u8 0, .int .u8 0, .int .u8 0, .int .u8 0, .int .u8 0, .int .u8 0, .int .u8 0, .int .u8 0, .int .u8 0, .int .u8 0, .int .u8 0, .int .u8 0, .int .u8 0, .int .u8 0, .int .u8 0, .int .u8 0, .int .u8 0, .int .u8 0] 29 (0, 0))) := ⟨by rw [hW]; have := blk_alloc (blk_new ((w.alloc (.cells K 23)).alloc (.cells V 24)) (.cells #[.int .u8 0, .int .u8 0, .int .u8 0, .int .u8 0, .int .u8 0, .int .u8 0, .int .u8 0, .int .u8 0, .int .u8 0, .int .u8 0, .int .u8 0, .int .u8 0, .int .u8 0, .int .u8 0, .int .u8 0, .int .u8 0, .int .u8 0, .int .u8 0, .int .u8 0, .int .u8 0, .int .u8 0, .int .u8 0, .int .u8 0, .int .u8 0, .int .u8 0, .int .u8 0, .int .u8 0, .int .u8 0, .int .u8 0, .int .u8 0, .int .u8 0, .int .u8 0, .int .u8 0, .int .u8 0, .int .u8 0, .int .u8 0, .int .u8 0, .int .u8 0, .int .u8 0, .int .u8 0, .int .u8 0, .int .u8 0, .int .u8 0, .int .u8 0, .int .u8 0, .int .u8 0, .int .u8 0, .int .u8 0, .int .u8 0, .int .u8 0, .int .u8 0, .int .u8 0, .int .u8 0, .int .u8 0, .int .u8 0, .int .u8 0, .int .u8 0, .int .u8 0, .int .u8 0, .int .u8 0, .int .u8 0, .int .u8 0, .int .u8 0, .int .u8 0] 29)) (.cells #[.int .u32 0, .int .u32 0, .int .u32 0, .int .u32 0, .int .u32 0, .int .u32 0, .int .u32 0, .int .u32 0, .int .u32 0, .int .u32 0, .int .u32 0, .int .u32 0, .int .u32 0, .int .u32 0, .int .u32 0, .int .u32 0] 43); simp only [sz_alloc] at this; exact this⟩
  have H0 : Aside0 (w1.heap[w.heap.size + 1 + 1 + 1]? = some (.cells #[.int .u32 0, .int .u32 0, .int .u32 0, .int .u32 0, .int .u32 0, .int .u32 0, .int .u32 0, .int .u32 0, .int .u32 0, .int .u32 0, .int .u32 0, .int .u32 0, .int .u32 0, .int .u32 0, .int .u32 0, .int .u32 0] 43 (0, 0))) := ⟨by rw [hW]; have := (blk_new (((w.alloc (.cells K 23)).alloc (.cells V 24)).alloc (.cells #[.int .u8 0, .int .u8 0, .int .u8 0, .int .u8 0, .int .u8 0, .int .u8 0, .int .u8 0, .int .u8 0, .int .u8 0, .int .u8 0, .int .u8 0, .int .u8 0, .int .u8 0, .int .u8 0, .int .u8 0, .int .u8 0, .int .u8 0, .int .u8 0, .int .u8 0, .int .u8 0, .int .u8 0, .int .u8 0, .int .u8 0, .int .u8 0, .int .u8 0, .int .u8 0, .int .u8 0, .int .u8 0, .int .u8 0, .int .u8 0, .int .u8 0, .int .u8 0, .int .u8 0, .int .u8 0, .int .u8 0, .int .u8 0, .int .u8 0, .int .u8 0, .int .u8 0, .int .u8 0, .int .u8 0, .int .u8 0, .int .u8 0, .int .u8 0, .int .u8 0, .int .u8 0, .int .u8 0, .int .u8 0, .int .u8 0, .int .u8 0, .int .u8 0, .int .u8 0, .int .u8 0, .int .u8 0, .int .u8 0, .int .u8 0, .int .u8 0, .int .u8 0, .int .u8 0, .int .u8 0, .int .u8 0, .int .u8 0, .int .u8 0, .int .u8 0] 29)) (.cells #[.int .u32 0, .int .u32 0, .int .u32 0, .int .u32 0, .int .u32 0, .int .u32 0, .int .u32 0, .int .u32 0, .int .u32 0, .int .u32 0, .int .u32 0, .int .u32 0, .int .u32 0, .int .u32 0, .int .u32 0, .int .u32 0] 43)); simp only [sz_alloc] at this; exact this⟩
  have GB : Aside0 (w.heap.size ≤ w.heap.size + 1 + 1 + 1) := ⟨by omega⟩
  have GO : Aside0 (w.heap.size ≤ w.heap.size + 1 + 1) := ⟨by omega⟩
  clear hW
  have H3 := Aside0.mk (HG.out.size)
  have VA : Aside0 (Vars T w1) := ⟨HG.out.below BE.out H3.out⟩
  generalize w.heap.size + 1 + 1 + 1 = b0 at H0 GB ⊢
  generalize w.heap.size + 1 + 1 = ob at HO GO ⊢
  generalize w.heap.size + 1 = nb at HV ⊢
  generalize hkb : w.heap.size = kb at HK ⊢
  have Nk : kb ≠ b0 := blk_ne HK.out H0.out (by decide)
  have Nn : nb ≠ b0 := blk_ne HV.out H0.out (by decide)
  have No : ob ≠ b0 := blk_ne HO.out H0.out (by decide)
  refine wp_region_still_tail 2 (by kernel_rfl) (by kernel_rfl) ?_
  simp only [List.take_succ_cons, List.take_zero, List.drop_succ_cons, List.drop_zero]
  iterate 2 still_step
  refine wpStill_nil ?_
  change wpList _ _ _ _ _ w1.drew
  obtain ⟨w2, hW⟩ : ∃ w_ : World, w_ = w1.drew := ⟨_, rfl⟩
  rw [← hW]
  have BE2 : Aside0 (Below w.heap.size w w2) := ⟨by rw [hW]; exact below_drew1 BE.out⟩
  have HK2 : Aside0 (w2.heap[kb]? = some (.cells K 23 (0, 0))) := ⟨by rw [hW]; exact HK.out⟩
  have HV2 : Aside0 (w2.heap[nb]? = some (.cells V 24 (0, 0))) := ⟨by rw [hW]; exact HV.out⟩
  have HO2 : Aside0 (w2.heap[ob]? = some (.cells #[.int .u8 0, .int .u8 0, .int .u8 0, .int .u8 0, .int .u8 0, .int .u8 0, .int .u8 0, .int .u8 0, .int .u8 0, .int .u8 0, .int .u8 0, .int .u8 0, .int .u8 0, .int .u8 0, .int .u8 0, .int .u8 0, .int .u8 0, .int .u8 0, .int .u8 0, .int .u8 0, .int .u8 0, .int .u8 0, .int .u8 0, .int .u8 0, .int .u8 0, .int .u8 0, .int .u8 0, .int .u8 0, .int .u8 0, .int .u8 0, .int .u8 0, .int .u8 0, .int .u8 0, .int .u8 0, .int .u8 0, .int .u8 0, .int .u8 0, .int .u8 0, .int .u8 0, .int .u8 0, .int .u8 0, .int .u8 0, .int .u8 0, .int .u8 0, .int .u8 0, .int .u8 0, .int .u8 0, .int .u8 0, .int .u8 0, .int .u8 0, .int .u8 0, .int .u8 0, .int .u8 0, .int .u8 0, .int .u8 0, .int .u8 0, .int .u8 0, .int .u8 0, .int .u8 0, .int .u8 0, .int .u8 0, .int .u8 0, .int .u8 0, .int .u8 0] 29 (0, 0))) := ⟨by rw [hW]; exact HO.out⟩
  have H02 : Aside0 (w2.heap[b0]? = some (.cells #[.int .u32 0, .int .u32 0, .int .u32 0, .int .u32 0, .int .u32 0, .int .u32 0, .int .u32 0, .int .u32 0, .int .u32 0, .int .u32 0, .int .u32 0, .int .u32 0, .int .u32 0, .int .u32 0, .int .u32 0, .int .u32 0] 43 (0, 0))) := ⟨by rw [hW]; exact H0.out⟩
  have VA2 : Aside0 (Vars T w2) := ⟨by rw [hW]; exact ⟨VA.out.g0, VA.out.g1, VA.out.g2⟩⟩
  clear hW HK HV HO H0 VA BE
  refine wpList_copy_own rfl (.tmp 14) (.tmp 15) 44 44 rfl 31 Tryd.underlying44 (by kernel_rfl) b0 0 16 16 ⟨0, 0, none⟩ 4 4 rfl rfl #[.int .u32 0, .int .u32 0, .int .u32 0, .int .u32 0, .int .u32 0, .int .u32 0, .int .u32 0, .int .u32 0, .int .u32 0, .int .u32 0, .int .u32 0, .int .u32 0, .int .u32 0, .int .u32 0, .int .u32 0, .int .u32 0] 43 H02.out beginsC.toList rfl (fun j v h => by
    have e : (⟨0, 0, none⟩ : Addr).add j = ⟨0, j, none⟩ := by unfold Addr.add; split <;> simp_all
    rw [e, blk_cell VA2.out.g0]; simpa using h) (by decide) (by decide) ?_
  obtain ⟨w3, hW⟩ : ∃ w_ : World, w_ = w2.setRow b0 (Array.toList #[.int .u32 0, .int .u32 0, .int .u32 0, .int .u32 0, .int .u32 0, .int .u32 0, .int .u32 0, .int .u32 0, .int .u32 0, .int .u32 0, .int .u32 0, .int .u32 0, .int .u32 0, .int .u32 0, .int .u32 0, .int .u32 0] |>.take 0 |>.append (beginsC.toList ++ (Array.toList #[.int .u32 0, .int .u32 0, .int .u32 0, .int .u32 0, .int .u32 0, .int .u32 0, .int .u32 0, .int .u32 0, .int .u32 0, .int .u32 0, .int .u32 0, .int .u32 0, .int .u32 0, .int .u32 0, .int .u32 0, .int .u32 0]).drop (0 + beginsC.toList.length))).toArray := ⟨_, rfl⟩
  change wpList _ _ _ _ _ (w2.setRow b0 (Array.toList #[.int .u32 0, .int .u32 0, .int .u32 0, .int .u32 0, .int .u32 0, .int .u32 0, .int .u32 0, .int .u32 0, .int .u32 0, .int .u32 0, .int .u32 0, .int .u32 0, .int .u32 0, .int .u32 0, .int .u32 0, .int .u32 0] |>.take 0 |>.append (beginsC.toList ++ (Array.toList #[.int .u32 0, .int .u32 0, .int .u32 0, .int .u32 0, .int .u32 0, .int .u32 0, .int .u32 0, .int .u32 0, .int .u32 0, .int .u32 0, .int .u32 0, .int .u32 0, .int .u32 0, .int .u32 0, .int .u32 0, .int .u32 0]).drop (0 + beginsC.toList.length))).toArray)
  rw [← hW]
  have BE3 : Aside0 (Below w.heap.size w w3) := ⟨by rw [hW]; exact below_setRow BE2.out GB.out _⟩
  have HK3 : Aside0 (w3.heap[kb]? = some (.cells K 23 (0, 0))) := ⟨by rw [hW]; exact (setRow_other _ _ _ _ Nk).trans HK2.out⟩
  have HV3 : Aside0 (w3.heap[nb]? = some (.cells V 24 (0, 0))) := ⟨by rw [hW]; exact (setRow_other _ _ _ _ Nn).trans HV2.out⟩
  have HO3 : Aside0 (w3.heap[ob]? = some (.cells #[.int .u8 0, .int .u8 0, .int .u8 0, .int .u8 0, .int .u8 0, .int .u8 0, .int .u8 0, .int .u8 0, .int .u8 0, .int .u8 0, .int .u8 0, .int .u8 0, .int .u8 0, .int .u8 0, .int .u8 0, .int .u8 0, .int .u8 0, .int .u8 0, .int .u8 0, .int .u8 0, .int .u8 0, .int .u8 0, .int .u8 0, .int .u8 0, .int .u8 0, .int .u8 0, .int .u8 0, .int .u8 0, .int .u8 0, .int .u8 0, .int .u8 0, .int .u8 0, .int .u8 0, .int .u8 0, .int .u8 0, .int .u8 0, .int .u8 0, .int .u8 0, .int .u8 0, .int .u8 0, .int .u8 0, .int .u8 0, .int .u8 0, .int .u8 0, .int .u8 0, .int .u8 0, .int .u8 0, .int .u8 0, .int .u8 0, .int .u8 0, .int .u8 0, .int .u8 0, .int .u8 0, .int .u8 0, .int .u8 0, .int .u8 0, .int .u8 0, .int .u8 0, .int .u8 0, .int .u8 0, .int .u8 0, .int .u8 0, .int .u8 0, .int .u8 0] 29 (0, 0))) := ⟨by rw [hW]; exact (setRow_other _ _ _ _ No).trans HO2.out⟩
  have H03 : Aside0 (w3.heap[b0]? = some (.cells zerosC 43 (0, 0))) := ⟨by rw [hW]; exact (setRow_heap _ _ _ _ 43 (0, 0) H02.out)⟩
  clear hW HK2 HV2 HO2 H02 VA2 BE2
  go_wp2_with (go_at_call 17; (with_reducible refine (load8 b0 kb 23 zerosC K _ H03.out rfl HK3.out Nk KB.out).mono ?_); rintro e w4 ⟨rfl, C8, h8, z8, e8, o8, f8⟩; have h8 := Aside0.mk h8; have z8 := Aside0.mk z8; have e8 := Aside0.mk e8; have o8 := Aside0.mk o8; have f8 := Aside0.mk f8; have fs : w4.frozen? ⟨b0, 12, none⟩ = false := blk_frozen h8.out _; have cs : w4.cell? ⟨b0, 12, none⟩ = some (.int .u32 0) := (blk_cell h8.out 12).trans ((o8.out 12 (by omega)).trans rfl))
  clear fs cs
  obtain ⟨C, hC⟩ : ∃ C_ : Array Value, C8.setIfInBounds 12 (.int .u32 ctr) = C_ := ⟨_, rfl⟩
  obtain ⟨w5, hW⟩ : ∃ w_ : World, w_ = w4.setCell ⟨b0, 12, none⟩ (.int .u32 ctr) := ⟨_, rfl⟩
  rw [← hW]
  have f5 : Aside0 (Fr b0 w3 w5) := ⟨by rw [hW]; exact f8.out.set _ _⟩
  have h5 : Aside0 (w5.heap[b0]? = some (.cells C 43 (0, 0))) := ⟨by rw [hW]; exact blk_put h8.out 12 _ hC⟩
  have z5 : Aside0 (C.size = 16) := ⟨by rw [← hC]; simpa using z8.out⟩
  have HV5 : Aside0 (w5.heap[nb]? = some (.cells V 24 (0, 0))) := ⟨(f5.out.block nb (blk_lt HV3.out) Nn).trans HV3.out⟩
  have hC := Aside0.mk hC
  clear hW h8 f8
  go_wp2_with (first | (go_at_call 17; (with_reducible refine (load3 b0 nb 24 C V _ h5.out z5.out HV5.out Nn VB.out).mono ?_); rintro e w6 ⟨rfl, C3, h6, z3, e3, o3, f6⟩; have h6 : Aside0 (w6.heap[b0]? = some (.cells (toC (firstL K ctr V)) 43 (0, 0))) := ⟨by rw [h6, first_of e8.out o8.out z8.out hC.out e3 o3 z3]⟩; have f6 := Aside0.mk f6; clear z3 e3 o3; have rs := store_first w6 K V ctr) | (refine wpList_load_row rfl 43 _ rfl b0 rfl 43 _ (0, 0) _ h6.out Tryd.underlying43 rfl (by kernel_rfl) ?_))
  clear rs
  have FL : Aside0 ((firstL K ctr V).length = 16) := ⟨rfl⟩
  have NF : Aside0 (blockL K ctr V = outL (firstL K ctr V) (roundsL 10 (firstL K ctr V))) := ⟨rfl⟩
  obtain ⟨F, hF⟩ : ∃ F_ : List Int, firstL K ctr V = F_ := ⟨_, rfl⟩
  rw [hF] at h6 FL NF ⊢
  obtain ⟨w7, hW⟩ : ∃ w_ : World, w_ = w6.alloc (.cells (toC F) 43) := ⟨_, rfl⟩
  rw [← hW]
  have h7 : Aside0 (w7.heap[b0]? = some (.cells (toC F) 43 (0, 0))) := ⟨by rw [hW]; exact blk_alloc h6.out _⟩
  have f7 : Aside0 (Fr b0 w3 w7) := ⟨by rw [hW]; exact (f5.out.trans f6.out).alloc _⟩
  have s7 : Aside0 (w7.heap[w6.heap.size]? = some (.cells (toC F) 43 (0, 0))) := ⟨by rw [hW]; exact blk_new _ _⟩
  have N1 : w6.heap.size ≠ b0 := by have := blk_lt h6.out; omega
  have g1 : Aside0 (w.heap.size ≤ w6.heap.size) := ⟨Nat.le_trans BE3.out.size (Nat.le_trans f5.out.size f6.out.size)⟩
  have n_o : Aside0 (ob ≠ w6.heap.size) := ⟨by have := blk_lt HO3.out; have h1 := f5.out.size; have h2 := f6.out.size; omega⟩
  generalize w6.heap.size = b1 at s7 N1 g1 n_o ⊢
  have BE7 : Aside0 (Below w.heap.size w w7) := ⟨BE3.out.trans (f7.out.below GB.out BE3.out.size)⟩
  have VA7 : Aside0 (Vars T w7) := ⟨HG.out.below BE7.out H3.out⟩
  have HO7 : Aside0 (w7.heap[ob]? = some (.cells #[.int .u8 0, .int .u8 0, .int .u8 0, .int .u8 0, .int .u8 0, .int .u8 0, .int .u8 0, .int .u8 0, .int .u8 0, .int .u8 0, .int .u8 0, .int .u8 0, .int .u8 0, .int .u8 0, .int .u8 0, .int .u8 0, .int .u8 0, .int .u8 0, .int .u8 0, .int .u8 0, .int .u8 0, .int .u8 0, .int .u8 0, .int .u8 0, .int .u8 0, .int .u8 0, .int .u8 0, .int .u8 0, .int .u8 0, .int .u8 0, .int .u8 0, .int .u8 0, .int .u8 0, .int .u8 0, .int .u8 0, .int .u8 0, .int .u8 0, .int .u8 0, .int .u8 0, .int .u8 0, .int .u8 0, .int .u8 0, .int .u8 0, .int .u8 0, .int .u8 0, .int .u8 0, .int .u8 0, .int .u8 0, .int .u8 0, .int .u8 0, .int .u8 0, .int .u8 0, .int .u8 0, .int .u8 0, .int .u8 0, .int .u8 0, .int .u8 0, .int .u8 0, .int .u8 0, .int .u8 0, .int .u8 0, .int .u8 0, .int .u8 0, .int .u8 0] 29 (0, 0))) := ⟨(f7.out.block ob (blk_lt HO3.out) No).trans HO3.out⟩
  clear hW h6 f6 f5 h5 z5 hC HV5 z8 e8 o8 f7 BE3 HK3 HV3 HO3 H03
  go_loopw [24] (fun i wr => ∃ k : Nat, k ≤ 10 ∧ i = .int .i64 k ∧ Aside0 (wr.heap[b1]? = some (.cells (toC (roundsL k F)) 43 (0, 0)) ∧ Fr b1 w7 wr)) (fun i _ => 10 - (intOf i).toNat)
  case atStart => exact ⟨0, by omega, rfl, ⟨s7.out, Fr.refl _ _⟩⟩
  case round =>
    obtain ⟨k, hk10, rfl, HR⟩ := hrel
    by_cases hlt : k < 10
    · have h1 : (k : Int) < 10 := by omega
      have LR := Aside0.mk (roundsL_len k F)
      have NX : Aside0 (roundsL (k + 1) F = quartersL 8 (roundsL k F)) := ⟨rfl⟩
      obtain ⟨L, hL⟩ : ∃ L_, roundsL k F = L_ := ⟨_, rfl⟩
      rw [hL] at LR NX HR
      clear hL
      have L16 : Aside0 (L.length = 16) := ⟨LR.out.trans FL.out⟩
      go_wp2_with (refine wpList_load_row rfl 48 _ rfl 1 rfl T.2.1 _ (0, 0) _ (((HR.out.2).block 1 (blk_lt VA7.out.g1) (by have := g1.out; have := H3.out; omega)).trans VA7.out.g1) Tryd.underlying48 rfl (by kernel_rfl) ?_)
      go_loopw [27] (fun i wv => ∃ m : Nat, m ≤ 8 ∧ i = .int .i64 m ∧ Aside0 (wv.heap[b1]? = some (.cells (toC (quartersL m L)) 43 (0, 0)) ∧ Fr b1 w7 wv)) (fun i _ => 8 - (intOf i).toNat)
      case atStart => exact ⟨0, by omega, rfl, HR⟩
      case round =>
        obtain ⟨m, hm8, rfl, HI⟩ := hrel
        by_cases hltm : m < 8
        · have h2 : (m : Int) < 8 := by omega
          have iq := index_q m hltm
          have LQ := Aside0.mk (quartersL_len m L)
          have NQ : Aside0 (quartersL (m + 1) L = quarterL (quartersL m L) (qs m)) := ⟨rfl⟩
          have HM := Aside0.mk hltm
          obtain ⟨M, hM⟩ : ∃ M_, quartersL m L = M_ := ⟨_, rfl⟩
          rw [hM] at LQ NQ HI
          clear hM
          have G2 : Aside0 (wr.heap[2]? = some (.cells turnsC T.2.2 (0, 0))) := ⟨((HI.out.2).block 2 (blk_lt VA7.out.g2) (by have := g1.out; have := H3.out; omega)).trans VA7.out.g2⟩
          go_wp2_with (first | (refine wpList_load_row rfl 47 _ rfl wr.heap.size rfl 47 _ (0, 0) _ (blk_new _ _) Tryd.underlying47 rfl (by kernel_rfl) ?_) | (go_at_call 18; (with_reducible refine (mixL b1 M m HM.out _ (LQ.out.trans L16.out) (blk_alloc HI.out.1 _) (blk_alloc G2.out _)).mono ?_); rintro e w9 ⟨rfl, h9, f9⟩; have h9 := Aside0.mk h9; have f9 := Aside0.mk f9))
          go_roundw
          case rel => exact ⟨m + 1, by have := HM.out; omega, by go_num, ⟨by rw [NQ.out]; exact h9.out, (HI.out.2.alloc _).trans f9.out⟩⟩
          case measure => simp [intOf]; omega
        · obtain rfl : m = 8 := by omega
          go_wp2_with fail
          go_roundw
          case rel => exact ⟨k + 1, by omega, by go_num, ⟨by rw [NX.out]; exact HI.out.1, HI.out.2⟩⟩
          case measure => simp [intOf]; omega
    · obtain rfl : k = 10 := by omega
      have NFF := NF
      have LR := Aside0.mk (roundsL_len 10 F)
      obtain ⟨S, hS⟩ : ∃ L_, roundsL 10 F = L_ := ⟨_, rfl⟩
      rw [hS] at LR NFF HR
      clear hS
      have L16 : Aside0 (S.length = 16) := ⟨LR.out.trans FL.out⟩
      have HO8 : Aside0 (wr.heap[ob]? = some (.cells #[.int .u8 0, .int .u8 0, .int .u8 0, .int .u8 0, .int .u8 0, .int .u8 0, .int .u8 0, .int .u8 0, .int .u8 0, .int .u8 0, .int .u8 0, .int .u8 0, .int .u8 0, .int .u8 0, .int .u8 0, .int .u8 0, .int .u8 0, .int .u8 0, .int .u8 0, .int .u8 0, .int .u8 0, .int .u8 0, .int .u8 0, .int .u8 0, .int .u8 0, .int .u8 0, .int .u8 0, .int .u8 0, .int .u8 0, .int .u8 0, .int .u8 0, .int .u8 0, .int .u8 0, .int .u8 0, .int .u8 0, .int .u8 0, .int .u8 0, .int .u8 0, .int .u8 0, .int .u8 0, .int .u8 0, .int .u8 0, .int .u8 0, .int .u8 0, .int .u8 0, .int .u8 0, .int .u8 0, .int .u8 0, .int .u8 0, .int .u8 0, .int .u8 0, .int .u8 0, .int .u8 0, .int .u8 0, .int .u8 0, .int .u8 0, .int .u8 0, .int .u8 0, .int .u8 0, .int .u8 0, .int .u8 0, .int .u8 0, .int .u8 0, .int .u8 0] 29 (0, 0))) := ⟨(HR.out.2.block ob (blk_lt HO7.out) n_o.out).trans HO7.out⟩
      have h08 : Aside0 (wr.heap[b0]? = some (.cells (toC F) 43 (0, 0))) := ⟨(HR.out.2.block b0 (blk_lt h7.out) N1.symm).trans h7.out⟩
      have BE8 : Aside0 (Below w.heap.size w wr) := ⟨BE7.out.trans (HR.out.2.below g1.out BE7.out.size)⟩
      obtain ⟨w10, rfl⟩ : ∃ x_ : World, x_ = wr := ⟨_, rfl⟩
      go_wp2_with (refine wpList_load_row rfl 43 _ rfl b1 rfl 43 _ (0, 0) _ HR.out.1 Tryd.underlying43 rfl (by rw [toC_size, L16.out]; kernel_rfl) ?_)
      go_loopw [35] (fun i wv => ∃ k : Nat, k ≤ 16 ∧ i = .int .i64 k ∧ Aside0 (OutRel ob F S (4 * k) w10 wv)) (fun i _ => 16 - (intOf i).toNat)
      case atStart => exact ⟨0, by omega, rfl, ⟨_, HO8.out, rfl, fun j hj => absurd hj (by omega), Fr.refl _ _⟩⟩
      case round =>
        obtain ⟨k, hk16, rfl, HI⟩ := hrel
        by_cases hltk : k < 16
        · have h2 : (k : Int) < 16 := by omega
          have ic := index_c S L16.out k hltk
          have H0v : Aside0 (wr.heap[b0]? = some (.cells (toC F) 43 (0, 0))) := ⟨HI.out.other b0 (blk_lt h08.out) No.symm h08.out⟩
          have cF : wr.cell? ⟨b0, k, none⟩ = some (.int .u32 (F.getD k 0)) := (blk_cell H0v.out k).trans (toC_getD F k (by rw [FL.out]; omega))
          have SN : Aside0 (sumN F S k = (S.getD k 0 + F.getD k 0) % 4294967296) := ⟨rfl⟩
          generalize S.getD k 0 = sk at ic SN
          generalize F.getD k 0 = fk at cF SN
          go_wp2_with fail
          obtain ⟨n, hn⟩ : ∃ n_ : Int, (sk + fk) % 4294967296 = n_ := ⟨_, rfl⟩
          rw [hn] at SN ⊢
          have bn : 0 ≤ n ∧ n ≤ 4294967295 := by omega
          clear hn
          obtain ⟨v0, hv0⟩ : ∃ w_ : World, w_ = wr := ⟨_, rfl⟩
          rw [← hv0] at HI ⊢
          have HK := Aside0.mk hltk
          have N0 : Aside0 (n % 256 = outN F S (4 * k)) := ⟨by unfold outN; rw [show 4 * k / 4 = k by omega, show 4 * k % 4 = 0 by omega, SN.out]; show _ = n / 1 % 256; rw [Int.ediv_one]⟩
          have N1_ : Aside0 (n / 256 % 256 = outN F S (4 * k + 1)) := ⟨by unfold outN; rw [show (4 * k + 1) / 4 = k by omega, show (4 * k + 1) % 4 = 1 by omega, SN.out]; rfl⟩
          have N2_ : Aside0 (n / 65536 % 256 = outN F S (4 * k + 2)) := ⟨by unfold outN; rw [show (4 * k + 2) / 4 = k by omega, show (4 * k + 2) % 4 = 2 by omega, SN.out]; rfl⟩
          have N3_ : Aside0 (n / 16777216 = outN F S (4 * k + 3)) := ⟨by rw [show n / 16777216 = n / 16777216 % 256 by omega]; unfold outN; rw [show (4 * k + 3) / 4 = k by omega, show (4 * k + 3) % 4 = 3 by omega, SN.out]; rfl⟩
          clear hv0 cF ic hltk hk16
          have a0 : IntKind.i64.wrap (4 * (k : Int)) = 4 * (k : Int) := IntWalk.i64_in _ (by omega)
          have a1 : IntKind.i64.wrap (4 * (k : Int) + 1) = 4 * (k : Int) + 1 := IntWalk.i64_in _ (by omega)
          have a2 : IntKind.i64.wrap (4 * (k : Int) + 2) = 4 * (k : Int) + 2 := IntWalk.i64_in _ (by omega)
          have a3 : IntKind.i64.wrap (4 * (k : Int) + 3) = 4 * (k : Int) + 3 := IntWalk.i64_in _ (by omega)
          have t0 : (4 * (k : Int)).toNat = 4 * k := by omega
          have t1 : (4 * (k : Int) + 1).toNat = 4 * k + 1 := by omega
          have t2 : (4 * (k : Int) + 2).toNat = 4 * k + 2 := by omega
          have t3 : (4 * (k : Int) + 3).toNat = 4 * k + 3 := by omega
          have l0 : 4 * (k : Int) < 64 := by omega
          have l1 : 4 * (k : Int) + 1 < 64 := by omega
          have l2 : 4 * (k : Int) + 2 < 64 := by omega
          have l3 : 4 * (k : Int) + 3 < 64 := by omega
          refine wp_loop_rounds 5 ?_
          rw [rounds_succ]
          have HA := Aside0.mk (HI.out.at (4 * k) (by have := HK.out; omega))
          obtain ⟨ov, cs⟩ := HA.out.2
          have fs := HA.out.1
          clear HA
          go_wp2_with fail
          obtain ⟨v1, hv1⟩ : ∃ w_ : World, w_ = v0.setCell ⟨ob, 4 * k, none⟩ (.int .u8 (n % 256)) := ⟨_, rfl⟩
          rw [← hv1]
          replace HI : Aside0 (OutRel ob F S (4 * k + 1) w10 v1) := ⟨by rw [hv1, N0.out]; exact outRel_step HI.out (by have := HK.out; omega)⟩
          clear cs fs hv1
          rw [rounds_succ]
          have HA := Aside0.mk (HI.out.at (4 * k + 1) (by have := HK.out; omega))
          obtain ⟨ov, cs⟩ := HA.out.2
          have fs := HA.out.1
          clear HA
          go_wp2_with fail
          obtain ⟨v2, hv2⟩ : ∃ w_ : World, w_ = v1.setCell ⟨ob, 4 * k + 1, none⟩ (.int .u8 (n / 256 % 256)) := ⟨_, rfl⟩
          rw [← hv2]
          replace HI : Aside0 (OutRel ob F S (4 * k + 2) w10 v2) := ⟨by rw [hv2, N1_.out]; exact outRel_step HI.out (by have := HK.out; omega)⟩
          clear cs fs hv2
          rw [rounds_succ]
          have HA := Aside0.mk (HI.out.at (4 * k + 2) (by have := HK.out; omega))
          obtain ⟨ov, cs⟩ := HA.out.2
          have fs := HA.out.1
          clear HA
          go_wp2_with fail
          obtain ⟨v3, hv3⟩ : ∃ w_ : World, w_ = v2.setCell ⟨ob, 4 * k + 2, none⟩ (.int .u8 (n / 65536 % 256)) := ⟨_, rfl⟩
          rw [← hv3]
          replace HI : Aside0 (OutRel ob F S (4 * k + 3) w10 v3) := ⟨by rw [hv3, N2_.out]; exact outRel_step HI.out (by have := HK.out; omega)⟩
          clear cs fs hv3
          rw [rounds_succ]
          have HA := Aside0.mk (HI.out.at (4 * k + 3) (by have := HK.out; omega))
          obtain ⟨ov, cs⟩ := HA.out.2
          have fs := HA.out.1
          clear HA
          go_wp2_with fail
          obtain ⟨v4, hv4⟩ : ∃ w_ : World, w_ = v3.setCell ⟨ob, 4 * k + 3, none⟩ (.int .u8 (n / 16777216)) := ⟨_, rfl⟩
          rw [← hv4]
          replace HI : Aside0 (OutRel ob F S (4 * k + 4) w10 v4) := ⟨by rw [hv4, N3_.out]; exact outRel_step HI.out (by have := HK.out; omega)⟩
          clear cs fs hv4
          rw [rounds_succ]
          go_wp2_with fail
          go_roundw
          case rel => exact ⟨k + 1, by have := HK.out; omega, by go_num, HI⟩
          case measure => simp [intOf]; omega
        · obtain rfl : k = 16 := by omega
          have HX : Aside0 (wr.heap[ob]? = some (.cells (toB (outL F S)) 29 (0, 0))) := ⟨HI.out.whole⟩
          have BX : Aside0 (Below w.heap.size w wr) := ⟨BE8.out.trans (HI.out.below GO.out BE8.out.size)⟩
          go_wp2_with (first | (refine wpList_load_row rfl 29 _ rfl ob rfl 29 _ (0, 0) _ HX.out Tryd.underlying29 rfl (by kernel_rfl) ?_) | (refine wpList_store_row rfl 29 _ _ rfl ob (toB (outL F S)) rfl rfl 29 _ HX.out (by kernel_rfl) rfl (by kernel_rfl) ?_))
          refine bodyPost_ret (results_cell_row rfl _ _ ob 29 (toB (outL F S)) (0, 0) _ rfl (setRow_heap _ _ _ _ 29 (0, 0) HX.out) Tryd.underlying29 rfl (by kernel_rfl)) rfl ?_
          exact ⟨by rw [NFF.out], below_setRow BX.out GO.out _⟩
end Go.Proofs.YtlpfmehcghhdcaaDoor.XB
