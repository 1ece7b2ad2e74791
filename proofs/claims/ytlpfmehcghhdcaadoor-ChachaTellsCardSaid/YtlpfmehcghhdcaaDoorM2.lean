/- A quarter of a state is mixed: the Go code comes to the plain function 'half', twice; no condition but that the numbers are of their kinds and the places differ. -/
import Derived.Test.YtlpfmehcghhdcaaDoorM1
namespace Go.Proofs.YtlpfmehcghhdcaaDoor.XB
open Go.RowKit Go.Proofs.YtlpfmehcghhdcaaDoorW.PrintWords Go.Proofs.YtlpfmehcghhdcaaDoorW.PrintLast Go.Proofs.YtlpfmehcghhdcaaDoorW.PrintMore PChachaTells
set_option linter.unusedVariables false
set_option linter.unusedSimpArgs false

theorem set_same {C : Array Value} {i : Nat} {v : Value} (hz : C.size = 16) (h : i < 16) : (C.setIfInBounds i v)[i]? = some v := by
  simp [Array.getElem?_setIfInBounds, hz, h]
theorem set_other {C : Array Value} {i j : Nat} {v : Value} (h : i ≠ j) : (C.setIfInBounds i v)[j]? = C[j]? := by
  simp [Array.getElem?_setIfInBounds, h]

/-- One of a quarter's two turns. -/
def half (p q r t : Int) (x : Int × Int × Int × Int) : Int × Int × Int × Int :=
  let a := (x.1 + x.2.1) % 4294967296
  let d := rot p q (xr x.2.2.2 a)
  let c := (x.2.2.1 + d) % 4294967296
  let b := rot r t (xr x.2.1 c)
  (a, b, c, d)
def qr (x : Int × Int × Int × Int) : Int × Int × Int × Int := half 256 16777216 128 33554432 (half 65536 65536 4096 1048576 x)

set_option maxHeartbeats 4000000 in
set_option maxRecDepth 100000 in
theorem mix_any {tg : Nat} (b0 : Nat) (C : Array Value) (q0 q1 q2 q3 : Nat) (a b c d : Int) (w : World)
    (hb : w.heap[b0]? = some (.cells C 43 (0, 0))) (hz : C.size = 16) (hg : w.heap[2]? = some (.cells #[.int .i64 16, .int .i64 12, .int .i64 8, .int .i64 7] tg (0, 0)))
    (hq0 : q0 < 16) (hq1 : q1 < 16) (hq2 : q2 < 16) (hq3 : q3 < 16) (n01 : q0 ≠ q1) (n02 : q0 ≠ q2) (n03 : q0 ≠ q3) (n12 : q1 ≠ q2) (n13 : q1 ≠ q3) (n23 : q2 ≠ q3)
    (ha : C[q0]? = some (.int .u32 a)) (hbb : C[q1]? = some (.int .u32 b)) (hc : C[q2]? = some (.int .u32 c)) (hd : C[q3]? = some (.int .u32 d)) :
    Calls Tryd.prog 18 #[.pointer (some ⟨b0, 0, none⟩), .agg #[.int .i64 q0, .int .i64 q1, .int .i64 q2, .int .i64 q3]] w fun e w' => e = .returned (.tuple #[]) ∧ ∃ C', w'.heap[b0]? = some (.cells C' 43 (0, 0)) ∧ C'.size = 16 ∧
      (C'[q0]? = some (.int .u32 (qr (a, b, c, d)).1) ∧ C'[q1]? = some (.int .u32 (qr (a, b, c, d)).2.1) ∧ C'[q2]? = some (.int .u32 (qr (a, b, c, d)).2.2.1) ∧ C'[q3]? = some (.int .u32 (qr (a, b, c, d)).2.2.2)) ∧ (∀ j, j ≠ q0 → j ≠ q1 → j ≠ q2 → j ≠ q3 → C'[j]? = C[j]?) ∧ Fr b0 w w' := by
  have HG := Aside0.mk hg
  have HBB := Aside0.mk hb
  have Ea_C := Aside0.mk ha
  have Eb_C := Aside0.mk hbb
  have Ec_C := Aside0.mk hc
  have Ed_C := Aside0.mk hd
  have Z_C := Aside0.mk hz
  clear hg hb ha hbb hc hd hz
  have i0 : ∀ w, (Instr.index 59 (.agg #[.int .i64 16, .int .i64 12, .int .i64 8, .int .i64 7]) (.int .i64 0)).run Tryd.prog w = .ok (.agg #[.int .i64 16, .int .i64 12]) w := fun _ => by kernel_rfl
  have i1 : ∀ w, (Instr.index 59 (.agg #[.int .i64 16, .int .i64 12, .int .i64 8, .int .i64 7]) (.int .i64 1)).run Tryd.prog w = .ok (.agg #[.int .i64 8, .int .i64 7]) w := fun _ => by kernel_rfl
  have z0 : (q0 : Int) < 16 := by omega
  have z1 : (q1 : Int) < 16 := by omega
  have z2 : (q2 : Int) < 16 := by omega
  have z3 : (q3 : Int) < 16 := by omega
  go_enter Tryd.func18, Tryd.ntmps18
  go_wp2_with fail
  go_quiet (fail)
  go_wp2_with (refine wpList_load_row rfl 59 _ rfl 2 rfl tg _ (0, 0) _ (blk_drewN (blk_alloc HG.out _) _) Tryd.underlying59 rfl (by kernel_rfl) ?_)
  refine wp_loop_rounds 3 ?_
  obtain ⟨wr, hWr⟩ : ∃ w_ : World, w_ = (w.alloc (.cells #[.int .i64 q0, .int .i64 q1, .int .i64 q2, .int .i64 q3] 47 (0, 0))).drewN nq := ⟨_, rfl⟩
  rw [← hWr]
  have HB_wr : Aside0 (wr.heap[b0]? = some (.cells C 43 (0, 0))) := ⟨by rw [hWr]; exact blk_drewN (blk_alloc HBB.out _) _⟩
  have FR_wr : Aside0 (Fr b0 w wr) := ⟨by rw [hWr]; exact ((Fr.refl _ _).alloc _).drewN _⟩
  clear hWr HBB
  rw [rounds_succ]
  go_wp2_with fail
  obtain ⟨w2, hW3⟩ : ∃ w_ : World, w_ = wr.alloc (.cells #[.int .i64 16, .int .i64 12] 58 (0, 0)) := ⟨_, rfl⟩
  rw [← hW3]
  have HB_w2 : Aside0 (w2.heap[b0]? = some (.cells C 43 (0, 0))) := ⟨by rw [hW3]; exact blk_alloc HB_wr.out _⟩
  have FR_w2 : Aside0 (Fr b0 w w2) := ⟨by rw [hW3]; exact FR_wr.out.alloc _⟩
  have HY0 : Aside0 (w2.heap[wr.heap.size]? = some (.cells #[.int .i64 16, .int .i64 12] 58 (0, 0))) := ⟨by rw [hW3]; exact blk_new _ _⟩
  clear hW3 HB_wr FR_wr
  generalize wr.heap.size = y1 at HY0 ⊢
  have HY_w2 := HY0
  clear HY0
  have NY : y1 ≠ b0 := blk_ne HY_w2.out HB_w2.out (by decide)
  have ca : w2.cell? ⟨b0, q0, none⟩ = some (.int .u32 a) := (blk_cell HB_w2.out q0).trans Ea_C.out
  have cb : w2.cell? ⟨b0, q1, none⟩ = some (.int .u32 b) := (blk_cell HB_w2.out q1).trans Eb_C.out
  have fa : w2.frozen? ⟨b0, q0, none⟩ = false := blk_frozen HB_w2.out q0
  go_region
  go_wp2_with fail
  obtain ⟨a4, ha4⟩ : ∃ v_ : Int, (a + b) % 4294967296 = v_ := ⟨_, rfl⟩
  rw [ha4]
  have ba4 : 0 ≤ a4 ∧ a4 ≤ 4294967295 := by omega
  have Va4 := Aside0.mk ha4
  clear ha4 ca cb fa
  obtain ⟨C5, hC6⟩ : ∃ C_ : Array Value, C.setIfInBounds q0 (.int .u32 a4) = C_ := ⟨_, rfl⟩
  obtain ⟨w7, hW8⟩ : ∃ w_ : World, w_ = (w2.setCell ⟨b0, q0, none⟩ (.int .u32 a4)).drew := ⟨_, rfl⟩
  rw [← hW8]
  have HB_w7 : Aside0 (w7.heap[b0]? = some (.cells C5 43 (0, 0))) := ⟨by rw [hW8]; exact blk_drew (blk_put HB_w2.out q0 _ hC6)⟩
  have FR_w7 : Aside0 (Fr b0 w w7) := ⟨by rw [hW8]; exact ((FR_w2.out.set _ _)).drew⟩
  have HY_w7 : Aside0 (w7.heap[y1]? = some (.cells #[.int .i64 16, .int .i64 12] 58 (0, 0))) := ⟨by rw [hW8]; exact blk_drew ((Below.heap_setCell _ _ _ _ NY).trans HY_w2.out)⟩
  clear hW8 HB_w2 FR_w2 HY_w2
  have Ea_C5 : Aside0 (C5[q0]? = some (.int .u32 a4)) := ⟨by rw [← hC6]; exact set_same Z_C.out hq0⟩
  have Eb_C5 : Aside0 (C5[q1]? = some (.int .u32 b)) := ⟨by rw [← hC6]; exact (set_other (by omega)).trans Eb_C.out⟩
  have Ec_C5 : Aside0 (C5[q2]? = some (.int .u32 c)) := ⟨by rw [← hC6]; exact (set_other (by omega)).trans Ec_C.out⟩
  have Ed_C5 : Aside0 (C5[q3]? = some (.int .u32 d)) := ⟨by rw [← hC6]; exact (set_other (by omega)).trans Ed_C.out⟩
  have Z_C5 : Aside0 (C5.size = 16) := ⟨by rw [← hC6]; simpa using Z_C.out⟩
  have O_C5 : Aside0 (∀ j, j ≠ q0 → j ≠ q1 → j ≠ q2 → j ≠ q3 → C5[j]? = C[j]?) := ⟨fun j h0 h1 h2 h3 => by rw [← hC6]; exact set_other (by omega)⟩
  clear hC6 Ea_C Eb_C Ec_C Ed_C Z_C
  have cd : w7.cell? ⟨b0, q3, none⟩ = some (.int .u32 d) := (blk_cell HB_w7.out q3).trans Ed_C5.out
  have ca : w7.cell? ⟨b0, q0, none⟩ = some (.int .u32 a4) := (blk_cell HB_w7.out q0).trans Ea_C5.out
  have fd : w7.frozen? ⟨b0, q3, none⟩ = false := blk_frozen HB_w7.out q3
  have cy : w7.cell? ⟨y1, 0, none⟩ = some (.int .i64 16) := (blk_cell HY_w7.out 0).trans rfl
  refine wp_region_still_tail 12 (by kernel_rfl) (by kernel_rfl) ?_
  simp only [List.take_succ_cons, List.take_zero, List.drop_succ_cons, List.drop_zero]
  iterate 10 still_step
  still_call (rot16 (Go.bits .xor .u32 d a4) _ (xr_bd d a4).1 (xr_bd d a4).2)
  still_step
  refine wpStill_nil ?_
  clear cd ca fd cy
  obtain ⟨d9, hd9⟩ : ∃ v_ : Int, rot 65536 65536 (Go.bits .xor .u32 d a4) = v_ := ⟨_, rfl⟩
  rw [hd9]
  have bd9 : 0 ≤ d9 ∧ d9 ≤ 4294967295 := by rw [← hd9]; exact rot_bd 16 (by decide) (xr_bd d a4).1 (xr_bd d a4).2 (by decide) (by decide)
  have Vd9 := Aside0.mk hd9
  clear hd9
  change wpList _ _ _ _ _ w7.drew
  obtain ⟨w10, hW11⟩ : ∃ w_ : World, w_ = w7.drew := ⟨_, rfl⟩
  rw [← hW11]
  have HB_w10 : Aside0 (w10.heap[b0]? = some (.cells C5 43 (0, 0))) := ⟨by rw [hW11]; exact blk_drew HB_w7.out⟩
  have FR_w10 : Aside0 (Fr b0 w w10) := ⟨by rw [hW11]; exact FR_w7.out.drew⟩
  have HY_w10 : Aside0 (w10.heap[y1]? = some (.cells #[.int .i64 16, .int .i64 12] 58 (0, 0))) := ⟨by rw [hW11]; exact blk_drew HY_w7.out⟩
  clear hW11 HB_w7 FR_w7 HY_w7
  have cd : w10.cell? ⟨b0, q3, none⟩ = some (.int .u32 d) := (blk_cell HB_w10.out q3).trans Ed_C5.out
  have fd : w10.frozen? ⟨b0, q3, none⟩ = false := blk_frozen HB_w10.out q3
  go_wp2_with fail
  clear cd fd
  obtain ⟨C12, hC13⟩ : ∃ C_ : Array Value, C5.setIfInBounds q3 (.int .u32 d9) = C_ := ⟨_, rfl⟩
  obtain ⟨w14, hW15⟩ : ∃ w_ : World, w_ = (w10.setCell ⟨b0, q3, none⟩ (.int .u32 d9)) := ⟨_, rfl⟩
  rw [← hW15]
  have HB_w14 : Aside0 (w14.heap[b0]? = some (.cells C12 43 (0, 0))) := ⟨by rw [hW15]; exact (blk_put HB_w10.out q3 _ hC13)⟩
  have FR_w14 : Aside0 (Fr b0 w w14) := ⟨by rw [hW15]; exact (FR_w10.out.set _ _)⟩
  have HY_w14 : Aside0 (w14.heap[y1]? = some (.cells #[.int .i64 16, .int .i64 12] 58 (0, 0))) := ⟨by rw [hW15]; exact ((Below.heap_setCell _ _ _ _ NY).trans HY_w10.out)⟩
  clear hW15 HB_w10 FR_w10 HY_w10
  have Ea_C12 : Aside0 (C12[q0]? = some (.int .u32 a4)) := ⟨by rw [← hC13]; exact (set_other (by omega)).trans Ea_C5.out⟩
  have Eb_C12 : Aside0 (C12[q1]? = some (.int .u32 b)) := ⟨by rw [← hC13]; exact (set_other (by omega)).trans Eb_C5.out⟩
  have Ec_C12 : Aside0 (C12[q2]? = some (.int .u32 c)) := ⟨by rw [← hC13]; exact (set_other (by omega)).trans Ec_C5.out⟩
  have Ed_C12 : Aside0 (C12[q3]? = some (.int .u32 d9)) := ⟨by rw [← hC13]; exact set_same Z_C5.out hq3⟩
  have Z_C12 : Aside0 (C12.size = 16) := ⟨by rw [← hC13]; simpa using Z_C5.out⟩
  have O_C12 : Aside0 (∀ j, j ≠ q0 → j ≠ q1 → j ≠ q2 → j ≠ q3 → C12[j]? = C[j]?) := ⟨fun j h0 h1 h2 h3 => by rw [← hC13]; exact (set_other (by omega)).trans (O_C5.out j h0 h1 h2 h3)⟩
  clear hC13 Ea_C5 Eb_C5 Ec_C5 Ed_C5 Z_C5 O_C5
  have cc : w14.cell? ⟨b0, q2, none⟩ = some (.int .u32 c) := (blk_cell HB_w14.out q2).trans Ec_C12.out
  have cd : w14.cell? ⟨b0, q3, none⟩ = some (.int .u32 d9) := (blk_cell HB_w14.out q3).trans Ed_C12.out
  have fc : w14.frozen? ⟨b0, q2, none⟩ = false := blk_frozen HB_w14.out q2
  go_region
  go_wp2_with fail
  obtain ⟨c16, hc16⟩ : ∃ v_ : Int, (c + d9) % 4294967296 = v_ := ⟨_, rfl⟩
  rw [hc16]
  have bc16 : 0 ≤ c16 ∧ c16 ≤ 4294967295 := by omega
  have Vc16 := Aside0.mk hc16
  clear hc16 cc cd fc
  obtain ⟨C17, hC18⟩ : ∃ C_ : Array Value, C12.setIfInBounds q2 (.int .u32 c16) = C_ := ⟨_, rfl⟩
  obtain ⟨w19, hW20⟩ : ∃ w_ : World, w_ = (w14.setCell ⟨b0, q2, none⟩ (.int .u32 c16)).drew := ⟨_, rfl⟩
  rw [← hW20]
  have HB_w19 : Aside0 (w19.heap[b0]? = some (.cells C17 43 (0, 0))) := ⟨by rw [hW20]; exact blk_drew (blk_put HB_w14.out q2 _ hC18)⟩
  have FR_w19 : Aside0 (Fr b0 w w19) := ⟨by rw [hW20]; exact ((FR_w14.out.set _ _)).drew⟩
  have HY_w19 : Aside0 (w19.heap[y1]? = some (.cells #[.int .i64 16, .int .i64 12] 58 (0, 0))) := ⟨by rw [hW20]; exact blk_drew ((Below.heap_setCell _ _ _ _ NY).trans HY_w14.out)⟩
  clear hW20 HB_w14 FR_w14 HY_w14
  have Ea_C17 : Aside0 (C17[q0]? = some (.int .u32 a4)) := ⟨by rw [← hC18]; exact (set_other (by omega)).trans Ea_C12.out⟩
  have Eb_C17 : Aside0 (C17[q1]? = some (.int .u32 b)) := ⟨by rw [← hC18]; exact (set_other (by omega)).trans Eb_C12.out⟩
  have Ec_C17 : Aside0 (C17[q2]? = some (.int .u32 c16)) := ⟨by rw [← hC18]; exact set_same Z_C12.out hq2⟩
  have Ed_C17 : Aside0 (C17[q3]? = some (.int .u32 d9)) := ⟨by rw [← hC18]; exact (set_other (by omega)).trans Ed_C12.out⟩
  have Z_C17 : Aside0 (C17.size = 16) := ⟨by rw [← hC18]; simpa using Z_C12.out⟩
  have O_C17 : Aside0 (∀ j, j ≠ q0 → j ≠ q1 → j ≠ q2 → j ≠ q3 → C17[j]? = C[j]?) := ⟨fun j h0 h1 h2 h3 => by rw [← hC18]; exact (set_other (by omega)).trans (O_C12.out j h0 h1 h2 h3)⟩
  clear hC18 Ea_C12 Eb_C12 Ec_C12 Ed_C12 Z_C12 O_C12
  have cb : w19.cell? ⟨b0, q1, none⟩ = some (.int .u32 b) := (blk_cell HB_w19.out q1).trans Eb_C17.out
  have cc : w19.cell? ⟨b0, q2, none⟩ = some (.int .u32 c16) := (blk_cell HB_w19.out q2).trans Ec_C17.out
  have fb : w19.frozen? ⟨b0, q1, none⟩ = false := blk_frozen HB_w19.out q1
  have cy : w19.cell? ⟨y1, 1, none⟩ = some (.int .i64 12) := (blk_cell HY_w19.out 1).trans rfl
  refine wp_region_still_tail 12 (by kernel_rfl) (by kernel_rfl) ?_
  simp only [List.take_succ_cons, List.take_zero, List.drop_succ_cons, List.drop_zero]
  iterate 10 still_step
  still_call (rot12 (Go.bits .xor .u32 b c16) _ (xr_bd b c16).1 (xr_bd b c16).2)
  still_step
  refine wpStill_nil ?_
  clear cb cc fb cy
  obtain ⟨b21, hb21⟩ : ∃ v_ : Int, rot 4096 1048576 (Go.bits .xor .u32 b c16) = v_ := ⟨_, rfl⟩
  rw [hb21]
  have bb21 : 0 ≤ b21 ∧ b21 ≤ 4294967295 := by rw [← hb21]; exact rot_bd 12 (by decide) (xr_bd b c16).1 (xr_bd b c16).2 (by decide) (by decide)
  have Vb21 := Aside0.mk hb21
  clear hb21
  change wpList _ _ _ _ _ w19.drew
  obtain ⟨w22, hW23⟩ : ∃ w_ : World, w_ = w19.drew := ⟨_, rfl⟩
  rw [← hW23]
  have HB_w22 : Aside0 (w22.heap[b0]? = some (.cells C17 43 (0, 0))) := ⟨by rw [hW23]; exact blk_drew HB_w19.out⟩
  have FR_w22 : Aside0 (Fr b0 w w22) := ⟨by rw [hW23]; exact FR_w19.out.drew⟩
  have HY_w22 : Aside0 (w22.heap[y1]? = some (.cells #[.int .i64 16, .int .i64 12] 58 (0, 0))) := ⟨by rw [hW23]; exact blk_drew HY_w19.out⟩
  clear hW23 HB_w19 FR_w19 HY_w19
  have cb : w22.cell? ⟨b0, q1, none⟩ = some (.int .u32 b) := (blk_cell HB_w22.out q1).trans Eb_C17.out
  have fb : w22.frozen? ⟨b0, q1, none⟩ = false := blk_frozen HB_w22.out q1
  go_wp2_with fail
  clear cb fb
  obtain ⟨C24, hC25⟩ : ∃ C_ : Array Value, C17.setIfInBounds q1 (.int .u32 b21) = C_ := ⟨_, rfl⟩
  obtain ⟨w26, hW27⟩ : ∃ w_ : World, w_ = (w22.setCell ⟨b0, q1, none⟩ (.int .u32 b21)) := ⟨_, rfl⟩
  rw [← hW27]
  have HB_w26 : Aside0 (w26.heap[b0]? = some (.cells C24 43 (0, 0))) := ⟨by rw [hW27]; exact (blk_put HB_w22.out q1 _ hC25)⟩
  have FR_w26 : Aside0 (Fr b0 w w26) := ⟨by rw [hW27]; exact (FR_w22.out.set _ _)⟩
  have HY_w26 : Aside0 (w26.heap[y1]? = some (.cells #[.int .i64 16, .int .i64 12] 58 (0, 0))) := ⟨by rw [hW27]; exact ((Below.heap_setCell _ _ _ _ NY).trans HY_w22.out)⟩
  clear hW27 HB_w22 FR_w22 HY_w22
  have Ea_C24 : Aside0 (C24[q0]? = some (.int .u32 a4)) := ⟨by rw [← hC25]; exact (set_other (by omega)).trans Ea_C17.out⟩
  have Eb_C24 : Aside0 (C24[q1]? = some (.int .u32 b21)) := ⟨by rw [← hC25]; exact set_same Z_C17.out hq1⟩
  have Ec_C24 : Aside0 (C24[q2]? = some (.int .u32 c16)) := ⟨by rw [← hC25]; exact (set_other (by omega)).trans Ec_C17.out⟩
  have Ed_C24 : Aside0 (C24[q3]? = some (.int .u32 d9)) := ⟨by rw [← hC25]; exact (set_other (by omega)).trans Ed_C17.out⟩
  have Z_C24 : Aside0 (C24.size = 16) := ⟨by rw [← hC25]; simpa using Z_C17.out⟩
  have O_C24 : Aside0 (∀ j, j ≠ q0 → j ≠ q1 → j ≠ q2 → j ≠ q3 → C24[j]? = C[j]?) := ⟨fun j h0 h1 h2 h3 => by rw [← hC25]; exact (set_other (by omega)).trans (O_C17.out j h0 h1 h2 h3)⟩
  clear hC25 Ea_C17 Eb_C17 Ec_C17 Ed_C17 Z_C17 O_C17
  clear NY HY_w26
  rw [rounds_succ]
  go_wp2_with fail
  obtain ⟨w29, hW30⟩ : ∃ w_ : World, w_ = w26.alloc (.cells #[.int .i64 8, .int .i64 7] 58 (0, 0)) := ⟨_, rfl⟩
  rw [← hW30]
  have HB_w29 : Aside0 (w29.heap[b0]? = some (.cells C24 43 (0, 0))) := ⟨by rw [hW30]; exact blk_alloc HB_w26.out _⟩
  have FR_w29 : Aside0 (Fr b0 w w29) := ⟨by rw [hW30]; exact FR_w26.out.alloc _⟩
  have HY0 : Aside0 (w29.heap[w26.heap.size]? = some (.cells #[.int .i64 8, .int .i64 7] 58 (0, 0))) := ⟨by rw [hW30]; exact blk_new _ _⟩
  clear hW30 HB_w26 FR_w26
  generalize w26.heap.size = y28 at HY0 ⊢
  have HY_w29 := HY0
  clear HY0
  have NY : y28 ≠ b0 := blk_ne HY_w29.out HB_w29.out (by decide)
  have ca : w29.cell? ⟨b0, q0, none⟩ = some (.int .u32 a4) := (blk_cell HB_w29.out q0).trans Ea_C24.out
  have cb : w29.cell? ⟨b0, q1, none⟩ = some (.int .u32 b21) := (blk_cell HB_w29.out q1).trans Eb_C24.out
  have fa : w29.frozen? ⟨b0, q0, none⟩ = false := blk_frozen HB_w29.out q0
  go_region
  go_wp2_with fail
  obtain ⟨a31, ha31⟩ : ∃ v_ : Int, (a4 + b21) % 4294967296 = v_ := ⟨_, rfl⟩
  rw [ha31]
  have ba31 : 0 ≤ a31 ∧ a31 ≤ 4294967295 := by omega
  have Va31 := Aside0.mk ha31
  clear ha31 ca cb fa
  obtain ⟨C32, hC33⟩ : ∃ C_ : Array Value, C24.setIfInBounds q0 (.int .u32 a31) = C_ := ⟨_, rfl⟩
  obtain ⟨w34, hW35⟩ : ∃ w_ : World, w_ = (w29.setCell ⟨b0, q0, none⟩ (.int .u32 a31)).drew := ⟨_, rfl⟩
  rw [← hW35]
  have HB_w34 : Aside0 (w34.heap[b0]? = some (.cells C32 43 (0, 0))) := ⟨by rw [hW35]; exact blk_drew (blk_put HB_w29.out q0 _ hC33)⟩
  have FR_w34 : Aside0 (Fr b0 w w34) := ⟨by rw [hW35]; exact ((FR_w29.out.set _ _)).drew⟩
  have HY_w34 : Aside0 (w34.heap[y28]? = some (.cells #[.int .i64 8, .int .i64 7] 58 (0, 0))) := ⟨by rw [hW35]; exact blk_drew ((Below.heap_setCell _ _ _ _ NY).trans HY_w29.out)⟩
  clear hW35 HB_w29 FR_w29 HY_w29
  have Ea_C32 : Aside0 (C32[q0]? = some (.int .u32 a31)) := ⟨by rw [← hC33]; exact set_same Z_C24.out hq0⟩
  have Eb_C32 : Aside0 (C32[q1]? = some (.int .u32 b21)) := ⟨by rw [← hC33]; exact (set_other (by omega)).trans Eb_C24.out⟩
  have Ec_C32 : Aside0 (C32[q2]? = some (.int .u32 c16)) := ⟨by rw [← hC33]; exact (set_other (by omega)).trans Ec_C24.out⟩
  have Ed_C32 : Aside0 (C32[q3]? = some (.int .u32 d9)) := ⟨by rw [← hC33]; exact (set_other (by omega)).trans Ed_C24.out⟩
  have Z_C32 : Aside0 (C32.size = 16) := ⟨by rw [← hC33]; simpa using Z_C24.out⟩
  have O_C32 : Aside0 (∀ j, j ≠ q0 → j ≠ q1 → j ≠ q2 → j ≠ q3 → C32[j]? = C[j]?) := ⟨fun j h0 h1 h2 h3 => by rw [← hC33]; exact (set_other (by omega)).trans (O_C24.out j h0 h1 h2 h3)⟩
  clear hC33 Ea_C24 Eb_C24 Ec_C24 Ed_C24 Z_C24 O_C24
  have cd : w34.cell? ⟨b0, q3, none⟩ = some (.int .u32 d9) := (blk_cell HB_w34.out q3).trans Ed_C32.out
  have ca : w34.cell? ⟨b0, q0, none⟩ = some (.int .u32 a31) := (blk_cell HB_w34.out q0).trans Ea_C32.out
  have fd : w34.frozen? ⟨b0, q3, none⟩ = false := blk_frozen HB_w34.out q3
  have cy : w34.cell? ⟨y28, 0, none⟩ = some (.int .i64 8) := (blk_cell HY_w34.out 0).trans rfl
  refine wp_region_still_tail 12 (by kernel_rfl) (by kernel_rfl) ?_
  simp only [List.take_succ_cons, List.take_zero, List.drop_succ_cons, List.drop_zero]
  iterate 10 still_step
  still_call (rot8 (Go.bits .xor .u32 d9 a31) _ (xr_bd d9 a31).1 (xr_bd d9 a31).2)
  still_step
  refine wpStill_nil ?_
  clear cd ca fd cy
  obtain ⟨d36, hd36⟩ : ∃ v_ : Int, rot 256 16777216 (Go.bits .xor .u32 d9 a31) = v_ := ⟨_, rfl⟩
  rw [hd36]
  have bd36 : 0 ≤ d36 ∧ d36 ≤ 4294967295 := by rw [← hd36]; exact rot_bd 8 (by decide) (xr_bd d9 a31).1 (xr_bd d9 a31).2 (by decide) (by decide)
  have Vd36 := Aside0.mk hd36
  clear hd36
  change wpList _ _ _ _ _ w34.drew
  obtain ⟨w37, hW38⟩ : ∃ w_ : World, w_ = w34.drew := ⟨_, rfl⟩
  rw [← hW38]
  have HB_w37 : Aside0 (w37.heap[b0]? = some (.cells C32 43 (0, 0))) := ⟨by rw [hW38]; exact blk_drew HB_w34.out⟩
  have FR_w37 : Aside0 (Fr b0 w w37) := ⟨by rw [hW38]; exact FR_w34.out.drew⟩
  have HY_w37 : Aside0 (w37.heap[y28]? = some (.cells #[.int .i64 8, .int .i64 7] 58 (0, 0))) := ⟨by rw [hW38]; exact blk_drew HY_w34.out⟩
  clear hW38 HB_w34 FR_w34 HY_w34
  have cd : w37.cell? ⟨b0, q3, none⟩ = some (.int .u32 d9) := (blk_cell HB_w37.out q3).trans Ed_C32.out
  have fd : w37.frozen? ⟨b0, q3, none⟩ = false := blk_frozen HB_w37.out q3
  go_wp2_with fail
  clear cd fd
  obtain ⟨C39, hC40⟩ : ∃ C_ : Array Value, C32.setIfInBounds q3 (.int .u32 d36) = C_ := ⟨_, rfl⟩
  obtain ⟨w41, hW42⟩ : ∃ w_ : World, w_ = (w37.setCell ⟨b0, q3, none⟩ (.int .u32 d36)) := ⟨_, rfl⟩
  rw [← hW42]
  have HB_w41 : Aside0 (w41.heap[b0]? = some (.cells C39 43 (0, 0))) := ⟨by rw [hW42]; exact (blk_put HB_w37.out q3 _ hC40)⟩
  have FR_w41 : Aside0 (Fr b0 w w41) := ⟨by rw [hW42]; exact (FR_w37.out.set _ _)⟩
  have HY_w41 : Aside0 (w41.heap[y28]? = some (.cells #[.int .i64 8, .int .i64 7] 58 (0, 0))) := ⟨by rw [hW42]; exact ((Below.heap_setCell _ _ _ _ NY).trans HY_w37.out)⟩
  clear hW42 HB_w37 FR_w37 HY_w37
  have Ea_C39 : Aside0 (C39[q0]? = some (.int .u32 a31)) := ⟨by rw [← hC40]; exact (set_other (by omega)).trans Ea_C32.out⟩
  have Eb_C39 : Aside0 (C39[q1]? = some (.int .u32 b21)) := ⟨by rw [← hC40]; exact (set_other (by omega)).trans Eb_C32.out⟩
  have Ec_C39 : Aside0 (C39[q2]? = some (.int .u32 c16)) := ⟨by rw [← hC40]; exact (set_other (by omega)).trans Ec_C32.out⟩
  have Ed_C39 : Aside0 (C39[q3]? = some (.int .u32 d36)) := ⟨by rw [← hC40]; exact set_same Z_C32.out hq3⟩
  have Z_C39 : Aside0 (C39.size = 16) := ⟨by rw [← hC40]; simpa using Z_C32.out⟩
  have O_C39 : Aside0 (∀ j, j ≠ q0 → j ≠ q1 → j ≠ q2 → j ≠ q3 → C39[j]? = C[j]?) := ⟨fun j h0 h1 h2 h3 => by rw [← hC40]; exact (set_other (by omega)).trans (O_C32.out j h0 h1 h2 h3)⟩
  clear hC40 Ea_C32 Eb_C32 Ec_C32 Ed_C32 Z_C32 O_C32
  have cc : w41.cell? ⟨b0, q2, none⟩ = some (.int .u32 c16) := (blk_cell HB_w41.out q2).trans Ec_C39.out
  have cd : w41.cell? ⟨b0, q3, none⟩ = some (.int .u32 d36) := (blk_cell HB_w41.out q3).trans Ed_C39.out
  have fc : w41.frozen? ⟨b0, q2, none⟩ = false := blk_frozen HB_w41.out q2
  go_region
  go_wp2_with fail
  obtain ⟨c43, hc43⟩ : ∃ v_ : Int, (c16 + d36) % 4294967296 = v_ := ⟨_, rfl⟩
  rw [hc43]
  have bc43 : 0 ≤ c43 ∧ c43 ≤ 4294967295 := by omega
  have Vc43 := Aside0.mk hc43
  clear hc43 cc cd fc
  obtain ⟨C44, hC45⟩ : ∃ C_ : Array Value, C39.setIfInBounds q2 (.int .u32 c43) = C_ := ⟨_, rfl⟩
  obtain ⟨w46, hW47⟩ : ∃ w_ : World, w_ = (w41.setCell ⟨b0, q2, none⟩ (.int .u32 c43)).drew := ⟨_, rfl⟩
  rw [← hW47]
  have HB_w46 : Aside0 (w46.heap[b0]? = some (.cells C44 43 (0, 0))) := ⟨by rw [hW47]; exact blk_drew (blk_put HB_w41.out q2 _ hC45)⟩
  have FR_w46 : Aside0 (Fr b0 w w46) := ⟨by rw [hW47]; exact ((FR_w41.out.set _ _)).drew⟩
  have HY_w46 : Aside0 (w46.heap[y28]? = some (.cells #[.int .i64 8, .int .i64 7] 58 (0, 0))) := ⟨by rw [hW47]; exact blk_drew ((Below.heap_setCell _ _ _ _ NY).trans HY_w41.out)⟩
  clear hW47 HB_w41 FR_w41 HY_w41
  have Ea_C44 : Aside0 (C44[q0]? = some (.int .u32 a31)) := ⟨by rw [← hC45]; exact (set_other (by omega)).trans Ea_C39.out⟩
  have Eb_C44 : Aside0 (C44[q1]? = some (.int .u32 b21)) := ⟨by rw [← hC45]; exact (set_other (by omega)).trans Eb_C39.out⟩
  have Ec_C44 : Aside0 (C44[q2]? = some (.int .u32 c43)) := ⟨by rw [← hC45]; exact set_same Z_C39.out hq2⟩
  have Ed_C44 : Aside0 (C44[q3]? = some (.int .u32 d36)) := ⟨by rw [← hC45]; exact (set_other (by omega)).trans Ed_C39.out⟩
  have Z_C44 : Aside0 (C44.size = 16) := ⟨by rw [← hC45]; simpa using Z_C39.out⟩
  have O_C44 : Aside0 (∀ j, j ≠ q0 → j ≠ q1 → j ≠ q2 → j ≠ q3 → C44[j]? = C[j]?) := ⟨fun j h0 h1 h2 h3 => by rw [← hC45]; exact (set_other (by omega)).trans (O_C39.out j h0 h1 h2 h3)⟩
  clear hC45 Ea_C39 Eb_C39 Ec_C39 Ed_C39 Z_C39 O_C39
  have cb : w46.cell? ⟨b0, q1, none⟩ = some (.int .u32 b21) := (blk_cell HB_w46.out q1).trans Eb_C44.out
  have cc : w46.cell? ⟨b0, q2, none⟩ = some (.int .u32 c43) := (blk_cell HB_w46.out q2).trans Ec_C44.out
  have fb : w46.frozen? ⟨b0, q1, none⟩ = false := blk_frozen HB_w46.out q1
  have cy : w46.cell? ⟨y28, 1, none⟩ = some (.int .i64 7) := (blk_cell HY_w46.out 1).trans rfl
  refine wp_region_still_tail 12 (by kernel_rfl) (by kernel_rfl) ?_
  simp only [List.take_succ_cons, List.take_zero, List.drop_succ_cons, List.drop_zero]
  iterate 10 still_step
  still_call (rot7 (Go.bits .xor .u32 b21 c43) _ (xr_bd b21 c43).1 (xr_bd b21 c43).2)
  still_step
  refine wpStill_nil ?_
  clear cb cc fb cy
  obtain ⟨b48, hb48⟩ : ∃ v_ : Int, rot 128 33554432 (Go.bits .xor .u32 b21 c43) = v_ := ⟨_, rfl⟩
  rw [hb48]
  have bb48 : 0 ≤ b48 ∧ b48 ≤ 4294967295 := by rw [← hb48]; exact rot_bd 7 (by decide) (xr_bd b21 c43).1 (xr_bd b21 c43).2 (by decide) (by decide)
  have Vb48 := Aside0.mk hb48
  clear hb48
  change wpList _ _ _ _ _ w46.drew
  obtain ⟨w49, hW50⟩ : ∃ w_ : World, w_ = w46.drew := ⟨_, rfl⟩
  rw [← hW50]
  have HB_w49 : Aside0 (w49.heap[b0]? = some (.cells C44 43 (0, 0))) := ⟨by rw [hW50]; exact blk_drew HB_w46.out⟩
  have FR_w49 : Aside0 (Fr b0 w w49) := ⟨by rw [hW50]; exact FR_w46.out.drew⟩
  have HY_w49 : Aside0 (w49.heap[y28]? = some (.cells #[.int .i64 8, .int .i64 7] 58 (0, 0))) := ⟨by rw [hW50]; exact blk_drew HY_w46.out⟩
  clear hW50 HB_w46 FR_w46 HY_w46
  have cb : w49.cell? ⟨b0, q1, none⟩ = some (.int .u32 b21) := (blk_cell HB_w49.out q1).trans Eb_C44.out
  have fb : w49.frozen? ⟨b0, q1, none⟩ = false := blk_frozen HB_w49.out q1
  go_wp2_with fail
  clear cb fb
  obtain ⟨C51, hC52⟩ : ∃ C_ : Array Value, C44.setIfInBounds q1 (.int .u32 b48) = C_ := ⟨_, rfl⟩
  obtain ⟨w53, hW54⟩ : ∃ w_ : World, w_ = (w49.setCell ⟨b0, q1, none⟩ (.int .u32 b48)) := ⟨_, rfl⟩
  rw [← hW54]
  have HB_w53 : Aside0 (w53.heap[b0]? = some (.cells C51 43 (0, 0))) := ⟨by rw [hW54]; exact (blk_put HB_w49.out q1 _ hC52)⟩
  have FR_w53 : Aside0 (Fr b0 w w53) := ⟨by rw [hW54]; exact (FR_w49.out.set _ _)⟩
  have HY_w53 : Aside0 (w53.heap[y28]? = some (.cells #[.int .i64 8, .int .i64 7] 58 (0, 0))) := ⟨by rw [hW54]; exact ((Below.heap_setCell _ _ _ _ NY).trans HY_w49.out)⟩
  clear hW54 HB_w49 FR_w49 HY_w49
  have Ea_C51 : Aside0 (C51[q0]? = some (.int .u32 a31)) := ⟨by rw [← hC52]; exact (set_other (by omega)).trans Ea_C44.out⟩
  have Eb_C51 : Aside0 (C51[q1]? = some (.int .u32 b48)) := ⟨by rw [← hC52]; exact set_same Z_C44.out hq1⟩
  have Ec_C51 : Aside0 (C51[q2]? = some (.int .u32 c43)) := ⟨by rw [← hC52]; exact (set_other (by omega)).trans Ec_C44.out⟩
  have Ed_C51 : Aside0 (C51[q3]? = some (.int .u32 d36)) := ⟨by rw [← hC52]; exact (set_other (by omega)).trans Ed_C44.out⟩
  have Z_C51 : Aside0 (C51.size = 16) := ⟨by rw [← hC52]; simpa using Z_C44.out⟩
  have O_C51 : Aside0 (∀ j, j ≠ q0 → j ≠ q1 → j ≠ q2 → j ≠ q3 → C51[j]? = C[j]?) := ⟨fun j h0 h1 h2 h3 => by rw [← hC52]; exact (set_other (by omega)).trans (O_C44.out j h0 h1 h2 h3)⟩
  clear hC52 Ea_C44 Eb_C44 Ec_C44 Ed_C44 Z_C44 O_C44
  clear NY HY_w53
  rw [rounds_succ]
  go_wp2_with fail
  go_end0
  have hq : qr (a, b, c, d) = (a31, b48, c43, d36) := by simp only [qr, half, xr, Va4.out, Vd9.out, Vc16.out, Vb21.out, Va31.out, Vd36.out, Vc43.out, Vb48.out]
  rw [hq]
  exact ⟨rfl, C51, HB_w53.out, Z_C51.out, ⟨Ea_C51.out, Eb_C51.out, Ec_C51.out, Ed_C51.out⟩, O_C51.out, FR_w53.out⟩
end Go.Proofs.YtlpfmehcghhdcaaDoor.XB
