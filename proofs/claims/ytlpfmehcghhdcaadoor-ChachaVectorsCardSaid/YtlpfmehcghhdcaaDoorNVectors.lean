/- ChachaVectors' walk. -/
import Derived.Test.YtlpfmehcghhdcaaDoorM9
import Derived.BigQuiet
namespace Go.Proofs.YtlpfmehcghhdcaaDoor.XB
open Go.RowKit Go.Proofs.YtlpfmehcghhdcaaDoorW.PrintWords Go.Proofs.YtlpfmehcghhdcaaDoorW.PrintLast Go.Proofs.YtlpfmehcghhdcaaDoorW.PrintMore PChachaTells
set_option linter.unusedVariables false
set_option linter.unusedSimpArgs false
variable {T : Nat × Nat × Nat}

theorem cat_blocks : strOfNums a_out ++ strOfNums b_out = strOfNums (streamL KZ VZ 128) := by
  have h1 := streamL_block KZ VZ 0 64 (by omega)
  have h2 := streamL_block KZ VZ 1 64 (by omega)
  have ea : (blockL KZ ((0 : Nat) : Int) VZ).take 64 = a_out := by
    have : blockL KZ ((0 : Nat) : Int) VZ = a_out := a_block
    rw [this]; rfl
  have eb : (blockL KZ ((1 : Nat) : Int) VZ).take 64 = b_out := by
    have : blockL KZ ((1 : Nat) : Int) VZ = b_out := b_block
    rw [this]; rfl
  rw [ea] at h1
  rw [eb] at h2
  have h0 : streamL KZ VZ (64 * 0) = [] := rfl
  rw [h0, List.nil_append] at h1
  have h3 : streamL KZ VZ (64 * 1) = a_out := by rw [h1]
  rw [h3] at h2
  rw [show (128 : Nat) = 64 * 1 + 64 from rfl, ← h2]
  apply ByteArray.ext
  simp [strOfNums]
theorem u8_and (x : Int) (h : (Lit.int .u8 x).wf = true) : Go.bits .and .u8 x 255 = x := by
  have hb : 0 ≤ x ∧ x ≤ 255 := by
    simp [Lit.wf, IntKind.min, IntKind.max, IntKind.signed, IntKind.bits] at h
    omega
  obtain ⟨n, rfl⟩ : ∃ n : Nat, x = n := ⟨x.toNat, by omega⟩
  have : ∀ n : Nat, n < 256 → Go.bits .and .u8 (n : Int) 255 = n := of_decide_eq_true (by kernel_rfl)
  exact this n (by omega)
theorem KZ_eq : KZ = #[.int .u8 0, .int .u8 0, .int .u8 0, .int .u8 0, .int .u8 0, .int .u8 0, .int .u8 0, .int .u8 0, .int .u8 0, .int .u8 0, .int .u8 0, .int .u8 0, .int .u8 0, .int .u8 0, .int .u8 0, .int .u8 0, .int .u8 0, .int .u8 0, .int .u8 0, .int .u8 0, .int .u8 0, .int .u8 0, .int .u8 0, .int .u8 0, .int .u8 0, .int .u8 0, .int .u8 0, .int .u8 0, .int .u8 0, .int .u8 0, .int .u8 0, .int .u8 0] := rfl
theorem VZ_eq : VZ = #[.int .u8 0, .int .u8 0, .int .u8 0, .int .u8 0, .int .u8 0, .int .u8 0, .int .u8 0, .int .u8 0, .int .u8 0, .int .u8 0, .int .u8 0, .int .u8 0] := rfl
theorem bytes_Z32 : Bytes #[.int .u8 0, .int .u8 0, .int .u8 0, .int .u8 0, .int .u8 0, .int .u8 0, .int .u8 0, .int .u8 0, .int .u8 0, .int .u8 0, .int .u8 0, .int .u8 0, .int .u8 0, .int .u8 0, .int .u8 0, .int .u8 0, .int .u8 0, .int .u8 0, .int .u8 0, .int .u8 0, .int .u8 0, .int .u8 0, .int .u8 0, .int .u8 0, .int .u8 0, .int .u8 0, .int .u8 0, .int .u8 0, .int .u8 0, .int .u8 0, .int .u8 0, .int .u8 0] 32 := KZ_eq ▸ bytes_KZ
theorem bytes_Z12 : Bytes #[.int .u8 0, .int .u8 0, .int .u8 0, .int .u8 0, .int .u8 0, .int .u8 0, .int .u8 0, .int .u8 0, .int .u8 0, .int .u8 0, .int .u8 0, .int .u8 0] 12 := VZ_eq ▸ bytes_VZ
theorem a_lit : blockL #[.int .u8 0, .int .u8 0, .int .u8 0, .int .u8 0, .int .u8 0, .int .u8 0, .int .u8 0, .int .u8 0, .int .u8 0, .int .u8 0, .int .u8 0, .int .u8 0, .int .u8 0, .int .u8 0, .int .u8 0, .int .u8 0, .int .u8 0, .int .u8 0, .int .u8 0, .int .u8 0, .int .u8 0, .int .u8 0, .int .u8 0, .int .u8 0, .int .u8 0, .int .u8 0, .int .u8 0, .int .u8 0, .int .u8 0, .int .u8 0, .int .u8 0, .int .u8 0] 0 #[.int .u8 0, .int .u8 0, .int .u8 0, .int .u8 0, .int .u8 0, .int .u8 0, .int .u8 0, .int .u8 0, .int .u8 0, .int .u8 0, .int .u8 0, .int .u8 0] = a_out := by rw [← KZ_eq, ← VZ_eq]; exact a_block
theorem b_lit : blockL #[.int .u8 0, .int .u8 0, .int .u8 0, .int .u8 0, .int .u8 0, .int .u8 0, .int .u8 0, .int .u8 0, .int .u8 0, .int .u8 0, .int .u8 0, .int .u8 0, .int .u8 0, .int .u8 0, .int .u8 0, .int .u8 0, .int .u8 0, .int .u8 0, .int .u8 0, .int .u8 0, .int .u8 0, .int .u8 0, .int .u8 0, .int .u8 0, .int .u8 0, .int .u8 0, .int .u8 0, .int .u8 0, .int .u8 0, .int .u8 0, .int .u8 0, .int .u8 0] 1 #[.int .u8 0, .int .u8 0, .int .u8 0, .int .u8 0, .int .u8 0, .int .u8 0, .int .u8 0, .int .u8 0, .int .u8 0, .int .u8 0, .int .u8 0, .int .u8 0] = b_out := by rw [← KZ_eq, ← VZ_eq]; exact b_block
theorem s_lit : streamL #[.int .u8 0, .int .u8 0, .int .u8 0, .int .u8 0, .int .u8 0, .int .u8 0, .int .u8 0, .int .u8 0, .int .u8 0, .int .u8 0, .int .u8 0, .int .u8 0, .int .u8 0, .int .u8 0, .int .u8 0, .int .u8 0, .int .u8 0, .int .u8 0, .int .u8 0, .int .u8 0, .int .u8 0, .int .u8 0, .int .u8 0, .int .u8 0, .int .u8 0, .int .u8 0, .int .u8 0, .int .u8 0, .int .u8 0, .int .u8 0, .int .u8 0, .int .u8 0] #[.int .u8 0, .int .u8 0, .int .u8 0, .int .u8 0, .int .u8 0, .int .u8 0, .int .u8 0, .int .u8 0, .int .u8 0, .int .u8 0, .int .u8 0, .int .u8 0] 128 = streamL KZ VZ 128 := by rw [← KZ_eq, ← VZ_eq]
theorem callA (w : World) (hv : Vars T w) : Calls Tryd.prog 12 #[.agg #[.int .u8 0, .int .u8 0, .int .u8 0, .int .u8 0, .int .u8 0, .int .u8 0, .int .u8 0, .int .u8 0, .int .u8 0, .int .u8 0, .int .u8 0, .int .u8 0, .int .u8 0, .int .u8 0, .int .u8 0, .int .u8 0, .int .u8 0, .int .u8 0, .int .u8 0, .int .u8 0, .int .u8 0, .int .u8 0, .int .u8 0, .int .u8 0, .int .u8 0, .int .u8 0, .int .u8 0, .int .u8 0, .int .u8 0, .int .u8 0, .int .u8 0, .int .u8 0], .int .u32 0, .agg #[.int .u8 0, .int .u8 0, .int .u8 0, .int .u8 0, .int .u8 0, .int .u8 0, .int .u8 0, .int .u8 0, .int .u8 0, .int .u8 0, .int .u8 0, .int .u8 0]] w fun e w' => e = .returned (.agg (toB a_out)) ∧ Below w.heap.size w w' := by
  have h := block_any #[.int .u8 0, .int .u8 0, .int .u8 0, .int .u8 0, .int .u8 0, .int .u8 0, .int .u8 0, .int .u8 0, .int .u8 0, .int .u8 0, .int .u8 0, .int .u8 0, .int .u8 0, .int .u8 0, .int .u8 0, .int .u8 0, .int .u8 0, .int .u8 0, .int .u8 0, .int .u8 0, .int .u8 0, .int .u8 0, .int .u8 0, .int .u8 0, .int .u8 0, .int .u8 0, .int .u8 0, .int .u8 0, .int .u8 0, .int .u8 0, .int .u8 0, .int .u8 0] #[.int .u8 0, .int .u8 0, .int .u8 0, .int .u8 0, .int .u8 0, .int .u8 0, .int .u8 0, .int .u8 0, .int .u8 0, .int .u8 0, .int .u8 0, .int .u8 0] 0 w bytes_Z32 bytes_Z12 hv
  rw [a_lit] at h
  exact h
theorem callB (w : World) (hv : Vars T w) : Calls Tryd.prog 12 #[.agg #[.int .u8 0, .int .u8 0, .int .u8 0, .int .u8 0, .int .u8 0, .int .u8 0, .int .u8 0, .int .u8 0, .int .u8 0, .int .u8 0, .int .u8 0, .int .u8 0, .int .u8 0, .int .u8 0, .int .u8 0, .int .u8 0, .int .u8 0, .int .u8 0, .int .u8 0, .int .u8 0, .int .u8 0, .int .u8 0, .int .u8 0, .int .u8 0, .int .u8 0, .int .u8 0, .int .u8 0, .int .u8 0, .int .u8 0, .int .u8 0, .int .u8 0, .int .u8 0], .int .u32 1, .agg #[.int .u8 0, .int .u8 0, .int .u8 0, .int .u8 0, .int .u8 0, .int .u8 0, .int .u8 0, .int .u8 0, .int .u8 0, .int .u8 0, .int .u8 0, .int .u8 0]] w fun e w' => e = .returned (.agg (toB b_out)) ∧ Below w.heap.size w w' := by
  have h := block_any #[.int .u8 0, .int .u8 0, .int .u8 0, .int .u8 0, .int .u8 0, .int .u8 0, .int .u8 0, .int .u8 0, .int .u8 0, .int .u8 0, .int .u8 0, .int .u8 0, .int .u8 0, .int .u8 0, .int .u8 0, .int .u8 0, .int .u8 0, .int .u8 0, .int .u8 0, .int .u8 0, .int .u8 0, .int .u8 0, .int .u8 0, .int .u8 0, .int .u8 0, .int .u8 0, .int .u8 0, .int .u8 0, .int .u8 0, .int .u8 0, .int .u8 0, .int .u8 0] #[.int .u8 0, .int .u8 0, .int .u8 0, .int .u8 0, .int .u8 0, .int .u8 0, .int .u8 0, .int .u8 0, .int .u8 0, .int .u8 0, .int .u8 0, .int .u8 0] 1 w bytes_Z32 bytes_Z12 hv
  rw [b_lit] at h
  exact h
theorem callS (w : World) (hv : Vars T w) : Calls Tryd.prog 11 #[.agg #[.int .u8 0, .int .u8 0, .int .u8 0, .int .u8 0, .int .u8 0, .int .u8 0, .int .u8 0, .int .u8 0, .int .u8 0, .int .u8 0, .int .u8 0, .int .u8 0, .int .u8 0, .int .u8 0, .int .u8 0, .int .u8 0, .int .u8 0, .int .u8 0, .int .u8 0, .int .u8 0, .int .u8 0, .int .u8 0, .int .u8 0, .int .u8 0, .int .u8 0, .int .u8 0, .int .u8 0, .int .u8 0, .int .u8 0, .int .u8 0, .int .u8 0, .int .u8 0], .agg #[.int .u8 0, .int .u8 0, .int .u8 0, .int .u8 0, .int .u8 0, .int .u8 0, .int .u8 0, .int .u8 0, .int .u8 0, .int .u8 0, .int .u8 0, .int .u8 0], .int .i64 128] w fun e w' => ∃ A c, e = .returned (.slice A 128 c) ∧ (∀ m, (convert 26 9 (.slice A 128 c)).run Tryd.prog (w'.drewN m) = .ok (.string (strOfNums a_out ++ strOfNums b_out)) (w'.drewN m)) ∧ Below w.heap.size w w' := by
  refine (stream_any #[.int .u8 0, .int .u8 0, .int .u8 0, .int .u8 0, .int .u8 0, .int .u8 0, .int .u8 0, .int .u8 0, .int .u8 0, .int .u8 0, .int .u8 0, .int .u8 0, .int .u8 0, .int .u8 0, .int .u8 0, .int .u8 0, .int .u8 0, .int .u8 0, .int .u8 0, .int .u8 0, .int .u8 0, .int .u8 0, .int .u8 0, .int .u8 0, .int .u8 0, .int .u8 0, .int .u8 0, .int .u8 0, .int .u8 0, .int .u8 0, .int .u8 0, .int .u8 0] #[.int .u8 0, .int .u8 0, .int .u8 0, .int .u8 0, .int .u8 0, .int .u8 0, .int .u8 0, .int .u8 0, .int .u8 0, .int .u8 0, .int .u8 0, .int .u8 0] 128 w bytes_Z32 bytes_Z12 hv (by omega) (by omega)).mono ?_
  rintro e w' ⟨v, rfl, hR, hB⟩
  obtain ⟨A, c, e7⟩ := Kd.R_slice hR
  rw [streamL_len] at e7
  subst e7
  refine ⟨A, c, rfl, ?_, hB⟩
  intro m
  have h := str_of_R (Kd.R_drewN hR m)
  rw [show ((128 : Int).toNat) = 128 from rfl, s_lit, ← cat_blocks] at h
  exact h
theorem storeA (w6 : World) : (storeCells ⟨w6.heap.size, 0, none⟩ (toB a_out).toList).run Tryd.prog (w6.alloc (.cells #[.int .u8 0, .int .u8 0, .int .u8 0, .int .u8 0, .int .u8 0, .int .u8 0, .int .u8 0, .int .u8 0, .int .u8 0, .int .u8 0, .int .u8 0, .int .u8 0, .int .u8 0, .int .u8 0, .int .u8 0, .int .u8 0, .int .u8 0, .int .u8 0, .int .u8 0, .int .u8 0, .int .u8 0, .int .u8 0, .int .u8 0, .int .u8 0, .int .u8 0, .int .u8 0, .int .u8 0, .int .u8 0, .int .u8 0, .int .u8 0, .int .u8 0, .int .u8 0, .int .u8 0, .int .u8 0, .int .u8 0, .int .u8 0, .int .u8 0, .int .u8 0, .int .u8 0, .int .u8 0, .int .u8 0, .int .u8 0, .int .u8 0, .int .u8 0, .int .u8 0, .int .u8 0, .int .u8 0, .int .u8 0, .int .u8 0, .int .u8 0, .int .u8 0, .int .u8 0, .int .u8 0, .int .u8 0, .int .u8 0, .int .u8 0, .int .u8 0, .int .u8 0, .int .u8 0, .int .u8 0, .int .u8 0, .int .u8 0, .int .u8 0, .int .u8 0] 29)) = .ok () (w6.alloc (.cells (toB a_out) 29)) := by
  have h := store_64 w6 #[.int .u8 0, .int .u8 0, .int .u8 0, .int .u8 0, .int .u8 0, .int .u8 0, .int .u8 0, .int .u8 0, .int .u8 0, .int .u8 0, .int .u8 0, .int .u8 0, .int .u8 0, .int .u8 0, .int .u8 0, .int .u8 0, .int .u8 0, .int .u8 0, .int .u8 0, .int .u8 0, .int .u8 0, .int .u8 0, .int .u8 0, .int .u8 0, .int .u8 0, .int .u8 0, .int .u8 0, .int .u8 0, .int .u8 0, .int .u8 0, .int .u8 0, .int .u8 0] #[.int .u8 0, .int .u8 0, .int .u8 0, .int .u8 0, .int .u8 0, .int .u8 0, .int .u8 0, .int .u8 0, .int .u8 0, .int .u8 0, .int .u8 0, .int .u8 0] 0
  rw [a_lit] at h
  exact h
theorem storeB (w6 : World) : (storeCells ⟨w6.heap.size, 0, none⟩ (toB b_out).toList).run Tryd.prog (w6.alloc (.cells #[.int .u8 0, .int .u8 0, .int .u8 0, .int .u8 0, .int .u8 0, .int .u8 0, .int .u8 0, .int .u8 0, .int .u8 0, .int .u8 0, .int .u8 0, .int .u8 0, .int .u8 0, .int .u8 0, .int .u8 0, .int .u8 0, .int .u8 0, .int .u8 0, .int .u8 0, .int .u8 0, .int .u8 0, .int .u8 0, .int .u8 0, .int .u8 0, .int .u8 0, .int .u8 0, .int .u8 0, .int .u8 0, .int .u8 0, .int .u8 0, .int .u8 0, .int .u8 0, .int .u8 0, .int .u8 0, .int .u8 0, .int .u8 0, .int .u8 0, .int .u8 0, .int .u8 0, .int .u8 0, .int .u8 0, .int .u8 0, .int .u8 0, .int .u8 0, .int .u8 0, .int .u8 0, .int .u8 0, .int .u8 0, .int .u8 0, .int .u8 0, .int .u8 0, .int .u8 0, .int .u8 0, .int .u8 0, .int .u8 0, .int .u8 0, .int .u8 0, .int .u8 0, .int .u8 0, .int .u8 0, .int .u8 0, .int .u8 0, .int .u8 0, .int .u8 0] 29)) = .ok () (w6.alloc (.cells (toB b_out) 29)) := by
  have h := store_64 w6 #[.int .u8 0, .int .u8 0, .int .u8 0, .int .u8 0, .int .u8 0, .int .u8 0, .int .u8 0, .int .u8 0, .int .u8 0, .int .u8 0, .int .u8 0, .int .u8 0, .int .u8 0, .int .u8 0, .int .u8 0, .int .u8 0, .int .u8 0, .int .u8 0, .int .u8 0, .int .u8 0, .int .u8 0, .int .u8 0, .int .u8 0, .int .u8 0, .int .u8 0, .int .u8 0, .int .u8 0, .int .u8 0, .int .u8 0, .int .u8 0, .int .u8 0, .int .u8 0] #[.int .u8 0, .int .u8 0, .int .u8 0, .int .u8 0, .int .u8 0, .int .u8 0, .int .u8 0, .int .u8 0, .int .u8 0, .int .u8 0, .int .u8 0, .int .u8 0] 1
  rw [b_lit] at h
  exact h
theorem a16 : strOfNums ((a_out.drop 0).take 16) = ⟨#[118, 184, 224, 173, 160, 241, 61, 144, 64, 93, 106, 229, 83, 134, 189, 40]⟩ := by kernel_rfl
theorem b16 : strOfNums ((b_out.drop 0).take 16) = ⟨#[159, 7, 231, 190, 85, 81, 56, 122, 152, 186, 151, 124, 115, 45, 8, 13]⟩ := by kernel_rfl
theorem a64 : (a_out.drop 0).take 64 = a_out := by kernel_rfl
theorem b64 : (b_out.drop 0).take 64 = b_out := by kernel_rfl

set_option maxHeartbeats 4000000 in
set_option maxRecDepth 100000 in
theorem vectors_any (x : Int) (w : World) (hx : (Lit.int .u8 x).wf = true) (hv : Vars T w) :
    Calls Tryd.prog 4 #[.int .u8 x] w fun e w' => e = .returned (.bool true) ∧ Below w.heap.size w w' := by
  have HG := Aside0.mk hv
  clear hv
  have hx8 := u8_and x hx
  go_enter Tryd.func4, Tryd.ntmps4
  go_wp2_with (first | (go_at_call 10; (with_reducible refine (shown_any _ HG.out).mono ?_); rintro e w2 ⟨rfl, b2⟩; have b2 := Aside0.mk b2) | (refine wpList_load_row rfl 23 _ rfl w2.heap.size rfl 23 _ (0, 0) _ (blk_new w2 (.cells #[.int .u8 0, .int .u8 0, .int .u8 0, .int .u8 0, .int .u8 0, .int .u8 0, .int .u8 0, .int .u8 0, .int .u8 0, .int .u8 0, .int .u8 0, .int .u8 0, .int .u8 0, .int .u8 0, .int .u8 0, .int .u8 0, .int .u8 0, .int .u8 0, .int .u8 0, .int .u8 0, .int .u8 0, .int .u8 0, .int .u8 0, .int .u8 0, .int .u8 0, .int .u8 0, .int .u8 0, .int .u8 0, .int .u8 0, .int .u8 0, .int .u8 0, .int .u8 0] 23)) Tryd.underlying23 rfl (by kernel_rfl) ?_))
  obtain ⟨w3, hW⟩ : ∃ w_ : World, w_ = w2.alloc (.cells #[.int .u8 0, .int .u8 0, .int .u8 0, .int .u8 0, .int .u8 0, .int .u8 0, .int .u8 0, .int .u8 0, .int .u8 0, .int .u8 0, .int .u8 0, .int .u8 0, .int .u8 0, .int .u8 0, .int .u8 0, .int .u8 0, .int .u8 0, .int .u8 0, .int .u8 0, .int .u8 0, .int .u8 0, .int .u8 0, .int .u8 0, .int .u8 0, .int .u8 0, .int .u8 0, .int .u8 0, .int .u8 0, .int .u8 0, .int .u8 0, .int .u8 0, .int .u8 0] 23) := ⟨_, rfl⟩
  rw [← hW]
  have bC : Aside0 (Below w.heap.size w w3) := ⟨by rw [hW]; exact below_alloc b2.out _⟩
  have vC : Aside0 (Vars T w3) := ⟨HG.out.below bC.out HG.out.size⟩
  have kC : Aside0 (w3.heap[w2.heap.size]? = some (.cells #[.int .u8 0, .int .u8 0, .int .u8 0, .int .u8 0, .int .u8 0, .int .u8 0, .int .u8 0, .int .u8 0, .int .u8 0, .int .u8 0, .int .u8 0, .int .u8 0, .int .u8 0, .int .u8 0, .int .u8 0, .int .u8 0, .int .u8 0, .int .u8 0, .int .u8 0, .int .u8 0, .int .u8 0, .int .u8 0, .int .u8 0, .int .u8 0, .int .u8 0, .int .u8 0, .int .u8 0, .int .u8 0, .int .u8 0, .int .u8 0, .int .u8 0, .int .u8 0] 23 (0, 0))) := ⟨by rw [hW]; exact blk_new _ _⟩
  clear hW
  generalize w2.heap.size = kb at kC ⊢
  go_wp2_with (first | (refine wpList_load_row rfl 23 _ rfl kb rfl 23 _ (0, 0) _ kC.out Tryd.underlying23 rfl (by kernel_rfl) ?_) | (go_at_call 12; (with_reducible refine (callA _ vC.out).mono ?_); rintro e w4 ⟨rfl, b4⟩; have HS := storeA w4; have b4 := Aside0.mk b4; have bC := Aside0.mk (below_alloc (below_then bC.out bC.out.size b4.out) (.cells (toB a_out) 29)); have vC := Aside0.mk (HG.out.below bC.out HG.out.size); have kC := Aside0.mk (blk_alloc (blk_below kC.out b4.out) (.cells (toB a_out) 29)); have hA := Aside0.mk (blk_new w4 (.cells (toB a_out) 29))) | (go_at_call 12; (with_reducible refine (callB _ vC.out).mono ?_); rintro e w6 ⟨rfl, b6⟩; have HS2 := storeB w6; have b6 := Aside0.mk b6; have bC := Aside0.mk (below_alloc (below_then bC.out bC.out.size b6.out) (.cells (toB b_out) 29)); have vC := Aside0.mk (HG.out.below bC.out HG.out.size); have kC := Aside0.mk (blk_alloc (blk_below kC.out b6.out) (.cells (toB b_out) 29)); have hA := Aside0.mk (blk_alloc (blk_below hA.out b6.out) (.cells (toB b_out) 29)); have hB := Aside0.mk (blk_new w6 (.cells (toB b_out) 29))) | (go_at_call 11; (with_reducible refine (callS _ vC.out).mono ?_); rintro e w8 ⟨A, c, rfl, hS, b8⟩; have hS9 := Aside0.mk hS; clear hS; have b8 := Aside0.mk b8; have bC := Aside0.mk (below_then bC.out bC.out.size b8.out); have hA := Aside0.mk (blk_below hA.out b8.out); have hB := Aside0.mk (blk_below hB.out b8.out)))
  clear HS HS2
  have f1 := fun m => str_of_block (blk_drewN hA.out m) 0 16 64 (by decide) (by decide)
  have f2 := fun m => str_of_block (blk_drewN hB.out m) 0 16 64 (by decide) (by decide)
  have f3 := fun m => str_of_block (blk_drewN hA.out m) 0 64 64 (by decide) (by decide)
  have f4 := fun m => str_of_block (blk_drewN hB.out m) 0 64 64 (by decide) (by decide)
  have f5 := hS9.out
  simp only [a16] at f1
  simp only [b16] at f2
  simp only [a64] at f3
  simp only [b64] at f4
  have hsA : (strOfNums a_out).size = 64 := strOfNums_size _
  have hsB : (strOfNums b_out).size = 64 := strOfNums_size _
  obtain ⟨SA, hSA⟩ : ∃ S_, strOfNums a_out = S_ := ⟨_, rfl⟩
  obtain ⟨SB, hSB⟩ : ∃ S_, strOfNums b_out = S_ := ⟨_, rfl⟩
  simp only [hSA, hSB] at f3 f4 f5 hsA hsB
  have hsAB : SA.size + SB.size ≤ 140737488355328 := by omega
  clear hSA hSB
  generalize w4.heap.size = ga at f1 f3 ⊢
  generalize w6.heap.size = gb at f2 f4 ⊢
  go_quiet (fail)
  go_wp2_with fail
  go_ret
  exact ⟨rfl, pw_below_drewN bC.out _⟩
end Go.Proofs.YtlpfmehcghhdcaaDoor.XB
