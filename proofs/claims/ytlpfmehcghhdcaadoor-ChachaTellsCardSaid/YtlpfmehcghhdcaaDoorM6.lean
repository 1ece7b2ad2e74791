/- A stream: the Go code comes to the plain function 'streamL': the blocks' bytes, one behind the other, so many as were asked for. -/
import Derived.Test.YtlpfmehcghhdcaaDoorM5
namespace Go.Proofs.YtlpfmehcghhdcaaDoor.XB
open Go.RowKit Go.Proofs.YtlpfmehcghhdcaaDoorW.PrintWords Go.Proofs.YtlpfmehcghhdcaaDoorW.PrintLast Go.Proofs.YtlpfmehcghhdcaaDoorW.PrintMore PChachaTells
set_option linter.unusedVariables false
set_option linter.unusedSimpArgs false
variable {T : Nat × Nat × Nat}

def streamAt (K V : Array Value) (i : Nat) : Int := (blockL K ((i / 64 : Nat) : Int) V).getD (i % 64) 0
def streamL (K V : Array Value) (n : Nat) : List Int := (List.range n).map (streamAt K V)
theorem streamL_len (K V n) : (streamL K V n).length = n := by simp [streamL]
theorem streamL_get (K V : Array Value) (n i : Nat) (h : i < n) : (streamL K V n)[i]? = some (streamAt K V i) := by simp [streamL, h]
theorem streamL_take (K V : Array Value) (n m : Nat) (h : m ≤ n) : (streamL K V n).take m = streamL K V m := by
  apply List.ext_getElem? ; intro i
  by_cases hi : i < m
  · rw [List.getElem?_take_of_lt hi, streamL_get _ _ _ _ (by omega), streamL_get _ _ _ _ hi]
  · rw [List.getElem?_eq_none (by simp; omega), List.getElem?_eq_none (by rw [streamL_len]; omega)]
theorem block_get (K : Array Value) (c : Int) (V : Array Value) (i : Nat) (h : i < 64) : (blockL K c V)[i]? = some ((blockL K c V).getD i 0) := by
  rw [List.getElem?_eq_getElem (by rw [blockL_len]; omega)]; simp [List.getD, List.getElem?_eq_getElem (show i < (blockL K c V).length by rw [blockL_len]; omega)]
theorem streamL_block (K V : Array Value) (k n : Nat) (h : n ≤ 64) : streamL K V (64 * k) ++ (blockL K (k : Int) V).take n = streamL K V (64 * k + n) := by
  apply List.ext_getElem? ; intro i
  by_cases hi : i < 64 * k
  · rw [List.getElem?_append_left (by rw [streamL_len]; omega), streamL_get _ _ _ _ hi, streamL_get _ _ _ _ (by omega)]
  · rw [List.getElem?_append_right (by rw [streamL_len]; omega), streamL_len]
    by_cases h2 : i < 64 * k + n
    · rw [List.getElem?_take_of_lt (by omega), streamL_get _ _ _ _ h2, block_get _ _ _ _ (by omega)]
      unfold streamAt
      rw [show i / 64 = k by omega, show i % 64 = i - 64 * k by omega]
    · rw [List.getElem?_eq_none (by simp; omega), List.getElem?_eq_none (by rw [streamL_len]; omega)]

theorem add_at (g o j : Nat) : (⟨g, o, none⟩ : Addr).add j = ⟨g, o + j, none⟩ := by
  unfold Addr.add; split <;> simp_all
/-- A part of a block of bytes is read. -/
theorem C_block {w : World} {g t : Nat} {L : List Int} (h : w.heap[g]? = some (.cells (toB L) t (0, 0))) (o m : Nat) (hl : o + m ≤ L.length) (hm : m ≤ 1000000) :
    (Kd.int .u8).C w (some ⟨g, o, none⟩) m ((L.drop o).take m) := by
  refine ⟨by simp; omega, by omega, fun _ => ⟨_, rfl, fun j p hj => ⟨[.int .u8 p], rfl, rfl, fun i u hu => ?_⟩⟩⟩
  rcases i with _ | i
  · obtain rfl : Value.int .u8 p = u := by simpa using hu
    show w.cell? ((⟨g, o, none⟩ : Addr).add (j * 1 + 0)) = _
    rw [add_at, show o + (j * 1 + 0) = o + j by omega, blk_cell h, toB_get]
    rw [List.getElem?_take, List.getElem?_drop] at hj
    split at hj
    · rw [hj]; rfl
    · cases hj
  · simp at hu

theorem len29 : Tryd.prog.arrayLen 29 = 64 := by kernel_rfl
theorem arr29 : Tryd.prog.underlying 29 = some (.array (Tryd.prog.arrayLen 29) (Tryd.prog.elem 29)) := by kernel_rfl
theorem size29 (w : World) : (sizeOf (Tryd.prog.elem 29)).run Tryd.prog w = .ok 1 w := by kernel_rfl
theorem cut29 (j : Int) (h0 : 0 ≤ j) (h1 : j ≤ 64) (w : World) (g : Nat) : (Instr.sliceAt 29 (.pointer (some ⟨g, 0, none⟩)) none (some (.int .i64 j)) none).run Tryd.prog w = .ok (.slice (some ⟨g, 0, none⟩) j.toNat 64) w := by
  rw [run_sliceAt_array_h w 29 ⟨g, 0, none⟩ arr29 .i64 j h0 (by rw [len29]; omega), size29]
  simp [slicedAt, len29, Result.andThen, add_at]

theorem store_64 (w6 : World) (K V : Array Value) (ctr : Int) : (storeCells ⟨w6.heap.size, 0, none⟩ (toB (blockL K ctr V)).toList).run Tryd.prog (w6.alloc (.cells #[.int .u8 0, .int .u8 0, .int .u8 0, .int .u8 0, .int .u8 0, .int .u8 0, .int .u8 0, .int .u8 0, .int .u8 0, .int .u8 0, .int .u8 0, .int .u8 0, .int .u8 0, .int .u8 0, .int .u8 0, .int .u8 0, .int .u8 0, .int .u8 0, .int .u8 0, .int .u8 0, .int .u8 0, .int .u8 0, .int .u8 0, .int .u8 0, .int .u8 0, .int .u8 0, .int .u8 0, .int .u8 0, .int .u8 0, .int .u8 0, .int .u8 0, .int .u8 0, .int .u8 0, .int .u8 0, .int .u8 0, .int .u8 0, .int .u8 0, .int .u8 0, .int .u8 0, .int .u8 0, .int .u8 0, .int .u8 0, .int .u8 0, .int .u8 0, .int .u8 0, .int .u8 0, .int .u8 0, .int .u8 0, .int .u8 0, .int .u8 0, .int .u8 0, .int .u8 0, .int .u8 0, .int .u8 0, .int .u8 0, .int .u8 0, .int .u8 0, .int .u8 0, .int .u8 0, .int .u8 0, .int .u8 0, .int .u8 0, .int .u8 0, .int .u8 0] 29)) = .ok () (w6.alloc (.cells (toB (blockL K ctr V)) 29)) :=
  run_storeCells_new (P := Tryd.prog) w6 29 #[.int .u8 0, .int .u8 0, .int .u8 0, .int .u8 0, .int .u8 0, .int .u8 0, .int .u8 0, .int .u8 0, .int .u8 0, .int .u8 0, .int .u8 0, .int .u8 0, .int .u8 0, .int .u8 0, .int .u8 0, .int .u8 0, .int .u8 0, .int .u8 0, .int .u8 0, .int .u8 0, .int .u8 0, .int .u8 0, .int .u8 0, .int .u8 0, .int .u8 0, .int .u8 0, .int .u8 0, .int .u8 0, .int .u8 0, .int .u8 0, .int .u8 0, .int .u8 0, .int .u8 0, .int .u8 0, .int .u8 0, .int .u8 0, .int .u8 0, .int .u8 0, .int .u8 0, .int .u8 0, .int .u8 0, .int .u8 0, .int .u8 0, .int .u8 0, .int .u8 0, .int .u8 0, .int .u8 0, .int .u8 0, .int .u8 0, .int .u8 0, .int .u8 0, .int .u8 0, .int .u8 0, .int .u8 0, .int .u8 0, .int .u8 0, .int .u8 0, .int .u8 0, .int .u8 0, .int .u8 0, .int .u8 0, .int .u8 0, .int .u8 0, .int .u8 0] (toB (blockL K ctr V)) (by rw [toB_size, blockL_len]; kernel_rfl) (by rw [toB_size, blockL_len]; kernel_rfl) (by simp [toB, Value.oneCell'])

set_option maxHeartbeats 4000000 in
set_option maxRecDepth 100000 in
theorem stream_any (K V : Array Value) (n : Int) (w : World) (hK : Bytes K 32) (hV : Bytes V 12) (hv : Vars T w) (hn : n ≤ 65536) (hn0 : -9223372036854775808 ≤ n) :
    Calls Tryd.prog 11 #[.agg K, .agg V, .int .i64 n] w fun e w' => ∃ v, e = .returned v ∧ Kd.R (Kd.int .u8) 5 w' w.heap.size (fun _ => True) v (streamL K V n.toNat) ∧ Below w.heap.size w w' := by
  have HG := Aside0.mk hv
  have KB := Aside0.mk hK
  have VB := Aside0.mk hV
  clear hv hK hV
  go_enter Tryd.func11, Tryd.ntmps11
  go_wp2_with fail
  obtain ⟨w1, hW⟩ : ∃ w_ : World, w_ = ((w.alloc (.cells K 23)).alloc (.cells V 24)) := ⟨_, rfl⟩
  rw [← hW]
  have BE : Aside0 (Below w.heap.size w w1) := ⟨by rw [hW]; exact Below.alloc (Below.alloc (Below.refl _ _) (Nat.le_refl _) _) (by simp only [sz_alloc]; omega) _⟩
  have HK : Aside0 (w1.heap[w.heap.size]? = some (.cells K 23 (0, 0))) := ⟨by rw [hW]; exact blk_alloc (blk_new _ _) _⟩
  have HV : Aside0 (w1.heap[w.heap.size + 1]? = some (.cells V 24 (0, 0))) := ⟨by rw [hW]; have := (blk_new (w.alloc (.cells K 23)) (.cells V 24)); simp only [sz_alloc] at this; exact this⟩
  clear hW
  have H3 := Aside0.mk (HG.out.size)
  have VA : Aside0 (Vars T w1) := ⟨HG.out.below BE.out H3.out⟩
  generalize w.heap.size + 1 = nb at HV ⊢
  generalize hkb : w.heap.size = kb at HK ⊢
  generalize hN : n.toNat = N
  go_loopw [7, 8] (fun v7 v8 wr => ∃ k : Nat, 64 * k < N + 64 ∧ v8 = .int .u32 k ∧ Aside0 (Kd.R (Kd.int .u8) 5 wr w.heap.size (fun _ => True) v7 (streamL K V (min (64 * k) N)) ∧ Below w.heap.size w wr ∧ w.heap.size ≤ wr.heap.size ∧ Vars T wr ∧ wr.heap[kb]? = some (.cells K 23 (0, 0)) ∧ wr.heap[nb]? = some (.cells V 24 (0, 0)))) (fun _ v8 _ => N + 64 - 64 * (intOf v8).toNat)
  case atStart => exact ⟨0, by omega, rfl, ⟨by simpa [streamL] using Kd.R_nil _ _ _ _ _, BE.out, BE.out.size, VA.out, HK.out, HV.out⟩⟩
  case round =>
    obtain ⟨k, hk, rfl, HR⟩ := hrel
    by_cases hlt : 64 * k < N
    · rw [Nat.min_eq_left (by omega)] at HR
      have HK1 : Aside0 (wr.heap[kb]? = some (.cells K 23 (0, 0))) := ⟨HR.out.2.2.2.2.1⟩
      have HV1 : Aside0 (wr.heap[nb]? = some (.cells V 24 (0, 0))) := ⟨HR.out.2.2.2.2.2⟩
      have VA1 : Aside0 (Vars T wr) := ⟨HR.out.2.2.2.1⟩
      obtain ⟨A, c, e7⟩ := Kd.R_slice HR.out.1
      rw [streamL_len] at e7
      subst e7
      have HL := Aside0.mk (streamL_block K V k)
      obtain ⟨L, hL⟩ : ∃ L_, 64 * k = L_ := ⟨_, rfl⟩
      rw [hL] at HR HL
      have hd1 : decide ((L : Int) < n) = true := decide_eq_true (by omega)
      have hd1' : (L : Int) < n := by omega
      have hw : IntKind.i64.wrap (n - (L : Int)) = n - (L : Int) := IntWalk.i64_in _ (by omega)
      have hk1 : IntKind.u32.wrap ((k : Int) + 1) = (k : Int) + 1 := by rw [IntKind.wrap_u32]; omega
      by_cases hp : n - (L : Int) < 64
      · have hd2 : decide (n - (L : Int) < 64) = true := decide_eq_true hp
        have hc := cut29 (n - (L : Int)) (by omega) (by omega)
        go_wp2_with (first | (refine wpList_load_row rfl 23 _ rfl kb rfl 23 _ (0, 0) _ HK1.out Tryd.underlying23 rfl (by rw [KB.out.1]; kernel_rfl) ?_) | (refine wpList_load_row rfl 24 _ rfl nb rfl 24 _ (0, 0) _ HV1.out Tryd.underlying24 rfl (by rw [VB.out.1]; kernel_rfl) ?_) | (go_at_call 12; (with_reducible refine (block_any K V k _ KB.out VB.out VA1.out).mono ?_); rintro e w2 ⟨rfl, b2⟩; have HS := store_64 w2 K V k; have b2 := Aside0.mk b2) | ((with_reducible refine gate_dst (N := 27) rfl ?_); (refine Kd.R_append_row (Value.int .u8) (0 : Int) (h1 := fun _ => rfl) (w0 := w) w.heap.size rfl (.tmp 20) (.tmp 26) 26 5 (.int .u8 0) 1 rfl Tryd.underlying26 info5 rfl (by omega) (.slice A L c) (streamL K V L) ((blockL K k V).take (N - L)) (some ⟨w2.heap.size, 0, none⟩) (N - L) 64 (fun _ => True) rfl rfl (fun _ _ => trivial) ?_ ?_ ?_ ?_ ?_ ?_; (exact Kd.R_alloc (Kd.R_below HR.out.1 b2.out) _); (exact C_block (blk_new _ _) 0 (N - L) (by rw [blockL_len]; omega) (by omega)); (exact below_alloc (below_then HR.out.2.1 HR.out.2.2.1 b2.out) _); (simp only [sz_alloc]; have := HR.out.2.2.1; have := b2.out.size; omega); (rw [streamL_len]; omega); (intro v1 w3 hR hB hg hat; rw [HL.out (N - L) (by omega)] at hR; have hB := Aside0.mk hB; have hR := Aside0.mk hR; have hx1 := blk_alloc (blk_below HK1.out b2.out) (.cells (toB (blockL K k V)) 29); have hx2 := blk_alloc (blk_below HV1.out b2.out) (.cells (toB (blockL K k V)) 29); have hx3 := Kd.R_alloc (Kd.R_below HR.out.1 b2.out) (.cells (toB (blockL K k V)) 29); have hS3 : Aside0 (w.heap.size ≤ w3.heap.size ∧ Vars T w3 ∧ w3.heap[kb]? = some (.cells K 23 (0, 0)) ∧ w3.heap[nb]? = some (.cells V 24 (0, 0))) := ⟨hB.out.size, HG.out.below hB.out H3.out, blk_grown hx1 hg (Kd.R_ne hx3 hx1 (by decide)), blk_grown hx2 hg (Kd.R_ne hx3 hx2 (by decide))⟩; clear hx1 hx2 hx3 hg hat HS))))
        go_roundw
        case rel => exact ⟨k + 1, by omega, by go_num, ⟨by rw [show min (64 * (k + 1)) N = L + (N - L) by omega]; exact hR.out, hB.out, hS3.out⟩⟩
        case measure => simp [intOf]; omega
      · have hd2 : decide (n - (L : Int) < 64) = false := decide_eq_false hp
        have hc := cut29 64 (by omega) (by omega)
        go_wp2_with (first | (refine wpList_load_row rfl 23 _ rfl kb rfl 23 _ (0, 0) _ HK1.out Tryd.underlying23 rfl (by rw [KB.out.1]; kernel_rfl) ?_) | (refine wpList_load_row rfl 24 _ rfl nb rfl 24 _ (0, 0) _ HV1.out Tryd.underlying24 rfl (by rw [VB.out.1]; kernel_rfl) ?_) | (go_at_call 12; (with_reducible refine (block_any K V k _ KB.out VB.out VA1.out).mono ?_); rintro e w2 ⟨rfl, b2⟩; have HS := store_64 w2 K V k; have b2 := Aside0.mk b2) | ((with_reducible refine gate_dst (N := 27) rfl ?_); (refine Kd.R_append_row (Value.int .u8) (0 : Int) (h1 := fun _ => rfl) (w0 := w) w.heap.size rfl (.tmp 20) (.tmp 26) 26 5 (.int .u8 0) 1 rfl Tryd.underlying26 info5 rfl (by omega) (.slice A L c) (streamL K V L) ((blockL K k V).take 64) (some ⟨w2.heap.size, 0, none⟩) 64 64 (fun _ => True) rfl rfl (fun _ _ => trivial) ?_ ?_ ?_ ?_ ?_ ?_; (exact Kd.R_alloc (Kd.R_below HR.out.1 b2.out) _); (exact C_block (blk_new _ _) 0 64 (by rw [blockL_len]; omega) (by omega)); (exact below_alloc (below_then HR.out.2.1 HR.out.2.2.1 b2.out) _); (simp only [sz_alloc]; have := HR.out.2.2.1; have := b2.out.size; omega); (rw [streamL_len]; omega); (intro v1 w3 hR hB hg hat; rw [HL.out 64 (by omega)] at hR; have hB := Aside0.mk hB; have hR := Aside0.mk hR; have hx1 := blk_alloc (blk_below HK1.out b2.out) (.cells (toB (blockL K k V)) 29); have hx2 := blk_alloc (blk_below HV1.out b2.out) (.cells (toB (blockL K k V)) 29); have hx3 := Kd.R_alloc (Kd.R_below HR.out.1 b2.out) (.cells (toB (blockL K k V)) 29); have hS3 : Aside0 (w.heap.size ≤ w3.heap.size ∧ Vars T w3 ∧ w3.heap[kb]? = some (.cells K 23 (0, 0)) ∧ w3.heap[nb]? = some (.cells V 24 (0, 0))) := ⟨hB.out.size, HG.out.below hB.out H3.out, blk_grown hx1 hg (Kd.R_ne hx3 hx1 (by decide)), blk_grown hx2 hg (Kd.R_ne hx3 hx2 (by decide))⟩; clear hx1 hx2 hx3 hg hat HS))))
        go_roundw
        case rel => exact ⟨k + 1, by omega, by go_num, ⟨by rw [show min (64 * (k + 1)) N = L + 64 by omega]; exact hR.out, hB.out, hS3.out⟩⟩
        case measure => simp [intOf]; omega
    · rw [Nat.min_eq_right (by omega)] at HR
      obtain ⟨A, c, e7⟩ := Kd.R_slice HR.out.1
      rw [streamL_len] at e7
      subst e7
      have hd1 : decide ((N : Int) < n) = false := decide_eq_false (by omega)
      have hd1' : ¬ ((N : Int) < n) := by omega
      have hd3 : n ≤ (N : Int) := by omega
      go_wp2_with fail
      go_ret
      subst hkb
      exact ⟨_, rfl, HR.out.1, HR.out.2.1⟩
end Go.Proofs.YtlpfmehcghhdcaaDoor.XB
