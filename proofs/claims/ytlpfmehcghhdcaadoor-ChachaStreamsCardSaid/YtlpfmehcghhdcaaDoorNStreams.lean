/- ChachaStreams' walk. -/
import Derived.Test.YtlpfmehcghhdcaaDoorM11
import Derived.BigQuiet
import Derived.StillTailTactics
namespace Go.Proofs.YtlpfmehcghhdcaaDoor.XB
open Go.RowKit Go.Proofs.YtlpfmehcghhdcaaDoorW.PrintWords Go.Proofs.YtlpfmehcghhdcaaDoorW.PrintLast Go.Proofs.YtlpfmehcghhdcaaDoorW.PrintMore PChachaTells
set_option linter.unusedVariables false
set_option linter.unusedSimpArgs false
variable {T : Nat × Nat × Nat}

attribute [local go_sem] max2_int min2_int max_two min_two
theorem slice_mid (A : Option Addr) (n c lo hi : Nat) (h1 : lo ≤ hi) (h2 : hi ≤ n) (hc : n ≤ c) : ∃ A', (∀ (x y : Int) (W : World), x = (lo : Int) → y = (hi : Int) → (Instr.slice 26 (.slice A n c) (some (.int .i64 x)) (some (.int .i64 y)) none).run Tryd.prog W = .ok (.slice A' (hi - lo) (c - lo)) W) ∧
    ∀ W xs, Kd.C (Kd.int .u8) W A n xs → Kd.C (Kd.int .u8) W A' (hi - lo) ((xs.take hi).drop lo) := by
  obtain ⟨i, hi_, hz⟩ := info5'
  refine ⟨if c = (lo : Int).toNat then A else A.map (·.add ((lo : Int).toNat * 1)), ?_, fun W xs h => ?_⟩
  · intro x y W hx hy
    subst hx; subst hy
    have := cut_mid (P := Tryd.prog) 26 5 .i64 .i64 Tryd.underlying26 hi_ 1 hz A n c (lo : Int) (hi : Int) (by omega) (by omega) (by omega) hc W
    simpa using this
  · have hl := Kd.C_len h
    subst hl
    have := Kd.C_mid h h1 h2 hc
    rw [List.length_drop, List.length_take, Nat.min_eq_left h2] at this
    rw [Int.toNat_natCast]
    exact this
theorem streamL_mid (K V : Array Value) (N i h : Nat) (h0 : 64 * i ≤ h) (h1 : h ≤ N) (h2 : h ≤ 64 * i + 64) : ((streamL K V N).take h).drop (64 * i) = (blockL K (i : Int) V).take (h - 64 * i) := by
  rw [streamL_take K V N h h1]
  have := streamL_block K V i (h - 64 * i) (by omega)
  rw [show 64 * i + (h - 64 * i) = h by omega] at this
  rw [← this, List.drop_append_of_le_length (by rw [streamL_len]; exact Nat.le_refl _), List.drop_of_length_le (by rw [streamL_len]; exact Nat.le_refl _), List.nil_append]
set_option maxHeartbeats 4000000 in
set_option maxRecDepth 100000 in
theorem streams_any (K V : Array Value) (n m : Int) (w : World) (hK : Bytes K 32) (hV : Bytes V 12) (hv : Vars T w) :
    Calls Tryd.prog 7 #[.agg K, .agg V, .int .i64 n, .int .i64 m] w fun e w' => e = .returned (.bool true) ∧ Below w.heap.size w w' := by
  have HG := Aside0.mk hv
  have KB := Aside0.mk hK
  have VB := Aside0.mk hV
  clear hv hK hV
  have BX := Aside0.mk (boxed_new (K := K) (V := V) HG.out)
  have hb := and_bd n
  have hb' := and_bd m
  obtain ⟨n1, hm⟩ : ∃ m_, Go.bits .and .i64 n 65535 = m_ := ⟨_, rfl⟩
  obtain ⟨m1, hm'⟩ : ∃ m_, Go.bits .and .i64 m 65535 = m_ := ⟨_, rfl⟩
  rw [hm] at hb
  rw [hm'] at hb'
  obtain ⟨N, hN⟩ : ∃ N : Nat, n1 % 1001 = (N : Int) := ⟨(n1 % 1001).toNat, by omega⟩
  have hN5 : N ≤ 1000 := by omega
  obtain ⟨M, hM⟩ : ∃ M : Nat, m1 % ((N : Int) + 1) = (M : Int) := ⟨(m1 % ((N : Int) + 1)).toNat, by have := Int.emod_nonneg m1 (show (N : Int) + 1 ≠ 0 by omega); omega⟩
  have hMN : M ≤ N := by have := Int.emod_lt_of_pos m1 (show 0 < (N : Int) + 1 by omega); omega
  have hw1 : IntKind.i64.wrap ((N : Int) + 1) = (N : Int) + 1 := IntWalk.i64_in _ (by omega)
  have hz1 : (N : Int) + 1 ≠ 0 := by omega
  have hq : m1.tmod ((N : Int) + 1) = m1 % ((N : Int) + 1) := Int.tmod_eq_emod_of_nonneg hb'.1
  have hMI : (M : Int) ≤ (N : Int) := by omega
  go_enter Tryd.func7, Tryd.ntmps7
  go_wp2_with (first | (refine wpList_load_row rfl 23 _ rfl w.heap.size rfl 23 _ (0, 0) _ BX.out.hk Tryd.underlying23 rfl (by rw [KB.out.1]; kernel_rfl) ?_) | (refine wpList_load_row rfl 24 _ rfl (w.heap.size + 1) rfl 24 _ (0, 0) _ BX.out.hv Tryd.underlying24 rfl (by rw [VB.out.1]; kernel_rfl) ?_) | (go_at_call 10; (with_reducible refine (shown_any _ BX.out.va).mono ?_); rintro e w2 ⟨rfl, b2⟩; have BX := Aside0.mk (BX.out.step b2); clear b2) | (go_at_call 11; (with_reducible refine (stream_at K V _ N _ KB.out VB.out BX.out.va rfl (by omega)).mono ?_); rintro e w3 ⟨A1, c1, rfl, hR, b2⟩; have BX := Aside0.mk (BX.out.step b2); have R1 := Aside0.mk hR; have Z1 : Aside0 (w3 = w3) := ⟨rfl⟩; clear b2 hR) | (go_at_call 11; (with_reducible refine (stream_at K V _ M _ KB.out VB.out BX.out.va rfl (by omega)).mono ?_); rintro e w4 ⟨A2, c2, rfl, hR, b2⟩; have BX := Aside0.mk (BX.out.step b2); have R1 := Aside0.mk (Kd.R_below R1.out b2); have R2 := Aside0.mk hR; clear b2 hR))
  have sl := slice_to A1 N c1 M hMN (R_C R1.out).2.1
  have sl1 := sl.1
  have hcc : (M : Int) ≤ (c1 : Int) := by have := (R_C R1.out).2.1; omega
  have f1 := fun m_ => str_of_R (Kd.R_drewN R2.out m_)
  have f2 := fun m_ => str_of_C (c := c1) (sl.2 _ _ (R_C (Kd.R_drewN R1.out m_)).1)
  simp only [streamL_take K V N M hMN] at f2
  clear sl
  go_quiet (fail)
  go_wp2_with fail
  clear f1 f2 sl1 hcc
  have BX := Aside0.mk (BX.out.step (show Below w4.heap.size w4 (w4.drewN nq) from pw_below_drewN (Below.refl _ _) _))
  have R1 := Aside0.mk (Kd.R_drewN R1.out nq)
  have R1' : Aside0 (∃ b_, Kd.R (Kd.int .u8) 5 (w4.drewN nq) b_ (fun _ => True) (.slice A1 N c1) (streamL K V N)) := ⟨_, R1.out⟩
  go_loopw [12] (fun v12 wr => ∃ i : Nat, 64 * i < N + 64 ∧ v12 = .int .i64 i ∧ Aside0 (Boxed T w wr w.heap.size (w.heap.size + 1) K V ∧ ∃ b_, Kd.R (Kd.int .u8) 5 wr b_ (fun _ => True) (.slice A1 N c1) (streamL K V N))) (fun v12 _ => 20 - (intOf v12).toNat)
  case atStart => exact ⟨0, by omega, rfl, ⟨BX.out, R1'.out⟩⟩
  case round =>
    obtain ⟨i, hi, rfl, HR⟩ := hrel
    have BX := Aside0.mk HR.out.1
    have RS := Aside0.mk HR.out.2
    clear HR R1'
    have hw3 : IntKind.i64.wrap (64 * (i : Int)) = 64 * (i : Int) := IntWalk.i64_in _ (by omega)
    by_cases hlt : 64 * i < N
    · have h1 : 64 * (i : Int) < (N : Int) := by omega
      have hd1 : decide (64 * (i : Int) < (N : Int)) = true := decide_eq_true h1
      have hw4 : IntKind.i64.wrap (64 * (i : Int) + 64) = 64 * (i : Int) + 64 := IntWalk.i64_in _ (by omega)
      have hw5 : IntKind.i64.wrap ((N : Int) - 64 * (i : Int)) = (N : Int) - 64 * (i : Int) := IntWalk.i64_in _ (by omega)
      have hw6 : IntKind.u32.wrap (i : Int) = (i : Int) := by rw [IntKind.wrap_u32]; omega
      obtain ⟨h, hh⟩ : ∃ h, min (64 * i + 64) N = h := ⟨_, rfl⟩
      have hmin : (if (N : Int) < 64 * (i : Int) + 64 then (N : Int) else 64 * (i : Int) + 64) = (h : Int) := by split <;> omega
      have hmin2 : (if (N : Int) - 64 * (i : Int) < 64 then (N : Int) - 64 * (i : Int) else 64) = ((h - 64 * i : Nat) : Int) := by split <;> omega
      have hh1 : 64 * i ≤ h := by omega
      have hh2 : h ≤ N := by omega
      have hh3 : h ≤ 64 * i + 64 := by omega
      have hcN : N ≤ c1 := by obtain ⟨b_, hr⟩ := RS.out; exact (R_C hr).2.1
      go_wp2_with (first | (refine wpList_load_row rfl 23 _ rfl w.heap.size rfl 23 _ (0, 0) _ BX.out.hk Tryd.underlying23 rfl (by rw [KB.out.1]; kernel_rfl) ?_) | (refine wpList_load_row rfl 24 _ rfl (w.heap.size + 1) rfl 24 _ (0, 0) _ BX.out.hv Tryd.underlying24 rfl (by rw [VB.out.1]; kernel_rfl) ?_) | (go_at_call 12; (with_reducible refine (block_any K V i _ KB.out VB.out BX.out.va).mono ?_); rintro e w5 ⟨rfl, b2⟩; have HS := store_64 w5 K V i; have b2 := Aside0.mk b2))
      clear HS
      obtain ⟨w6, hW⟩ : ∃ w_ : World, w_ = w5.alloc (.cells (toB (blockL K i V)) 29) := ⟨_, rfl⟩
      rw [← hW]
      have BX6 : Aside0 (Boxed T w w6 w.heap.size (w.heap.size + 1) K V) := ⟨by rw [hW]; exact BX.out.step (below_alloc b2.out _)⟩
      have RS6 : Aside0 (∃ b_, Kd.R (Kd.int .u8) 5 w6 b_ (fun _ => True) (.slice A1 N c1) (streamL K V N)) := ⟨by obtain ⟨b_, hr⟩ := RS.out; exact ⟨b_, by rw [hW]; exact Kd.R_alloc (Kd.R_below hr b2.out) _⟩⟩
      have HB6 : Aside0 (w6.heap[w5.heap.size]? = some (.cells (toB (blockL K i V)) 29 (0, 0))) := ⟨by rw [hW]; exact blk_new _ _⟩
      clear hW b2 RS BX
      generalize w5.heap.size = gb at HB6 ⊢
      obtain ⟨A1', sm1, sm2⟩ := slice_mid A1 N c1 (64 * i) h hh1 hh2 hcN
      have sm := fun W : World => sm1 (64 * (i : Int)) (h : Int) W (by omega) rfl
      have f1 : ∀ m_ : Nat, (convert 26 9 (.slice A1' (h - 64 * i) (c1 - 64 * i))).run Tryd.prog (w6.drewN m_) = .ok (.string (strOfNums ((blockL K i V).take (h - 64 * i)))) (w6.drewN m_) := fun m_ => by
        obtain ⟨b_, hr⟩ := RS6.out
        have hq := sm2 _ _ (R_C (Kd.R_drewN hr m_)).1
        rw [streamL_mid K V N i h hh1 hh2 hh3] at hq
        exact str_of_C hq
      have f2 : ∀ m_ : Nat, (convert 26 9 (.slice (some ⟨gb, 0, none⟩) (h - 64 * i) 64)).run Tryd.prog (w6.drewN m_) = .ok (.string (strOfNums ((blockL K i V).take (h - 64 * i)))) (w6.drewN m_) := fun m_ => str_of_block (blk_drewN HB6.out m_) 0 (h - 64 * i) 64 (by rw [blockL_len]; omega) (by omega)
      have hc := cut29 ((h - 64 * i : Nat) : Int) (by omega) (by omega)
      have hq1 : ((h - 64 * i : Nat) : Int) ≤ 64 := by omega
      have hq2 : (h : Int) ≤ (c1 : Int) := by omega
      have hq3 : 64 * (i : Int) ≤ (h : Int) := by omega
      generalize strOfNums ((blockL K i V).take (h - 64 * i)) = SB at f1 f2
      clear sm1 sm2
      go_quiet (fail)
      go_wp2_with fail
      go_roundw
      case rel => exact ⟨i + 1, by omega, by go_num, ⟨BX6.out.step (pw_below_drewN (Below.refl _ _) _), by obtain ⟨b_, hr⟩ := RS6.out; exact ⟨b_, Kd.R_drewN hr _⟩⟩⟩
      case measure => simp [intOf]; omega
    · have hd1 : decide (64 * (i : Int) < (N : Int)) = false := decide_eq_false (by omega)
      have hd2 : ¬ (64 * (i : Int) < (N : Int)) := by omega
      have hd3 : (N : Int) ≤ 64 * (i : Int) := by omega
      go_wp2_with fail
      go_ret
      exact ⟨rfl, BX.out.be⟩
end Go.Proofs.YtlpfmehcghhdcaaDoor.XB
