/- ChachaOwn's walk. -/
import Derived.Test.YtlpfmehcghhdcaaDoorM9
namespace Go.Proofs.YtlpfmehcghhdcaaDoor.XB
open Go.RowKit Go.Proofs.YtlpfmehcghhdcaaDoorW.PrintWords Go.Proofs.YtlpfmehcghhdcaaDoorW.PrintLast Go.Proofs.YtlpfmehcghhdcaaDoorW.PrintMore PChachaTells
set_option linter.unusedVariables false
set_option linter.unusedSimpArgs false
variable {T : Nat × Nat × Nat}

set_option maxHeartbeats 4000000 in
set_option maxRecDepth 100000 in
theorem own_any (K V : Array Value) (n : Int) (w : World) (hK : Bytes K 32) (hV : Bytes V 12) (hv : Vars T w) :
    Calls Tryd.prog 3 #[.agg K, .agg V, .int .i64 n] w fun e w' => e = .returned (.bool true) ∧ Below w.heap.size w w' := by
  have HG := Aside0.mk hv
  have KB := Aside0.mk hK
  have VB := Aside0.mk hV
  clear hv hK hV
  have BX := Aside0.mk (boxed_new (K := K) (V := V) HG.out)
  have hb := and_bd n
  obtain ⟨m, hm⟩ : ∃ m_, Go.bits .and .i64 n 65535 = m_ := ⟨_, rfl⟩
  rw [hm] at hb
  obtain ⟨N, hN⟩ : ∃ N : Nat, m % 501 = (N : Int) := ⟨(m % 501).toNat, by omega⟩
  have hN5 : N ≤ 500 := by omega
  go_enter Tryd.func3, Tryd.ntmps3
  go_wp2_with (first | (refine wpList_load_row rfl 23 _ rfl w.heap.size rfl 23 _ (0, 0) _ BX.out.hk Tryd.underlying23 rfl (by rw [KB.out.1]; kernel_rfl) ?_) | (refine wpList_load_row rfl 24 _ rfl (w.heap.size + 1) rfl 24 _ (0, 0) _ BX.out.hv Tryd.underlying24 rfl (by rw [VB.out.1]; kernel_rfl) ?_) | (go_at_call 10; (with_reducible refine (shown_any _ BX.out.va).mono ?_); rintro e w2 ⟨rfl, b2⟩; have BX := Aside0.mk (BX.out.step b2); clear b2) | (go_at_call 11; (with_reducible refine (stream_any K V _ _ KB.out VB.out BX.out.va (by omega) (by omega)).mono ?_); rintro e w3 ⟨v, rfl, hR, b2⟩; obtain ⟨A, c, e7⟩ := Kd.R_slice hR; rw [streamL_len] at e7; subst e7; have hb3 := BX.out.be.size; rw [Int.toNat_natCast] at hR; have hR := Aside0.mk (Kd.R_lower hR hb3); have BX := Aside0.mk (BX.out.step b2); clear b2 hb3; have cvS := str_of_R hR.out))
  clear hN hm hb cvS
  have hsz := strOfNums_size (streamL K V N)
  rw [streamL_len] at hsz
  have hlen := streamL_len K V N
  obtain ⟨S, hS⟩ : ∃ S_, strOfNums (streamL K V N) = S_ := ⟨_, rfl⟩
  rw [hS] at hsz ⊢
  have ES := Aside0.mk hS
  clear hS
  have HS := Aside0.mk hsz
  clear hsz
  go_loopw [10] (fun v10 wr => ∃ (i : Nat) (xs : List Int), i ≤ N ∧ v10 = .int .i64 i ∧ Aside0 (xs.length = N ∧ Boxed T w wr w.heap.size (w.heap.size + 1) K V ∧ Kd.R (Kd.int .u8) 5 wr w.heap.size (fun _ => True) (.slice A N c) xs)) (fun v10 _ => N - (intOf v10).toNat)
  case atStart => exact ⟨0, _, by omega, rfl, ⟨hlen, BX.out, hR.out⟩⟩
  case round =>
    obtain ⟨i, xs, hi, rfl, HR⟩ := hrel
    by_cases hlt : i < N
    · obtain ⟨hx, hbx, hr⟩ := HR.out
      obtain ⟨g, cap, e8, hg1, hg2, cells, hg3⟩ := Kd.R_form hr (by omega)
      injection e8 with ea en ec
      subst ea
      have hd1 : decide ((i : Int) < (N : Int)) = true := decide_eq_true (by omega)
      have hc := Kd.R_celln (0 : Int) hr (i : Int) (by omega) (by omega)
      rw [Int.toNat_natCast] at hc
      have hc1 := hc.1
      have hc2 := hc.2
      have hp := Kd.R_putn hr (i : Int) 63
      rw [Int.toNat_natCast] at hp
      have HP : Aside0 ((xs.set i 63).length = N ∧ Boxed T w (wr.setCell ⟨g, i, none⟩ (.int .u8 63)) w.heap.size (w.heap.size + 1) K V ∧ Kd.R (Kd.int .u8) 5 (wr.setCell ⟨g, i, none⟩ (.int .u8 63)) w.heap.size (fun _ => True) (.slice (some ⟨g, 0, none⟩) N c) (xs.set i 63)) := ⟨by rw [List.length_set, hx], hbx.set hg3 hg1 HG.out.size _ _, hp⟩
      clear hx hbx hr hg1 hg2 hg3 hc hp HR en ec
      go_wp2_with fail
      go_roundw
      case rel => exact ⟨i + 1, xs.set i 63, by omega, by go_num, HP⟩
      case measure => simp [intOf]; omega
    · obtain rfl : i = N := by omega
      have hd1 : decide ((i : Int) < (i : Int)) = false := by simp
      have BX := Aside0.mk HR.out.2.1
      clear HR
      have hz := HS.out
      go_wp2_with (first | (refine load_want (by rfl) 23 _ rfl w.heap.size rfl 23 _ (0, 0) _ BX.out.hk Tryd.underlying23 rfl (by rw [KB.out.1]; kernel_rfl) ?_) | (refine load_want (by rfl) 24 _ rfl (w.heap.size + 1) rfl 24 _ (0, 0) _ BX.out.hv Tryd.underlying24 rfl (by rw [VB.out.1]; kernel_rfl) ?_) | (go_at_call 11; (with_reducible refine (stream_any K V _ _ KB.out VB.out BX.out.va (by omega) (by omega)).mono ?_); rintro e w3 ⟨v, rfl, hR, b2⟩; obtain ⟨A2, c2, e7⟩ := Kd.R_slice hR; rw [streamL_len] at e7; subst e7; rw [Int.toNat_natCast] at hR; have cvS := str_of_R hR; rw [ES.out] at cvS; have BX := Aside0.mk (BX.out.step b2); clear b2 hR))
      go_ret
      exact ⟨rfl, BX.out.be⟩
end Go.Proofs.YtlpfmehcghhdcaaDoor.XB
