/- ChachaCuts' walk. -/
import Derived.Test.YtlpfmehcghhdcaaDoorM10
import Derived.BigQuiet
import Derived.StillTailTactics
namespace Go.Proofs.YtlpfmehcghhdcaaDoor.XB
open Go.RowKit Go.Proofs.YtlpfmehcghhdcaaDoorW.PrintWords Go.Proofs.YtlpfmehcghhdcaaDoorW.PrintLast Go.Proofs.YtlpfmehcghhdcaaDoorW.PrintMore PChachaTells
set_option linter.unusedVariables false
set_option linter.unusedSimpArgs false
variable {T : Nat × Nat × Nat}

set_option maxHeartbeats 4000000 in
set_option maxRecDepth 100000 in
theorem cuts_any (K V : Array Value) (A0 : Option Addr) (c0 : Nat) (l0 : List Int) (n : Int) (w : World) (hK : Bytes K 32) (hV : Bytes V 12) (hc : Kd.C (Kd.int .u8) w A0 l0.length l0) (hl : l0.length ≤ c0) (hx : ∀ x ∈ l0, 0 ≤ x ∧ x ≤ 255) (hv : Vars T w) :
    Calls Tryd.prog 9 #[.agg K, .agg V, .slice A0 l0.length c0, .int .i64 n] w fun e w' => e = .returned (.bool true) ∧ Below w.heap.size w w' := by
  have HG := Aside0.mk hv
  have KB := Aside0.mk hK
  have VB := Aside0.mk hV
  have HC := Aside0.mk hc
  have HL := Aside0.mk hl
  clear hv hK hV hc hx hl
  have BX := Aside0.mk (boxed_new (K := K) (V := V) HG.out)
  have hb := and_bd n
  obtain ⟨m, hm⟩ : ∃ m_, Go.bits .and .i64 n 65535 = m_ := ⟨_, rfl⟩
  rw [hm] at hb
  have M0 := Aside0.mk (Kd.C_max HC.out)
  generalize hn0 : l0.length = n0 at HC HL M0
  go_enter Tryd.func9, Tryd.ntmps9
  by_cases h5 : (500 : Int) < (n0 : Int)
  · have hd : decide ((500 : Int) < (n0 : Int)) = true := decide_eq_true h5
    have sl := slice_to A0 n0 c0 500 (by omega) HL.out
    have sl1 := sl.1
    have CL := Aside0.mk (sl.2 _ _ HC.out)
    have CN : Aside0 (500 ≤ c0) := ⟨by have := HL.out; omega⟩
    have hcc : (500 : Int) ≤ (c0 : Int) := by have := CN.out; omega
    generalize l0.take 500 = L at CL
    clear sl HC hn0 l0
    obtain ⟨a, hat⟩ : ∃ a : Nat, m % 501 = (a : Int) := ⟨(m % 501).toNat, by omega⟩
    have ha : a ≤ 500 := by omega
    have sa := slice_to A0 500 c0 a ha CN.out
    have sa1 := sa.1
    have CLa := Aside0.mk (sa.2 _ _ CL.out)
    obtain ⟨A0', sf1, sf2⟩ := slice_from A0 500 c0 a ha CN.out
    have CLd := Aside0.mk (sf2 _ _ CL.out)
    have LL : Aside0 (L.length = 500) := ⟨Kd.C_len CL.out⟩
    clear sa sf2
    go_wp2_with (first | (refine wpList_load_row rfl 23 _ rfl w.heap.size rfl 23 _ (0, 0) _ BX.out.hk Tryd.underlying23 rfl (by rw [KB.out.1]; kernel_rfl) ?_) | (refine wpList_load_row rfl 24 _ rfl (w.heap.size + 1) rfl 24 _ (0, 0) _ BX.out.hv Tryd.underlying24 rfl (by rw [VB.out.1]; kernel_rfl) ?_) | (go_at_call 10; (with_reducible refine (shown_any _ BX.out.va).mono ?_); rintro e w2 ⟨rfl, b2⟩; have BX := Aside0.mk (BX.out.step b2); clear b2) | (go_at_call 11; (with_reducible refine (stream_at K V _ 500 _ KB.out VB.out BX.out.va (by first | rfl | omega) (by omega)).mono ?_); rintro e w3 ⟨A1, c1, rfl, hR, b2⟩; have BX := Aside0.mk (BX.out.step b2); have LS := Aside0.mk (streamL_len K V 500); generalize streamL K V 500 = S at hR LS; have hR3 := Aside0.mk hR; have B3 := Aside0.mk BX.out.be; clear b2 hR) | (go_at_call 13; (with_reducible refine (xor_at A0 c0 L A1 c1 S _ LL.out LS.out (Kd.C_below CL.out B3.out) CN.out (R_C hR3.out).1 (R_C hR3.out).2.1 (by omega) (n := 500) (by omega)).mono ?_); rintro e w4 ⟨A4, c4, rfl, hR, b2⟩; have BX := Aside0.mk (BX.out.step b2); have B4 := Aside0.mk BX.out.be; have hW4 := Aside0.mk hR; have hS4 := Aside0.mk (Kd.R_below hR3.out b2); clear b2 hR) | (go_at_call 13; (with_reducible refine (xor_at A0 c0 (L.take a) A1 c1 S _ (Kd.C_len CLa.out) LS.out (Kd.C_below CLa.out B4.out) (by have := CN.out; omega) (R_C hS4.out).1 (R_C hS4.out).2.1 (by omega) (n := a) (by omega)).mono ?_); rintro e w5 ⟨A5, c5, rfl, hR, b2⟩; have BX := Aside0.mk (BX.out.step b2); have B5 := Aside0.mk BX.out.be; have hF5 := Aside0.mk hR; have hS5 := Aside0.mk (Kd.R_below hS4.out b2); have hW5 := Aside0.mk (Kd.R_below hW4.out b2); clear b2 hR))
    obtain ⟨A1', sg1, sg2⟩ := slice_from A1 500 c1 a ha (R_C hS5.out).2.1
    have CSd := Aside0.mk (sg2 _ _ (R_C hS5.out).1)
    have hcs : (500 : Int) ≤ (c1 : Int) := by have := (R_C hS5.out).2.1; omega
    clear sg2
    refine wp_region_still_tail 6 (by kernel_rfl) (by kernel_rfl) ?_
    simp only [List.take_succ_cons, List.take_zero, List.drop_succ_cons, List.drop_zero]
    iterate 6 still_step
    refine wpStill_nil ?_
    change wpList _ _ _ _ _ w5.drew
    obtain ⟨w6, hW⟩ : ∃ w_ : World, w_ = w5.drew := ⟨_, rfl⟩
    rw [← hW]
    have BX6 : Aside0 (Below w.heap.size w w6) := ⟨by rw [hW]; exact below_drew1 BX.out.be⟩
    have CL6 : Aside0 (Kd.C (Kd.int .u8) w6 A0' (500 - a) (L.drop a)) := ⟨Kd.C_below CLd.out BX6.out⟩
    have CS6 : Aside0 (Kd.C (Kd.int .u8) w6 A1' (500 - a) (S.drop a)) := ⟨by rw [hW]; exact Kd.C_drew CSd.out⟩
    have hW6 : Aside0 (Kd.R (Kd.int .u8) 5 w6 w3.heap.size (fun _ => True) (.slice A4 500 c4) (xorL L S)) := ⟨by rw [hW]; exact Kd.R_drew hW5.out⟩
    have hF6 : Aside0 (Kd.R (Kd.int .u8) 5 w6 w4.heap.size (fun _ => True) (.slice A5 a c5) (xorL (L.take a) S)) := ⟨by rw [hW]; exact Kd.R_drew hF5.out⟩
    clear hW
    have HQ : Aside0 (strOfNums (xorL L S) = strOfNums (xorL (L.take a) S) ++ strOfNums (xorL (L.drop a) (S.drop a))) := ⟨by rw [← strOfNums_append, ← xorL_cut L S a (by rw [LL.out, LS.out]; exact Nat.le_refl _) (by rw [LL.out]; exact ha)]⟩
    have hsz1 := strOfNums_size (xorL (L.take a) S)
    rw [(R_C hF6.out).2.2] at hsz1
    go_wp2_with (go_at_call 13; (with_reducible refine (xor_at A0' (c0 - a) (L.drop a) A1' (c1 - a) (S.drop a) _ (Kd.C_len CL6.out) (Kd.C_len CS6.out) CL6.out (by have := CN.out; omega) CS6.out (by omega) (by omega) (n := 500 - a) (by omega)).mono ?_); rintro e w7 ⟨A7, c7, rfl, hR, b2⟩; have B7 := Aside0.mk (below_then BX6.out BX6.out.size b2); have hsz2 := strOfNums_size (xorL (L.drop a) (S.drop a)); rw [(R_C hR).2.2] at hsz2; have cv1 := str_of_R hR; have cv2 := str_of_R (Kd.R_below hW6.out b2); have cv3 := str_of_R (Kd.R_below hF6.out b2); rw [HQ.out] at cv2; clear hR b2)
    go_ret
    exact ⟨rfl, B7.out⟩
  · have hd : decide ((500 : Int) < (n0 : Int)) = false := decide_eq_false h5
    have sl := slice_to A0 n0 c0 n0 (by omega) HL.out
    have sl1 := sl.1
    have CL := Aside0.mk (sl.2 _ _ HC.out)
    have CN : Aside0 (n0 ≤ c0) := ⟨HL.out⟩
    have hcc : (n0 : Int) ≤ (c0 : Int) := by have := CN.out; omega
    generalize l0.take n0 = L at CL
    clear sl HC hn0 l0
    obtain ⟨a, hat⟩ : ∃ a : Nat, m % ((n0 : Int) + 1) = (a : Int) := ⟨(m % ((n0 : Int) + 1)).toNat, by have := Int.emod_nonneg m (show (n0 : Int) + 1 ≠ 0 by omega); omega⟩
    have ha : a ≤ n0 := by have := Int.emod_lt_of_pos m (show 0 < (n0 : Int) + 1 by omega); omega
    have hw1 : IntKind.i64.wrap ((n0 : Int) + 1) = (n0 : Int) + 1 := IntWalk.i64_in _ (by omega)
    have hz1 : (n0 : Int) + 1 ≠ 0 := by omega
    have hq : m.tmod ((n0 : Int) + 1) = m % ((n0 : Int) + 1) := Int.tmod_eq_emod_of_nonneg hb.1
    have sa := slice_to A0 n0 c0 a ha CN.out
    have sa1 := sa.1
    have CLa := Aside0.mk (sa.2 _ _ CL.out)
    obtain ⟨A0', sf1, sf2⟩ := slice_from A0 n0 c0 a ha CN.out
    have CLd := Aside0.mk (sf2 _ _ CL.out)
    have LL : Aside0 (L.length = n0) := ⟨Kd.C_len CL.out⟩
    clear sa sf2
    go_wp2_with (first | (refine wpList_load_row rfl 23 _ rfl w.heap.size rfl 23 _ (0, 0) _ BX.out.hk Tryd.underlying23 rfl (by rw [KB.out.1]; kernel_rfl) ?_) | (refine wpList_load_row rfl 24 _ rfl (w.heap.size + 1) rfl 24 _ (0, 0) _ BX.out.hv Tryd.underlying24 rfl (by rw [VB.out.1]; kernel_rfl) ?_) | (go_at_call 10; (with_reducible refine (shown_any _ BX.out.va).mono ?_); rintro e w2 ⟨rfl, b2⟩; have BX := Aside0.mk (BX.out.step b2); clear b2) | (go_at_call 11; (with_reducible refine (stream_at K V _ n0 _ KB.out VB.out BX.out.va (by first | rfl | omega) (by omega)).mono ?_); rintro e w3 ⟨A1, c1, rfl, hR, b2⟩; have BX := Aside0.mk (BX.out.step b2); have LS := Aside0.mk (streamL_len K V n0); generalize streamL K V n0 = S at hR LS; have hR3 := Aside0.mk hR; have B3 := Aside0.mk BX.out.be; clear b2 hR) | (go_at_call 13; (with_reducible refine (xor_at A0 c0 L A1 c1 S _ LL.out LS.out (Kd.C_below CL.out B3.out) CN.out (R_C hR3.out).1 (R_C hR3.out).2.1 (by omega) (n := n0) (by omega)).mono ?_); rintro e w4 ⟨A4, c4, rfl, hR, b2⟩; have BX := Aside0.mk (BX.out.step b2); have B4 := Aside0.mk BX.out.be; have hW4 := Aside0.mk hR; have hS4 := Aside0.mk (Kd.R_below hR3.out b2); clear b2 hR) | (go_at_call 13; (with_reducible refine (xor_at A0 c0 (L.take a) A1 c1 S _ (Kd.C_len CLa.out) LS.out (Kd.C_below CLa.out B4.out) (by have := CN.out; omega) (R_C hS4.out).1 (R_C hS4.out).2.1 (by omega) (n := a) (by omega)).mono ?_); rintro e w5 ⟨A5, c5, rfl, hR, b2⟩; have BX := Aside0.mk (BX.out.step b2); have B5 := Aside0.mk BX.out.be; have hF5 := Aside0.mk hR; have hS5 := Aside0.mk (Kd.R_below hS4.out b2); have hW5 := Aside0.mk (Kd.R_below hW4.out b2); clear b2 hR))
    obtain ⟨A1', sg1, sg2⟩ := slice_from A1 n0 c1 a ha (R_C hS5.out).2.1
    have CSd := Aside0.mk (sg2 _ _ (R_C hS5.out).1)
    have hcs : (n0 : Int) ≤ (c1 : Int) := by have := (R_C hS5.out).2.1; omega
    clear sg2
    refine wp_region_still_tail 6 (by kernel_rfl) (by kernel_rfl) ?_
    simp only [List.take_succ_cons, List.take_zero, List.drop_succ_cons, List.drop_zero]
    iterate 6 still_step
    refine wpStill_nil ?_
    change wpList _ _ _ _ _ w5.drew
    obtain ⟨w6, hW⟩ : ∃ w_ : World, w_ = w5.drew := ⟨_, rfl⟩
    rw [← hW]
    have BX6 : Aside0 (Below w.heap.size w w6) := ⟨by rw [hW]; exact below_drew1 BX.out.be⟩
    have CL6 : Aside0 (Kd.C (Kd.int .u8) w6 A0' (n0 - a) (L.drop a)) := ⟨Kd.C_below CLd.out BX6.out⟩
    have CS6 : Aside0 (Kd.C (Kd.int .u8) w6 A1' (n0 - a) (S.drop a)) := ⟨by rw [hW]; exact Kd.C_drew CSd.out⟩
    have hW6 : Aside0 (Kd.R (Kd.int .u8) 5 w6 w3.heap.size (fun _ => True) (.slice A4 n0 c4) (xorL L S)) := ⟨by rw [hW]; exact Kd.R_drew hW5.out⟩
    have hF6 : Aside0 (Kd.R (Kd.int .u8) 5 w6 w4.heap.size (fun _ => True) (.slice A5 a c5) (xorL (L.take a) S)) := ⟨by rw [hW]; exact Kd.R_drew hF5.out⟩
    clear hW
    have HQ : Aside0 (strOfNums (xorL L S) = strOfNums (xorL (L.take a) S) ++ strOfNums (xorL (L.drop a) (S.drop a))) := ⟨by rw [← strOfNums_append, ← xorL_cut L S a (by rw [LL.out, LS.out]; exact Nat.le_refl _) (by rw [LL.out]; exact ha)]⟩
    have hsz1 := strOfNums_size (xorL (L.take a) S)
    rw [(R_C hF6.out).2.2] at hsz1
    go_wp2_with (go_at_call 13; (with_reducible refine (xor_at A0' (c0 - a) (L.drop a) A1' (c1 - a) (S.drop a) _ (Kd.C_len CL6.out) (Kd.C_len CS6.out) CL6.out (by have := CN.out; omega) CS6.out (by omega) (by omega) (n := n0 - a) (by omega)).mono ?_); rintro e w7 ⟨A7, c7, rfl, hR, b2⟩; have B7 := Aside0.mk (below_then BX6.out BX6.out.size b2); have hsz2 := strOfNums_size (xorL (L.drop a) (S.drop a)); rw [(R_C hR).2.2] at hsz2; have cv1 := str_of_R hR; have cv2 := str_of_R (Kd.R_below hW6.out b2); have cv3 := str_of_R (Kd.R_below hF6.out b2); rw [HQ.out] at cv2; clear hR b2)
    go_ret
    exact ⟨rfl, B7.out⟩
end Go.Proofs.YtlpfmehcghhdcaaDoor.XB
