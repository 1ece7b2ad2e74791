/- The walk of ReplayOnce: no tag of an epoch is added twice. -/
import Derived.Test.YthlpbihkbafgbaaP16
namespace Go.Proofs.Ythlpbihkbafgbaa.RB
open Go Go.Maps Go.RowKit Go.BigFrame Go.Proofs.YthlpbihkbafgbaaW.PrintWords Go.Proofs.YthlpbihkbafgbaaW.PrintLast Go.Proofs.YthlpbihkbafgbaaW.PrintMore
set_option linter.unusedVariables false
set_option linter.unusedSimpArgs false

set_option maxHeartbeats 4000000 in
set_option maxRecDepth 100000 in
theorem once_any (w : World) (y : Int) (a : Option Addr) (len cap : Nat) (hy : (Lit.int .i64 y).wf = true) (hs : ∃ L, Steps w a len L) :
    Calls Try.prog 4 #[.int .i64 y, .slice a len cap] w fun e_ w' => e_ = .returned (.bool true) ∧ Below w.heap.size w w' := by
  obtain ⟨L, hL⟩ := hs
  have HL := Aside0.mk hL
  have ml : len ≤ 9223372036854775807 := hL.2.1
  have HY : Aside0 (-9223372036854775808 ≤ y ∧ y ≤ 9223372036854775807) := ⟨by simp [Lit.wf, IntKind.min, IntKind.max, IntKind.signed, IntKind.bits] at hy; omega⟩
  clear hL
  go_enter Try.func4, Try.ntmps4
  go_wp2_with (first | (go_at_call 8; (with_reducible refine (shown_any w).mono ?_); rintro e_ w1 ⟨rfl, b1⟩; have B1 := Aside0.mk b1; clear b1) | (go_at_call 9; (with_reducible refine (new_at w1 w.heap.size B1.out.size y HY.out).mono ?_); rintro e_ w2 ⟨p, rfl, A2, F2⟩; have A2 := Aside0.mk A2; have F2 := Aside0.mk F2))
  obtain ⟨m, hm⟩ : ∃ m_ : Int, m_ = max y 1 := ⟨_, rfl⟩
  rw [← hm] at A2
  have HM := Aside0.mk hm
  clear hm
  go_loopw [7, 8] (fun dv v wr => ∃ (k n : Nat) (fl : Int) (S : List Ent) (D : List Stp), v = .int .i64 (k : Int) ∧ k ≤ len ∧ k ≤ 300 ∧ n ≤ k ∧ D.length ≤ k ∧ OkE fl ∧ Aside0 (At w.heap.size wr p n m fl S) ∧ Aside0 (Done wr w.heap.size dv D) ∧ Aside0 (OnceInv m fl S D) ∧ Aside0 (Below w.heap.size w wr)) (fun _ v _ => 300 - (intOf v).toNat)
  case atStart => exact ⟨0, 0, 0, [], [], rfl, Nat.zero_le _, Nat.zero_le _, Nat.le_refl _, Nat.le_refl _, by unfold OkE; omega, A2, ⟨done_nil _ _⟩, ⟨once_start m (by have := HM.out; omega)⟩, ⟨B1.out.trans F2.out.be⟩⟩
  case round =>
    obtain ⟨k, n, fl, S, D, rfl, hk, hk2, hn, hDl, hfl, A4, D4, OI, B4⟩ := hrel
    by_cases hkl : k < len
    · by_cases hk3 : k < 300
      · obtain ⟨⟨kd, ep, tt⟩, x, hsk, hso, rfl, hc⟩ := (HL.out.low B4.out).at_ hkl
        obtain ⟨A, hA⟩ : ∃ A_ : Addr, x.add (k * 18) = A_ := ⟨_, rfl⟩
        rw [hA] at hc
        obtain ⟨a2, cap2, rfl, _⟩ := D4.out.steps
        have HC := Aside0.mk hc
        have HSO := Aside0.mk hso
        have HE : Aside0 (OkE ep) := ⟨hso.e⟩
        have HTT : Aside0 (IsTag tt) := ⟨hso.t⟩
        have hst := store_stp wr hso
        unfold zero32 at hst
        have hsz := stpR_size hso
        have BX5 : Aside0 ((wr.alloc (.cells (stpR (kd, ep, tt)) 32)).heap[wr.heap.size]? = some (.cells (stpR (kd, ep, tt)) 32 (0, 0))) := ⟨blk_new _ _⟩
        have A5 : Aside0 (At w.heap.size (wr.alloc (.cells (stpR (kd, ep, tt)) 32)) p n m fl S) := ⟨A4.out.below (below_alloc (Below.refl _ _) _)⟩
        have D5 : Aside0 (Done (wr.alloc (.cells (stpR (kd, ep, tt)) 32)) w.heap.size (.slice a2 D.length cap2) D) := ⟨D4.out.below (below_alloc (Below.refl _ _) _)⟩
        have B5 : Aside0 (Below w.heap.size w (wr.alloc (.cells (stpR (kd, ep, tt)) 32))) := ⟨below_alloc B4.out _⟩
        obtain ⟨c0, c1, c2⟩ := box_cells BX5.out
        have C2 := Aside0.mk c2
        have HFL := Aside0.mk hfl
        have HKN : Aside0 (n ≤ k ∧ D.length ≤ k ∧ k < 300) := ⟨hn, hDl, hk3⟩
        clear c2 hc hso hsk
        by_cases hkd : kd ≤ 4
        · obtain ⟨c, hc⟩ : ∃ c_ : Int, addC m fl S ep tt = c_ := ⟨_, rfl⟩
          have HCC := Aside0.mk hc
          clear hc
          have ml2 : D.length ≤ 300 := by omega
          go_wp2_with (first | (refine wpList_load_stp rfl _ rfl A rfl (kd, ep, tt) HSO.out HC.out ?_) | (refine wpList_load_tag rfl _ rfl ⟨wr.heap.size, 2, none⟩ rfl tt HTT.out C2.out ?_) | (go_at_call 11; (with_reducible refine (add_at (w := (wr.alloc (.cells (stpR (kd, ep, tt)) 32))) A5.out ep HE.out tt HTT.out (by have := HKN.out; omega) rfl HCC.out rfl).mono ?_); rintro e_ w6 ⟨rfl, A6, F6⟩; have A6 := Aside0.mk A6; have F6 := Aside0.mk F6; have BX6 : Aside0 (w6.heap[wr.heap.size]? = some (.cells (stpR (kd, ep, tt)) 32 (0, 0))) := ⟨F6.out.kept _ _ _ _ BX5.out (by decide)⟩; have D6 : Aside0 (Done w6 w.heap.size (.slice a2 D.length cap2) D) := ⟨D5.out.fr F6.out⟩; have B6 : Aside0 (Below w.heap.size w w6) := ⟨B5.out.trans F6.out.be⟩))
          obtain ⟨w10, rfl⟩ : ∃ x_ : World, x_ = wr := ⟨_, rfl⟩
          have St6 : Aside0 (Steps w6 a2 D.length D) := ⟨by obtain ⟨a3, cap3, he3, hs3⟩ := D6.out.steps; injection he3 with h1 h2 h3; subst h1; exact hs3⟩
          go_loopw [11, 12] (fun tw jv wr => ∃ (j q : Nat) (b : Bool), jv = .int .i64 (j : Int) ∧ j ≤ D.length ∧ tw = .bool b ∧ Aside0 (seen (D.take j) ep tt = b) ∧ Aside0 (wr = w6.drewN q)) (fun _ jv _ => D.length - (intOf jv).toNat)
          case atStart => exact ⟨0, 0, false, rfl, Nat.zero_le _, rfl, ⟨rfl⟩, ⟨rfl⟩⟩
          case round =>
            obtain ⟨j, q, b, rfl, hj, rfl, hb, hq⟩ := hrel
            have BX8 : Aside0 (wr.heap[w10.heap.size]? = some (.cells (stpR (kd, ep, tt)) 32 (0, 0))) := ⟨by rw [hq.out]; exact BX6.out⟩
            by_cases hjd : j < D.length
            · obtain ⟨⟨k2, e2, t2⟩, x2, hs2, ok2, rfl, hc2⟩ := St6.out.at_ hjd
              obtain ⟨A2, hA2⟩ : ∃ A_ : Addr, x2.add (j * 18) = A_ := ⟨_, rfl⟩
              rw [hA2] at hc2
              have HT2 : Aside0 (IsTag t2) := ⟨ok2.t⟩
              obtain ⟨d0, d1, d2⟩ := stp_cells hc2
              have C22 : Aside0 (CellsAt wr ⟨A2.block, A2.off + 2, none⟩ (t2.map (Value.int .u8))) := ⟨by rw [hq.out]; exact d2⟩
              have g1 : ∀ m_, (wr.drewN m_).cell? ⟨A2.block, A2.off + 1, none⟩ = some (.int .u32 e2) := fun m_ => by rw [hq.out]; exact d1
              have g2 : ∀ m_, (wr.drewN m_).cell? ⟨w10.heap.size, 1, none⟩ = some (.int .u32 ep) := fun m_ => (box_cells (w := wr.drewN m_) BX8.out).2.1
              have HS2 := Aside0.mk hs2
              clear d0 d1 d2 hc2 ok2 hs2
              cases b with
              | true =>
                go_wp2_with fail
                refine wp_region_quiet_lit (by kernel_rfl) (by kernel_rfl) ?_
                repeat (first | (go_big_quiet_want; refine quiet_load_tag _ rfl ⟨w10.heap.size, 2, none⟩ rfl tt HTT.out ?_ ?_; (rintro w_ ⟨m_, rfl⟩; exact (box_cells BX8.out).2.2); go_frame; go_big_quiet_on) | (go_big_quiet_want; refine quiet_load_tag _ rfl ⟨A2.block, A2.off + 2, none⟩ rfl t2 HT2.out ?_ ?_; (rintro w_ ⟨m_, rfl⟩; exact C22.out); go_frame; go_big_quiet_on) | (go_big_quiet_want; refine quiet_eqtag (t := t2) (t' := tt) _ _ _ rfl HT2.out HTT.out rfl rfl ?_; go_frame; go_big_quiet_on) | go_big_quiet_step (fail))
                refine wpQuiet_nil ?_
                rintro _ ⟨nq, rfl⟩
                go_wp2_with fail
                exact ⟨⟨j + 1, q + nq, true, by simp, by omega, rfl, ⟨by rw [seen_take D HS2.out, hb.out]; rfl⟩, ⟨by rw [hq.out, World.drewN_drewN]⟩⟩, by simp only [intOf]; omega⟩
              | false =>
                by_cases he2 : e2 = ep
                · subst e2
                  go_wp2_with fail
                  refine wp_region_quiet_lit (by kernel_rfl) (by kernel_rfl) ?_
                  repeat (first | (go_big_quiet_want; refine quiet_load_tag _ rfl ⟨w10.heap.size, 2, none⟩ rfl tt HTT.out ?_ ?_; (rintro w_ ⟨m_, rfl⟩; exact (box_cells BX8.out).2.2); go_frame; go_big_quiet_on) | (go_big_quiet_want; refine quiet_load_tag _ rfl ⟨A2.block, A2.off + 2, none⟩ rfl t2 HT2.out ?_ ?_; (rintro w_ ⟨m_, rfl⟩; exact C22.out); go_frame; go_big_quiet_on) | (go_big_quiet_want; refine quiet_eqtag (t := t2) (t' := tt) _ _ _ rfl HT2.out HTT.out rfl rfl ?_; go_frame; go_big_quiet_on) | go_big_quiet_step (fail))
                  refine wpQuiet_nil ?_
                  rintro _ ⟨nq, rfl⟩
                  go_wp2_with fail
                  exact ⟨⟨j + 1, q + nq, decide (t2 = tt), by simp, by omega, rfl, ⟨by rw [seen_take D HS2.out, hb.out]; simp⟩, ⟨by rw [hq.out, World.drewN_drewN]⟩⟩, by simp only [intOf]; omega⟩
                · have he2' : (e2 == ep) = false := by simp [he2]
                  go_wp2_with fail
                  refine wp_region_quiet_lit (by kernel_rfl) (by kernel_rfl) ?_
                  repeat (first | (go_big_quiet_want; refine quiet_load_tag _ rfl ⟨w10.heap.size, 2, none⟩ rfl tt HTT.out ?_ ?_; (rintro w_ ⟨m_, rfl⟩; exact (box_cells BX8.out).2.2); go_frame; go_big_quiet_on) | (go_big_quiet_want; refine quiet_load_tag _ rfl ⟨A2.block, A2.off + 2, none⟩ rfl t2 HT2.out ?_ ?_; (rintro w_ ⟨m_, rfl⟩; exact C22.out); go_frame; go_big_quiet_on) | (go_big_quiet_want; refine quiet_eqtag (t := t2) (t' := tt) _ _ _ rfl HT2.out HTT.out rfl rfl ?_; go_frame; go_big_quiet_on) | go_big_quiet_step (fail))
                  refine wpQuiet_nil ?_
                  rintro _ ⟨nq, rfl⟩
                  go_wp2_with fail
                  exact ⟨⟨j + 1, q + nq, false, by simp, by omega, rfl, ⟨by rw [seen_take D HS2.out, hb.out]; simp [he2]⟩, ⟨by rw [hq.out, World.drewN_drewN]⟩⟩, by simp only [intOf]; omega⟩
            · have hj2 : j = D.length := by omega
              subst hj2
              have HB : Aside0 (seen D ep tt = b) := ⟨by have := hb.out; rw [List.take_length] at this; exact this⟩
              have A8 : Aside0 (At w.heap.size wr p (n + 1) m fl (addS m fl S ep tt)) := ⟨by rw [hq.out]; exact A6.out.below (pw_below_drewN (Below.refl _ _) _)⟩
              have D8 : Aside0 (Done wr w.heap.size (.slice a2 D.length cap2) D) := ⟨by rw [hq.out]; exact D6.out.below (pw_below_drewN (Below.refl _ _) _)⟩
              have B8 : Aside0 (Below w.heap.size w wr) := ⟨by rw [hq.out]; exact B6.out.trans (pw_below_drewN (Below.refl _ _) _)⟩
              have c18 := (box_cells BX8.out).2.1
              obtain ⟨z, hz⟩ : ∃ z_ : Int, (cnt (addS m fl S ep tt) ep : Int) = z_ := ⟨_, rfl⟩
              have HZ := Aside0.mk hz
              clear hz
              rcases addC_cases m fl S ep tt with h1 | h1 | h1 | h1
              · obtain rfl : c = 11 := by rw [← HCC.out]; exact h1.1
                have OI8 : Aside0 (OnceInv m fl (addS m fl S ep tt) D) := ⟨once_not OI.out (by rw [HCC.out]; decide)⟩
                have hz3 : z ≤ max y 1 := by have h3 := OI8.out.i3 ep; rw [HZ.out, HM.out] at h3; exact h3
                clear h1
                by_cases hy1 : y ≤ 1
                · have hz4 : z ≤ 1 := by omega
                  clear hz3
                  go_wp2_with (first | (go_at_call 17; (with_reducible refine (len_at (w := wr) A8.out ep HE.out HZ.out).mono ?_); rintro e_ w' ⟨rfl, hw'⟩; subst w'))
                  all_goals exact ⟨⟨k + 1, n + 1, fl, _, D, by simp, by omega, by omega, by omega, by omega, HFL.out, A8, D8, OI8, B8⟩, by simp only [intOf]; omega⟩
                · have hz4 : z ≤ y := by omega
                  clear hz3
                  go_wp2_with (first | (go_at_call 17; (with_reducible refine (len_at (w := wr) A8.out ep HE.out HZ.out).mono ?_); rintro e_ w' ⟨rfl, hw'⟩; subst w'))
                  all_goals exact ⟨⟨k + 1, n + 1, fl, _, D, by simp, by omega, by omega, by omega, by omega, HFL.out, A8, D8, OI8, B8⟩, by simp only [intOf]; omega⟩
              · obtain rfl : c = 7 := by rw [← HCC.out]; exact h1.1
                obtain rfl : b = true := by rw [← HB.out]; exact once_seven OI.out HCC.out
                have OI8 : Aside0 (OnceInv m fl (addS m fl S ep tt) D) := ⟨once_not OI.out (by rw [HCC.out]; decide)⟩
                have hz3 : z ≤ max y 1 := by have h3 := OI8.out.i3 ep; rw [HZ.out, HM.out] at h3; exact h3
                clear h1
                by_cases hy1 : y ≤ 1
                · have hz4 : z ≤ 1 := by omega
                  clear hz3
                  go_wp2_with (first | (go_at_call 17; (with_reducible refine (len_at (w := wr) A8.out ep HE.out HZ.out).mono ?_); rintro e_ w' ⟨rfl, hw'⟩; subst w'))
                  all_goals exact ⟨⟨k + 1, n + 1, fl, _, D, by simp, by omega, by omega, by omega, by omega, HFL.out, A8, D8, OI8, B8⟩, by simp only [intOf]; omega⟩
                · have hz4 : z ≤ y := by omega
                  clear hz3
                  go_wp2_with (first | (go_at_call 17; (with_reducible refine (len_at (w := wr) A8.out ep HE.out HZ.out).mono ?_); rintro e_ w' ⟨rfl, hw'⟩; subst w'))
                  all_goals exact ⟨⟨k + 1, n + 1, fl, _, D, by simp, by omega, by omega, by omega, by omega, HFL.out, A8, D8, OI8, B8⟩, by simp only [intOf]; omega⟩
              · obtain rfl : c = 8 := by rw [← HCC.out]; exact h1.1
                have OI8 : Aside0 (OnceInv m fl (addS m fl S ep tt) D) := ⟨once_not OI.out (by rw [HCC.out]; decide)⟩
                have hz3 : z ≤ max y 1 := by have h3 := OI8.out.i3 ep; rw [HZ.out, HM.out] at h3; exact h3
                clear h1
                by_cases hy1 : y ≤ 1
                · have hz4 : z ≤ 1 := by omega
                  clear hz3
                  go_wp2_with (first | (go_at_call 17; (with_reducible refine (len_at (w := wr) A8.out ep HE.out HZ.out).mono ?_); rintro e_ w' ⟨rfl, hw'⟩; subst w'))
                  all_goals exact ⟨⟨k + 1, n + 1, fl, _, D, by simp, by omega, by omega, by omega, by omega, HFL.out, A8, D8, OI8, B8⟩, by simp only [intOf]; omega⟩
                · have hz4 : z ≤ y := by omega
                  clear hz3
                  go_wp2_with (first | (go_at_call 17; (with_reducible refine (len_at (w := wr) A8.out ep HE.out HZ.out).mono ?_); rintro e_ w' ⟨rfl, hw'⟩; subst w'))
                  all_goals exact ⟨⟨k + 1, n + 1, fl, _, D, by simp, by omega, by omega, by omega, by omega, HFL.out, A8, D8, OI8, B8⟩, by simp only [intOf]; omega⟩
              · obtain rfl : c = 0 := by rw [← HCC.out]; exact h1.1
                obtain rfl : b = false := by rw [← HB.out]; exact once_zero OI.out HCC.out
                have OI8 : Aside0 (OnceInv m fl (addS m fl S ep tt) (D ++ [(kd, ep, tt)])) := ⟨once_add OI.out HCC.out⟩
                have hz3 : z ≤ max y 1 := by have h3 := OI8.out.i3 ep; rw [HZ.out, HM.out] at h3; exact h3
                clear h1
                by_cases hy1 : y ≤ 1
                · have hz4 : z ≤ 1 := by omega
                  clear hz3
                  go_wp2_with (first | (go_at_call 17; (with_reducible refine (len_at (w := wr) A8.out ep HE.out HZ.out).mono ?_); rintro e_ w' ⟨rfl, hw'⟩; subst w') | (refine wpList_load_row rfl 32 _ rfl w10.heap.size rfl 32 _ (0, 0) _ BX8.out Try.underlying32 rfl (by rw [stpR_size HSO.out]; kernel_rfl) ?_) | (refine wpList_slice1 rfl _ rfl kd ep HTT.out rfl ?_) | (at_builtin; refine wpList_append_stp (w0 := w) w.heap.size rfl _ _ rfl (.slice a2 D.length cap2) D (kd, ep, tt) HSO.out rfl rfl D8.out B8.out B8.out.size (by omega) ?_; intro v9 w9 D9 B9 g9; have A9 := Aside0.mk (A8.out.grown D8.out g9); have D9 := Aside0.mk D9; have B9 := Aside0.mk B9; clear g9))
                  all_goals exact ⟨⟨k + 1, n + 1, fl, _, D ++ [(kd, ep, tt)], by simp, by omega, by omega, by omega, by simp; omega, HFL.out, A9, D9, OI8, B9⟩, by simp only [intOf]; omega⟩
                · have hz4 : z ≤ y := by omega
                  clear hz3
                  go_wp2_with (first | (go_at_call 17; (with_reducible refine (len_at (w := wr) A8.out ep HE.out HZ.out).mono ?_); rintro e_ w' ⟨rfl, hw'⟩; subst w') | (refine wpList_load_row rfl 32 _ rfl w10.heap.size rfl 32 _ (0, 0) _ BX8.out Try.underlying32 rfl (by rw [stpR_size HSO.out]; kernel_rfl) ?_) | (refine wpList_slice1 rfl _ rfl kd ep HTT.out rfl ?_) | (at_builtin; refine wpList_append_stp (w0 := w) w.heap.size rfl _ _ rfl (.slice a2 D.length cap2) D (kd, ep, tt) HSO.out rfl rfl D8.out B8.out B8.out.size (by omega) ?_; intro v9 w9 D9 B9 g9; have A9 := Aside0.mk (A8.out.grown D8.out g9); have D9 := Aside0.mk D9; have B9 := Aside0.mk B9; clear g9))
                  all_goals exact ⟨⟨k + 1, n + 1, fl, _, D ++ [(kd, ep, tt)], by simp, by omega, by omega, by omega, by simp; omega, HFL.out, A9, D9, OI8, B9⟩, by simp only [intOf]; omega⟩
        · go_wp2_with (first | (refine wpList_load_stp rfl _ rfl A rfl (kd, ep, tt) HSO.out HC.out ?_) | (go_at_call 13; (with_reducible refine (expire_at (w := (wr.alloc (.cells (stpR (kd, ep, tt)) 32))) A5.out ep HE.out (by have := HKN.out; omega) rfl rfl rfl).mono ?_); rintro e_ w6 ⟨rfl, A6, F6⟩; have A6 := Aside0.mk A6; have F6 := Aside0.mk F6))
          exact ⟨⟨k + 1, n, max fl ep, keepE (max fl ep) S, D, by simp, by omega, by omega, by omega, by omega, by have h1 := HFL.out; have h2 := HE.out; unfold OkE at h1 h2 ⊢; omega, A6, ⟨D5.out.fr F6.out⟩, ⟨once_expire OI.out ep⟩, ⟨B5.out.trans F6.out.be⟩⟩, by simp only [intOf]; omega⟩
      · go_wp2_with fail
        go_ret
        exact ⟨rfl, B4.out⟩
    · go_wp2_with fail
      go_ret
      exact ⟨rfl, B4.out⟩
end Go.Proofs.Ythlpbihkbafgbaa.RB
