/- The walk of ReplayApart: an epoch's own steps alone decide what is remembered of it. -/
import Derived.Test.YthlpbihkbafgbaaP14
namespace Go.Proofs.Ythlpbihkbafgbaa.RB
open Go Go.Maps Go.RowKit Go.BigFrame Go.Proofs.YthlpbihkbafgbaaW.PrintWords Go.Proofs.YthlpbihkbafgbaaW.PrintLast Go.Proofs.YthlpbihkbafgbaaW.PrintMore
set_option linter.unusedVariables false
set_option linter.unusedSimpArgs false

set_option maxHeartbeats 4000000 in
set_option maxRecDepth 100000 in
theorem apart_any (w : World) (y : Int) (a : Option Addr) (len cap : Nat) (e : Int) (hy : (Lit.int .i64 y).wf = true) (hs : ∃ L, Steps w a len L) (he : OkE e) :
    Calls Try.prog 6 #[.int .i64 y, .slice a len cap, .int .u32 e] w fun e_ w' => e_ = .returned (.bool true) ∧ Below w.heap.size w w' := by
  obtain ⟨L, hL⟩ := hs
  have HL := Aside0.mk hL
  have ml : len ≤ 9223372036854775807 := hL.2.1
  have HY : Aside0 (-9223372036854775808 ≤ y ∧ y ≤ 9223372036854775807) := ⟨by simp [Lit.wf, IntKind.min, IntKind.max, IntKind.signed, IntKind.bits] at hy; omega⟩
  clear hL
  go_enter Try.func6, Try.ntmps6
  go_wp2_with (first | (go_at_call 8; (with_reducible refine (shown_any w).mono ?_); rintro e_ w1 ⟨rfl, b1⟩; have B1 := Aside0.mk b1; clear b1) | (go_at_call 9; (with_reducible refine (new_at w1 w.heap.size B1.out.size y HY.out).mono ?_); rintro e_ w2 ⟨pa, rfl, A2, F2⟩; have A2 := Aside0.mk A2; have F2 := Aside0.mk F2) | (go_at_call 9; (with_reducible refine (two_new (w := w2) A2.out HY.out).mono ?_); rintro e_ w3 ⟨pb, rfl, T3, F3⟩; have T3 := Aside0.mk T3; have F3 := Aside0.mk F3))
  go_loopw [10] (fun v wr => ∃ (k na nb : Nat) (Sa Sb : List Ent), v = .int .i64 (k : Int) ∧ k ≤ len ∧ k ≤ 200 ∧ na ≤ k ∧ nb ≤ k ∧ Aside0 (Two w.heap.size wr pa pb na nb (max y 1) Sa Sb) ∧ Aside0 (Same e Sa Sb) ∧ Aside0 (Below w.heap.size w wr)) (fun v _ => 200 - (intOf v).toNat)
  case atStart => exact ⟨0, 0, 0, [], [], rfl, Nat.zero_le _, Nat.zero_le _, Nat.le_refl _, Nat.le_refl _, T3, ⟨⟨fun t => Iff.rfl, rfl⟩⟩, ⟨(B1.out.trans F2.out.be).trans F3.out.be⟩⟩
  case round =>
    obtain ⟨k, na, nb, Sa, Sb, rfl, hk, hk2, hna, hnb, T4, SM, B4⟩ := hrel
    by_cases hkl : k < len
    · by_cases hk3 : k < 200
      · obtain ⟨⟨kd, ep, tt⟩, x, hsk, hso, rfl, hc⟩ := (HL.out.low B4.out).at_ hkl
        obtain ⟨A, hA⟩ : ∃ A_ : Addr, x.add (k * 18) = A_ := ⟨_, rfl⟩
        rw [hA] at hc
        have HC := Aside0.mk hc
        have HSO := Aside0.mk hso
        have HE : Aside0 (OkE ep) := ⟨hso.e⟩
        have HTT : Aside0 (IsTag tt) := ⟨hso.t⟩
        have hst := store_stp wr hso
        unfold zero32 at hst
        have hsz := stpR_size hso
        have BX5 : Aside0 ((wr.alloc (.cells (stpR (kd, ep, tt)) 32)).heap[wr.heap.size]? = some (.cells (stpR (kd, ep, tt)) 32 (0, 0))) := ⟨blk_new _ _⟩
        have T5 : Aside0 (Two w.heap.size (wr.alloc (.cells (stpR (kd, ep, tt)) 32)) pa pb na nb (max y 1) Sa Sb) := ⟨T4.out.below (below_alloc (Below.refl _ _) _)⟩
        have B5 : Aside0 (Below w.heap.size w (wr.alloc (.cells (stpR (kd, ep, tt)) 32))) := ⟨below_alloc B4.out _⟩
        obtain ⟨c0, c1, c2⟩ := box_cells BX5.out
        have C2 := Aside0.mk c2
        have HKN : Aside0 (na ≤ k ∧ nb ≤ k ∧ k < 200) := ⟨hna, hnb, hk3⟩
        clear c2 hc hso hsk
        by_cases hkd : kd ≤ 4
        · obtain ⟨c, hc⟩ : ∃ c_ : Int, addC (max y 1) 0 Sa ep tt = c_ := ⟨_, rfl⟩
          have HCC := Aside0.mk hc
          clear hc
          by_cases hpe : ep = e
          · subst ep
            go_wp2_with (first | (refine wpList_load_stp rfl _ rfl A rfl (kd, e, tt) HSO.out HC.out ?_) | (refine wpList_load_tag rfl _ rfl ⟨wr.heap.size, 2, none⟩ rfl tt HTT.out C2.out ?_) | (go_at_call 11; (with_reducible refine (two_add (w := (wr.alloc (.cells (stpR (kd, e, tt)) 32))) T5.out e HE.out tt HTT.out (by have := HKN.out; omega) HCC.out).mono ?_); rintro e_ w6 ⟨rfl, T6, F6⟩; have T6 := Aside0.mk T6; have F6 := Aside0.mk F6; have BX6 : Aside0 (w6.heap[wr.heap.size]? = some (.cells (stpR (kd, e, tt)) 32 (0, 0))) := ⟨F6.out.kept _ _ _ _ BX5.out (by decide)⟩; have C26 := Aside0.mk (box_cells BX6.out).2.2; have c16 := (box_cells BX6.out).2.1; have B6 : Aside0 (Below w.heap.size w w6) := ⟨B5.out.trans F6.out.be⟩) | (refine want_load_tag rfl _ rfl ⟨wr.heap.size, 2, none⟩ rfl tt HTT.out C26.out ?_) | (go_at_call 11; (with_reducible refine (two_add (w := w6) T6.out.swap e HE.out tt HTT.out (by have := HKN.out; omega) ((same_addC SM.out).symm.trans HCC.out)).mono ?_); rintro e_ w7 ⟨rfl, T7, F7⟩; have T7 := Aside0.mk T7.swap; have F7 := Aside0.mk F7; have BX7 : Aside0 (w7.heap[wr.heap.size]? = some (.cells (stpR (kd, e, tt)) 32 (0, 0))) := ⟨F7.out.kept _ _ _ _ BX6.out (by decide)⟩; have B7 : Aside0 (Below w.heap.size w w7) := ⟨B6.out.trans F7.out.be⟩))
            have SM7 : Aside0 (Same e (addS (max y 1) 0 Sa e tt) (addS (max y 1) 0 Sb e tt)) := ⟨same_add SM.out⟩
            obtain ⟨q, hq⟩ : ∃ q_ : Bool, decide ((e, tt) ∈ (addS (max y 1) 0 Sa e tt)) = q_ := ⟨_, rfl⟩
            obtain ⟨z, hz⟩ : ∃ z_ : Int, (cnt (addS (max y 1) 0 Sa e tt) e : Int) = z_ := ⟨_, rfl⟩
            have HQ := Aside0.mk hq
            have HZ := Aside0.mk hz
            have HQ2 : Aside0 (decide ((e, tt) ∈ (addS (max y 1) 0 Sb e tt)) = q) := ⟨by rw [← same_has SM7.out]; exact hq⟩
            have HZ2 : Aside0 ((cnt (addS (max y 1) 0 Sb e tt) e : Int) = z) := ⟨by rw [← SM7.out.2]; exact hz⟩
            clear hq hz
            refine wp_region_quiet_in (fun w_ => Below w7.heap.size w7 w_) (by kernel_rfl) (by kernel_rfl) (below_drew1 (Below.refl _ _)) ?_
            repeat (first | (go_big_quiet_want; refine quiet_load_tag _ rfl ⟨wr.heap.size, 2, none⟩ rfl tt HTT.out ?_ ?_; (intro w_ hw_; exact (box_cells ((hw_.block _ (Array.getElem?_eq_some_iff.1 BX7.out).1).trans BX7.out)).2.2); go_frame; go_big_quiet_on) | (go_big_quiet_want; refine quiet_call (.bool q) Try.func15 (by kernel_rfl) rfl #[.pointer (some ⟨pa, 0, none⟩), .int .u32 e, .agg (tagA tt)] rfl ?_ ?_ ?_; (focus (simp [Act.eval, Act.put]; done)); (intro w_ hw_; refine (has_at (T7.out.left.below hw_) e he tt HTT.out rfl HQ.out).mono ?_; rintro e_ w' ⟨rfl, b_⟩; exact ⟨rfl, below_then hw_ hw_.size b_⟩); go_frame; go_big_quiet_on) | (go_big_quiet_want; refine quiet_call (.bool q) Try.func15 (by kernel_rfl) rfl #[.pointer (some ⟨pb, 0, none⟩), .int .u32 e, .agg (tagA tt)] rfl ?_ ?_ ?_; (focus (simp [Act.eval, Act.put]; done)); (intro w_ hw_; refine (has_at (T7.out.swap.left.below hw_) e he tt HTT.out rfl HQ2.out).mono ?_; rintro e_ w' ⟨rfl, b_⟩; exact ⟨rfl, below_then hw_ hw_.size b_⟩); go_frame; go_big_quiet_on) | (go_big_quiet_want; refine quiet_call (.int .i64 z) Try.func17 (by kernel_rfl) rfl #[.pointer (some ⟨pa, 0, none⟩), .int .u32 e] rfl ?_ ?_ ?_; (focus (simp [Act.eval, Act.put]; done)); (intro w_ hw_; refine (len_at (T7.out.left.below hw_) e he HZ.out).mono ?_; rintro e_ w' ⟨rfl, rfl⟩; exact ⟨rfl, hw_⟩); go_frame; go_big_quiet_on) | (go_big_quiet_want; refine quiet_call (.int .i64 z) Try.func17 (by kernel_rfl) rfl #[.pointer (some ⟨pb, 0, none⟩), .int .u32 e] rfl ?_ ?_ ?_; (focus (simp [Act.eval, Act.put]; done)); (intro w_ hw_; refine (len_at (T7.out.swap.left.below hw_) e he HZ2.out).mono ?_; rintro e_ w' ⟨rfl, rfl⟩; exact ⟨rfl, hw_⟩); go_frame; go_big_quiet_on) | go_big_quiet_skip | (go_big_quiet_want; apply quiet_run; (focus (intro w_ hw_; go_simp; with_reducible rfl)); go_frame; go_big_quiet_on) | go_big_quiet_step (fail))
            refine wpQuiet_nil ?_
            intro w8 hw8
            have HW8 := Aside0.mk hw8
            clear hw8
            go_wp2_with fail
            exact ⟨⟨k + 1, na + 1, nb + 1, _, _, by simp, by omega, by omega, by omega, by omega, ⟨T7.out.below HW8.out⟩, SM7, ⟨B7.out.trans (HW8.out.mono T7.out.left.low)⟩⟩, by simp only [intOf]; omega⟩
          · have hpe' : (ep == e) = false := by simp [hpe]
            go_wp2_with (first | (refine wpList_load_stp rfl _ rfl A rfl (kd, ep, tt) HSO.out HC.out ?_) | (refine wpList_load_tag rfl _ rfl ⟨wr.heap.size, 2, none⟩ rfl tt HTT.out C2.out ?_) | (go_at_call 11; (with_reducible refine (two_add (w := (wr.alloc (.cells (stpR (kd, ep, tt)) 32))) T5.out ep HE.out tt HTT.out (by have := HKN.out; omega) HCC.out).mono ?_); rintro e_ w6 ⟨rfl, T6, F6⟩; have T6 := Aside0.mk T6; have F6 := Aside0.mk F6; have BX6 : Aside0 (w6.heap[wr.heap.size]? = some (.cells (stpR (kd, ep, tt)) 32 (0, 0))) := ⟨F6.out.kept _ _ _ _ BX5.out (by decide)⟩; have C26 := Aside0.mk (box_cells BX6.out).2.2; have c16 := (box_cells BX6.out).2.1; have B6 : Aside0 (Below w.heap.size w w6) := ⟨B5.out.trans F6.out.be⟩))
            have SM6 : Aside0 (Same e (addS (max y 1) 0 Sa ep tt) Sb) := ⟨same_other SM.out hpe⟩
            obtain ⟨q, hq⟩ : ∃ q_ : Bool, decide ((e, tt) ∈ (addS (max y 1) 0 Sa ep tt)) = q_ := ⟨_, rfl⟩
            obtain ⟨z, hz⟩ : ∃ z_ : Int, (cnt (addS (max y 1) 0 Sa ep tt) e : Int) = z_ := ⟨_, rfl⟩
            have HQ := Aside0.mk hq
            have HZ := Aside0.mk hz
            have HQ2 : Aside0 (decide ((e, tt) ∈ Sb) = q) := ⟨by rw [← same_has SM6.out]; exact hq⟩
            have HZ2 : Aside0 ((cnt Sb e : Int) = z) := ⟨by rw [← SM6.out.2]; exact hz⟩
            clear hq hz
            refine wp_region_quiet_in (fun w_ => Below w6.heap.size w6 w_) (by kernel_rfl) (by kernel_rfl) (below_drew1 (Below.refl _ _)) ?_
            repeat (first | (go_big_quiet_want; refine quiet_load_tag _ rfl ⟨wr.heap.size, 2, none⟩ rfl tt HTT.out ?_ ?_; (intro w_ hw_; exact (box_cells ((hw_.block _ (Array.getElem?_eq_some_iff.1 BX6.out).1).trans BX6.out)).2.2); go_frame; go_big_quiet_on) | (go_big_quiet_want; refine quiet_call (.bool q) Try.func15 (by kernel_rfl) rfl #[.pointer (some ⟨pa, 0, none⟩), .int .u32 e, .agg (tagA tt)] rfl ?_ ?_ ?_; (focus (simp [Act.eval, Act.put]; done)); (intro w_ hw_; refine (has_at (T6.out.left.below hw_) e he tt HTT.out rfl HQ.out).mono ?_; rintro e_ w' ⟨rfl, b_⟩; exact ⟨rfl, below_then hw_ hw_.size b_⟩); go_frame; go_big_quiet_on) | (go_big_quiet_want; refine quiet_call (.bool q) Try.func15 (by kernel_rfl) rfl #[.pointer (some ⟨pb, 0, none⟩), .int .u32 e, .agg (tagA tt)] rfl ?_ ?_ ?_; (focus (simp [Act.eval, Act.put]; done)); (intro w_ hw_; refine (has_at (T6.out.swap.left.below hw_) e he tt HTT.out rfl HQ2.out).mono ?_; rintro e_ w' ⟨rfl, b_⟩; exact ⟨rfl, below_then hw_ hw_.size b_⟩); go_frame; go_big_quiet_on) | (go_big_quiet_want; refine quiet_call (.int .i64 z) Try.func17 (by kernel_rfl) rfl #[.pointer (some ⟨pa, 0, none⟩), .int .u32 e] rfl ?_ ?_ ?_; (focus (simp [Act.eval, Act.put]; done)); (intro w_ hw_; refine (len_at (T6.out.left.below hw_) e he HZ.out).mono ?_; rintro e_ w' ⟨rfl, rfl⟩; exact ⟨rfl, hw_⟩); go_frame; go_big_quiet_on) | (go_big_quiet_want; refine quiet_call (.int .i64 z) Try.func17 (by kernel_rfl) rfl #[.pointer (some ⟨pb, 0, none⟩), .int .u32 e] rfl ?_ ?_ ?_; (focus (simp [Act.eval, Act.put]; done)); (intro w_ hw_; refine (len_at (T6.out.swap.left.below hw_) e he HZ2.out).mono ?_; rintro e_ w' ⟨rfl, rfl⟩; exact ⟨rfl, hw_⟩); go_frame; go_big_quiet_on) | go_big_quiet_skip | (go_big_quiet_want; apply quiet_run; (focus (intro w_ hw_; go_simp; with_reducible rfl)); go_frame; go_big_quiet_on) | go_big_quiet_step (fail))
            refine wpQuiet_nil ?_
            intro w8 hw8
            have HW8 := Aside0.mk hw8
            clear hw8
            go_wp2_with fail
            exact ⟨⟨k + 1, na + 1, nb, _, _, by simp, by omega, by omega, by omega, by omega, ⟨T6.out.below HW8.out⟩, SM6, ⟨B6.out.trans (HW8.out.mono T6.out.left.low)⟩⟩, by simp only [intOf]; omega⟩
        · go_wp2_with (first | (refine wpList_load_stp rfl _ rfl A rfl (kd, ep, tt) HSO.out HC.out ?_))
          exact ⟨⟨k + 1, na, nb, Sa, Sb, by simp, by omega, by omega, by omega, by omega, T5, SM, B5⟩, by simp only [intOf]; omega⟩
      · go_wp2_with fail
        go_ret
        exact ⟨rfl, B4.out⟩
    · go_wp2_with fail
      go_ret
      exact ⟨rfl, B4.out⟩
end Go.Proofs.Ythlpbihkbafgbaa.RB
