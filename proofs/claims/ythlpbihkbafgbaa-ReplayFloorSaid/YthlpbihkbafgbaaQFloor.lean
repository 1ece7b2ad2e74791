/- The walk of ReplayFloor: the floor never falls; what is below it is forgotten, and refused. -/
import Derived.Test.YthlpbihkbafgbaaP13
namespace Go.Proofs.Ythlpbihkbafgbaa.RB
open Go Go.Maps Go.RowKit Go.BigFrame Go.Proofs.YthlpbihkbafgbaaW.PrintWords Go.Proofs.YthlpbihkbafgbaaW.PrintLast Go.Proofs.YthlpbihkbafgbaaW.PrintMore
set_option linter.unusedVariables false
set_option linter.unusedSimpArgs false

/-- Nothing is remembered below the floor. -/
def Low (fl : Int) (S : List Ent) : Prop := ∀ q ∈ S, fl ≤ q.1
theorem low_add {m fl : Int} {S : List Ent} (h : Low fl S) (e : Int) (t : List Int) : Low fl (addS m fl S e t) := by
  unfold addS
  split
  · rename_i hc
    intro q hq
    rcases List.mem_append.1 hq with hq | hq
    · exact h q hq
    · rw [List.mem_singleton.1 hq]
      by_cases hlt : e < fl
      · rw [addC_old hlt] at hc; cases hc
      · show fl ≤ e; omega
  · exact h
theorem low_keep (fl : Int) (S : List Ent) : Low fl (keepE fl S) := fun q hq => by
  have := (List.mem_filter.1 hq).2
  exact of_decide_eq_true this
theorem low_cnt {fl : Int} {S : List Ent} (h : Low fl S) {e : Int} (he : e < fl) : (cnt S e : Int) = 0 := by
  have : cnt S e = 0 := by
    unfold cnt
    rw [List.length_eq_zero_iff, List.filter_eq_nil_iff]
    intro q hq
    have := h q hq
    simp; omega
  rw [this]; rfl
theorem low_has {fl : Int} {S : List Ent} (h : Low fl S) {e : Int} (t : List Int) (he : e < fl) : decide ((e, t) ∈ S) = false := decide_eq_false fun hm => by
  have := h _ hm
  exact absurd he (by show ¬ e < fl; have : fl ≤ e := this; omega)
theorem keep_again {fl : Int} {S : List Ent} (h : Low fl S) : keepE fl S = S := by
  unfold keepE
  rw [List.filter_eq_self]
  intro q hq
  exact decide_eq_true (h q hq)
theorem addS_old {m fl : Int} {S : List Ent} {e : Int} {t : List Int} (h : e < fl) : addS m fl S e t = S := by
  unfold addS; rw [addC_old h]; rfl
set_option maxHeartbeats 4000000 in
set_option maxRecDepth 100000 in
theorem floorlaw_any (w : World) (y : Int) (a : Option Addr) (len cap : Nat) (e : Int) (t : List Int) (hy : (Lit.int .i64 y).wf = true) (hs : ∃ L, Steps w a len L) (he : OkE e) (ht : IsTag t) :
    Calls Try.prog 5 #[.int .i64 y, .slice a len cap, .int .u32 e, .agg (tagA t)] w fun e_ w' => e_ = .returned (.bool true) ∧ Below w.heap.size w w' := by
  obtain ⟨L, hL⟩ := hs
  have HL := Aside0.mk hL
  have ml : len ≤ 9223372036854775807 := hL.2.1
  have HY : Aside0 (-9223372036854775808 ≤ y ∧ y ≤ 9223372036854775807) := ⟨by simp [Lit.wf, IntKind.min, IntKind.max, IntKind.signed, IntKind.bits] at hy; omega⟩
  have HT := Aside0.mk ht
  clear hL
  go_enter Try.func5, Try.ntmps5
  go_wp2_with (first | (go_at_call 8; (with_reducible refine (shown_any (w.alloc (.cells (tagA t) 30))).mono ?_); rintro e_ w1 ⟨rfl, b1⟩; have B1 := Aside0.mk b1; clear b1) | (go_at_call 9; (with_reducible refine (new_at w1 (w.alloc (.cells (tagA t) 30)).heap.size B1.out.size y HY.out).mono ?_); rintro e_ w2 ⟨p, rfl, A2, F2⟩; have A2 := Aside0.mk A2; have F2 := Aside0.mk F2))
  obtain ⟨wb, hwb⟩ : ∃ w_ : World, w_ = w.alloc (.cells (tagA t) 30) := ⟨_, rfl⟩
  rw [← hwb] at A2 F2 B1
  have HK : Aside0 (wb.heap[w.heap.size]? = some (.cells (tagA t) 30 (0, 0))) := ⟨by rw [hwb]; exact blk_new _ _⟩
  have HS : Aside0 (Steps wb a len L) := ⟨by rw [hwb]; exact HL.out.below (below_alloc (Below.refl _ _) _)⟩
  have HW : Aside0 (Below w.heap.size w wb) := ⟨by rw [hwb]; exact below_alloc (Below.refl _ _) _⟩
  clear hwb
  go_loopw [11, 12] (fun f v wr => ∃ (k n : Nat) (fl : Int) (S : List Ent), v = .int .i64 (k : Int) ∧ f = .int .u32 fl ∧ k ≤ len ∧ k ≤ 200 ∧ n ≤ 2 * k ∧ OkE fl ∧ Aside0 (At wb.heap.size wr p n (max y 1) fl S) ∧ Aside0 (Low fl S) ∧ Aside0 (Below wb.heap.size wb wr)) (fun _ v _ => 200 - (intOf v).toNat)
  case atStart => exact ⟨0, 0, 0, [], rfl, rfl, Nat.zero_le _, Nat.zero_le _, Nat.le_refl _, by unfold OkE; omega, A2, ⟨by intro q hq; cases hq⟩, ⟨B1.out.trans F2.out.be⟩⟩
  case round =>
    obtain ⟨k, n, fl, S, rfl, rfl, hk, hk2, hn, hfl, A3, L3, B3⟩ := hrel
    by_cases hkl : k < len
    · by_cases hk3 : k < 200
      · obtain ⟨⟨kd, ep, tt⟩, x, hsk, hso, rfl, hc⟩ := (HS.out.below B3.out).at_ hkl
        have HX : Aside0 (x.block < wb.heap.size) := ⟨by obtain ⟨x2, hx2, hc2⟩ := HS.out.2.2.2 _ _ hsk; injection hx2 with hx2; subst hx2; have := World.block_lt_of_cell? wb _ hc2.head; rw [add_block, add_block] at this; exact this⟩
        obtain ⟨A, hA⟩ : ∃ A_ : Addr, x.add (k * 18) = A_ := ⟨_, rfl⟩
        rw [hA] at hc
        obtain ⟨c0, c1, c2⟩ := stp_cells hc
        have C1 := Aside0.mk c1
        have C2 := Aside0.mk c2
        have HE : Aside0 (OkE ep) := ⟨hso.e⟩
        have HTT : Aside0 (IsTag tt) := ⟨hso.t⟩
        have HK3 : Aside0 (wr.heap[w.heap.size]? = some (.cells (tagA t) 30 (0, 0))) := ⟨(B3.out.block _ (Array.getElem?_eq_some_iff.1 HK.out).1).trans HK.out⟩
        have HFL := Aside0.mk hfl
        have AB : Aside0 (A.block < wb.heap.size) := ⟨by rw [← hA, add_block]; exact HX.out⟩
        have HKN : Aside0 (n ≤ 2 * k ∧ k < 200) := ⟨hn, hk3⟩
        clear c2 hc hso hsk
        by_cases hkd : kd ≤ 4
        · have hkd' : decide (kd ≤ 4) = true := decide_eq_true hkd
          go_wp2_with fail
          refine wp_region_still_tail 11 (by kernel_rfl) (by kernel_rfl) ?_
          simp only [List.take_succ_cons, List.take_zero, List.drop_succ_cons, List.drop_zero]
          iterate 10 still_step
          refine wpStill_load_tag rfl _ rfl ⟨A.block, A.off + 2, none⟩ rfl tt HTT.out C2.out ?_
          refine wpStill_nil ?_
          go_frame
          obtain ⟨w6, hw6⟩ : ∃ w_ : World, w_ = wr.drew := ⟨_, rfl⟩
          change wpList _ _ _ _ _ wr.drew
          rw [← hw6]
          have A6 : Aside0 (At wb.heap.size w6 p n (max y 1) fl S) := ⟨by rw [hw6]; exact A3.out.below (below_drew1 (Below.refl _ _))⟩
          have B6 : Aside0 (Below wb.heap.size wb w6) := ⟨by rw [hw6]; exact below_drew1 B3.out⟩
          have HFL2 := HFL
          clear hw6
          by_cases hlt0 : e < fl
          · have hlt := Aside0.mk hlt0
            go_wp2_with (first | (go_at_call 11; (with_reducible refine (add_at (w := w6) A6.out ep HE.out tt HTT.out (by have := HKN.out; omega) rfl rfl rfl).mono ?_); rintro e_ w7 ⟨rfl, A7, F7⟩; have A7 := Aside0.mk A7; have B7 : Aside0 (Below wb.heap.size wb w7) := ⟨B6.out.trans F7.be⟩; have K7 : Aside0 (w7.heap[w.heap.size]? = some (.cells (tagA t) 30 (0, 0))) := ⟨(B7.out.block _ (Array.getElem?_eq_some_iff.1 HK.out).1).trans HK.out⟩; have L7 : Aside0 (Low fl (addS (max y 1) fl S ep tt)) := ⟨low_add L3.out ep tt⟩; clear F7) | (go_at_call 19; (with_reducible refine (floor_at (w := w7) A7.out).mono ?_); rintro e_ w' ⟨rfl, hw'⟩; subst w') | (go_at_call 15; (with_reducible refine (has_at (w := w7) A7.out e he t HT.out rfl (low_has L7.out t hlt.out)).mono ?_); rintro e_ w20 ⟨rfl, b20⟩; have A20 := Aside0.mk (A7.out.below b20); have B20 : Aside0 (Below wb.heap.size wb w20) := ⟨B7.out.trans (b20.mono A7.out.low)⟩; have K20 : Aside0 (w20.heap[w.heap.size]? = some (.cells (tagA t) 30 (0, 0))) := ⟨(B20.out.block _ (Array.getElem?_eq_some_iff.1 HK.out).1).trans HK.out⟩; clear b20) | (go_at_call 17; (with_reducible refine (len_at (w := w20) A20.out e he (low_cnt L7.out hlt.out)).mono ?_); rintro e_ w' ⟨rfl, hw'⟩; subst w') | (go_at_call 11; (with_reducible refine (add_at (w := w20) A20.out e he t HT.out (by have := HKN.out; omega) rfl (addC_old hlt.out) (addS_old hlt.out)).mono ?_); rintro e_ w21 ⟨rfl, A21, F21⟩; have A21 := Aside0.mk A21; have F21 := Aside0.mk F21) | (refine wpList_load_row rfl 30 _ rfl w.heap.size rfl 30 _ (0, 0) _ K7.out Try.underlying30 rfl (info30 HT.out) ?_) | (refine load_want rfl 30 _ rfl w.heap.size rfl 30 _ (0, 0) _ K7.out Try.underlying30 rfl (info30 HT.out) ?_) | (refine wpList_load_row rfl 30 _ rfl w.heap.size rfl 30 _ (0, 0) _ K20.out Try.underlying30 rfl (info30 HT.out) ?_) | (refine load_want rfl 30 _ rfl w.heap.size rfl 30 _ (0, 0) _ K20.out Try.underlying30 rfl (info30 HT.out) ?_))
            exact ⟨⟨k + 1, (n + 1) + 1, fl, (addS (max y 1) fl S ep tt), by simp, rfl, by omega, by have := HKN.out; omega, by have := HKN.out; omega, HFL2.out, A21, L7, ⟨B20.out.trans F21.out.be⟩⟩, by simp only [intOf]; have := HKN.out; omega⟩
          · go_wp2_with (first | (go_at_call 11; (with_reducible refine (add_at (w := w6) A6.out ep HE.out tt HTT.out (by have := HKN.out; omega) rfl rfl rfl).mono ?_); rintro e_ w7 ⟨rfl, A7, F7⟩; have A7 := Aside0.mk A7; have B7 : Aside0 (Below wb.heap.size wb w7) := ⟨B6.out.trans F7.be⟩; have K7 : Aside0 (w7.heap[w.heap.size]? = some (.cells (tagA t) 30 (0, 0))) := ⟨(B7.out.block _ (Array.getElem?_eq_some_iff.1 HK.out).1).trans HK.out⟩; have L7 : Aside0 (Low fl (addS (max y 1) fl S ep tt)) := ⟨low_add L3.out ep tt⟩; clear F7) | (go_at_call 19; (with_reducible refine (floor_at (w := w7) A7.out).mono ?_); rintro e_ w' ⟨rfl, hw'⟩; subst w'))
            exact ⟨⟨k + 1, (n + 1), fl, (addS (max y 1) fl S ep tt), by simp, rfl, by omega, by have := HKN.out; omega, by have := HKN.out; omega, HFL2.out, A7, L7, B7⟩, by simp only [intOf]; have := HKN.out; omega⟩
        · obtain ⟨fl2, hfl2⟩ : ∃ f_ : Int, max fl ep = f_ := ⟨_, rfl⟩
          obtain ⟨S2, hS2⟩ : ∃ S_ : List Ent, keepE fl2 S = S_ := ⟨_, rfl⟩
          have hle : S2.length ≤ S.length := by rw [← hS2]; exact keepE_le fl2 S
          obtain ⟨c, hc⟩ : ∃ c_ : Int, (S.length : Int) - (S2.length : Int) = c_ := ⟨_, rfl⟩
          have hc0 : 0 ≤ c := by omega
          have HF2 := Aside0.mk hfl2
          have HS2 := Aside0.mk hS2
          have HC2 := Aside0.mk hc
          have HFL2 : Aside0 (OkE fl2) := ⟨by rw [← hfl2]; have h1 := HFL.out; have h2 := HE.out; unfold OkE at h1 h2 ⊢; omega⟩
          have HF3 : Aside0 (max fl2 ep = fl2) := ⟨by omega⟩
          have HS3 : Aside0 (keepE fl2 S2 = S2) := ⟨by rw [← hS2]; exact keep_again (low_keep fl2 S)⟩
          have L8 : Aside0 (Low fl2 S2) := ⟨by rw [← hS2]; exact low_keep fl2 S⟩
          clear hfl2 hS2 hc hle
          by_cases hm : fl < ep
          · have he2 : fl2 = ep := by have := HF2.out; omega
            subst fl2
            go_wp2_with (first | (go_at_call 13; (with_reducible refine (expire_at (w := wr) A3.out ep HE.out (by have := HKN.out; omega) (c := c) (fl := ep) (S' := S2) HF2.out HS2.out HC2.out).mono ?_); rintro e_ w6 ⟨rfl, A6, F6⟩; have A6 := Aside0.mk A6; have F6 := Aside0.mk F6))
            have B6 : Aside0 (Below wb.heap.size wb w6) := ⟨B3.out.trans F6.out.be⟩
            have c16 : w6.cell? ⟨A.block, A.off + 1, none⟩ = some (.int .u32 ep) := (F6.out.be.cell (p := ⟨A.block, A.off + 1, none⟩) (by have := AB.out; exact Nat.lt_of_lt_of_le this B3.out.size |> fun _ => this)).trans C1.out
            refine wp_region_still_tail 21 (by kernel_rfl) (by kernel_rfl) ?_
            simp only [List.take_succ_cons, List.take_zero, List.drop_succ_cons, List.drop_zero]
            iterate 4 still_step
            still_call (floor_at (w := w6.drew) (A6.out.below (below_drew1 (Below.refl _ _))))
            iterate 16 still_step
            refine wpStill_nil ?_
            change wpList _ _ _ _ _ w6.drew
            obtain ⟨w7, hw7⟩ : ∃ w_ : World, w_ = w6.drew := ⟨_, rfl⟩
            rw [← hw7]
            have A7 : Aside0 (At wb.heap.size w7 p n (max y 1) ep S2) := ⟨by rw [hw7]; exact A6.out.below (below_drew1 (Below.refl _ _))⟩
            have B7 : Aside0 (Below wb.heap.size wb w7) := ⟨by rw [hw7]; exact below_drew1 B6.out⟩
            clear hw7 c16
            by_cases hlt0 : e < ep
            · have hlt := Aside0.mk hlt0
              go_wp2_with (first | (go_at_call 13; (with_reducible refine (expire_at (w := w7) A7.out ep HE.out (by have := HKN.out; omega) (c := 0) (fl := ep) (S' := S2) HF3.out HS3.out (Int.sub_self _)).mono ?_); rintro e_ w8 ⟨rfl, A8, F8⟩; have A8 := Aside0.mk A8; have B8 : Aside0 (Below wb.heap.size wb w8) := ⟨B7.out.trans F8.be⟩; have K8 : Aside0 (w8.heap[w.heap.size]? = some (.cells (tagA t) 30 (0, 0))) := ⟨(B8.out.block _ (Array.getElem?_eq_some_iff.1 HK.out).1).trans HK.out⟩; clear F8) | (go_at_call 19; (with_reducible refine (floor_at (w := w8) A8.out).mono ?_); rintro e_ w' ⟨rfl, hw'⟩; subst w') | (go_at_call 15; (with_reducible refine (has_at (w := w8) A8.out e he t HT.out rfl (low_has L8.out t hlt.out)).mono ?_); rintro e_ w20 ⟨rfl, b20⟩; have A20 := Aside0.mk (A8.out.below b20); have B20 : Aside0 (Below wb.heap.size wb w20) := ⟨B8.out.trans (b20.mono A8.out.low)⟩; have K20 : Aside0 (w20.heap[w.heap.size]? = some (.cells (tagA t) 30 (0, 0))) := ⟨(B20.out.block _ (Array.getElem?_eq_some_iff.1 HK.out).1).trans HK.out⟩; clear b20) | (go_at_call 17; (with_reducible refine (len_at (w := w20) A20.out e he (low_cnt L8.out hlt.out)).mono ?_); rintro e_ w' ⟨rfl, hw'⟩; subst w') | (go_at_call 11; (with_reducible refine (add_at (w := w20) A20.out e he t HT.out (by have := HKN.out; omega) rfl (addC_old hlt.out) (addS_old hlt.out)).mono ?_); rintro e_ w21 ⟨rfl, A21, F21⟩; have A21 := Aside0.mk A21; have F21 := Aside0.mk F21) | (refine wpList_load_row rfl 30 _ rfl w.heap.size rfl 30 _ (0, 0) _ K8.out Try.underlying30 rfl (info30 HT.out) ?_) | (refine load_want rfl 30 _ rfl w.heap.size rfl 30 _ (0, 0) _ K8.out Try.underlying30 rfl (info30 HT.out) ?_) | (refine wpList_load_row rfl 30 _ rfl w.heap.size rfl 30 _ (0, 0) _ K20.out Try.underlying30 rfl (info30 HT.out) ?_) | (refine load_want rfl 30 _ rfl w.heap.size rfl 30 _ (0, 0) _ K20.out Try.underlying30 rfl (info30 HT.out) ?_))
              exact ⟨⟨k + 1, n + 1, ep, S2, by simp, rfl, by omega, by have := HKN.out; omega, by have := HKN.out; omega, HFL2.out, A21, L8, ⟨B20.out.trans F21.out.be⟩⟩, by simp only [intOf]; have := HKN.out; omega⟩
            · go_wp2_with (first | (go_at_call 13; (with_reducible refine (expire_at (w := w7) A7.out ep HE.out (by have := HKN.out; omega) (c := 0) (fl := ep) (S' := S2) HF3.out HS3.out (Int.sub_self _)).mono ?_); rintro e_ w8 ⟨rfl, A8, F8⟩; have A8 := Aside0.mk A8; have B8 : Aside0 (Below wb.heap.size wb w8) := ⟨B7.out.trans F8.be⟩; have K8 : Aside0 (w8.heap[w.heap.size]? = some (.cells (tagA t) 30 (0, 0))) := ⟨(B8.out.block _ (Array.getElem?_eq_some_iff.1 HK.out).1).trans HK.out⟩; clear F8) | (go_at_call 19; (with_reducible refine (floor_at (w := w8) A8.out).mono ?_); rintro e_ w' ⟨rfl, hw'⟩; subst w'))
              exact ⟨⟨k + 1, n, ep, S2, by simp, rfl, by omega, by have := HKN.out; omega, by have := HKN.out; omega, HFL2.out, A8, L8, B8⟩, by simp only [intOf]; have := HKN.out; omega⟩
          · have he2 : fl2 = fl := by have := HF2.out; omega
            have hmF : (fl < ep) = False := eq_false hm
            subst fl2
            go_wp2_with (first | (go_at_call 13; (with_reducible refine (expire_at (w := wr) A3.out ep HE.out (by have := HKN.out; omega) (c := c) (fl := fl) (S' := S2) HF2.out HS2.out HC2.out).mono ?_); rintro e_ w6 ⟨rfl, A6, F6⟩; have A6 := Aside0.mk A6; have F6 := Aside0.mk F6))
            have B6 : Aside0 (Below wb.heap.size wb w6) := ⟨B3.out.trans F6.out.be⟩
            have c16 : w6.cell? ⟨A.block, A.off + 1, none⟩ = some (.int .u32 ep) := (F6.out.be.cell (p := ⟨A.block, A.off + 1, none⟩) (by have := AB.out; exact Nat.lt_of_lt_of_le this B3.out.size |> fun _ => this)).trans C1.out
            refine wp_region_still_tail 21 (by kernel_rfl) (by kernel_rfl) ?_
            simp only [List.take_succ_cons, List.take_zero, List.drop_succ_cons, List.drop_zero]
            iterate 4 still_step
            still_call (floor_at (w := w6.drew) (A6.out.below (below_drew1 (Below.refl _ _))))
            iterate 16 still_step
            refine wpStill_nil ?_
            change wpList _ _ _ _ _ w6.drew
            obtain ⟨w7, hw7⟩ : ∃ w_ : World, w_ = w6.drew := ⟨_, rfl⟩
            rw [← hw7]
            have A7 : Aside0 (At wb.heap.size w7 p n (max y 1) fl S2) := ⟨by rw [hw7]; exact A6.out.below (below_drew1 (Below.refl _ _))⟩
            have B7 : Aside0 (Below wb.heap.size wb w7) := ⟨by rw [hw7]; exact below_drew1 B6.out⟩
            clear hw7 c16
            by_cases hlt0 : e < fl
            · have hlt := Aside0.mk hlt0
              go_wp2_with (first | (go_at_call 13; (with_reducible refine (expire_at (w := w7) A7.out ep HE.out (by have := HKN.out; omega) (c := 0) (fl := fl) (S' := S2) HF3.out HS3.out (Int.sub_self _)).mono ?_); rintro e_ w8 ⟨rfl, A8, F8⟩; have A8 := Aside0.mk A8; have B8 : Aside0 (Below wb.heap.size wb w8) := ⟨B7.out.trans F8.be⟩; have K8 : Aside0 (w8.heap[w.heap.size]? = some (.cells (tagA t) 30 (0, 0))) := ⟨(B8.out.block _ (Array.getElem?_eq_some_iff.1 HK.out).1).trans HK.out⟩; clear F8) | (go_at_call 19; (with_reducible refine (floor_at (w := w8) A8.out).mono ?_); rintro e_ w' ⟨rfl, hw'⟩; subst w') | (go_at_call 15; (with_reducible refine (has_at (w := w8) A8.out e he t HT.out rfl (low_has L8.out t hlt.out)).mono ?_); rintro e_ w20 ⟨rfl, b20⟩; have A20 := Aside0.mk (A8.out.below b20); have B20 : Aside0 (Below wb.heap.size wb w20) := ⟨B8.out.trans (b20.mono A8.out.low)⟩; have K20 : Aside0 (w20.heap[w.heap.size]? = some (.cells (tagA t) 30 (0, 0))) := ⟨(B20.out.block _ (Array.getElem?_eq_some_iff.1 HK.out).1).trans HK.out⟩; clear b20) | (go_at_call 17; (with_reducible refine (len_at (w := w20) A20.out e he (low_cnt L8.out hlt.out)).mono ?_); rintro e_ w' ⟨rfl, hw'⟩; subst w') | (go_at_call 11; (with_reducible refine (add_at (w := w20) A20.out e he t HT.out (by have := HKN.out; omega) rfl (addC_old hlt.out) (addS_old hlt.out)).mono ?_); rintro e_ w21 ⟨rfl, A21, F21⟩; have A21 := Aside0.mk A21; have F21 := Aside0.mk F21) | (refine wpList_load_row rfl 30 _ rfl w.heap.size rfl 30 _ (0, 0) _ K8.out Try.underlying30 rfl (info30 HT.out) ?_) | (refine load_want rfl 30 _ rfl w.heap.size rfl 30 _ (0, 0) _ K8.out Try.underlying30 rfl (info30 HT.out) ?_) | (refine wpList_load_row rfl 30 _ rfl w.heap.size rfl 30 _ (0, 0) _ K20.out Try.underlying30 rfl (info30 HT.out) ?_) | (refine load_want rfl 30 _ rfl w.heap.size rfl 30 _ (0, 0) _ K20.out Try.underlying30 rfl (info30 HT.out) ?_))
              exact ⟨⟨k + 1, n + 1, fl, S2, by simp, rfl, by omega, by have := HKN.out; omega, by have := HKN.out; omega, HFL2.out, A21, L8, ⟨B20.out.trans F21.out.be⟩⟩, by simp only [intOf]; have := HKN.out; omega⟩
            · go_wp2_with (first | (go_at_call 13; (with_reducible refine (expire_at (w := w7) A7.out ep HE.out (by have := HKN.out; omega) (c := 0) (fl := fl) (S' := S2) HF3.out HS3.out (Int.sub_self _)).mono ?_); rintro e_ w8 ⟨rfl, A8, F8⟩; have A8 := Aside0.mk A8; have B8 : Aside0 (Below wb.heap.size wb w8) := ⟨B7.out.trans F8.be⟩; have K8 : Aside0 (w8.heap[w.heap.size]? = some (.cells (tagA t) 30 (0, 0))) := ⟨(B8.out.block _ (Array.getElem?_eq_some_iff.1 HK.out).1).trans HK.out⟩; clear F8) | (go_at_call 19; (with_reducible refine (floor_at (w := w8) A8.out).mono ?_); rintro e_ w' ⟨rfl, hw'⟩; subst w'))
              exact ⟨⟨k + 1, n, fl, S2, by simp, rfl, by omega, by have := HKN.out; omega, by have := HKN.out; omega, HFL2.out, A8, L8, B8⟩, by simp only [intOf]; have := HKN.out; omega⟩
      · go_wp2_with fail
        go_ret
        exact ⟨rfl, HW.out.trans (B3.out.mono HW.out.size)⟩
    · go_wp2_with fail
      go_ret
      exact ⟨rfl, HW.out.trans (B3.out.mono HW.out.size)⟩
end Go.Proofs.Ythlpbihkbafgbaa.RB
