/- The walk of ReplayTells: every answer is the document's. -/
import Derived.Test.YthlpbihkbafgbaaP21
namespace Go.Proofs.Ythlpbihkbafgbaa.RB
open Go Go.Maps Go.RowKit Go.BigFrame Go.Proofs.YthlpbihkbafgbaaW.PrintWords Go.Proofs.YthlpbihkbafgbaaW.PrintLast Go.Proofs.YthlpbihkbafgbaaW.PrintMore
set_option linter.unusedVariables false
set_option linter.unusedSimpArgs false

theorem addS_len (m fl : Int) (S : List Ent) (e : Int) (t : List Int) : (addS m fl S e t).length ≤ S.length + 1 := by
  unfold addS; split <;> simp
set_option maxHeartbeats 4000000 in
set_option maxRecDepth 100000 in
theorem tells_any (w : World) (y : Int) (a : Option Addr) (len cap : Nat) (hy : (Lit.int .i64 y).wf = true) (hs : ∃ L, Steps w a len L) :
    Calls Try.prog 3 #[.int .i64 y, .slice a len cap] w fun e_ w' => e_ = .returned (.bool true) ∧ Below w.heap.size w w' := by
  obtain ⟨L, hL⟩ := hs
  have HL := Aside0.mk hL
  have ml : len ≤ 9223372036854775807 := hL.2.1
  have HY : Aside0 (-9223372036854775808 ≤ y ∧ y ≤ 9223372036854775807) := ⟨by simp [Lit.wf, IntKind.min, IntKind.max, IntKind.signed, IntKind.bits] at hy; omega⟩
  clear hL
  go_enter Try.func3, Try.ntmps3
  go_wp2_with (first | (go_at_call 8; (with_reducible refine (shown_any w).mono ?_); rintro e_ w1 ⟨rfl, b1⟩; have B1 := Aside0.mk b1; clear b1) | (go_at_call 9; (with_reducible refine (new_at w1 w.heap.size B1.out.size y HY.out).mono ?_); rintro e_ w2 ⟨p, rfl, A2, F2⟩; have A2 := Aside0.mk A2; have F2 := Aside0.mk F2) | (go_at_call 10; (with_reducible refine (rnew_any w2 w.heap.size A2.out.low y HY.out).mono ?_); rintro e_ w3 ⟨pr, rfl, R3, F3⟩; have A3 := Aside0.mk (A2.out.frR F3); have R3 := Aside0.mk R3; have F3 := Aside0.mk F3))
  obtain ⟨m, hm⟩ : ∃ m_ : Int, m_ = max y 1 := ⟨_, rfl⟩
  rw [← hm] at A3 R3
  clear hm
  go_loopw [8] (fun v wr => ∃ (k n : Nat) (fl : Int) (S : List Ent), v = .int .i64 (k : Int) ∧ k ≤ len ∧ k ≤ 300 ∧ n ≤ k ∧ S.length ≤ k ∧ OkE fl ∧ Aside0 (At w.heap.size wr p n m fl S) ∧ Aside0 (RefAt w.heap.size wr pr m fl S) ∧ Aside0 (Below w.heap.size w wr)) (fun v _ => 300 - (intOf v).toNat)
  case atStart => exact ⟨0, 0, 0, [], rfl, Nat.zero_le _, Nat.zero_le _, Nat.le_refl _, Nat.le_refl _, by unfold OkE; omega, A3, R3, ⟨(B1.out.trans F2.out.be).trans F3.out.be⟩⟩
  case round =>
    obtain ⟨k, n, fl, S, rfl, hk, hk2, hn, hSl, hfl, A4, R4, B4⟩ := hrel
    by_cases hkl : k < len
    · by_cases hk3 : k < 300
      · obtain ⟨⟨kd, ep, tt⟩, x, hsk, hso, rfl, hc⟩ := (HL.out.low B4.out).at_ hkl
        obtain ⟨A, hA⟩ : ∃ A_ : Addr, x.add (k * 18) = A_ := ⟨_, rfl⟩
        rw [hA] at hc
        have HC := Aside0.mk hc
        have HSO := Aside0.mk hso
        have HE : Aside0 (OkE ep) := ⟨hso.e⟩
        have HTT : Aside0 (IsTag tt) := ⟨hso.t⟩
        have hst := store_stp wr hso
        unfold zero32 at hst
        have hsz := stpR_size hso
        have BX5 : Aside0 ((wr.alloc (.cells (stpR (kd, ep, tt)) 32)).heap[wr.heap.size]? = some (.cells (stpR (kd, ep, tt)) 32 (0, 0))) := ⟨blk_new _ _⟩
        have A5 : Aside0 (At w.heap.size (wr.alloc (.cells (stpR (kd, ep, tt)) 32)) p n m fl S) := ⟨A4.out.below (below_alloc (Below.refl _ _) _)⟩
        have R5 : Aside0 (RefAt w.heap.size (wr.alloc (.cells (stpR (kd, ep, tt)) 32)) pr m fl S) := ⟨R4.out.below (below_alloc (Below.refl _ _) _)⟩
        have B5 : Aside0 (Below w.heap.size w (wr.alloc (.cells (stpR (kd, ep, tt)) 32))) := ⟨below_alloc B4.out _⟩
        have c0 := (box_cells BX5.out).1
        have HFL := Aside0.mk hfl
        have HKN : Aside0 (n ≤ k ∧ S.length ≤ k ∧ k < 300) := ⟨hn, hSl, hk3⟩
        clear hc hso hsk
        by_cases hkd : kd ≤ 4
        · have hkd' : decide (kd ≤ 4) = true := decide_eq_true hkd
          obtain ⟨c, hc⟩ : ∃ c_ : Int, addC m fl S ep tt = c_ := ⟨_, rfl⟩
          have HCC := Aside0.mk hc
          have HL8 : Aside0 ((addS m fl S ep tt).length ≤ 301) := ⟨by have := addS_len m fl S ep tt; omega⟩
          clear hc
          go_wp2_with (first | (refine wpList_load_stp rfl _ rfl A rfl (kd, ep, tt) HSO.out HC.out ?_))
          refine start_ (n := 14) (S := (fun w_ : World => w_.heap[wr.heap.size]? = some (.cells (stpR (kd, ep, tt)) 32 (0, 0)))) (ds := []) #[false, false, false, false, false, false, false, false, false, false, false, false, false, false] (by kernel_rfl) rfl rfl BX5.out (fun hHeld => ?_)
          generalize hw6 : ((wr.alloc (.cells (stpR (kd, ep, tt)) 32))).drew = w6 at hHeld ⊢
          have A6 : At w.heap.size w6 p n m fl S := by rw [← hw6]; exact A5.out.below (below_drew1 (Below.refl _ _))
          have R6 : RefAt w.heap.size w6 pr m fl S := by rw [← hw6]; exact R5.out.below (below_drew1 (Below.refl _ _))
          have B6 : Below w.heap.size w w6 := by rw [← hw6]; exact below_drew1 B5.out
          clear hw6
          refine pure_ (i := 0) (N := (some 35)) (v := ?_) (a' := ?_) #[true, false, false, false, false, false, false, false, false, false, false, false, false, false] rfl rfl (by kernel_rfl) (fun _ _ _ h => h) (Or.inl ⟨by rfl, ?_⟩) ?_ ?_
          rotate_left
          · intro w'
            go_simp
            with_reducible rfl
          rotate_left
          · simp only [Act.put, List.setIfInBounds_toArray, List.set_cons_zero, List.set_cons_succ]
            rfl
          refine pure_ (i := 1) (N := (some 36)) (v := ?_) (a' := ?_) #[true, true, false, false, false, false, false, false, false, false, false, false, false, false] rfl rfl (by kernel_rfl) (fun _ _ _ h => h) (Or.inl ⟨by rfl, ?_⟩) ?_ ?_
          rotate_left
          · intro w'
            go_simp
            with_reducible rfl
          rotate_left
          · simp only [Act.put, List.setIfInBounds_toArray, List.set_cons_zero, List.set_cons_succ]
            rfl
          refine take_ (i := 2) (N := (some 37)) (v := (.int .u32 ep)) (a' := ?_) #[true, true, true, false, false, false, false, false, false, false, false, false, false, false] rfl rfl (by kernel_rfl) (fun _ _ _ h => h) (Or.inl ⟨by rfl, fun w_ h_ => exec_load w_ _ 28 rfl Try.underlying28 rfl ⟨wr.heap.size, 1, none⟩ rfl _ (box_cells h_).2.1⟩) hHeld ?_ ?_
          rotate_left
          · simp only [Act.put, List.setIfInBounds_toArray, List.set_cons_zero, List.set_cons_succ]
            rfl
          refine pure_ (i := 3) (N := (some 38)) (v := ?_) (a' := ?_) #[true, true, true, true, false, false, false, false, false, false, false, false, false, false] rfl rfl (by kernel_rfl) (fun _ _ _ h => h) (Or.inl ⟨by rfl, ?_⟩) ?_ ?_
          rotate_left
          · intro w'
            go_simp
            with_reducible rfl
          rotate_left
          · simp only [Act.put, List.setIfInBounds_toArray, List.set_cons_zero, List.set_cons_succ]
            rfl
          refine take_ (i := 4) (N := (some 39)) (v := (.agg (tagA tt))) (a' := ?_) #[true, true, true, true, true, false, false, false, false, false, false, false, false, false] rfl rfl (by kernel_rfl) (fun _ _ _ h => h) (Or.inl ⟨by rfl, fun w_ h_ => exec_loadtag w_ _ rfl ⟨wr.heap.size, 2, none⟩ rfl tt HTT.out (box_cells h_).2.2⟩) hHeld ?_ ?_
          rotate_left
          · simp only [Act.put, List.setIfInBounds_toArray, List.set_cons_zero, List.set_cons_succ]
            rfl
          refine pure_ (i := 6) (N := (some 41)) (v := ?_) (a' := ?_) #[true, true, true, true, true, false, true, false, false, false, false, false, false, false] rfl rfl (by kernel_rfl) (fun _ _ _ h => h) (Or.inl ⟨by rfl, ?_⟩) ?_ ?_
          rotate_left
          · intro w'
            go_simp
            with_reducible rfl
          rotate_left
          · simp only [Act.put, List.setIfInBounds_toArray, List.set_cons_zero, List.set_cons_succ]
            rfl
          refine pure_ (i := 7) (N := (some 42)) (v := ?_) (a' := ?_) #[true, true, true, true, true, false, true, true, false, false, false, false, false, false] rfl rfl (by kernel_rfl) (fun _ _ _ h => h) (Or.inl ⟨by rfl, ?_⟩) ?_ ?_
          rotate_left
          · intro w'
            go_simp
            with_reducible rfl
          rotate_left
          · simp only [Act.put, List.setIfInBounds_toArray, List.set_cons_zero, List.set_cons_succ]
            rfl
          refine take_ (i := 8) (N := (some 43)) (v := (.int .u32 ep)) (a' := ?_) #[true, true, true, true, true, false, true, true, true, false, false, false, false, false] rfl rfl (by kernel_rfl) (fun _ _ _ h => h) (Or.inl ⟨by rfl, fun w_ h_ => exec_load w_ _ 28 rfl Try.underlying28 rfl ⟨wr.heap.size, 1, none⟩ rfl _ (box_cells h_).2.1⟩) hHeld ?_ ?_
          rotate_left
          · simp only [Act.put, List.setIfInBounds_toArray, List.set_cons_zero, List.set_cons_succ]
            rfl
          refine pure_ (i := 9) (N := (some 44)) (v := ?_) (a' := ?_) #[true, true, true, true, true, false, true, true, true, true, false, false, false, false] rfl rfl (by kernel_rfl) (fun _ _ _ h => h) (Or.inl ⟨by rfl, ?_⟩) ?_ ?_
          rotate_left
          · intro w'
            go_simp
            with_reducible rfl
          rotate_left
          · simp only [Act.put, List.setIfInBounds_toArray, List.set_cons_zero, List.set_cons_succ]
            rfl
          refine take_ (i := 10) (N := (some 45)) (v := (.agg (tagA tt))) (a' := ?_) #[true, true, true, true, true, false, true, true, true, true, true, false, false, false] rfl rfl (by kernel_rfl) (fun _ _ _ h => h) (Or.inl ⟨by rfl, fun w_ h_ => exec_loadtag w_ _ rfl ⟨wr.heap.size, 2, none⟩ rfl tt HTT.out (box_cells h_).2.2⟩) hHeld ?_ ?_
          rotate_left
          · simp only [Act.put, List.setIfInBounds_toArray, List.set_cons_zero, List.set_cons_succ]
            rfl
          refine one_ (i := 5) (N := (some 40)) #[true, true, true, true, true, true, true, true, true, true, true, false, false, false] rfl rfl (by kernel_rfl) (by decide) (fun KK hKK => ?_)
          refine goes_ Try.func11 (by kernel_rfl) rfl #[.pointer (some ⟨p, 0, none⟩), .int .u32 ep, .agg (tagA tt)] (by rfl) rfl rfl (by (try simp only [List.map_toArray, List.map_cons, List.map_nil]); first | done | rfl) ?_
          refine (add_at A6 ep HE.out tt HTT.out (by have := HKN.out; omega) rfl HCC.out rfl).mono ?_
          rintro e_ w7 ⟨rfl, A7, F7⟩
          refine ⟨_, rfl, ?_⟩
          refine hKK.out _ _ (F7.kept _ _ _ _ hHeld (by decide)) (fun hHeld => ?_)
          clear hKK KK
          refine norm_ (a' := ?_) ?_ ?_
          rotate_left
          · show Act.put _ (some 40) _ = _
            simp only [Act.put, List.setIfInBounds_toArray, List.set_cons_zero, List.set_cons_succ]
            rfl
          have R7 := R6.fr F7
          refine one_ (i := 11) (N := (some 46)) #[true, true, true, true, true, true, true, true, true, true, true, true, false, false] rfl rfl (by kernel_rfl) (by decide) (fun KK hKK => ?_)
          refine goes_ Try.func12 (by kernel_rfl) rfl #[.pointer (some ⟨pr, 0, none⟩), .int .u32 ep, .agg (tagA tt)] (by rfl) rfl rfl (by (try simp only [List.map_toArray, List.map_cons, List.map_nil]); first | done | rfl) ?_
          refine (radd_any R7 (by have := HKN.out; omega) ep HE.out tt HTT.out HCC.out).mono ?_
          rintro e_ w8 ⟨rfl, R8, F8⟩
          refine ⟨_, rfl, ?_⟩
          refine hKK.out _ _ (F8.row hHeld (by decide)) (fun hHeld => ?_)
          clear hKK KK
          refine norm_ (a' := ?_) ?_ ?_
          rotate_left
          · show Act.put _ (some 46) _ = _
            simp only [Act.put, List.setIfInBounds_toArray, List.set_cons_zero, List.set_cons_succ]
            rfl
          have A8 := A7.frR F8
          have B8 := (B6.trans F7.be).trans F8.be
          have BX8 := Aside0.mk hHeld
          have A8 := Aside0.mk A8
          have R8 := Aside0.mk R8
          have B8 := Aside0.mk B8
          clear A6 R6 B6 A7 R7 F7 F8
          refine pure_ (i := 12) (N := (some 47)) (v := ?_) (a' := ?_) #[true, true, true, true, true, true, true, true, true, true, true, true, true, false] rfl rfl (by kernel_rfl) (fun _ _ _ h => h) (Or.inl ⟨by rfl, ?_⟩) ?_ ?_
          rotate_left
          · intro w'
            go_simp
            with_reducible rfl
          rotate_left
          · simp only [Act.put, List.setIfInBounds_toArray, List.set_cons_zero, List.set_cons_succ]
            rfl
          refine pure_ (i := 13) (N := (some 10)) (v := ?_) (a' := ?_) #[true, true, true, true, true, true, true, true, true, true, true, true, true, true] rfl rfl (by kernel_rfl) (fun _ _ _ h => h) (Or.inl ⟨by rfl, ?_⟩) ?_ ?_
          rotate_left
          · intro w'
            go_simp
            with_reducible rfl
          rotate_left
          · simp only [Act.put, List.setIfInBounds_toArray, List.set_cons_zero, List.set_cons_succ]
            rfl
          refine done_ (by kernel_rfl) ?_
          obtain ⟨q, hq⟩ : ∃ q_ : Bool, decide ((ep, tt) ∈ (addS m fl S ep tt)) = q_ := ⟨_, rfl⟩
          obtain ⟨z, hz⟩ : ∃ z_ : Int, (cnt (addS m fl S ep tt) ep : Int) = z_ := ⟨_, rfl⟩
          have HQ := Aside0.mk hq
          have HZ := Aside0.mk hz
          clear hq hz
          have PR8 : Aside0 (pr < w8.heap.size) := ⟨by obtain ⟨v_, hc_, _⟩ := R8.out; exact (Array.getElem?_eq_some_iff.1 hc_).1⟩
          have FL8 : Aside0 (w8.cell? ⟨pr, 2, none⟩ = some (.int .u32 fl)) := ⟨by obtain ⟨v_, hc_, _⟩ := R8.out; exact (cell_of_row w8 pr 2 _ 40 (0, 0) hc_).trans rfl⟩
          go_wp2_with fail
          refine wp_region_quiet_in (fun w_ => Below w8.heap.size w8 w_) (by kernel_rfl) (by kernel_rfl) (below_drew1 (Below.refl _ _)) ?_
          repeat (first | (go_big_quiet_want; refine quiet_load_tag _ rfl ⟨wr.heap.size, 2, none⟩ rfl tt HTT.out ?_ ?_; (intro w_ hw_; exact (box_cells ((hw_.block _ (Array.getElem?_eq_some_iff.1 BX8.out).1).trans BX8.out)).2.2); go_frame; go_big_quiet_on) | (go_big_quiet_want; refine quiet_run (.int .u32 ep) (fun w_ hw_ => exec_load w_ _ 28 rfl Try.underlying28 rfl ⟨wr.heap.size, 1, none⟩ rfl _ (box_cells ((hw_.block _ (Array.getElem?_eq_some_iff.1 BX8.out).1).trans BX8.out)).2.1) ?_; go_frame; go_big_quiet_on) | (go_big_quiet_want; refine quiet_run (.int .u32 fl) (fun w_ hw_ => exec_load w_ _ 28 rfl Try.underlying28 rfl ⟨pr, 2, none⟩ rfl _ ((hw_.cell (p := ⟨pr, 2, none⟩) PR8.out).trans FL8.out)) ?_; go_frame; go_big_quiet_on) | (go_big_quiet_want; refine quiet_call (.bool q) Try.func15 (by kernel_rfl) rfl #[.pointer (some ⟨p, 0, none⟩), .int .u32 ep, .agg (tagA tt)] rfl ?_ ?_ ?_; (focus (simp [Act.eval, Act.put]; done)); (intro w_ hw_; refine (has_at (A8.out.below hw_) ep HE.out tt HTT.out rfl HQ.out).mono ?_; rintro e_ w' ⟨rfl, b_⟩; exact ⟨rfl, below_then hw_ hw_.size b_⟩); go_frame; go_big_quiet_on) | (go_big_quiet_want; refine quiet_call (.bool q) Try.func16 (by kernel_rfl) rfl #[.pointer (some ⟨pr, 0, none⟩), .int .u32 ep, .agg (tagA tt)] rfl ?_ ?_ ?_; (focus (simp [Act.eval, Act.put]; done)); (intro w_ hw_; refine (rhas_to (R8.out.below hw_) (by have := HL8.out; omega) ep HE.out tt HTT.out HQ.out).mono ?_; rintro e_ w' ⟨rfl, b_⟩; exact ⟨rfl, below_then hw_ hw_.size b_⟩); go_frame; go_big_quiet_on) | (go_big_quiet_want; refine quiet_call (.int .i64 z) Try.func17 (by kernel_rfl) rfl #[.pointer (some ⟨p, 0, none⟩), .int .u32 ep] rfl ?_ ?_ ?_; (focus (simp [Act.eval, Act.put]; done)); (intro w_ hw_; refine (len_at (A8.out.below hw_) ep HE.out HZ.out).mono ?_; rintro e_ w' ⟨rfl, rfl⟩; exact ⟨rfl, hw_⟩); go_frame; go_big_quiet_on) | (go_big_quiet_want; refine quiet_call (.int .i64 z) Try.func18 (by kernel_rfl) rfl #[.pointer (some ⟨pr, 0, none⟩), .int .u32 ep] rfl ?_ ?_ ?_; (focus (simp [Act.eval, Act.put]; done)); (intro w_ hw_; refine (rlen_to (R8.out.below hw_) (by have := HL8.out; omega) ep HE.out HZ.out).mono ?_; rintro e_ w' ⟨rfl, rfl⟩; exact ⟨rfl, hw_⟩); go_frame; go_big_quiet_on) | (go_big_quiet_want; refine quiet_call (.int .u32 fl) Try.func19 (by kernel_rfl) rfl #[.pointer (some ⟨p, 0, none⟩)] rfl ?_ ?_ ?_; (focus (simp [Act.eval, Act.put]; done)); (intro w_ hw_; refine (floor_at (A8.out.below hw_)).mono ?_; rintro e_ w' ⟨rfl, rfl⟩; exact ⟨rfl, hw_⟩); go_frame; go_big_quiet_on) | go_big_quiet_skip | (go_big_quiet_want; apply quiet_run; (focus (intro w_ hw_; go_simp; with_reducible rfl)); go_frame; go_big_quiet_on) | go_big_quiet_step (fail))
          refine wpQuiet_nil ?_
          intro w9 hw9
          have HW9 := Aside0.mk hw9
          clear hw9
          go_wp2_with fail
          exact ⟨⟨k + 1, n + 1, fl, _, by simp, by omega, by omega, by omega, by have := addS_len m fl S ep tt; omega, HFL.out, ⟨A8.out.below HW9.out⟩, ⟨R8.out.below HW9.out⟩, ⟨B8.out.trans (HW9.out.mono A8.out.low)⟩⟩, by simp only [intOf]; omega⟩
        · have hkd' : decide (kd ≤ 4) = false := decide_eq_false hkd
          obtain ⟨fl2, hfl2⟩ : ∃ f_ : Int, max fl ep = f_ := ⟨_, rfl⟩
          obtain ⟨S2, hS2⟩ : ∃ S_ : List Ent, keepE fl2 S = S_ := ⟨_, rfl⟩
          obtain ⟨c, hc⟩ : ∃ c_ : Int, (S.length : Int) - (S2.length : Int) = c_ := ⟨_, rfl⟩
          have HF2 := Aside0.mk hfl2
          have HS2 := Aside0.mk hS2
          have HC2 := Aside0.mk hc
          have HL8 : Aside0 (S2.length ≤ S.length ∧ S.length ≤ 300) := ⟨by rw [← hS2]; exact keepE_le fl2 S, by omega⟩
          have HFL2 : Aside0 (OkE fl2) := ⟨by rw [← hfl2]; have h1 := HFL.out; have h2 := HE.out; unfold OkE at h1 h2 ⊢; omega⟩
          clear hfl2 hS2 hc
          go_wp2_with (first | (refine wpList_load_stp rfl _ rfl A rfl (kd, ep, tt) HSO.out HC.out ?_))
          refine start_ (n := 10) (S := (fun w_ : World => w_.heap[wr.heap.size]? = some (.cells (stpR (kd, ep, tt)) 32 (0, 0)))) (ds := []) #[false, false, false, false, false, false, false, false, false, false] (by kernel_rfl) rfl rfl BX5.out (fun hHeld => ?_)
          generalize hw6 : ((wr.alloc (.cells (stpR (kd, ep, tt)) 32))).drew = w6 at hHeld ⊢
          have A6 : At w.heap.size w6 p n m fl S := by rw [← hw6]; exact A5.out.below (below_drew1 (Below.refl _ _))
          have R6 : RefAt w.heap.size w6 pr m fl S := by rw [← hw6]; exact R5.out.below (below_drew1 (Below.refl _ _))
          have B6 : Below w.heap.size w w6 := by rw [← hw6]; exact below_drew1 B5.out
          clear hw6
          refine pure_ (i := 0) (N := (some 48)) (v := ?_) (a' := ?_) #[true, false, false, false, false, false, false, false, false, false] rfl rfl (by kernel_rfl) (fun _ _ _ h => h) (Or.inl ⟨by rfl, ?_⟩) ?_ ?_
          rotate_left
          · intro w'
            go_simp
            with_reducible rfl
          rotate_left
          · simp only [Act.put, List.setIfInBounds_toArray, List.set_cons_zero, List.set_cons_succ]
            rfl
          refine pure_ (i := 1) (N := (some 49)) (v := ?_) (a' := ?_) #[true, true, false, false, false, false, false, false, false, false] rfl rfl (by kernel_rfl) (fun _ _ _ h => h) (Or.inl ⟨by rfl, ?_⟩) ?_ ?_
          rotate_left
          · intro w'
            go_simp
            with_reducible rfl
          rotate_left
          · simp only [Act.put, List.setIfInBounds_toArray, List.set_cons_zero, List.set_cons_succ]
            rfl
          refine take_ (i := 2) (N := (some 50)) (v := (.int .u32 ep)) (a' := ?_) #[true, true, true, false, false, false, false, false, false, false] rfl rfl (by kernel_rfl) (fun _ _ _ h => h) (Or.inl ⟨by rfl, fun w_ h_ => exec_load w_ _ 28 rfl Try.underlying28 rfl ⟨wr.heap.size, 1, none⟩ rfl _ (box_cells h_).2.1⟩) hHeld ?_ ?_
          rotate_left
          · simp only [Act.put, List.setIfInBounds_toArray, List.set_cons_zero, List.set_cons_succ]
            rfl
          refine pure_ (i := 4) (N := (some 52)) (v := ?_) (a' := ?_) #[true, true, true, false, true, false, false, false, false, false] rfl rfl (by kernel_rfl) (fun _ _ _ h => h) (Or.inl ⟨by rfl, ?_⟩) ?_ ?_
          rotate_left
          · intro w'
            go_simp
            with_reducible rfl
          rotate_left
          · simp only [Act.put, List.setIfInBounds_toArray, List.set_cons_zero, List.set_cons_succ]
            rfl
          refine pure_ (i := 5) (N := (some 53)) (v := ?_) (a' := ?_) #[true, true, true, false, true, true, false, false, false, false] rfl rfl (by kernel_rfl) (fun _ _ _ h => h) (Or.inl ⟨by rfl, ?_⟩) ?_ ?_
          rotate_left
          · intro w'
            go_simp
            with_reducible rfl
          rotate_left
          · simp only [Act.put, List.setIfInBounds_toArray, List.set_cons_zero, List.set_cons_succ]
            rfl
          refine take_ (i := 6) (N := (some 54)) (v := (.int .u32 ep)) (a' := ?_) #[true, true, true, false, true, true, true, false, false, false] rfl rfl (by kernel_rfl) (fun _ _ _ h => h) (Or.inl ⟨by rfl, fun w_ h_ => exec_load w_ _ 28 rfl Try.underlying28 rfl ⟨wr.heap.size, 1, none⟩ rfl _ (box_cells h_).2.1⟩) hHeld ?_ ?_
          rotate_left
          · simp only [Act.put, List.setIfInBounds_toArray, List.set_cons_zero, List.set_cons_succ]
            rfl
          refine one_ (i := 3) (N := (some 51)) #[true, true, true, true, true, true, true, false, false, false] rfl rfl (by kernel_rfl) (by decide) (fun KK hKK => ?_)
          refine goes_ Try.func13 (by kernel_rfl) rfl #[.pointer (some ⟨p, 0, none⟩), .int .u32 ep] (by rfl) rfl rfl (by (try simp only [List.map_toArray, List.map_cons, List.map_nil]); first | done | rfl) ?_
          refine (expire_at A6 ep HE.out (by have := HKN.out; omega) HF2.out HS2.out HC2.out).mono ?_
          rintro e_ w7 ⟨rfl, A7, F7⟩
          refine ⟨_, rfl, ?_⟩
          refine hKK.out _ _ (F7.kept _ _ _ _ hHeld (by decide)) (fun hHeld => ?_)
          clear hKK KK
          refine norm_ (a' := ?_) ?_ ?_
          rotate_left
          · show Act.put _ (some 51) _ = _
            simp only [Act.put, List.setIfInBounds_toArray, List.set_cons_zero, List.set_cons_succ]
            rfl
          have R7 := R6.fr F7
          refine one_ (i := 7) (N := (some 55)) #[true, true, true, true, true, true, true, true, false, false] rfl rfl (by kernel_rfl) (by decide) (fun KK hKK => ?_)
          refine goes_ Try.func14 (by kernel_rfl) rfl #[.pointer (some ⟨pr, 0, none⟩), .int .u32 ep] (by rfl) rfl rfl (by (try simp only [List.map_toArray, List.map_cons, List.map_nil]); first | done | rfl) ?_
          refine (rexpire_any R7 (by have := HKN.out; omega) ep HE.out HF2.out HS2.out HC2.out).mono ?_
          rintro e_ w8 ⟨rfl, R8, F8⟩
          refine ⟨_, rfl, ?_⟩
          refine hKK.out _ _ (F8.row hHeld (by decide)) (fun hHeld => ?_)
          clear hKK KK
          refine norm_ (a' := ?_) ?_ ?_
          rotate_left
          · show Act.put _ (some 55) _ = _
            simp only [Act.put, List.setIfInBounds_toArray, List.set_cons_zero, List.set_cons_succ]
            rfl
          have A8 := A7.frR F8
          have B8 := (B6.trans F7.be).trans F8.be
          have BX8 := Aside0.mk hHeld
          have A8 := Aside0.mk A8
          have R8 := Aside0.mk R8
          have B8 := Aside0.mk B8
          clear A6 R6 B6 A7 R7 F7 F8
          refine pure_ (i := 8) (N := (some 56)) (v := ?_) (a' := ?_) #[true, true, true, true, true, true, true, true, true, false] rfl rfl (by kernel_rfl) (fun _ _ _ h => h) (Or.inl ⟨by rfl, ?_⟩) ?_ ?_
          rotate_left
          · intro w'
            go_simp
            with_reducible rfl
          rotate_left
          · simp only [Act.put, List.setIfInBounds_toArray, List.set_cons_zero, List.set_cons_succ]
            rfl
          refine pure_ (i := 9) (N := (some 10)) (v := ?_) (a' := ?_) #[true, true, true, true, true, true, true, true, true, true] rfl rfl (by kernel_rfl) (fun _ _ _ h => h) (Or.inl ⟨by rfl, ?_⟩) ?_ ?_
          rotate_left
          · intro w'
            go_simp
            with_reducible rfl
          rotate_left
          · simp only [Act.put, List.setIfInBounds_toArray, List.set_cons_zero, List.set_cons_succ]
            rfl
          refine done_ (by kernel_rfl) ?_
          obtain ⟨q, hq⟩ : ∃ q_ : Bool, decide ((ep, tt) ∈ S2) = q_ := ⟨_, rfl⟩
          obtain ⟨z, hz⟩ : ∃ z_ : Int, (cnt S2 ep : Int) = z_ := ⟨_, rfl⟩
          have HQ := Aside0.mk hq
          have HZ := Aside0.mk hz
          clear hq hz
          have PR8 : Aside0 (pr < w8.heap.size) := ⟨by obtain ⟨v_, hc_, _⟩ := R8.out; exact (Array.getElem?_eq_some_iff.1 hc_).1⟩
          have FL8 : Aside0 (w8.cell? ⟨pr, 2, none⟩ = some (.int .u32 fl2)) := ⟨by obtain ⟨v_, hc_, _⟩ := R8.out; exact (cell_of_row w8 pr 2 _ 40 (0, 0) hc_).trans rfl⟩
          go_wp2_with fail
          refine wp_region_quiet_in (fun w_ => Below w8.heap.size w8 w_) (by kernel_rfl) (by kernel_rfl) (below_drew1 (Below.refl _ _)) ?_
          repeat (first | (go_big_quiet_want; refine quiet_load_tag _ rfl ⟨wr.heap.size, 2, none⟩ rfl tt HTT.out ?_ ?_; (intro w_ hw_; exact (box_cells ((hw_.block _ (Array.getElem?_eq_some_iff.1 BX8.out).1).trans BX8.out)).2.2); go_frame; go_big_quiet_on) | (go_big_quiet_want; refine quiet_run (.int .u32 ep) (fun w_ hw_ => exec_load w_ _ 28 rfl Try.underlying28 rfl ⟨wr.heap.size, 1, none⟩ rfl _ (box_cells ((hw_.block _ (Array.getElem?_eq_some_iff.1 BX8.out).1).trans BX8.out)).2.1) ?_; go_frame; go_big_quiet_on) | (go_big_quiet_want; refine quiet_run (.int .u32 fl2) (fun w_ hw_ => exec_load w_ _ 28 rfl Try.underlying28 rfl ⟨pr, 2, none⟩ rfl _ ((hw_.cell (p := ⟨pr, 2, none⟩) PR8.out).trans FL8.out)) ?_; go_frame; go_big_quiet_on) | (go_big_quiet_want; refine quiet_call (.bool q) Try.func15 (by kernel_rfl) rfl #[.pointer (some ⟨p, 0, none⟩), .int .u32 ep, .agg (tagA tt)] rfl ?_ ?_ ?_; (focus (simp [Act.eval, Act.put]; done)); (intro w_ hw_; refine (has_at (A8.out.below hw_) ep HE.out tt HTT.out rfl HQ.out).mono ?_; rintro e_ w' ⟨rfl, b_⟩; exact ⟨rfl, below_then hw_ hw_.size b_⟩); go_frame; go_big_quiet_on) | (go_big_quiet_want; refine quiet_call (.bool q) Try.func16 (by kernel_rfl) rfl #[.pointer (some ⟨pr, 0, none⟩), .int .u32 ep, .agg (tagA tt)] rfl ?_ ?_ ?_; (focus (simp [Act.eval, Act.put]; done)); (intro w_ hw_; refine (rhas_to (R8.out.below hw_) (by have := HL8.out; omega) ep HE.out tt HTT.out HQ.out).mono ?_; rintro e_ w' ⟨rfl, b_⟩; exact ⟨rfl, below_then hw_ hw_.size b_⟩); go_frame; go_big_quiet_on) | (go_big_quiet_want; refine quiet_call (.int .i64 z) Try.func17 (by kernel_rfl) rfl #[.pointer (some ⟨p, 0, none⟩), .int .u32 ep] rfl ?_ ?_ ?_; (focus (simp [Act.eval, Act.put]; done)); (intro w_ hw_; refine (len_at (A8.out.below hw_) ep HE.out HZ.out).mono ?_; rintro e_ w' ⟨rfl, rfl⟩; exact ⟨rfl, hw_⟩); go_frame; go_big_quiet_on) | (go_big_quiet_want; refine quiet_call (.int .i64 z) Try.func18 (by kernel_rfl) rfl #[.pointer (some ⟨pr, 0, none⟩), .int .u32 ep] rfl ?_ ?_ ?_; (focus (simp [Act.eval, Act.put]; done)); (intro w_ hw_; refine (rlen_to (R8.out.below hw_) (by have := HL8.out; omega) ep HE.out HZ.out).mono ?_; rintro e_ w' ⟨rfl, rfl⟩; exact ⟨rfl, hw_⟩); go_frame; go_big_quiet_on) | (go_big_quiet_want; refine quiet_call (.int .u32 fl2) Try.func19 (by kernel_rfl) rfl #[.pointer (some ⟨p, 0, none⟩)] rfl ?_ ?_ ?_; (focus (simp [Act.eval, Act.put]; done)); (intro w_ hw_; refine (floor_at (A8.out.below hw_)).mono ?_; rintro e_ w' ⟨rfl, rfl⟩; exact ⟨rfl, hw_⟩); go_frame; go_big_quiet_on) | go_big_quiet_skip | (go_big_quiet_want; apply quiet_run; (focus (intro w_ hw_; go_simp; with_reducible rfl)); go_frame; go_big_quiet_on) | go_big_quiet_step (fail))
          refine wpQuiet_nil ?_
          intro w9 hw9
          have HW9 := Aside0.mk hw9
          clear hw9
          go_wp2_with fail
          exact ⟨⟨k + 1, n, fl2, S2, by simp, by omega, by omega, by omega, by have := HL8.out; omega, HFL2.out, ⟨A8.out.below HW9.out⟩, ⟨R8.out.below HW9.out⟩, ⟨B8.out.trans (HW9.out.mono A8.out.low)⟩⟩, by simp only [intOf]; omega⟩
      · go_wp2_with fail
        go_ret
        exact ⟨rfl, B4.out⟩
    · go_wp2_with fail
      go_ret
      exact ⟨rfl, B4.out⟩
end Go.Proofs.Ythlpbihkbafgbaa.RB
