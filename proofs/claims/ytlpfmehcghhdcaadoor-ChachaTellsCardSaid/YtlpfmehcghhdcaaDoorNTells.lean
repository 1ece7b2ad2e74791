/- ChachaTells' walk. -/
import Derived.Test.YtlpfmehcghhdcaaDoorM17
import Derived.BigQuiet
import Derived.StillTailTactics
namespace Go.Proofs.YtlpfmehcghhdcaaDoor.XB
open Go.RowKit Go.Proofs.YtlpfmehcghhdcaaDoorW.PrintWords Go.Proofs.YtlpfmehcghhdcaaDoorW.PrintLast Go.Proofs.YtlpfmehcghhdcaaDoorW.PrintMore PChachaTells
set_option linter.unusedVariables false
set_option linter.unusedSimpArgs false
variable {T : Nat × Nat × Nat}

attribute [local go_sem] max2_int min2_int max_two min_two
theorem C_arr {w : World} {g t n : Nat} {K : Array Value} (h : w.heap[g]? = some (.cells K t (0, 0))) (hK : Bytes K n) (hn : n ≤ 1000000) : Kd.C (Kd.int .u8) w (some ⟨g, 0, none⟩) n (bytesL K n) := by
  have hl : (bytesL K n).length = n := by simp [bytesL]
  have h2 : w.heap[g]? = some (.cells (toB (bytesL K n)) t (0, 0)) := by rw [← bytesL_of hK]; exact h
  have h3 := C_block h2 0 n (by omega) hn
  rw [List.drop_zero, List.take_of_length_le (by omega)] at h3
  exact h3
set_option maxHeartbeats 4000000 in
set_option maxRecDepth 100000 in
theorem tells_any (K : Array Value) (c : Int) (V : Array Value) (n : Int) (w : World) (hK : Bytes K 32) (wc : (Lit.int .u32 c).wf = true) (hV : Bytes V 12) (wn : (Lit.int .i64 n).wf = true) (hv : Vars T w) :
    Calls Tryd.prog 6 #[.agg K, .int .u32 c, .agg V, .int .i64 n] w fun e w' => e = .returned (.bool true) ∧ Below w.heap.size w w' := by
  have HG := Aside0.mk hv
  have KB := Aside0.mk hK
  have VB := Aside0.mk hV
  have hcb : Aside0 (0 ≤ c ∧ c ≤ 4294967295) := ⟨by simp [Lit.wf, IntKind.min, IntKind.max, IntKind.signed, IntKind.bits] at wc; omega⟩
  have hnb : -9223372036854775808 ≤ n ∧ n ≤ 9223372036854775807 := by simp [Lit.wf, IntKind.min, IntKind.max, IntKind.signed, IntKind.bits] at wn; omega
  clear hv hK hV wc wn
  have BX := Aside0.mk (boxed_new (K := K) (V := V) HG.out)
  obtain ⟨N, hN⟩ : ∃ N : Int, (if (1000 : Int) < n then (1000 : Int) else n) = N := ⟨_, rfl⟩
  have hN1 : N ≤ 1000 := by rw [← hN]; split <;> omega
  have hN2 : -9223372036854775808 ≤ N := by rw [← hN]; split <;> omega
  go_enter Tryd.func6, Tryd.ntmps6
  go_wp2_with (first | (refine wpList_load_row rfl 23 _ rfl w.heap.size rfl 23 _ (0, 0) _ BX.out.hk Tryd.underlying23 rfl (by rw [KB.out.1]; kernel_rfl) ?_) | (refine wpList_load_row rfl 24 _ rfl (w.heap.size + 1) rfl 24 _ (0, 0) _ BX.out.hv Tryd.underlying24 rfl (by rw [VB.out.1]; kernel_rfl) ?_) | (go_at_call 10; (with_reducible refine (shown_any _ BX.out.va).mono ?_); rintro e w2 ⟨rfl, b2⟩; have BX := Aside0.mk (BX.out.step b2); clear b2) | (go_at_call 12; (with_reducible refine (block_any K V c _ KB.out VB.out BX.out.va).mono ?_); rintro e w4 ⟨rfl, b2⟩; have HS := store_64 w4 K V c; have b2 := Aside0.mk b2))
  clear HS
  obtain ⟨w5, hW⟩ : ∃ w_ : World, w_ = w4.alloc (.cells (toB (blockL K c V)) 29) := ⟨_, rfl⟩
  rw [← hW]
  have BX : Aside0 (Boxed T w w5 w.heap.size (w.heap.size + 1) K V) := ⟨by rw [hW]; exact BX.out.step (below_alloc b2.out _)⟩
  have HB5 : Aside0 (w5.heap[w4.heap.size]? = some (.cells (toB (blockL K c V)) 29 (0, 0))) := ⟨by rw [hW]; exact blk_new _ _⟩
  clear hW b2
  generalize w4.heap.size = gb at HB5 ⊢
  have CB : Aside0 (Kd.C (Kd.int .u8) w5 (some ⟨gb, 0, none⟩) 64 (blockL K c V)) := ⟨by
    have h3 := C_block HB5.out 0 64 (by rw [blockL_len]; exact Nat.le_refl _) (by omega)
    rw [List.drop_zero, List.take_of_length_le (by rw [blockL_len]; exact Nat.le_refl _)] at h3
    exact h3⟩
  refine start_ (n := 27) (S := (fun w_ : World => Below w5.heap.size w5 w_)) (ds := []) #[false, false, false, false, false, false, false, false, false, false, false, false, false, false, false, false, false, false, false, false, false, false, false, false, false, false, false] (by kernel_rfl) rfl rfl (below_drew1 (Below.refl _ _)) (fun hHeld => ?_)
  generalize w5.drew = w6 at hHeld ⊢
  refine pure_ (i := 0) (N := (some 18)) (v := ?_) (a' := ?_) #[true, false, false, false, false, false, false, false, false, false, false, false, false, false, false, false, false, false, false, false, false, false, false, false, false, false, false] rfl rfl (by kernel_rfl) (fun _ _ _ h => h) (Or.inl ⟨by rfl, ?_⟩) ?_ ?_
  rotate_left
  · intro w'
    go_simp
    with_reducible rfl
  rotate_left
  · simp only [Act.put, List.setIfInBounds_toArray, List.set_cons_zero, List.set_cons_succ, i64_w, i32_w]
    rfl
  refine pure_ (i := 1) (N := (some 19)) (v := ?_) (a' := ?_) #[true, true, false, false, false, false, false, false, false, false, false, false, false, false, false, false, false, false, false, false, false, false, false, false, false, false, false] rfl rfl (by kernel_rfl) (fun _ _ _ h => h) (Or.inl ⟨by rfl, ?_⟩) ?_ ?_
  rotate_left
  · intro w'
    go_simp
    with_reducible rfl
  rotate_left
  · simp only [Act.put, List.setIfInBounds_toArray, List.set_cons_zero, List.set_cons_succ, i64_w, i32_w]
    rfl
  refine pure_ (i := 2) (N := (some 20)) (v := ?_) (a' := ?_) #[true, true, true, false, false, false, false, false, false, false, false, false, false, false, false, false, false, false, false, false, false, false, false, false, false, false, false] rfl rfl (by kernel_rfl) (fun _ _ _ h => h) (Or.inl ⟨by rfl, ?_⟩) ?_ ?_
  rotate_left
  · intro w'
    go_simp
    with_reducible rfl
  rotate_left
  · simp only [Act.put, List.setIfInBounds_toArray, List.set_cons_zero, List.set_cons_succ, i64_w, i32_w]
    rfl
  refine take_ (i := 3) (N := (some 21)) (v := (.string (strOfNums (blockL K c V)))) (a' := ?_) #[true, true, true, true, false, false, false, false, false, false, false, false, false, false, false, false, false, false, false, false, false, false, false, false, false, false, false] rfl rfl (by kernel_rfl) (fun _ _ _ h => h) (yields_conv (by rfl) _ rfl (some ⟨gb, 0, none⟩) 64 64 rfl (blockL K c V) (fun w_ h_ => Kd.C_below CB.out h_)) hHeld ?_ ?_
  rotate_left
  · simp only [Act.put, List.setIfInBounds_toArray, List.set_cons_zero, List.set_cons_succ, i64_w, i32_w]
    rfl
  refine pure_ (i := 4) (N := (some 22)) (v := ?_) (a' := ?_) #[true, true, true, true, true, false, false, false, false, false, false, false, false, false, false, false, false, false, false, false, false, false, false, false, false, false, false] rfl rfl (by kernel_rfl) (fun _ _ _ h => h) (Or.inl ⟨by rfl, ?_⟩) ?_ ?_
  rotate_left
  · intro w'
    go_simp
    with_reducible rfl
  rotate_left
  · simp only [Act.put, List.setIfInBounds_toArray, List.set_cons_zero, List.set_cons_succ, i64_w, i32_w]
    rfl
  refine take_ (i := 5) (N := (some 23)) (v := (.string (strOfNums (bytesL K 32)))) (a' := ?_) #[true, true, true, true, true, true, false, false, false, false, false, false, false, false, false, false, false, false, false, false, false, false, false, false, false, false, false] rfl rfl (by kernel_rfl) (fun _ _ _ h => h) (yields_conv (by rfl) _ rfl (some ⟨w.heap.size, 0, none⟩) 32 32 rfl (bytesL K 32) (fun w_ h_ => C_arr (BX.out.step h_).hk KB.out (by omega))) hHeld ?_ ?_
  rotate_left
  · simp only [Act.put, List.setIfInBounds_toArray, List.set_cons_zero, List.set_cons_succ, i64_w, i32_w]
    rfl
  refine pure_ (i := 6) (N := (some 24)) (v := ?_) (a' := ?_) #[true, true, true, true, true, true, true, false, false, false, false, false, false, false, false, false, false, false, false, false, false, false, false, false, false, false, false] rfl rfl (by kernel_rfl) (fun _ _ _ h => h) (Or.inl ⟨by rfl, ?_⟩) ?_ ?_
  rotate_left
  · intro w'
    go_simp
    with_reducible rfl
  rotate_left
  · simp only [Act.put, List.setIfInBounds_toArray, List.set_cons_zero, List.set_cons_succ, i64_w, i32_w]
    rfl
  refine pure_ (i := 7) (N := (some 25)) (v := ?_) (a' := ?_) #[true, true, true, true, true, true, true, true, false, false, false, false, false, false, false, false, false, false, false, false, false, false, false, false, false, false, false] rfl rfl (by kernel_rfl) (fun _ _ _ h => h) (Or.inl ⟨by rfl, ?_⟩) ?_ ?_
  rotate_left
  · intro w'
    go_simp
    with_reducible rfl
  rotate_left
  · simp only [Act.put, List.setIfInBounds_toArray, List.set_cons_zero, List.set_cons_succ, i64_w, i32_w]
    rfl
  refine take_ (i := 8) (N := (some 26)) (v := (.string (strOfNums (bytesL V 12)))) (a' := ?_) #[true, true, true, true, true, true, true, true, true, false, false, false, false, false, false, false, false, false, false, false, false, false, false, false, false, false, false] rfl rfl (by kernel_rfl) (fun _ _ _ h => h) (yields_conv (by rfl) _ rfl (some ⟨w.heap.size + 1, 0, none⟩) 12 12 rfl (bytesL V 12) (fun w_ h_ => C_arr (BX.out.step h_).hv VB.out (by omega))) hHeld ?_ ?_
  rotate_left
  · simp only [Act.put, List.setIfInBounds_toArray, List.set_cons_zero, List.set_cons_succ, i64_w, i32_w]
    rfl
  refine one_ (i := 9) (N := (some 27)) #[true, true, true, true, true, true, true, true, true, true, false, false, false, false, false, false, false, false, false, false, false, false, false, false, false, false, false] rfl rfl (by kernel_rfl) (by decide) (fun KK hKK => ?_)
  refine goes_ Tryd.func15 (by kernel_rfl) rfl #[.string (strOfNums (bytesL K 32)), .int .u32 c, .string (strOfNums (bytesL V 12))] (by rfl) rfl rfl (by (try simp only [List.map_toArray, List.map_cons, List.map_nil]); first | done | rfl) ?_
  refine (refblock_any K V c _ KB.out VB.out hcb.out.1 hcb.out.2).mono ?_
  rintro e w7 ⟨rfl, b7⟩
  refine ⟨_, rfl, ?_⟩
  refine hKK.out _ _ (below_then hHeld hHeld.size b7) (fun hHeld => ?_)
  clear hKK KK
  refine norm_ (a' := ?_) ?_ ?_
  rotate_left
  · show Act.put _ (some 27) _ = _
    simp only [Act.put, List.setIfInBounds_toArray, List.set_cons_zero, List.set_cons_succ, i64_w, i32_w]
    rfl
  refine pure_ (i := 10) (N := (some 28)) (v := ?_) (a' := ?_) #[true, true, true, true, true, true, true, true, true, true, true, false, false, false, false, false, false, false, false, false, false, false, false, false, false, false, false] rfl rfl (by kernel_rfl) (fun _ _ _ h => h) (Or.inl ⟨by rfl, ?_⟩) ?_ ?_
  rotate_left
  · intro w'
    go_simp
    with_reducible rfl
  rotate_left
  · simp only [Act.put, List.setIfInBounds_toArray, List.set_cons_zero, List.set_cons_succ, i64_w, i32_w]
    rfl
  refine pure_ (i := 11) (N := (some 29)) (v := ?_) (a' := ?_) #[true, true, true, true, true, true, true, true, true, true, true, true, false, false, false, false, false, false, false, false, false, false, false, false, false, false, false] rfl rfl (by kernel_rfl) (fun _ _ _ h => h) (Or.inl ⟨by rfl, ?_⟩) ?_ ?_
  rotate_left
  · intro w'
    go_simp
    with_reducible rfl
  rotate_left
  · simp only [Act.put, List.setIfInBounds_toArray, List.set_cons_zero, List.set_cons_succ, i64_w, i32_w]
    rfl
  refine pure_ (i := 12) (N := (some 30)) (v := ?_) (a' := ?_) #[true, true, true, true, true, true, true, true, true, true, true, true, true, false, false, false, false, false, false, false, false, false, false, false, false, false, false] rfl rfl (by kernel_rfl) (fun _ _ _ h => h) (Or.inl ⟨by rfl, ?_⟩) ?_ ?_
  rotate_left
  · intro w'
    go_simp
    with_reducible rfl
  rotate_left
  · simp only [Act.put, List.setIfInBounds_toArray, List.set_cons_zero, List.set_cons_succ, i64_w, i32_w]
    rfl
  refine take_ (i := 13) (N := (some 31)) (v := (.agg K)) (a' := ?_) #[true, true, true, true, true, true, true, true, true, true, true, true, true, true, false, false, false, false, false, false, false, false, false, false, false, false, false] rfl rfl (by kernel_rfl) (fun _ _ _ h => h) (yields_load (by rfl) 23 _ rfl w.heap.size rfl 23 K (0, 0) _ (fun w_ h_ => (BX.out.step h_).hk) Tryd.underlying23 rfl (by rw [KB.out.1]; kernel_rfl)) hHeld ?_ ?_
  rotate_left
  · simp only [Act.put, List.setIfInBounds_toArray, List.set_cons_zero, List.set_cons_succ, i64_w, i32_w]
    rfl
  refine take_ (i := 14) (N := (some 32)) (v := (.agg V)) (a' := ?_) #[true, true, true, true, true, true, true, true, true, true, true, true, true, true, true, false, false, false, false, false, false, false, false, false, false, false, false] rfl rfl (by kernel_rfl) (fun _ _ _ h => h) (yields_load (by rfl) 24 _ rfl (w.heap.size + 1) rfl 24 V (0, 0) _ (fun w_ h_ => (BX.out.step h_).hv) Tryd.underlying24 rfl (by rw [VB.out.1]; kernel_rfl)) hHeld ?_ ?_
  rotate_left
  · simp only [Act.put, List.setIfInBounds_toArray, List.set_cons_zero, List.set_cons_succ, i64_w, i32_w]
    rfl
  refine pure_ (i := 15) (N := (some 33)) (v := ?_) (a' := ?_) #[true, true, true, true, true, true, true, true, true, true, true, true, true, true, true, true, false, false, false, false, false, false, false, false, false, false, false] rfl rfl (by kernel_rfl) (fun _ _ _ h => h) (Or.inl ⟨by rfl, ?_⟩) ?_ ?_
  rotate_left
  · intro w'
    go_simp
    with_reducible rfl
  rotate_left
  · simp only [Act.put, List.setIfInBounds_toArray, List.set_cons_zero, List.set_cons_succ, i64_w, i32_w]
    rfl
  refine pure_ (i := 18) (N := (some 36)) (v := ?_) (a' := ?_) #[true, true, true, true, true, true, true, true, true, true, true, true, true, true, true, true, false, false, true, false, false, false, false, false, false, false, false] rfl rfl (by kernel_rfl) (fun _ _ _ h => h) (Or.inl ⟨by rfl, ?_⟩) ?_ ?_
  rotate_left
  · intro w'
    go_simp
    with_reducible rfl
  rotate_left
  · simp only [Act.put, List.setIfInBounds_toArray, List.set_cons_zero, List.set_cons_succ, i64_w, i32_w]
    rfl
  refine take_ (i := 19) (N := (some 37)) (v := (.string (strOfNums (bytesL K 32)))) (a' := ?_) #[true, true, true, true, true, true, true, true, true, true, true, true, true, true, true, true, false, false, true, true, false, false, false, false, false, false, false] rfl rfl (by kernel_rfl) (fun _ _ _ h => h) (yields_conv (by rfl) _ rfl (some ⟨w.heap.size, 0, none⟩) 32 32 rfl (bytesL K 32) (fun w_ h_ => C_arr (BX.out.step h_).hk KB.out (by omega))) hHeld ?_ ?_
  rotate_left
  · simp only [Act.put, List.setIfInBounds_toArray, List.set_cons_zero, List.set_cons_succ, i64_w, i32_w]
    rfl
  refine pure_ (i := 20) (N := (some 38)) (v := ?_) (a' := ?_) #[true, true, true, true, true, true, true, true, true, true, true, true, true, true, true, true, false, false, true, true, true, false, false, false, false, false, false] rfl rfl (by kernel_rfl) (fun _ _ _ h => h) (Or.inl ⟨by rfl, ?_⟩) ?_ ?_
  rotate_left
  · intro w'
    go_simp
    with_reducible rfl
  rotate_left
  · simp only [Act.put, List.setIfInBounds_toArray, List.set_cons_zero, List.set_cons_succ, i64_w, i32_w]
    rfl
  refine take_ (i := 21) (N := (some 39)) (v := (.string (strOfNums (bytesL V 12)))) (a' := ?_) #[true, true, true, true, true, true, true, true, true, true, true, true, true, true, true, true, false, false, true, true, true, true, false, false, false, false, false] rfl rfl (by kernel_rfl) (fun _ _ _ h => h) (yields_conv (by rfl) _ rfl (some ⟨w.heap.size + 1, 0, none⟩) 12 12 rfl (bytesL V 12) (fun w_ h_ => C_arr (BX.out.step h_).hv VB.out (by omega))) hHeld ?_ ?_
  rotate_left
  · simp only [Act.put, List.setIfInBounds_toArray, List.set_cons_zero, List.set_cons_succ, i64_w, i32_w]
    rfl
  refine pure_ (i := 22) (N := (some 40)) (v := ?_) (a' := ?_) #[true, true, true, true, true, true, true, true, true, true, true, true, true, true, true, true, false, false, true, true, true, true, true, false, false, false, false] rfl rfl (by kernel_rfl) (fun _ _ _ h => h) (Or.inl ⟨by rfl, ?_⟩) ?_ ?_
  rotate_left
  · intro w'
    go_simp
    with_reducible rfl
  rotate_left
  · simp only [Act.put, List.setIfInBounds_toArray, List.set_cons_zero, List.set_cons_succ, i64_w, i32_w]
    rfl
  refine one_ (i := 16) (N := (some 34)) #[true, true, true, true, true, true, true, true, true, true, true, true, true, true, true, true, true, false, true, true, true, true, true, false, false, false, false] rfl rfl (by kernel_rfl) (by decide) (fun KK hKK => ?_)
  refine goes_ Tryd.func11 (by kernel_rfl) rfl #[.agg K, .agg V, .int .i64 N] (by rfl) rfl rfl (by (try simp only [List.map_toArray, List.map_cons, List.map_nil]); first | done | rfl) ?_
  refine (stream_any K V N _ KB.out VB.out (BX.out.step hHeld).va (by omega) hN2).mono ?_
  rintro e w8 ⟨v8, rfl, hR8, b8⟩
  refine ⟨_, rfl, ?_⟩
  refine hKK.out _ _ (below_then hHeld hHeld.size b8) (fun hHeld => ?_)
  clear hKK KK
  refine norm_ (a' := ?_) ?_ ?_
  rotate_left
  · show Act.put _ (some 34) _ = _
    simp only [Act.put, List.setIfInBounds_toArray, List.set_cons_zero, List.set_cons_succ, i64_w, i32_w]
    rfl
  obtain ⟨A8, c8, e8⟩ := Kd.R_slice hR8
  rw [streamL_len] at e8
  subst e8
  refine two_ (i := 17) (j := 23) (Ni := some 35) (Nj := some 41) #[true, true, true, true, true, true, true, true, true, true, true, true, true, true, true, true, true, true, true, true, true, true, true, false, false, false, false] #[true, true, true, true, true, true, true, true, true, true, true, true, true, true, true, true, true, false, true, true, true, true, true, true, false, false, false] rfl rfl rfl rfl (by kernel_rfl) (by decide) (by decide) (fun KK hKK => ?_) (fun KK hKK => ?_)
  ·
    refine value_ (w1 := _) (v := _) (by rfl) rfl (conv_run _ rfl rfl (R_C hR8).1) ?_
    refine hKK.out _ _ hHeld (fun hHeld => ?_)
    clear hKK KK
    refine norm_ (a' := ?_) ?_ ?_
    rotate_left
    · show Act.put _ (some 35) _ = _
      simp only [Act.put, List.setIfInBounds_toArray, List.set_cons_zero, List.set_cons_succ, i64_w, i32_w]
      rfl
    refine one_ (i := 23) (N := (some 41)) #[true, true, true, true, true, true, true, true, true, true, true, true, true, true, true, true, true, true, true, true, true, true, true, true, false, false, false] rfl rfl (by kernel_rfl) (by decide) (fun KK hKK => ?_)
    refine goes_ Tryd.func16 (by kernel_rfl) rfl #[.string (strOfNums (bytesL K 32)), .string (strOfNums (bytesL V 12)), .int .i64 N] (by rfl) rfl rfl (by (try simp only [List.map_toArray, List.map_cons, List.map_nil]); first | done | rfl) ?_
    refine (refstream_any K V N _ KB.out VB.out hN1).mono ?_
    rintro e w9 ⟨rfl, b9⟩
    refine ⟨_, rfl, ?_⟩
    refine hKK.out _ _ (below_then hHeld hHeld.size b9) (fun hHeld => ?_)
    clear hKK KK
    refine norm_ (a' := ?_) ?_ ?_
    rotate_left
    · show Act.put _ (some 41) _ = _
      simp only [Act.put, List.setIfInBounds_toArray, List.set_cons_zero, List.set_cons_succ, i64_w, i32_w]
      rfl
    refine pure_ (i := 24) (N := (some 42)) (v := ?_) (a' := ?_) #[true, true, true, true, true, true, true, true, true, true, true, true, true, true, true, true, true, true, true, true, true, true, true, true, true, false, false] rfl rfl (by kernel_rfl) (fun _ _ _ h => h) (Or.inl ⟨by rfl, ?_⟩) ?_ ?_
    rotate_left
    · intro w'
      go_simp
      with_reducible rfl
    rotate_left
    · simp only [Act.put, List.setIfInBounds_toArray, List.set_cons_zero, List.set_cons_succ, i64_w, i32_w]
      rfl
    refine pure_ (i := 25) (N := (some 43)) (v := ?_) (a' := ?_) #[true, true, true, true, true, true, true, true, true, true, true, true, true, true, true, true, true, true, true, true, true, true, true, true, true, true, false] rfl rfl (by kernel_rfl) (fun _ _ _ h => h) (Or.inl ⟨by rfl, ?_⟩) ?_ ?_
    rotate_left
    · intro w'
      go_simp
      with_reducible rfl
    rotate_left
    · simp only [Act.put, List.setIfInBounds_toArray, List.set_cons_zero, List.set_cons_succ, i64_w, i32_w]
      rfl
    refine pure_ (i := 26) (N := (some 8)) (v := ?_) (a' := ?_) #[true, true, true, true, true, true, true, true, true, true, true, true, true, true, true, true, true, true, true, true, true, true, true, true, true, true, true] rfl rfl (by kernel_rfl) (fun _ _ _ h => h) (Or.inl ⟨by rfl, ?_⟩) ?_ ?_
    rotate_left
    · intro w'
      go_simp
      with_reducible rfl
    rotate_left
    · simp only [Act.put, List.setIfInBounds_toArray, List.set_cons_zero, List.set_cons_succ, i64_w, i32_w]
      rfl
    refine done_ (by kernel_rfl) ?_
    go_wp2
    go_ret
    exact ⟨rfl, below_then BX.out.be BX.out.be.size hHeld⟩
  ·
    refine goes_ Tryd.func16 (by kernel_rfl) rfl #[.string (strOfNums (bytesL K 32)), .string (strOfNums (bytesL V 12)), .int .i64 N] (by rfl) rfl rfl (by (try simp only [List.map_toArray, List.map_cons, List.map_nil]); first | done | rfl) ?_
    refine (refstream_any K V N _ KB.out VB.out hN1).mono ?_
    rintro e w9 ⟨rfl, b9⟩
    refine ⟨_, rfl, ?_⟩
    refine hKK.out _ _ (below_then hHeld hHeld.size b9) (fun hHeld => ?_)
    clear hKK KK
    refine norm_ (a' := ?_) ?_ ?_
    rotate_left
    · show Act.put _ (some 41) _ = _
      simp only [Act.put, List.setIfInBounds_toArray, List.set_cons_zero, List.set_cons_succ, i64_w, i32_w]
      rfl
    have hR9 := Kd.R_below hR8 b9
    refine one_ (i := 17) (N := (some 35)) #[true, true, true, true, true, true, true, true, true, true, true, true, true, true, true, true, true, true, true, true, true, true, true, true, false, false, false] rfl rfl (by kernel_rfl) (by decide) (fun KK hKK => ?_)
    refine value_ (w1 := _) (v := _) (by rfl) rfl (conv_run _ rfl rfl (R_C hR9).1) ?_
    refine hKK.out _ _ hHeld (fun hHeld => ?_)
    clear hKK KK
    refine norm_ (a' := ?_) ?_ ?_
    rotate_left
    · show Act.put _ (some 35) _ = _
      simp only [Act.put, List.setIfInBounds_toArray, List.set_cons_zero, List.set_cons_succ, i64_w, i32_w]
      rfl
    refine pure_ (i := 24) (N := (some 42)) (v := ?_) (a' := ?_) #[true, true, true, true, true, true, true, true, true, true, true, true, true, true, true, true, true, true, true, true, true, true, true, true, true, false, false] rfl rfl (by kernel_rfl) (fun _ _ _ h => h) (Or.inl ⟨by rfl, ?_⟩) ?_ ?_
    rotate_left
    · intro w'
      go_simp
      with_reducible rfl
    rotate_left
    · simp only [Act.put, List.setIfInBounds_toArray, List.set_cons_zero, List.set_cons_succ, i64_w, i32_w]
      rfl
    refine pure_ (i := 25) (N := (some 43)) (v := ?_) (a' := ?_) #[true, true, true, true, true, true, true, true, true, true, true, true, true, true, true, true, true, true, true, true, true, true, true, true, true, true, false] rfl rfl (by kernel_rfl) (fun _ _ _ h => h) (Or.inl ⟨by rfl, ?_⟩) ?_ ?_
    rotate_left
    · intro w'
      go_simp
      with_reducible rfl
    rotate_left
    · simp only [Act.put, List.setIfInBounds_toArray, List.set_cons_zero, List.set_cons_succ, i64_w, i32_w]
      rfl
    refine pure_ (i := 26) (N := (some 8)) (v := ?_) (a' := ?_) #[true, true, true, true, true, true, true, true, true, true, true, true, true, true, true, true, true, true, true, true, true, true, true, true, true, true, true] rfl rfl (by kernel_rfl) (fun _ _ _ h => h) (Or.inl ⟨by rfl, ?_⟩) ?_ ?_
    rotate_left
    · intro w'
      go_simp
      with_reducible rfl
    rotate_left
    · simp only [Act.put, List.setIfInBounds_toArray, List.set_cons_zero, List.set_cons_succ, i64_w, i32_w]
      rfl
    refine done_ (by kernel_rfl) ?_
    go_wp2
    go_ret
    exact ⟨rfl, below_then BX.out.be BX.out.be.size hHeld⟩
end Go.Proofs.YtlpfmehcghhdcaaDoor.XB
