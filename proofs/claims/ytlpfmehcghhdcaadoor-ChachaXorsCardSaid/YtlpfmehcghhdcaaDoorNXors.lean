/- ChachaXors' walk. -/
import Derived.Test.YtlpfmehcghhdcaaDoorM12
import Derived.BigQuiet
import Derived.StillTailTactics
namespace Go.Proofs.YtlpfmehcghhdcaaDoor.XB
open Go.RowKit Go.Proofs.YtlpfmehcghhdcaaDoorW.PrintWords Go.Proofs.YtlpfmehcghhdcaaDoorW.PrintLast Go.Proofs.YtlpfmehcghhdcaaDoorW.PrintMore PChachaTells
set_option linter.unusedVariables false
set_option linter.unusedSimpArgs false
variable {T : Nat × Nat × Nat}

attribute [local go_sem] max2_int min2_int max_two min_two
theorem min_fact (n : Nat) : (if (500 : Int) < (n : Int) then (500 : Int) else (n : Int)) = ((min n 500 : Nat) : Int) := by split <;> omega
theorem min_fact2 (n m : Nat) : (if (m : Int) < (n : Int) then (m : Int) else (n : Int)) = ((min n m : Nat) : Int) := by split <;> omega
theorem strOfNums_take (x : List Int) (i : Nat) : (strOfNums x).extract 0 i = strOfNums (x.take i) := by
  apply ByteArray.ext
  simp [strOfNums]
set_option maxHeartbeats 4000000 in
set_option maxRecDepth 100000 in
theorem xors_any (A0 : Option Addr) (c0 : Nat) (l0 : List Int) (A1 : Option Addr) (c1 : Nat) (l1 : List Int) (A2 : Option Addr) (c2 : Nat) (l2 : List Int) (w : World)
    (hc0 : Kd.C (Kd.int .u8) w A0 l0.length l0) (hl0 : l0.length ≤ c0) (hx0 : ∀ x ∈ l0, 0 ≤ x ∧ x ≤ 255) (hc1 : Kd.C (Kd.int .u8) w A1 l1.length l1) (hl1 : l1.length ≤ c1) (hx1 : ∀ x ∈ l1, 0 ≤ x ∧ x ≤ 255) (hc2 : Kd.C (Kd.int .u8) w A2 l2.length l2) (hl2 : l2.length ≤ c2) (hx2 : ∀ x ∈ l2, 0 ≤ x ∧ x ≤ 255) (hv : Vars T w) :
    Calls Tryd.prog 5 #[.slice A0 l0.length c0, .slice A1 l1.length c1, .slice A2 l2.length c2] w fun e w' => e = .returned (.bool true) ∧ Below w.heap.size w w' := by
  have HG := Aside0.mk hv
  have m0 := min_fact l0.length
  have k0 : min l0.length 500 ≤ 500 := Nat.min_le_right _ _
  have s0 := slice_to A0 l0.length c0 (min l0.length 500) (Nat.min_le_left _ _) hl0
  have t0 := s0.1
  have CX0 := Aside0.mk (s0.2 _ _ hc0)
  have LX0 : Aside0 (∀ x ∈ l0.take (min l0.length 500), 0 ≤ x ∧ x ≤ 255) := ⟨fun x hx => hx0 x (List.mem_of_mem_take hx)⟩
  have KX0 : Aside0 (min l0.length 500 ≤ c0) := ⟨Nat.le_trans (Nat.min_le_left _ _) hl0⟩
  have bx0 : ((min l0.length 500 : Nat) : Int) ≤ (c0 : Int) := by have := KX0.out; omega
  clear s0 hc0 hl0 hx0
  generalize l0.take (min l0.length 500) = x0 at CX0 LX0
  generalize min l0.length 500 = n0 at m0 k0 t0 CX0 KX0 bx0
  have m1 := min_fact l1.length
  have k1 : min l1.length 500 ≤ 500 := Nat.min_le_right _ _
  have s1 := slice_to A1 l1.length c1 (min l1.length 500) (Nat.min_le_left _ _) hl1
  have t1 := s1.1
  have CX1 := Aside0.mk (s1.2 _ _ hc1)
  have LX1 : Aside0 (∀ x ∈ l1.take (min l1.length 500), 0 ≤ x ∧ x ≤ 255) := ⟨fun x hx => hx1 x (List.mem_of_mem_take hx)⟩
  have KX1 : Aside0 (min l1.length 500 ≤ c1) := ⟨Nat.le_trans (Nat.min_le_left _ _) hl1⟩
  have bx1 : ((min l1.length 500 : Nat) : Int) ≤ (c1 : Int) := by have := KX1.out; omega
  clear s1 hc1 hl1 hx1
  generalize l1.take (min l1.length 500) = x1 at CX1 LX1
  generalize min l1.length 500 = n1 at m1 k1 t1 CX1 KX1 bx1
  have m2 := min_fact l2.length
  have k2 : min l2.length 500 ≤ 500 := Nat.min_le_right _ _
  have s2 := slice_to A2 l2.length c2 (min l2.length 500) (Nat.min_le_left _ _) hl2
  have t2 := s2.1
  have CX2 := Aside0.mk (s2.2 _ _ hc2)
  have LX2 : Aside0 (∀ x ∈ l2.take (min l2.length 500), 0 ≤ x ∧ x ≤ 255) := ⟨fun x hx => hx2 x (List.mem_of_mem_take hx)⟩
  have KX2 : Aside0 (min l2.length 500 ≤ c2) := ⟨Nat.le_trans (Nat.min_le_left _ _) hl2⟩
  have bx2 : ((min l2.length 500 : Nat) : Int) ≤ (c2 : Int) := by have := KX2.out; omega
  clear s2 hc2 hl2 hx2
  generalize l2.take (min l2.length 500) = x2 at CX2 LX2
  generalize min l2.length 500 = n2 at m2 k2 t2 CX2 KX2 bx2
  have N0 : Aside0 (x0.length = n0) := ⟨Kd.C_len CX0.out⟩
  have N1 : Aside0 (x1.length = n1) := ⟨Kd.C_len CX1.out⟩
  have N2 : Aside0 (x2.length = n2) := ⟨Kd.C_len CX2.out⟩
  have mf := min_fact2 n0 n1
  have mf' : (if n1 < n0 then (n1 : Int) else (n0 : Int)) = ((min n0 n1 : Nat) : Int) := by split <;> omega
  generalize hmx : min n0 n1 = mx at mf mf'
  go_enter Tryd.func5, Tryd.ntmps5
  go_wp2_with (first | (go_at_call 10; (with_reducible refine (shown_any _ HG.out).mono ?_); rintro e w2 ⟨rfl, b2⟩; have B2 := Aside0.mk b2; clear b2) | ((with_reducible refine gate_dst (N := 17) rfl ?_); refine Kd.R_lit (Kd.int .u8) (w0 := w2) w2.heap.size 5 ?hg (N := 17) ?hd (xs := ([] : List Int)) (inner := []) (ok := fun _ => True) (okp := fun _ => True) ?hr ?hp (fun _ hk => hk) trivial (Below.refl _ _) (Nat.le_refl _) (by simp) ?_; (case hd => rfl); (case hg => rfl); (case hr => first | (go_simp; done) | (go_simp; rfl)); (case hp => exact (Reps.none _ _)); intro v3 w3 hR hb hg_ hnew_; obtain ⟨E3, ce3, rfl⟩ := Kd.R_slice hR; have RE := Aside0.mk hR; have L3 := Aside0.mk hb; have B3 := Aside0.mk (below_then B2.out B2.out.size hb); skip; clear hg_ hnew_ hR hb) | ((with_reducible refine gate_dst (N := 23) rfl ?_); refine Kd.R_append_row (Value.int .u8) (0 : Int) (h1 := fun _ => rfl) (w0 := w2) w2.heap.size rfl (.tmp 17) (.tmp 22) 26 5 (.int .u8 0) 1 rfl Tryd.underlying26 info5 rfl (by omega) _ [] x0 A0 n0 c0 (fun _ => True) rfl rfl (fun _ _ => trivial) RE.out (Kd.C_below CX0.out B3.out) L3.out L3.out.size (by simp; omega) ?_; intro v1 w4 hR hb hg_ hnew_; replace hR : Kd.R (Kd.int .u8) 5 w4 w2.heap.size (fun _ => True) v1 ([] ++ x0) := hR; rw [List.nil_append] at hR; obtain ⟨D0, d0, e7⟩ := Kd.R_slice hR; rw [N0.out] at e7; subst e7; have R0 := Aside0.mk hR; have B4 := Aside0.mk (below_then B2.out B2.out.size hb); skip; clear hg_ hnew_ hR hb) | ((with_reducible refine gate_dst (N := 24) rfl ?_); refine Kd.R_lit (Kd.int .u8) (w0 := w4) w4.heap.size 5 ?hg (N := 24) ?hd (xs := ([] : List Int)) (inner := []) (ok := fun _ => True) (okp := fun _ => True) ?hr ?hp (fun _ hk => hk) trivial (Below.refl _ _) (Nat.le_refl _) (by simp) ?_; (case hd => rfl); (case hg => rfl); (case hr => first | (go_simp; done) | (go_simp; rfl)); (case hp => exact (Reps.none _ _)); intro v5 w5 hR hb hg_ hnew_; obtain ⟨E5, ce5, rfl⟩ := Kd.R_slice hR; have RE := Aside0.mk hR; have L5 := Aside0.mk hb; have B5 := Aside0.mk (below_then B4.out B4.out.size hb); have R0 := Aside0.mk (Kd.R_elder' R0.out (Kd.R_base hR) hb); clear hg_ hnew_ hR hb) | ((with_reducible refine gate_dst (N := 30) rfl ?_); refine Kd.R_append_row (Value.int .u8) (0 : Int) (h1 := fun _ => rfl) (w0 := w4) w4.heap.size rfl (.tmp 24) (.tmp 29) 26 5 (.int .u8 0) 1 rfl Tryd.underlying26 info5 rfl (by omega) _ [] x1 A1 n1 c1 (fun _ => True) rfl rfl (fun _ _ => trivial) RE.out (Kd.C_below CX1.out B5.out) L5.out L5.out.size (by simp; omega) ?_; intro v1 w6 hR hb hg_ hnew_; replace hR : Kd.R (Kd.int .u8) 5 w6 w4.heap.size (fun _ => True) v1 ([] ++ x1) := hR; rw [List.nil_append] at hR; obtain ⟨D1, d1, e7⟩ := Kd.R_slice hR; rw [N1.out] at e7; subst e7; have R1 := Aside0.mk hR; have B6 := Aside0.mk (below_then B4.out B4.out.size hb); have R0 := Aside0.mk (Kd.R_mono (Kd.R_grown R0.out hg_ (fun k hk => hk.2)) (fun _ hk => hk.1)); have cva := str_of_R R0.out; have cvb := str_of_R hR; clear hg_ hnew_ hR hb) | (go_at_call 13; (with_reducible refine (xor_at D0 d0 x0 D1 d1 x1 _ N0.out N1.out (R_C R0.out).1 (R_C R0.out).2.1 (R_C R1.out).1 (R_C R1.out).2.1 (by omega) (n := mx) hmx).mono ?_); rintro e w7 ⟨X, cX, rfl, hR, b2⟩; have RX := Aside0.mk hR; have B7 := Aside0.mk (below_then B6.out B6.out.size b2); have R0 := Aside0.mk (Kd.R_elder' R0.out (Kd.R_base hR) b2); have R1 := Aside0.mk (Kd.R_elder' R1.out (Kd.R_base hR) b2); clear cva cvb; clear hR b2) | (go_at_call 13; (with_reducible refine (xor_at D1 d1 x1 D0 d0 x0 _ N1.out N0.out (R_C R1.out).1 (R_C R1.out).2.1 (R_C R0.out).1 (R_C R0.out).2.1 (by omega) (n := mx) ((Nat.min_comm _ _).trans hmx)).mono ?_); rintro e w8 ⟨Y, cY, rfl, hR, b2⟩; have RY := Aside0.mk hR; have B8 := Aside0.mk (below_then B7.out B7.out.size b2); have R0 := Aside0.mk (Kd.R_below R0.out b2); have R1 := Aside0.mk (Kd.R_below R1.out b2); have RX := Aside0.mk (Kd.R_below RX.out b2); clear hR b2))
  have RY : Aside0 (Kd.R (Kd.int .u8) 5 w8 w7.heap.size (fun _ => True) (.slice Y mx cY) (xorL x0 x1)) := ⟨by rw [xorL_comm x0 x1]; exact RY.out⟩
  refine start_ (n := 23) (S := (fun w_ : World => Below w8.heap.size w8 w_)) (ds := []) #[false, false, false, false, false, false, false, false, false, false, false, false, false, false, false, false, false, false, false, false, false, false, false] (by kernel_rfl) rfl rfl (below_drew1 (Below.refl _ _)) (fun hHeld => ?_)
  generalize w8.drew = w9 at hHeld ⊢
  refine pure_ (i := 0) (N := (some 46)) (v := ?_) (a' := ?_) #[true, false, false, false, false, false, false, false, false, false, false, false, false, false, false, false, false, false, false, false, false, false, false] rfl rfl (by kernel_rfl) (fun _ _ _ h => h) (Or.inl ⟨by rfl, ?_⟩) ?_ ?_
  rotate_left
  · intro w'
    go_simp
    with_reducible rfl
  rotate_left
  · simp only [Act.put, List.setIfInBounds_toArray, List.set_cons_zero, List.set_cons_succ, i64_w, i32_w]
    rfl
  refine take_ (i := 1) (N := (some 47)) (v := (.string (strOfNums (xorL x0 x1)))) (a' := ?_) #[true, true, false, false, false, false, false, false, false, false, false, false, false, false, false, false, false, false, false, false, false, false, false] rfl rfl (by kernel_rfl) (fun _ _ _ h => h) (yields_conv (by rfl) _ rfl X mx cX rfl (xorL x0 x1) (fun w_ h_ => Kd.C_below (R_C RX.out).1 h_)) hHeld ?_ ?_
  rotate_left
  · simp only [Act.put, List.setIfInBounds_toArray, List.set_cons_zero, List.set_cons_succ, i64_w, i32_w]
    rfl
  refine pure_ (i := 2) (N := (some 48)) (v := ?_) (a' := ?_) #[true, true, true, false, false, false, false, false, false, false, false, false, false, false, false, false, false, false, false, false, false, false, false] rfl rfl (by kernel_rfl) (fun _ _ _ h => h) (Or.inl ⟨by rfl, ?_⟩) ?_ ?_
  rotate_left
  · intro w'
    go_simp
    with_reducible rfl
  rotate_left
  · simp only [Act.put, List.setIfInBounds_toArray, List.set_cons_zero, List.set_cons_succ, i64_w, i32_w]
    rfl
  refine take_ (i := 3) (N := (some 49)) (v := (.string (strOfNums (xorL x0 x1)))) (a' := ?_) #[true, true, true, true, false, false, false, false, false, false, false, false, false, false, false, false, false, false, false, false, false, false, false] rfl rfl (by kernel_rfl) (fun _ _ _ h => h) (yields_conv (by rfl) _ rfl Y mx cY rfl (xorL x0 x1) (fun w_ h_ => Kd.C_below (R_C RY.out).1 h_)) hHeld ?_ ?_
  rotate_left
  · simp only [Act.put, List.setIfInBounds_toArray, List.set_cons_zero, List.set_cons_succ, i64_w, i32_w]
    rfl
  refine pure_ (i := 4) (N := (some 50)) (v := ?_) (a' := ?_) #[true, true, true, true, true, false, false, false, false, false, false, false, false, false, false, false, false, false, false, false, false, false, false] rfl rfl (by kernel_rfl) (fun _ _ _ h => h) (Or.inl ⟨by rfl, ?_⟩) ?_ ?_
  rotate_left
  · intro w'
    go_simp
    with_reducible rfl
  rotate_left
  · simp only [Act.put, List.setIfInBounds_toArray, List.set_cons_zero, List.set_cons_succ, i64_w, i32_w]
    rfl
  refine pure_ (i := 5) (N := (some 51)) (v := ?_) (a' := ?_) #[true, true, true, true, true, true, false, false, false, false, false, false, false, false, false, false, false, false, false, false, false, false, false] rfl rfl (by kernel_rfl) (fun _ _ _ h => h) (Or.inl ⟨by rfl, ?_⟩) ?_ ?_
  rotate_left
  · intro w'
    go_simp
    with_reducible rfl
  rotate_left
  · simp only [Act.put, List.setIfInBounds_toArray, List.set_cons_zero, List.set_cons_succ, i64_w, i32_w]
    rfl
  refine pure_ (i := 6) (N := (some 52)) (v := ?_) (a' := ?_) #[true, true, true, true, true, true, true, false, false, false, false, false, false, false, false, false, false, false, false, false, false, false, false] rfl rfl (by kernel_rfl) (fun _ _ _ h => h) (Or.inl ⟨by rfl, ?_⟩) ?_ ?_
  rotate_left
  · intro w'
    go_simp
    with_reducible rfl
  rotate_left
  · simp only [Act.put, List.setIfInBounds_toArray, List.set_cons_zero, List.set_cons_succ, i64_w, i32_w]
    rfl
  refine take_ (i := 7) (N := (some 53)) (v := (.string (strOfNums (xorL x0 x1)))) (a' := ?_) #[true, true, true, true, true, true, true, true, false, false, false, false, false, false, false, false, false, false, false, false, false, false, false] rfl rfl (by kernel_rfl) (fun _ _ _ h => h) (yields_conv (by rfl) _ rfl X mx cX rfl (xorL x0 x1) (fun w_ h_ => Kd.C_below (R_C RX.out).1 h_)) hHeld ?_ ?_
  rotate_left
  · simp only [Act.put, List.setIfInBounds_toArray, List.set_cons_zero, List.set_cons_succ, i64_w, i32_w]
    rfl
  refine pure_ (i := 8) (N := (some 54)) (v := ?_) (a' := ?_) #[true, true, true, true, true, true, true, true, true, false, false, false, false, false, false, false, false, false, false, false, false, false, false] rfl rfl (by kernel_rfl) (fun _ _ _ h => h) (Or.inl ⟨by rfl, ?_⟩) ?_ ?_
  rotate_left
  · intro w'
    go_simp
    with_reducible rfl
  rotate_left
  · simp only [Act.put, List.setIfInBounds_toArray, List.set_cons_zero, List.set_cons_succ, i64_w, i32_w]
    rfl
  refine pure_ (i := 9) (N := (some 55)) (v := ?_) (a' := ?_) #[true, true, true, true, true, true, true, true, true, true, false, false, false, false, false, false, false, false, false, false, false, false, false] rfl rfl (by kernel_rfl) (fun _ _ _ h => h) (Or.inl ⟨by rfl, ?_⟩) ?_ ?_
  rotate_left
  · intro w'
    go_simp
    with_reducible rfl
  rotate_left
  · simp only [Act.put, List.setIfInBounds_toArray, List.set_cons_zero, List.set_cons_succ, i64_w, i32_w]
    rfl
  refine one_ (i := 10) (N := (some 56)) #[true, true, true, true, true, true, true, true, true, true, true, false, false, false, false, false, false, false, false, false, false, false, false] rfl rfl (by kernel_rfl) (by decide) (fun KK hKK => ?_)
  refine goes_ Tryd.func14 (by kernel_rfl) rfl #[.string (strOfNums x0), .string (strOfNums x1)] (by rfl) rfl rfl (by (try simp only [List.map_toArray, List.map_cons, List.map_nil]); first | done | rfl) ?_
  refine (refxor_any x0 x1 _ LX0.out LX1.out (by have := N0.out; omega)).mono ?_
  rintro e w10 ⟨rfl, b10⟩
  refine ⟨_, rfl, ?_⟩
  refine hKK.out _ _ (below_then hHeld hHeld.size b10) (fun hHeld => ?_)
  clear hKK KK
  refine norm_ (a' := ?_) ?_ ?_
  rotate_left
  · show Act.put _ (some 56) _ = _
    simp only [Act.put, List.setIfInBounds_toArray, List.set_cons_zero, List.set_cons_succ, i64_w, i32_w]
    rfl
  refine pure_ (i := 11) (N := (some 57)) (v := ?_) (a' := ?_) #[true, true, true, true, true, true, true, true, true, true, true, true, false, false, false, false, false, false, false, false, false, false, false] rfl rfl (by kernel_rfl) (fun _ _ _ h => h) (Or.inl ⟨by rfl, ?_⟩) ?_ ?_
  rotate_left
  · intro w'
    go_simp
    with_reducible rfl
  rotate_left
  · simp only [Act.put, List.setIfInBounds_toArray, List.set_cons_zero, List.set_cons_succ, i64_w, i32_w]
    rfl
  refine pure_ (i := 12) (N := (some 58)) (v := ?_) (a' := ?_) #[true, true, true, true, true, true, true, true, true, true, true, true, true, false, false, false, false, false, false, false, false, false, false] rfl rfl (by kernel_rfl) (fun _ _ _ h => h) (Or.inl ⟨by rfl, ?_⟩) ?_ ?_
  rotate_left
  · intro w'
    go_simp
    with_reducible rfl
  rotate_left
  · simp only [Act.put, List.setIfInBounds_toArray, List.set_cons_zero, List.set_cons_succ, i64_w, i32_w]
    rfl
  refine pure_ (i := 13) (N := (some 59)) (v := ?_) (a' := ?_) #[true, true, true, true, true, true, true, true, true, true, true, true, true, true, false, false, false, false, false, false, false, false, false] rfl rfl (by kernel_rfl) (fun _ _ _ h => h) (Or.inl ⟨by rfl, ?_⟩) ?_ ?_
  rotate_left
  · intro w'
    go_simp
    with_reducible rfl
  rotate_left
  · simp only [Act.put, List.setIfInBounds_toArray, List.set_cons_zero, List.set_cons_succ, i64_w, i32_w]
    rfl
  refine pure_ (i := 14) (N := (some 60)) (v := ?_) (a' := ?_) #[true, true, true, true, true, true, true, true, true, true, true, true, true, true, true, false, false, false, false, false, false, false, false] rfl rfl (by kernel_rfl) (fun _ _ _ h => h) (Or.inl ⟨by rfl, ?_⟩) ?_ ?_
  rotate_left
  · intro w'
    go_simp
    with_reducible rfl
  rotate_left
  · simp only [Act.put, List.setIfInBounds_toArray, List.set_cons_zero, List.set_cons_succ, i64_w, i32_w]
    rfl
  refine pure_ (i := 15) (N := (some 61)) (v := ?_) (a' := ?_) #[true, true, true, true, true, true, true, true, true, true, true, true, true, true, true, true, false, false, false, false, false, false, false] rfl rfl (by kernel_rfl) (fun _ _ _ h => h) (Or.inl ⟨by rfl, ?_⟩) ?_ ?_
  rotate_left
  · intro w'
    go_simp
    with_reducible rfl
  rotate_left
  · simp only [Act.put, List.setIfInBounds_toArray, List.set_cons_zero, List.set_cons_succ, i64_w, i32_w]
    rfl
  refine pure_ (i := 16) (N := (some 62)) (v := ?_) (a' := ?_) #[true, true, true, true, true, true, true, true, true, true, true, true, true, true, true, true, true, false, false, false, false, false, false] rfl rfl (by kernel_rfl) (fun _ _ _ h => h) (Or.inl ⟨by rfl, ?_⟩) ?_ ?_
  rotate_left
  · intro w'
    go_simp
    with_reducible rfl
  rotate_left
  · simp only [Act.put, List.setIfInBounds_toArray, List.set_cons_zero, List.set_cons_succ, i64_w, i32_w]
    rfl
  refine pure_ (i := 17) (N := (some 63)) (v := ?_) (a' := ?_) #[true, true, true, true, true, true, true, true, true, true, true, true, true, true, true, true, true, true, false, false, false, false, false] rfl rfl (by kernel_rfl) (fun _ _ _ h => h) (Or.inl ⟨by rfl, ?_⟩) ?_ ?_
  rotate_left
  · intro w'
    go_simp
    with_reducible rfl
  rotate_left
  · simp only [Act.put, List.setIfInBounds_toArray, List.set_cons_zero, List.set_cons_succ, i64_w, i32_w]
    rfl
  refine pure_ (i := 18) (N := (some 64)) (v := ?_) (a' := ?_) #[true, true, true, true, true, true, true, true, true, true, true, true, true, true, true, true, true, true, true, false, false, false, false] rfl rfl (by kernel_rfl) (fun _ _ _ h => h) (Or.inl ⟨by rfl, ?_⟩) ?_ ?_
  rotate_left
  · intro w'
    go_simp
    with_reducible rfl
  rotate_left
  · simp only [Act.put, List.setIfInBounds_toArray, List.set_cons_zero, List.set_cons_succ, i64_w, i32_w]
    rfl
  refine pure_ (i := 19) (N := (some 65)) (v := ?_) (a' := ?_) #[true, true, true, true, true, true, true, true, true, true, true, true, true, true, true, true, true, true, true, true, false, false, false] rfl rfl (by kernel_rfl) (fun _ _ _ h => h) (Or.inl ⟨by rfl, ?_⟩) ?_ ?_
  rotate_left
  · intro w'
    go_simp
    with_reducible rfl
  rotate_left
  · simp only [Act.put, List.setIfInBounds_toArray, List.set_cons_zero, List.set_cons_succ, i64_w, i32_w]
    rfl
  refine pure_ (i := 20) (N := (some 66)) (v := ?_) (a' := ?_) #[true, true, true, true, true, true, true, true, true, true, true, true, true, true, true, true, true, true, true, true, true, false, false] rfl rfl (by kernel_rfl) (fun _ _ _ h => h) (Or.inl ⟨by rfl, ?_⟩) ?_ ?_
  rotate_left
  · intro w'
    go_simp
    with_reducible rfl
  rotate_left
  · simp only [Act.put, List.setIfInBounds_toArray, List.set_cons_zero, List.set_cons_succ, i64_w, i32_w]
    rfl
  refine pure_ (i := 21) (N := (some 67)) (v := ?_) (a' := ?_) #[true, true, true, true, true, true, true, true, true, true, true, true, true, true, true, true, true, true, true, true, true, true, false] rfl rfl (by kernel_rfl) (fun _ _ _ h => h) (Or.inl ⟨by rfl, ?_⟩) ?_ ?_
  rotate_left
  · intro w'
    go_simp
    with_reducible rfl
  rotate_left
  · simp only [Act.put, List.setIfInBounds_toArray, List.set_cons_zero, List.set_cons_succ, i64_w, i32_w]
    rfl
  refine pure_ (i := 22) (N := (some 68)) (v := ?_) (a' := ?_) #[true, true, true, true, true, true, true, true, true, true, true, true, true, true, true, true, true, true, true, true, true, true, true] rfl rfl (by kernel_rfl) (fun _ _ _ h => h) (Or.inl ⟨by rfl, ?_⟩) ?_ ?_
  rotate_left
  · intro w'
    go_simp
    with_reducible rfl
  rotate_left
  · simp only [Act.put, List.setIfInBounds_toArray, List.set_cons_zero, List.set_cons_succ, i64_w, i32_w]
    rfl
  refine done_ (by kernel_rfl) ?_
  have B10 := Aside0.mk (below_then B8.out B8.out.size hHeld)
  have R0 := Aside0.mk (Kd.R_below R0.out hHeld)
  have R1 := Aside0.mk (Kd.R_below R1.out hHeld)
  have RX := Aside0.mk (Kd.R_below RX.out hHeld)
  clear hHeld
  generalize hmt : min mx n2 = mt
  go_wp2_with (first | (go_at_call 13; (with_reducible refine (xor_at X cX (xorL x0 x1) D1 d1 x1 _ (R_C RX.out).2.2 N1.out (R_C RX.out).1 (R_C RX.out).2.1 (R_C R1.out).1 (R_C R1.out).2.1 (by omega) (n := mx) (by omega)).mono ?_); rintro e w11 ⟨K_, cK_, rfl, hR, b2⟩; have RK := Aside0.mk (Kd.R_new' hR (Kd.R_lt RX.out)); have B11 := Aside0.mk (below_then B10.out B10.out.size b2); have R0 := Aside0.mk (Kd.R_below R0.out b2); have R1 := Aside0.mk (Kd.R_below R1.out b2); have RX := Aside0.mk (Kd.R_below RX.out b2); clear hR b2) | (go_at_call 13; (with_reducible refine (xor_at D0 d0 x0 D1 d1 x1 _ N0.out N1.out (R_C R0.out).1 (R_C R0.out).2.1 (R_C R1.out).1 (R_C R1.out).2.1 (by omega) (n := mx) hmx).mono ?_); rintro e w12 ⟨I_, cI_, rfl, hR, b2⟩; have RI := Aside0.mk (Kd.R_new' hR (Kd.R_lt RX.out)); have B12 := Aside0.mk (below_then B11.out B11.out.size b2); have R0 := Aside0.mk (Kd.R_below R0.out b2); have R1 := Aside0.mk (Kd.R_below R1.out b2); have RX := Aside0.mk (Kd.R_below RX.out b2); have RK := Aside0.mk (Kd.R_below RK.out b2); clear hR b2) | (go_at_call 13; (with_reducible refine (xor_at I_ cI_ (xorL x0 x1) A2 c2 x2 _ (R_C RI.out).2.2 N2.out (R_C RI.out).1 (R_C RI.out).2.1 (Kd.C_below CX2.out B12.out) KX2.out (by omega) (n := mt) hmt).mono ?_); rintro e w13 ⟨O_, cO_, rfl, hR, b2⟩; have RO := Aside0.mk (Kd.R_new' hR (Kd.R_lt RX.out)); have B13 := Aside0.mk (below_then B12.out B12.out.size b2); have R0 := Aside0.mk (Kd.R_below R0.out b2); have R1 := Aside0.mk (Kd.R_below R1.out b2); have RX := Aside0.mk (Kd.R_below RX.out b2); have RK := Aside0.mk (Kd.R_below RK.out b2); clear hR b2) | (go_at_call 13; (with_reducible refine (xor_at D1 d1 x1 A2 c2 x2 _ N1.out N2.out (R_C R1.out).1 (R_C R1.out).2.1 (Kd.C_below CX2.out B13.out) KX2.out (by omega) (n := (min n1 n2)) rfl).mono ?_); rintro e w14 ⟨J_, cJ_, rfl, hR, b2⟩; have RJ := Aside0.mk (Kd.R_new' hR (Kd.R_lt RX.out)); have B14 := Aside0.mk (below_then B13.out B13.out.size b2); have R0 := Aside0.mk (Kd.R_below R0.out b2); have R1 := Aside0.mk (Kd.R_below R1.out b2); have RX := Aside0.mk (Kd.R_below RX.out b2); have RK := Aside0.mk (Kd.R_below RK.out b2); have RO := Aside0.mk (Kd.R_below RO.out b2); clear hR b2) | (go_at_call 13; (with_reducible refine (xor_at D0 d0 x0 J_ cJ_ (xorL x1 x2) _ N0.out (R_C RJ.out).2.2 (R_C R0.out).1 (R_C R0.out).2.1 (R_C RJ.out).1 (R_C RJ.out).2.1 (by omega) (n := mt) (by omega)).mono ?_); rintro e w15 ⟨W_, cW_, rfl, hR, b2⟩; have RW := Aside0.mk (Kd.R_new' hR (Kd.R_lt RX.out)); have B15 := Aside0.mk (below_then B14.out B14.out.size b2); have R0 := Aside0.mk (Kd.R_below R0.out b2); have R1 := Aside0.mk (Kd.R_below R1.out b2); have RX := Aside0.mk (Kd.R_below RX.out b2); have RK := Aside0.mk (Kd.R_below RK.out b2); have RO := Aside0.mk (Kd.R_below RO.out b2); clear hR b2))
  have hbk : xorL (xorL x0 x1) x1 = x0.take mx := by rw [xorL_back x0 x1 LX0.out, N0.out, N1.out, hmx]
  have RK : Aside0 (Kd.R (Kd.int .u8) 5 w15 w10.heap.size (fun k => True ∧ some k ≠ (Value.slice X mx cX).ownBlock) (.slice K_ mx cK_) (x0.take mx)) := ⟨by rw [← hbk]; exact RK.out⟩
  have RO : Aside0 (Kd.R (Kd.int .u8) 5 w15 w12.heap.size (fun k => True ∧ some k ≠ (Value.slice X mx cX).ownBlock) (.slice O_ mt cO_) (xorL x0 (xorL x1 x2))) := ⟨by rw [← xorL_assoc]; exact RO.out⟩
  have hlx := (R_C RX.out).2.2
  clear hbk
  generalize hz : xorL x0 (xorL x1 x2) = z at RO RW
  clear hz
  go_loopw [15] (fun v15 wr => ∃ (i : Nat) (xs : List Int), i ≤ mx ∧ v15 = .int .i64 i ∧ Aside0 (xs.length = mx ∧ Kd.R (Kd.int .u8) 5 wr w6.heap.size (fun _ => True) (.slice X mx cX) xs ∧
      Kd.R (Kd.int .u8) 5 wr w2.heap.size (fun k => True ∧ some k ≠ (Value.slice X mx cX).ownBlock) (.slice D0 n0 d0) x0 ∧ Kd.R (Kd.int .u8) 5 wr w4.heap.size (fun k => True ∧ some k ≠ (Value.slice X mx cX).ownBlock) (.slice D1 n1 d1) x1 ∧
      Kd.R (Kd.int .u8) 5 wr w10.heap.size (fun k => True ∧ some k ≠ (Value.slice X mx cX).ownBlock) (.slice K_ mx cK_) (x0.take mx) ∧ Kd.R (Kd.int .u8) 5 wr w12.heap.size (fun k => True ∧ some k ≠ (Value.slice X mx cX).ownBlock) (.slice O_ mt cO_) z ∧
      Kd.R (Kd.int .u8) 5 wr w14.heap.size (fun k => True ∧ some k ≠ (Value.slice X mx cX).ownBlock) (.slice W_ mt cW_) z ∧ Below w.heap.size w wr)) (fun v15 _ => mx - (intOf v15).toNat)
  case atStart => exact ⟨0, _, by omega, rfl, ⟨hlx, RX.out, R0.out, R1.out, RK.out, RO.out, RW.out, B15.out⟩⟩
  case round =>
    obtain ⟨i, xs, hi, rfl, HR⟩ := hrel
    by_cases hlt : i < mx
    · obtain ⟨hx, hr, h0, h1, hk, ho, hw, hb⟩ := HR.out
      obtain ⟨g, cap, e8, hg1, hg2, cells, hg3⟩ := Kd.R_form hr (by omega)
      injection e8 with ea en ec
      subst ea
      have hok : ∀ k, (True ∧ some k ≠ (Value.slice (some ⟨g, 0, none⟩) mx cX).ownBlock) → k ≠ (⟨g, i, none⟩ : Addr).block := fun k hk e => hk.2 (by rw [show k = g from e]; rfl)
      have hd1 : decide ((i : Int) < (mx : Int)) = true := decide_eq_true (by omega)
      have hc := Kd.R_celln (0 : Int) hr (i : Int) (by omega) (by omega)
      rw [Int.toNat_natCast] at hc
      have hc1 := hc.1
      have hc2 := hc.2
      have hp := Kd.R_putn hr (i : Int) 63
      rw [Int.toNat_natCast] at hp
      have hg6 : w.heap.size ≤ g := Nat.le_trans B6.out.size hg1
      have HP := Aside0.mk (And.intro (show (xs.set i 63).length = mx by rw [List.length_set, hx]) (And.intro hp (And.intro (Kd.R_far h0 hok (.int .u8 63)) (And.intro (Kd.R_far h1 hok (.int .u8 63)) (And.intro (Kd.R_far hk hok (.int .u8 63)) (And.intro (Kd.R_far ho hok (.int .u8 63)) (And.intro (Kd.R_far hw hok (.int .u8 63)) (below_set hb hg6 (j := i) (v := .int .u8 63)))))))))
      clear hx hr h0 h1 hk ho hw hb hg1 hg2 hg3 hc hp HR en ec hok hg6
      go_wp2_with fail
      go_roundw
      case rel => exact ⟨i + 1, xs.set i 63, by omega, by go_num, HP⟩
      case measure => simp [intOf]; omega
    · obtain rfl : i = mx := by omega
      have hd1 : decide ((i : Int) < (i : Int)) = false := by simp
      obtain ⟨hx, hr, h0, h1, hk, ho, hw, hb⟩ := HR.out
      have f1 := fun m => str_of_R (Kd.R_drewN hk m)
      have f2 := fun m => str_of_R (Kd.R_drewN ho m)
      have f3 := fun m => str_of_R (Kd.R_drewN hw m)
      have f4 := fun m => str_of_R (Kd.R_drewN h0 m)
      have f5 := fun m => str_of_R (Kd.R_drewN h1 m)
      have hsz := strOfNums_size x0
      rw [N0.out] at hsz
      have hex := strOfNums_take x0 i
      have hle : (i : Int) ≤ (n0 : Int) := by omega
      have HB := Aside0.mk hb
      clear hx hr h0 h1 hk ho hw hb HR
      go_wp2_with fail
      go_quiet (fail)
      go_wp2
      go_ret
      exact ⟨rfl, pw_below_drewN HB.out _⟩
end Go.Proofs.YtlpfmehcghhdcaaDoor.XB
