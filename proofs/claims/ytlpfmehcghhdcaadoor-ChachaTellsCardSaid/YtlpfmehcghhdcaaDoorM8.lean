/- Xor's printed function is the plain 'xorL', and its contract said with it; what must be in any case ('shown') is so. -/
import Derived.Test.YtlpfmehcghhdcaaDoorM7
import Derived.Lib.SmallJoins
namespace Go.Proofs.YtlpfmehcghhdcaaDoor.XB
open Go.RowKit Go.Proofs.YtlpfmehcghhdcaaDoorW.PrintWords Go.Proofs.YtlpfmehcghhdcaaDoorW.PrintLast Go.Proofs.YtlpfmehcghhdcaaDoorW.PrintMore PChachaTells
set_option linter.unusedVariables false
set_option linter.unusedSimpArgs false
variable {T : Nat × Nat × Nat}

def xorL (l0 l1 : List Int) : List Int := List.zipWith (Go.bits .xor .u8) l0 l1
theorem xorL_len (l0 l1 : List Int) : (xorL l0 l1).length = min l0.length l1.length := by simp [xorL]
theorem xorL_get (l0 l1 : List Int) (i : Nat) (h0 : i < l0.length) (h1 : i < l1.length) : (xorL l0 l1)[i]? = some (Go.bits .xor .u8 (l0.getD i 0) (l1.getD i 0)) := by
  simp [xorL, List.getElem?_zipWith, List.getD, List.getElem?_eq_getElem h0, List.getElem?_eq_getElem h1]
theorem set_step {X : List Int} {i d : Nat} (hi : i < X.length) : (X.take i ++ List.replicate (d + 1) 0).set i (X.getD i 0) = X.take (i + 1) ++ List.replicate d 0 := by
  rw [List.set_append_right _ _ (by simp; omega)]
  rw [List.length_take, Nat.min_eq_left (by omega), Nat.sub_self, List.replicate_succ, List.set_cons_zero]
  have hg : X.getD i 0 = X[i] := by simp [List.getD, List.getElem?_eq_getElem hi]
  rw [List.take_add_one, List.getElem?_eq_getElem hi, hg]
  simp only [Option.toList_some, List.append_assoc, List.cons_append, List.nil_append]
theorem xor_l0 (l0 l1 : List Int) (hb : l0.length ≤ 1000000) : ∀ d i : Nat, i + d = min l0.length l1.length →
    chacha_Xor.l0 (d + 1) l0 l1 ((xorL l0 l1).take i ++ List.replicate d 0) ((min l0.length l1.length : Nat) : Int) (i : Int) = some (xorL l0 l1) := by
  intro d
  induction d with
  | zero =>
    intro i hi
    unfold chacha_Xor.l0
    rw [if_neg (by omega)]
    rw [List.take_of_length_le (by rw [xorL_len]; omega)]; simp
  | succ d ih =>
    intro i hi
    unfold chacha_Xor.l0
    rw [if_pos (by omega), if_pos (by omega), if_pos (by omega), if_pos (by omega), if_pos (by simp [xorL_len]; omega)]
    have hx : Go.bits .xor .u8 (rd l0 (i : Int)) (rd l1 (i : Int)) = (xorL l0 l1).getD i 0 := by
      rw [List.getD_eq_getElem?_getD, xorL_get l0 l1 i (by omega) (by omega)]; rfl
    rw [hx, Int.toNat_natCast, set_step (by rw [xorL_len]; omega)]
    have := ih (i + 1) (by omega)
    have e : wrap64 ((i : Int) + 1) = ((i + 1 : Nat) : Int) := by
      have e1 : wrap64 ((i : Int) + 1) = (i : Int) + 1 := IntWalk.wrap64_in _ (by omega)
      exact e1.trans (by omega)
    rw [e]
    exact this
theorem xor_f (l0 l1 : List Int) (hb : l0.length ≤ 1000000) : chacha_Xor.f (min l0.length l1.length + 1) l0 l1 = some (xorL l0 l1) := by
  have hm : mn (l0.length : Int) (l1.length : Int) = ((min l0.length l1.length : Nat) : Int) := by unfold mn; split <;> omega
  unfold chacha_Xor.f
  rw [hm, if_pos (by omega), Int.toNat_natCast, if_pos (by omega)]
  have := xor_l0 l0 l1 hb (min l0.length l1.length) 0 (by omega)
  simpa using this

theorem xor_any (A0 : Option Addr) (c0 : Nat) (l0 : List Int) (A1 : Option Addr) (c1 : Nat) (l1 : List Int) (w : World) (hr0 : (Kd.int .u8).C w A0 l0.length l0) (hc0 : l0.length ≤ c0) (hr1 : (Kd.int .u8).C w A1 l1.length l1) (hc1 : l1.length ≤ c1) (hb : l0.length ≤ 1000000) :
    Calls Tryd.prog 13 #[.slice A0 l0.length c0, .slice A1 l1.length c1] w fun e w' => ∃ v0_ : Value, e = .returned v0_ ∧ Kd.R (Kd.int .u8) 5 w' w.heap.size (fun _ => True) v0_ (xorL l0 l1) ∧ Below w.heap.size w w' :=
  chacha_Xor.calls _ A0 c0 l0 A1 c1 l1 _ w hr0 hc0 hr1 hc1 (xor_f l0 l1 hb)
theorem keyL_step (i : Nat) (hi : i < 32) : (toB (keyL i)).setIfInBounds i (.int .u8 (i : Int)) = toB (keyL (i + 1)) := by
  refine ext16 (n := 32) (by simp [toB, keyL]) (by simp [toB, keyL]) fun j hj => ?_
  by_cases h : j = i
  · subst h
    rw [Array.getElem?_setIfInBounds]; simp [toB, keyL, hi]
  · rw [set_other (by omega)]
    simp only [toB_get, keyL, List.getElem?_map, List.getElem?_range hj, Option.map_some]
    by_cases h2 : j < i
    · rw [if_pos h2, if_pos (by omega)]
    · rw [if_neg h2, if_neg (by omega)]

theorem str_of_block {w : World} {g t : Nat} {L : List Int} (h : w.heap[g]? = some (.cells (toB L) t (0, 0))) (o m c : Nat) (hl : o + m ≤ L.length) (hm : m ≤ 1000000) :
    (convert 26 9 (.slice (some ⟨g, o, none⟩) m c)).run Tryd.prog w = .ok (.string (strOfNums ((L.drop o).take m))) w :=
  Kd.C_string Tryd.underlying26 Tryd.underlying5 Tryd.underlying9 (C_block h o m hl hm)

theorem C_blockF {w : World} {g t : Nat} {fr : Nat × Nat} {L : List Int} (h : w.heap[g]? = some (.cells (toB L) t fr)) (o m : Nat) (hl : o + m ≤ L.length) (hm : m ≤ 1000000) :
    (Kd.int .u8).C w (some ⟨g, o, none⟩) m ((L.drop o).take m) := by
  refine ⟨by simp; omega, by omega, fun _ => ⟨_, rfl, fun j p hj => ⟨[.int .u8 p], rfl, rfl, fun i u hu => ?_⟩⟩⟩
  rcases i with _ | i
  · obtain rfl : Value.int .u8 p = u := by simpa using hu
    show w.cell? ((⟨g, o, none⟩ : Addr).add (j * 1 + 0)) = _
    rw [add_at, show o + (j * 1 + 0) = o + j by omega, cell_of_row w g _ _ t fr h, toB_get]
    rw [List.getElem?_take, List.getElem?_drop] at hj
    split at hj
    · rw [hj]; rfl
    · cases hj
  · simp at hu
theorem xor_ab (w : World) (g : Nat) (hg : w.heap.size = g) :
    Calls Tryd.prog 13 #[.slice (some ⟨g, 0, none⟩) 3 3, .slice (some ⟨g + 1, 0, none⟩) 2 2] ((w.alloc (.cells #[.int .u8 97, .int .u8 98, .int .u8 99] 5 (3, 4))).alloc (.cells #[.int .u8 32, .int .u8 32] 5 (2, 3)))
      fun e w' => ∃ A c, e = .returned (.slice A 2 c) ∧ (convert 26 9 (.slice A 2 c)).run Tryd.prog w' = .ok (.string ⟨#[65, 66]⟩) w' ∧ Below ((w.alloc (.cells #[.int .u8 97, .int .u8 98, .int .u8 99] 5 (3, 4))).alloc (.cells #[.int .u8 32, .int .u8 32] 5 (2, 3))).heap.size ((w.alloc (.cells #[.int .u8 97, .int .u8 98, .int .u8 99] 5 (3, 4))).alloc (.cells #[.int .u8 32, .int .u8 32] 5 (2, 3))) w' := by
  subst hg
  have h1 := blk_alloc (blk_new w (.cells (toB [97, 98, 99]) 5 (3, 4))) (.cells (toB [32, 32]) 5 (2, 3))
  have h2 := blk_new (w.alloc (.cells (toB [97, 98, 99]) 5 (3, 4))) (.cells (toB [32, 32]) 5 (2, 3))
  rw [sz_alloc] at h2
  refine (xor_any _ 3 [97, 98, 99] _ 2 [32, 32] _ (C_blockF h1 0 3 (by decide) (by decide)) (by decide) (C_blockF h2 0 2 (by decide) (by decide)) (by decide) (by decide)).mono ?_
  rintro e w' ⟨v, rfl, hR, hB⟩
  obtain ⟨A, c, e7⟩ := Kd.R_slice hR
  have hl : (xorL [97, 98, 99] [32, 32]).length = 2 := by decide
  have hx : xorL [97, 98, 99] [32, 32] = [65, 66] := by decide
  rw [hx] at hR
  rw [hl] at e7
  subst e7
  refine ⟨A, c, rfl, ?_, hB⟩
  have := Kd.C_string (P := Tryd.prog) (c := c) Tryd.underlying26 Tryd.underlying5 Tryd.underlying9 (Kd.R_reads' hR).2.2
  rw [show strOfNums [65, 66] = ⟨#[65, 66]⟩ by kernel_rfl] at this
  exact this

set_option maxHeartbeats 4000000 in
set_option maxRecDepth 100000 in
theorem shown_any (w : World) (hv : Vars T w) : Calls Tryd.prog 10 #[] w fun e w' => e = .returned (.bool true) ∧ Below w.heap.size w w' := by
  have HG := Aside0.mk hv
  clear hv
  go_enter Tryd.func10, Tryd.ntmps10
  go_wp2_with fail
  obtain ⟨w1, hW⟩ : ∃ w_ : World, w_ = w.alloc (.cells #[.int .u8 0, .int .u8 0, .int .u8 0, .int .u8 0, .int .u8 0, .int .u8 0, .int .u8 0, .int .u8 0, .int .u8 0, .int .u8 0, .int .u8 0, .int .u8 0, .int .u8 0, .int .u8 0, .int .u8 0, .int .u8 0, .int .u8 0, .int .u8 0, .int .u8 0, .int .u8 0, .int .u8 0, .int .u8 0, .int .u8 0, .int .u8 0, .int .u8 0, .int .u8 0, .int .u8 0, .int .u8 0, .int .u8 0, .int .u8 0, .int .u8 0, .int .u8 0] 23) := ⟨_, rfl⟩
  rw [← hW]
  have BE : Aside0 (Below w.heap.size w w1) := ⟨by rw [hW]; exact below_alloc (Below.refl _ _) _⟩
  have HK : Aside0 (w1.heap[w.heap.size]? = some (.cells (toB (keyL 0)) 23 (0, 0))) := ⟨by rw [hW]; exact blk_new _ _⟩
  clear hW
  generalize hkb : w.heap.size = kb at HK ⊢
  have GK : Aside0 (w.heap.size ≤ kb) := ⟨by omega⟩
  go_loopw [2] (fun v2 wr => ∃ i : Nat, i ≤ 32 ∧ v2 = .int .i64 i ∧ Aside0 (wr.heap[kb]? = some (.cells (toB (keyL i)) 23 (0, 0)) ∧ Below w.heap.size w wr)) (fun v2 _ => 32 - (intOf v2).toNat)
  case atStart => exact ⟨0, by omega, rfl, ⟨HK.out, BE.out⟩⟩
  case round =>
    obtain ⟨i, hi, rfl, HR⟩ := hrel
    by_cases hlt : i < 32
    · have h1 : (i : Int) < 32 := by omega
      have hu : IntKind.u8.wrap (i : Int) = (i : Int) := by rw [IntKind.wrap_u8]; omega
      have cs : wr.cell? ⟨kb, i, none⟩ = some (.int .u8 ((keyL i).getD i 0)) := (blk_cell HR.out.1 i).trans (toB_getD _ _ (by simp [keyL]; omega))
      have fs : wr.frozen? ⟨kb, i, none⟩ = false := blk_frozen HR.out.1 i
      go_wp2_with fail
      go_roundw
      case rel => exact ⟨i + 1, by omega, by go_num, ⟨blk_put HR.out.1 i _ (keyL_step i hlt), below_set HR.out.2 GK.out⟩⟩
      case measure => simp [intOf]; omega
    · obtain rfl : i = 32 := by omega
      have VA : Aside0 (Vars T wr) := ⟨HG.out.below HR.out.2 HG.out.size⟩
      have HB := block_any (toB (keyL 32)) #[.int .u8 0, .int .u8 0, .int .u8 0, .int .u8 9, .int .u8 0, .int .u8 0, .int .u8 0, .int .u8 74, .int .u8 0, .int .u8 0, .int .u8 0, .int .u8 0] 1 wr bytes_K0 bytes_V0 VA.out
      have e12 : blockL (toB (keyL 32)) 1 #[.int .u8 0, .int .u8 0, .int .u8 0, .int .u8 9, .int .u8 0, .int .u8 0, .int .u8 0, .int .u8 74, .int .u8 0, .int .u8 0, .int .u8 0, .int .u8 0] = s_out := s_block
      have e16 : strOfNums ((s_out.drop 0).take 16) = ⟨#[16, 241, 231, 228, 209, 59, 89, 21, 80, 15, 221, 31, 163, 32, 113, 196]⟩ := by kernel_rfl
      have e48 : strOfNums ((s_out.drop 48).take 16) = ⟨#[181, 18, 156, 209, 222, 22, 78, 185, 203, 208, 131, 232, 162, 80, 60, 78]⟩ := by kernel_rfl
      have BW := Aside0.mk HR.out.2
      rw [e12] at HB
      have HB := Aside0.mk HB
      have E12 := Aside0.mk e12
      have E16 := Aside0.mk e16
      have E48 := Aside0.mk e48
      clear e12 e16 e48
      go_wp2_with (first | (refine wpList_load_row rfl 23 _ rfl kb rfl 23 _ (0, 0) _ HR.out.1 Tryd.underlying23 rfl (by kernel_rfl) ?_) | (go_at_call 12; (with_reducible refine HB.out.mono ?_); rintro e w2 ⟨rfl, b2⟩; have HS := store_64 w2 (toB (keyL 32)) #[.int .u8 0, .int .u8 0, .int .u8 0, .int .u8 9, .int .u8 0, .int .u8 0, .int .u8 0, .int .u8 74, .int .u8 0, .int .u8 0, .int .u8 0, .int .u8 0] 1; rw [E12.out] at HS; have b2 := Aside0.mk b2; have hs1 := str_of_block (blk_new w2 (.cells (toB s_out) 29)) 0 16 64 (by decide) (by decide); have hs2 := str_of_block (blk_new w2 (.cells (toB s_out) 29)) 48 16 16 (by decide) (by decide); rw [E16.out] at hs1; rw [E48.out] at hs2; have cv1 := Go.Joins.run_convert_bytes_const_at (P := Tryd.prog) (w2.alloc (.cells (toB s_out) 29)) 26 5 #[.int .u8 97, .int .u8 98, .int .u8 99] 3 3 (w2.heap.size + 1) (by rw [sz_alloc]) Tryd.underlying26 Tryd.underlying5; have cv2 := Go.Joins.run_convert_bytes_const_at (P := Tryd.prog) ((w2.alloc (.cells (toB s_out) 29)).alloc (.cells #[.int .u8 97, .int .u8 98, .int .u8 99] 5 (3, 4))) 26 5 #[.int .u8 32, .int .u8 32] 2 2 (w2.heap.size + 1 + 1) (by rw [sz_alloc, sz_alloc]) Tryd.underlying26 Tryd.underlying5; have HX := Aside0.mk (xor_ab (w2.alloc (.cells (toB s_out) 29)) (w2.heap.size + 1) (sz_alloc _ _))) | (go_at_call 13; (with_reducible refine HX.out.mono ?_); rintro e w3 ⟨A, c, rfl, hs3, b3⟩; have b3 := Aside0.mk b3))
      go_ret
      exact ⟨rfl, below_then (below_alloc (below_alloc (below_alloc (below_then BW.out BW.out.size b2.out) _) _) _) (by simp only [sz_alloc]; have := BW.out.size; have := b2.out.size; omega) b3.out⟩
end Go.Proofs.YtlpfmehcghhdcaaDoor.XB
