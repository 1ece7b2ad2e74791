/- Words are loaded from bytes, the lowest first: the Go code comes to the plain function 'word4' of each four; no condition but that the numbers are bytes and the blocks differ. -/
import Derived.Test.YtlpfmehcghhdcaaDoorM2
namespace Go.Proofs.YtlpfmehcghhdcaaDoor.XB
open Go.RowKit Go.Proofs.YtlpfmehcghhdcaaDoorW.PrintWords Go.Proofs.YtlpfmehcghhdcaaDoorW.PrintLast Go.Proofs.YtlpfmehcghhdcaaDoorW.PrintMore PChachaTells
set_option linter.unusedVariables false
set_option linter.unusedSimpArgs false

def byte (K : Array Value) (i : Nat) : Int := match K[i]? with | some (.int _ n) => n | _ => 0
def word4 (K : Array Value) (i : Nat) : Int := byte K (4 * i) + byte K (4 * i + 1) * 256 + byte K (4 * i + 2) * 65536 + byte K (4 * i + 3) * 16777216
def Bytes (K : Array Value) (n : Nat) : Prop := K.size = n ∧ ∀ i, i < n → K[i]? = some (.int .u8 (byte K i)) ∧ 0 ≤ byte K i ∧ byte K i ≤ 255
def LoadRel (b0 : Nat) (C : Array Value) (K : Array Value) (at_ m : Nat) (w w' : World) : Prop :=
  ∃ C' : Array Value, w'.heap[b0]? = some (.cells C' 43 (0, 0)) ∧ C'.size = 16 ∧ (∀ j, j < m → C'[at_ + j]? = some (.int .u32 (word4 K j))) ∧ (∀ j, j < at_ ∨ at_ + m ≤ j → C'[j]? = C[j]?) ∧ Fr b0 w w'

theorem or_low (i : Nat) (hi : i ≤ 32) (lo hi_ : Int) (h0 : 0 ≤ lo) (h1 : lo < 2 ^ i) (h2 : 0 ≤ hi_) (h3 : hi_ % 2 ^ i = 0) (h4 : hi_ < 4294967296) (h5 : lo < 4294967296) : Go.bits .or .u32 lo hi_ = lo + hi_ := by
  have e : Go.bits .or .u32 lo hi_ = Go.bits .or .u32 hi_ lo := by
    show IntKind.u32.wrap (((BitVec.ofInt 32 lo) ||| (BitVec.ofInt 32 hi_)).toNat : Int) = IntKind.u32.wrap (((BitVec.ofInt 32 hi_) ||| (BitVec.ofInt 32 lo)).toNat : Int)
    rw [BitVec.or_comm]
  rw [e, bits_join .u32 32 (by decide) (fun n a b => by rw [IntKind.wrap_u32]; omega) i hi_ lo h2 h3 h4 h0 h1 h5, Int.add_comm]

theorem or4 {x0 x1 x2 x3 : Int} (b0 : 0 ≤ x0 ∧ x0 ≤ 255) (b1 : 0 ≤ x1 ∧ x1 ≤ 255) (b2 : 0 ≤ x2 ∧ x2 ≤ 255) (b3 : 0 ≤ x3 ∧ x3 ≤ 255) :
    Go.bits .or .u32 x0 (x1 * 256) = x0 + x1 * 256 ∧ Go.bits .or .u32 (x0 + x1 * 256) (x2 * 65536) = x0 + x1 * 256 + x2 * 65536 ∧ Go.bits .or .u32 (x0 + x1 * 256 + x2 * 65536) (x3 * 16777216) = x0 + x1 * 256 + x2 * 65536 + x3 * 16777216 :=
  ⟨or_low 8 (by decide) _ _ (by omega) (by omega) (by omega) (by omega) (by omega) (by omega), or_low 16 (by decide) _ _ (by omega) (by omega) (by omega) (by omega) (by omega) (by omega), or_low 24 (by decide) _ _ (by omega) (by omega) (by omega) (by omega) (by omega) (by omega)⟩

theorem loadRel_step {b0 : Nat} {C K : Array Value} {at_ k : Nat} {w wr w1 : World} {C' : Array Value} (hb : wr.heap[b0]? = some (.cells C' 43 (0, 0))) (hz : C'.size = 16) (hw : ∀ j, j < k → C'[at_ + j]? = some (.int .u32 (word4 K j)))
    (ho : ∀ j, j < at_ ∨ at_ + k ≤ j → C'[j]? = C[j]?) (fr : Fr b0 w wr) (hat : at_ + k < 16) (e : w1 = wr.drew) : LoadRel b0 C K at_ (k + 1) w (w1.setCell ⟨b0, at_ + k, none⟩ (.int .u32 (word4 K k))) := by
  subst e
  refine ⟨C'.setIfInBounds (at_ + k) (.int .u32 (word4 K k)), blk_put (w := wr.drew) hb _ _ rfl, by simpa using hz, fun j hj => ?_, fun j hj => ?_, fr.drew.set _ _⟩
  · by_cases h : j = k
    · subst h; exact set_same hz hat
    · rw [set_other (by omega)]; exact hw j (by omega)
  · rw [set_other (by omega)]; exact ho j (by omega)

set_option maxHeartbeats 4000000 in
set_option maxRecDepth 100000 in
theorem load8 (b0 kb t : Nat) (C K : Array Value) (w : World)
    (hb : w.heap[b0]? = some (.cells C 43 (0, 0))) (hz : C.size = 16) (hk : w.heap[kb]? = some (.cells K t (0, 0))) (hne : kb ≠ b0) (hK : Bytes K 32) :
    Calls Tryd.prog 17 #[.pointer (some ⟨b0, 0, none⟩), .int .i64 4, .slice (some ⟨kb, 0, none⟩) 32 32] w fun e w' => e = .returned (.tuple #[]) ∧ LoadRel b0 C K 4 8 w w' := by
  have HB := Aside0.mk hb
  have HK := Aside0.mk hk
  have KB := Aside0.mk hK
  have Z := Aside0.mk hz
  clear hb hk hK hz
  go_enter Tryd.func17, Tryd.ntmps17
  go_wp2_with fail
  go_loopw [11] (fun i wr => ∃ k : Nat, k ≤ 8 ∧ i = .int .i64 k ∧ Aside0 (LoadRel b0 C K 4 k w wr)) (fun i _ => 8 - (intOf i).toNat)
  case atStart => exact ⟨0, by omega, rfl, ⟨C, HB.out, Z.out, fun j hj => absurd hj (by omega), fun _ _ => rfl, Fr.refl _ _⟩⟩
  case round =>
    obtain ⟨k, hk8, rfl, HR⟩ := hrel
    by_cases hlt : k < 8
    · have h1 : (k : Int) < 8 := by omega
      obtain ⟨C', hb', hz', hw', ho', fr'⟩ := HR.out
      have HB' := Aside0.mk hb'
      obtain ⟨ov, hov⟩ : ∃ v, C'[4 + k]? = some v := ⟨_, Array.getElem?_eq_getElem (by omega)⟩
      have OV := Aside0.mk hov
      clear hov
      have HK' : Aside0 (wr.heap[kb]? = some (.cells K t (0, 0))) := ⟨(fr'.block kb (blk_lt HK.out) hne).trans HK.out⟩
      have HS : Aside0 (∀ w1 : World, w1 = wr.drew → LoadRel b0 C K 4 (k + 1) w (w1.setCell ⟨b0, 4 + k, none⟩ (.int .u32 (word4 K k)))) := ⟨fun w1 e => loadRel_step hb' hz' hw' ho' fr' (by omega) e⟩
      clear hb' hz' hw' ho' fr' HR
      obtain ⟨x0, hx0⟩ : ∃ x, byte K (4 * k) = x := ⟨_, rfl⟩
      obtain ⟨x1, hx1⟩ : ∃ x, byte K (4 * k + 1) = x := ⟨_, rfl⟩
      obtain ⟨x2, hx2⟩ : ∃ x, byte K (4 * k + 2) = x := ⟨_, rfl⟩
      obtain ⟨x3, hx3⟩ : ∃ x, byte K (4 * k + 3) = x := ⟨_, rfl⟩
      have k0 := KB.out.2 (4 * k) (by omega)
      have k1 := KB.out.2 (4 * k + 1) (by omega)
      have k2 := KB.out.2 (4 * k + 2) (by omega)
      have k3 := KB.out.2 (4 * k + 3) (by omega)
      have hwd : word4 K k = x0 + x1 * 256 + x2 * 65536 + x3 * 16777216 := by unfold word4; rw [hx0, hx1, hx2, hx3]
      rw [hx0] at k0; rw [hx1] at k1; rw [hx2] at k2; rw [hx3] at k3
      rw [hwd] at HS
      have HWD := Aside0.mk hwd
      clear hx0 hx1 hx2 hx3 hwd
      have b0' := k0.2
      have b1' := k1.2
      have b2' := k2.2
      have b3' := k3.2
      have c0 : wr.cell? ⟨kb, 4 * k, none⟩ = some (.int .u8 x0) := (blk_cell HK'.out _).trans k0.1
      have c1 : wr.cell? ⟨kb, 4 * k + 1, none⟩ = some (.int .u8 x1) := (blk_cell HK'.out _).trans k1.1
      have c2 : wr.cell? ⟨kb, 4 * k + 2, none⟩ = some (.int .u8 x2) := (blk_cell HK'.out _).trans k2.1
      have c3 : wr.cell? ⟨kb, 4 * k + 3, none⟩ = some (.int .u8 x3) := (blk_cell HK'.out _).trans k3.1
      have fb : wr.frozen? ⟨b0, 4 + k, none⟩ = false := blk_frozen HB'.out _
      clear k0 k1 k2 k3
      obtain ⟨o1, o2, o3⟩ := or4 b0' b1' b2' b3'
      have l0 : 0 < 32 - 4 * k := by omega
      have l1 : (1 : Int) < ((32 - 4 * k : Nat) : Int) := by omega
      have l2 : (2 : Int) < ((32 - 4 * k : Nat) : Int) := by omega
      have l3 : (3 : Int) < ((32 - 4 * k : Nat) : Int) := by omega
      have s1 : IntKind.u32.wrap (x1 * 256) = x1 * 256 := by rw [IntKind.wrap_u32]; omega
      have s2 : IntKind.u32.wrap (x2 * 65536) = x2 * 65536 := by rw [IntKind.wrap_u32]; omega
      have s3 : IntKind.u32.wrap (x3 * 16777216) = x3 * 16777216 := by rw [IntKind.wrap_u32]; omega
      have a1 : IntKind.i64.wrap (4 + (k : Int)) = 4 + (k : Int) := IntWalk.i64_in _ (by omega)
      have a2 : (4 + (k : Int)).toNat = 4 + k := by omega
      have a3 : 0 ≤ 4 + (k : Int) := by omega
      have a4 : 4 + (k : Int) < 16 := by omega
      go_wp2_with fail
      refine wp_region_still_tail 28 (by kernel_rfl) (by kernel_rfl) ?_
      simp only [List.take_succ_cons, List.take_zero, List.drop_succ_cons, List.drop_zero]
      iterate 28 still_step
      refine wpStill_nil ?_
      change wpList _ _ _ _ _ wr.drew
      obtain ⟨w1, hW⟩ : ∃ w_ : World, w_ = wr.drew := ⟨_, rfl⟩
      rw [← hW]
      have HS0 := HS.out w1 hW
      rw [← o3, ← o2, ← o1] at HS0
      have HS' := Aside0.mk HS0
      clear HS0
      have HB1 : Aside0 (w1.heap[b0]? = some (.cells C' 43 (0, 0))) := ⟨by rw [hW]; exact HB'.out⟩
      clear HS hW c0 c1 c2 c3 fb o1 o2 o3 s1 s2 s3 l0 l1 l2 l3
      have cs : w1.cell? ⟨b0, 4 + k, none⟩ = some ov := (blk_cell HB1.out _).trans OV.out
      have fs : w1.frozen? ⟨b0, 4 + k, none⟩ = false := blk_frozen HB1.out _
      go_wp2_with fail
      go_roundw
      case rel => exact ⟨k + 1, by omega, by go_num, HS'⟩
      case measure => simp [intOf]; omega
    · obtain rfl : k = 8 := by omega
      go_wp2_with fail
      go_end0
      exact ⟨rfl, HR.out⟩

set_option maxHeartbeats 4000000 in
set_option maxRecDepth 100000 in
theorem load3 (b0 kb t : Nat) (C K : Array Value) (w : World)
    (hb : w.heap[b0]? = some (.cells C 43 (0, 0))) (hz : C.size = 16) (hk : w.heap[kb]? = some (.cells K t (0, 0))) (hne : kb ≠ b0) (hK : Bytes K 12) :
    Calls Tryd.prog 17 #[.pointer (some ⟨b0, 0, none⟩), .int .i64 13, .slice (some ⟨kb, 0, none⟩) 12 12] w fun e w' => e = .returned (.tuple #[]) ∧ LoadRel b0 C K 13 3 w w' := by
  have HB := Aside0.mk hb
  have HK := Aside0.mk hk
  have KB := Aside0.mk hK
  have Z := Aside0.mk hz
  clear hb hk hK hz
  go_enter Tryd.func17, Tryd.ntmps17
  go_wp2_with fail
  go_loopw [11] (fun i wr => ∃ k : Nat, k ≤ 3 ∧ i = .int .i64 k ∧ Aside0 (LoadRel b0 C K 13 k w wr)) (fun i _ => 3 - (intOf i).toNat)
  case atStart => exact ⟨0, by omega, rfl, ⟨C, HB.out, Z.out, fun j hj => absurd hj (by omega), fun _ _ => rfl, Fr.refl _ _⟩⟩
  case round =>
    obtain ⟨k, hk8, rfl, HR⟩ := hrel
    by_cases hlt : k < 3
    · have h1 : (k : Int) < 3 := by omega
      obtain ⟨C', hb', hz', hw', ho', fr'⟩ := HR.out
      have HB' := Aside0.mk hb'
      obtain ⟨ov, hov⟩ : ∃ v, C'[13 + k]? = some v := ⟨_, Array.getElem?_eq_getElem (by omega)⟩
      have OV := Aside0.mk hov
      clear hov
      have HK' : Aside0 (wr.heap[kb]? = some (.cells K t (0, 0))) := ⟨(fr'.block kb (blk_lt HK.out) hne).trans HK.out⟩
      have HS : Aside0 (∀ w1 : World, w1 = wr.drew → LoadRel b0 C K 13 (k + 1) w (w1.setCell ⟨b0, 13 + k, none⟩ (.int .u32 (word4 K k)))) := ⟨fun w1 e => loadRel_step hb' hz' hw' ho' fr' (by omega) e⟩
      clear hb' hz' hw' ho' fr' HR
      obtain ⟨x0, hx0⟩ : ∃ x, byte K (4 * k) = x := ⟨_, rfl⟩
      obtain ⟨x1, hx1⟩ : ∃ x, byte K (4 * k + 1) = x := ⟨_, rfl⟩
      obtain ⟨x2, hx2⟩ : ∃ x, byte K (4 * k + 2) = x := ⟨_, rfl⟩
      obtain ⟨x3, hx3⟩ : ∃ x, byte K (4 * k + 3) = x := ⟨_, rfl⟩
      have k0 := KB.out.2 (4 * k) (by omega)
      have k1 := KB.out.2 (4 * k + 1) (by omega)
      have k2 := KB.out.2 (4 * k + 2) (by omega)
      have k3 := KB.out.2 (4 * k + 3) (by omega)
      have hwd : word4 K k = x0 + x1 * 256 + x2 * 65536 + x3 * 16777216 := by unfold word4; rw [hx0, hx1, hx2, hx3]
      rw [hx0] at k0; rw [hx1] at k1; rw [hx2] at k2; rw [hx3] at k3
      rw [hwd] at HS
      have HWD := Aside0.mk hwd
      clear hx0 hx1 hx2 hx3 hwd
      have b0' := k0.2
      have b1' := k1.2
      have b2' := k2.2
      have b3' := k3.2
      have c0 : wr.cell? ⟨kb, 4 * k, none⟩ = some (.int .u8 x0) := (blk_cell HK'.out _).trans k0.1
      have c1 : wr.cell? ⟨kb, 4 * k + 1, none⟩ = some (.int .u8 x1) := (blk_cell HK'.out _).trans k1.1
      have c2 : wr.cell? ⟨kb, 4 * k + 2, none⟩ = some (.int .u8 x2) := (blk_cell HK'.out _).trans k2.1
      have c3 : wr.cell? ⟨kb, 4 * k + 3, none⟩ = some (.int .u8 x3) := (blk_cell HK'.out _).trans k3.1
      have fb : wr.frozen? ⟨b0, 13 + k, none⟩ = false := blk_frozen HB'.out _
      clear k0 k1 k2 k3
      obtain ⟨o1, o2, o3⟩ := or4 b0' b1' b2' b3'
      have l0 : 0 < 12 - 4 * k := by omega
      have l1 : (1 : Int) < ((12 - 4 * k : Nat) : Int) := by omega
      have l2 : (2 : Int) < ((12 - 4 * k : Nat) : Int) := by omega
      have l3 : (3 : Int) < ((12 - 4 * k : Nat) : Int) := by omega
      have s1 : IntKind.u32.wrap (x1 * 256) = x1 * 256 := by rw [IntKind.wrap_u32]; omega
      have s2 : IntKind.u32.wrap (x2 * 65536) = x2 * 65536 := by rw [IntKind.wrap_u32]; omega
      have s3 : IntKind.u32.wrap (x3 * 16777216) = x3 * 16777216 := by rw [IntKind.wrap_u32]; omega
      have a1 : IntKind.i64.wrap (13 + (k : Int)) = 13 + (k : Int) := IntWalk.i64_in _ (by omega)
      have a2 : (13 + (k : Int)).toNat = 13 + k := by omega
      have a3 : 0 ≤ 13 + (k : Int) := by omega
      have a4 : 13 + (k : Int) < 16 := by omega
      go_wp2_with fail
      refine wp_region_still_tail 28 (by kernel_rfl) (by kernel_rfl) ?_
      simp only [List.take_succ_cons, List.take_zero, List.drop_succ_cons, List.drop_zero]
      iterate 28 still_step
      refine wpStill_nil ?_
      change wpList _ _ _ _ _ wr.drew
      obtain ⟨w1, hW⟩ : ∃ w_ : World, w_ = wr.drew := ⟨_, rfl⟩
      rw [← hW]
      have HS0 := HS.out w1 hW
      rw [← o3, ← o2, ← o1] at HS0
      have HS' := Aside0.mk HS0
      clear HS0
      have HB1 : Aside0 (w1.heap[b0]? = some (.cells C' 43 (0, 0))) := ⟨by rw [hW]; exact HB'.out⟩
      clear HS hW c0 c1 c2 c3 fb o1 o2 o3 s1 s2 s3 l0 l1 l2 l3
      have cs : w1.cell? ⟨b0, 13 + k, none⟩ = some ov := (blk_cell HB1.out _).trans OV.out
      have fs : w1.frozen? ⟨b0, 13 + k, none⟩ = false := blk_frozen HB1.out _
      go_wp2_with fail
      go_roundw
      case rel => exact ⟨k + 1, by omega, by go_num, HS'⟩
      case measure => simp [intOf]; omega
    · obtain rfl : k = 3 := by omega
      go_wp2_with fail
      go_end0
      exact ⟨rfl, HR.out⟩
end Go.Proofs.YtlpfmehcghhdcaaDoor.XB
