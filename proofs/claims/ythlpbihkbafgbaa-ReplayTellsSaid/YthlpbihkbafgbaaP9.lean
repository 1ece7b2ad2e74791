/- The counts of epochs that are over are struck: the library's DeleteFunc with the second closure. -/
import Derived.Test.YthlpbihkbafgbaaP8
namespace Go.Proofs.Ythlpbihkbafgbaa.RB
open Go Go.Maps Go.RowKit Go.BigFrame Go.Proofs.YthlpbihkbafgbaaW.PrintWords Go.Proofs.YthlpbihkbafgbaaW.PrintLast Go.Proofs.YthlpbihkbafgbaaW.PrintMore
set_option linter.unusedVariables false
set_option linter.unusedSimpArgs false

set_option maxHeartbeats 2000000 in
set_option maxRecDepth 100000 in
theorem drop_epochs (w : World) {B p bm n : Nat} {fl : Int} {S : List Ent} {M : DataW Unit} (hown : w.ownsMap Try.prog 28 (plainElem Try.prog 3) bm n M) (hr : RelM M fl (Maps.has M) S) (hb : w.cell? ⟨B, 0, none⟩ = some (.pointer (some ⟨p, 0, none⟩))) (h3 : w.cell? ⟨p, 3, none⟩ = some (.int .u32 fl)) :
    Calls Try.prog 22 #[.map (some bm), .func (.func 23) #[] #[.pointer (some ⟨B, 0, none⟩)]] w fun e_ w' => e_ = .returned (.tuple #[]) ∧ ∃ M' left, w'.ownsMap Try.prog 28 (plainElem Try.prog 3) bm n M' ∧ RelM M' fl left S ∧ (∀ kl, left kl = false) ∧ Off bm bm bm w w' := by
  have dB := ne_map hown hb
  have dp := ne_map hown h3
  have HB := Aside0.mk hb
  have H3 := Aside0.mk h3
  have DB := Aside0.mk dB
  have DP := Aside0.mk dp
  have HR := Aside0.mk hr
  clear hb h3 dB dp hr
  go_enter Try.func22, Try.ntmps22
  go_wp2_with (first | (at_range; refine wpList_range_own _ rfl _ 46 rfl 28 3 law28 Try.underlying46 _ bm n _ rfl hown ?_; intro w0 hrg0 hg0 hs0) | go_in)
  have hs0 := Aside0.mk hs0
  go_loopw [4, 5] (fun _ _ wr => ∃ (left : Lit → Bool) (cnt : Nat) (Mk : DataW Unit), wr.ranges Try.prog 28 (plainElem Try.prog 3) bm w.heap.size n Mk left cnt ∧ RelM Mk fl left S ∧ Off bm bm bm w wr)
    (fun _ _ wr => wr.rangeLeft bm w.heap.size)
  case atStart => exact ⟨_, _, _, hrg0, HR.out, (Off.refl _ _ _ _).grown (hg0.but (some bm)) (Or.inl rfl)⟩
  case round =>
    obtain ⟨left, cnt, Mk, hrg, hk, ho⟩ := hrel
    have HK := Aside0.mk hk
    have HO := Aside0.mk ho
    have HN := Aside0.mk hrg
    clear hs0 hg0 hk ho hrg0 hown
    go_wp2_with (first | (at_next; refine wpList_next_ranges_ii _ rfl _ rfl 28 3 .u32 .i64 law28 Try.underlying28 Try.underlying3 bm w.heap.size n _ _ _ rfl hrg ?dn ?mr; rotate_left; intro x c w1 cnt1 hwx hwc hlk hat hrg1 hlt hg1 hs1 hen; have HG1 := Aside0.mk hrg1; have HLT := Aside0.mk hlt; have HW := Aside0.mk hwx; have HO1 : Aside0 (Off bm bm bm w w1) := ⟨HO.out.grown hg1 (Or.inr (Or.inr (Or.inr (Nat.le_refl _))))⟩; have CB : Aside0 (w1.cell? ⟨B, 0, none⟩ = some (.pointer (some ⟨p, 0, none⟩))) := ⟨cell_off HO1.out HB.out ⟨DB.out, DB.out, DB.out⟩⟩; have C3 : Aside0 (w1.cell? ⟨p, 3, none⟩ = some (.int .u32 fl)) := ⟨cell_off HO1.out H3.out ⟨DP.out, DP.out, DP.out⟩⟩; clear hrg1 hlt hg1 hs1 hrg hlk hwx hwc hat; rotate_left; intro hc0 hl0; have HL0 := Aside0.mk hl0; clear hl0 hc0) | (go_at_call 23; (with_reducible refine (old_epoch w1 B p fl x c CB.out C3.out).mono ?_); rintro e_ _ ⟨rfl, rfl⟩) | (at_delete; refine wpList_delete_ranges _ rfl _ _ 46 28 rfl 3 law28 Try.underlying46 _ bm w.heap.size n _ _ _ rfl HG1.out _ _ rfl (keyOf_int_mk Try.underlying28 HW.out) ?_; intro w3 cnt2 hrg2 hle hturn; go_frame))
    · go_end0
      exact ⟨rfl, Mk, left, HN.out.owns, HK.out, HL0.out, HO.out⟩
    · rw [Maps.strike_twice] at hrg2
      refine ⟨⟨_, cnt2, _, hrg2, relM_struck HK.out (by omega), ?_⟩, ?_⟩
      · exact (HO1.out.grown hturn.grown (Or.inl rfl))
      · rw [hrg2.left_eq, HN.out.left_eq]; have := HLT.out; omega
    · refine ⟨⟨_, cnt1, _, HG1.out, relM_stays HK.out (by omega), HO1.out⟩, ?_⟩
      rw [HG1.out.left_eq, HN.out.left_eq]; exact HLT.out
end Go.Proofs.Ythlpbihkbafgbaa.RB
