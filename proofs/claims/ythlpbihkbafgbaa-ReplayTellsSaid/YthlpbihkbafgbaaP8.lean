/- The keys of epochs that are over are struck: the library's DeleteFunc with the first closure. -/
import Derived.Test.YthlpbihkbafgbaaP7
namespace Go.Proofs.Ythlpbihkbafgbaa.RB
open Go Go.Maps Go.RowKit Go.BigFrame Go.Proofs.YthlpbihkbafgbaaW.PrintWords Go.Proofs.YthlpbihkbafgbaaW.PrintLast Go.Proofs.YthlpbihkbafgbaaW.PrintMore
set_option linter.unusedVariables false
set_option linter.unusedSimpArgs false

theorem wpList_next_keys (w : World) {ops : Array Oper} {rest : List Oper} {o : Oper} {a : Act} {Q : Exit → Act → World → Prop} (hg : o.guard = none) (it : Operand) (hop : o.op = Op.next it false)
    (b r n : Nat) (D : DataW Unit) (left : Lit → Bool) (cnt : Nat) (hit : a.eval it = .pointer (some ⟨r, 0, none⟩)) (h : w.ranges Try.prog 50 (plainElem Try.prog 4) b r n D left cnt)
    (hDone : cnt = 0 → (∀ kl, left kl = false) → wpList Try.prog ops Q rest (a.put o.dst (.tuple #[.bool false])) w)
    (hMore : ∀ (e : Int) (t : List Int) (c : Bool) (w' : World) (cnt' : Nat), OkE e → IsTag t → left (keyL e t) = true → w'.ranges Try.prog 50 (plainElem Try.prog 4) b r n D (fun z => left z && !z.sameKey (keyL e t)) cnt' → cnt' < cnt →
      w.grownBy w' (some r) → w'.heap.size = w.heap.size → (Instr.entry (.pointer (some ⟨r, 0, none⟩))).run Try.prog w' = .ok (.tuple #[.agg (keyA e t), .bool c]) w' → wpList Try.prog ops Q rest (a.put o.dst (.tuple #[.bool true, .agg (keyA e t), .bool c])) w') :
    wpList Try.prog ops Q (o :: rest) a w :=
  wpList_next_ranges (α := Ent) w hg it hop 50 law50 (plainElem Try.prog 4) (fun x => .agg (keyA x.1 x.2)) Value.bool
    (fun key kl hkey => by obtain ⟨e, t, _, _, hk, _⟩ := key_inv hkey; exact ⟨(e, t), hk⟩)
    (fun v y hv => by obtain ⟨c, rfl, _⟩ := plainElem_bool_inv Try.underlying4 hv; exact ⟨c, rfl⟩)
    b r n D left cnt hit h hDone (fun x c kl y w' cnt' hkey hlk hv hat hrg hlt hgr hsz hen => by
      obtain ⟨e, t, he, ht, hk, rfl⟩ := key_inv hkey
      injection hk with hk
      have hk' := keyA_inj hk
      rw [hk'.1, hk'.2] at hen ⊢
      exact hMore e t c w' cnt' he ht hlk hrg hlt hgr hsz hen)
theorem store_key' (w : World) (e : Int) {t : List Int} (ht : IsTag t) : (storeCells ⟨w.heap.size, 0, none⟩ (keyA e t).toList 0).run Try.prog (w.alloc (.cells zero50 50)) = .ok () (w.alloc (.cells (keyA e t) 50)) :=
  run_storeCells_new (P := Try.prog) w 50 zero50 (keyA e t) (info50 e ht) (by rw [keyA_size e ht]; rfl) (keyA_cells e t)
theorem cell_off {x y z : Nat} {w w' : World} (o : Off x y z w w') {a : Addr} {v : Value} (h : w.cell? a = some v) (d : a.block ≠ x ∧ a.block ≠ y ∧ a.block ≠ z) : w'.cell? a = some v :=
  (World.cell?_of_block (w := w) (o.block a.block (World.block_lt_of_cell? w _ h) d.1 d.2.1 d.2.2)).trans h
theorem ne_map {w : World} {b n : Nat} {k : TypeId} {R} {D : DataW Unit} (h : w.ownsMap Try.prog k R b n D) {a : Addr} {v : Value} (hc : w.cell? a = some v) : a.block ≠ b := by
  obtain ⟨es, clock, hb, _⟩ := h
  intro e
  rw [← e] at hb
  simp [World.cell?, hb] at hc
theorem grown_of_below {w w' : World} (b : Below w.heap.size w w') : w.grownBy w' none := ⟨b.os, b.tape, b.output, b.size, fun k hk _ => b.block k hk⟩
set_option maxHeartbeats 2000000 in
set_option maxRecDepth 100000 in
theorem drop_keys (w : World) {B p bh n : Nat} {fl : Int} {S : List Ent} {D : DataW Unit} (hown : w.ownsMap Try.prog 50 (plainElem Try.prog 4) bh n D) (hr : RelH D S) (hb : w.cell? ⟨B, 0, none⟩ = some (.pointer (some ⟨p, 0, none⟩))) (h3 : w.cell? ⟨p, 3, none⟩ = some (.int .u32 fl)) :
    Calls Try.prog 20 #[.map (some bh), .func (.func 21) #[] #[.pointer (some ⟨B, 0, none⟩)]] w fun e_ w' => e_ = .returned (.tuple #[]) ∧ ∃ D', w'.ownsMap Try.prog 50 (plainElem Try.prog 4) bh n D' ∧ RelH D' (keepE fl S) ∧ Off bh bh bh w w' := by
  have dB := ne_map hown hb
  have dp := ne_map hown h3
  have HB := Aside0.mk hb
  have H3 := Aside0.mk h3
  have DB := Aside0.mk dB
  have DP := Aside0.mk dp
  have HR := Aside0.mk hr
  clear hb h3 dB dp hr
  go_enter Try.func20, Try.ntmps20
  go_wp2_with (first | (at_range; refine wpList_range_own _ rfl _ 45 rfl 50 4 law50 Try.underlying45 _ bh n _ rfl hown ?_; intro w0 hrg0 hg0 hs0) | go_in)
  have hs0 := Aside0.mk hs0
  go_loopw [4, 5] (fun _ _ wr => ∃ (left : Lit → Bool) (cnt : Nat) (Dk : DataW Unit), wr.ranges Try.prog 50 (plainElem Try.prog 4) bh w.heap.size n Dk left cnt ∧ RelH Dk (keepF fl left S) ∧ Off bh bh bh w wr)
    (fun _ _ wr => wr.rangeLeft bh w.heap.size)
  case atStart => exact ⟨_, _, _, hrg0, by rw [keep_start HR.out]; exact HR.out, (Off.refl _ _ _ _).grown (hg0.but (some bh)) (Or.inl rfl)⟩
  case round =>
    obtain ⟨left, cnt, Dk, hrg, hk, ho⟩ := hrel
    have HK := Aside0.mk hk
    have HO := Aside0.mk ho
    have HS0 := Aside0.mk hrg0
    have HN := Aside0.mk hrg
    clear hs0 hg0 hk ho hrg0 hown
    go_wp2_with (first | (at_next; refine wpList_next_keys _ rfl _ rfl bh w.heap.size n _ _ _ rfl hrg ?dn ?mr; rotate_left; intro e t c w1 cnt1 he ht hlk hrg1 hlt hg1 hs1 hen; have HG1 := Aside0.mk hrg1; have HLT := Aside0.mk hlt; have HO1 : Aside0 (Off bh bh bh w w1) := ⟨HO.out.grown hg1 (Or.inr (Or.inr (Or.inr (Nat.le_refl _))))⟩; have hst := store_key' w1 e ht; unfold zero50 at hst; have hsz := keyA_size e ht; have CB : Aside0 ((w1.alloc (.cells (keyA e t) 50)).cell? ⟨B, 0, none⟩ = some (.pointer (some ⟨p, 0, none⟩))) := ⟨cell_off (HO1.out.alloc _) HB.out ⟨DB.out, DB.out, DB.out⟩⟩; have C3 : Aside0 ((w1.alloc (.cells (keyA e t) 50)).cell? ⟨p, 3, none⟩ = some (.int .u32 fl)) := ⟨cell_off (HO1.out.alloc _) H3.out ⟨DP.out, DP.out, DP.out⟩⟩; clear hrg1 hlt hg1 hs1 hrg hlk; rotate_left; intro hc0 hl0; have HL0 := Aside0.mk hl0; clear hl0 hc0) | (refine wpList_load_row rfl 50 _ rfl w1.heap.size rfl 50 _ (0, 0) _ (blk_new _ _) Try.underlying50 rfl (info50 e ht) ?_) | (refine wpList_load_row rfl 50 _ rfl w1.heap.size rfl 50 _ (0, 0) _ hkb.out Try.underlying50 rfl (info50 e ht) ?_) | (go_at_call 21; (with_reducible refine (old_key (w1.alloc (.cells (keyA e t) 50)) B p fl e t c ht CB.out C3.out).mono ?_); rintro e_ w2 ⟨rfl, b2⟩; have HB2 := Aside0.mk b2; have hkb : Aside0 (w2.heap[w1.heap.size]? = some (.cells (keyA e t) 50 (0, 0))) := ⟨(b2.block _ (by rw [sz_alloc]; omega)).trans (blk_new _ _)⟩; have HG2 : Aside0 (w2.ranges Try.prog 50 (plainElem Try.prog 4) bh w.heap.size n Dk (fun z => left z && !z.sameKey (keyL e t)) cnt1) := ⟨(HG1.out.alloc _).kept (grown_of_below b2) (by simp) (by simp)⟩; clear b2) | (at_delete; refine wpList_delete_ranges _ rfl _ _ 45 50 rfl 4 law50 Try.underlying45 _ bh w.heap.size n _ _ _ rfl HG2.out _ _ rfl (key_of he ht) ?_; intro w3 cnt2 hrg2 hle hturn; go_frame))
    · go_end0
      exact ⟨rfl, Dk, HN.out.owns, by have := HK.out; rw [keep_end HL0.out] at this; exact this, HO.out⟩
    · rw [Maps.strike_twice] at hrg2
      refine ⟨⟨_, cnt2, _, hrg2, ?_, ?_⟩, ?_⟩
      · rw [keep_struck HR.out.ok he ht (by omega)]
        exact HK.out.del (HG1.out.owns.tidy law50) he ht
      · exact ((HO1.out.alloc _).then_below HB2.out).grown hturn.grown (Or.inl rfl)
      · rw [hrg2.left_eq, HN.out.left_eq]; have := HLT.out; omega
    · refine ⟨⟨_, cnt1, _, HG2.out, ?_, ?_⟩, ?_⟩
      · rw [keep_stays HR.out.ok he ht (by omega)]
        exact HK.out
      · exact (HO1.out.alloc _).then_below HB2.out
      · rw [HG2.out.left_eq, HN.out.left_eq]; exact HLT.out
end Go.Proofs.Ythlpbihkbafgbaa.RB
