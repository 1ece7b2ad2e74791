/- The document's Len and Has. -/
import Derived.Test.YthlpbihkbafgbaaP17
namespace Go.Proofs.Ythlpbihkbafgbaa.RB
open Go Go.Maps Go.RowKit Go.BigFrame Go.Proofs.YthlpbihkbafgbaaW.PrintWords Go.Proofs.YthlpbihkbafgbaaW.PrintLast Go.Proofs.YthlpbihkbafgbaaW.PrintMore
set_option linter.unusedVariables false
set_option linter.unusedSimpArgs false

theorem cnt_take (S : List Ent) {j : Nat} {s : Ent} (h : S[j]? = some s) (e : Int) : cnt (S.take (j + 1)) e = cnt (S.take j) e + (if s.1 = e then 1 else 0) := by
  rw [List.take_add_one, h]
  obtain ⟨s1, s2⟩ := s
  exact cnt_snoc _ _ _ _
theorem cnt_take_le (S : List Ent) (j : Nat) (e : Int) : cnt (S.take j) e ≤ S.length := Nat.le_trans (cnt_le _ _) (by rw [List.length_take]; omega)
set_option maxHeartbeats 2000000 in
set_option maxRecDepth 100000 in
theorem rlen_any {B : Nat} {w : World} {p : Nat} {most floor : Int} {S : List Ent} (h : RefAt B w p most floor S) (hn : S.length ≤ 1000000) (e : Int) (he : OkE e) :
    Calls Try.prog 18 #[.pointer (some ⟨p, 0, none⟩), .int .u32 e] w fun e_ w' => e_ = .returned (.int .i64 (cnt S e : Int)) ∧ w' = w := by
  obtain ⟨v, hc, hB, hr, hok, _⟩ := h
  obtain ⟨a, cap, rfl, hE⟩ := hr.ents hok
  have c1 : w.cell? ⟨p, 1, none⟩ = some (.slice a S.length cap) := (cell_of_row w p 1 _ 40 (0, 0) hc).trans rfl
  have HE := Aside0.mk hE
  clear hc hr hE
  go_enter Try.func18, Try.ntmps18
  go_wp2_with fail
  go_loopw [5, 6] (fun nv iv wr => ∃ j : Nat, iv = .int .i64 (j : Int) ∧ nv = .int .i64 (cnt (S.take j) e : Int) ∧ j ≤ S.length ∧ wr = w) (fun _ iv _ => S.length - (intOf iv).toNat)
  case atStart => exact ⟨0, rfl, rfl, Nat.zero_le _, rfl⟩
  case round =>
    obtain ⟨j, rfl, rfl, hj, rfl⟩ := hrel
    have hcb := cnt_take_le S j e
    by_cases hjl : j < S.length
    · obtain ⟨⟨e2, t2⟩, x, hs, rfl, hcc⟩ := HE.out.at_ hjl
      obtain ⟨A, hA⟩ : ∃ A_ : Addr, x.add (j * 17) = A_ := ⟨_, rfl⟩
      rw [hA] at hcc
      have c0 := (ent_cells hcc).1
      have hct := Aside0.mk (cnt_take S hs e)
      clear hcc hs
      by_cases he2 : e2 = e
      · subst e2
        go_wp2_with fail
        exact ⟨⟨j + 1, by simp, by rw [hct.out]; simp, by omega, trivial⟩, by simp only [intOf]; omega⟩
      · have he2' : (e2 == e) = false := by simp [he2]
        go_wp2_with fail
        exact ⟨⟨j + 1, by simp, by rw [hct.out]; simp [he2], by omega, trivial⟩, by simp only [intOf]; omega⟩
    · obtain rfl : j = S.length := by omega
      go_wp2_with fail
      go_ret
      exact ⟨by rw [List.take_length]; rfl, rfl⟩
set_option maxHeartbeats 2000000 in
set_option maxRecDepth 100000 in
theorem rhas_any {B : Nat} {w : World} {p : Nat} {most floor : Int} {S : List Ent} (h : RefAt B w p most floor S) (hn : S.length ≤ 1000000) (e : Int) (he : OkE e) (t : List Int) (ht : IsTag t) :
    Calls Try.prog 16 #[.pointer (some ⟨p, 0, none⟩), .int .u32 e, .agg (tagA t)] w fun e_ w' => e_ = .returned (.bool (decide ((e, t) ∈ S))) ∧ Below w.heap.size w w' := by
  obtain ⟨v, hc, hB, hr, hok, _⟩ := h
  obtain ⟨a, cap, rfl, hE⟩ := hr.ents hok
  obtain ⟨q, hq⟩ : ∃ q_ : Bool, decide ((e, t) ∈ S) = q_ := ⟨_, rfl⟩
  rw [hq]
  have HQ := Aside0.mk hq
  have HE := Aside0.mk hE
  have HK := Aside0.mk hok
  have HC := Aside0.mk hc
  have HT := Aside0.mk ht
  clear hq hE hr hok hc
  go_enter Try.func16, Try.ntmps16
  go_wp2_with fail
  obtain ⟨w5, hw5⟩ : ∃ w_ : World, w_ = w.alloc (.cells (tagA t) 30) := ⟨_, rfl⟩
  rw [← hw5]
  have BX : Aside0 (w5.heap[w.heap.size]? = some (.cells (tagA t) 30 (0, 0))) := ⟨by rw [hw5]; exact blk_new _ _⟩
  have B5 : Aside0 (Below w.heap.size w w5) := ⟨by rw [hw5]; exact below_alloc (Below.refl _ _) _⟩
  have E5 : Aside0 (Ents w5 a S.length S) := ⟨HE.out.below B5.out⟩
  have P5 : Aside0 (w5.cell? ⟨p, 1, none⟩ = some (.slice a S.length cap)) := ⟨(B5.out.cell (p := ⟨p, 1, none⟩) (Array.getElem?_eq_some_iff.1 HC.out).1).trans ((cell_of_row w p 1 _ 40 (0, 0) HC.out).trans rfl)⟩
  clear hw5
  go_loopw [7] (fun iv wr => ∃ j m : Nat, iv = .int .i64 (j : Int) ∧ j ≤ S.length ∧ Aside0 (∀ s ∈ S.take j, s ≠ (e, t)) ∧ Aside0 (wr = w5.drewN m)) (fun iv _ => S.length - (intOf iv).toNat)
  case atStart => exact ⟨0, 0, rfl, Nat.zero_le _, ⟨by simp⟩, ⟨rfl⟩⟩
  case round =>
    obtain ⟨j, m, rfl, hj, HN, HW⟩ := hrel
    have c1 : wr.cell? ⟨p, 1, none⟩ = some (.slice a S.length cap) := by rw [HW.out]; exact P5.out
    by_cases hjl : j < S.length
    · obtain ⟨⟨e2, t2⟩, x, hs, rfl, hcc⟩ := E5.out.at_ hjl
      obtain ⟨A, hA⟩ : ∃ A_ : Addr, x.add (j * 17) = A_ := ⟨_, rfl⟩
      rw [hA] at hcc
      obtain ⟨d0, d1⟩ := ent_cells hcc
      have c1' : ∀ m_, (wr.drewN m_).cell? ⟨p, 1, none⟩ = some (.slice (some x) S.length cap) := fun m_ => c1
      have g1 : ∀ m_, (wr.drewN m_).cell? A = some (.int .u32 e2) := fun m_ => by rw [HW.out]; exact d0
      have C2 : Aside0 (CellsAt wr ⟨A.block, A.off + 1, none⟩ (t2.map (Value.int .u8))) := ⟨by rw [HW.out]; exact d1⟩
      have HT2 : Aside0 (IsTag t2) := ⟨(HK.out _ (List.mem_of_getElem? hs)).2⟩
      have HS := Aside0.mk hs
      have BX8 : Aside0 (wr.heap[w.heap.size]? = some (.cells (tagA t) 30 (0, 0))) := ⟨by rw [HW.out]; exact BX.out⟩
      clear hcc d0 d1 hs
      by_cases he2 : e2 = e
      · subst e2
        go_wp2_with fail
        refine wp_region_quiet_lit (by kernel_rfl) (by kernel_rfl) ?_
        repeat (first | (go_big_quiet_want; refine quiet_load 30 _ rfl w.heap.size rfl 30 (tagA t) (0, 0) _ ?_ Try.underlying30 rfl (info30 HT.out) ?_; (rintro w_ ⟨m_, rfl⟩; exact BX8.out); go_frame; go_big_quiet_on) | (go_big_quiet_want; refine quiet_load_tag _ rfl ⟨A.block, A.off + 1, none⟩ rfl t2 HT2.out ?_ ?_; (rintro w_ ⟨m_, rfl⟩; exact C2.out); go_frame; go_big_quiet_on) | (go_big_quiet_want; refine quiet_eqtag (t := t2) (t' := t) _ _ _ rfl HT2.out HT.out rfl rfl ?_; go_frame; go_big_quiet_on) | go_big_quiet_step (fail))
        refine wpQuiet_nil ?_
        rintro _ ⟨nq, rfl⟩
        clear c1 c1' g1
        by_cases ht2 : t2 = t
        · subst t2
          have hd : decide (t = t) = true := by simp
          rw [hd]
          go_wp2_with fail
          go_ret
          exact ⟨by rw [← HQ.out, decide_eq_true (List.mem_of_getElem? HS.out)]; rfl, by rw [HW.out]; exact pw_below_drewN (pw_below_drewN B5.out _) _⟩
        · have hd : decide (t2 = t) = false := by simp [ht2]
          rw [hd]
          go_wp2_with fail
          refine ⟨⟨j + 1, m + nq, by simp, by omega, ⟨?_⟩, ⟨by rw [HW.out, World.drewN_drewN]⟩⟩, by simp only [intOf]; omega⟩
          intro s hm
          rw [List.take_add_one, HS.out] at hm
          rcases List.mem_append.1 hm with hm | hm
          · exact HN.out s hm
          · simp at hm
            rw [hm]; intro h; injection h with _ h; exact ht2 h
      · have he2' : (e2 == e) = false := by simp [he2]
        go_wp2_with fail
        refine wp_region_quiet_lit (by kernel_rfl) (by kernel_rfl) ?_
        repeat (go_big_quiet_step (fail))
        refine wpQuiet_nil ?_
        rintro _ ⟨nq, rfl⟩
        clear c1 c1' g1
        go_wp2_with fail
        refine ⟨⟨j + 1, m + nq, by simp, by omega, ⟨?_⟩, ⟨by rw [HW.out, World.drewN_drewN]⟩⟩, by simp only [intOf]; omega⟩
        intro s hm
        rw [List.take_add_one, HS.out] at hm
        rcases List.mem_append.1 hm with hm | hm
        · exact HN.out s hm
        · simp at hm
          rw [hm]; intro h; injection h with h _; exact he2 h
    · obtain rfl : j = S.length := by omega
      go_wp2_with fail
      go_ret
      refine ⟨?_, by rw [HW.out]; exact pw_below_drewN B5.out _⟩
      rw [← HQ.out, decide_eq_false (fun hm => HN.out (e, t) (by rw [List.take_length]; exact hm) rfl)]
      rfl
end Go.Proofs.Ythlpbihkbafgbaa.RB
