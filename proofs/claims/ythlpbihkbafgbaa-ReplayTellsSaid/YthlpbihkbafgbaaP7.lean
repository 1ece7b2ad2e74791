/- The list when epochs are struck, key by key; the two closures. -/
import Derived.Test.YthlpbihkbafgbaaP6
namespace Go.Proofs.Ythlpbihkbafgbaa.RB
open Go Go.Maps Go.RowKit Go.BigFrame Go.Proofs.YthlpbihkbafgbaaW.PrintWords Go.Proofs.YthlpbihkbafgbaaW.PrintLast Go.Proofs.YthlpbihkbafgbaaW.PrintMore
set_option linter.unusedVariables false
set_option linter.unusedSimpArgs false

structure RelH (D : DataW Unit) (S : List Ent) : Prop where
  ok : ∀ p ∈ S, OkE p.1 ∧ IsTag p.2
  nd : S.Nodup
  at_ : ∀ e t, OkE e → IsTag t → D.atKey (keyL e t) (.lit (.bool false)) = .lit (.bool (decide ((e, t) ∈ S)))
  has : ∀ e t, OkE e → IsTag t → Maps.has D (keyL e t) = decide ((e, t) ∈ S)
  size : Maps.size D = S.length
theorem Rel.toH {D M : DataW Unit} {S : List Ent} (h : Rel D M S) : RelH D S := ⟨h.ok, h.nd, h.at_, h.has, h.size⟩
noncomputable def keepF (fl : Int) (left : Lit → Bool) (S : List Ent) : List Ent := S.filter fun q => decide (fl ≤ q.1) || left (keyL q.1 q.2)
def keepE (fl : Int) (S : List Ent) : List Ent := S.filter fun q => decide (fl ≤ q.1)
def strike (left : Lit → Bool) (kl : Lit) : Lit → Bool := fun z => left z && !z.sameKey kl
theorem same_key {e e' : Int} {t t' : List Int} (he : OkE e) (ht : IsTag t) (he' : OkE e') (ht' : IsTag t') : (keyL e' t').sameKey (keyL e t) = decide ((e', t') = (e, t)) := by
  by_cases h : (e', t') = (e, t)
  · rw [decide_eq_true h]
    injection h with h1 h2
    rw [h1, h2]
    exact WideAt.sameKey_self (law50.key (key_of he ht))
  · rw [decide_eq_false h]
    refine sameKey_ne fun hk => h ?_
    obtain ⟨h1, h2⟩ := keyL_inj he' ht' he ht hk
    rw [h1, h2]
theorem nodup_filter_ne : ∀ (S : List Ent) (x : Ent), S.Nodup → (S.filter fun q => decide (q ≠ x)).length + (if decide (x ∈ S) then 1 else 0) = S.length
  | [], x, _ => by simp
  | a :: S, x, h => by
    obtain ⟨h1, h2⟩ := List.nodup_cons.1 h
    have ih := nodup_filter_ne S x h2
    by_cases hax : a = x
    · subst hax
      have hn : decide (a ∈ S) = false := decide_eq_false h1
      rw [hn] at ih
      have hf : decide (a ≠ a) = false := by simp
      have hm : decide (a ∈ a :: S) = true := by simp
      rw [List.filter_cons, hf, hm]
      simp only [Bool.false_eq_true, if_false, if_true, List.length_cons] at ih ⊢
      omega
    · have hm : decide (x ∈ a :: S) = decide (x ∈ S) := by
        have : (x ∈ a :: S) ↔ x ∈ S := ⟨fun h => (List.mem_cons.1 h).resolve_left fun e => hax e.symm, fun h => List.mem_cons_of_mem _ h⟩
        simp only [this]
      have hf : decide (a ≠ x) = true := by simp [hax]
      rw [List.filter_cons, hf, hm]
      simp only [if_true, List.length_cons]
      omega
theorem RelH.del {D : DataW Unit} {S : List Ent} (h : RelH D S) (hD : Tidy D) {e : Int} {t : List Int} (he : OkE e) (ht : IsTag t) : RelH (D.del (keyL e t)) (S.filter fun q => decide (q ≠ (e, t))) := by
  have hmem : ∀ e' t', ((e', t') ∈ S.filter fun q => decide (q ≠ (e, t))) ↔ ((e', t') ∈ S ∧ (e', t') ≠ (e, t)) := fun e' t' => by rw [List.mem_filter, decide_eq_true_iff]
  refine ⟨fun p hp => h.ok p (List.mem_filter.1 hp).1, h.nd.filter _, ?_, ?_, ?_⟩
  · intro e' t' he' ht'
    by_cases hk : (e', t') = (e, t)
    · have hk' := hk
      injection hk with h1 h2
      subst h1 h2
      rw [atKey_del_same]
      have : ¬ ((e', t') ∈ S.filter fun q => decide (q ≠ (e', t'))) := fun hm => ((hmem _ _).1 hm).2 rfl
      rw [decide_eq_false this]
    · rw [atKey_del_other (fun hq => hk (by obtain ⟨a, b⟩ := keyL_inj he' ht' he ht hq; rw [a, b])), h.at_ e' t' he' ht']
      have : ((e', t') ∈ S.filter fun q => decide (q ≠ (e, t))) ↔ (e', t') ∈ S := (hmem _ _).trans ⟨fun x => x.1, fun x => ⟨x, hk⟩⟩
      simp only [this]
  · intro e' t' he' ht'
    by_cases hk : (e', t') = (e, t)
    · have hk' := hk
      injection hk with h1 h2
      subst h1 h2
      rw [has_del_same]
      have : ¬ ((e', t') ∈ S.filter fun q => decide (q ≠ (e', t'))) := fun hm => ((hmem _ _).1 hm).2 rfl
      rw [decide_eq_false this]
    · rw [has_del_other (fun hq => hk (by obtain ⟨a, b⟩ := keyL_inj he' ht' he ht hq; rw [a, b])), h.has e' t' he' ht']
      have : ((e', t') ∈ S.filter fun q => decide (q ≠ (e, t))) ↔ (e', t') ∈ S := (hmem _ _).trans ⟨fun x => x.1, fun x => ⟨x, hk⟩⟩
      simp only [this]
  · have h1 := size_del (k := keyL e t) hD
    rw [h.has e t he ht] at h1
    have h2 := nodup_filter_ne S (e, t) h.nd
    rw [h.size] at h1
    omega
theorem keep_start {D : DataW Unit} {S : List Ent} (h : RelH D S) (fl : Int) : keepF fl (Maps.has D) S = S := by
  unfold keepF
  rw [List.filter_eq_self]
  intro q hq
  have hm : (q.1, q.2) ∈ S := hq
  rw [h.has q.1 q.2 (h.ok q hq).1 (h.ok q hq).2, decide_eq_true hm, Bool.or_true]
theorem keep_end {left : Lit → Bool} (h : ∀ kl, left kl = false) (fl : Int) (S : List Ent) : keepF fl left S = keepE fl S := by
  unfold keepF keepE
  refine List.filter_congr fun q _ => ?_
  rw [h, Bool.or_false]
theorem keep_struck {left : Lit → Bool} {fl : Int} {S : List Ent} (h : ∀ p ∈ S, OkE p.1 ∧ IsTag p.2) {e : Int} {t : List Int} (he : OkE e) (ht : IsTag t) (hlt : e < fl) :
    keepF fl (fun z => left z && !z.sameKey (keyL e t)) S = (keepF fl left S).filter fun q => decide (q ≠ (e, t)) := by
  unfold keepF
  rw [List.filter_filter]
  refine List.filter_congr fun q hq => ?_
  have hs := same_key he ht (h q hq).1 (h q hq).2
  dsimp only
  rw [hs]
  by_cases hx : (q.1, q.2) = (e, t)
  · have hq1 : q = (e, t) := hx
    have : ¬ fl ≤ q.1 := by rw [hq1]; show ¬ fl ≤ e; omega
    simp [hx, hq1]
    omega
  · have hq1 : q ≠ (e, t) := hx
    simp [hx, hq1]
theorem keep_stays {left : Lit → Bool} {fl : Int} {S : List Ent} (h : ∀ p ∈ S, OkE p.1 ∧ IsTag p.2) {e : Int} {t : List Int} (he : OkE e) (ht : IsTag t) (hle : fl ≤ e) :
    keepF fl (fun z => left z && !z.sameKey (keyL e t)) S = keepF fl left S := by
  unfold keepF
  refine List.filter_congr fun q hq => ?_
  have hs := same_key he ht (h q hq).1 (h q hq).2
  dsimp only
  rw [hs]
  by_cases hx : (q.1, q.2) = (e, t)
  · have hq1 : q = (e, t) := hx
    have : fl ≤ q.1 := by rw [hq1]; exact hle
    simp [this]
  · simp [hx]
/-- The counts while the epochs are struck. -/
def RelM (M : DataW Unit) (fl : Int) (left : Lit → Bool) (S : List Ent) : Prop :=
  ∀ e, OkE e → M.atKey (.int .u32 e) (.lit (.int .i64 0)) = .lit (.int .i64 (if fl ≤ e ∨ left (.int .u32 e) = true then (cnt S e : Int) else 0))
theorem relM_start {D M : DataW Unit} {S : List Ent} (h : Rel D M S) (fl : Int) : RelM M fl (Maps.has M) S := by
  intro e he
  rw [h.many e he]
  by_cases hh : Maps.has M (.int .u32 e) = true
  · rw [if_pos (Or.inr hh)]
  · have h0 : Maps.has M (.int .u32 e) = false := by simpa using hh
    have h1 := h.many e he
    rw [atKey_of_not_has h0] at h1
    injection h1 with h1; injection h1 with _ h1
    rw [← h1]; split <;> rfl
theorem lit_same {e e' : Int} : (Lit.int .u32 e').sameKey (.int .u32 e) = decide (e' = e) := by
  by_cases h : e' = e
  · subst h
    rw [decide_eq_true rfl]; exact WideAt.sameKey_self trivial
  · rw [decide_eq_false h]; exact sameKey_ne fun hk => h (by injection hk)
theorem relM_struck {M : DataW Unit} {fl : Int} {left : Lit → Bool} {S : List Ent} (h : RelM M fl left S) {e : Int} (hlt : e < fl) : RelM (M.del (.int .u32 e)) fl (fun z => left z && !z.sameKey (.int .u32 e)) S := by
  intro e' he'
  by_cases hx : e' = e
  · subst hx
    rw [atKey_del_same]
    have : ¬ (fl ≤ e' ∨ (left (.int .u32 e') && !(Lit.int .u32 e').sameKey (.int .u32 e')) = true) := by simp only [lit_same]; simp; omega
    rw [if_neg this]
  · rw [atKey_del_other (fun hk => hx (by injection hk)), h e' he']
    simp only [lit_same]
    simp [hx]
theorem relM_stays {M : DataW Unit} {fl : Int} {left : Lit → Bool} {S : List Ent} (h : RelM M fl left S) {e : Int} (hle : fl ≤ e) : RelM M fl (fun z => left z && !z.sameKey (.int .u32 e)) S := by
  intro e' he'
  rw [h e' he']
  by_cases hx : e' = e
  · subst hx
    rw [if_pos (Or.inl hle), if_pos (Or.inl hle)]
  · simp only [lit_same]
    simp [hx]
theorem cnt_keep (fl : Int) (S : List Ent) (e : Int) : cnt (keepE fl S) e = if fl ≤ e then cnt S e else 0 := by
  unfold cnt keepE
  rw [List.filter_filter]
  by_cases h : fl ≤ e
  · rw [if_pos h]
    congr 1
    refine List.filter_congr fun q _ => ?_
    by_cases hq : q.1 = e
    · simp [hq, h]
    · simp [hq]
  · rw [if_neg h, List.length_eq_zero_iff, List.filter_eq_nil_iff]
    intro q _
    simp
    intro h1; omega
theorem rel_end {D M : DataW Unit} {S : List Ent} {fl : Int} {left : Lit → Bool} (hD : RelH D (keepE fl S)) (hM : RelM M fl left S) (h0 : ∀ kl, left kl = false) : Rel D M (keepE fl S) :=
  ⟨hD.ok, hD.nd, hD.at_, hD.has, hD.size, fun e he => by
    rw [hM e he, cnt_keep, h0]
    by_cases h : fl ≤ e <;> simp [h]⟩
set_option maxHeartbeats 1000000 in
set_option maxRecDepth 100000 in
theorem old_epoch (w : World) (B p : Nat) (fl e c : Int) (hb : w.cell? ⟨B, 0, none⟩ = some (.pointer (some ⟨p, 0, none⟩))) (h3 : w.cell? ⟨p, 3, none⟩ = some (.int .u32 fl)) :
    Calls Try.prog 23 #[.int .u32 e, .int .i64 c, .pointer (some ⟨B, 0, none⟩)] w fun e_ w' => e_ = .returned (.bool (decide (e < fl))) ∧ w' = w := by
  go_enter Try.func23, Try.ntmps23
  go_wp2
  go_ret
  exact ⟨rfl, rfl⟩
set_option maxHeartbeats 1000000 in
set_option maxRecDepth 100000 in
theorem old_key (w : World) (B p : Nat) (fl e : Int) (t : List Int) (c : Bool) (ht : IsTag t) (hb : w.cell? ⟨B, 0, none⟩ = some (.pointer (some ⟨p, 0, none⟩))) (h3 : w.cell? ⟨p, 3, none⟩ = some (.int .u32 fl)) :
    Calls Try.prog 21 #[.agg (keyA e t), .bool c, .pointer (some ⟨B, 0, none⟩)] w fun e_ w' => e_ = .returned (.bool (decide (e < fl))) ∧ Below w.heap.size w w' := by
  have lt1 : B < w.heap.size := World.block_lt_of_cell? w _ hb
  have lt2 : p < w.heap.size := World.block_lt_of_cell? w _ h3
  have g1 : ∀ m, ((w.alloc (.cells (keyA e t) 50)).drewN m).cell? ⟨B, 0, none⟩ = some (.pointer (some ⟨p, 0, none⟩)) := fun m => ((pw_below_drewN (below_alloc (Below.refl _ _) _) _).cell lt1).trans hb
  have g2 : ∀ m, ((w.alloc (.cells (keyA e t) 50)).drewN m).cell? ⟨p, 3, none⟩ = some (.int .u32 fl) := fun m => ((pw_below_drewN (below_alloc (Below.refl _ _) _) _).cell lt2).trans h3
  have g3 : ∀ m, ((w.alloc (.cells (keyA e t) 50)).drewN m).cell? ⟨w.heap.size, 0, none⟩ = some (.int .u32 e) := fun m => (cell_of_row _ _ 0 _ 50 (0, 0) (show ((w.alloc (.cells (keyA e t) 50)).drewN m).heap[w.heap.size]? = _ from blk_new w _)).trans rfl
  clear hb h3 lt1 lt2
  go_enter Try.func21, Try.ntmps21
  go_wp2_with fail
  go_quiet (fail)
  go_wp2
  go_ret
  exact ⟨rfl, pw_below_drewN (below_alloc (Below.refl _ _) _) _⟩
end Go.Proofs.Ythlpbihkbafgbaa.RB
