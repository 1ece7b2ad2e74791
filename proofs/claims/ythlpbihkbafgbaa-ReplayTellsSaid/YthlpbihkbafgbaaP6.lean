/- What reads as a key is an epoch and a tag; the list behind the maps when epochs are struck. -/
import Derived.Test.YthlpbihkbafgbaaP5
namespace Go.Proofs.Ythlpbihkbafgbaa.RB
open Go Go.Maps Go.RowKit Go.BigFrame Go.Proofs.YthlpbihkbafgbaaW.PrintWords Go.Proofs.YthlpbihkbafgbaaW.PrintLast Go.Proofs.YthlpbihkbafgbaaW.PrintMore
set_option linter.unusedVariables false
set_option linter.unusedSimpArgs false

theorem bd8 {x : Int} (h : (Lit.int .u8 x).wf = true) : 0 ≤ x ∧ x ≤ 255 := by
  simp [Lit.wf, IntKind.min, IntKind.max, IntKind.signed, IntKind.bits] at h; omega
theorem bd32 {x : Int} (h : (Lit.int .u32 x).wf = true) : 0 ≤ x ∧ x ≤ 4294967295 := by
  simp [Lit.wf, IntKind.min, IntKind.max, IntKind.signed, IntKind.bits] at h; omega
theorem mapM_some {α β : Type} (f : α → Option β) : ∀ (l : List α) {ys : List β}, l.mapM f = some ys → ∀ i ∈ l, ∃ y, f i = some y
  | [], _, _, i, hi => by cases hi
  | a :: l, ys, h, i, hi => by
    rw [List.mapM_cons] at h
    cases ha : f a with
    | none => rw [ha] at h; cases h
    | some y =>
      rw [ha] at h
      cases hl : l.mapM f with
      | none => rw [hl] at h; cases h
      | some zs =>
        rcases List.mem_cons.1 hi with rfl | hi
        · exact ⟨y, ha⟩
        · exact mapM_some f l hl i hi
theorem lits_u8 {d : Nat} {l : List Value} {ls : List Lit} (h : Try.prog.keyLits (d + 1) 5 l = some ls) : ∃ x, l = [.int .u8 x] ∧ 0 ≤ x ∧ x ≤ 255 := by
  unfold Program.keyLits at h
  rw [Try.underlying5] at h
  rcases l with _ | ⟨v, _ | ⟨v2, l⟩⟩
  · cases h
  · cases v <;> simp at h
    obtain ⟨⟨rfl, hw⟩, _⟩ := h
    exact ⟨_, rfl, bd8 hw⟩
  · cases v <;> simp at h
theorem lits_u32 {d : Nat} {l : List Value} {ls : List Lit} (h : Try.prog.keyLits (d + 1) 28 l = some ls) : ∃ x, l = [.int .u32 x] ∧ 0 ≤ x ∧ x ≤ 4294967295 := by
  unfold Program.keyLits at h
  rw [Try.underlying28] at h
  rcases l with _ | ⟨v, _ | ⟨v2, l⟩⟩
  · cases h
  · cases v <;> simp at h
    obtain ⟨⟨rfl, hw⟩, _⟩ := h
    exact ⟨_, rfl, bd32 hw⟩
  · cases v <;> simp at h
theorem tag_of_lits {d : Nat} {r : List Value} {ls : List Lit} (h : Try.prog.keyLits (d + 2) 30 r = some ls) : ∃ t, IsTag t ∧ r = t.map (Value.int .u8) := by
  unfold Program.keyLits at h
  rw [Try.underlying30] at h
  simp only [c30, c5] at h
  split at h
  · rename_i hl
    rw [Option.map_eq_some_iff] at h
    obtain ⟨ys, hys, _⟩ := h
    have hx : ∀ i, i < 16 → ∃ x : Int, r[i]? = some (.int .u8 x) ∧ 0 ≤ x ∧ x ≤ 255 := fun i hi => by
      obtain ⟨y, hy⟩ := mapM_some _ _ hys i (List.mem_range.2 hi)
      obtain ⟨x, hx, hb⟩ := lits_u8 hy
      refine ⟨x, ?_, hb⟩
      rw [Nat.mul_one, List.drop_eq_getElem_cons (by omega), List.take_succ_cons, List.take_zero] at hx
      injection hx with hx _
      rw [List.getElem?_eq_getElem (by omega), hx]
    let g : Value → Int := fun v => match v with | .int _ x => x | _ => 0
    refine ⟨r.map g, ⟨by simp [hl], ?_⟩, ?_⟩
    · intro x hm
      obtain ⟨v, hv, rfl⟩ := List.mem_map.1 hm
      obtain ⟨i, hi, rfl⟩ := List.getElem_of_mem hv
      obtain ⟨x, hx1, hx2⟩ := hx i (by omega)
      rw [List.getElem?_eq_getElem hi] at hx1
      injection hx1 with hx1
      rw [hx1]; exact hx2
    · apply List.ext_getElem?
      intro i
      by_cases hi : i < 16
      · obtain ⟨x, hx1, _⟩ := hx i hi
        simp [hx1, g]
      · rw [List.getElem?_eq_none (by omega), List.getElem?_eq_none (by simp; omega)]
  · cases h
theorem key_inv {key : Value} {kl : Lit} (h : keyOf Try.prog 50 key = some kl) : ∃ e t, OkE e ∧ IsTag t ∧ key = .agg (keyA e t) ∧ kl = keyL e t := by
  have hk := h
  unfold keyOf at h
  rw [Try.underlying50] at h
  simp only at h
  split at h
  · rename_i hf
    rw [Bool.and_eq_true] at hf
    obtain ⟨_, hf⟩ := hf
    have ha : ∃ cs, key = .agg cs ∧ cs.size = 17 := by
      cases key <;> simp [Value.formed, Try.underlying50, c50] at hf
      exact ⟨_, rfl, hf⟩
    obtain ⟨cs, rfl, hsz⟩ := ha
    rw [Option.map_eq_some_iff] at h
    obtain ⟨ls, hls, _⟩ := h
    have hd : ∃ d, Try.prog.types.size = d + 2 := ⟨Try.prog.types.size - 2, by have : 2 ≤ Try.prog.types.size := of_decide_eq_true (by kernel_rfl); omega⟩
    obtain ⟨d, hd⟩ := hd
    have e2 : (Value.agg cs).cells = cs := rfl
    rw [e2, hd] at hls
    unfold Program.keyLits at hls
    rw [Try.underlying50] at hls
    have hcl : cs.toList.length = 17 := by simpa using hsz
    obtain ⟨c0, r, hr⟩ : ∃ c0 r, cs.toList = c0 :: r := by
      cases hq : cs.toList with
      | nil => rw [hq] at hcl; cases hcl
      | cons a b => exact ⟨a, b, rfl⟩
    rw [hr] at hls hcl
    have hrl : r.length = 16 := by simpa using hcl
    simp [c50, c28, c30, hrl] at hls
    have t16 : r.take 16 = r := List.take_of_length_le (by omega)
    rw [t16] at hls
    cases h1 : Try.prog.keyLits (d + 2) 28 [c0] with
    | none => rw [h1] at hls; cases hls
    | some a =>
      rw [h1] at hls
      cases h2 : Try.prog.keyLits (d + 2) 30 r with
      | none => rw [h2] at hls; cases hls
      | some b =>
        obtain ⟨e, he, hb⟩ := lits_u32 h1
        obtain ⟨t, ht, hrt⟩ := tag_of_lits h2
        injection he with he _
        have hkey : Value.agg cs = .agg (keyA e t) := by
          have : cs = keyA e t := Array.toList_inj.1 (by rw [hr, he, hrt]; rfl)
          rw [this]
        refine ⟨e, t, hb, ht, hkey, ?_⟩
        rw [hkey, key_of hb ht] at hk
        injection hk with hk
        exact hk.symm
  · cases h
end Go.Proofs.Ythlpbihkbafgbaa.RB
