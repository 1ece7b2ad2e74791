/- The plain functions of a block: its first state, a quarter, ten rounds, the bytes told; no program in sight but for mix's and load's contracts, said anew on lists. -/
import Derived.Test.YtlpfmehcghhdcaaDoorM3
import Derived.Laws.CopyOwn
namespace Go.Proofs.YtlpfmehcghhdcaaDoor.XB
open Go.RowKit Go.Proofs.YtlpfmehcghhdcaaDoorW.PrintWords Go.Proofs.YtlpfmehcghhdcaaDoorW.PrintLast Go.Proofs.YtlpfmehcghhdcaaDoorW.PrintMore PChachaTells
set_option linter.unusedVariables false
set_option linter.unusedSimpArgs false

def toC (L : List Int) : Array Value := (L.map (Value.int .u32)).toArray
def toB (L : List Int) : Array Value := (L.map (Value.int .u8)).toArray
theorem toC_get (L : List Int) (j : Nat) : (toC L)[j]? = (L[j]?).map (Value.int .u32) := by simp [toC]
theorem toB_get (L : List Int) (j : Nat) : (toB L)[j]? = (L[j]?).map (Value.int .u8) := by simp [toB]
theorem toC_size (L : List Int) : (toC L).size = L.length := by simp [toC]
theorem toB_size (L : List Int) : (toB L).size = L.length := by simp [toB]
theorem toC_getD (L : List Int) (j : Nat) (h : j < L.length) : (toC L)[j]? = some (.int .u32 (L.getD j 0)) := by
  rw [toC_get, List.getElem?_eq_getElem h]; simp [List.getD, List.getElem?_eq_getElem h]
theorem toB_getD (L : List Int) (j : Nat) (h : j < L.length) : (toB L)[j]? = some (.int .u8 (L.getD j 0)) := by
  rw [toB_get, List.getElem?_eq_getElem h]; simp [List.getD, List.getElem?_eq_getElem h]

def qrAt (L : List Int) (q : Nat × Nat × Nat × Nat) : Int × Int × Int × Int := qr (L.getD q.1 0, L.getD q.2.1 0, L.getD q.2.2.1 0, L.getD q.2.2.2 0)
def quarterL (L : List Int) (q : Nat × Nat × Nat × Nat) : List Int :=
  (((L.set q.1 (qrAt L q).1).set q.2.1 (qrAt L q).2.1).set q.2.2.1 (qrAt L q).2.2.1).set q.2.2.2 (qrAt L q).2.2.2
def qs : Nat → Nat × Nat × Nat × Nat
  | 0 => (0, 4, 8, 12) | 1 => (1, 5, 9, 13) | 2 => (2, 6, 10, 14) | 3 => (3, 7, 11, 15)
  | 4 => (0, 5, 10, 15) | 5 => (1, 6, 11, 12) | 6 => (2, 7, 8, 13) | _ => (3, 4, 9, 14)
def quartersL : Nat → List Int → List Int
  | 0, L => L
  | k + 1, L => quarterL (quartersL k L) (qs k)
def roundsL : Nat → List Int → List Int
  | 0, L => L
  | k + 1, L => quartersL 8 (roundsL k L)
theorem quarterL_len (L : List Int) (q) : (quarterL L q).length = L.length := by simp [quarterL]
theorem quartersL_len (k : Nat) (L : List Int) : (quartersL k L).length = L.length := by
  induction k with
  | zero => rfl
  | succ k ih => rw [quartersL, quarterL_len, ih]
theorem roundsL_len (k : Nat) (L : List Int) : (roundsL k L).length = L.length := by
  induction k with
  | zero => rfl
  | succ k ih => rw [roundsL, quartersL_len, ih]

theorem qs_ok : ∀ k, k < 8 → (qs k).1 < 16 ∧ (qs k).2.1 < 16 ∧ (qs k).2.2.1 < 16 ∧ (qs k).2.2.2 < 16 ∧ (qs k).1 ≠ (qs k).2.1 ∧ (qs k).1 ≠ (qs k).2.2.1 ∧ (qs k).1 ≠ (qs k).2.2.2 ∧ (qs k).2.1 ≠ (qs k).2.2.1 ∧ (qs k).2.1 ≠ (qs k).2.2.2 ∧ (qs k).2.2.1 ≠ (qs k).2.2.2 := by decide

theorem ext16 {C D : Array Value} {n : Nat} (hC : C.size = n) (hD : D.size = n) (h : ∀ j, j < n → C[j]? = D[j]?) : C = D := by
  apply Array.ext (by omega)
  intro i h1 h2
  have := h i (by omega)
  rw [Array.getElem?_eq_getElem h1, Array.getElem?_eq_getElem h2] at this
  exact Option.some.inj this

/-- mix's contract, on lists. -/
theorem mixL {tg : Nat} (b0 : Nat) (L : List Int) (k : Nat) (hk : k < 8) (w : World) (hL : L.length = 16) (hb : w.heap[b0]? = some (.cells (toC L) 43 (0, 0)))
    (hg : w.heap[2]? = some (.cells #[.int .i64 16, .int .i64 12, .int .i64 8, .int .i64 7] tg (0, 0))) :
    Calls Tryd.prog 18 #[.pointer (some ⟨b0, 0, none⟩), .agg #[.int .i64 (qs k).1, .int .i64 (qs k).2.1, .int .i64 (qs k).2.2.1, .int .i64 (qs k).2.2.2]] w fun e w' => e = .returned (.tuple #[]) ∧ (w'.heap[b0]? = some (.cells (toC (quarterL L (qs k))) 43 (0, 0)) ∧ Fr b0 w w') := by
  obtain ⟨l0, l1, l2, l3, n01, n02, n03, n12, n13, n23⟩ := qs_ok k hk
  have g0 := toC_getD L _ (show (qs k).1 < L.length by omega)
  have g1 := toC_getD L _ (show (qs k).2.1 < L.length by omega)
  have g2 := toC_getD L _ (show (qs k).2.2.1 < L.length by omega)
  have g3 := toC_getD L _ (show (qs k).2.2.2 < L.length by omega)
  refine (mix_any b0 (toC L) _ _ _ _ _ _ _ _ w hb (by rw [toC_size, hL]) hg l0 l1 l2 l3 n01 n02 n03 n12 n13 n23 g0 g1 g2 g3).mono ?_
  rintro e w' ⟨he, C', hc, hz, ⟨e0, e1, e2, e3⟩, ho, fr⟩
  refine ⟨he, ?_, fr⟩
  rw [hc]
  have : C' = toC (quarterL L (qs k)) := by
    refine ext16 hz (by rw [toC_size, quarterL_len, hL]) fun j hj => ?_
    rw [toC_getD _ _ (by rw [quarterL_len]; omega)]
    have R : ∀ v, (quarterL L (qs k))[j]? = some v → (quarterL L (qs k)).getD j 0 = v := fun v h => by simp [List.getD, h]
    by_cases h0 : j = (qs k).1
    · subst h0; rw [e0, R (qrAt L (qs k)).1]; rfl
      unfold quarterL
      rw [List.getElem?_set_ne (by omega), List.getElem?_set_ne (by omega), List.getElem?_set_ne (by omega), List.getElem?_set_self (by omega)]
    by_cases h1 : j = (qs k).2.1
    · subst h1; rw [e1, R (qrAt L (qs k)).2.1]; rfl
      unfold quarterL
      rw [List.getElem?_set_ne (by omega), List.getElem?_set_ne (by omega), List.getElem?_set_self (by simp; omega)]
    by_cases h2 : j = (qs k).2.2.1
    · subst h2; rw [e2, R (qrAt L (qs k)).2.2.1]; rfl
      unfold quarterL
      rw [List.getElem?_set_ne (by omega), List.getElem?_set_self (by simp; omega)]
    by_cases h3 : j = (qs k).2.2.2
    · subst h3; rw [e3, R (qrAt L (qs k)).2.2.2]; rfl
      unfold quarterL
      rw [List.getElem?_set_self (by simp; omega)]
    · rw [ho j h0 h1 h2 h3, toC_getD L j (by omega), R (L.getD j 0)]
      unfold quarterL
      rw [List.getElem?_set_ne (by omega), List.getElem?_set_ne (by omega), List.getElem?_set_ne (by omega), List.getElem?_set_ne (by omega)]
      rw [List.getElem?_eq_getElem (show j < L.length by omega)]; simp [List.getD, List.getElem?_eq_getElem (show j < L.length by omega)]
  rw [this]

/-- The first state. -/
def firstL (K : Array Value) (ctr : Int) (V : Array Value) : List Int :=
  [1634760805, 857760878, 2036477234, 1797285236, word4 K 0, word4 K 1, word4 K 2, word4 K 3, word4 K 4, word4 K 5, word4 K 6, word4 K 7, ctr, word4 V 0, word4 V 1, word4 V 2]
def beginsC : Array Value := #[.int .u32 1634760805, .int .u32 857760878, .int .u32 2036477234, .int .u32 1797285236]
def zerosC : Array Value := toC [1634760805, 857760878, 2036477234, 1797285236, 0, 0, 0, 0, 0, 0, 0, 0, 0, 0, 0, 0]

theorem first_of {K V : Array Value} {ctr : Int} {C8 C C3 : Array Value} (e8 : ∀ j, j < 8 → C8[4 + j]? = some (.int .u32 (word4 K j))) (o8 : ∀ j, j < 4 ∨ 4 + 8 ≤ j → C8[j]? = zerosC[j]?) (hz8 : C8.size = 16)
    (hC : C8.setIfInBounds 12 (.int .u32 ctr) = C) (e3 : ∀ j, j < 3 → C3[13 + j]? = some (.int .u32 (word4 V j))) (o3 : ∀ j, j < 13 ∨ 13 + 3 ≤ j → C3[j]? = C[j]?) (hz3 : C3.size = 16) : C3 = toC (firstL K ctr V) := by
  refine ext16 hz3 rfl fun j hj => ?_
  by_cases h13 : 13 ≤ j
  · obtain ⟨m, rfl⟩ : ∃ m, j = 13 + m := ⟨j - 13, by omega⟩
    rw [e3 m (by omega)]
    rcases m with _ | _ | _ | m
    · rfl
    · rfl
    · rfl
    · omega
  · rw [o3 j (by omega), ← hC]
    by_cases h12 : j = 12
    · subst h12; rw [set_same hz8 (by omega)]; rfl
    · rw [set_other (by omega)]
      by_cases h4 : 4 ≤ j
      · obtain ⟨m, rfl⟩ : ∃ m, j = 4 + m := ⟨j - 4, by omega⟩
        rw [e8 m (by omega)]
        rcases m with _ | _ | _ | _ | _ | _ | _ | _ | m
        all_goals first | rfl | omega
      · rw [o8 j (by omega)]
        rcases j with _ | _ | _ | _ | j
        all_goals first | rfl | omega

/-- The bytes told. -/
def sumN (F S : List Int) (i : Nat) : Int := (S.getD i 0 + F.getD i 0) % 4294967296
def p256 : Nat → Int | 0 => 1 | 1 => 256 | 2 => 65536 | _ => 16777216
def outN (F S : List Int) (m : Nat) : Int := sumN F S (m / 4) / p256 (m % 4) % 256
def outL (F S : List Int) : List Int := (List.range 64).map (outN F S)
def blockL (K : Array Value) (ctr : Int) (V : Array Value) : List Int := outL (firstL K ctr V) (roundsL 10 (firstL K ctr V))
theorem outL_get (F S : List Int) (j : Nat) (h : j < 64) : (toB (outL F S))[j]? = some (.int .u8 (outN F S j)) := by
  rw [toB_get]; simp [outL, h]
theorem blockL_len (K ctr V) : (blockL K ctr V).length = 64 := by simp [blockL, outL]

end Go.Proofs.YtlpfmehcghhdcaaDoor.XB
