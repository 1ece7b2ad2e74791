/- The document's quarter as a function of Lean, and a proof that the Go code comes to it: no condition but that each number is of its kind. -/
import Derived.Test.YtlpfmehcghhdcaaDoorX1
namespace Go.Proofs.YtlpfmehcghhdcaaDoor.XB
open Go.RowKit Go.Proofs.YtlpfmehcghhdcaaDoorW.PrintWords Go.Proofs.YtlpfmehcghhdcaaDoorW.PrintLast Go.Proofs.YtlpfmehcghhdcaaDoorW.PrintMore PChachaTells
attribute [local go_sem] max2_int min2_int max_two min_two max_three min_three max_four min_four   -- for this text's walks alone
set_option linter.unusedVariables false
set_option linter.unusedSimpArgs false
theorem setCell_drewN' (w : World) (n : Nat) (a : Addr) (v : Value) : (w.drewN n).setCell a v = (w.setCell a v).drewN n := rfl

/-! ### hourglassref05_quarter: function 22 -/
def hourglassref05_quarter.f (l0 : List Int) (a1 : Int) (a2 : Int) (a3 : Int) (a4 : Int) : Option (List Int) := (some (([] : List Int) : List Int)).bind fun y110 => (if y110.length + l0.length < 35184372088832 then ((some (y110 ++ l0 : List Int)).bind fun y113 => (if 0 ≤ a1 then (if a1 < (y113.length : Int) then (if 0 ≤ a2 then (if a2 < (y113.length : Int) then ((some (y113.set (a1 : Int).toNat (((rd y113 a1) + (rd y113 a2)) % 4294967296) : List Int)).bind fun y118 => (if 0 ≤ a4 then (if a4 < (y113.length : Int) then ((hourglassref05_left.f (Go.bits .xor .u32 (rd y118 a4) (rd y118 a1)) 16).bind fun t121 => ((some (y118.set (a4 : Int).toNat t121 : List Int)).bind fun y122 => (if 0 ≤ a3 then (if a3 < (y113.length : Int) then ((some (y122.set (a3 : Int).toNat (((rd y122 a3) + (rd y122 a4)) % 4294967296) : List Int)).bind fun y125 => ((hourglassref05_left.f (Go.bits .xor .u32 (rd y125 a2) (rd y125 a3)) 12).bind fun t128 => ((some (y125.set (a2 : Int).toNat t128 : List Int)).bind fun y129 => ((some (y129.set (a1 : Int).toNat (((rd y129 a1) + (rd y129 a2)) % 4294967296) : List Int)).bind fun y132 => ((hourglassref05_left.f (Go.bits .xor .u32 (rd y132 a4) (rd y132 a1)) 8).bind fun t135 => ((some (y132.set (a4 : Int).toNat t135 : List Int)).bind fun y136 => ((some (y136.set (a3 : Int).toNat (((rd y136 a3) + (rd y136 a4)) % 4294967296) : List Int)).bind fun y139 => ((hourglassref05_left.f (Go.bits .xor .u32 (rd y139 a2) (rd y139 a3)) 7).bind fun t142 => (some (y139.set (a2 : Int).toNat t142)))))))))) else (none)) else (none)))) else (none)) else (none))) else (none)) else (none)) else (none)) else (none))) else (none))
def hourglassref05_quarter.T2 : Bool × List (List Nat × List Nat) := (true, [([], []), ([], []), ([], []), ([], []), ([2, 3], [2, 3]), ([4], [4]), ([], []), ([], []), ([6, 7], [6, 7]), ([8], [8]), ([5, 9], [5, 9]), ([0, 1, 0, 1, 2, 3, 4, 5, 6, 7, 8, 9, 10], [0, 1]), ([11, 10, 0, 1, 2, 3, 4, 5, 6, 7, 8, 9, 10], [10, 11])])
def hourglassref05_quarter.B2 : List Nat := [0, 0, 0, 0, 12, 28, 0, 0, 192, 448, 1020, 2047, 4095]
theorem hourglassref05_quarter.tab2 : rtab .any (opsOf Tryd.f22 2) = hourglassref05_quarter.T2 := by kernel_rfl
theorem hourglassref05_quarter.bits2 : waitsOk hourglassref05_quarter.T2.2 hourglassref05_quarter.B2 = true := by kernel_rfl
def hourglassref05_quarter.T3 : Bool × List (List Nat × List Nat) := (true, [([], []), ([], []), ([], []), ([], []), ([2, 3], [2, 3]), ([4], [4]), ([], []), ([], []), ([6, 7], [6, 7]), ([8], [8]), ([5, 9], [5, 9]), ([10], [10]), ([0, 1, 0, 1, 2, 3, 4, 5, 6, 7, 8, 9, 10, 11], [0, 1]), ([12, 11, 11, 0, 1, 2, 3, 4, 5, 6, 7, 8, 9, 10, 11], [11, 12])])
def hourglassref05_quarter.B3 : List Nat := [0, 0, 0, 0, 12, 28, 0, 0, 192, 448, 1020, 2044, 4095, 8191]
theorem hourglassref05_quarter.tab3 : rtab .any (opsOf Tryd.f22 3) = hourglassref05_quarter.T3 := by kernel_rfl
theorem hourglassref05_quarter.bits3 : waitsOk hourglassref05_quarter.T3.2 hourglassref05_quarter.B3 = true := by kernel_rfl
def hourglassref05_quarter.T4 : Bool × List (List Nat × List Nat) := (true, [([], []), ([], []), ([], []), ([], []), ([2, 3], [2, 3]), ([4], [4]), ([], []), ([], []), ([6, 7], [6, 7]), ([8], [8]), ([5, 9], [5, 9]), ([0, 1, 0, 1, 2, 3, 4, 5, 6, 7, 8, 9, 10], [0, 1]), ([11, 10, 0, 1, 2, 3, 4, 5, 6, 7, 8, 9, 10], [10, 11])])
def hourglassref05_quarter.B4 : List Nat := [0, 0, 0, 0, 12, 28, 0, 0, 192, 448, 1020, 2047, 4095]
theorem hourglassref05_quarter.tab4 : rtab .any (opsOf Tryd.f22 4) = hourglassref05_quarter.T4 := by kernel_rfl
theorem hourglassref05_quarter.bits4 : waitsOk hourglassref05_quarter.T4.2 hourglassref05_quarter.B4 = true := by kernel_rfl
def hourglassref05_quarter.T5 : Bool × List (List Nat × List Nat) := (true, [([], []), ([], []), ([], []), ([], []), ([2, 3], [2, 3]), ([4], [4]), ([], []), ([], []), ([6, 7], [6, 7]), ([8], [8]), ([5, 9], [5, 9]), ([10], [10]), ([0, 1, 0, 1, 2, 3, 4, 5, 6, 7, 8, 9, 10, 11], [0, 1]), ([12, 11, 11, 0, 1, 2, 3, 4, 5, 6, 7, 8, 9, 10, 11], [11, 12])])
def hourglassref05_quarter.B5 : List Nat := [0, 0, 0, 0, 12, 28, 0, 0, 192, 448, 1020, 2044, 4095, 8191]
theorem hourglassref05_quarter.tab5 : rtab .any (opsOf Tryd.f22 5) = hourglassref05_quarter.T5 := by kernel_rfl
theorem hourglassref05_quarter.bits5 : waitsOk hourglassref05_quarter.T5.2 hourglassref05_quarter.B5 = true := by kernel_rfl
def hourglassref05_quarter.T6 : Bool × List (List Nat × List Nat) := (true, [([], []), ([], []), ([], []), ([], []), ([2, 3], [2, 3]), ([4], [4]), ([], []), ([], []), ([6, 7], [6, 7]), ([8], [8]), ([5, 9], [5, 9]), ([0, 1, 0, 1, 2, 3, 4, 5, 6, 7, 8, 9, 10], [0, 1]), ([11, 10, 0, 1, 2, 3, 4, 5, 6, 7, 8, 9, 10], [10, 11])])
def hourglassref05_quarter.B6 : List Nat := [0, 0, 0, 0, 12, 28, 0, 0, 192, 448, 1020, 2047, 4095]
theorem hourglassref05_quarter.tab6 : rtab .any (opsOf Tryd.f22 6) = hourglassref05_quarter.T6 := by kernel_rfl
theorem hourglassref05_quarter.bits6 : waitsOk hourglassref05_quarter.T6.2 hourglassref05_quarter.B6 = true := by kernel_rfl
def hourglassref05_quarter.T7 : Bool × List (List Nat × List Nat) := (true, [([], []), ([], []), ([], []), ([], []), ([2, 3], [2, 3]), ([4], [4]), ([], []), ([], []), ([6, 7], [6, 7]), ([8], [8]), ([5, 9], [5, 9]), ([10], [10]), ([0, 1, 0, 1, 2, 3, 4, 5, 6, 7, 8, 9, 10, 11], [0, 1]), ([12, 11, 11, 0, 1, 2, 3, 4, 5, 6, 7, 8, 9, 10, 11], [11, 12])])
def hourglassref05_quarter.B7 : List Nat := [0, 0, 0, 0, 12, 28, 0, 0, 192, 448, 1020, 2044, 4095, 8191]
theorem hourglassref05_quarter.tab7 : rtab .any (opsOf Tryd.f22 7) = hourglassref05_quarter.T7 := by kernel_rfl
theorem hourglassref05_quarter.bits7 : waitsOk hourglassref05_quarter.T7.2 hourglassref05_quarter.B7 = true := by kernel_rfl
def hourglassref05_quarter.T8 : Bool × List (List Nat × List Nat) := (true, [([], []), ([], []), ([], []), ([], []), ([2, 3], [2, 3]), ([4], [4]), ([], []), ([], []), ([6, 7], [6, 7]), ([8], [8]), ([5, 9], [5, 9]), ([0, 1, 0, 1, 2, 3, 4, 5, 6, 7, 8, 9, 10], [0, 1]), ([11, 10, 0, 1, 2, 3, 4, 5, 6, 7, 8, 9, 10], [10, 11])])
def hourglassref05_quarter.B8 : List Nat := [0, 0, 0, 0, 12, 28, 0, 0, 192, 448, 1020, 2047, 4095]
theorem hourglassref05_quarter.tab8 : rtab .any (opsOf Tryd.f22 8) = hourglassref05_quarter.T8 := by kernel_rfl
theorem hourglassref05_quarter.bits8 : waitsOk hourglassref05_quarter.T8.2 hourglassref05_quarter.B8 = true := by kernel_rfl
def hourglassref05_quarter.T9 : Bool × List (List Nat × List Nat) := (true, [([], []), ([], []), ([], []), ([], []), ([2, 3], [2, 3]), ([4], [4]), ([], []), ([], []), ([6, 7], [6, 7]), ([8], [8]), ([5, 9], [5, 9]), ([10], [10]), ([0, 1, 0, 1, 2, 3, 4, 5, 6, 7, 8, 9, 10, 11], [0, 1]), ([12, 11, 11, 0, 1, 2, 3, 4, 5, 6, 7, 8, 9, 10, 11], [11, 12])])
def hourglassref05_quarter.B9 : List Nat := [0, 0, 0, 0, 12, 28, 0, 0, 192, 448, 1020, 2044, 4095, 8191]
theorem hourglassref05_quarter.tab9 : rtab .any (opsOf Tryd.f22 9) = hourglassref05_quarter.T9 := by kernel_rfl
theorem hourglassref05_quarter.bits9 : waitsOk hourglassref05_quarter.T9.2 hourglassref05_quarter.B9 = true := by kernel_rfl
set_option maxHeartbeats 8000000 in
set_option maxRecDepth 100000 in
theorem hourglassref05_quarter.calls (A0 : Option Addr) (c0 : Nat) (l0 : List Int) (a1 : Int) (a2 : Int) (a3 : Int) (a4 : Int) (r : List Int) (w : World) (hr0 : Kd.C (Kd.int .u32) w A0 l0.length l0) (hc0 : l0.length ≤ c0) (h : hourglassref05_quarter.f l0 a1 a2 a3 a4 = some r) :
    Calls Tryd.prog 22 #[.slice A0 l0.length c0, .int .i64 a1, .int .i64 a2, .int .i64 a3, .int .i64 a4] w fun e w' => ∃ v0_ : Value, e = .returned (v0_) ∧ Kd.R (Kd.int .u32) 31 w' w.heap.size (fun _ => True) v0_ r ∧ Below w.heap.size w w' := by
  have HR0 := Aside0.mk hr0
  have HC0 := Aside0.mk hc0
  clear hr0 hc0
  have HB := Aside0.mk (Below.refl w.heap.size w)
  have H : ((some (([] : List Int) : List Int)).bind fun y110 => (if y110.length + l0.length < 35184372088832 then ((some (y110 ++ l0 : List Int)).bind fun y113 => (if 0 ≤ a1 then (if a1 < (y113.length : Int) then (if 0 ≤ a2 then (if a2 < (y113.length : Int) then ((some (y113.set (a1 : Int).toNat (((rd y113 a1) + (rd y113 a2)) % 4294967296) : List Int)).bind fun y118 => (if 0 ≤ a4 then (if a4 < (y113.length : Int) then ((hourglassref05_left.f (Go.bits .xor .u32 (rd y118 a4) (rd y118 a1)) 16).bind fun t121 => ((some (y118.set (a4 : Int).toNat t121 : List Int)).bind fun y122 => (if 0 ≤ a3 then (if a3 < (y113.length : Int) then ((some (y122.set (a3 : Int).toNat (((rd y122 a3) + (rd y122 a4)) % 4294967296) : List Int)).bind fun y125 => ((hourglassref05_left.f (Go.bits .xor .u32 (rd y125 a2) (rd y125 a3)) 12).bind fun t128 => ((some (y125.set (a2 : Int).toNat t128 : List Int)).bind fun y129 => ((some (y129.set (a1 : Int).toNat (((rd y129 a1) + (rd y129 a2)) % 4294967296) : List Int)).bind fun y132 => ((hourglassref05_left.f (Go.bits .xor .u32 (rd y132 a4) (rd y132 a1)) 8).bind fun t135 => ((some (y132.set (a4 : Int).toNat t135 : List Int)).bind fun y136 => ((some (y136.set (a3 : Int).toNat (((rd y136 a3) + (rd y136 a4)) % 4294967296) : List Int)).bind fun y139 => ((hourglassref05_left.f (Go.bits .xor .u32 (rd y139 a2) (rd y139 a3)) 7).bind fun t142 => (some (y139.set (a2 : Int).toNat t142)))))))))) else (none)) else (none)))) else (none)) else (none))) else (none)) else (none)) else (none)) else (none))) else (none))) = some r := h
  clear h
  obtain ⟨y110, hy110⟩ : ∃ y_ : List Int, y_ = (([] : List Int)) := ⟨_, rfl⟩
  replace H : (if y110.length + l0.length < 35184372088832 then ((some (y110 ++ l0 : List Int)).bind fun y113 => (if 0 ≤ a1 then (if a1 < (y113.length : Int) then (if 0 ≤ a2 then (if a2 < (y113.length : Int) then ((some (y113.set (a1 : Int).toNat (((rd y113 a1) + (rd y113 a2)) % 4294967296) : List Int)).bind fun y118 => (if 0 ≤ a4 then (if a4 < (y113.length : Int) then ((hourglassref05_left.f (Go.bits .xor .u32 (rd y118 a4) (rd y118 a1)) 16).bind fun t121 => ((some (y118.set (a4 : Int).toNat t121 : List Int)).bind fun y122 => (if 0 ≤ a3 then (if a3 < (y113.length : Int) then ((some (y122.set (a3 : Int).toNat (((rd y122 a3) + (rd y122 a4)) % 4294967296) : List Int)).bind fun y125 => ((hourglassref05_left.f (Go.bits .xor .u32 (rd y125 a2) (rd y125 a3)) 12).bind fun t128 => ((some (y125.set (a2 : Int).toNat t128 : List Int)).bind fun y129 => ((some (y129.set (a1 : Int).toNat (((rd y129 a1) + (rd y129 a2)) % 4294967296) : List Int)).bind fun y132 => ((hourglassref05_left.f (Go.bits .xor .u32 (rd y132 a4) (rd y132 a1)) 8).bind fun t135 => ((some (y132.set (a4 : Int).toNat t135 : List Int)).bind fun y136 => ((some (y136.set (a3 : Int).toNat (((rd y136 a3) + (rd y136 a4)) % 4294967296) : List Int)).bind fun y139 => ((hourglassref05_left.f (Go.bits .xor .u32 (rd y139 a2) (rd y139 a3)) 7).bind fun t142 => (some (y139.set (a2 : Int).toNat t142)))))))))) else (none)) else (none)))) else (none)) else (none))) else (none)) else (none)) else (none)) else (none))) else (none)) = some r := by first | (rw [hy110]; with_reducible exact H) | (have H2_ := (Option.bind_some _ _).symm.trans H; rw [hy110]; with_reducible exact H2_) | (have H2_ := (Option.bind_some _ _).symm.trans H; with_reducible exact H2_) | with_reducible exact H | (rw [hy110]; exact H) | exact H
  have Ny110 := Aside0.mk hy110
  clear hy110
  by_cases c6 : y110.length + l0.length < 35184372088832
  · rw [if_pos c6] at H
    have LMc6 := Aside0.mk c6
    clear c6
    obtain ⟨y113, hy113⟩ : ∃ y_ : List Int, y_ = (y110 ++ l0) := ⟨_, rfl⟩
    replace H : (if 0 ≤ a1 then (if a1 < (y113.length : Int) then (if 0 ≤ a2 then (if a2 < (y113.length : Int) then ((some (y113.set (a1 : Int).toNat (((rd y113 a1) + (rd y113 a2)) % 4294967296) : List Int)).bind fun y118 => (if 0 ≤ a4 then (if a4 < (y113.length : Int) then ((hourglassref05_left.f (Go.bits .xor .u32 (rd y118 a4) (rd y118 a1)) 16).bind fun t121 => ((some (y118.set (a4 : Int).toNat t121 : List Int)).bind fun y122 => (if 0 ≤ a3 then (if a3 < (y113.length : Int) then ((some (y122.set (a3 : Int).toNat (((rd y122 a3) + (rd y122 a4)) % 4294967296) : List Int)).bind fun y125 => ((hourglassref05_left.f (Go.bits .xor .u32 (rd y125 a2) (rd y125 a3)) 12).bind fun t128 => ((some (y125.set (a2 : Int).toNat t128 : List Int)).bind fun y129 => ((some (y129.set (a1 : Int).toNat (((rd y129 a1) + (rd y129 a2)) % 4294967296) : List Int)).bind fun y132 => ((hourglassref05_left.f (Go.bits .xor .u32 (rd y132 a4) (rd y132 a1)) 8).bind fun t135 => ((some (y132.set (a4 : Int).toNat t135 : List Int)).bind fun y136 => ((some (y136.set (a3 : Int).toNat (((rd y136 a3) + (rd y136 a4)) % 4294967296) : List Int)).bind fun y139 => ((hourglassref05_left.f (Go.bits .xor .u32 (rd y139 a2) (rd y139 a3)) 7).bind fun t142 => (some (y139.set (a2 : Int).toNat t142)))))))))) else (none)) else (none)))) else (none)) else (none))) else (none)) else (none)) else (none)) else (none)) = some r := by first | (rw [hy113]; with_reducible exact H) | (have H2_ := (Option.bind_some _ _).symm.trans H; rw [hy113]; with_reducible exact H2_) | (have H2_ := (Option.bind_some _ _).symm.trans H; with_reducible exact H2_) | with_reducible exact H | (rw [hy113]; exact H) | exact H
    have Ny113 := Aside0.mk hy113
    clear hy113
    by_cases c7 : 0 ≤ a1
    · rw [if_pos c7] at H
      have c7b0 : decide (0 ≤ a1) = true := decide_eq_true c7
      clear c7
      by_cases c8 : a1 < (y113.length : Int)
      · rw [if_pos c8] at H
        have c8b0 : decide (a1 < (y113.length : Int)) = true := decide_eq_true c8
        clear c8
        by_cases c9 : 0 ≤ a2
        · rw [if_pos c9] at H
          have c9b0 : decide (0 ≤ a2) = true := decide_eq_true c9
          clear c9
          by_cases c10 : a2 < (y113.length : Int)
          · rw [if_pos c10] at H
            have c10b0 : decide (a2 < (y113.length : Int)) = true := decide_eq_true c10
            clear c10
            obtain ⟨y118, hy118⟩ : ∃ y_ : List Int, y_ = (y113.set (a1 : Int).toNat (((rd y113 a1) + (rd y113 a2)) % 4294967296)) := ⟨_, rfl⟩
            replace H : (if 0 ≤ a4 then (if a4 < (y113.length : Int) then ((hourglassref05_left.f (Go.bits .xor .u32 (rd y118 a4) (rd y118 a1)) 16).bind fun t121 => ((some (y118.set (a4 : Int).toNat t121 : List Int)).bind fun y122 => (if 0 ≤ a3 then (if a3 < (y113.length : Int) then ((some (y122.set (a3 : Int).toNat (((rd y122 a3) + (rd y122 a4)) % 4294967296) : List Int)).bind fun y125 => ((hourglassref05_left.f (Go.bits .xor .u32 (rd y125 a2) (rd y125 a3)) 12).bind fun t128 => ((some (y125.set (a2 : Int).toNat t128 : List Int)).bind fun y129 => ((some (y129.set (a1 : Int).toNat (((rd y129 a1) + (rd y129 a2)) % 4294967296) : List Int)).bind fun y132 => ((hourglassref05_left.f (Go.bits .xor .u32 (rd y132 a4) (rd y132 a1)) 8).bind fun t135 => ((some (y132.set (a4 : Int).toNat t135 : List Int)).bind fun y136 => ((some (y136.set (a3 : Int).toNat (((rd y136 a3) + (rd y136 a4)) % 4294967296) : List Int)).bind fun y139 => ((hourglassref05_left.f (Go.bits .xor .u32 (rd y139 a2) (rd y139 a3)) 7).bind fun t142 => (some (y139.set (a2 : Int).toNat t142)))))))))) else (none)) else (none)))) else (none)) else (none)) = some r := by first | (rw [hy118]; with_reducible exact H) | (have H2_ := (Option.bind_some _ _).symm.trans H; rw [hy118]; with_reducible exact H2_) | (have H2_ := (Option.bind_some _ _).symm.trans H; with_reducible exact H2_) | with_reducible exact H | (rw [hy118]; exact H) | exact H
            have Ny118 := Aside0.mk hy118
            clear hy118
            by_cases c12 : 0 ≤ a4
            · rw [if_pos c12] at H
              have c12b0 : decide (0 ≤ a4) = true := decide_eq_true c12
              clear c12
              by_cases c13 : a4 < (y113.length : Int)
              · rw [if_pos c13] at H
                have c13b0 : decide (a4 < (y113.length : Int)) = true := decide_eq_true c13
                clear c13
                replace H := Option.bind_eq_some_iff.mp H
                obtain ⟨t121, A140, H⟩ := H
                replace H : ((some (y118.set (a4 : Int).toNat t121 : List Int)).bind fun y122 => (if 0 ≤ a3 then (if a3 < (y113.length : Int) then ((some (y122.set (a3 : Int).toNat (((rd y122 a3) + (rd y122 a4)) % 4294967296) : List Int)).bind fun y125 => ((hourglassref05_left.f (Go.bits .xor .u32 (rd y125 a2) (rd y125 a3)) 12).bind fun t128 => ((some (y125.set (a2 : Int).toNat t128 : List Int)).bind fun y129 => ((some (y129.set (a1 : Int).toNat (((rd y129 a1) + (rd y129 a2)) % 4294967296) : List Int)).bind fun y132 => ((hourglassref05_left.f (Go.bits .xor .u32 (rd y132 a4) (rd y132 a1)) 8).bind fun t135 => ((some (y132.set (a4 : Int).toNat t135 : List Int)).bind fun y136 => ((some (y136.set (a3 : Int).toNat (((rd y136 a3) + (rd y136 a4)) % 4294967296) : List Int)).bind fun y139 => ((hourglassref05_left.f (Go.bits .xor .u32 (rd y139 a2) (rd y139 a3)) 7).bind fun t142 => (some (y139.set (a2 : Int).toNat t142)))))))))) else (none)) else (none))) = some r := H
                have A14 := Aside0.mk A140
                clear A140
                obtain ⟨y122, hy122⟩ : ∃ y_ : List Int, y_ = (y118.set (a4 : Int).toNat t121) := ⟨_, rfl⟩
                replace H : (if 0 ≤ a3 then (if a3 < (y113.length : Int) then ((some (y122.set (a3 : Int).toNat (((rd y122 a3) + (rd y122 a4)) % 4294967296) : List Int)).bind fun y125 => ((hourglassref05_left.f (Go.bits .xor .u32 (rd y125 a2) (rd y125 a3)) 12).bind fun t128 => ((some (y125.set (a2 : Int).toNat t128 : List Int)).bind fun y129 => ((some (y129.set (a1 : Int).toNat (((rd y129 a1) + (rd y129 a2)) % 4294967296) : List Int)).bind fun y132 => ((hourglassref05_left.f (Go.bits .xor .u32 (rd y132 a4) (rd y132 a1)) 8).bind fun t135 => ((some (y132.set (a4 : Int).toNat t135 : List Int)).bind fun y136 => ((some (y136.set (a3 : Int).toNat (((rd y136 a3) + (rd y136 a4)) % 4294967296) : List Int)).bind fun y139 => ((hourglassref05_left.f (Go.bits .xor .u32 (rd y139 a2) (rd y139 a3)) 7).bind fun t142 => (some (y139.set (a2 : Int).toNat t142)))))))))) else (none)) else (none)) = some r := by first | (rw [hy122]; with_reducible exact H) | (have H2_ := (Option.bind_some _ _).symm.trans H; rw [hy122]; with_reducible exact H2_) | (have H2_ := (Option.bind_some _ _).symm.trans H; with_reducible exact H2_) | with_reducible exact H | (rw [hy122]; exact H) | exact H
                have Ny122 := Aside0.mk hy122
                clear hy122
                by_cases c16 : 0 ≤ a3
                · rw [if_pos c16] at H
                  have c16b0 : decide (0 ≤ a3) = true := decide_eq_true c16
                  clear c16
                  by_cases c17 : a3 < (y113.length : Int)
                  · rw [if_pos c17] at H
                    have c17b0 : decide (a3 < (y113.length : Int)) = true := decide_eq_true c17
                    clear c17
                    obtain ⟨y125, hy125⟩ : ∃ y_ : List Int, y_ = (y122.set (a3 : Int).toNat (((rd y122 a3) + (rd y122 a4)) % 4294967296)) := ⟨_, rfl⟩
                    replace H : ((hourglassref05_left.f (Go.bits .xor .u32 (rd y125 a2) (rd y125 a3)) 12).bind fun t128 => ((some (y125.set (a2 : Int).toNat t128 : List Int)).bind fun y129 => ((some (y129.set (a1 : Int).toNat (((rd y129 a1) + (rd y129 a2)) % 4294967296) : List Int)).bind fun y132 => ((hourglassref05_left.f (Go.bits .xor .u32 (rd y132 a4) (rd y132 a1)) 8).bind fun t135 => ((some (y132.set (a4 : Int).toNat t135 : List Int)).bind fun y136 => ((some (y136.set (a3 : Int).toNat (((rd y136 a3) + (rd y136 a4)) % 4294967296) : List Int)).bind fun y139 => ((hourglassref05_left.f (Go.bits .xor .u32 (rd y139 a2) (rd y139 a3)) 7).bind fun t142 => (some (y139.set (a2 : Int).toNat t142))))))))) = some r := by first | (rw [hy125]; with_reducible exact H) | (have H2_ := (Option.bind_some _ _).symm.trans H; rw [hy125]; with_reducible exact H2_) | (have H2_ := (Option.bind_some _ _).symm.trans H; with_reducible exact H2_) | with_reducible exact H | (rw [hy125]; exact H) | exact H
                    have Ny125 := Aside0.mk hy125
                    clear hy125
                    replace H := Option.bind_eq_some_iff.mp H
                    obtain ⟨t128, A190, H⟩ := H
                    replace H : ((some (y125.set (a2 : Int).toNat t128 : List Int)).bind fun y129 => ((some (y129.set (a1 : Int).toNat (((rd y129 a1) + (rd y129 a2)) % 4294967296) : List Int)).bind fun y132 => ((hourglassref05_left.f (Go.bits .xor .u32 (rd y132 a4) (rd y132 a1)) 8).bind fun t135 => ((some (y132.set (a4 : Int).toNat t135 : List Int)).bind fun y136 => ((some (y136.set (a3 : Int).toNat (((rd y136 a3) + (rd y136 a4)) % 4294967296) : List Int)).bind fun y139 => ((hourglassref05_left.f (Go.bits .xor .u32 (rd y139 a2) (rd y139 a3)) 7).bind fun t142 => (some (y139.set (a2 : Int).toNat t142)))))))) = some r := H
                    have A19 := Aside0.mk A190
                    clear A190
                    obtain ⟨y129, hy129⟩ : ∃ y_ : List Int, y_ = (y125.set (a2 : Int).toNat t128) := ⟨_, rfl⟩
                    replace H : ((some (y129.set (a1 : Int).toNat (((rd y129 a1) + (rd y129 a2)) % 4294967296) : List Int)).bind fun y132 => ((hourglassref05_left.f (Go.bits .xor .u32 (rd y132 a4) (rd y132 a1)) 8).bind fun t135 => ((some (y132.set (a4 : Int).toNat t135 : List Int)).bind fun y136 => ((some (y136.set (a3 : Int).toNat (((rd y136 a3) + (rd y136 a4)) % 4294967296) : List Int)).bind fun y139 => ((hourglassref05_left.f (Go.bits .xor .u32 (rd y139 a2) (rd y139 a3)) 7).bind fun t142 => (some (y139.set (a2 : Int).toNat t142))))))) = some r := by first | (rw [hy129]; with_reducible exact H) | (have H2_ := (Option.bind_some _ _).symm.trans H; rw [hy129]; with_reducible exact H2_) | (have H2_ := (Option.bind_some _ _).symm.trans H; with_reducible exact H2_) | with_reducible exact H | (rw [hy129]; exact H) | exact H
                    have Ny129 := Aside0.mk hy129
                    clear hy129
                    obtain ⟨y132, hy132⟩ : ∃ y_ : List Int, y_ = (y129.set (a1 : Int).toNat (((rd y129 a1) + (rd y129 a2)) % 4294967296)) := ⟨_, rfl⟩
                    replace H : ((hourglassref05_left.f (Go.bits .xor .u32 (rd y132 a4) (rd y132 a1)) 8).bind fun t135 => ((some (y132.set (a4 : Int).toNat t135 : List Int)).bind fun y136 => ((some (y136.set (a3 : Int).toNat (((rd y136 a3) + (rd y136 a4)) % 4294967296) : List Int)).bind fun y139 => ((hourglassref05_left.f (Go.bits .xor .u32 (rd y139 a2) (rd y139 a3)) 7).bind fun t142 => (some (y139.set (a2 : Int).toNat t142)))))) = some r := by first | (rw [hy132]; with_reducible exact H) | (have H2_ := (Option.bind_some _ _).symm.trans H; rw [hy132]; with_reducible exact H2_) | (have H2_ := (Option.bind_some _ _).symm.trans H; with_reducible exact H2_) | with_reducible exact H | (rw [hy132]; exact H) | exact H
                    have Ny132 := Aside0.mk hy132
                    clear hy132
                    replace H := Option.bind_eq_some_iff.mp H
                    obtain ⟨t135, A220, H⟩ := H
                    replace H : ((some (y132.set (a4 : Int).toNat t135 : List Int)).bind fun y136 => ((some (y136.set (a3 : Int).toNat (((rd y136 a3) + (rd y136 a4)) % 4294967296) : List Int)).bind fun y139 => ((hourglassref05_left.f (Go.bits .xor .u32 (rd y139 a2) (rd y139 a3)) 7).bind fun t142 => (some (y139.set (a2 : Int).toNat t142))))) = some r := H
                    have A22 := Aside0.mk A220
                    clear A220
                    obtain ⟨y136, hy136⟩ : ∃ y_ : List Int, y_ = (y132.set (a4 : Int).toNat t135) := ⟨_, rfl⟩
                    replace H : ((some (y136.set (a3 : Int).toNat (((rd y136 a3) + (rd y136 a4)) % 4294967296) : List Int)).bind fun y139 => ((hourglassref05_left.f (Go.bits .xor .u32 (rd y139 a2) (rd y139 a3)) 7).bind fun t142 => (some (y139.set (a2 : Int).toNat t142)))) = some r := by first | (rw [hy136]; with_reducible exact H) | (have H2_ := (Option.bind_some _ _).symm.trans H; rw [hy136]; with_reducible exact H2_) | (have H2_ := (Option.bind_some _ _).symm.trans H; with_reducible exact H2_) | with_reducible exact H | (rw [hy136]; exact H) | exact H
                    have Ny136 := Aside0.mk hy136
                    clear hy136
                    obtain ⟨y139, hy139⟩ : ∃ y_ : List Int, y_ = (y136.set (a3 : Int).toNat (((rd y136 a3) + (rd y136 a4)) % 4294967296)) := ⟨_, rfl⟩
                    replace H : ((hourglassref05_left.f (Go.bits .xor .u32 (rd y139 a2) (rd y139 a3)) 7).bind fun t142 => (some (y139.set (a2 : Int).toNat t142))) = some r := by first | (rw [hy139]; with_reducible exact H) | (have H2_ := (Option.bind_some _ _).symm.trans H; rw [hy139]; with_reducible exact H2_) | (have H2_ := (Option.bind_some _ _).symm.trans H; with_reducible exact H2_) | with_reducible exact H | (rw [hy139]; exact H) | exact H
                    have Ny139 := Aside0.mk hy139
                    clear hy139
                    replace H := Option.bind_eq_some_iff.mp H
                    obtain ⟨t142, A250, H⟩ := H
                    replace H : (some (y139.set (a2 : Int).toNat t142)) = some r := H
                    have A25 := Aside0.mk A250
                    clear A250
                    obtain ⟨y143, hy143⟩ : ∃ y_ : List Int, y_ = (y139.set (a2 : Int).toNat t142) := ⟨_, rfl⟩
                    replace H : (some y143) = some r := by first | (rw [hy143]; with_reducible exact H) | (have H2_ := (Option.bind_some _ _).symm.trans H; rw [hy143]; with_reducible exact H2_) | (have H2_ := (Option.bind_some _ _).symm.trans H; with_reducible exact H2_) | with_reducible exact H | (rw [hy143]; exact H) | exact H
                    have Ny143 := Aside0.mk hy143
                    clear hy143
                    obtain rfl := Option.some.inj H
                    go_enter Tryd.func22, Tryd.ntmps22
                    try go_wp2_with (first | ((with_reducible refine gate_dst (N := 12) rfl ?_); refine Kd.R_lit (Kd.int .u32) _ 31 ?hg (N := 12) ?hd (xs := ([] : List Int)) (inner := []) (ok := fun _ => True) (okp := fun _ => True) ?hr ?hp (fun _ hk => hk) trivial (Below.refl _ _) (Nat.le_refl _) (by simp) ?_; (case hd => rfl); (case hg => rfl); (case hr => first | (go_simp; done) | (go_simp; rfl)); (case hp => exact (Reps.none _ _)); intro v111 w27 ho28 hb hg_ hnew_; clear hg_ hnew_; (first | rw [← Ny110.out] at ho28 | (simp only [Int.reduceToNat] at ho28; rw [← Ny110.out] at ho28)); have n0_ := Aside0.mk (Kd.R_lower ho28 (below_size (by repeat (first | (with_reducible first | exact HB.out | apply below_alloc | apply pw_below_drewN | apply below_drew1) | exact HB.out)))); have n1_ := Aside0.mk (below_step (by repeat (first | (with_reducible first | exact HB.out | apply below_alloc | apply pw_below_drewN | apply below_drew1) | exact HB.out)) hb); clear HB; have HO112 := n0_; have HB := n1_; clear n0_ n1_; clear hb ho28) | ((with_reducible refine gate_builtin (b := .append) (xs := #[.tmp 12, .tmp 13]) rfl ?_); at_builtin; refine Kd.R_append_rows (Kd.int .u32) (w0 := w) w.heap.size rfl (.tmp 12) (.tmp 13) 44 31 (.int .u32 0) 4 rfl Tryd.underlying44 info31 rfl (by decide) (by omega) v111 y110 l0 _ _ _ (fun _ => True) (fun _ => False) rfl rfl ?aO ?aR (fun _ _ h => h) (fun _ h => h.elim) ?aF ?aB ?aS ?aL ?_; (case aR => repeat (first | exact (Kd.C_below HR0.out HB.out) | (with_reducible refine Kd.C_alloc ?_ _) | (with_reducible refine Kd.C_drewN ?_ _) | (with_reducible refine Kd.C_drew ?_))); (case aB => exact (by repeat (first | (with_reducible first | exact HB.out | apply below_alloc | apply pw_below_drewN | apply below_drew1) | exact HB.out))); (case aF => exact (fun _ _ => trivial)); (case aO => exact (by (with_reducible repeat (first | apply Kd.R_alloc | apply Kd.R_drewN | apply Kd.R_drew)); exact HO112.out)); (case aS => exact (below_size (by repeat (first | (with_reducible first | exact HB.out | apply below_alloc | apply pw_below_drewN | apply below_drew1) | exact HB.out)))); (case aL => have := LMc6.out; omega); intro v114 w29 ho hb hg hat; rw [← Ny113.out] at ho; have n0_ := Aside0.mk (hb); have n1_ := Aside0.mk (ho); clear HB; clear HO112; have HB := n0_; have HO115 := n1_; clear n0_ n1_; clear ho hb hg hat))
                    have n0_ := Aside0.mk (Kd.R_drew HO115.out)
                    have n1_ := Aside0.mk (below_drew1 HB.out)
                    clear HO115
                    clear HB
                    have HO115 := n0_
                    have HB := n1_
                    clear n0_ n1_
                    obtain ⟨Ao31, co31, eo31⟩ := Kd.R_slice HO115.out
                    (first | subst eo31 | (injection eo31 with f1_ f2_ f3_; have f4_ := f1_.symm; have f5_ := f3_.symm; clear f1_ f2_ f3_; subst f4_; subst f5_))
                    have p116 : 0 ≤ (a1 : Int) := of_decide_eq_true (by first | (with_reducible assumption) | assumption)
                    have q116 : a1 < (y113.length : Int) := of_decide_eq_true (by first | (with_reducible assumption) | assumption)
                    obtain ⟨ad116, e116, hx116_0⟩ := Kd.at_int (Kd.R_reads' HO115.out).2.2 a1 p116 q116
                    cases e116
                    replace p116 := eq_true p116
                    replace q116 := eq_true q116
                    have p117 : 0 ≤ (a2 : Int) := of_decide_eq_true (by first | (with_reducible assumption) | assumption)
                    have q117 : a2 < (y113.length : Int) := of_decide_eq_true (by first | (with_reducible assumption) | assumption)
                    obtain ⟨ad117, e117, hx117_0⟩ := Kd.at_int (Kd.R_reads' HO115.out).2.2 a2 p117 q117
                    obtain rfl : ad116 = ad117 := (by injection e117)
                    replace p117 := eq_true p117
                    replace q117 := eq_true q117
                    have p11 : 0 ≤ (a1 : Int) := of_decide_eq_true (by first | (with_reducible assumption) | assumption)
                    have q11 : (a1 : Int) < ((y113.length : Int) : Int) := of_decide_eq_true (by first | (with_reducible assumption) | assumption)
                    obtain ⟨go11, co11, eo11, gb11, gl11, cl11, HG11⟩ := Kd.R_form HO115.out (by omega)
                    (first | cases eo11 | (injection eo11 with ea_ en_ ec_; (first | subst ea_ | (injection ea_ with ea_; subst ea_)); subst ec_; clear en_))
                    have GB11 := Aside0.mk gb11
                    have GG11 := Aside0.mk HG11
                    clear gb11 gl11 HG11
                    (first | simp only [add_plain] at hx116_0 | skip)
                    (first | simp only [add_plain] at hx117_0 | skip)
                    obtain ⟨hx11_0, hf11_0⟩ := Kd.R_celln 0 HO115.out (a1 : Int) p11 q11
                    replace p11 := eq_true p11
                    replace q11 := eq_true q11
                    have HP32 := Kd.R_putn HO115.out (a1 : Int) (((rd y113 a1) + (rd y113 a2)) % 4294967296)
                    rw [← Ny118.out] at HP32
                    have HQ32 := Aside0.mk HP32
                    clear HP32
                    refine start_ (n := 13) (S := fun w' => w'.cell? ⟨go11, (a1).toNat, none⟩ = some (.int .u32 (rd y113 a1)) ∧ w'.cell? ⟨go11, (a2).toNat, none⟩ = some (.int .u32 (rd y113 a2))) (ds := [12]) #[false, false, false, false, false, false, false, false, false, false, false, false, false] (by kernel_rfl) rfl rfl ⟨hx116_0, hx117_0⟩ (fun hHeld => ?_); refine with_tabW hourglassref05_quarter.tab2 hourglassref05_quarter.bits2 (fun HT_ HW_ => ?_)
                    generalize w29.drew = w30 at HO115 HB GG11 HQ32 hf11_0 hx116_0 hx117_0 hx11_0 hHeld ⊢
                    refine pure_ (i := 0) (N := some 15) (v := ?_) (a' := ?_) #[true, false, false, false, false, false, false, false, false, false, false, false, false] rfl rfl (any_of HT_.out (by kernel_rfl)) (fun _ _ _ h => h) (Or.inl ⟨by rfl, ?_⟩) ?_ ?_
                    rotate_left
                    · intro w'
                      go_simp
                      with_reducible rfl
                    rotate_left
                    · simp only [Act.put, List.setIfInBounds_toArray, List.set_cons_zero, List.set_cons_succ, i64_w, i32_w]
                      rfl
                    refine pure_ (i := 1) (N := some 16) (v := ?_) (a' := ?_) #[true, true, false, false, false, false, false, false, false, false, false, false, false] rfl rfl (any_of HT_.out (by kernel_rfl)) (fun _ _ _ h => h) (Or.inl ⟨by rfl, ?_⟩) ?_ ?_
                    rotate_left
                    · intro w'
                      go_simp
                      with_reducible rfl
                    rotate_left
                    · simp only [Act.put, List.setIfInBounds_toArray, List.set_cons_zero, List.set_cons_succ, i64_w, i32_w]
                      rfl
                    refine pure_ (i := 2) (N := some 17) (v := ?_) (a' := ?_) #[true, true, true, false, false, false, false, false, false, false, false, false, false] rfl rfl (any_of HT_.out (by kernel_rfl)) (fun _ _ _ h => h) (Or.inl ⟨by rfl, ?_⟩) ?_ ?_
                    rotate_left
                    · intro w'
                      go_simp
                      with_reducible rfl
                    rotate_left
                    · simp only [Act.put, List.setIfInBounds_toArray, List.set_cons_zero, List.set_cons_succ, i64_w, i32_w]
                      rfl
                    refine pure_ (i := 3) (N := some 18) (v := ?_) (a' := ?_) #[true, true, true, true, false, false, false, false, false, false, false, false, false] rfl rfl (any_of HT_.out (by kernel_rfl)) (fun _ _ _ h => h) (Or.inl ⟨by rfl, ?_⟩) ?_ ?_
                    rotate_left
                    · intro w'
                      go_simp
                      with_reducible rfl
                    rotate_left
                    · simp only [Act.put, List.setIfInBounds_toArray, List.set_cons_zero, List.set_cons_succ, i64_w, i32_w]
                      rfl
                    refine pure_ (i := 4) (N := some 19) (v := ?_) (a' := ?_) #[true, true, true, true, true, false, false, false, false, false, false, false, false] rfl rfl (any_of HT_.out (by kernel_rfl)) (fun _ _ _ h => h) (Or.inl ⟨by rfl, ?_⟩) ?_ ?_
                    rotate_left
                    · intro w'
                      go_simp
                      with_reducible rfl
                    rotate_left
                    · simp only [Act.put, List.setIfInBounds_toArray, List.set_cons_zero, List.set_cons_succ, i64_w, i32_w]
                      rfl
                    refine pure_ (i := 6) (N := some 21) (v := ?_) (a' := ?_) #[true, true, true, true, true, false, true, false, false, false, false, false, false] rfl rfl (any_of HT_.out (by kernel_rfl)) (fun _ _ _ h => h) (Or.inl ⟨by rfl, ?_⟩) ?_ ?_
                    rotate_left
                    · intro w'
                      go_simp
                      with_reducible rfl
                    rotate_left
                    · simp only [Act.put, List.setIfInBounds_toArray, List.set_cons_zero, List.set_cons_succ, i64_w, i32_w]
                      rfl
                    refine pure_ (i := 7) (N := some 22) (v := ?_) (a' := ?_) #[true, true, true, true, true, false, true, true, false, false, false, false, false] rfl rfl (any_of HT_.out (by kernel_rfl)) (fun _ _ _ h => h) (Or.inl ⟨by rfl, ?_⟩) ?_ ?_
                    rotate_left
                    · intro w'
                      go_simp
                      with_reducible rfl
                    rotate_left
                    · simp only [Act.put, List.setIfInBounds_toArray, List.set_cons_zero, List.set_cons_succ, i64_w, i32_w]
                      rfl
                    refine pure_ (i := 8) (N := some 23) (v := ?_) (a' := ?_) #[true, true, true, true, true, false, true, true, true, false, false, false, false] rfl rfl (any_of HT_.out (by kernel_rfl)) (fun _ _ _ h => h) (Or.inl ⟨by rfl, ?_⟩) ?_ ?_
                    rotate_left
                    · intro w'
                      go_simp
                      with_reducible rfl
                    rotate_left
                    · simp only [Act.put, List.setIfInBounds_toArray, List.set_cons_zero, List.set_cons_succ, i64_w, i32_w]
                      rfl
                    refine take_ (i := 5) (N := some 20) (v := ?_) (a' := ?_) #[true, true, true, true, true, true, true, true, true, false, false, false, false] rfl rfl (take_ofW HT_.out HW_.out (by kernel_rfl)) (fun _ _ _ h => h) (Or.inl ⟨by rfl, ?_⟩) hHeld ?_ ?_
                    rotate_left
                    · rintro w' ⟨s0, s1⟩
                      go_simp
                      with_reducible rfl
                    rotate_left
                    · simp only [Act.put, List.setIfInBounds_toArray, List.set_cons_zero, List.set_cons_succ, i64_w, i32_w]
                      rfl
                    refine take_ (i := 9) (N := some 24) (v := ?_) (a' := ?_) #[true, true, true, true, true, true, true, true, true, true, false, false, false] rfl rfl (take_ofW HT_.out HW_.out (by kernel_rfl)) (fun _ _ _ h => h) (Or.inl ⟨by rfl, ?_⟩) hHeld ?_ ?_
                    rotate_left
                    · rintro w' ⟨s0, s1⟩
                      go_simp
                      with_reducible rfl
                    rotate_left
                    · simp only [Act.put, List.setIfInBounds_toArray, List.set_cons_zero, List.set_cons_succ, i64_w, i32_w]
                      rfl
                    refine pure_ (i := 10) (N := some 25) (v := ?_) (a' := ?_) #[true, true, true, true, true, true, true, true, true, true, true, false, false] rfl rfl (any_of HT_.out (by kernel_rfl)) (fun _ _ _ h => h) (Or.inl ⟨by rfl, ?_⟩) ?_ ?_
                    rotate_left
                    · intro w'
                      go_simp
                      with_reducible rfl
                    rotate_left
                    · simp only [Act.put, List.setIfInBounds_toArray, List.set_cons_zero, List.set_cons_succ, i64_w, i32_w]
                      rfl
                    refine pure_ (i := 11) (N := some 26) (v := ?_) (a' := ?_) #[true, true, true, true, true, true, true, true, true, true, true, true, false] rfl rfl (any_of HT_.out (by kernel_rfl)) (fun _ _ _ h => h) (Or.inl ⟨by rfl, ?_⟩) ?_ ?_
                    rotate_left
                    · intro w'
                      go_simp
                      with_reducible rfl
                    rotate_left
                    · simp only [Act.put, List.setIfInBounds_toArray, List.set_cons_zero, List.set_cons_succ, i64_w, i32_w]
                      rfl
                    refine last_ (i := 12) (N := none) #[true, true, true, true, true, true, true, true, true, true, true, true, true] rfl rfl (one_of HT_.out (by kernel_rfl)) (by decide) (fun K hK => ?_)
                    refine skip_ (w1 := ?_) (by rfl) rfl ?_ ?_
                    rotate_left
                    · go_simp
                      rfl
                    refine hK.out _ _ ?_
                    clear hK K
                    refine done_ (done_of HT_.out (by kernel_rfl)) ?_
                    try go_wp2
                    have n0_ : Aside0 (Kd.R (Kd.int .u32) 31 (w30.setCell ⟨go11, (a1 : Int).toNat, none⟩ (.int .u32 (((rd y113 a1) + (rd y113 a2)) % 4294967296))) w.heap.size (fun _ => True) (.slice (some ⟨go11, 0, none⟩) y113.length co31) y118) := ⟨by (with_reducible repeat (first | apply Kd.R_alloc | apply Kd.R_drewN | apply Kd.R_drew)); exact HQ32.out⟩
                    have n1_ : Aside0 (Below w.heap.size w (w30.setCell ⟨go11, (a1 : Int).toNat, none⟩ (.int .u32 (((rd y113 a1) + (rd y113 a2)) % 4294967296)))) := ⟨by repeat (first | (with_reducible first | exact HB.out | apply below_alloc | apply pw_below_drewN | apply below_drew1 | refine below_set ?_ GB11.out) | exact HB.out)⟩
                    (try clear HO115)
                    (try clear HB)
                    (try simp only [IntKind.wrap_u32])
                    generalize (w30.setCell ⟨go11, (a1 : Int).toNat, none⟩ (.int .u32 (((rd y113 a1) + (rd y113 a2)) % 4294967296))) = w33 at n0_ n1_ ⊢
                    have HO115 := n0_
                    have HB := n1_
                    clear n0_ n1_
                    have n0_ := Aside0.mk (Kd.R_drew HO115.out)
                    have n1_ := Aside0.mk (below_drew1 HB.out)
                    clear HO115
                    clear HB
                    have HO115 := n0_
                    have HB := n1_
                    clear n0_ n1_
                    have p119 : 0 ≤ (a4 : Int) := of_decide_eq_true (by first | (with_reducible assumption) | assumption)
                    have q119 : a4 < (y118.length : Int) := (by have h_ : (a4 : Int) < ((y113.length : Int) : Int) := of_decide_eq_true (by first | (with_reducible assumption) | assumption); first | (have e_ := (Kd.R_reads' HO115.out).1; omega) | simpa only [Ny118.out, List.length_set] using h_)
                    have ql119 : ((a4 : Int) < ((y113.length : Int) : Int)) = True := eq_true (of_decide_eq_true (by first | (with_reducible assumption) | assumption))
                    obtain ⟨ad119, e119, hx119_0⟩ := Kd.at_int (Kd.R_reads' HO115.out).2.2 a4 p119 q119
                    obtain rfl : (⟨go11, 0, none⟩ : Addr) = ad119 := (by injection e119)
                    (first | simp only [add_plain] at hx119_0 | simp only [add_at] at hx119_0 | simp only [Addr.add, Nat.zero_add] at hx119_0 | skip)
                    replace p119 := eq_true p119
                    replace q119 := eq_true q119
                    have p120 : 0 ≤ (a1 : Int) := of_decide_eq_true (by first | (with_reducible assumption) | assumption)
                    have q120 : a1 < (y118.length : Int) := (by have h_ : (a1 : Int) < ((y113.length : Int) : Int) := of_decide_eq_true (by first | (with_reducible assumption) | assumption); first | (have e_ := (Kd.R_reads' HO115.out).1; omega) | simpa only [Ny118.out, List.length_set] using h_)
                    have ql120 : ((a1 : Int) < ((y113.length : Int) : Int)) = True := eq_true (of_decide_eq_true (by first | (with_reducible assumption) | assumption))
                    obtain ⟨ad120, e120, hx120_0⟩ := Kd.at_int (Kd.R_reads' HO115.out).2.2 a1 p120 q120
                    obtain rfl : (⟨go11, 0, none⟩ : Addr) = ad120 := (by injection e120)
                    (first | simp only [add_plain] at hx120_0 | simp only [add_at] at hx120_0 | simp only [Addr.add, Nat.zero_add] at hx120_0 | skip)
                    replace p120 := eq_true p120
                    replace q120 := eq_true q120
                    refine start_ (n := 14) (S := fun w' => w'.cell? ⟨go11, (a4).toNat, none⟩ = some (.int .u32 (rd y118 a4)) ∧ w'.cell? ⟨go11, (a1).toNat, none⟩ = some (.int .u32 (rd y118 a1))) (ds := [13]) #[false, false, false, false, false, false, false, false, false, false, false, false, false, false] (by kernel_rfl) rfl rfl ⟨hx119_0, hx120_0⟩ (fun hHeld => ?_); refine with_tabW hourglassref05_quarter.tab3 hourglassref05_quarter.bits3 (fun HT_ HW_ => ?_)
                    generalize w33.drew = w34 at HO115 HB HQ32 hx119_0 hx120_0 hHeld ⊢
                    refine pure_ (i := 0) (N := some 27) (v := ?_) (a' := ?_) #[true, false, false, false, false, false, false, false, false, false, false, false, false, false] rfl rfl (any_of HT_.out (by kernel_rfl)) (fun _ _ _ h => h) (Or.inl ⟨by rfl, ?_⟩) ?_ ?_
                    rotate_left
                    · intro w'
                      go_simp
                      with_reducible rfl
                    rotate_left
                    · simp only [Act.put, List.setIfInBounds_toArray, List.set_cons_zero, List.set_cons_succ, i64_w, i32_w]
                      rfl
                    refine pure_ (i := 1) (N := some 28) (v := ?_) (a' := ?_) #[true, true, false, false, false, false, false, false, false, false, false, false, false, false] rfl rfl (any_of HT_.out (by kernel_rfl)) (fun _ _ _ h => h) (Or.inl ⟨by rfl, ?_⟩) ?_ ?_
                    rotate_left
                    · intro w'
                      go_simp
                      with_reducible rfl
                    rotate_left
                    · simp only [Act.put, List.setIfInBounds_toArray, List.set_cons_zero, List.set_cons_succ, i64_w, i32_w]
                      rfl
                    refine pure_ (i := 2) (N := some 29) (v := ?_) (a' := ?_) #[true, true, true, false, false, false, false, false, false, false, false, false, false, false] rfl rfl (any_of HT_.out (by kernel_rfl)) (fun _ _ _ h => h) (Or.inl ⟨by rfl, ?_⟩) ?_ ?_
                    rotate_left
                    · intro w'
                      go_simp
                      with_reducible rfl
                    rotate_left
                    · simp only [Act.put, List.setIfInBounds_toArray, List.set_cons_zero, List.set_cons_succ, i64_w, i32_w]
                      rfl
                    refine pure_ (i := 3) (N := some 30) (v := ?_) (a' := ?_) #[true, true, true, true, false, false, false, false, false, false, false, false, false, false] rfl rfl (any_of HT_.out (by kernel_rfl)) (fun _ _ _ h => h) (Or.inl ⟨by rfl, ?_⟩) ?_ ?_
                    rotate_left
                    · intro w'
                      go_simp
                      with_reducible rfl
                    rotate_left
                    · simp only [Act.put, List.setIfInBounds_toArray, List.set_cons_zero, List.set_cons_succ, i64_w, i32_w]
                      rfl
                    refine pure_ (i := 4) (N := some 31) (v := ?_) (a' := ?_) #[true, true, true, true, true, false, false, false, false, false, false, false, false, false] rfl rfl (any_of HT_.out (by kernel_rfl)) (fun _ _ _ h => h) (Or.inl ⟨by rfl, ?_⟩) ?_ ?_
                    rotate_left
                    · intro w'
                      go_simp
                      with_reducible rfl
                    rotate_left
                    · simp only [Act.put, List.setIfInBounds_toArray, List.set_cons_zero, List.set_cons_succ, i64_w, i32_w]
                      rfl
                    refine pure_ (i := 6) (N := some 33) (v := ?_) (a' := ?_) #[true, true, true, true, true, false, true, false, false, false, false, false, false, false] rfl rfl (any_of HT_.out (by kernel_rfl)) (fun _ _ _ h => h) (Or.inl ⟨by rfl, ?_⟩) ?_ ?_
                    rotate_left
                    · intro w'
                      go_simp
                      with_reducible rfl
                    rotate_left
                    · simp only [Act.put, List.setIfInBounds_toArray, List.set_cons_zero, List.set_cons_succ, i64_w, i32_w]
                      rfl
                    refine pure_ (i := 7) (N := some 34) (v := ?_) (a' := ?_) #[true, true, true, true, true, false, true, true, false, false, false, false, false, false] rfl rfl (any_of HT_.out (by kernel_rfl)) (fun _ _ _ h => h) (Or.inl ⟨by rfl, ?_⟩) ?_ ?_
                    rotate_left
                    · intro w'
                      go_simp
                      with_reducible rfl
                    rotate_left
                    · simp only [Act.put, List.setIfInBounds_toArray, List.set_cons_zero, List.set_cons_succ, i64_w, i32_w]
                      rfl
                    refine pure_ (i := 8) (N := some 35) (v := ?_) (a' := ?_) #[true, true, true, true, true, false, true, true, true, false, false, false, false, false] rfl rfl (any_of HT_.out (by kernel_rfl)) (fun _ _ _ h => h) (Or.inl ⟨by rfl, ?_⟩) ?_ ?_
                    rotate_left
                    · intro w'
                      go_simp
                      with_reducible rfl
                    rotate_left
                    · simp only [Act.put, List.setIfInBounds_toArray, List.set_cons_zero, List.set_cons_succ, i64_w, i32_w]
                      rfl
                    refine take_ (i := 5) (N := some 32) (v := ?_) (a' := ?_) #[true, true, true, true, true, true, true, true, true, false, false, false, false, false] rfl rfl (take_ofW HT_.out HW_.out (by kernel_rfl)) (fun _ _ _ h => h) (Or.inl ⟨by rfl, ?_⟩) hHeld ?_ ?_
                    rotate_left
                    · rintro w' ⟨s0, s1⟩
                      go_simp
                      with_reducible rfl
                    rotate_left
                    · simp only [Act.put, List.setIfInBounds_toArray, List.set_cons_zero, List.set_cons_succ, i64_w, i32_w]
                      rfl
                    refine take_ (i := 9) (N := some 36) (v := ?_) (a' := ?_) #[true, true, true, true, true, true, true, true, true, true, false, false, false, false] rfl rfl (take_ofW HT_.out HW_.out (by kernel_rfl)) (fun _ _ _ h => h) (Or.inl ⟨by rfl, ?_⟩) hHeld ?_ ?_
                    rotate_left
                    · rintro w' ⟨s0, s1⟩
                      go_simp
                      with_reducible rfl
                    rotate_left
                    · simp only [Act.put, List.setIfInBounds_toArray, List.set_cons_zero, List.set_cons_succ, i64_w, i32_w]
                      rfl
                    refine pure_ (i := 10) (N := some 37) (v := ?_) (a' := ?_) #[true, true, true, true, true, true, true, true, true, true, true, false, false, false] rfl rfl (any_of HT_.out (by kernel_rfl)) (fun _ _ _ h => h) (Or.inl ⟨by rfl, ?_⟩) ?_ ?_
                    rotate_left
                    · intro w'
                      go_simp
                      with_reducible rfl
                    rotate_left
                    · simp only [Act.put, List.setIfInBounds_toArray, List.set_cons_zero, List.set_cons_succ, i64_w, i32_w]
                      rfl
                    refine one_ (i := 11) (N := some 38) #[true, true, true, true, true, true, true, true, true, true, true, true, false, false] rfl rfl (one_of HT_.out (by kernel_rfl)) (by decide) (fun K hK => ?_)
                    refine goes_ Tryd.func24 (by kernel_rfl) rfl #[.int .u32 (Go.bits .xor .u32 (rd y118 a4) (rd y118 a1)), .int .i64 16] (by rfl) rfl rfl (by (try simp only [List.map_toArray, List.map_cons, List.map_nil]); first | done | rfl | (simp only [List.length_drop, List.length_take]; rfl)) ?_
                    with_reducible refine (hourglassref05_left.calls (Go.bits .xor .u32 (rd y118 a4) (rd y118 a1)) 16 t121 _ A14.out).mono ?_
                    rintro e w' ⟨rfl, ⟨nd, rfl⟩⟩
                    refine ⟨_, rfl, ?_⟩
                    have p15 : 0 ≤ (a4 : Int) := of_decide_eq_true (by first | (with_reducible assumption) | assumption)
                    have q15 : (a4 : Int) < ((y113.length : Int) : Int) := of_decide_eq_true (by first | (with_reducible assumption) | assumption)
                    obtain ⟨hx15_0, hf15_0⟩ := Kd.R_celln 0 HO115.out (a4 : Int) p15 q15
                    replace p15 := eq_true p15
                    replace q15 := eq_true q15
                    have HP35 := Kd.R_putn HO115.out (a4 : Int) t121
                    rw [← Ny122.out] at HP35
                    have HQ35 := Aside0.mk HP35
                    clear HP35
                    refine hK.out _ _ ⟨hHeld.1, hHeld.2⟩ (fun hHeld => ?_)
                    clear hK K
                    refine norm_ (a' := ?_) ?_ ?_
                    rotate_left
                    · show Act.put _ (some 38) _ = _
                      simp only [Act.put, List.setIfInBounds_toArray, List.set_cons_zero, List.set_cons_succ, i64_w, i32_w]
                      rfl
                    refine pure_ (i := 12) (N := some 39) (v := ?_) (a' := ?_) #[true, true, true, true, true, true, true, true, true, true, true, true, true, false] rfl rfl (any_of HT_.out (by kernel_rfl)) (fun _ _ _ h => h) (Or.inl ⟨by rfl, ?_⟩) ?_ ?_
                    rotate_left
                    · intro w'
                      go_simp
                      with_reducible rfl
                    rotate_left
                    · simp only [Act.put, List.setIfInBounds_toArray, List.set_cons_zero, List.set_cons_succ, i64_w, i32_w]
                      rfl
                    refine last_ (i := 13) (N := none) #[true, true, true, true, true, true, true, true, true, true, true, true, true, true] rfl rfl (one_of HT_.out (by kernel_rfl)) (by decide) (fun K hK => ?_)
                    refine skip_ (w1 := ?_) (by rfl) rfl ?_ ?_
                    rotate_left
                    · go_simp
                      rfl
                    refine hK.out _ _ ?_
                    clear hK K
                    refine done_ (done_of HT_.out (by kernel_rfl)) ?_
                    try go_wp2
                    have n0_ : Aside0 (Kd.R (Kd.int .u32) 31 (w34.setCell ⟨go11, (a4 : Int).toNat, none⟩ (.int .u32 t121)) w.heap.size (fun _ => True) (.slice (some ⟨go11, 0, none⟩) y113.length co31) y122) := ⟨by (with_reducible repeat (first | apply Kd.R_alloc | apply Kd.R_drewN | apply Kd.R_drew)); exact HQ35.out⟩
                    have n1_ : Aside0 (Below w.heap.size w (w34.setCell ⟨go11, (a4 : Int).toNat, none⟩ (.int .u32 t121))) := ⟨by repeat (first | (with_reducible first | exact HB.out | apply below_alloc | apply pw_below_drewN | apply below_drew1 | refine below_set ?_ GB11.out) | exact HB.out)⟩
                    (try clear HO115)
                    (try clear HB)
                    (try simp only [setCell_drewN'])
                    generalize (w34.setCell ⟨go11, (a4 : Int).toNat, none⟩ (.int .u32 t121)) = w36 at n0_ n1_ ⊢
                    have HO115 := n0_
                    have HB := n1_
                    clear n0_ n1_
                    (try (rw [drewN_self w36]; generalize hq_ : World.drewN w36 _ = w36; have n0_ : Aside0 (Kd.R (Kd.int .u32) 31 w36 w.heap.size (fun _ => True) (.slice (some ⟨go11, 0, none⟩) y113.length co31) y122) := ⟨by rw [← hq_]; exact (by (with_reducible repeat (first | apply Kd.R_alloc | apply Kd.R_drewN | apply Kd.R_drew)); exact HO115.out)⟩; have n1_ : Aside0 (Below w.heap.size w w36) := ⟨by rw [← hq_]; exact (by repeat (first | (with_reducible first | exact HB.out | apply below_alloc | apply pw_below_drewN | apply below_drew1) | exact HB.out))⟩; clear HO115 HB hq_; have HO115 := n0_; have HB := n1_; clear n0_ n1_))
                    have n0_ := Aside0.mk (Kd.R_drew HO115.out)
                    have n1_ := Aside0.mk (below_drew1 HB.out)
                    clear HO115
                    clear HB
                    have HO115 := n0_
                    have HB := n1_
                    clear n0_ n1_
                    have p123 : 0 ≤ (a3 : Int) := of_decide_eq_true (by first | (with_reducible assumption) | assumption)
                    have q123 : a3 < (y122.length : Int) := (by have h_ : (a3 : Int) < ((y113.length : Int) : Int) := of_decide_eq_true (by first | (with_reducible assumption) | assumption); first | (have e_ := (Kd.R_reads' HO115.out).1; omega) | simpa only [Ny118.out, Ny122.out, List.length_set] using h_)
                    have ql123 : ((a3 : Int) < ((y113.length : Int) : Int)) = True := eq_true (of_decide_eq_true (by first | (with_reducible assumption) | assumption))
                    obtain ⟨ad123, e123, hx123_0⟩ := Kd.at_int (Kd.R_reads' HO115.out).2.2 a3 p123 q123
                    obtain rfl : (⟨go11, 0, none⟩ : Addr) = ad123 := (by injection e123)
                    (first | simp only [add_plain] at hx123_0 | simp only [add_at] at hx123_0 | simp only [Addr.add, Nat.zero_add] at hx123_0 | skip)
                    replace p123 := eq_true p123
                    replace q123 := eq_true q123
                    have p124 : 0 ≤ (a4 : Int) := of_decide_eq_true (by first | (with_reducible assumption) | assumption)
                    have q124 : a4 < (y122.length : Int) := (by have h_ : (a4 : Int) < ((y113.length : Int) : Int) := of_decide_eq_true (by first | (with_reducible assumption) | assumption); first | (have e_ := (Kd.R_reads' HO115.out).1; omega) | simpa only [Ny118.out, Ny122.out, List.length_set] using h_)
                    have ql124 : ((a4 : Int) < ((y113.length : Int) : Int)) = True := eq_true (of_decide_eq_true (by first | (with_reducible assumption) | assumption))
                    obtain ⟨ad124, e124, hx124_0⟩ := Kd.at_int (Kd.R_reads' HO115.out).2.2 a4 p124 q124
                    obtain rfl : (⟨go11, 0, none⟩ : Addr) = ad124 := (by injection e124)
                    (first | simp only [add_plain] at hx124_0 | simp only [add_at] at hx124_0 | simp only [Addr.add, Nat.zero_add] at hx124_0 | skip)
                    replace p124 := eq_true p124
                    replace q124 := eq_true q124
                    have p18 : 0 ≤ (a3 : Int) := of_decide_eq_true (by first | (with_reducible assumption) | assumption)
                    have q18 : (a3 : Int) < ((y113.length : Int) : Int) := of_decide_eq_true (by first | (with_reducible assumption) | assumption)
                    obtain ⟨hx18_0, hf18_0⟩ := Kd.R_celln 0 HO115.out (a3 : Int) p18 q18
                    replace p18 := eq_true p18
                    replace q18 := eq_true q18
                    have HP38 := Kd.R_putn HO115.out (a3 : Int) (((rd y122 a3) + (rd y122 a4)) % 4294967296)
                    rw [← Ny125.out] at HP38
                    have HQ38 := Aside0.mk HP38
                    clear HP38
                    refine start_ (n := 13) (S := fun w' => w'.cell? ⟨go11, (a3).toNat, none⟩ = some (.int .u32 (rd y122 a3)) ∧ w'.cell? ⟨go11, (a4).toNat, none⟩ = some (.int .u32 (rd y122 a4))) (ds := [12]) #[false, false, false, false, false, false, false, false, false, false, false, false, false] (by kernel_rfl) rfl rfl ⟨hx123_0, hx124_0⟩ (fun hHeld => ?_); refine with_tabW hourglassref05_quarter.tab4 hourglassref05_quarter.bits4 (fun HT_ HW_ => ?_)
                    generalize w36.drew = w37 at HO115 HB HQ35 HQ38 hf18_0 hx123_0 hx124_0 hx18_0 hHeld ⊢
                    refine pure_ (i := 0) (N := some 40) (v := ?_) (a' := ?_) #[true, false, false, false, false, false, false, false, false, false, false, false, false] rfl rfl (any_of HT_.out (by kernel_rfl)) (fun _ _ _ h => h) (Or.inl ⟨by rfl, ?_⟩) ?_ ?_
                    rotate_left
                    · intro w'
                      go_simp
                      with_reducible rfl
                    rotate_left
                    · simp only [Act.put, List.setIfInBounds_toArray, List.set_cons_zero, List.set_cons_succ, i64_w, i32_w]
                      rfl
                    refine pure_ (i := 1) (N := some 41) (v := ?_) (a' := ?_) #[true, true, false, false, false, false, false, false, false, false, false, false, false] rfl rfl (any_of HT_.out (by kernel_rfl)) (fun _ _ _ h => h) (Or.inl ⟨by rfl, ?_⟩) ?_ ?_
                    rotate_left
                    · intro w'
                      go_simp
                      with_reducible rfl
                    rotate_left
                    · simp only [Act.put, List.setIfInBounds_toArray, List.set_cons_zero, List.set_cons_succ, i64_w, i32_w]
                      rfl
                    refine pure_ (i := 2) (N := some 42) (v := ?_) (a' := ?_) #[true, true, true, false, false, false, false, false, false, false, false, false, false] rfl rfl (any_of HT_.out (by kernel_rfl)) (fun _ _ _ h => h) (Or.inl ⟨by rfl, ?_⟩) ?_ ?_
                    rotate_left
                    · intro w'
                      go_simp
                      with_reducible rfl
                    rotate_left
                    · simp only [Act.put, List.setIfInBounds_toArray, List.set_cons_zero, List.set_cons_succ, i64_w, i32_w]
                      rfl
                    refine pure_ (i := 3) (N := some 43) (v := ?_) (a' := ?_) #[true, true, true, true, false, false, false, false, false, false, false, false, false] rfl rfl (any_of HT_.out (by kernel_rfl)) (fun _ _ _ h => h) (Or.inl ⟨by rfl, ?_⟩) ?_ ?_
                    rotate_left
                    · intro w'
                      go_simp
                      with_reducible rfl
                    rotate_left
                    · simp only [Act.put, List.setIfInBounds_toArray, List.set_cons_zero, List.set_cons_succ, i64_w, i32_w]
                      rfl
                    refine pure_ (i := 4) (N := some 44) (v := ?_) (a' := ?_) #[true, true, true, true, true, false, false, false, false, false, false, false, false] rfl rfl (any_of HT_.out (by kernel_rfl)) (fun _ _ _ h => h) (Or.inl ⟨by rfl, ?_⟩) ?_ ?_
                    rotate_left
                    · intro w'
                      go_simp
                      with_reducible rfl
                    rotate_left
                    · simp only [Act.put, List.setIfInBounds_toArray, List.set_cons_zero, List.set_cons_succ, i64_w, i32_w]
                      rfl
                    refine pure_ (i := 6) (N := some 46) (v := ?_) (a' := ?_) #[true, true, true, true, true, false, true, false, false, false, false, false, false] rfl rfl (any_of HT_.out (by kernel_rfl)) (fun _ _ _ h => h) (Or.inl ⟨by rfl, ?_⟩) ?_ ?_
                    rotate_left
                    · intro w'
                      go_simp
                      with_reducible rfl
                    rotate_left
                    · simp only [Act.put, List.setIfInBounds_toArray, List.set_cons_zero, List.set_cons_succ, i64_w, i32_w]
                      rfl
                    refine pure_ (i := 7) (N := some 47) (v := ?_) (a' := ?_) #[true, true, true, true, true, false, true, true, false, false, false, false, false] rfl rfl (any_of HT_.out (by kernel_rfl)) (fun _ _ _ h => h) (Or.inl ⟨by rfl, ?_⟩) ?_ ?_
                    rotate_left
                    · intro w'
                      go_simp
                      with_reducible rfl
                    rotate_left
                    · simp only [Act.put, List.setIfInBounds_toArray, List.set_cons_zero, List.set_cons_succ, i64_w, i32_w]
                      rfl
                    refine pure_ (i := 8) (N := some 48) (v := ?_) (a' := ?_) #[true, true, true, true, true, false, true, true, true, false, false, false, false] rfl rfl (any_of HT_.out (by kernel_rfl)) (fun _ _ _ h => h) (Or.inl ⟨by rfl, ?_⟩) ?_ ?_
                    rotate_left
                    · intro w'
                      go_simp
                      with_reducible rfl
                    rotate_left
                    · simp only [Act.put, List.setIfInBounds_toArray, List.set_cons_zero, List.set_cons_succ, i64_w, i32_w]
                      rfl
                    refine take_ (i := 5) (N := some 45) (v := ?_) (a' := ?_) #[true, true, true, true, true, true, true, true, true, false, false, false, false] rfl rfl (take_ofW HT_.out HW_.out (by kernel_rfl)) (fun _ _ _ h => h) (Or.inl ⟨by rfl, ?_⟩) hHeld ?_ ?_
                    rotate_left
                    · rintro w' ⟨s0, s1⟩
                      go_simp
                      with_reducible rfl
                    rotate_left
                    · simp only [Act.put, List.setIfInBounds_toArray, List.set_cons_zero, List.set_cons_succ, i64_w, i32_w]
                      rfl
                    refine take_ (i := 9) (N := some 49) (v := ?_) (a' := ?_) #[true, true, true, true, true, true, true, true, true, true, false, false, false] rfl rfl (take_ofW HT_.out HW_.out (by kernel_rfl)) (fun _ _ _ h => h) (Or.inl ⟨by rfl, ?_⟩) hHeld ?_ ?_
                    rotate_left
                    · rintro w' ⟨s0, s1⟩
                      go_simp
                      with_reducible rfl
                    rotate_left
                    · simp only [Act.put, List.setIfInBounds_toArray, List.set_cons_zero, List.set_cons_succ, i64_w, i32_w]
                      rfl
                    refine pure_ (i := 10) (N := some 50) (v := ?_) (a' := ?_) #[true, true, true, true, true, true, true, true, true, true, true, false, false] rfl rfl (any_of HT_.out (by kernel_rfl)) (fun _ _ _ h => h) (Or.inl ⟨by rfl, ?_⟩) ?_ ?_
                    rotate_left
                    · intro w'
                      go_simp
                      with_reducible rfl
                    rotate_left
                    · simp only [Act.put, List.setIfInBounds_toArray, List.set_cons_zero, List.set_cons_succ, i64_w, i32_w]
                      rfl
                    refine pure_ (i := 11) (N := some 51) (v := ?_) (a' := ?_) #[true, true, true, true, true, true, true, true, true, true, true, true, false] rfl rfl (any_of HT_.out (by kernel_rfl)) (fun _ _ _ h => h) (Or.inl ⟨by rfl, ?_⟩) ?_ ?_
                    rotate_left
                    · intro w'
                      go_simp
                      with_reducible rfl
                    rotate_left
                    · simp only [Act.put, List.setIfInBounds_toArray, List.set_cons_zero, List.set_cons_succ, i64_w, i32_w]
                      rfl
                    refine last_ (i := 12) (N := none) #[true, true, true, true, true, true, true, true, true, true, true, true, true] rfl rfl (one_of HT_.out (by kernel_rfl)) (by decide) (fun K hK => ?_)
                    refine skip_ (w1 := ?_) (by rfl) rfl ?_ ?_
                    rotate_left
                    · go_simp
                      rfl
                    refine hK.out _ _ ?_
                    clear hK K
                    refine done_ (done_of HT_.out (by kernel_rfl)) ?_
                    try go_wp2
                    have n0_ : Aside0 (Kd.R (Kd.int .u32) 31 (w37.setCell ⟨go11, (a3 : Int).toNat, none⟩ (.int .u32 (((rd y122 a3) + (rd y122 a4)) % 4294967296))) w.heap.size (fun _ => True) (.slice (some ⟨go11, 0, none⟩) y113.length co31) y125) := ⟨by (with_reducible repeat (first | apply Kd.R_alloc | apply Kd.R_drewN | apply Kd.R_drew)); exact HQ38.out⟩
                    have n1_ : Aside0 (Below w.heap.size w (w37.setCell ⟨go11, (a3 : Int).toNat, none⟩ (.int .u32 (((rd y122 a3) + (rd y122 a4)) % 4294967296)))) := ⟨by repeat (first | (with_reducible first | exact HB.out | apply below_alloc | apply pw_below_drewN | apply below_drew1 | refine below_set ?_ GB11.out) | exact HB.out)⟩
                    (try clear HO115)
                    (try clear HB)
                    (try simp only [IntKind.wrap_u32])
                    generalize (w37.setCell ⟨go11, (a3 : Int).toNat, none⟩ (.int .u32 (((rd y122 a3) + (rd y122 a4)) % 4294967296))) = w39 at n0_ n1_ ⊢
                    have HO115 := n0_
                    have HB := n1_
                    clear n0_ n1_
                    have n0_ := Aside0.mk (Kd.R_drew HO115.out)
                    have n1_ := Aside0.mk (below_drew1 HB.out)
                    clear HO115
                    clear HB
                    have HO115 := n0_
                    have HB := n1_
                    clear n0_ n1_
                    have p126 : 0 ≤ (a2 : Int) := of_decide_eq_true (by first | (with_reducible assumption) | assumption)
                    have q126 : a2 < (y125.length : Int) := (by have h_ : (a2 : Int) < ((y113.length : Int) : Int) := of_decide_eq_true (by first | (with_reducible assumption) | assumption); first | (have e_ := (Kd.R_reads' HO115.out).1; omega) | simpa only [Ny118.out, Ny122.out, Ny125.out, List.length_set] using h_)
                    have ql126 : ((a2 : Int) < ((y113.length : Int) : Int)) = True := eq_true (of_decide_eq_true (by first | (with_reducible assumption) | assumption))
                    obtain ⟨ad126, e126, hx126_0⟩ := Kd.at_int (Kd.R_reads' HO115.out).2.2 a2 p126 q126
                    obtain rfl : (⟨go11, 0, none⟩ : Addr) = ad126 := (by injection e126)
                    (first | simp only [add_plain] at hx126_0 | simp only [add_at] at hx126_0 | simp only [Addr.add, Nat.zero_add] at hx126_0 | skip)
                    replace p126 := eq_true p126
                    replace q126 := eq_true q126
                    have p127 : 0 ≤ (a3 : Int) := of_decide_eq_true (by first | (with_reducible assumption) | assumption)
                    have q127 : a3 < (y125.length : Int) := (by have h_ : (a3 : Int) < ((y113.length : Int) : Int) := of_decide_eq_true (by first | (with_reducible assumption) | assumption); first | (have e_ := (Kd.R_reads' HO115.out).1; omega) | simpa only [Ny118.out, Ny122.out, Ny125.out, List.length_set] using h_)
                    have ql127 : ((a3 : Int) < ((y113.length : Int) : Int)) = True := eq_true (of_decide_eq_true (by first | (with_reducible assumption) | assumption))
                    obtain ⟨ad127, e127, hx127_0⟩ := Kd.at_int (Kd.R_reads' HO115.out).2.2 a3 p127 q127
                    obtain rfl : (⟨go11, 0, none⟩ : Addr) = ad127 := (by injection e127)
                    (first | simp only [add_plain] at hx127_0 | simp only [add_at] at hx127_0 | simp only [Addr.add, Nat.zero_add] at hx127_0 | skip)
                    replace p127 := eq_true p127
                    replace q127 := eq_true q127
                    refine start_ (n := 14) (S := fun w' => w'.cell? ⟨go11, (a2).toNat, none⟩ = some (.int .u32 (rd y125 a2)) ∧ w'.cell? ⟨go11, (a3).toNat, none⟩ = some (.int .u32 (rd y125 a3))) (ds := [13]) #[false, false, false, false, false, false, false, false, false, false, false, false, false, false] (by kernel_rfl) rfl rfl ⟨hx126_0, hx127_0⟩ (fun hHeld => ?_); refine with_tabW hourglassref05_quarter.tab5 hourglassref05_quarter.bits5 (fun HT_ HW_ => ?_)
                    generalize w39.drew = w40 at HO115 HB HQ38 hx126_0 hx127_0 hHeld ⊢
                    refine pure_ (i := 0) (N := some 52) (v := ?_) (a' := ?_) #[true, false, false, false, false, false, false, false, false, false, false, false, false, false] rfl rfl (any_of HT_.out (by kernel_rfl)) (fun _ _ _ h => h) (Or.inl ⟨by rfl, ?_⟩) ?_ ?_
                    rotate_left
                    · intro w'
                      go_simp
                      with_reducible rfl
                    rotate_left
                    · simp only [Act.put, List.setIfInBounds_toArray, List.set_cons_zero, List.set_cons_succ, i64_w, i32_w]
                      rfl
                    refine pure_ (i := 1) (N := some 53) (v := ?_) (a' := ?_) #[true, true, false, false, false, false, false, false, false, false, false, false, false, false] rfl rfl (any_of HT_.out (by kernel_rfl)) (fun _ _ _ h => h) (Or.inl ⟨by rfl, ?_⟩) ?_ ?_
                    rotate_left
                    · intro w'
                      go_simp
                      with_reducible rfl
                    rotate_left
                    · simp only [Act.put, List.setIfInBounds_toArray, List.set_cons_zero, List.set_cons_succ, i64_w, i32_w]
                      rfl
                    refine pure_ (i := 2) (N := some 54) (v := ?_) (a' := ?_) #[true, true, true, false, false, false, false, false, false, false, false, false, false, false] rfl rfl (any_of HT_.out (by kernel_rfl)) (fun _ _ _ h => h) (Or.inl ⟨by rfl, ?_⟩) ?_ ?_
                    rotate_left
                    · intro w'
                      go_simp
                      with_reducible rfl
                    rotate_left
                    · simp only [Act.put, List.setIfInBounds_toArray, List.set_cons_zero, List.set_cons_succ, i64_w, i32_w]
                      rfl
                    refine pure_ (i := 3) (N := some 55) (v := ?_) (a' := ?_) #[true, true, true, true, false, false, false, false, false, false, false, false, false, false] rfl rfl (any_of HT_.out (by kernel_rfl)) (fun _ _ _ h => h) (Or.inl ⟨by rfl, ?_⟩) ?_ ?_
                    rotate_left
                    · intro w'
                      go_simp
                      with_reducible rfl
                    rotate_left
                    · simp only [Act.put, List.setIfInBounds_toArray, List.set_cons_zero, List.set_cons_succ, i64_w, i32_w]
                      rfl
                    refine pure_ (i := 4) (N := some 56) (v := ?_) (a' := ?_) #[true, true, true, true, true, false, false, false, false, false, false, false, false, false] rfl rfl (any_of HT_.out (by kernel_rfl)) (fun _ _ _ h => h) (Or.inl ⟨by rfl, ?_⟩) ?_ ?_
                    rotate_left
                    · intro w'
                      go_simp
                      with_reducible rfl
                    rotate_left
                    · simp only [Act.put, List.setIfInBounds_toArray, List.set_cons_zero, List.set_cons_succ, i64_w, i32_w]
                      rfl
                    refine pure_ (i := 6) (N := some 58) (v := ?_) (a' := ?_) #[true, true, true, true, true, false, true, false, false, false, false, false, false, false] rfl rfl (any_of HT_.out (by kernel_rfl)) (fun _ _ _ h => h) (Or.inl ⟨by rfl, ?_⟩) ?_ ?_
                    rotate_left
                    · intro w'
                      go_simp
                      with_reducible rfl
                    rotate_left
                    · simp only [Act.put, List.setIfInBounds_toArray, List.set_cons_zero, List.set_cons_succ, i64_w, i32_w]
                      rfl
                    refine pure_ (i := 7) (N := some 59) (v := ?_) (a' := ?_) #[true, true, true, true, true, false, true, true, false, false, false, false, false, false] rfl rfl (any_of HT_.out (by kernel_rfl)) (fun _ _ _ h => h) (Or.inl ⟨by rfl, ?_⟩) ?_ ?_
                    rotate_left
                    · intro w'
                      go_simp
                      with_reducible rfl
                    rotate_left
                    · simp only [Act.put, List.setIfInBounds_toArray, List.set_cons_zero, List.set_cons_succ, i64_w, i32_w]
                      rfl
                    refine pure_ (i := 8) (N := some 60) (v := ?_) (a' := ?_) #[true, true, true, true, true, false, true, true, true, false, false, false, false, false] rfl rfl (any_of HT_.out (by kernel_rfl)) (fun _ _ _ h => h) (Or.inl ⟨by rfl, ?_⟩) ?_ ?_
                    rotate_left
                    · intro w'
                      go_simp
                      with_reducible rfl
                    rotate_left
                    · simp only [Act.put, List.setIfInBounds_toArray, List.set_cons_zero, List.set_cons_succ, i64_w, i32_w]
                      rfl
                    refine take_ (i := 5) (N := some 57) (v := ?_) (a' := ?_) #[true, true, true, true, true, true, true, true, true, false, false, false, false, false] rfl rfl (take_ofW HT_.out HW_.out (by kernel_rfl)) (fun _ _ _ h => h) (Or.inl ⟨by rfl, ?_⟩) hHeld ?_ ?_
                    rotate_left
                    · rintro w' ⟨s0, s1⟩
                      go_simp
                      with_reducible rfl
                    rotate_left
                    · simp only [Act.put, List.setIfInBounds_toArray, List.set_cons_zero, List.set_cons_succ, i64_w, i32_w]
                      rfl
                    refine take_ (i := 9) (N := some 61) (v := ?_) (a' := ?_) #[true, true, true, true, true, true, true, true, true, true, false, false, false, false] rfl rfl (take_ofW HT_.out HW_.out (by kernel_rfl)) (fun _ _ _ h => h) (Or.inl ⟨by rfl, ?_⟩) hHeld ?_ ?_
                    rotate_left
                    · rintro w' ⟨s0, s1⟩
                      go_simp
                      with_reducible rfl
                    rotate_left
                    · simp only [Act.put, List.setIfInBounds_toArray, List.set_cons_zero, List.set_cons_succ, i64_w, i32_w]
                      rfl
                    refine pure_ (i := 10) (N := some 62) (v := ?_) (a' := ?_) #[true, true, true, true, true, true, true, true, true, true, true, false, false, false] rfl rfl (any_of HT_.out (by kernel_rfl)) (fun _ _ _ h => h) (Or.inl ⟨by rfl, ?_⟩) ?_ ?_
                    rotate_left
                    · intro w'
                      go_simp
                      with_reducible rfl
                    rotate_left
                    · simp only [Act.put, List.setIfInBounds_toArray, List.set_cons_zero, List.set_cons_succ, i64_w, i32_w]
                      rfl
                    refine one_ (i := 11) (N := some 63) #[true, true, true, true, true, true, true, true, true, true, true, true, false, false] rfl rfl (one_of HT_.out (by kernel_rfl)) (by decide) (fun K hK => ?_)
                    refine goes_ Tryd.func24 (by kernel_rfl) rfl #[.int .u32 (Go.bits .xor .u32 (rd y125 a2) (rd y125 a3)), .int .i64 12] (by rfl) rfl rfl (by (try simp only [List.map_toArray, List.map_cons, List.map_nil]); first | done | rfl | (simp only [List.length_drop, List.length_take]; rfl)) ?_
                    with_reducible refine (hourglassref05_left.calls (Go.bits .xor .u32 (rd y125 a2) (rd y125 a3)) 12 t128 _ A19.out).mono ?_
                    rintro e w' ⟨rfl, ⟨nd, rfl⟩⟩
                    refine ⟨_, rfl, ?_⟩
                    have p20 : 0 ≤ (a2 : Int) := of_decide_eq_true (by first | (with_reducible assumption) | assumption)
                    have q20 : (a2 : Int) < ((y113.length : Int) : Int) := of_decide_eq_true (by first | (with_reducible assumption) | assumption)
                    obtain ⟨hx20_0, hf20_0⟩ := Kd.R_celln 0 HO115.out (a2 : Int) p20 q20
                    replace p20 := eq_true p20
                    replace q20 := eq_true q20
                    have HP41 := Kd.R_putn HO115.out (a2 : Int) t128
                    rw [← Ny129.out] at HP41
                    have HQ41 := Aside0.mk HP41
                    clear HP41
                    refine hK.out _ _ ⟨hHeld.1, hHeld.2⟩ (fun hHeld => ?_)
                    clear hK K
                    refine norm_ (a' := ?_) ?_ ?_
                    rotate_left
                    · show Act.put _ (some 63) _ = _
                      simp only [Act.put, List.setIfInBounds_toArray, List.set_cons_zero, List.set_cons_succ, i64_w, i32_w]
                      rfl
                    refine pure_ (i := 12) (N := some 64) (v := ?_) (a' := ?_) #[true, true, true, true, true, true, true, true, true, true, true, true, true, false] rfl rfl (any_of HT_.out (by kernel_rfl)) (fun _ _ _ h => h) (Or.inl ⟨by rfl, ?_⟩) ?_ ?_
                    rotate_left
                    · intro w'
                      go_simp
                      with_reducible rfl
                    rotate_left
                    · simp only [Act.put, List.setIfInBounds_toArray, List.set_cons_zero, List.set_cons_succ, i64_w, i32_w]
                      rfl
                    refine last_ (i := 13) (N := none) #[true, true, true, true, true, true, true, true, true, true, true, true, true, true] rfl rfl (one_of HT_.out (by kernel_rfl)) (by decide) (fun K hK => ?_)
                    refine skip_ (w1 := ?_) (by rfl) rfl ?_ ?_
                    rotate_left
                    · go_simp
                      rfl
                    refine hK.out _ _ ?_
                    clear hK K
                    refine done_ (done_of HT_.out (by kernel_rfl)) ?_
                    try go_wp2
                    have n0_ : Aside0 (Kd.R (Kd.int .u32) 31 (w40.setCell ⟨go11, (a2 : Int).toNat, none⟩ (.int .u32 t128)) w.heap.size (fun _ => True) (.slice (some ⟨go11, 0, none⟩) y113.length co31) y129) := ⟨by (with_reducible repeat (first | apply Kd.R_alloc | apply Kd.R_drewN | apply Kd.R_drew)); exact HQ41.out⟩
                    have n1_ : Aside0 (Below w.heap.size w (w40.setCell ⟨go11, (a2 : Int).toNat, none⟩ (.int .u32 t128))) := ⟨by repeat (first | (with_reducible first | exact HB.out | apply below_alloc | apply pw_below_drewN | apply below_drew1 | refine below_set ?_ GB11.out) | exact HB.out)⟩
                    (try clear HO115)
                    (try clear HB)
                    (try simp only [setCell_drewN'])
                    generalize (w40.setCell ⟨go11, (a2 : Int).toNat, none⟩ (.int .u32 t128)) = w42 at n0_ n1_ ⊢
                    have HO115 := n0_
                    have HB := n1_
                    clear n0_ n1_
                    (try (rw [drewN_self w42]; generalize hq_ : World.drewN w42 _ = w42; have n0_ : Aside0 (Kd.R (Kd.int .u32) 31 w42 w.heap.size (fun _ => True) (.slice (some ⟨go11, 0, none⟩) y113.length co31) y129) := ⟨by rw [← hq_]; exact (by (with_reducible repeat (first | apply Kd.R_alloc | apply Kd.R_drewN | apply Kd.R_drew)); exact HO115.out)⟩; have n1_ : Aside0 (Below w.heap.size w w42) := ⟨by rw [← hq_]; exact (by repeat (first | (with_reducible first | exact HB.out | apply below_alloc | apply pw_below_drewN | apply below_drew1) | exact HB.out))⟩; clear HO115 HB hq_; have HO115 := n0_; have HB := n1_; clear n0_ n1_))
                    have n0_ := Aside0.mk (Kd.R_drew HO115.out)
                    have n1_ := Aside0.mk (below_drew1 HB.out)
                    clear HO115
                    clear HB
                    have HO115 := n0_
                    have HB := n1_
                    clear n0_ n1_
                    have p130 : 0 ≤ (a1 : Int) := of_decide_eq_true (by first | (with_reducible assumption) | assumption)
                    have q130 : a1 < (y129.length : Int) := (by have h_ : (a1 : Int) < ((y113.length : Int) : Int) := of_decide_eq_true (by first | (with_reducible assumption) | assumption); first | (have e_ := (Kd.R_reads' HO115.out).1; omega) | simpa only [Ny118.out, Ny122.out, Ny125.out, Ny129.out, List.length_set] using h_)
                    have ql130 : ((a1 : Int) < ((y113.length : Int) : Int)) = True := eq_true (of_decide_eq_true (by first | (with_reducible assumption) | assumption))
                    obtain ⟨ad130, e130, hx130_0⟩ := Kd.at_int (Kd.R_reads' HO115.out).2.2 a1 p130 q130
                    obtain rfl : (⟨go11, 0, none⟩ : Addr) = ad130 := (by injection e130)
                    (first | simp only [add_plain] at hx130_0 | simp only [add_at] at hx130_0 | simp only [Addr.add, Nat.zero_add] at hx130_0 | skip)
                    replace p130 := eq_true p130
                    replace q130 := eq_true q130
                    have p131 : 0 ≤ (a2 : Int) := of_decide_eq_true (by first | (with_reducible assumption) | assumption)
                    have q131 : a2 < (y129.length : Int) := (by have h_ : (a2 : Int) < ((y113.length : Int) : Int) := of_decide_eq_true (by first | (with_reducible assumption) | assumption); first | (have e_ := (Kd.R_reads' HO115.out).1; omega) | simpa only [Ny118.out, Ny122.out, Ny125.out, Ny129.out, List.length_set] using h_)
                    have ql131 : ((a2 : Int) < ((y113.length : Int) : Int)) = True := eq_true (of_decide_eq_true (by first | (with_reducible assumption) | assumption))
                    obtain ⟨ad131, e131, hx131_0⟩ := Kd.at_int (Kd.R_reads' HO115.out).2.2 a2 p131 q131
                    obtain rfl : (⟨go11, 0, none⟩ : Addr) = ad131 := (by injection e131)
                    (first | simp only [add_plain] at hx131_0 | simp only [add_at] at hx131_0 | simp only [Addr.add, Nat.zero_add] at hx131_0 | skip)
                    replace p131 := eq_true p131
                    replace q131 := eq_true q131
                    have p21 : 0 ≤ (a1 : Int) := of_decide_eq_true (by first | (with_reducible assumption) | assumption)
                    have q21 : (a1 : Int) < ((y113.length : Int) : Int) := of_decide_eq_true (by first | (with_reducible assumption) | assumption)
                    obtain ⟨hx21_0, hf21_0⟩ := Kd.R_celln 0 HO115.out (a1 : Int) p21 q21
                    replace p21 := eq_true p21
                    replace q21 := eq_true q21
                    have HP44 := Kd.R_putn HO115.out (a1 : Int) (((rd y129 a1) + (rd y129 a2)) % 4294967296)
                    rw [← Ny132.out] at HP44
                    have HQ44 := Aside0.mk HP44
                    clear HP44
                    refine start_ (n := 13) (S := fun w' => w'.cell? ⟨go11, (a1).toNat, none⟩ = some (.int .u32 (rd y129 a1)) ∧ w'.cell? ⟨go11, (a2).toNat, none⟩ = some (.int .u32 (rd y129 a2))) (ds := [12]) #[false, false, false, false, false, false, false, false, false, false, false, false, false] (by kernel_rfl) rfl rfl ⟨hx130_0, hx131_0⟩ (fun hHeld => ?_); refine with_tabW hourglassref05_quarter.tab6 hourglassref05_quarter.bits6 (fun HT_ HW_ => ?_)
                    generalize w42.drew = w43 at HO115 HB HQ41 HQ44 hf21_0 hx130_0 hx131_0 hx21_0 hHeld ⊢
                    refine pure_ (i := 0) (N := some 65) (v := ?_) (a' := ?_) #[true, false, false, false, false, false, false, false, false, false, false, false, false] rfl rfl (any_of HT_.out (by kernel_rfl)) (fun _ _ _ h => h) (Or.inl ⟨by rfl, ?_⟩) ?_ ?_
                    rotate_left
                    · intro w'
                      go_simp
                      with_reducible rfl
                    rotate_left
                    · simp only [Act.put, List.setIfInBounds_toArray, List.set_cons_zero, List.set_cons_succ, i64_w, i32_w]
                      rfl
                    refine pure_ (i := 1) (N := some 66) (v := ?_) (a' := ?_) #[true, true, false, false, false, false, false, false, false, false, false, false, false] rfl rfl (any_of HT_.out (by kernel_rfl)) (fun _ _ _ h => h) (Or.inl ⟨by rfl, ?_⟩) ?_ ?_
                    rotate_left
                    · intro w'
                      go_simp
                      with_reducible rfl
                    rotate_left
                    · simp only [Act.put, List.setIfInBounds_toArray, List.set_cons_zero, List.set_cons_succ, i64_w, i32_w]
                      rfl
                    refine pure_ (i := 2) (N := some 67) (v := ?_) (a' := ?_) #[true, true, true, false, false, false, false, false, false, false, false, false, false] rfl rfl (any_of HT_.out (by kernel_rfl)) (fun _ _ _ h => h) (Or.inl ⟨by rfl, ?_⟩) ?_ ?_
                    rotate_left
                    · intro w'
                      go_simp
                      with_reducible rfl
                    rotate_left
                    · simp only [Act.put, List.setIfInBounds_toArray, List.set_cons_zero, List.set_cons_succ, i64_w, i32_w]
                      rfl
                    refine pure_ (i := 3) (N := some 68) (v := ?_) (a' := ?_) #[true, true, true, true, false, false, false, false, false, false, false, false, false] rfl rfl (any_of HT_.out (by kernel_rfl)) (fun _ _ _ h => h) (Or.inl ⟨by rfl, ?_⟩) ?_ ?_
                    rotate_left
                    · intro w'
                      go_simp
                      with_reducible rfl
                    rotate_left
                    · simp only [Act.put, List.setIfInBounds_toArray, List.set_cons_zero, List.set_cons_succ, i64_w, i32_w]
                      rfl
                    refine pure_ (i := 4) (N := some 69) (v := ?_) (a' := ?_) #[true, true, true, true, true, false, false, false, false, false, false, false, false] rfl rfl (any_of HT_.out (by kernel_rfl)) (fun _ _ _ h => h) (Or.inl ⟨by rfl, ?_⟩) ?_ ?_
                    rotate_left
                    · intro w'
                      go_simp
                      with_reducible rfl
                    rotate_left
                    · simp only [Act.put, List.setIfInBounds_toArray, List.set_cons_zero, List.set_cons_succ, i64_w, i32_w]
                      rfl
                    refine pure_ (i := 6) (N := some 71) (v := ?_) (a' := ?_) #[true, true, true, true, true, false, true, false, false, false, false, false, false] rfl rfl (any_of HT_.out (by kernel_rfl)) (fun _ _ _ h => h) (Or.inl ⟨by rfl, ?_⟩) ?_ ?_
                    rotate_left
                    · intro w'
                      go_simp
                      with_reducible rfl
                    rotate_left
                    · simp only [Act.put, List.setIfInBounds_toArray, List.set_cons_zero, List.set_cons_succ, i64_w, i32_w]
                      rfl
                    refine pure_ (i := 7) (N := some 72) (v := ?_) (a' := ?_) #[true, true, true, true, true, false, true, true, false, false, false, false, false] rfl rfl (any_of HT_.out (by kernel_rfl)) (fun _ _ _ h => h) (Or.inl ⟨by rfl, ?_⟩) ?_ ?_
                    rotate_left
                    · intro w'
                      go_simp
                      with_reducible rfl
                    rotate_left
                    · simp only [Act.put, List.setIfInBounds_toArray, List.set_cons_zero, List.set_cons_succ, i64_w, i32_w]
                      rfl
                    refine pure_ (i := 8) (N := some 73) (v := ?_) (a' := ?_) #[true, true, true, true, true, false, true, true, true, false, false, false, false] rfl rfl (any_of HT_.out (by kernel_rfl)) (fun _ _ _ h => h) (Or.inl ⟨by rfl, ?_⟩) ?_ ?_
                    rotate_left
                    · intro w'
                      go_simp
                      with_reducible rfl
                    rotate_left
                    · simp only [Act.put, List.setIfInBounds_toArray, List.set_cons_zero, List.set_cons_succ, i64_w, i32_w]
                      rfl
                    refine take_ (i := 5) (N := some 70) (v := ?_) (a' := ?_) #[true, true, true, true, true, true, true, true, true, false, false, false, false] rfl rfl (take_ofW HT_.out HW_.out (by kernel_rfl)) (fun _ _ _ h => h) (Or.inl ⟨by rfl, ?_⟩) hHeld ?_ ?_
                    rotate_left
                    · rintro w' ⟨s0, s1⟩
                      go_simp
                      with_reducible rfl
                    rotate_left
                    · simp only [Act.put, List.setIfInBounds_toArray, List.set_cons_zero, List.set_cons_succ, i64_w, i32_w]
                      rfl
                    refine take_ (i := 9) (N := some 74) (v := ?_) (a' := ?_) #[true, true, true, true, true, true, true, true, true, true, false, false, false] rfl rfl (take_ofW HT_.out HW_.out (by kernel_rfl)) (fun _ _ _ h => h) (Or.inl ⟨by rfl, ?_⟩) hHeld ?_ ?_
                    rotate_left
                    · rintro w' ⟨s0, s1⟩
                      go_simp
                      with_reducible rfl
                    rotate_left
                    · simp only [Act.put, List.setIfInBounds_toArray, List.set_cons_zero, List.set_cons_succ, i64_w, i32_w]
                      rfl
                    refine pure_ (i := 10) (N := some 75) (v := ?_) (a' := ?_) #[true, true, true, true, true, true, true, true, true, true, true, false, false] rfl rfl (any_of HT_.out (by kernel_rfl)) (fun _ _ _ h => h) (Or.inl ⟨by rfl, ?_⟩) ?_ ?_
                    rotate_left
                    · intro w'
                      go_simp
                      with_reducible rfl
                    rotate_left
                    · simp only [Act.put, List.setIfInBounds_toArray, List.set_cons_zero, List.set_cons_succ, i64_w, i32_w]
                      rfl
                    refine pure_ (i := 11) (N := some 76) (v := ?_) (a' := ?_) #[true, true, true, true, true, true, true, true, true, true, true, true, false] rfl rfl (any_of HT_.out (by kernel_rfl)) (fun _ _ _ h => h) (Or.inl ⟨by rfl, ?_⟩) ?_ ?_
                    rotate_left
                    · intro w'
                      go_simp
                      with_reducible rfl
                    rotate_left
                    · simp only [Act.put, List.setIfInBounds_toArray, List.set_cons_zero, List.set_cons_succ, i64_w, i32_w]
                      rfl
                    refine last_ (i := 12) (N := none) #[true, true, true, true, true, true, true, true, true, true, true, true, true] rfl rfl (one_of HT_.out (by kernel_rfl)) (by decide) (fun K hK => ?_)
                    refine skip_ (w1 := ?_) (by rfl) rfl ?_ ?_
                    rotate_left
                    · go_simp
                      rfl
                    refine hK.out _ _ ?_
                    clear hK K
                    refine done_ (done_of HT_.out (by kernel_rfl)) ?_
                    try go_wp2
                    have n0_ : Aside0 (Kd.R (Kd.int .u32) 31 (w43.setCell ⟨go11, (a1 : Int).toNat, none⟩ (.int .u32 (((rd y129 a1) + (rd y129 a2)) % 4294967296))) w.heap.size (fun _ => True) (.slice (some ⟨go11, 0, none⟩) y113.length co31) y132) := ⟨by (with_reducible repeat (first | apply Kd.R_alloc | apply Kd.R_drewN | apply Kd.R_drew)); exact HQ44.out⟩
                    have n1_ : Aside0 (Below w.heap.size w (w43.setCell ⟨go11, (a1 : Int).toNat, none⟩ (.int .u32 (((rd y129 a1) + (rd y129 a2)) % 4294967296)))) := ⟨by repeat (first | (with_reducible first | exact HB.out | apply below_alloc | apply pw_below_drewN | apply below_drew1 | refine below_set ?_ GB11.out) | exact HB.out)⟩
                    (try clear HO115)
                    (try clear HB)
                    (try simp only [IntKind.wrap_u32])
                    generalize (w43.setCell ⟨go11, (a1 : Int).toNat, none⟩ (.int .u32 (((rd y129 a1) + (rd y129 a2)) % 4294967296))) = w45 at n0_ n1_ ⊢
                    have HO115 := n0_
                    have HB := n1_
                    clear n0_ n1_
                    have n0_ := Aside0.mk (Kd.R_drew HO115.out)
                    have n1_ := Aside0.mk (below_drew1 HB.out)
                    clear HO115
                    clear HB
                    have HO115 := n0_
                    have HB := n1_
                    clear n0_ n1_
                    have p133 : 0 ≤ (a4 : Int) := of_decide_eq_true (by first | (with_reducible assumption) | assumption)
                    have q133 : a4 < (y132.length : Int) := (by have h_ : (a4 : Int) < ((y113.length : Int) : Int) := of_decide_eq_true (by first | (with_reducible assumption) | assumption); first | (have e_ := (Kd.R_reads' HO115.out).1; omega) | simpa only [Ny118.out, Ny122.out, Ny125.out, Ny129.out, Ny132.out, List.length_set] using h_)
                    have ql133 : ((a4 : Int) < ((y113.length : Int) : Int)) = True := eq_true (of_decide_eq_true (by first | (with_reducible assumption) | assumption))
                    obtain ⟨ad133, e133, hx133_0⟩ := Kd.at_int (Kd.R_reads' HO115.out).2.2 a4 p133 q133
                    obtain rfl : (⟨go11, 0, none⟩ : Addr) = ad133 := (by injection e133)
                    (first | simp only [add_plain] at hx133_0 | simp only [add_at] at hx133_0 | simp only [Addr.add, Nat.zero_add] at hx133_0 | skip)
                    replace p133 := eq_true p133
                    replace q133 := eq_true q133
                    have p134 : 0 ≤ (a1 : Int) := of_decide_eq_true (by first | (with_reducible assumption) | assumption)
                    have q134 : a1 < (y132.length : Int) := (by have h_ : (a1 : Int) < ((y113.length : Int) : Int) := of_decide_eq_true (by first | (with_reducible assumption) | assumption); first | (have e_ := (Kd.R_reads' HO115.out).1; omega) | simpa only [Ny118.out, Ny122.out, Ny125.out, Ny129.out, Ny132.out, List.length_set] using h_)
                    have ql134 : ((a1 : Int) < ((y113.length : Int) : Int)) = True := eq_true (of_decide_eq_true (by first | (with_reducible assumption) | assumption))
                    obtain ⟨ad134, e134, hx134_0⟩ := Kd.at_int (Kd.R_reads' HO115.out).2.2 a1 p134 q134
                    obtain rfl : (⟨go11, 0, none⟩ : Addr) = ad134 := (by injection e134)
                    (first | simp only [add_plain] at hx134_0 | simp only [add_at] at hx134_0 | simp only [Addr.add, Nat.zero_add] at hx134_0 | skip)
                    replace p134 := eq_true p134
                    replace q134 := eq_true q134
                    refine start_ (n := 14) (S := fun w' => w'.cell? ⟨go11, (a4).toNat, none⟩ = some (.int .u32 (rd y132 a4)) ∧ w'.cell? ⟨go11, (a1).toNat, none⟩ = some (.int .u32 (rd y132 a1))) (ds := [13]) #[false, false, false, false, false, false, false, false, false, false, false, false, false, false] (by kernel_rfl) rfl rfl ⟨hx133_0, hx134_0⟩ (fun hHeld => ?_); refine with_tabW hourglassref05_quarter.tab7 hourglassref05_quarter.bits7 (fun HT_ HW_ => ?_)
                    generalize w45.drew = w46 at HO115 HB HQ44 hx133_0 hx134_0 hHeld ⊢
                    refine pure_ (i := 0) (N := some 77) (v := ?_) (a' := ?_) #[true, false, false, false, false, false, false, false, false, false, false, false, false, false] rfl rfl (any_of HT_.out (by kernel_rfl)) (fun _ _ _ h => h) (Or.inl ⟨by rfl, ?_⟩) ?_ ?_
                    rotate_left
                    · intro w'
                      go_simp
                      with_reducible rfl
                    rotate_left
                    · simp only [Act.put, List.setIfInBounds_toArray, List.set_cons_zero, List.set_cons_succ, i64_w, i32_w]
                      rfl
                    refine pure_ (i := 1) (N := some 78) (v := ?_) (a' := ?_) #[true, true, false, false, false, false, false, false, false, false, false, false, false, false] rfl rfl (any_of HT_.out (by kernel_rfl)) (fun _ _ _ h => h) (Or.inl ⟨by rfl, ?_⟩) ?_ ?_
                    rotate_left
                    · intro w'
                      go_simp
                      with_reducible rfl
                    rotate_left
                    · simp only [Act.put, List.setIfInBounds_toArray, List.set_cons_zero, List.set_cons_succ, i64_w, i32_w]
                      rfl
                    refine pure_ (i := 2) (N := some 79) (v := ?_) (a' := ?_) #[true, true, true, false, false, false, false, false, false, false, false, false, false, false] rfl rfl (any_of HT_.out (by kernel_rfl)) (fun _ _ _ h => h) (Or.inl ⟨by rfl, ?_⟩) ?_ ?_
                    rotate_left
                    · intro w'
                      go_simp
                      with_reducible rfl
                    rotate_left
                    · simp only [Act.put, List.setIfInBounds_toArray, List.set_cons_zero, List.set_cons_succ, i64_w, i32_w]
                      rfl
                    refine pure_ (i := 3) (N := some 80) (v := ?_) (a' := ?_) #[true, true, true, true, false, false, false, false, false, false, false, false, false, false] rfl rfl (any_of HT_.out (by kernel_rfl)) (fun _ _ _ h => h) (Or.inl ⟨by rfl, ?_⟩) ?_ ?_
                    rotate_left
                    · intro w'
                      go_simp
                      with_reducible rfl
                    rotate_left
                    · simp only [Act.put, List.setIfInBounds_toArray, List.set_cons_zero, List.set_cons_succ, i64_w, i32_w]
                      rfl
                    refine pure_ (i := 4) (N := some 81) (v := ?_) (a' := ?_) #[true, true, true, true, true, false, false, false, false, false, false, false, false, false] rfl rfl (any_of HT_.out (by kernel_rfl)) (fun _ _ _ h => h) (Or.inl ⟨by rfl, ?_⟩) ?_ ?_
                    rotate_left
                    · intro w'
                      go_simp
                      with_reducible rfl
                    rotate_left
                    · simp only [Act.put, List.setIfInBounds_toArray, List.set_cons_zero, List.set_cons_succ, i64_w, i32_w]
                      rfl
                    refine pure_ (i := 6) (N := some 83) (v := ?_) (a' := ?_) #[true, true, true, true, true, false, true, false, false, false, false, false, false, false] rfl rfl (any_of HT_.out (by kernel_rfl)) (fun _ _ _ h => h) (Or.inl ⟨by rfl, ?_⟩) ?_ ?_
                    rotate_left
                    · intro w'
                      go_simp
                      with_reducible rfl
                    rotate_left
                    · simp only [Act.put, List.setIfInBounds_toArray, List.set_cons_zero, List.set_cons_succ, i64_w, i32_w]
                      rfl
                    refine pure_ (i := 7) (N := some 84) (v := ?_) (a' := ?_) #[true, true, true, true, true, false, true, true, false, false, false, false, false, false] rfl rfl (any_of HT_.out (by kernel_rfl)) (fun _ _ _ h => h) (Or.inl ⟨by rfl, ?_⟩) ?_ ?_
                    rotate_left
                    · intro w'
                      go_simp
                      with_reducible rfl
                    rotate_left
                    · simp only [Act.put, List.setIfInBounds_toArray, List.set_cons_zero, List.set_cons_succ, i64_w, i32_w]
                      rfl
                    refine pure_ (i := 8) (N := some 85) (v := ?_) (a' := ?_) #[true, true, true, true, true, false, true, true, true, false, false, false, false, false] rfl rfl (any_of HT_.out (by kernel_rfl)) (fun _ _ _ h => h) (Or.inl ⟨by rfl, ?_⟩) ?_ ?_
                    rotate_left
                    · intro w'
                      go_simp
                      with_reducible rfl
                    rotate_left
                    · simp only [Act.put, List.setIfInBounds_toArray, List.set_cons_zero, List.set_cons_succ, i64_w, i32_w]
                      rfl
                    refine take_ (i := 5) (N := some 82) (v := ?_) (a' := ?_) #[true, true, true, true, true, true, true, true, true, false, false, false, false, false] rfl rfl (take_ofW HT_.out HW_.out (by kernel_rfl)) (fun _ _ _ h => h) (Or.inl ⟨by rfl, ?_⟩) hHeld ?_ ?_
                    rotate_left
                    · rintro w' ⟨s0, s1⟩
                      go_simp
                      with_reducible rfl
                    rotate_left
                    · simp only [Act.put, List.setIfInBounds_toArray, List.set_cons_zero, List.set_cons_succ, i64_w, i32_w]
                      rfl
                    refine take_ (i := 9) (N := some 86) (v := ?_) (a' := ?_) #[true, true, true, true, true, true, true, true, true, true, false, false, false, false] rfl rfl (take_ofW HT_.out HW_.out (by kernel_rfl)) (fun _ _ _ h => h) (Or.inl ⟨by rfl, ?_⟩) hHeld ?_ ?_
                    rotate_left
                    · rintro w' ⟨s0, s1⟩
                      go_simp
                      with_reducible rfl
                    rotate_left
                    · simp only [Act.put, List.setIfInBounds_toArray, List.set_cons_zero, List.set_cons_succ, i64_w, i32_w]
                      rfl
                    refine pure_ (i := 10) (N := some 87) (v := ?_) (a' := ?_) #[true, true, true, true, true, true, true, true, true, true, true, false, false, false] rfl rfl (any_of HT_.out (by kernel_rfl)) (fun _ _ _ h => h) (Or.inl ⟨by rfl, ?_⟩) ?_ ?_
                    rotate_left
                    · intro w'
                      go_simp
                      with_reducible rfl
                    rotate_left
                    · simp only [Act.put, List.setIfInBounds_toArray, List.set_cons_zero, List.set_cons_succ, i64_w, i32_w]
                      rfl
                    refine one_ (i := 11) (N := some 88) #[true, true, true, true, true, true, true, true, true, true, true, true, false, false] rfl rfl (one_of HT_.out (by kernel_rfl)) (by decide) (fun K hK => ?_)
                    refine goes_ Tryd.func24 (by kernel_rfl) rfl #[.int .u32 (Go.bits .xor .u32 (rd y132 a4) (rd y132 a1)), .int .i64 8] (by rfl) rfl rfl (by (try simp only [List.map_toArray, List.map_cons, List.map_nil]); first | done | rfl | (simp only [List.length_drop, List.length_take]; rfl)) ?_
                    with_reducible refine (hourglassref05_left.calls (Go.bits .xor .u32 (rd y132 a4) (rd y132 a1)) 8 t135 _ A22.out).mono ?_
                    rintro e w' ⟨rfl, ⟨nd, rfl⟩⟩
                    refine ⟨_, rfl, ?_⟩
                    have p23 : 0 ≤ (a4 : Int) := of_decide_eq_true (by first | (with_reducible assumption) | assumption)
                    have q23 : (a4 : Int) < ((y113.length : Int) : Int) := of_decide_eq_true (by first | (with_reducible assumption) | assumption)
                    obtain ⟨hx23_0, hf23_0⟩ := Kd.R_celln 0 HO115.out (a4 : Int) p23 q23
                    replace p23 := eq_true p23
                    replace q23 := eq_true q23
                    have HP47 := Kd.R_putn HO115.out (a4 : Int) t135
                    rw [← Ny136.out] at HP47
                    have HQ47 := Aside0.mk HP47
                    clear HP47
                    refine hK.out _ _ ⟨hHeld.1, hHeld.2⟩ (fun hHeld => ?_)
                    clear hK K
                    refine norm_ (a' := ?_) ?_ ?_
                    rotate_left
                    · show Act.put _ (some 88) _ = _
                      simp only [Act.put, List.setIfInBounds_toArray, List.set_cons_zero, List.set_cons_succ, i64_w, i32_w]
                      rfl
                    refine pure_ (i := 12) (N := some 89) (v := ?_) (a' := ?_) #[true, true, true, true, true, true, true, true, true, true, true, true, true, false] rfl rfl (any_of HT_.out (by kernel_rfl)) (fun _ _ _ h => h) (Or.inl ⟨by rfl, ?_⟩) ?_ ?_
                    rotate_left
                    · intro w'
                      go_simp
                      with_reducible rfl
                    rotate_left
                    · simp only [Act.put, List.setIfInBounds_toArray, List.set_cons_zero, List.set_cons_succ, i64_w, i32_w]
                      rfl
                    refine last_ (i := 13) (N := none) #[true, true, true, true, true, true, true, true, true, true, true, true, true, true] rfl rfl (one_of HT_.out (by kernel_rfl)) (by decide) (fun K hK => ?_)
                    refine skip_ (w1 := ?_) (by rfl) rfl ?_ ?_
                    rotate_left
                    · go_simp
                      rfl
                    refine hK.out _ _ ?_
                    clear hK K
                    refine done_ (done_of HT_.out (by kernel_rfl)) ?_
                    try go_wp2
                    have n0_ : Aside0 (Kd.R (Kd.int .u32) 31 (w46.setCell ⟨go11, (a4 : Int).toNat, none⟩ (.int .u32 t135)) w.heap.size (fun _ => True) (.slice (some ⟨go11, 0, none⟩) y113.length co31) y136) := ⟨by (with_reducible repeat (first | apply Kd.R_alloc | apply Kd.R_drewN | apply Kd.R_drew)); exact HQ47.out⟩
                    have n1_ : Aside0 (Below w.heap.size w (w46.setCell ⟨go11, (a4 : Int).toNat, none⟩ (.int .u32 t135))) := ⟨by repeat (first | (with_reducible first | exact HB.out | apply below_alloc | apply pw_below_drewN | apply below_drew1 | refine below_set ?_ GB11.out) | exact HB.out)⟩
                    (try clear HO115)
                    (try clear HB)
                    (try simp only [setCell_drewN'])
                    generalize (w46.setCell ⟨go11, (a4 : Int).toNat, none⟩ (.int .u32 t135)) = w48 at n0_ n1_ ⊢
                    have HO115 := n0_
                    have HB := n1_
                    clear n0_ n1_
                    (try (rw [drewN_self w48]; generalize hq_ : World.drewN w48 _ = w48; have n0_ : Aside0 (Kd.R (Kd.int .u32) 31 w48 w.heap.size (fun _ => True) (.slice (some ⟨go11, 0, none⟩) y113.length co31) y136) := ⟨by rw [← hq_]; exact (by (with_reducible repeat (first | apply Kd.R_alloc | apply Kd.R_drewN | apply Kd.R_drew)); exact HO115.out)⟩; have n1_ : Aside0 (Below w.heap.size w w48) := ⟨by rw [← hq_]; exact (by repeat (first | (with_reducible first | exact HB.out | apply below_alloc | apply pw_below_drewN | apply below_drew1) | exact HB.out))⟩; clear HO115 HB hq_; have HO115 := n0_; have HB := n1_; clear n0_ n1_))
                    have n0_ := Aside0.mk (Kd.R_drew HO115.out)
                    have n1_ := Aside0.mk (below_drew1 HB.out)
                    clear HO115
                    clear HB
                    have HO115 := n0_
                    have HB := n1_
                    clear n0_ n1_
                    have p137 : 0 ≤ (a3 : Int) := of_decide_eq_true (by first | (with_reducible assumption) | assumption)
                    have q137 : a3 < (y136.length : Int) := (by have h_ : (a3 : Int) < ((y113.length : Int) : Int) := of_decide_eq_true (by first | (with_reducible assumption) | assumption); first | (have e_ := (Kd.R_reads' HO115.out).1; omega) | simpa only [Ny118.out, Ny122.out, Ny125.out, Ny129.out, Ny132.out, Ny136.out, List.length_set] using h_)
                    have ql137 : ((a3 : Int) < ((y113.length : Int) : Int)) = True := eq_true (of_decide_eq_true (by first | (with_reducible assumption) | assumption))
                    obtain ⟨ad137, e137, hx137_0⟩ := Kd.at_int (Kd.R_reads' HO115.out).2.2 a3 p137 q137
                    obtain rfl : (⟨go11, 0, none⟩ : Addr) = ad137 := (by injection e137)
                    (first | simp only [add_plain] at hx137_0 | simp only [add_at] at hx137_0 | simp only [Addr.add, Nat.zero_add] at hx137_0 | skip)
                    replace p137 := eq_true p137
                    replace q137 := eq_true q137
                    have p138 : 0 ≤ (a4 : Int) := of_decide_eq_true (by first | (with_reducible assumption) | assumption)
                    have q138 : a4 < (y136.length : Int) := (by have h_ : (a4 : Int) < ((y113.length : Int) : Int) := of_decide_eq_true (by first | (with_reducible assumption) | assumption); first | (have e_ := (Kd.R_reads' HO115.out).1; omega) | simpa only [Ny118.out, Ny122.out, Ny125.out, Ny129.out, Ny132.out, Ny136.out, List.length_set] using h_)
                    have ql138 : ((a4 : Int) < ((y113.length : Int) : Int)) = True := eq_true (of_decide_eq_true (by first | (with_reducible assumption) | assumption))
                    obtain ⟨ad138, e138, hx138_0⟩ := Kd.at_int (Kd.R_reads' HO115.out).2.2 a4 p138 q138
                    obtain rfl : (⟨go11, 0, none⟩ : Addr) = ad138 := (by injection e138)
                    (first | simp only [add_plain] at hx138_0 | simp only [add_at] at hx138_0 | simp only [Addr.add, Nat.zero_add] at hx138_0 | skip)
                    replace p138 := eq_true p138
                    replace q138 := eq_true q138
                    have p24 : 0 ≤ (a3 : Int) := of_decide_eq_true (by first | (with_reducible assumption) | assumption)
                    have q24 : (a3 : Int) < ((y113.length : Int) : Int) := of_decide_eq_true (by first | (with_reducible assumption) | assumption)
                    obtain ⟨hx24_0, hf24_0⟩ := Kd.R_celln 0 HO115.out (a3 : Int) p24 q24
                    replace p24 := eq_true p24
                    replace q24 := eq_true q24
                    have HP50 := Kd.R_putn HO115.out (a3 : Int) (((rd y136 a3) + (rd y136 a4)) % 4294967296)
                    rw [← Ny139.out] at HP50
                    have HQ50 := Aside0.mk HP50
                    clear HP50
                    refine start_ (n := 13) (S := fun w' => w'.cell? ⟨go11, (a3).toNat, none⟩ = some (.int .u32 (rd y136 a3)) ∧ w'.cell? ⟨go11, (a4).toNat, none⟩ = some (.int .u32 (rd y136 a4))) (ds := [12]) #[false, false, false, false, false, false, false, false, false, false, false, false, false] (by kernel_rfl) rfl rfl ⟨hx137_0, hx138_0⟩ (fun hHeld => ?_); refine with_tabW hourglassref05_quarter.tab8 hourglassref05_quarter.bits8 (fun HT_ HW_ => ?_)
                    generalize w48.drew = w49 at HO115 HB HQ47 HQ50 hf24_0 hx137_0 hx138_0 hx24_0 hHeld ⊢
                    refine pure_ (i := 0) (N := some 90) (v := ?_) (a' := ?_) #[true, false, false, false, false, false, false, false, false, false, false, false, false] rfl rfl (any_of HT_.out (by kernel_rfl)) (fun _ _ _ h => h) (Or.inl ⟨by rfl, ?_⟩) ?_ ?_
                    rotate_left
                    · intro w'
                      go_simp
                      with_reducible rfl
                    rotate_left
                    · simp only [Act.put, List.setIfInBounds_toArray, List.set_cons_zero, List.set_cons_succ, i64_w, i32_w]
                      rfl
                    refine pure_ (i := 1) (N := some 91) (v := ?_) (a' := ?_) #[true, true, false, false, false, false, false, false, false, false, false, false, false] rfl rfl (any_of HT_.out (by kernel_rfl)) (fun _ _ _ h => h) (Or.inl ⟨by rfl, ?_⟩) ?_ ?_
                    rotate_left
                    · intro w'
                      go_simp
                      with_reducible rfl
                    rotate_left
                    · simp only [Act.put, List.setIfInBounds_toArray, List.set_cons_zero, List.set_cons_succ, i64_w, i32_w]
                      rfl
                    refine pure_ (i := 2) (N := some 92) (v := ?_) (a' := ?_) #[true, true, true, false, false, false, false, false, false, false, false, false, false] rfl rfl (any_of HT_.out (by kernel_rfl)) (fun _ _ _ h => h) (Or.inl ⟨by rfl, ?_⟩) ?_ ?_
                    rotate_left
                    · intro w'
                      go_simp
                      with_reducible rfl
                    rotate_left
                    · simp only [Act.put, List.setIfInBounds_toArray, List.set_cons_zero, List.set_cons_succ, i64_w, i32_w]
                      rfl
                    refine pure_ (i := 3) (N := some 93) (v := ?_) (a' := ?_) #[true, true, true, true, false, false, false, false, false, false, false, false, false] rfl rfl (any_of HT_.out (by kernel_rfl)) (fun _ _ _ h => h) (Or.inl ⟨by rfl, ?_⟩) ?_ ?_
                    rotate_left
                    · intro w'
                      go_simp
                      with_reducible rfl
                    rotate_left
                    · simp only [Act.put, List.setIfInBounds_toArray, List.set_cons_zero, List.set_cons_succ, i64_w, i32_w]
                      rfl
                    refine pure_ (i := 4) (N := some 94) (v := ?_) (a' := ?_) #[true, true, true, true, true, false, false, false, false, false, false, false, false] rfl rfl (any_of HT_.out (by kernel_rfl)) (fun _ _ _ h => h) (Or.inl ⟨by rfl, ?_⟩) ?_ ?_
                    rotate_left
                    · intro w'
                      go_simp
                      with_reducible rfl
                    rotate_left
                    · simp only [Act.put, List.setIfInBounds_toArray, List.set_cons_zero, List.set_cons_succ, i64_w, i32_w]
                      rfl
                    refine pure_ (i := 6) (N := some 96) (v := ?_) (a' := ?_) #[true, true, true, true, true, false, true, false, false, false, false, false, false] rfl rfl (any_of HT_.out (by kernel_rfl)) (fun _ _ _ h => h) (Or.inl ⟨by rfl, ?_⟩) ?_ ?_
                    rotate_left
                    · intro w'
                      go_simp
                      with_reducible rfl
                    rotate_left
                    · simp only [Act.put, List.setIfInBounds_toArray, List.set_cons_zero, List.set_cons_succ, i64_w, i32_w]
                      rfl
                    refine pure_ (i := 7) (N := some 97) (v := ?_) (a' := ?_) #[true, true, true, true, true, false, true, true, false, false, false, false, false] rfl rfl (any_of HT_.out (by kernel_rfl)) (fun _ _ _ h => h) (Or.inl ⟨by rfl, ?_⟩) ?_ ?_
                    rotate_left
                    · intro w'
                      go_simp
                      with_reducible rfl
                    rotate_left
                    · simp only [Act.put, List.setIfInBounds_toArray, List.set_cons_zero, List.set_cons_succ, i64_w, i32_w]
                      rfl
                    refine pure_ (i := 8) (N := some 98) (v := ?_) (a' := ?_) #[true, true, true, true, true, false, true, true, true, false, false, false, false] rfl rfl (any_of HT_.out (by kernel_rfl)) (fun _ _ _ h => h) (Or.inl ⟨by rfl, ?_⟩) ?_ ?_
                    rotate_left
                    · intro w'
                      go_simp
                      with_reducible rfl
                    rotate_left
                    · simp only [Act.put, List.setIfInBounds_toArray, List.set_cons_zero, List.set_cons_succ, i64_w, i32_w]
                      rfl
                    refine take_ (i := 5) (N := some 95) (v := ?_) (a' := ?_) #[true, true, true, true, true, true, true, true, true, false, false, false, false] rfl rfl (take_ofW HT_.out HW_.out (by kernel_rfl)) (fun _ _ _ h => h) (Or.inl ⟨by rfl, ?_⟩) hHeld ?_ ?_
                    rotate_left
                    · rintro w' ⟨s0, s1⟩
                      go_simp
                      with_reducible rfl
                    rotate_left
                    · simp only [Act.put, List.setIfInBounds_toArray, List.set_cons_zero, List.set_cons_succ, i64_w, i32_w]
                      rfl
                    refine take_ (i := 9) (N := some 99) (v := ?_) (a' := ?_) #[true, true, true, true, true, true, true, true, true, true, false, false, false] rfl rfl (take_ofW HT_.out HW_.out (by kernel_rfl)) (fun _ _ _ h => h) (Or.inl ⟨by rfl, ?_⟩) hHeld ?_ ?_
                    rotate_left
                    · rintro w' ⟨s0, s1⟩
                      go_simp
                      with_reducible rfl
                    rotate_left
                    · simp only [Act.put, List.setIfInBounds_toArray, List.set_cons_zero, List.set_cons_succ, i64_w, i32_w]
                      rfl
                    refine pure_ (i := 10) (N := some 100) (v := ?_) (a' := ?_) #[true, true, true, true, true, true, true, true, true, true, true, false, false] rfl rfl (any_of HT_.out (by kernel_rfl)) (fun _ _ _ h => h) (Or.inl ⟨by rfl, ?_⟩) ?_ ?_
                    rotate_left
                    · intro w'
                      go_simp
                      with_reducible rfl
                    rotate_left
                    · simp only [Act.put, List.setIfInBounds_toArray, List.set_cons_zero, List.set_cons_succ, i64_w, i32_w]
                      rfl
                    refine pure_ (i := 11) (N := some 101) (v := ?_) (a' := ?_) #[true, true, true, true, true, true, true, true, true, true, true, true, false] rfl rfl (any_of HT_.out (by kernel_rfl)) (fun _ _ _ h => h) (Or.inl ⟨by rfl, ?_⟩) ?_ ?_
                    rotate_left
                    · intro w'
                      go_simp
                      with_reducible rfl
                    rotate_left
                    · simp only [Act.put, List.setIfInBounds_toArray, List.set_cons_zero, List.set_cons_succ, i64_w, i32_w]
                      rfl
                    refine last_ (i := 12) (N := none) #[true, true, true, true, true, true, true, true, true, true, true, true, true] rfl rfl (one_of HT_.out (by kernel_rfl)) (by decide) (fun K hK => ?_)
                    refine skip_ (w1 := ?_) (by rfl) rfl ?_ ?_
                    rotate_left
                    · go_simp
                      rfl
                    refine hK.out _ _ ?_
                    clear hK K
                    refine done_ (done_of HT_.out (by kernel_rfl)) ?_
                    try go_wp2
                    have n0_ : Aside0 (Kd.R (Kd.int .u32) 31 (w49.setCell ⟨go11, (a3 : Int).toNat, none⟩ (.int .u32 (((rd y136 a3) + (rd y136 a4)) % 4294967296))) w.heap.size (fun _ => True) (.slice (some ⟨go11, 0, none⟩) y113.length co31) y139) := ⟨by (with_reducible repeat (first | apply Kd.R_alloc | apply Kd.R_drewN | apply Kd.R_drew)); exact HQ50.out⟩
                    have n1_ : Aside0 (Below w.heap.size w (w49.setCell ⟨go11, (a3 : Int).toNat, none⟩ (.int .u32 (((rd y136 a3) + (rd y136 a4)) % 4294967296)))) := ⟨by repeat (first | (with_reducible first | exact HB.out | apply below_alloc | apply pw_below_drewN | apply below_drew1 | refine below_set ?_ GB11.out) | exact HB.out)⟩
                    (try clear HO115)
                    (try clear HB)
                    (try simp only [IntKind.wrap_u32])
                    generalize (w49.setCell ⟨go11, (a3 : Int).toNat, none⟩ (.int .u32 (((rd y136 a3) + (rd y136 a4)) % 4294967296))) = w51 at n0_ n1_ ⊢
                    have HO115 := n0_
                    have HB := n1_
                    clear n0_ n1_
                    have n0_ := Aside0.mk (Kd.R_drew HO115.out)
                    have n1_ := Aside0.mk (below_drew1 HB.out)
                    clear HO115
                    clear HB
                    have HO115 := n0_
                    have HB := n1_
                    clear n0_ n1_
                    have p140 : 0 ≤ (a2 : Int) := of_decide_eq_true (by first | (with_reducible assumption) | assumption)
                    have q140 : a2 < (y139.length : Int) := (by have h_ : (a2 : Int) < ((y113.length : Int) : Int) := of_decide_eq_true (by first | (with_reducible assumption) | assumption); first | (have e_ := (Kd.R_reads' HO115.out).1; omega) | simpa only [Ny118.out, Ny122.out, Ny125.out, Ny129.out, Ny132.out, Ny136.out, Ny139.out, List.length_set] using h_)
                    have ql140 : ((a2 : Int) < ((y113.length : Int) : Int)) = True := eq_true (of_decide_eq_true (by first | (with_reducible assumption) | assumption))
                    obtain ⟨ad140, e140, hx140_0⟩ := Kd.at_int (Kd.R_reads' HO115.out).2.2 a2 p140 q140
                    obtain rfl : (⟨go11, 0, none⟩ : Addr) = ad140 := (by injection e140)
                    (first | simp only [add_plain] at hx140_0 | simp only [add_at] at hx140_0 | simp only [Addr.add, Nat.zero_add] at hx140_0 | skip)
                    replace p140 := eq_true p140
                    replace q140 := eq_true q140
                    have p141 : 0 ≤ (a3 : Int) := of_decide_eq_true (by first | (with_reducible assumption) | assumption)
                    have q141 : a3 < (y139.length : Int) := (by have h_ : (a3 : Int) < ((y113.length : Int) : Int) := of_decide_eq_true (by first | (with_reducible assumption) | assumption); first | (have e_ := (Kd.R_reads' HO115.out).1; omega) | simpa only [Ny118.out, Ny122.out, Ny125.out, Ny129.out, Ny132.out, Ny136.out, Ny139.out, List.length_set] using h_)
                    have ql141 : ((a3 : Int) < ((y113.length : Int) : Int)) = True := eq_true (of_decide_eq_true (by first | (with_reducible assumption) | assumption))
                    obtain ⟨ad141, e141, hx141_0⟩ := Kd.at_int (Kd.R_reads' HO115.out).2.2 a3 p141 q141
                    obtain rfl : (⟨go11, 0, none⟩ : Addr) = ad141 := (by injection e141)
                    (first | simp only [add_plain] at hx141_0 | simp only [add_at] at hx141_0 | simp only [Addr.add, Nat.zero_add] at hx141_0 | skip)
                    replace p141 := eq_true p141
                    replace q141 := eq_true q141
                    refine start_ (n := 14) (S := fun w' => w'.cell? ⟨go11, (a2).toNat, none⟩ = some (.int .u32 (rd y139 a2)) ∧ w'.cell? ⟨go11, (a3).toNat, none⟩ = some (.int .u32 (rd y139 a3))) (ds := [13]) #[false, false, false, false, false, false, false, false, false, false, false, false, false, false] (by kernel_rfl) rfl rfl ⟨hx140_0, hx141_0⟩ (fun hHeld => ?_); refine with_tabW hourglassref05_quarter.tab9 hourglassref05_quarter.bits9 (fun HT_ HW_ => ?_)
                    generalize w51.drew = w52 at HO115 HB HQ50 hx140_0 hx141_0 hHeld ⊢
                    refine pure_ (i := 0) (N := some 102) (v := ?_) (a' := ?_) #[true, false, false, false, false, false, false, false, false, false, false, false, false, false] rfl rfl (any_of HT_.out (by kernel_rfl)) (fun _ _ _ h => h) (Or.inl ⟨by rfl, ?_⟩) ?_ ?_
                    rotate_left
                    · intro w'
                      go_simp
                      with_reducible rfl
                    rotate_left
                    · simp only [Act.put, List.setIfInBounds_toArray, List.set_cons_zero, List.set_cons_succ, i64_w, i32_w]
                      rfl
                    refine pure_ (i := 1) (N := some 103) (v := ?_) (a' := ?_) #[true, true, false, false, false, false, false, false, false, false, false, false, false, false] rfl rfl (any_of HT_.out (by kernel_rfl)) (fun _ _ _ h => h) (Or.inl ⟨by rfl, ?_⟩) ?_ ?_
                    rotate_left
                    · intro w'
                      go_simp
                      with_reducible rfl
                    rotate_left
                    · simp only [Act.put, List.setIfInBounds_toArray, List.set_cons_zero, List.set_cons_succ, i64_w, i32_w]
                      rfl
                    refine pure_ (i := 2) (N := some 104) (v := ?_) (a' := ?_) #[true, true, true, false, false, false, false, false, false, false, false, false, false, false] rfl rfl (any_of HT_.out (by kernel_rfl)) (fun _ _ _ h => h) (Or.inl ⟨by rfl, ?_⟩) ?_ ?_
                    rotate_left
                    · intro w'
                      go_simp
                      with_reducible rfl
                    rotate_left
                    · simp only [Act.put, List.setIfInBounds_toArray, List.set_cons_zero, List.set_cons_succ, i64_w, i32_w]
                      rfl
                    refine pure_ (i := 3) (N := some 105) (v := ?_) (a' := ?_) #[true, true, true, true, false, false, false, false, false, false, false, false, false, false] rfl rfl (any_of HT_.out (by kernel_rfl)) (fun _ _ _ h => h) (Or.inl ⟨by rfl, ?_⟩) ?_ ?_
                    rotate_left
                    · intro w'
                      go_simp
                      with_reducible rfl
                    rotate_left
                    · simp only [Act.put, List.setIfInBounds_toArray, List.set_cons_zero, List.set_cons_succ, i64_w, i32_w]
                      rfl
                    refine pure_ (i := 4) (N := some 106) (v := ?_) (a' := ?_) #[true, true, true, true, true, false, false, false, false, false, false, false, false, false] rfl rfl (any_of HT_.out (by kernel_rfl)) (fun _ _ _ h => h) (Or.inl ⟨by rfl, ?_⟩) ?_ ?_
                    rotate_left
                    · intro w'
                      go_simp
                      with_reducible rfl
                    rotate_left
                    · simp only [Act.put, List.setIfInBounds_toArray, List.set_cons_zero, List.set_cons_succ, i64_w, i32_w]
                      rfl
                    refine pure_ (i := 6) (N := some 108) (v := ?_) (a' := ?_) #[true, true, true, true, true, false, true, false, false, false, false, false, false, false] rfl rfl (any_of HT_.out (by kernel_rfl)) (fun _ _ _ h => h) (Or.inl ⟨by rfl, ?_⟩) ?_ ?_
                    rotate_left
                    · intro w'
                      go_simp
                      with_reducible rfl
                    rotate_left
                    · simp only [Act.put, List.setIfInBounds_toArray, List.set_cons_zero, List.set_cons_succ, i64_w, i32_w]
                      rfl
                    refine pure_ (i := 7) (N := some 109) (v := ?_) (a' := ?_) #[true, true, true, true, true, false, true, true, false, false, false, false, false, false] rfl rfl (any_of HT_.out (by kernel_rfl)) (fun _ _ _ h => h) (Or.inl ⟨by rfl, ?_⟩) ?_ ?_
                    rotate_left
                    · intro w'
                      go_simp
                      with_reducible rfl
                    rotate_left
                    · simp only [Act.put, List.setIfInBounds_toArray, List.set_cons_zero, List.set_cons_succ, i64_w, i32_w]
                      rfl
                    refine pure_ (i := 8) (N := some 110) (v := ?_) (a' := ?_) #[true, true, true, true, true, false, true, true, true, false, false, false, false, false] rfl rfl (any_of HT_.out (by kernel_rfl)) (fun _ _ _ h => h) (Or.inl ⟨by rfl, ?_⟩) ?_ ?_
                    rotate_left
                    · intro w'
                      go_simp
                      with_reducible rfl
                    rotate_left
                    · simp only [Act.put, List.setIfInBounds_toArray, List.set_cons_zero, List.set_cons_succ, i64_w, i32_w]
                      rfl
                    refine take_ (i := 5) (N := some 107) (v := ?_) (a' := ?_) #[true, true, true, true, true, true, true, true, true, false, false, false, false, false] rfl rfl (take_ofW HT_.out HW_.out (by kernel_rfl)) (fun _ _ _ h => h) (Or.inl ⟨by rfl, ?_⟩) hHeld ?_ ?_
                    rotate_left
                    · rintro w' ⟨s0, s1⟩
                      go_simp
                      with_reducible rfl
                    rotate_left
                    · simp only [Act.put, List.setIfInBounds_toArray, List.set_cons_zero, List.set_cons_succ, i64_w, i32_w]
                      rfl
                    refine take_ (i := 9) (N := some 111) (v := ?_) (a' := ?_) #[true, true, true, true, true, true, true, true, true, true, false, false, false, false] rfl rfl (take_ofW HT_.out HW_.out (by kernel_rfl)) (fun _ _ _ h => h) (Or.inl ⟨by rfl, ?_⟩) hHeld ?_ ?_
                    rotate_left
                    · rintro w' ⟨s0, s1⟩
                      go_simp
                      with_reducible rfl
                    rotate_left
                    · simp only [Act.put, List.setIfInBounds_toArray, List.set_cons_zero, List.set_cons_succ, i64_w, i32_w]
                      rfl
                    refine pure_ (i := 10) (N := some 112) (v := ?_) (a' := ?_) #[true, true, true, true, true, true, true, true, true, true, true, false, false, false] rfl rfl (any_of HT_.out (by kernel_rfl)) (fun _ _ _ h => h) (Or.inl ⟨by rfl, ?_⟩) ?_ ?_
                    rotate_left
                    · intro w'
                      go_simp
                      with_reducible rfl
                    rotate_left
                    · simp only [Act.put, List.setIfInBounds_toArray, List.set_cons_zero, List.set_cons_succ, i64_w, i32_w]
                      rfl
                    refine one_ (i := 11) (N := some 113) #[true, true, true, true, true, true, true, true, true, true, true, true, false, false] rfl rfl (one_of HT_.out (by kernel_rfl)) (by decide) (fun K hK => ?_)
                    refine goes_ Tryd.func24 (by kernel_rfl) rfl #[.int .u32 (Go.bits .xor .u32 (rd y139 a2) (rd y139 a3)), .int .i64 7] (by rfl) rfl rfl (by (try simp only [List.map_toArray, List.map_cons, List.map_nil]); first | done | rfl | (simp only [List.length_drop, List.length_take]; rfl)) ?_
                    with_reducible refine (hourglassref05_left.calls (Go.bits .xor .u32 (rd y139 a2) (rd y139 a3)) 7 t142 _ A25.out).mono ?_
                    rintro e w' ⟨rfl, ⟨nd, rfl⟩⟩
                    refine ⟨_, rfl, ?_⟩
                    have p26 : 0 ≤ (a2 : Int) := of_decide_eq_true (by first | (with_reducible assumption) | assumption)
                    have q26 : (a2 : Int) < ((y113.length : Int) : Int) := of_decide_eq_true (by first | (with_reducible assumption) | assumption)
                    obtain ⟨hx26_0, hf26_0⟩ := Kd.R_celln 0 HO115.out (a2 : Int) p26 q26
                    replace p26 := eq_true p26
                    replace q26 := eq_true q26
                    have HP53 := Kd.R_putn HO115.out (a2 : Int) t142
                    rw [← Ny143.out] at HP53
                    have HQ53 := Aside0.mk HP53
                    clear HP53
                    refine hK.out _ _ ⟨hHeld.1, hHeld.2⟩ (fun hHeld => ?_)
                    clear hK K
                    refine norm_ (a' := ?_) ?_ ?_
                    rotate_left
                    · show Act.put _ (some 113) _ = _
                      simp only [Act.put, List.setIfInBounds_toArray, List.set_cons_zero, List.set_cons_succ, i64_w, i32_w]
                      rfl
                    refine pure_ (i := 12) (N := some 114) (v := ?_) (a' := ?_) #[true, true, true, true, true, true, true, true, true, true, true, true, true, false] rfl rfl (any_of HT_.out (by kernel_rfl)) (fun _ _ _ h => h) (Or.inl ⟨by rfl, ?_⟩) ?_ ?_
                    rotate_left
                    · intro w'
                      go_simp
                      with_reducible rfl
                    rotate_left
                    · simp only [Act.put, List.setIfInBounds_toArray, List.set_cons_zero, List.set_cons_succ, i64_w, i32_w]
                      rfl
                    refine last_ (i := 13) (N := none) #[true, true, true, true, true, true, true, true, true, true, true, true, true, true] rfl rfl (one_of HT_.out (by kernel_rfl)) (by decide) (fun K hK => ?_)
                    refine skip_ (w1 := ?_) (by rfl) rfl ?_ ?_
                    rotate_left
                    · go_simp
                      rfl
                    refine hK.out _ _ ?_
                    clear hK K
                    refine done_ (done_of HT_.out (by kernel_rfl)) ?_
                    try go_wp2
                    go_ret
                    exact ⟨_, by first | rfl | (simp [errW_none, errW_some] <;> rfl) | (simp [*, errW_none, errW_some] <;> rfl), by (with_reducible repeat (first | apply Kd.R_alloc | apply Kd.R_drewN | apply Kd.R_drew)); exact HQ53.out, by repeat (first | (with_reducible first | exact HB.out | apply below_alloc | apply pw_below_drewN | apply below_drew1 | refine below_set ?_ GB11.out) | exact HB.out)⟩
                  · rw [if_neg c17] at H
                    exact absurd H (by simp)
                · rw [if_neg c16] at H
                  exact absurd H (by simp)
              · rw [if_neg c13] at H
                exact absurd H (by simp)
            · rw [if_neg c12] at H
              exact absurd H (by simp)
          · rw [if_neg c10] at H
            exact absurd H (by simp)
        · rw [if_neg c9] at H
          exact absurd H (by simp)
      · rw [if_neg c8] at H
        exact absurd H (by simp)
    · rw [if_neg c7] at H
      exact absurd H (by simp)
  · rw [if_neg c6] at H
    exact absurd H (by simp)



end Go.Proofs.YtlpfmehcghhdcaaDoor.XB
