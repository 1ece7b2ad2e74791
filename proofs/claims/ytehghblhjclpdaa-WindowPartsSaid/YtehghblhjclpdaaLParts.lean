/- WindowParts as a function of Lean, and a proof that the Go code comes to it: no condition but that the arguments are of their kinds. -/
import Derived.Test.YtehghblhjclpdaaB2
namespace Go.Proofs.Ytehghblhjclpdaa.WB
open Go.RowKit Go.Proofs.YtehghblhjclpdaaW.PrintWords Go.Proofs.YtehghblhjclpdaaW.PrintLast Go.Proofs.YtehghblhjclpdaaW.PrintMore PWindowTells
attribute [local go_sem] max2_int min2_int max_two min_two max_three min_three max_four min_four   -- for this text's walks alone
set_option linter.unusedVariables false
set_option linter.unusedSimpArgs false

theorem neq35 (w : World) (x0 y0 x1 y1 : Int) :
    (binOp .neq 35 (.agg #[.int .u64 x0, .int .u64 x1]) (.agg #[.int .u64 y0, .int .u64 y1])).run Try.prog w = .ok (.bool (!(x0 == y0) || !(x1 == y1))) w := by
  simp only [binOp]
  simp [Op.equal, Op.maxDepth, eqA35 9998 w x0 y0 x1 y1, Bool.not_and]

/-! ### hourglasslaw08_WindowParts: function 8 -/
mutual
def hourglasslaw08_WindowParts.j0 : Nat → Int → Bool → List (S35) → List (S35) → Bool → Option (Bool)
  | 0, _, _, _, _, _ => none
  | k + 1, x4, x11, x12, x14, x64 => if x64 = true then (some false) else (hourglasslaw08_WindowParts.l0 k x4 x11 x12 x14 0)
def hourglasslaw08_WindowParts.l0 : Nat → Int → Bool → List (S35) → List (S35) → Int → Option (Bool)
  | 0, _, _, _, _, _ => none
  | k + 1, x4, x11, x12, x14, x16 => if x16 < x4 then (if 0 ≤ x16 then (if x16 < (x12.length : Int) then (if x16 < (x14.length : Int) then (if (!(((rd_T35 x12 x16).f0) == ((rd_T35 x14 x16).f0)) || (!(((rd_T35 x12 x16).f1) == ((rd_T35 x14 x16).f1)))) = true then (some false) else (hourglasslaw08_WindowParts.l0 k x4 x11 x12 x14 (wrap64 (x16 + 1)))) else (none)) else (none)) else (none)) else (some x11)
end
def hourglasslaw08_WindowParts.f (k : Nat) (a0 : Int) (l1 : List Int) (a2 : Int) (a3 : Int) (a4 : Int) : Option (Bool) := (hourglasslaw08_shown.f k).bind fun t156 => (if 0 ≤ (mn (l1.length : Int) 5) then (if (mn (l1.length : Int) 5) ≤ (l1.length : Int) then ((window_Windows.f k a0 (l1.take ((mn (l1.length : Int) 5) : Int).toNat) a2 a3).bind fun bt158 => (if bt158.2 = 0 then (if ((l1.take ((mn (l1.length : Int) 5) : Int).toNat).length : Int) = 0 then (none) else (if 0 ≤ (wrap64 (1 + (Int.tmod (Go.bits .and .i64 a4 65535) ((l1.take ((mn (l1.length : Int) 5) : Int).toNat).length : Int)))) then (if (wrap64 (1 + (Int.tmod (Go.bits .and .i64 a4 65535) ((l1.take ((mn (l1.length : Int) 5) : Int).toNat).length : Int)))) ≤ ((l1.take ((mn (l1.length : Int) 5) : Int).toNat).length : Int) then ((window_Windows.f k a0 ((l1.take ((mn (l1.length : Int) 5) : Int).toNat).take ((wrap64 (1 + (Int.tmod (Go.bits .and .i64 a4 65535) ((l1.take ((mn (l1.length : Int) 5) : Int).toNat).length : Int)))) : Int).toNat) a2 a3).bind fun bt163 => (if bt163.2 = 0 then (if (bt163.1.length : Int) = (wrap64 (1 + (Int.tmod (Go.bits .and .i64 a4 65535) ((l1.take ((mn (l1.length : Int) 5) : Int).toNat).length : Int)))) then (hourglasslaw08_WindowParts.j0 k (wrap64 (1 + (Int.tmod (Go.bits .and .i64 a4 65535) ((l1.take ((mn (l1.length : Int) 5) : Int).toNat).length : Int)))) t156 bt158.1 bt163.1 ((bt158.1.length : Int) != ((l1.take ((mn (l1.length : Int) 5) : Int).toNat).length : Int))) else (hourglasslaw08_WindowParts.j0 k (wrap64 (1 + (Int.tmod (Go.bits .and .i64 a4 65535) ((l1.take ((mn (l1.length : Int) 5) : Int).toNat).length : Int)))) t156 bt158.1 bt163.1 true)) else (hourglasslaw08_WindowParts.j0 k (wrap64 (1 + (Int.tmod (Go.bits .and .i64 a4 65535) ((l1.take ((mn (l1.length : Int) 5) : Int).toNat).length : Int)))) t156 bt158.1 bt163.1 true))) else (none)) else (none))) else (some t156))) else (none)) else (none))
theorem hourglasslaw08_WindowParts.mono_l : ∀ k, (∀ y0 y1 y2 y3 y4, LeO (hourglasslaw08_WindowParts.j0 k y0 y1 y2 y3 y4) (hourglasslaw08_WindowParts.j0 (k + 1) y0 y1 y2 y3 y4)) ∧ (∀ y0 y1 y2 y3 y4, LeO (hourglasslaw08_WindowParts.l0 k y0 y1 y2 y3 y4) (hourglasslaw08_WindowParts.l0 (k + 1) y0 y1 y2 y3 y4))
  | 0 => ⟨fun _ _ _ _ _ r h => by simp [hourglasslaw08_WindowParts.j0] at h, fun _ _ _ _ _ r h => by simp [hourglasslaw08_WindowParts.l0] at h⟩
  | k + 1 => by
    obtain ⟨ih0, ih1⟩ := hourglasslaw08_WindowParts.mono_l k
    refine ⟨?_, ?_⟩
    · intro y0 y1 y2 y3 y4
      unfold hourglasslaw08_WindowParts.j0
      repeat' first
      | (with_reducible exact ih0 _ _ _ _ _)
      | (with_reducible exact ih1 _ _ _ _ _)
      | (with_reducible exact hourglasslaw08_shown.mono _)
      | (with_reducible exact window_Windows.mono _ _ _ _ _)
      | (with_reducible exact LeO.refl _)
      | (with_reducible exact LeO.none _)
      | (with_reducible refine LeO.ite ?_ ?_)
      | (with_reducible refine LeO.bind ?_ (fun _ => ?_))
      | exact ih0 _ _ _ _ _
      | exact ih1 _ _ _ _ _
      | exact hourglasslaw08_shown.mono _
      | exact window_Windows.mono _ _ _ _ _
      | exact LeO.none _
      | refine LeO.ite ?_ ?_
      | refine LeO.bind ?_ (fun _ => ?_)
    · intro y0 y1 y2 y3 y4
      unfold hourglasslaw08_WindowParts.l0
      repeat' first
      | (with_reducible exact ih0 _ _ _ _ _)
      | (with_reducible exact ih1 _ _ _ _ _)
      | (with_reducible exact hourglasslaw08_shown.mono _)
      | (with_reducible exact window_Windows.mono _ _ _ _ _)
      | (with_reducible exact LeO.refl _)
      | (with_reducible exact LeO.none _)
      | (with_reducible refine LeO.ite ?_ ?_)
      | (with_reducible refine LeO.bind ?_ (fun _ => ?_))
      | exact ih0 _ _ _ _ _
      | exact ih1 _ _ _ _ _
      | exact hourglasslaw08_shown.mono _
      | exact window_Windows.mono _ _ _ _ _
      | exact LeO.none _
      | refine LeO.ite ?_ ?_
      | refine LeO.bind ?_ (fun _ => ?_)
theorem hourglasslaw08_WindowParts.mono : ∀ a0 a1 a2 a3 a4 k, LeO (hourglasslaw08_WindowParts.f k a0 a1 a2 a3 a4) (hourglasslaw08_WindowParts.f (k + 1) a0 a1 a2 a3 a4) := by
  intro a0 a1 a2 a3 a4 k
  obtain ⟨ih0, ih1⟩ := hourglasslaw08_WindowParts.mono_l k
  unfold hourglasslaw08_WindowParts.f
  repeat' first
      | (with_reducible exact ih0 _ _ _ _ _)
      | (with_reducible exact ih1 _ _ _ _ _)
      | (with_reducible exact hourglasslaw08_shown.mono _)
      | (with_reducible exact window_Windows.mono _ _ _ _ _)
      | (with_reducible exact LeO.refl _)
      | (with_reducible exact LeO.none _)
      | (with_reducible refine LeO.ite ?_ ?_)
      | (with_reducible refine LeO.bind ?_ (fun _ => ?_))
      | exact ih0 _ _ _ _ _
      | exact ih1 _ _ _ _ _
      | exact hourglasslaw08_shown.mono _
      | exact window_Windows.mono _ _ _ _ _
      | exact LeO.none _
      | refine LeO.ite ?_ ?_
      | refine LeO.bind ?_ (fun _ => ?_)
set_option maxHeartbeats 8000000 in
set_option maxRecDepth 100000 in
theorem hourglasslaw08_WindowParts.calls (k : Nat) (a0 : Int) (A1 : Option Addr) (c1 : Nat) (l1 : List Int) (a2 : Int) (a3 : Int) (a4 : Int) (r : Bool) (w : World) (hr1 : Kd.C (Kd.int .u32) w A1 l1.length l1) (hc1 : l1.length ≤ c1) (h : hourglasslaw08_WindowParts.f k a0 l1 a2 a3 a4 = some r) :
    Calls Try.prog 8 #[.int .u64 a0, .slice A1 l1.length c1, .int .u64 a2, .int .u64 a3, .int .i64 a4] w fun e w' => e = .returned (.bool r) ∧ Below w.heap.size w w' := by
  have hu35 := Try.underlying35
  have HR1 := Aside0.mk hr1
  have HC1 := Aside0.mk hc1
  clear hr1 hc1
  have HB := Aside0.mk (Below.refl w.heap.size w)
  have H : ((hourglasslaw08_shown.f k).bind fun t156 => (if 0 ≤ (mn (l1.length : Int) 5) then (if (mn (l1.length : Int) 5) ≤ (l1.length : Int) then ((window_Windows.f k a0 (l1.take ((mn (l1.length : Int) 5) : Int).toNat) a2 a3).bind fun bt158 => (if bt158.2 = 0 then (if ((l1.take ((mn (l1.length : Int) 5) : Int).toNat).length : Int) = 0 then (none) else (if 0 ≤ (wrap64 (1 + (Int.tmod (Go.bits .and .i64 a4 65535) ((l1.take ((mn (l1.length : Int) 5) : Int).toNat).length : Int)))) then (if (wrap64 (1 + (Int.tmod (Go.bits .and .i64 a4 65535) ((l1.take ((mn (l1.length : Int) 5) : Int).toNat).length : Int)))) ≤ ((l1.take ((mn (l1.length : Int) 5) : Int).toNat).length : Int) then ((window_Windows.f k a0 ((l1.take ((mn (l1.length : Int) 5) : Int).toNat).take ((wrap64 (1 + (Int.tmod (Go.bits .and .i64 a4 65535) ((l1.take ((mn (l1.length : Int) 5) : Int).toNat).length : Int)))) : Int).toNat) a2 a3).bind fun bt163 => (if bt163.2 = 0 then (if (bt163.1.length : Int) = (wrap64 (1 + (Int.tmod (Go.bits .and .i64 a4 65535) ((l1.take ((mn (l1.length : Int) 5) : Int).toNat).length : Int)))) then (hourglasslaw08_WindowParts.j0 k (wrap64 (1 + (Int.tmod (Go.bits .and .i64 a4 65535) ((l1.take ((mn (l1.length : Int) 5) : Int).toNat).length : Int)))) t156 bt158.1 bt163.1 ((bt158.1.length : Int) != ((l1.take ((mn (l1.length : Int) 5) : Int).toNat).length : Int))) else (hourglasslaw08_WindowParts.j0 k (wrap64 (1 + (Int.tmod (Go.bits .and .i64 a4 65535) ((l1.take ((mn (l1.length : Int) 5) : Int).toNat).length : Int)))) t156 bt158.1 bt163.1 true)) else (hourglasslaw08_WindowParts.j0 k (wrap64 (1 + (Int.tmod (Go.bits .and .i64 a4 65535) ((l1.take ((mn (l1.length : Int) 5) : Int).toNat).length : Int)))) t156 bt158.1 bt163.1 true))) else (none)) else (none))) else (some t156))) else (none)) else (none))) = some r := h
  clear h
  replace H := Option.bind_eq_some_iff.mp H
  obtain ⟨t156, A60, H⟩ := H
  replace H : (if 0 ≤ (mn (l1.length : Int) 5) then (if (mn (l1.length : Int) 5) ≤ (l1.length : Int) then ((window_Windows.f k a0 (l1.take ((mn (l1.length : Int) 5) : Int).toNat) a2 a3).bind fun bt158 => (if bt158.2 = 0 then (if ((l1.take ((mn (l1.length : Int) 5) : Int).toNat).length : Int) = 0 then (none) else (if 0 ≤ (wrap64 (1 + (Int.tmod (Go.bits .and .i64 a4 65535) ((l1.take ((mn (l1.length : Int) 5) : Int).toNat).length : Int)))) then (if (wrap64 (1 + (Int.tmod (Go.bits .and .i64 a4 65535) ((l1.take ((mn (l1.length : Int) 5) : Int).toNat).length : Int)))) ≤ ((l1.take ((mn (l1.length : Int) 5) : Int).toNat).length : Int) then ((window_Windows.f k a0 ((l1.take ((mn (l1.length : Int) 5) : Int).toNat).take ((wrap64 (1 + (Int.tmod (Go.bits .and .i64 a4 65535) ((l1.take ((mn (l1.length : Int) 5) : Int).toNat).length : Int)))) : Int).toNat) a2 a3).bind fun bt163 => (if bt163.2 = 0 then (if (bt163.1.length : Int) = (wrap64 (1 + (Int.tmod (Go.bits .and .i64 a4 65535) ((l1.take ((mn (l1.length : Int) 5) : Int).toNat).length : Int)))) then (hourglasslaw08_WindowParts.j0 k (wrap64 (1 + (Int.tmod (Go.bits .and .i64 a4 65535) ((l1.take ((mn (l1.length : Int) 5) : Int).toNat).length : Int)))) t156 bt158.1 bt163.1 ((bt158.1.length : Int) != ((l1.take ((mn (l1.length : Int) 5) : Int).toNat).length : Int))) else (hourglasslaw08_WindowParts.j0 k (wrap64 (1 + (Int.tmod (Go.bits .and .i64 a4 65535) ((l1.take ((mn (l1.length : Int) 5) : Int).toNat).length : Int)))) t156 bt158.1 bt163.1 true)) else (hourglasslaw08_WindowParts.j0 k (wrap64 (1 + (Int.tmod (Go.bits .and .i64 a4 65535) ((l1.take ((mn (l1.length : Int) 5) : Int).toNat).length : Int)))) t156 bt158.1 bt163.1 true))) else (none)) else (none))) else (some t156))) else (none)) else (none)) = some r := H
  have A6 := Aside0.mk A60
  clear A60
  obtain ⟨ji7, hji7⟩ : ∃ j_ : Int, (mn (l1.length : Int) 5) = j_ := ⟨_, rfl⟩
  replace H : (if 0 ≤ (ji7) then (if (ji7) ≤ (l1.length : Int) then ((window_Windows.f k a0 (l1.take ((ji7) : Int).toNat) a2 a3).bind fun bt158 => (if bt158.2 = 0 then (if ((l1.take ((ji7) : Int).toNat).length : Int) = 0 then (none) else (if 0 ≤ (wrap64 (1 + (Int.tmod (Go.bits .and .i64 a4 65535) ((l1.take ((ji7) : Int).toNat).length : Int)))) then (if (wrap64 (1 + (Int.tmod (Go.bits .and .i64 a4 65535) ((l1.take ((ji7) : Int).toNat).length : Int)))) ≤ ((l1.take ((ji7) : Int).toNat).length : Int) then ((window_Windows.f k a0 ((l1.take ((ji7) : Int).toNat).take ((wrap64 (1 + (Int.tmod (Go.bits .and .i64 a4 65535) ((l1.take ((ji7) : Int).toNat).length : Int)))) : Int).toNat) a2 a3).bind fun bt163 => (if bt163.2 = 0 then (if (bt163.1.length : Int) = (wrap64 (1 + (Int.tmod (Go.bits .and .i64 a4 65535) ((l1.take ((ji7) : Int).toNat).length : Int)))) then (hourglasslaw08_WindowParts.j0 k (wrap64 (1 + (Int.tmod (Go.bits .and .i64 a4 65535) ((l1.take ((ji7) : Int).toNat).length : Int)))) t156 bt158.1 bt163.1 ((bt158.1.length : Int) != ((l1.take ((ji7) : Int).toNat).length : Int))) else (hourglasslaw08_WindowParts.j0 k (wrap64 (1 + (Int.tmod (Go.bits .and .i64 a4 65535) ((l1.take ((ji7) : Int).toNat).length : Int)))) t156 bt158.1 bt163.1 true)) else (hourglasslaw08_WindowParts.j0 k (wrap64 (1 + (Int.tmod (Go.bits .and .i64 a4 65535) ((l1.take ((ji7) : Int).toNat).length : Int)))) t156 bt158.1 bt163.1 true))) else (none)) else (none))) else (some t156))) else (none)) else (none)) = some r := by first | (rw [hji7] at H; exact H) | (simp only [hji7] at H ⊢; exact H)
  (try rw [hji7] at A6)
  (try (have hji7h : ji7 ≤ 5 := by (rw [← hji7]; unfold mn; (repeat' split) <;> omega)))
  (try (have hji7g : ji7 ≤ 64 := by omega))
  (try (have hji7l : 0 ≤ ji7 := by (rw [← hji7]; unfold mn; (repeat' split) <;> omega)))
  (try (have hji7m : 0 ≤ ji7 := by omega))
  have hji7_ : (if 5 < (l1.length : Int) then 5 else (l1.length : Int)) = ji7 := hji7
  by_cases c8 : 0 ≤ (ji7)
  · rw [if_pos c8] at H
    have c8b0 := eq_true c8
    have c8b1 : decide (0 ≤ (ji7)) = true := decide_eq_true c8
    clear c8
    by_cases c9 : (ji7) ≤ (l1.length : Int)
    · rw [if_pos c9] at H
      have c9b0 := eq_true c9
      have c9b1 : decide ((ji7) ≤ (l1.length : Int)) = true := decide_eq_true c9
      obtain ⟨ds, hds⟩ : ∃ ds : List Int, l1.take ((ji7) : Int).toNat = ds := ⟨_, rfl⟩
      have hdlds : ji7 = (ds.length : Int) := by rw [← hds, List.length_take]; have q1 := of_eq_true c8b0; have q2 := of_eq_true c9b0; omega
      have Hds := Aside0.mk hds
      rw [hds] at H
      clear hds
      subst hdlds
      clear c9
      replace H := Option.bind_eq_some_iff.mp H
      obtain ⟨⟨t158, t159⟩, A100, H⟩ := H
      replace H : (if t159 = 0 then (if (ds.length : Int) = 0 then (none) else (if 0 ≤ (wrap64 (1 + (Int.tmod (Go.bits .and .i64 a4 65535) (ds.length : Int)))) then (if (wrap64 (1 + (Int.tmod (Go.bits .and .i64 a4 65535) (ds.length : Int)))) ≤ (ds.length : Int) then ((window_Windows.f k a0 (ds.take ((wrap64 (1 + (Int.tmod (Go.bits .and .i64 a4 65535) (ds.length : Int)))) : Int).toNat) a2 a3).bind fun bt163 => (if bt163.2 = 0 then (if (bt163.1.length : Int) = (wrap64 (1 + (Int.tmod (Go.bits .and .i64 a4 65535) (ds.length : Int)))) then (hourglasslaw08_WindowParts.j0 k (wrap64 (1 + (Int.tmod (Go.bits .and .i64 a4 65535) (ds.length : Int)))) t156 t158 bt163.1 ((t158.length : Int) != (ds.length : Int))) else (hourglasslaw08_WindowParts.j0 k (wrap64 (1 + (Int.tmod (Go.bits .and .i64 a4 65535) (ds.length : Int)))) t156 t158 bt163.1 true)) else (hourglasslaw08_WindowParts.j0 k (wrap64 (1 + (Int.tmod (Go.bits .and .i64 a4 65535) (ds.length : Int)))) t156 t158 bt163.1 true))) else (none)) else (none))) else (some t156)) = some r := H
      have A10 := Aside0.mk A100
      clear A100
      by_cases c11 : t159 = 0
      · rw [if_pos c11] at H
        have c11b0 : (t159 == 0) = true := beq_iff_eq.mpr c11
        have c11b1 : (t159 != 0) = false := bne_eq_false_iff_eq.mpr c11
        clear c11
        by_cases c12 : (ds.length : Int) = 0
        · rw [if_pos c12] at H
          exact absurd H (by simp)
        · rw [if_neg c12] at H
          have c12b0 : ((ds.length : Int) == 0) = false := beq_eq_false_iff_ne.mpr c12
          have c12b1 : ((ds.length : Int) != 0) = true := bne_iff_ne.mpr c12
          have c12b2 : ¬ (ds = []) := fun h_ => c12 (by rw [h_]; rfl)
          obtain ⟨ji13, hji13⟩ : ∃ j_ : Int, (wrap64 (1 + (Int.tmod (Go.bits .and .i64 a4 65535) (ds.length : Int)))) = j_ := ⟨_, rfl⟩
          replace H : (if 0 ≤ (ji13) then (if (ji13) ≤ (ds.length : Int) then ((window_Windows.f k a0 (ds.take ((ji13) : Int).toNat) a2 a3).bind fun bt163 => (if bt163.2 = 0 then (if (bt163.1.length : Int) = (ji13) then (hourglasslaw08_WindowParts.j0 k ji13 t156 t158 bt163.1 ((t158.length : Int) != (ds.length : Int))) else (hourglasslaw08_WindowParts.j0 k ji13 t156 t158 bt163.1 true)) else (hourglasslaw08_WindowParts.j0 k ji13 t156 t158 bt163.1 true))) else (none)) else (none)) = some r := by first | (rw [hji13] at H; exact H) | (simp only [hji13] at H ⊢; exact H)
          (try rw [hji13] at A6)
          (try rw [hji13] at A10)
          have hji13w : (IntKind.i64.wrap (1 + (Int.tmod (Go.bits .and .i64 a4 65535) (ds.length : Int)))) = ji13 := (i64_w _).trans hji13
          by_cases c14 : 0 ≤ (ji13)
          · rw [if_pos c14] at H
            have c14b0 := eq_true c14
            have c14b1 : decide (0 ≤ (ji13)) = true := decide_eq_true c14
            clear c14
            by_cases c15 : (ji13) ≤ (ds.length : Int)
            · rw [if_pos c15] at H
              have c15b0 := eq_true c15
              have c15b1 : decide ((ji13) ≤ (ds.length : Int)) = true := decide_eq_true c15
              obtain ⟨es, hes⟩ : ∃ es : List Int, ds.take ((ji13) : Int).toNat = es := ⟨_, rfl⟩
              have hdles : ji13 = (es.length : Int) := by rw [← hes, List.length_take]; have q1 := of_eq_true c14b0; have q2 := of_eq_true c15b0; omega
              have Hes := Aside0.mk hes
              rw [hes] at H
              clear hes
              subst hdles
              clear c15
              replace H := Option.bind_eq_some_iff.mp H
              obtain ⟨⟨t163, t164⟩, A160, H⟩ := H
              replace H : (if t164 = 0 then (if (t163.length : Int) = ((es.length : Int)) then (hourglasslaw08_WindowParts.j0 k (es.length : Int) t156 t158 t163 ((t158.length : Int) != (ds.length : Int))) else (hourglasslaw08_WindowParts.j0 k (es.length : Int) t156 t158 t163 true)) else (hourglasslaw08_WindowParts.j0 k (es.length : Int) t156 t158 t163 true)) = some r := H
              have A16 := Aside0.mk A160
              clear A160
              have HC17 := Aside0.mk H
              clear H
              go_enter Try.func8, Try.ntmps8
              go_upto_region 8 with (first | (go_at_call 9; (with_reducible refine (hourglasslaw08_shown.calls k  t156 _ A6.out).mono ?_); rintro e w18 ⟨rfl, hb⟩; have n0_ := Aside0.mk (below_step (by repeat (first | (with_reducible first | exact HB.out | apply below_alloc | apply pw_below_drewN | apply below_drew1) | exact HB.out)) hb); clear HB; have HB := n0_; clear n0_; (try clear hb); (try clear hb2); (try clear hk); (try clear hi); obtain ⟨i019, hi019, _, hsz19, _⟩ := info_parts info42; obtain ⟨hcut19, hA19, hC19⟩ := print_take_of (P := Try.prog) (Value.int .u32) 0 23 42 .i64 Try.underlying23 hi019 hsz19 A1 c1 l1 ((ds.length : Int)) (of_decide_eq_true (by first | (with_reducible assumption) | assumption)) (of_decide_eq_true (by first | (with_reducible assumption) | assumption)) HC1.out; rw [Hds.out] at hcut19 hA19 hC19; have HR157 := Aside0.mk (Kd.C_of_reads (h1 := fun _ => rfl) (hA19 _ (Kd.reads_of_C HR1.out))); have HC157 := Aside0.mk hC19; clear hA19 hC19 hi019 hsz19) | (go_at_call 10; (with_reducible refine (window_Windows.calls k a0 _ _ ds a2 a3 t158 t159 _ ?side1 ?side2 A10.out).mono ?_); (case side1 => repeat (first | exact (Kd.C_below HR157.out HB.out) | (with_reducible refine Kd.C_alloc ?_ _) | (with_reducible refine Kd.C_drewN ?_ _) | (with_reducible refine Kd.C_drew ?_))); (case side2 => exact HC157.out); rintro e w20 ⟨v160, rfl, ho0, hb⟩; have n0_ := Aside0.mk (Kd.R_lower ho0 (below_size (by repeat (first | (with_reducible first | exact HB.out | apply below_alloc | apply pw_below_drewN | apply below_drew1) | exact HB.out)))); have n1_ := Aside0.mk (below_step (by repeat (first | (with_reducible first | exact HB.out | apply below_alloc | apply pw_below_drewN | apply below_drew1) | exact HB.out)) hb); clear HB; have HO161 := n0_; have HB := n1_; clear n0_ n1_; (try clear hb); (try clear hb2); (try clear hk); (try clear hi); (try clear ho0); obtain ⟨i021, hi021, _, hsz21, _⟩ := info_parts info42; obtain ⟨hcut21, hA21, hC21⟩ := print_take_of (P := Try.prog) (Value.int .u32) 0 23 42 .i64 Try.underlying23 hi021 hsz21 A1 c1 ds ((es.length : Int)) (of_decide_eq_true (by first | (with_reducible assumption) | assumption)) (of_decide_eq_true (by first | (with_reducible assumption) | assumption)) HC157.out; rw [Hes.out] at hcut21 hA21 hC21; have HR162 := Aside0.mk (Kd.C_of_reads (h1 := fun _ => rfl) (hA21 _ (Kd.reads_of_C HR157.out))); have HC162 := Aside0.mk hC21; clear hA21 hC21 hi021 hsz21) | (go_at_call 10; (with_reducible refine (window_Windows.calls k a0 _ _ es a2 a3 t163 t164 _ ?side1 ?side2 A16.out).mono ?_); (case side1 => repeat (first | exact (Kd.C_below HR162.out HB.out) | (with_reducible refine Kd.C_alloc ?_ _) | (with_reducible refine Kd.C_drewN ?_ _) | (with_reducible refine Kd.C_drew ?_))); (case side2 => exact HC162.out); rintro e w22 ⟨v165, rfl, ho0, hb⟩; have n0_ := Aside0.mk (Kd.R_elder' (by (with_reducible repeat (first | apply Kd.R_alloc | apply Kd.R_drewN | apply Kd.R_drew)); exact HO161.out) (Kd.R_base ho0) hb); have n1_ := Aside0.mk (Kd.R_lower (Kd.R_new' ho0 (Kd.R_lt (by (with_reducible repeat (first | apply Kd.R_alloc | apply Kd.R_drewN | apply Kd.R_drew)); exact HO161.out))) (below_size (by repeat (first | (with_reducible first | exact HB.out | apply below_alloc | apply pw_below_drewN | apply below_drew1) | exact HB.out)))); have n2_ := Aside0.mk (below_step (by repeat (first | (with_reducible first | exact HB.out | apply below_alloc | apply pw_below_drewN | apply below_drew1) | exact HB.out)) hb); clear HO161; clear HB; have HO161 := n0_; have HO166 := n1_; have HB := n2_; clear n0_ n1_ n2_; (try clear hb); (try clear hb2); (try clear hk); (try clear hi); (try clear ho0)))
              repeat (go_quiet (first | (go_at_call 9; (with_reducible refine (hourglasslaw08_shown.calls k  t156 _ A6.out).mono ?_); rintro e w18 ⟨rfl, hb⟩; have n0_ := Aside0.mk (below_step (by repeat (first | (with_reducible first | exact HB.out | apply below_alloc | apply pw_below_drewN | apply below_drew1) | exact HB.out)) hb); clear HB; have HB := n0_; clear n0_; (try clear hb); (try clear hb2); (try clear hk); (try clear hi); obtain ⟨i019, hi019, _, hsz19, _⟩ := info_parts info42; obtain ⟨hcut19, hA19, hC19⟩ := print_take_of (P := Try.prog) (Value.int .u32) 0 23 42 .i64 Try.underlying23 hi019 hsz19 A1 c1 l1 ((ds.length : Int)) (of_decide_eq_true (by first | (with_reducible assumption) | assumption)) (of_decide_eq_true (by first | (with_reducible assumption) | assumption)) HC1.out; rw [Hds.out] at hcut19 hA19 hC19; have HR157 := Aside0.mk (Kd.C_of_reads (h1 := fun _ => rfl) (hA19 _ (Kd.reads_of_C HR1.out))); have HC157 := Aside0.mk hC19; clear hA19 hC19 hi019 hsz19) | (go_at_call 10; (with_reducible refine (window_Windows.calls k a0 _ _ ds a2 a3 t158 t159 _ ?side1 ?side2 A10.out).mono ?_); (case side1 => repeat (first | exact (Kd.C_below HR157.out HB.out) | (with_reducible refine Kd.C_alloc ?_ _) | (with_reducible refine Kd.C_drewN ?_ _) | (with_reducible refine Kd.C_drew ?_))); (case side2 => exact HC157.out); rintro e w20 ⟨v160, rfl, ho0, hb⟩; have n0_ := Aside0.mk (Kd.R_lower ho0 (below_size (by repeat (first | (with_reducible first | exact HB.out | apply below_alloc | apply pw_below_drewN | apply below_drew1) | exact HB.out)))); have n1_ := Aside0.mk (below_step (by repeat (first | (with_reducible first | exact HB.out | apply below_alloc | apply pw_below_drewN | apply below_drew1) | exact HB.out)) hb); clear HB; have HO161 := n0_; have HB := n1_; clear n0_ n1_; (try clear hb); (try clear hb2); (try clear hk); (try clear hi); (try clear ho0); obtain ⟨i021, hi021, _, hsz21, _⟩ := info_parts info42; obtain ⟨hcut21, hA21, hC21⟩ := print_take_of (P := Try.prog) (Value.int .u32) 0 23 42 .i64 Try.underlying23 hi021 hsz21 A1 c1 ds ((es.length : Int)) (of_decide_eq_true (by first | (with_reducible assumption) | assumption)) (of_decide_eq_true (by first | (with_reducible assumption) | assumption)) HC157.out; rw [Hes.out] at hcut21 hA21 hC21; have HR162 := Aside0.mk (Kd.C_of_reads (h1 := fun _ => rfl) (hA21 _ (Kd.reads_of_C HR157.out))); have HC162 := Aside0.mk hC21; clear hA21 hC21 hi021 hsz21) | (go_at_call 10; (with_reducible refine (window_Windows.calls k a0 _ _ es a2 a3 t163 t164 _ ?side1 ?side2 A16.out).mono ?_); (case side1 => repeat (first | exact (Kd.C_below HR162.out HB.out) | (with_reducible refine Kd.C_alloc ?_ _) | (with_reducible refine Kd.C_drewN ?_ _) | (with_reducible refine Kd.C_drew ?_))); (case side2 => exact HC162.out); rintro e w22 ⟨v165, rfl, ho0, hb⟩; have n0_ := Aside0.mk (Kd.R_elder' (by (with_reducible repeat (first | apply Kd.R_alloc | apply Kd.R_drewN | apply Kd.R_drew)); exact HO161.out) (Kd.R_base ho0) hb); have n1_ := Aside0.mk (Kd.R_lower (Kd.R_new' ho0 (Kd.R_lt (by (with_reducible repeat (first | apply Kd.R_alloc | apply Kd.R_drewN | apply Kd.R_drew)); exact HO161.out))) (below_size (by repeat (first | (with_reducible first | exact HB.out | apply below_alloc | apply pw_below_drewN | apply below_drew1) | exact HB.out)))); have n2_ := Aside0.mk (below_step (by repeat (first | (with_reducible first | exact HB.out | apply below_alloc | apply pw_below_drewN | apply below_drew1) | exact HB.out)) hb); clear HO161; clear HB; have HO161 := n0_; have HO166 := n1_; have HB := n2_; clear n0_ n1_ n2_; (try clear hb); (try clear hb2); (try clear hk); (try clear hi); (try clear ho0))); go_upto_region 8 with (first | (go_at_call 9; (with_reducible refine (hourglasslaw08_shown.calls k  t156 _ A6.out).mono ?_); rintro e w18 ⟨rfl, hb⟩; have n0_ := Aside0.mk (below_step (by repeat (first | (with_reducible first | exact HB.out | apply below_alloc | apply pw_below_drewN | apply below_drew1) | exact HB.out)) hb); clear HB; have HB := n0_; clear n0_; (try clear hb); (try clear hb2); (try clear hk); (try clear hi); obtain ⟨i019, hi019, _, hsz19, _⟩ := info_parts info42; obtain ⟨hcut19, hA19, hC19⟩ := print_take_of (P := Try.prog) (Value.int .u32) 0 23 42 .i64 Try.underlying23 hi019 hsz19 A1 c1 l1 ((ds.length : Int)) (of_decide_eq_true (by first | (with_reducible assumption) | assumption)) (of_decide_eq_true (by first | (with_reducible assumption) | assumption)) HC1.out; rw [Hds.out] at hcut19 hA19 hC19; have HR157 := Aside0.mk (Kd.C_of_reads (h1 := fun _ => rfl) (hA19 _ (Kd.reads_of_C HR1.out))); have HC157 := Aside0.mk hC19; clear hA19 hC19 hi019 hsz19) | (go_at_call 10; (with_reducible refine (window_Windows.calls k a0 _ _ ds a2 a3 t158 t159 _ ?side1 ?side2 A10.out).mono ?_); (case side1 => repeat (first | exact (Kd.C_below HR157.out HB.out) | (with_reducible refine Kd.C_alloc ?_ _) | (with_reducible refine Kd.C_drewN ?_ _) | (with_reducible refine Kd.C_drew ?_))); (case side2 => exact HC157.out); rintro e w20 ⟨v160, rfl, ho0, hb⟩; have n0_ := Aside0.mk (Kd.R_lower ho0 (below_size (by repeat (first | (with_reducible first | exact HB.out | apply below_alloc | apply pw_below_drewN | apply below_drew1) | exact HB.out)))); have n1_ := Aside0.mk (below_step (by repeat (first | (with_reducible first | exact HB.out | apply below_alloc | apply pw_below_drewN | apply below_drew1) | exact HB.out)) hb); clear HB; have HO161 := n0_; have HB := n1_; clear n0_ n1_; (try clear hb); (try clear hb2); (try clear hk); (try clear hi); (try clear ho0); obtain ⟨i021, hi021, _, hsz21, _⟩ := info_parts info42; obtain ⟨hcut21, hA21, hC21⟩ := print_take_of (P := Try.prog) (Value.int .u32) 0 23 42 .i64 Try.underlying23 hi021 hsz21 A1 c1 ds ((es.length : Int)) (of_decide_eq_true (by first | (with_reducible assumption) | assumption)) (of_decide_eq_true (by first | (with_reducible assumption) | assumption)) HC157.out; rw [Hes.out] at hcut21 hA21 hC21; have HR162 := Aside0.mk (Kd.C_of_reads (h1 := fun _ => rfl) (hA21 _ (Kd.reads_of_C HR157.out))); have HC162 := Aside0.mk hC21; clear hA21 hC21 hi021 hsz21) | (go_at_call 10; (with_reducible refine (window_Windows.calls k a0 _ _ es a2 a3 t163 t164 _ ?side1 ?side2 A16.out).mono ?_); (case side1 => repeat (first | exact (Kd.C_below HR162.out HB.out) | (with_reducible refine Kd.C_alloc ?_ _) | (with_reducible refine Kd.C_drewN ?_ _) | (with_reducible refine Kd.C_drew ?_))); (case side2 => exact HC162.out); rintro e w22 ⟨v165, rfl, ho0, hb⟩; have n0_ := Aside0.mk (Kd.R_elder' (by (with_reducible repeat (first | apply Kd.R_alloc | apply Kd.R_drewN | apply Kd.R_drew)); exact HO161.out) (Kd.R_base ho0) hb); have n1_ := Aside0.mk (Kd.R_lower (Kd.R_new' ho0 (Kd.R_lt (by (with_reducible repeat (first | apply Kd.R_alloc | apply Kd.R_drewN | apply Kd.R_drew)); exact HO161.out))) (below_size (by repeat (first | (with_reducible first | exact HB.out | apply below_alloc | apply pw_below_drewN | apply below_drew1) | exact HB.out)))); have n2_ := Aside0.mk (below_step (by repeat (first | (with_reducible first | exact HB.out | apply below_alloc | apply pw_below_drewN | apply below_drew1) | exact HB.out)) hb); clear HO161; clear HB; have HO161 := n0_; have HO166 := n1_; have HB := n2_; clear n0_ n1_ n2_; (try clear hb); (try clear hb2); (try clear hk); (try clear hi); (try clear ho0))))
              (try simp only [Act.put, List.setIfInBounds_toArray, List.set_cons_zero, List.set_cons_succ])
              go_cut [64] (fun v64 wc => ∃ (kq : Nat) (x64_16 : Bool), v64 = .bool x64_16 ∧ Aside0 (hourglasslaw08_WindowParts.j0 kq (es.length : Int) t156 t158 t163 x64_16 = some r) ∧ Aside0 (kq ≤ k) ∧ Aside0 (Kd.R k35 35 wc w.heap.size (fun k_ => some k_ ≠ (v165 : Value).ownBlock) v160 t158) ∧ Aside0 (Kd.R k35 35 wc w.heap.size (fun k_ => some k_ ≠ (v160 : Value).ownBlock) v165 t163) ∧ Aside0 (Below w.heap.size w wc))
              case first =>
                have H := HC17.out
                clear HC17
                by_cases c23 : t164 = 0
                · rw [if_pos c23] at H
                  have c23b0 : (t164 == 0) = true := beq_iff_eq.mpr c23
                  have c23b1 : (t164 != 0) = false := bne_eq_false_iff_eq.mpr c23
                  clear c23
                  (first | rw [c23b0] | (simp only [i64_w, i32_w]; rw [c23b0]) | skip)
                  by_cases c24 : (t163.length : Int) = ((es.length : Int))
                  · rw [if_pos c24] at H
                    have c24b0 : ((t163.length : Int) == ((es.length : Int))) = true := beq_iff_eq.mpr c24
                    have c24b1 : ((t163.length : Int) != ((es.length : Int))) = false := bne_eq_false_iff_eq.mpr c24
                    clear c24
                    have H' := Aside0.mk H
                    clear H
                    obtain ⟨Ao25, co25, eo25⟩ := Kd.R_slice HO166.out
                    subst eo25
                    obtain ⟨Ao26, co26, eo26⟩ := Kd.R_slice HO161.out
                    subst eo26
                    go_wp2
                    repeat (go_quiet (fail); try go_wp2)
                    go_meet
                    case rel => exact ⟨_, (((t158.length : Int) != (ds.length : Int))), (by first | rfl | (simp; done) | (simp only [← hji7] <;> (first | rfl | simp)) | (simp [*]; done)), H', ⟨by first | omega | exact Nat.le_refl _⟩, ⟨by (with_reducible repeat (first | apply Kd.R_alloc | apply Kd.R_drewN | apply Kd.R_drew)); exact Kd.R_mono HO161.out (fun _ hk => hk.2)⟩, ⟨by (with_reducible repeat (first | apply Kd.R_alloc | apply Kd.R_drewN | apply Kd.R_drew)); exact Kd.R_mono HO166.out (fun _ hk => hk.2)⟩, ⟨by repeat (first | (with_reducible first | exact HB.out | apply below_alloc | apply pw_below_drewN | apply below_drew1) | exact HB.out)⟩⟩
                  · rw [if_neg c24] at H
                    have c24b0 : ((t163.length : Int) == ((es.length : Int))) = false := beq_eq_false_iff_ne.mpr c24
                    have c24b1 : ((t163.length : Int) != ((es.length : Int))) = true := bne_iff_ne.mpr c24
                    have H' := Aside0.mk H
                    clear H
                    obtain ⟨Ao27, co27, eo27⟩ := Kd.R_slice HO166.out
                    subst eo27
                    go_wp2
                    repeat (go_quiet (fail); try go_wp2)
                    go_meet
                    case rel => exact ⟨_, (true), (by first | rfl | (simp; done) | (simp [*]; done)), H', ⟨by first | omega | exact Nat.le_refl _⟩, ⟨by (with_reducible repeat (first | apply Kd.R_alloc | apply Kd.R_drewN | apply Kd.R_drew)); exact Kd.R_mono HO161.out (fun _ hk => hk.2)⟩, ⟨by (with_reducible repeat (first | apply Kd.R_alloc | apply Kd.R_drewN | apply Kd.R_drew)); exact Kd.R_mono HO166.out (fun _ hk => hk.2)⟩, ⟨by repeat (first | (with_reducible first | exact HB.out | apply below_alloc | apply pw_below_drewN | apply below_drew1) | exact HB.out)⟩⟩
                · rw [if_neg c23] at H
                  have c23b0 : (t164 == 0) = false := beq_eq_false_iff_ne.mpr c23
                  have c23b1 : (t164 != 0) = true := bne_iff_ne.mpr c23
                  (first | rw [c23b0] | (simp only [i64_w, i32_w]; rw [c23b0]) | skip)
                  have H' := Aside0.mk H
                  clear H
                  go_wp2
                  repeat (go_quiet (fail); try go_wp2)
                  go_meet
                  case rel => exact ⟨_, (true), (by first | rfl | (simp; done) | (simp [*]; done)), H', ⟨by first | omega | exact Nat.le_refl _⟩, ⟨by (with_reducible repeat (first | apply Kd.R_alloc | apply Kd.R_drewN | apply Kd.R_drew)); exact Kd.R_mono HO161.out (fun _ hk => hk.2)⟩, ⟨by (with_reducible repeat (first | apply Kd.R_alloc | apply Kd.R_drewN | apply Kd.R_drew)); exact Kd.R_mono HO166.out (fun _ hk => hk.2)⟩, ⟨by repeat (first | (with_reducible first | exact HB.out | apply below_alloc | apply pw_below_drewN | apply below_drew1) | exact HB.out)⟩⟩
              case rest =>
                clear HC17
                try clear c1
                try clear c2
                try clear p2
                try clear p6
                try clear c8
                try clear c8b0
                try clear c8b1
                try clear c9
                try clear c9b0
                try clear c9b1
                try clear c11
                try clear c11b0
                try clear c11b1
                try clear c12
                try clear c12b0
                try clear c12b1
                try clear c12b2
                try clear c14
                try clear c14b0
                try clear c14b1
                try clear c15
                try clear c15b0
                try clear c15b1
                try clear c23
                try clear c23b0
                try clear c23b1
                try clear c24
                try clear c24b0
                try clear c24b1
                obtain ⟨kq, x64_16, rfl, HA, HJ16, HO_12, HO_14, HB⟩ := hcut
                cases kq with
                | zero => exact absurd HA.out (by simp [hourglasslaw08_WindowParts.j0])
                | succ kj16 =>
                  have H := HA.out
                  clear HA
                  simp only [hourglasslaw08_WindowParts.j0] at H
                  by_cases c28 : x64_16 = true
                  · subst c28
                    have H1 : (some false) = some r := by rw [if_pos rfl] at H; exact H
                    clear H
                    have H := H1
                    clear H1
                    obtain rfl := Option.some.inj H
                    go_wp2
                    repeat (go_quiet (fail); try go_wp2)
                    go_ret
                    exact ⟨by first | rfl | (simp [errW_none, errW_some] <;> rfl) | (simp only [← hji7, ← hji13]; first | rfl | (simp [errW_none, errW_some] <;> rfl)) | (simp [*, errW_none, errW_some] <;> rfl), by repeat (first | (with_reducible first | exact HB.out | apply below_alloc | apply pw_below_drewN | apply below_drew1) | exact HB.out)⟩
                  · replace c28 := Bool.eq_false_iff.mpr c28
                    subst c28
                    have H1 : (hourglasslaw08_WindowParts.l0 kj16 (es.length : Int) t156 t158 t163 0) = some r := by rw [if_neg (show ¬ (false = true) by decide)] at H; exact H
                    clear H
                    have H := H1
                    clear H1
                    have H' := Aside0.mk H
                    clear H
                    go_wp2
                    repeat (go_quiet (fail); try go_wp2)
                    go_loopg [16] kj16 (fun kq v16 w' => ∃ (x16_2 : Int), v16 = .int .i64 x16_2 ∧ Aside0 (hourglasslaw08_WindowParts.l0 kq (es.length : Int) t156 t158 t163 x16_2 = some r) ∧ Aside0 (kq ≤ kj16) ∧ Aside0 (Kd.R k35 35 w' w.heap.size (fun k_ => some k_ ≠ (v165 : Value).ownBlock) v160 t158) ∧ Aside0 (Kd.R k35 35 w' w.heap.size (fun k_ => some k_ ≠ (v160 : Value).ownBlock) v165 t163) ∧ Aside0 (Below w.heap.size w w'))
                    case atStart => exact ⟨(0), (by first | rfl | (simp; done) | (simp [*]; done)), H', ⟨Nat.le_refl _⟩, ⟨by (with_reducible repeat (first | apply Kd.R_alloc | apply Kd.R_drewN | apply Kd.R_drew)); exact HO_12.out⟩, ⟨by (with_reducible repeat (first | apply Kd.R_alloc | apply Kd.R_drewN | apply Kd.R_drew)); exact HO_14.out⟩, ⟨by repeat (first | (with_reducible first | exact HB.out | apply below_alloc | apply pw_below_drewN | apply below_drew1) | exact HB.out)⟩⟩
                    case round =>
                      clear H'
                      try clear c1
                      try clear c2
                      try clear p2
                      try clear p6
                      try clear c8
                      try clear c8b0
                      try clear c8b1
                      try clear c9
                      try clear c9b0
                      try clear c9b1
                      try clear c11
                      try clear c11b0
                      try clear c11b1
                      try clear c12
                      try clear c12b0
                      try clear c12b1
                      try clear c12b2
                      try clear c14
                      try clear c14b0
                      try clear c14b1
                      try clear c15
                      try clear c15b0
                      try clear c15b1
                      try clear c23
                      try clear c23b0
                      try clear c23b1
                      try clear c24
                      try clear c24b0
                      try clear c24b1
                      try clear c28
                      try clear p2
                      try clear p6
                      obtain ⟨x16_2, rfl, HA, HK2, HO_12, HO_14, HB⟩ := hrel
                      cases gk with
                      | zero => exact absurd HA.out (by simp [hourglasslaw08_WindowParts.l0])
                      | succ k2 =>
                        have H := HA.out
                        clear HA
                        simp only [hourglasslaw08_WindowParts.l0] at H
                        by_cases c29 : x16_2 < (es.length : Int)
                        · rw [if_pos c29] at H
                          have c29b0 : decide (x16_2 < (es.length : Int)) = true := decide_eq_true c29
                          clear c29
                          by_cases c30 : 0 ≤ x16_2
                          · rw [if_pos c30] at H
                            have c30b0 : decide (0 ≤ x16_2) = true := decide_eq_true c30
                            clear c30
                            by_cases c31 : x16_2 < (t158.length : Int)
                            · rw [if_pos c31] at H
                              have c31b0 : decide (x16_2 < (t158.length : Int)) = true := decide_eq_true c31
                              clear c31
                              by_cases c32 : x16_2 < (t163.length : Int)
                              · rw [if_pos c32] at H
                                have c32b0 : decide (x16_2 < (t163.length : Int)) = true := decide_eq_true c32
                                clear c32
                                by_cases c33 : (!(((rd_T35 t158 x16_2).f0) == ((rd_T35 t163 x16_2).f0)) || (!(((rd_T35 t158 x16_2).f1) == ((rd_T35 t163 x16_2).f1)))) = true
                                · rw [if_pos c33] at H
                                  have c33b0 : (!(((rd_T35 t158 x16_2).f0) == ((rd_T35 t163 x16_2).f0)) || (!(((rd_T35 t158 x16_2).f1) == ((rd_T35 t163 x16_2).f1)))) = true := c33
                                  clear c33
                                  obtain rfl := Option.some.inj H
                                  obtain ⟨Ao34, co34, eo34⟩ := Kd.R_slice HO_12.out
                                  subst eo34
                                  have p167 : 0 ≤ (x16_2 : Int) := of_decide_eq_true (by first | (with_reducible assumption) | assumption)
                                  have q167 : x16_2 < (t158.length : Int) := of_decide_eq_true (by first | (with_reducible assumption) | assumption)
                                  obtain ⟨ad167, e167, hx167_0, hx167_1⟩ := at_T35 (Kd.R_reads' HO_12.out).2.2 x16_2 p167 q167
                                  cases e167
                                  replace p167 := eq_true p167
                                  replace q167 := eq_true q167
                                  obtain ⟨Ao35, co35, eo35⟩ := Kd.R_slice HO_14.out
                                  subst eo35
                                  have p168 : 0 ≤ (x16_2 : Int) := of_decide_eq_true (by first | (with_reducible assumption) | assumption)
                                  have q168 : x16_2 < (t163.length : Int) := of_decide_eq_true (by first | (with_reducible assumption) | assumption)
                                  obtain ⟨ad168, e168, hx168_0, hx168_1⟩ := at_T35 (Kd.R_reads' HO_14.out).2.2 x16_2 p168 q168
                                  cases e168
                                  replace p168 := eq_true p168
                                  replace q168 := eq_true q168
                                  have hne := neq35
                                  go_wp2
                                  repeat (go_quiet (fail); try go_wp2)
                                  clear hne
                                  go_ret
                                  exact ⟨by first | rfl | (simp [errW_none, errW_some] <;> rfl) | (simp only [← hji7, ← hji13]; first | rfl | (simp [errW_none, errW_some] <;> rfl)) | (simp [*, errW_none, errW_some] <;> rfl), by repeat (first | (with_reducible first | exact HB.out | apply below_alloc | apply pw_below_drewN | apply below_drew1) | exact HB.out)⟩
                                · rw [if_neg c33] at H
                                  have c33b0 : (!(((rd_T35 t158 x16_2).f0) == ((rd_T35 t163 x16_2).f0)) || (!(((rd_T35 t158 x16_2).f1) == ((rd_T35 t163 x16_2).f1)))) = false := by simpa using c33
                                  clear c33
                                  have H' := Aside0.mk H
                                  clear H
                                  obtain ⟨Ao36, co36, eo36⟩ := Kd.R_slice HO_12.out
                                  subst eo36
                                  have p167 : 0 ≤ (x16_2 : Int) := of_decide_eq_true (by first | (with_reducible assumption) | assumption)
                                  have q167 : x16_2 < (t158.length : Int) := of_decide_eq_true (by first | (with_reducible assumption) | assumption)
                                  obtain ⟨ad167, e167, hx167_0, hx167_1⟩ := at_T35 (Kd.R_reads' HO_12.out).2.2 x16_2 p167 q167
                                  cases e167
                                  replace p167 := eq_true p167
                                  replace q167 := eq_true q167
                                  obtain ⟨Ao37, co37, eo37⟩ := Kd.R_slice HO_14.out
                                  subst eo37
                                  have p168 : 0 ≤ (x16_2 : Int) := of_decide_eq_true (by first | (with_reducible assumption) | assumption)
                                  have q168 : x16_2 < (t163.length : Int) := of_decide_eq_true (by first | (with_reducible assumption) | assumption)
                                  obtain ⟨ad168, e168, hx168_0, hx168_1⟩ := at_T35 (Kd.R_reads' HO_14.out).2.2 x16_2 p168 q168
                                  cases e168
                                  replace p168 := eq_true p168
                                  replace q168 := eq_true q168
                                  have hne := neq35
                                  go_wp2
                                  repeat (go_quiet (fail); try go_wp2)
                                  clear hne
                                  go_roundg k2
                                  case measure => have := HJ16.out; have := HK2.out; omega
                                  case rel => exact ⟨(wrap64 (x16_2 + 1)), (by first | rfl | (simp; done) | (simp [*]; done)), H', ⟨by have := HJ16.out; have := HK2.out; omega⟩, ⟨by (with_reducible repeat (first | apply Kd.R_alloc | apply Kd.R_drewN | apply Kd.R_drew)); exact HO_12.out⟩, ⟨by (with_reducible repeat (first | apply Kd.R_alloc | apply Kd.R_drewN | apply Kd.R_drew)); exact HO_14.out⟩, ⟨by repeat (first | (with_reducible first | exact HB.out | apply below_alloc | apply pw_below_drewN | apply below_drew1) | exact HB.out)⟩⟩
                              · rw [if_neg c32] at H
                                exact absurd H (by simp)
                            · rw [if_neg c31] at H
                              exact absurd H (by simp)
                          · rw [if_neg c30] at H
                            exact absurd H (by simp)
                        · rw [if_neg c29] at H
                          have c29b0 : decide (x16_2 < (es.length : Int)) = false := decide_eq_false c29
                          clear c29
                          obtain rfl := Option.some.inj H
                          go_wp2
                          repeat (go_quiet (fail); try go_wp2)
                          go_ret
                          exact ⟨by first | rfl | (simp [errW_none, errW_some] <;> rfl) | (simp only [← hji7, ← hji13]; first | rfl | (simp [errW_none, errW_some] <;> rfl)) | (simp [*, errW_none, errW_some] <;> rfl), by repeat (first | (with_reducible first | exact HB.out | apply below_alloc | apply pw_below_drewN | apply below_drew1) | exact HB.out)⟩
            · rw [if_neg c15] at H
              exact absurd H (by simp)
          · rw [if_neg c14] at H
            exact absurd H (by simp)
      · rw [if_neg c11] at H
        have c11b0 : (t159 == 0) = false := beq_eq_false_iff_ne.mpr c11
        have c11b1 : (t159 != 0) = true := bne_iff_ne.mpr c11
        obtain rfl := Option.some.inj H
        go_enter Try.func8, Try.ntmps8
        go_wp2_with (first | (go_at_call 9; (with_reducible refine (hourglasslaw08_shown.calls k  t156 _ A6.out).mono ?_); rintro e w38 ⟨rfl, hb⟩; have n0_ := Aside0.mk (below_step (by repeat (first | (with_reducible first | exact HB.out | apply below_alloc | apply pw_below_drewN | apply below_drew1) | exact HB.out)) hb); clear HB; have HB := n0_; clear n0_; (try clear hb); (try clear hb2); (try clear hk); (try clear hi); obtain ⟨i039, hi039, _, hsz39, _⟩ := info_parts info42; obtain ⟨hcut39, hA39, hC39⟩ := print_take_of (P := Try.prog) (Value.int .u32) 0 23 42 .i64 Try.underlying23 hi039 hsz39 A1 c1 l1 ((ds.length : Int)) (of_decide_eq_true (by first | (with_reducible assumption) | assumption)) (of_decide_eq_true (by first | (with_reducible assumption) | assumption)) HC1.out; rw [Hds.out] at hcut39 hA39 hC39; have HR157 := Aside0.mk (Kd.C_of_reads (h1 := fun _ => rfl) (hA39 _ (Kd.reads_of_C HR1.out))); have HC157 := Aside0.mk hC39; clear hA39 hC39 hi039 hsz39) | (go_at_call 10; (with_reducible refine (window_Windows.calls k a0 _ _ ds a2 a3 t158 t159 _ ?side1 ?side2 A10.out).mono ?_); (case side1 => repeat (first | exact (Kd.C_below HR157.out HB.out) | (with_reducible refine Kd.C_alloc ?_ _) | (with_reducible refine Kd.C_drewN ?_ _) | (with_reducible refine Kd.C_drew ?_))); (case side2 => exact HC157.out); rintro e w40 ⟨v160, rfl, ho0, hb⟩; have n0_ := Aside0.mk (Kd.R_lower ho0 (below_size (by repeat (first | (with_reducible first | exact HB.out | apply below_alloc | apply pw_below_drewN | apply below_drew1) | exact HB.out)))); have n1_ := Aside0.mk (below_step (by repeat (first | (with_reducible first | exact HB.out | apply below_alloc | apply pw_below_drewN | apply below_drew1) | exact HB.out)) hb); clear HB; have HO161 := n0_; have HB := n1_; clear n0_ n1_; (try clear hb); (try clear hb2); (try clear hk); (try clear hi); (try clear ho0)))
        repeat (go_quiet (first | (go_at_call 9; (with_reducible refine (hourglasslaw08_shown.calls k  t156 _ A6.out).mono ?_); rintro e w38 ⟨rfl, hb⟩; have n0_ := Aside0.mk (below_step (by repeat (first | (with_reducible first | exact HB.out | apply below_alloc | apply pw_below_drewN | apply below_drew1) | exact HB.out)) hb); clear HB; have HB := n0_; clear n0_; (try clear hb); (try clear hb2); (try clear hk); (try clear hi); obtain ⟨i039, hi039, _, hsz39, _⟩ := info_parts info42; obtain ⟨hcut39, hA39, hC39⟩ := print_take_of (P := Try.prog) (Value.int .u32) 0 23 42 .i64 Try.underlying23 hi039 hsz39 A1 c1 l1 ((ds.length : Int)) (of_decide_eq_true (by first | (with_reducible assumption) | assumption)) (of_decide_eq_true (by first | (with_reducible assumption) | assumption)) HC1.out; rw [Hds.out] at hcut39 hA39 hC39; have HR157 := Aside0.mk (Kd.C_of_reads (h1 := fun _ => rfl) (hA39 _ (Kd.reads_of_C HR1.out))); have HC157 := Aside0.mk hC39; clear hA39 hC39 hi039 hsz39) | (go_at_call 10; (with_reducible refine (window_Windows.calls k a0 _ _ ds a2 a3 t158 t159 _ ?side1 ?side2 A10.out).mono ?_); (case side1 => repeat (first | exact (Kd.C_below HR157.out HB.out) | (with_reducible refine Kd.C_alloc ?_ _) | (with_reducible refine Kd.C_drewN ?_ _) | (with_reducible refine Kd.C_drew ?_))); (case side2 => exact HC157.out); rintro e w40 ⟨v160, rfl, ho0, hb⟩; have n0_ := Aside0.mk (Kd.R_lower ho0 (below_size (by repeat (first | (with_reducible first | exact HB.out | apply below_alloc | apply pw_below_drewN | apply below_drew1) | exact HB.out)))); have n1_ := Aside0.mk (below_step (by repeat (first | (with_reducible first | exact HB.out | apply below_alloc | apply pw_below_drewN | apply below_drew1) | exact HB.out)) hb); clear HB; have HO161 := n0_; have HB := n1_; clear n0_ n1_; (try clear hb); (try clear hb2); (try clear hk); (try clear hi); (try clear ho0))); try go_wp2_with (first | (go_at_call 9; (with_reducible refine (hourglasslaw08_shown.calls k  t156 _ A6.out).mono ?_); rintro e w38 ⟨rfl, hb⟩; have n0_ := Aside0.mk (below_step (by repeat (first | (with_reducible first | exact HB.out | apply below_alloc | apply pw_below_drewN | apply below_drew1) | exact HB.out)) hb); clear HB; have HB := n0_; clear n0_; (try clear hb); (try clear hb2); (try clear hk); (try clear hi); obtain ⟨i039, hi039, _, hsz39, _⟩ := info_parts info42; obtain ⟨hcut39, hA39, hC39⟩ := print_take_of (P := Try.prog) (Value.int .u32) 0 23 42 .i64 Try.underlying23 hi039 hsz39 A1 c1 l1 ((ds.length : Int)) (of_decide_eq_true (by first | (with_reducible assumption) | assumption)) (of_decide_eq_true (by first | (with_reducible assumption) | assumption)) HC1.out; rw [Hds.out] at hcut39 hA39 hC39; have HR157 := Aside0.mk (Kd.C_of_reads (h1 := fun _ => rfl) (hA39 _ (Kd.reads_of_C HR1.out))); have HC157 := Aside0.mk hC39; clear hA39 hC39 hi039 hsz39) | (go_at_call 10; (with_reducible refine (window_Windows.calls k a0 _ _ ds a2 a3 t158 t159 _ ?side1 ?side2 A10.out).mono ?_); (case side1 => repeat (first | exact (Kd.C_below HR157.out HB.out) | (with_reducible refine Kd.C_alloc ?_ _) | (with_reducible refine Kd.C_drewN ?_ _) | (with_reducible refine Kd.C_drew ?_))); (case side2 => exact HC157.out); rintro e w40 ⟨v160, rfl, ho0, hb⟩; have n0_ := Aside0.mk (Kd.R_lower ho0 (below_size (by repeat (first | (with_reducible first | exact HB.out | apply below_alloc | apply pw_below_drewN | apply below_drew1) | exact HB.out)))); have n1_ := Aside0.mk (below_step (by repeat (first | (with_reducible first | exact HB.out | apply below_alloc | apply pw_below_drewN | apply below_drew1) | exact HB.out)) hb); clear HB; have HO161 := n0_; have HB := n1_; clear n0_ n1_; (try clear hb); (try clear hb2); (try clear hk); (try clear hi); (try clear ho0))))
        go_ret
        exact ⟨by first | rfl | (simp [errW_none, errW_some] <;> rfl) | (simp only [← hji7]; first | rfl | (simp [errW_none, errW_some] <;> rfl)) | (simp [*, errW_none, errW_some] <;> rfl), by repeat (first | (with_reducible first | exact HB.out | apply below_alloc | apply pw_below_drewN | apply below_drew1) | exact HB.out)⟩
    · rw [if_neg c9] at H
      exact absurd H (by simp)
  · rw [if_neg c8] at H
    exact absurd H (by simp)

/-- THE ONE PURE STATEMENT of hourglasslaw08_WindowParts: yours. -/
def hourglasslaw08_WindowParts.Pure : Prop := ∀ (a0 : Int) (l1 : List Int) (a2 : Int) (a3 : Int) (a4 : Int), (Lit.int .u64 a0).wf = true → l1.length ≤ maxLen → l1.length * 4 ≤ 140737488351232 → (∀ x ∈ l1, (Lit.int .u32 x).wf = true) → (Lit.int .u64 a2).wf = true → (Lit.int .u64 a3).wf = true → (Lit.int .i64 a4).wf = true → ∃ k, hourglasslaw08_WindowParts.f k a0 l1 a2 a3 a4 = some true
theorem hourglasslaw08_WindowParts.walk (P : hourglasslaw08_WindowParts.Pure) (a0 : Int) (a1 : Option Addr) (len1 cap1 : Nat) (z1 : List Int) (a2 : Int) (a3 : Int) (a4 : Int) (w : World) (w0 : (Lit.int .u64 a0).wf = true) (w1 : (a1 = none ∧ len1 = 0 ∧ cap1 = 0 ∧ z1 = []) ∨ ∃ x, a1 = some x ∧ len1 ≤ cap1 ∧ cap1 ≤ maxLen ∧ z1.length = cap1 ∧ (∀ i, i < z1.length → w.cell? (x.add i) = some (.int .u32 (z1.getD i 0))) ∧ ∀ n ∈ z1, (Lit.int .u32 n).wf = true) (y1 : len1 * 4 ≤ 140737488351232) (w2 : (Lit.int .u64 a2).wf = true) (w3 : (Lit.int .u64 a3).wf = true) (w4 : (Lit.int .i64 a4).wf = true) :
    Calls Try.prog 8 #[.int .u64 a0, .slice a1 len1 cap1, .int .u64 a2, .int .u64 a3, .int .i64 a4] w fun e w' => e = .returned (.bool true) ∧ Below w.heap.size w w' := by
  obtain ⟨l1, rfl, hr1, hm1, hw1, hc1⟩ := ReadsInt.ofRowC w1
  obtain ⟨k, h⟩ := P a0 l1 a2 a3 a4 w0 hm1 y1 hw1 w2 w3 w4
  refine (hourglasslaw08_WindowParts.calls k a0 _ _ l1 a2 a3 a4 true w (Kd.C_of_reads (d := (0 : Int)) (h1 := fun _ => rfl) hr1) hc1 h).mono ?_
  rintro e w' ⟨rfl, hd⟩
  exact ⟨rfl, hd⟩



end Go.Proofs.Ytehghblhjclpdaa.WB
