/- WindowComes as a function of Lean, and a proof that the Go code comes to it: no condition but that the arguments are of their kinds. -/
import Derived.Test.YtehghblhjclpdaaB2
namespace Go.Proofs.Ytehghblhjclpdaa.WB
open Go.RowKit Go.Proofs.YtehghblhjclpdaaW.PrintWords Go.Proofs.YtehghblhjclpdaaW.PrintLast Go.Proofs.YtehghblhjclpdaaW.PrintMore PWindowTells
attribute [local go_sem] max2_int min2_int max_two min_two max_three min_three max_four min_four   -- for this text's walks alone
set_option linter.unusedVariables false
set_option linter.unusedSimpArgs false

/-! ### hourglasslaw08_WindowComes: function 4 -/
mutual
def hourglasslaw08_WindowComes.j0 : Nat → Int → List Int → Int → Int → List Int → List Int → Bool → List (S35) → Bool → Option (Bool)
  | 0, _, _, _, _, _, _, _, _, _ => none
  | k + 1, x0, x1, x2, x3, x4, x5, x13, x14, x58 => if x58 = true then (some false) else (hourglasslaw08_WindowComes.l0 k x0 x1 x2 x3 x4 x5 x13 x14 x0 0)
def hourglasslaw08_WindowComes.l0 : Nat → Int → List Int → Int → Int → List Int → List Int → Bool → List (S35) → Int → Int → Option (Bool)
  | 0, _, _, _, _, _, _, _, _, _, _ => none
  | k + 1, x0, x1, x2, x3, x4, x5, x13, x14, x16, x17 => if x17 < (x1.length : Int) then (if x17 < (x4.length : Int) then (if 0 ≤ x17 then (if (IntKind.u64.wrap (x2 + 1)) = 0 then (none) else (hourglasslaw08_WindowComes.j2 k x0 x1 x2 x3 x4 x5 x13 x14 (IntKind.u64.wrap (x16 + (Int.tmod (rd x4 x17) (IntKind.u64.wrap (x2 + 1))))) x17)) else (none)) else (hourglasslaw08_WindowComes.j2 k x0 x1 x2 x3 x4 x5 x13 x14 x16 x17)) else ((window_Latest.f k x0 x1 x2 x3).bind fun bt162 => (if x13 = true then (if bt162.2 = true then (some (decide (x16 ≤ bt162.1))) else (some false)) else (some false)))
def hourglasslaw08_WindowComes.j2 : Nat → Int → List Int → Int → Int → List Int → List Int → Bool → List (S35) → Int → Int → Option (Bool)
  | 0, _, _, _, _, _, _, _, _, _, _ => none
  | k + 1, x0, x1, x2, x3, x4, x5, x13, x14, x16, x17 => if x17 < (x5.length : Int) then (if 0 ≤ x17 then (if (IntKind.u64.wrap (x3 + 1)) = 0 then (none) else (if (rd x5 x17) < 0 then (if x17 < (x14.length : Int) then ((window_Window_Has.f ((rd_T35 x14 x17).f0) ((rd_T35 x14 x17).f1) (IntKind.u64.wrap (x16 - (mn (Int.tmod (IntKind.u64.wrap (Go.bits .and .i64 (rd x5 x17) 4611686018427387903)) (IntKind.u64.wrap (x3 + 1))) x16)))).bind fun t168 => (if t168 = 0 then (if x17 < (x1.length : Int) then (hourglasslaw08_WindowComes.l0 k x0 x1 x2 x3 x4 x5 x13 x14 (IntKind.u64.wrap (x16 + (IntKind.u64.wrap (rd x1 x17)))) (wrap64 (x17 + 1))) else (none)) else (some false))) else (none)) else (if x17 < (x14.length : Int) then ((window_Window_Has.f ((rd_T35 x14 x17).f0) ((rd_T35 x14 x17).f1) (IntKind.u64.wrap (x16 + (Int.tmod (IntKind.u64.wrap (Go.bits .and .i64 (rd x5 x17) 4611686018427387903)) (IntKind.u64.wrap (x3 + 1)))))).bind fun t171 => (if t171 = 0 then (if x17 < (x1.length : Int) then (hourglasslaw08_WindowComes.l0 k x0 x1 x2 x3 x4 x5 x13 x14 (IntKind.u64.wrap (x16 + (IntKind.u64.wrap (rd x1 x17)))) (wrap64 (x17 + 1))) else (none)) else (some false))) else (none)))) else (none)) else (if 0 ≤ x17 then (if x17 < (x14.length : Int) then ((window_Window_Has.f ((rd_T35 x14 x17).f0) ((rd_T35 x14 x17).f1) x16).bind fun t174 => (if t174 = 0 then (if x17 < (x1.length : Int) then (hourglasslaw08_WindowComes.l0 k x0 x1 x2 x3 x4 x5 x13 x14 (IntKind.u64.wrap (x16 + (IntKind.u64.wrap (rd x1 x17)))) (wrap64 (x17 + 1))) else (none)) else (some false))) else (none)) else (none))
end
def hourglasslaw08_WindowComes.f (k : Nat) (a0 : Int) (l1 : List Int) (a2 : Int) (a3 : Int) (l4 : List Int) (l5 : List Int) : Option (Bool) := (hourglasslaw08_shown.f k).bind fun t156 => (if 0 ≤ (mn (l1.length : Int) 5) then (if (mn (l1.length : Int) 5) ≤ (l1.length : Int) then ((window_Windows.f k (Go.bits .and .u64 a0 1099511627775) (l1.take ((mn (l1.length : Int) 5) : Int).toNat) (Go.bits .and .u64 a2 1099511627775) (Go.bits .and .u64 a3 1099511627775)).bind fun bt158 => (if ((l1.take ((mn (l1.length : Int) 5) : Int).toNat).length : Int) = 0 then (if t156 = true then (some (bt158.2 == 1)) else (some false)) else (if bt158.2 = 0 then (hourglasslaw08_WindowComes.j0 k (Go.bits .and .u64 a0 1099511627775) (l1.take ((mn (l1.length : Int) 5) : Int).toNat) (Go.bits .and .u64 a2 1099511627775) (Go.bits .and .u64 a3 1099511627775) l4 l5 t156 bt158.1 ((bt158.1.length : Int) != ((l1.take ((mn (l1.length : Int) 5) : Int).toNat).length : Int))) else (hourglasslaw08_WindowComes.j0 k (Go.bits .and .u64 a0 1099511627775) (l1.take ((mn (l1.length : Int) 5) : Int).toNat) (Go.bits .and .u64 a2 1099511627775) (Go.bits .and .u64 a3 1099511627775) l4 l5 t156 bt158.1 true)))) else (none)) else (none))
theorem hourglasslaw08_WindowComes.mono_l : ∀ k, (∀ y0 y1 y2 y3 y4 y5 y6 y7 y8, LeO (hourglasslaw08_WindowComes.j0 k y0 y1 y2 y3 y4 y5 y6 y7 y8) (hourglasslaw08_WindowComes.j0 (k + 1) y0 y1 y2 y3 y4 y5 y6 y7 y8)) ∧ (∀ y0 y1 y2 y3 y4 y5 y6 y7 y8 y9, LeO (hourglasslaw08_WindowComes.l0 k y0 y1 y2 y3 y4 y5 y6 y7 y8 y9) (hourglasslaw08_WindowComes.l0 (k + 1) y0 y1 y2 y3 y4 y5 y6 y7 y8 y9)) ∧ (∀ y0 y1 y2 y3 y4 y5 y6 y7 y8 y9, LeO (hourglasslaw08_WindowComes.j2 k y0 y1 y2 y3 y4 y5 y6 y7 y8 y9) (hourglasslaw08_WindowComes.j2 (k + 1) y0 y1 y2 y3 y4 y5 y6 y7 y8 y9))
  | 0 => ⟨fun _ _ _ _ _ _ _ _ _ r h => by simp [hourglasslaw08_WindowComes.j0] at h, fun _ _ _ _ _ _ _ _ _ _ r h => by simp [hourglasslaw08_WindowComes.l0] at h, fun _ _ _ _ _ _ _ _ _ _ r h => by simp [hourglasslaw08_WindowComes.j2] at h⟩
  | k + 1 => by
    obtain ⟨ih0, ih1, ih2⟩ := hourglasslaw08_WindowComes.mono_l k
    refine ⟨?_, ?_, ?_⟩
    · intro y0 y1 y2 y3 y4 y5 y6 y7 y8
      unfold hourglasslaw08_WindowComes.j0
      repeat' first
      | (with_reducible exact ih0 _ _ _ _ _ _ _ _ _)
      | (with_reducible exact ih1 _ _ _ _ _ _ _ _ _ _)
      | (with_reducible exact ih2 _ _ _ _ _ _ _ _ _ _)
      | (with_reducible exact hourglasslaw08_shown.mono _)
      | (with_reducible exact window_Latest.mono _ _ _ _ _)
      | (with_reducible exact window_Windows.mono _ _ _ _ _)
      | (with_reducible exact LeO.refl _)
      | (with_reducible exact LeO.none _)
      | (with_reducible refine LeO.ite ?_ ?_)
      | (with_reducible refine LeO.bind ?_ (fun _ => ?_))
      | exact ih0 _ _ _ _ _ _ _ _ _
      | exact ih1 _ _ _ _ _ _ _ _ _ _
      | exact ih2 _ _ _ _ _ _ _ _ _ _
      | exact hourglasslaw08_shown.mono _
      | exact window_Latest.mono _ _ _ _ _
      | exact window_Windows.mono _ _ _ _ _
      | exact LeO.none _
      | refine LeO.ite ?_ ?_
      | refine LeO.bind ?_ (fun _ => ?_)
    · intro y0 y1 y2 y3 y4 y5 y6 y7 y8 y9
      unfold hourglasslaw08_WindowComes.l0
      repeat' first
      | (with_reducible exact ih0 _ _ _ _ _ _ _ _ _)
      | (with_reducible exact ih1 _ _ _ _ _ _ _ _ _ _)
      | (with_reducible exact ih2 _ _ _ _ _ _ _ _ _ _)
      | (with_reducible exact hourglasslaw08_shown.mono _)
      | (with_reducible exact window_Latest.mono _ _ _ _ _)
      | (with_reducible exact window_Windows.mono _ _ _ _ _)
      | (with_reducible exact LeO.refl _)
      | (with_reducible exact LeO.none _)
      | (with_reducible refine LeO.ite ?_ ?_)
      | (with_reducible refine LeO.bind ?_ (fun _ => ?_))
      | exact ih0 _ _ _ _ _ _ _ _ _
      | exact ih1 _ _ _ _ _ _ _ _ _ _
      | exact ih2 _ _ _ _ _ _ _ _ _ _
      | exact hourglasslaw08_shown.mono _
      | exact window_Latest.mono _ _ _ _ _
      | exact window_Windows.mono _ _ _ _ _
      | exact LeO.none _
      | refine LeO.ite ?_ ?_
      | refine LeO.bind ?_ (fun _ => ?_)
    · intro y0 y1 y2 y3 y4 y5 y6 y7 y8 y9
      unfold hourglasslaw08_WindowComes.j2
      repeat' first
      | (with_reducible exact ih0 _ _ _ _ _ _ _ _ _)
      | (with_reducible exact ih1 _ _ _ _ _ _ _ _ _ _)
      | (with_reducible exact ih2 _ _ _ _ _ _ _ _ _ _)
      | (with_reducible exact hourglasslaw08_shown.mono _)
      | (with_reducible exact window_Latest.mono _ _ _ _ _)
      | (with_reducible exact window_Windows.mono _ _ _ _ _)
      | (with_reducible exact LeO.refl _)
      | (with_reducible exact LeO.none _)
      | (with_reducible refine LeO.ite ?_ ?_)
      | (with_reducible refine LeO.bind ?_ (fun _ => ?_))
      | exact ih0 _ _ _ _ _ _ _ _ _
      | exact ih1 _ _ _ _ _ _ _ _ _ _
      | exact ih2 _ _ _ _ _ _ _ _ _ _
      | exact hourglasslaw08_shown.mono _
      | exact window_Latest.mono _ _ _ _ _
      | exact window_Windows.mono _ _ _ _ _
      | exact LeO.none _
      | refine LeO.ite ?_ ?_
      | refine LeO.bind ?_ (fun _ => ?_)
theorem hourglasslaw08_WindowComes.mono : ∀ a0 a1 a2 a3 a4 a5 k, LeO (hourglasslaw08_WindowComes.f k a0 a1 a2 a3 a4 a5) (hourglasslaw08_WindowComes.f (k + 1) a0 a1 a2 a3 a4 a5) := by
  intro a0 a1 a2 a3 a4 a5 k
  obtain ⟨ih0, ih1, ih2⟩ := hourglasslaw08_WindowComes.mono_l k
  unfold hourglasslaw08_WindowComes.f
  repeat' first
      | (with_reducible exact ih0 _ _ _ _ _ _ _ _ _)
      | (with_reducible exact ih1 _ _ _ _ _ _ _ _ _ _)
      | (with_reducible exact ih2 _ _ _ _ _ _ _ _ _ _)
      | (with_reducible exact hourglasslaw08_shown.mono _)
      | (with_reducible exact window_Latest.mono _ _ _ _ _)
      | (with_reducible exact window_Windows.mono _ _ _ _ _)
      | (with_reducible exact LeO.refl _)
      | (with_reducible exact LeO.none _)
      | (with_reducible refine LeO.ite ?_ ?_)
      | (with_reducible refine LeO.bind ?_ (fun _ => ?_))
      | exact ih0 _ _ _ _ _ _ _ _ _
      | exact ih1 _ _ _ _ _ _ _ _ _ _
      | exact ih2 _ _ _ _ _ _ _ _ _ _
      | exact hourglasslaw08_shown.mono _
      | exact window_Latest.mono _ _ _ _ _
      | exact window_Windows.mono _ _ _ _ _
      | exact LeO.none _
      | refine LeO.ite ?_ ?_
      | refine LeO.bind ?_ (fun _ => ?_)
set_option maxHeartbeats 8000000 in
set_option maxRecDepth 100000 in
theorem hourglasslaw08_WindowComes.calls (k : Nat) (a0 : Int) (A1 : Option Addr) (c1 : Nat) (l1 : List Int) (a2 : Int) (a3 : Int) (A4 : Option Addr) (c4 : Nat) (l4 : List Int) (A5 : Option Addr) (c5 : Nat) (l5 : List Int) (r : Bool) (w : World) (hr1 : Kd.C (Kd.int .u32) w A1 l1.length l1) (hc1 : l1.length ≤ c1) (hr4 : Kd.C (Kd.int .u64) w A4 l4.length l4) (hc4 : l4.length ≤ c4) (hr5 : Kd.C (Kd.int .i64) w A5 l5.length l5) (hc5 : l5.length ≤ c5) (h : hourglasslaw08_WindowComes.f k a0 l1 a2 a3 l4 l5 = some r) :
    Calls Try.prog 4 #[.int .u64 a0, .slice A1 l1.length c1, .int .u64 a2, .int .u64 a3, .slice A4 l4.length c4, .slice A5 l5.length c5] w fun e w' => e = .returned (.bool r) ∧ Below w.heap.size w w' := by
  have hu35 := Try.underlying35
  have HR1 := Aside0.mk hr1
  have HC1 := Aside0.mk hc1
  clear hr1 hc1
  have HR4 := Aside0.mk hr4
  have HC4 := Aside0.mk hc4
  clear hr4 hc4
  have HR5 := Aside0.mk hr5
  have HC5 := Aside0.mk hc5
  clear hr5 hc5
  have HB := Aside0.mk (Below.refl w.heap.size w)
  have H : ((hourglasslaw08_shown.f k).bind fun t156 => (if 0 ≤ (mn (l1.length : Int) 5) then (if (mn (l1.length : Int) 5) ≤ (l1.length : Int) then ((window_Windows.f k (Go.bits .and .u64 a0 1099511627775) (l1.take ((mn (l1.length : Int) 5) : Int).toNat) (Go.bits .and .u64 a2 1099511627775) (Go.bits .and .u64 a3 1099511627775)).bind fun bt158 => (if ((l1.take ((mn (l1.length : Int) 5) : Int).toNat).length : Int) = 0 then (if t156 = true then (some (bt158.2 == 1)) else (some false)) else (if bt158.2 = 0 then (hourglasslaw08_WindowComes.j0 k (Go.bits .and .u64 a0 1099511627775) (l1.take ((mn (l1.length : Int) 5) : Int).toNat) (Go.bits .and .u64 a2 1099511627775) (Go.bits .and .u64 a3 1099511627775) l4 l5 t156 bt158.1 ((bt158.1.length : Int) != ((l1.take ((mn (l1.length : Int) 5) : Int).toNat).length : Int))) else (hourglasslaw08_WindowComes.j0 k (Go.bits .and .u64 a0 1099511627775) (l1.take ((mn (l1.length : Int) 5) : Int).toNat) (Go.bits .and .u64 a2 1099511627775) (Go.bits .and .u64 a3 1099511627775) l4 l5 t156 bt158.1 true)))) else (none)) else (none))) = some r := h
  clear h
  replace H := Option.bind_eq_some_iff.mp H
  obtain ⟨t156, A70, H⟩ := H
  replace H : (if 0 ≤ (mn (l1.length : Int) 5) then (if (mn (l1.length : Int) 5) ≤ (l1.length : Int) then ((window_Windows.f k (Go.bits .and .u64 a0 1099511627775) (l1.take ((mn (l1.length : Int) 5) : Int).toNat) (Go.bits .and .u64 a2 1099511627775) (Go.bits .and .u64 a3 1099511627775)).bind fun bt158 => (if ((l1.take ((mn (l1.length : Int) 5) : Int).toNat).length : Int) = 0 then (if t156 = true then (some (bt158.2 == 1)) else (some false)) else (if bt158.2 = 0 then (hourglasslaw08_WindowComes.j0 k (Go.bits .and .u64 a0 1099511627775) (l1.take ((mn (l1.length : Int) 5) : Int).toNat) (Go.bits .and .u64 a2 1099511627775) (Go.bits .and .u64 a3 1099511627775) l4 l5 t156 bt158.1 ((bt158.1.length : Int) != ((l1.take ((mn (l1.length : Int) 5) : Int).toNat).length : Int))) else (hourglasslaw08_WindowComes.j0 k (Go.bits .and .u64 a0 1099511627775) (l1.take ((mn (l1.length : Int) 5) : Int).toNat) (Go.bits .and .u64 a2 1099511627775) (Go.bits .and .u64 a3 1099511627775) l4 l5 t156 bt158.1 true)))) else (none)) else (none)) = some r := H
  have A7 := Aside0.mk A70
  clear A70
  obtain ⟨ji8, hji8⟩ : ∃ j_ : Int, (mn (l1.length : Int) 5) = j_ := ⟨_, rfl⟩
  replace H : (if 0 ≤ (ji8) then (if (ji8) ≤ (l1.length : Int) then ((window_Windows.f k (Go.bits .and .u64 a0 1099511627775) (l1.take ((ji8) : Int).toNat) (Go.bits .and .u64 a2 1099511627775) (Go.bits .and .u64 a3 1099511627775)).bind fun bt158 => (if ((l1.take ((ji8) : Int).toNat).length : Int) = 0 then (if t156 = true then (some (bt158.2 == 1)) else (some false)) else (if bt158.2 = 0 then (hourglasslaw08_WindowComes.j0 k (Go.bits .and .u64 a0 1099511627775) (l1.take ((ji8) : Int).toNat) (Go.bits .and .u64 a2 1099511627775) (Go.bits .and .u64 a3 1099511627775) l4 l5 t156 bt158.1 ((bt158.1.length : Int) != ((l1.take ((ji8) : Int).toNat).length : Int))) else (hourglasslaw08_WindowComes.j0 k (Go.bits .and .u64 a0 1099511627775) (l1.take ((ji8) : Int).toNat) (Go.bits .and .u64 a2 1099511627775) (Go.bits .and .u64 a3 1099511627775) l4 l5 t156 bt158.1 true)))) else (none)) else (none)) = some r := by first | (rw [hji8] at H; exact H) | (simp only [hji8] at H ⊢; exact H)
  (try rw [hji8] at A7)
  (try (have hji8h : ji8 ≤ 5 := by (rw [← hji8]; unfold mn; (repeat' split) <;> omega)))
  (try (have hji8g : ji8 ≤ 64 := by omega))
  (try (have hji8l : 0 ≤ ji8 := by (rw [← hji8]; unfold mn; (repeat' split) <;> omega)))
  (try (have hji8m : 0 ≤ ji8 := by omega))
  have hji8_ : (if 5 < (l1.length : Int) then 5 else (l1.length : Int)) = ji8 := hji8
  by_cases c9 : 0 ≤ (ji8)
  · rw [if_pos c9] at H
    have c9b0 := eq_true c9
    have c9b1 : decide (0 ≤ (ji8)) = true := decide_eq_true c9
    clear c9
    by_cases c10 : (ji8) ≤ (l1.length : Int)
    · rw [if_pos c10] at H
      have c10b0 := eq_true c10
      have c10b1 : decide ((ji8) ≤ (l1.length : Int)) = true := decide_eq_true c10
      obtain ⟨ds, hds⟩ : ∃ ds : List Int, l1.take ((ji8) : Int).toNat = ds := ⟨_, rfl⟩
      have hdlds : ji8 = (ds.length : Int) := by rw [← hds, List.length_take]; have q1 := of_eq_true c9b0; have q2 := of_eq_true c10b0; omega
      have Hds := Aside0.mk hds
      rw [hds] at H
      clear hds
      subst hdlds
      clear c10
      replace H := Option.bind_eq_some_iff.mp H
      obtain ⟨⟨t158, t159⟩, A110, H⟩ := H
      replace H : (if (ds.length : Int) = 0 then (if t156 = true then (some (t159 == 1)) else (some false)) else (if t159 = 0 then (hourglasslaw08_WindowComes.j0 k (Go.bits .and .u64 a0 1099511627775) ds (Go.bits .and .u64 a2 1099511627775) (Go.bits .and .u64 a3 1099511627775) l4 l5 t156 t158 ((t158.length : Int) != (ds.length : Int))) else (hourglasslaw08_WindowComes.j0 k (Go.bits .and .u64 a0 1099511627775) ds (Go.bits .and .u64 a2 1099511627775) (Go.bits .and .u64 a3 1099511627775) l4 l5 t156 t158 true))) = some r := H
      have A11 := Aside0.mk A110
      clear A110
      by_cases c12 : (ds.length : Int) = 0
      · rw [if_pos c12] at H
        have c12b0 : ((ds.length : Int) == 0) = true := beq_iff_eq.mpr c12
        have c12b1 : ((ds.length : Int) != 0) = false := bne_eq_false_iff_eq.mpr c12
        clear c12
        by_cases c13 : t156 = true
        · subst c13
          have H1 : (some (t159 == 1)) = some r := by rw [if_pos rfl] at H; exact H
          clear H
          have H := H1
          clear H1
          obtain rfl := Option.some.inj H
          go_enter Try.func4, Try.ntmps4
          go_wp2_with (first | ((with_reducible refine gate_callee (f := 9) rfl ?_); refine goesL_ (some 22) rfl rfl Try.func9 (by kernel_rfl) rfl #[] rfl (by (try simp only [List.map_toArray, List.map_cons, List.map_nil]); first | done | rfl | (simp only [List.length_drop, List.length_take]; rfl)) ?_; (with_reducible refine (hourglasslaw08_shown.calls k  true _ A7.out).mono ?_); rintro e w14 ⟨rfl, hb⟩; refine ⟨_, rfl, ?_⟩; have n0_ := Aside0.mk (below_step (by repeat (first | (with_reducible first | exact HB.out | apply below_alloc | apply pw_below_drewN | apply below_drew1) | exact HB.out)) hb); clear HB; have HB := n0_; clear n0_; (try clear hb); (try clear hb2); (try clear hk); (try clear hi); obtain ⟨i015, hi015, _, hsz15, _⟩ := info_parts info42; obtain ⟨hcut15, hA15, hC15⟩ := print_take_of (P := Try.prog) (Value.int .u32) 0 23 42 .i64 Try.underlying23 hi015 hsz15 A1 c1 l1 ((ds.length : Int)) (of_decide_eq_true (by first | (with_reducible assumption) | assumption)) (of_decide_eq_true (by first | (with_reducible assumption) | assumption)) HC1.out; rw [Hds.out] at hcut15 hA15 hC15; have HR157 := Aside0.mk (Kd.C_of_reads (h1 := fun _ => rfl) (hA15 _ (Kd.reads_of_C HR1.out))); have HC157 := Aside0.mk hC15; clear hA15 hC15 hi015 hsz15) | ((with_reducible refine gate_callee (f := 10) rfl ?_); refine goesL_ (some 39) rfl rfl Try.func10 (by kernel_rfl) rfl #[.int .u64 (Go.bits .and .u64 a0 1099511627775), .slice A1 ds.length c1, .int .u64 (Go.bits .and .u64 a2 1099511627775), .int .u64 (Go.bits .and .u64 a3 1099511627775)] rfl (by (try simp only [List.map_toArray, List.map_cons, List.map_nil]); first | done | (rw [show ds.length = ((ds.length : Int)).toNat from (by rw [List.length_take]; have h_ : (((ds.length : Int)) : Int) ≤ (l1.length : Int) := of_decide_eq_true (by first | (with_reducible assumption) | assumption); omega)] <;> rfl) | (simp only [hji8]; rfl) | rfl | (simp only [List.length_drop, List.length_take]; rfl)) ?_; (with_reducible refine (window_Windows.calls k (Go.bits .and .u64 a0 1099511627775) _ _ ds (Go.bits .and .u64 a2 1099511627775) (Go.bits .and .u64 a3 1099511627775) t158 t159 _ ?side1 ?side2 A11.out).mono ?_); (case side1 => repeat (first | exact (Kd.C_below HR157.out HB.out) | (with_reducible refine Kd.C_alloc ?_ _) | (with_reducible refine Kd.C_drewN ?_ _) | (with_reducible refine Kd.C_drew ?_))); (case side2 => exact HC157.out); rintro e w16 ⟨v160, rfl, ho0, hb⟩; refine ⟨_, rfl, ?_⟩; have n0_ := Aside0.mk (Kd.R_lower ho0 (below_size (by repeat (first | (with_reducible first | exact HB.out | apply below_alloc | apply pw_below_drewN | apply below_drew1) | exact HB.out)))); have n1_ := Aside0.mk (below_step (by repeat (first | (with_reducible first | exact HB.out | apply below_alloc | apply pw_below_drewN | apply below_drew1) | exact HB.out)) hb); clear HB; have HO161 := n0_; have HB := n1_; clear n0_ n1_; (try clear hb); (try clear hb2); (try clear hk); (try clear hi); (try clear ho0)))
          go_ret
          exact ⟨by first | rfl | (simp [errW_none, errW_some] <;> rfl) | (simp only [← hji8]; first | rfl | (simp [errW_none, errW_some] <;> rfl)) | (simp [*, errW_none, errW_some] <;> rfl), by repeat (first | (with_reducible first | exact HB.out | apply below_alloc | apply pw_below_drewN | apply below_drew1) | exact HB.out)⟩
        · replace c13 := Bool.eq_false_iff.mpr c13
          subst c13
          have H1 : (some false) = some r := by rw [if_neg (show ¬ (false = true) by decide)] at H; exact H
          clear H
          have H := H1
          clear H1
          obtain rfl := Option.some.inj H
          go_enter Try.func4, Try.ntmps4
          go_wp2_with (first | ((with_reducible refine gate_callee (f := 9) rfl ?_); refine goesL_ (some 22) rfl rfl Try.func9 (by kernel_rfl) rfl #[] rfl (by (try simp only [List.map_toArray, List.map_cons, List.map_nil]); first | done | rfl | (simp only [List.length_drop, List.length_take]; rfl)) ?_; (with_reducible refine (hourglasslaw08_shown.calls k  false _ A7.out).mono ?_); rintro e w17 ⟨rfl, hb⟩; refine ⟨_, rfl, ?_⟩; have n0_ := Aside0.mk (below_step (by repeat (first | (with_reducible first | exact HB.out | apply below_alloc | apply pw_below_drewN | apply below_drew1) | exact HB.out)) hb); clear HB; have HB := n0_; clear n0_; (try clear hb); (try clear hb2); (try clear hk); (try clear hi); obtain ⟨i018, hi018, _, hsz18, _⟩ := info_parts info42; obtain ⟨hcut18, hA18, hC18⟩ := print_take_of (P := Try.prog) (Value.int .u32) 0 23 42 .i64 Try.underlying23 hi018 hsz18 A1 c1 l1 ((ds.length : Int)) (of_decide_eq_true (by first | (with_reducible assumption) | assumption)) (of_decide_eq_true (by first | (with_reducible assumption) | assumption)) HC1.out; rw [Hds.out] at hcut18 hA18 hC18; have HR157 := Aside0.mk (Kd.C_of_reads (h1 := fun _ => rfl) (hA18 _ (Kd.reads_of_C HR1.out))); have HC157 := Aside0.mk hC18; clear hA18 hC18 hi018 hsz18) | ((with_reducible refine gate_callee (f := 10) rfl ?_); refine goesL_ (some 39) rfl rfl Try.func10 (by kernel_rfl) rfl #[.int .u64 (Go.bits .and .u64 a0 1099511627775), .slice A1 ds.length c1, .int .u64 (Go.bits .and .u64 a2 1099511627775), .int .u64 (Go.bits .and .u64 a3 1099511627775)] rfl (by (try simp only [List.map_toArray, List.map_cons, List.map_nil]); first | done | (rw [show ds.length = ((ds.length : Int)).toNat from (by rw [List.length_take]; have h_ : (((ds.length : Int)) : Int) ≤ (l1.length : Int) := of_decide_eq_true (by first | (with_reducible assumption) | assumption); omega)] <;> rfl) | (simp only [hji8]; rfl) | rfl | (simp only [List.length_drop, List.length_take]; rfl)) ?_; (with_reducible refine (window_Windows.calls k (Go.bits .and .u64 a0 1099511627775) _ _ ds (Go.bits .and .u64 a2 1099511627775) (Go.bits .and .u64 a3 1099511627775) t158 t159 _ ?side1 ?side2 A11.out).mono ?_); (case side1 => repeat (first | exact (Kd.C_below HR157.out HB.out) | (with_reducible refine Kd.C_alloc ?_ _) | (with_reducible refine Kd.C_drewN ?_ _) | (with_reducible refine Kd.C_drew ?_))); (case side2 => exact HC157.out); rintro e w19 ⟨v160, rfl, ho0, hb⟩; refine ⟨_, rfl, ?_⟩; have n0_ := Aside0.mk (Kd.R_lower ho0 (below_size (by repeat (first | (with_reducible first | exact HB.out | apply below_alloc | apply pw_below_drewN | apply below_drew1) | exact HB.out)))); have n1_ := Aside0.mk (below_step (by repeat (first | (with_reducible first | exact HB.out | apply below_alloc | apply pw_below_drewN | apply below_drew1) | exact HB.out)) hb); clear HB; have HO161 := n0_; have HB := n1_; clear n0_ n1_; (try clear hb); (try clear hb2); (try clear hk); (try clear hi); (try clear ho0)))
          go_ret
          exact ⟨by first | rfl | (simp [errW_none, errW_some] <;> rfl) | (simp only [← hji8]; first | rfl | (simp [errW_none, errW_some] <;> rfl)) | (simp [*, errW_none, errW_some] <;> rfl), by repeat (first | (with_reducible first | exact HB.out | apply below_alloc | apply pw_below_drewN | apply below_drew1) | exact HB.out)⟩
      · rw [if_neg c12] at H
        have c12b0 : ((ds.length : Int) == 0) = false := beq_eq_false_iff_ne.mpr c12
        have c12b1 : ((ds.length : Int) != 0) = true := bne_iff_ne.mpr c12
        have c12b2 : ¬ (ds = []) := fun h_ => c12 (by rw [h_]; rfl)
        have HC20 := Aside0.mk H
        clear H
        go_enter Try.func4, Try.ntmps4
        go_upto_region 9 with (first | ((with_reducible refine gate_callee (f := 9) rfl ?_); refine goesL_ (some 22) rfl rfl Try.func9 (by kernel_rfl) rfl #[] rfl (by (try simp only [List.map_toArray, List.map_cons, List.map_nil]); first | done | rfl | (simp only [List.length_drop, List.length_take]; rfl)) ?_; (with_reducible refine (hourglasslaw08_shown.calls k  t156 _ A7.out).mono ?_); rintro e w21 ⟨rfl, hb⟩; refine ⟨_, rfl, ?_⟩; have n0_ := Aside0.mk (below_step (by repeat (first | (with_reducible first | exact HB.out | apply below_alloc | apply pw_below_drewN | apply below_drew1) | exact HB.out)) hb); clear HB; have HB := n0_; clear n0_; (try clear hb); (try clear hb2); (try clear hk); (try clear hi); obtain ⟨i022, hi022, _, hsz22, _⟩ := info_parts info42; obtain ⟨hcut22, hA22, hC22⟩ := print_take_of (P := Try.prog) (Value.int .u32) 0 23 42 .i64 Try.underlying23 hi022 hsz22 A1 c1 l1 ((ds.length : Int)) (of_decide_eq_true (by first | (with_reducible assumption) | assumption)) (of_decide_eq_true (by first | (with_reducible assumption) | assumption)) HC1.out; rw [Hds.out] at hcut22 hA22 hC22; have HR157 := Aside0.mk (Kd.C_of_reads (h1 := fun _ => rfl) (hA22 _ (Kd.reads_of_C HR1.out))); have HC157 := Aside0.mk hC22; clear hA22 hC22 hi022 hsz22) | ((with_reducible refine gate_callee (f := 10) rfl ?_); refine goesL_ (some 39) rfl rfl Try.func10 (by kernel_rfl) rfl #[.int .u64 (Go.bits .and .u64 a0 1099511627775), .slice A1 ds.length c1, .int .u64 (Go.bits .and .u64 a2 1099511627775), .int .u64 (Go.bits .and .u64 a3 1099511627775)] rfl (by (try simp only [List.map_toArray, List.map_cons, List.map_nil]); first | done | (rw [show ds.length = ((ds.length : Int)).toNat from (by rw [List.length_take]; have h_ : (((ds.length : Int)) : Int) ≤ (l1.length : Int) := of_decide_eq_true (by first | (with_reducible assumption) | assumption); omega)] <;> rfl) | (simp only [hji8]; rfl) | rfl | (simp only [List.length_drop, List.length_take]; rfl)) ?_; (with_reducible refine (window_Windows.calls k (Go.bits .and .u64 a0 1099511627775) _ _ ds (Go.bits .and .u64 a2 1099511627775) (Go.bits .and .u64 a3 1099511627775) t158 t159 _ ?side1 ?side2 A11.out).mono ?_); (case side1 => repeat (first | exact (Kd.C_below HR157.out HB.out) | (with_reducible refine Kd.C_alloc ?_ _) | (with_reducible refine Kd.C_drewN ?_ _) | (with_reducible refine Kd.C_drew ?_))); (case side2 => exact HC157.out); rintro e w23 ⟨v160, rfl, ho0, hb⟩; refine ⟨_, rfl, ?_⟩; have n0_ := Aside0.mk (Kd.R_lower ho0 (below_size (by repeat (first | (with_reducible first | exact HB.out | apply below_alloc | apply pw_below_drewN | apply below_drew1) | exact HB.out)))); have n1_ := Aside0.mk (below_step (by repeat (first | (with_reducible first | exact HB.out | apply below_alloc | apply pw_below_drewN | apply below_drew1) | exact HB.out)) hb); clear HB; have HO161 := n0_; have HB := n1_; clear n0_ n1_; (try clear hb); (try clear hb2); (try clear hk); (try clear hi); (try clear ho0)))
        (try simp only [Act.put, List.setIfInBounds_toArray, List.set_cons_zero, List.set_cons_succ])
        go_cut [58] (fun v58 wc => ∃ (kq : Nat) (x58_19 : Bool), v58 = .bool x58_19 ∧ Aside0 (hourglasslaw08_WindowComes.j0 kq (Go.bits .and .u64 a0 1099511627775) ds (Go.bits .and .u64 a2 1099511627775) (Go.bits .and .u64 a3 1099511627775) l4 l5 t156 t158 x58_19 = some r) ∧ Aside0 (kq ≤ k) ∧ Aside0 (Kd.R k35 35 wc w.heap.size (fun _ => True) v160 t158) ∧ Aside0 (Below w.heap.size w wc))
        case first =>
          have H := HC20.out
          clear HC20
          by_cases c24 : t159 = 0
          · rw [if_pos c24] at H
            have c24b0 : (t159 == 0) = true := beq_iff_eq.mpr c24
            have c24b1 : (t159 != 0) = false := bne_eq_false_iff_eq.mpr c24
            clear c24
            (first | rw [c24b0] | (simp only [i64_w, i32_w]; rw [c24b0]) | skip)
            have H' := Aside0.mk H
            clear H
            obtain ⟨Ao25, co25, eo25⟩ := Kd.R_slice HO161.out
            subst eo25
            go_wp2
            go_meet
            case rel => exact ⟨_, (((t158.length : Int) != (ds.length : Int))), (by first | rfl | (simp; done) | (simp only [← hji8] <;> (first | rfl | simp)) | (simp [*]; done)), H', ⟨by first | omega | exact Nat.le_refl _⟩, ⟨by (with_reducible repeat (first | apply Kd.R_alloc | apply Kd.R_drewN | apply Kd.R_drew)); exact HO161.out⟩, ⟨by repeat (first | (with_reducible first | exact HB.out | apply below_alloc | apply pw_below_drewN | apply below_drew1) | exact HB.out)⟩⟩
          · rw [if_neg c24] at H
            have c24b0 : (t159 == 0) = false := beq_eq_false_iff_ne.mpr c24
            have c24b1 : (t159 != 0) = true := bne_iff_ne.mpr c24
            (first | rw [c24b0] | (simp only [i64_w, i32_w]; rw [c24b0]) | skip)
            have H' := Aside0.mk H
            clear H
            go_wp2
            go_meet
            case rel => exact ⟨_, (true), (by first | rfl | (simp; done) | (simp [*]; done)), H', ⟨by first | omega | exact Nat.le_refl _⟩, ⟨by (with_reducible repeat (first | apply Kd.R_alloc | apply Kd.R_drewN | apply Kd.R_drew)); exact HO161.out⟩, ⟨by repeat (first | (with_reducible first | exact HB.out | apply below_alloc | apply pw_below_drewN | apply below_drew1) | exact HB.out)⟩⟩
        case rest =>
          clear HC20
          try clear c1
          try clear c2
          try clear p2
          try clear c4
          try clear c5
          try clear c9
          try clear c9b0
          try clear c9b1
          try clear c10
          try clear c10b0
          try clear c10b1
          try clear c12
          try clear c12b0
          try clear c12b1
          try clear c12b2
          try clear c13
          try clear c24
          try clear c24b0
          try clear c24b1
          obtain ⟨kq, x58_19, rfl, HA, HJ19, HO_14, HB⟩ := hcut
          cases kq with
          | zero => exact absurd HA.out (by simp [hourglasslaw08_WindowComes.j0])
          | succ kj19 =>
            have H := HA.out
            clear HA
            simp only [hourglasslaw08_WindowComes.j0] at H
            by_cases c26 : x58_19 = true
            · subst c26
              have H1 : (some false) = some r := by rw [if_pos rfl] at H; exact H
              clear H
              have H := H1
              clear H1
              obtain rfl := Option.some.inj H
              go_wp2
              go_ret
              exact ⟨by first | rfl | (simp [errW_none, errW_some] <;> rfl) | (simp only [← hji8]; first | rfl | (simp [errW_none, errW_some] <;> rfl)) | (simp [*, errW_none, errW_some] <;> rfl), by repeat (first | (with_reducible first | exact HB.out | apply below_alloc | apply pw_below_drewN | apply below_drew1) | exact HB.out)⟩
            · replace c26 := Bool.eq_false_iff.mpr c26
              subst c26
              have H1 : (hourglasslaw08_WindowComes.l0 kj19 (Go.bits .and .u64 a0 1099511627775) ds (Go.bits .and .u64 a2 1099511627775) (Go.bits .and .u64 a3 1099511627775) l4 l5 t156 t158 (Go.bits .and .u64 a0 1099511627775) 0) = some r := by rw [if_neg (show ¬ (false = true) by decide)] at H; exact H
              clear H
              have H := H1
              clear H1
              have H' := Aside0.mk H
              clear H
              go_wp2
              go_loopg [16, 17] kj19 (fun kq v16 v17 w' => ∃ (x16_2 : Int) (x17_2 : Int), v16 = .int .u64 x16_2 ∧ v17 = .int .i64 x17_2 ∧ Aside0 (hourglasslaw08_WindowComes.l0 kq (Go.bits .and .u64 a0 1099511627775) ds (Go.bits .and .u64 a2 1099511627775) (Go.bits .and .u64 a3 1099511627775) l4 l5 t156 t158 x16_2 x17_2 = some r) ∧ Aside0 (kq ≤ kj19) ∧ Aside0 (Kd.R k35 35 w' w.heap.size (fun _ => True) v160 t158) ∧ Aside0 (Below w.heap.size w w'))
              case atStart => exact ⟨((Go.bits .and .u64 a0 1099511627775)), (0), (by first | rfl | (simp; done) | (simp [*]; done)), (by first | rfl | (simp; done) | (simp [*]; done)), H', ⟨Nat.le_refl _⟩, ⟨by (with_reducible repeat (first | apply Kd.R_alloc | apply Kd.R_drewN | apply Kd.R_drew)); exact HO_14.out⟩, ⟨by repeat (first | (with_reducible first | exact HB.out | apply below_alloc | apply pw_below_drewN | apply below_drew1) | exact HB.out)⟩⟩
              case round =>
                clear H'
                try clear c1
                try clear c2
                try clear p2
                try clear c4
                try clear c5
                try clear c9
                try clear c9b0
                try clear c9b1
                try clear c10
                try clear c10b0
                try clear c10b1
                try clear c12
                try clear c12b0
                try clear c12b1
                try clear c12b2
                try clear c13
                try clear c24
                try clear c24b0
                try clear c24b1
                try clear c26
                try clear p2
                obtain ⟨x16_2, x17_2, rfl, rfl, HA, HK2, HO_14, HB⟩ := hrel
                cases gk with
                | zero => exact absurd HA.out (by simp [hourglasslaw08_WindowComes.l0])
                | succ k2 =>
                  have H := HA.out
                  clear HA
                  simp only [hourglasslaw08_WindowComes.l0] at H
                  by_cases c27 : x17_2 < (ds.length : Int)
                  · rw [if_pos c27] at H
                    have c27b0 : decide (x17_2 < (ds.length : Int)) = true := decide_eq_true c27
                    clear c27
                    have HC28 := Aside0.mk H
                    clear H
                    go_upto_if 69 with (fail)
                    go_cut [16] (fun v16 wc => ∃ (kq : Nat) (x16_27 : Int), v16 = .int .u64 x16_27 ∧ Aside0 (hourglasslaw08_WindowComes.j2 kq (Go.bits .and .u64 a0 1099511627775) ds (Go.bits .and .u64 a2 1099511627775) (Go.bits .and .u64 a3 1099511627775) l4 l5 t156 t158 x16_27 x17_2 = some r) ∧ Aside0 (kq ≤ k2) ∧ Aside0 (Kd.R k35 35 wc w.heap.size (fun _ => True) v160 t158) ∧ Aside0 (Below w.heap.size w wc))
                    case first =>
                      have H := HC28.out
                      clear HC28
                      by_cases c29 : x17_2 < (l4.length : Int)
                      · rw [if_pos c29] at H
                        have c29b0 : decide (x17_2 < (l4.length : Int)) = true := decide_eq_true c29
                        clear c29
                        (first | rw [c29b0] | (simp only [i64_w, i32_w]; rw [c29b0]) | skip)
                        by_cases c30 : 0 ≤ x17_2
                        · rw [if_pos c30] at H
                          have c30b0 : decide (0 ≤ x17_2) = true := decide_eq_true c30
                          clear c30
                          by_cases c31 : (IntKind.u64.wrap ((Go.bits .and .u64 a2 1099511627775) + 1)) = 0
                          · rw [if_pos c31] at H
                            exact absurd H (by simp)
                          · rw [if_neg c31] at H
                            have c31b0 : ((IntKind.u64.wrap ((Go.bits .and .u64 a2 1099511627775) + 1)) == 0) = false := beq_eq_false_iff_ne.mpr c31
                            have c31b1 : ((IntKind.u64.wrap ((Go.bits .and .u64 a2 1099511627775) + 1)) != 0) = true := bne_iff_ne.mpr c31
                            have H' := Aside0.mk H
                            clear H
                            have p164 : 0 ≤ (x17_2 : Int) := of_decide_eq_true (by first | (with_reducible assumption) | assumption)
                            have q164 : x17_2 < (l4.length : Int) := of_decide_eq_true (by first | (with_reducible assumption) | assumption)
                            obtain ⟨ad164, e164, hx164_0⟩ := Kd.at_int HR4.out x17_2 p164 q164
                            cases e164
                            replace hx164_0 := (HB.out.cell (World.block_lt_of_cell? w _ hx164_0)).trans hx164_0
                            replace p164 := eq_true p164
                            replace q164 := eq_true q164
                            go_wp2
                            go_meet
                            case rel => exact ⟨_, (IntKind.u64.wrap (x16_2 + (Int.tmod (rd l4 x17_2) (IntKind.u64.wrap ((Go.bits .and .u64 a2 1099511627775) + 1))))), (by first | rfl | (simp; done) | (simp [*]; done)), H', ⟨by have := HJ19.out; have := HK2.out; first | omega | exact Nat.le_refl _⟩, ⟨by (with_reducible repeat (first | apply Kd.R_alloc | apply Kd.R_drewN | apply Kd.R_drew)); exact HO_14.out⟩, ⟨by repeat (first | (with_reducible first | exact HB.out | apply below_alloc | apply pw_below_drewN | apply below_drew1) | exact HB.out)⟩⟩
                        · rw [if_neg c30] at H
                          exact absurd H (by simp)
                      · rw [if_neg c29] at H
                        have c29b0 : decide (x17_2 < (l4.length : Int)) = false := decide_eq_false c29
                        clear c29
                        (first | rw [c29b0] | (simp only [i64_w, i32_w]; rw [c29b0]) | skip)
                        have H' := Aside0.mk H
                        clear H
                        go_wp2
                        go_meet
                        case rel => exact ⟨_, (x16_2), (by first | rfl | (simp; done) | (simp [*]; done)), H', ⟨by have := HJ19.out; have := HK2.out; first | omega | exact Nat.le_refl _⟩, ⟨by (with_reducible repeat (first | apply Kd.R_alloc | apply Kd.R_drewN | apply Kd.R_drew)); exact HO_14.out⟩, ⟨by repeat (first | (with_reducible first | exact HB.out | apply below_alloc | apply pw_below_drewN | apply below_drew1) | exact HB.out)⟩⟩
                    case rest =>
                      clear HC28
                      try clear c1
                      try clear p1
                      try clear q1
                      try clear hx1
                      try clear c2
                      try clear p2
                      try clear c3
                      try clear c4
                      try clear c5
                      try clear c9
                      try clear c9b0
                      try clear c9b1
                      try clear c10
                      try clear c10b0
                      try clear c10b1
                      try clear c12
                      try clear c12b0
                      try clear c12b1
                      try clear c12b2
                      try clear c13
                      try clear p16
                      try clear q16
                      try clear hx16
                      try clear c24
                      try clear c24b0
                      try clear c24b1
                      try clear c26
                      try clear c27
                      try clear c27b0
                      try clear c29
                      try clear c29b0
                      try clear c30
                      try clear c30b0
                      try clear c31
                      try clear c31b0
                      try clear c31b1
                      try clear hx164_0
                      try clear p164
                      try clear p2
                      try clear q164
                      obtain ⟨kq, x16_27, rfl, HA, HJ27, HO_14, HB⟩ := hcut
                      cases kq with
                      | zero => exact absurd HA.out (by simp [hourglasslaw08_WindowComes.j2])
                      | succ kj27 =>
                        have H := HA.out
                        clear HA
                        simp only [hourglasslaw08_WindowComes.j2] at H
                        by_cases c32 : x17_2 < (l5.length : Int)
                        · rw [if_pos c32] at H
                          have c32b0 : decide (x17_2 < (l5.length : Int)) = true := decide_eq_true c32
                          clear c32
                          by_cases c33 : 0 ≤ x17_2
                          · rw [if_pos c33] at H
                            have c33b0 : decide (0 ≤ x17_2) = true := decide_eq_true c33
                            clear c33
                            by_cases c34 : (IntKind.u64.wrap ((Go.bits .and .u64 a3 1099511627775) + 1)) = 0
                            · rw [if_pos c34] at H
                              exact absurd H (by simp)
                            · rw [if_neg c34] at H
                              have c34b0 : ((IntKind.u64.wrap ((Go.bits .and .u64 a3 1099511627775) + 1)) == 0) = false := beq_eq_false_iff_ne.mpr c34
                              have c34b1 : ((IntKind.u64.wrap ((Go.bits .and .u64 a3 1099511627775) + 1)) != 0) = true := bne_iff_ne.mpr c34
                              by_cases c35 : (rd l5 x17_2) < 0
                              · rw [if_pos c35] at H
                                have c35b0 : decide ((rd l5 x17_2) < 0) = true := decide_eq_true c35
                                clear c35
                                obtain ⟨ji36, hji36⟩ : ∃ j_ : Int, (mn (Int.tmod (IntKind.u64.wrap (Go.bits .and .i64 (rd l5 x17_2) 4611686018427387903)) (IntKind.u64.wrap ((Go.bits .and .u64 a3 1099511627775) + 1))) x16_27) = j_ := ⟨_, rfl⟩
                                replace H : (if x17_2 < (t158.length : Int) then ((window_Window_Has.f ((rd_T35 t158 x17_2).f0) ((rd_T35 t158 x17_2).f1) (IntKind.u64.wrap (x16_27 - (ji36)))).bind fun t168 => (if t168 = 0 then (if x17_2 < (ds.length : Int) then (hourglasslaw08_WindowComes.l0 kj27 (Go.bits .and .u64 a0 1099511627775) ds (Go.bits .and .u64 a2 1099511627775) (Go.bits .and .u64 a3 1099511627775) l4 l5 t156 t158 (IntKind.u64.wrap (x16_27 + (IntKind.u64.wrap (rd ds x17_2)))) (wrap64 (x17_2 + 1))) else (none)) else (some false))) else (none)) = some r := by first | (rw [hji36] at H; exact H) | (simp only [hji36] at H ⊢; exact H)
                                have hji36_ : (if x16_27 < (Int.tmod (IntKind.u64.wrap (Go.bits .and .i64 (rd l5 x17_2) 4611686018427387903)) (IntKind.u64.wrap ((Go.bits .and .u64 a3 1099511627775) + 1))) then x16_27 else (Int.tmod (IntKind.u64.wrap (Go.bits .and .i64 (rd l5 x17_2) 4611686018427387903)) (IntKind.u64.wrap ((Go.bits .and .u64 a3 1099511627775) + 1)))) = ji36 := hji36
                                by_cases c37 : x17_2 < (t158.length : Int)
                                · rw [if_pos c37] at H
                                  have c37b0 : decide (x17_2 < (t158.length : Int)) = true := decide_eq_true c37
                                  clear c37
                                  replace H := Option.bind_eq_some_iff.mp H
                                  obtain ⟨t168, A380, H⟩ := H
                                  replace H : (if t168 = 0 then (if x17_2 < (ds.length : Int) then (hourglasslaw08_WindowComes.l0 kj27 (Go.bits .and .u64 a0 1099511627775) ds (Go.bits .and .u64 a2 1099511627775) (Go.bits .and .u64 a3 1099511627775) l4 l5 t156 t158 (IntKind.u64.wrap (x16_27 + (IntKind.u64.wrap (rd ds x17_2)))) (wrap64 (x17_2 + 1))) else (none)) else (some false)) = some r := H
                                  have A38 := Aside0.mk A380
                                  clear A380
                                  by_cases c39 : t168 = 0
                                  · rw [if_pos c39] at H
                                    have c39b0 : (t168 == 0) = true := beq_iff_eq.mpr c39
                                    have c39b1 : (t168 != 0) = false := bne_eq_false_iff_eq.mpr c39
                                    clear c39
                                    by_cases c40 : x17_2 < (ds.length : Int)
                                    · rw [if_pos c40] at H
                                      have c40b0 : decide (x17_2 < (ds.length : Int)) = true := decide_eq_true c40
                                      clear c40
                                      have H' := Aside0.mk H
                                      clear H
                                      have p165 : 0 ≤ (x17_2 : Int) := of_decide_eq_true (by first | (with_reducible assumption) | assumption)
                                      have q165 : x17_2 < (l5.length : Int) := of_decide_eq_true (by first | (with_reducible assumption) | assumption)
                                      obtain ⟨ad165, e165, hx165_0⟩ := Kd.at_int HR5.out x17_2 p165 q165
                                      cases e165
                                      replace hx165_0 := (HB.out.cell (World.block_lt_of_cell? w _ hx165_0)).trans hx165_0
                                      replace p165 := eq_true p165
                                      replace q165 := eq_true q165
                                      have p166 : 0 ≤ (x17_2 : Int) := of_decide_eq_true (by first | (with_reducible assumption) | assumption)
                                      have q166 : x17_2 < (l5.length : Int) := of_decide_eq_true (by first | (with_reducible assumption) | assumption)
                                      obtain ⟨ad166, e166, hx166_0⟩ := Kd.at_int HR5.out x17_2 p166 q166
                                      obtain rfl : ad165 = ad166 := (by injection e166)
                                      replace hx166_0 := (HB.out.cell (World.block_lt_of_cell? w _ hx166_0)).trans hx166_0
                                      replace p166 := eq_true p166
                                      replace q166 := eq_true q166
                                      obtain ⟨Ao41, co41, eo41⟩ := Kd.R_slice HO_14.out
                                      subst eo41
                                      have p167 : 0 ≤ (x17_2 : Int) := of_decide_eq_true (by first | (with_reducible assumption) | assumption)
                                      have q167 : x17_2 < (t158.length : Int) := of_decide_eq_true (by first | (with_reducible assumption) | assumption)
                                      obtain ⟨ad167, e167, hx167_0, hx167_1⟩ := at_T35 (Kd.R_reads' HO_14.out).2.2 x17_2 p167 q167
                                      cases e167
                                      replace p167 := eq_true p167
                                      replace q167 := eq_true q167
                                      go_wp2_with (first | ((with_reducible refine gate_callee (f := 14) rfl ?_); refine goesL_ (some 111) rfl rfl Try.func14 (by kernel_rfl) rfl #[.agg #[.int .u64 ((rd_T35 t158 x17_2).f0), .int .u64 ((rd_T35 t158 x17_2).f1)], .int .u64 (IntKind.u64.wrap (x16_27 - (ji36)))] rfl (by (try simp only [List.map_toArray, List.map_cons, List.map_nil]); first | done | (simp only [hji36]; rfl) | rfl | (simp only [List.length_drop, List.length_take]; rfl)) ?_; (with_reducible refine (window_Window_Has.calls ((rd_T35 t158 x17_2).f0) ((rd_T35 t158 x17_2).f1) (IntKind.u64.wrap (x16_27 - (ji36))) t168 _ A38.out).mono ?_); rintro e w42 ⟨rfl, hb⟩; refine ⟨_, rfl, ?_⟩; have n0_ := Aside0.mk (Kd.R_below (by (with_reducible repeat (first | apply Kd.R_alloc | apply Kd.R_drewN | apply Kd.R_drew)); exact HO_14.out) hb); have n1_ := Aside0.mk (below_step (by repeat (first | (with_reducible first | exact HB.out | apply below_alloc | apply pw_below_drewN | apply below_drew1) | exact HB.out)) hb); clear HO_14; clear HB; have HO_14 := n0_; have HB := n1_; clear n0_ n1_; (try clear hb); (try clear hb2); (try clear hk); (try clear hi); have p169 : 0 ≤ (x17_2 : Int) := of_decide_eq_true (by first | (with_reducible assumption) | assumption); have q169 : x17_2 < (ds.length : Int) := of_decide_eq_true (by first | (with_reducible assumption) | assumption); obtain ⟨ad169, e169, hx169_0⟩ := Kd.at_int HR157.out x17_2 p169 q169; cases e169; replace hx169_0 := (HB.out.cell (World.block_lt_of_cell? w _ hx169_0)).trans hx169_0; replace p169 := eq_true p169; replace q169 := eq_true q169))
                                      go_roundg kj27
                                      case measure => have := HJ19.out; have := HK2.out; have := HJ27.out; omega
                                      case rel => exact ⟨(IntKind.u64.wrap (x16_27 + (IntKind.u64.wrap (rd ds x17_2)))), (wrap64 (x17_2 + 1)), (by first | rfl | (simp; done) | (simp only [← hji8] <;> (first | rfl | simp)) | (simp [*]; done)), (by first | rfl | (simp; done) | (simp [*]; done)), H', ⟨by have := HJ19.out; have := HK2.out; have := HJ27.out; omega⟩, ⟨by (with_reducible repeat (first | apply Kd.R_alloc | apply Kd.R_drewN | apply Kd.R_drew)); exact HO_14.out⟩, ⟨by repeat (first | (with_reducible first | exact HB.out | apply below_alloc | apply pw_below_drewN | apply below_drew1) | exact HB.out)⟩⟩
                                    · rw [if_neg c40] at H
                                      exact absurd H (by simp)
                                  · rw [if_neg c39] at H
                                    have c39b0 : (t168 == 0) = false := beq_eq_false_iff_ne.mpr c39
                                    have c39b1 : (t168 != 0) = true := bne_iff_ne.mpr c39
                                    obtain rfl := Option.some.inj H
                                    have p165 : 0 ≤ (x17_2 : Int) := of_decide_eq_true (by first | (with_reducible assumption) | assumption)
                                    have q165 : x17_2 < (l5.length : Int) := of_decide_eq_true (by first | (with_reducible assumption) | assumption)
                                    obtain ⟨ad165, e165, hx165_0⟩ := Kd.at_int HR5.out x17_2 p165 q165
                                    cases e165
                                    replace hx165_0 := (HB.out.cell (World.block_lt_of_cell? w _ hx165_0)).trans hx165_0
                                    replace p165 := eq_true p165
                                    replace q165 := eq_true q165
                                    have p166 : 0 ≤ (x17_2 : Int) := of_decide_eq_true (by first | (with_reducible assumption) | assumption)
                                    have q166 : x17_2 < (l5.length : Int) := of_decide_eq_true (by first | (with_reducible assumption) | assumption)
                                    obtain ⟨ad166, e166, hx166_0⟩ := Kd.at_int HR5.out x17_2 p166 q166
                                    obtain rfl : ad165 = ad166 := (by injection e166)
                                    replace hx166_0 := (HB.out.cell (World.block_lt_of_cell? w _ hx166_0)).trans hx166_0
                                    replace p166 := eq_true p166
                                    replace q166 := eq_true q166
                                    obtain ⟨Ao43, co43, eo43⟩ := Kd.R_slice HO_14.out
                                    subst eo43
                                    have p167 : 0 ≤ (x17_2 : Int) := of_decide_eq_true (by first | (with_reducible assumption) | assumption)
                                    have q167 : x17_2 < (t158.length : Int) := of_decide_eq_true (by first | (with_reducible assumption) | assumption)
                                    obtain ⟨ad167, e167, hx167_0, hx167_1⟩ := at_T35 (Kd.R_reads' HO_14.out).2.2 x17_2 p167 q167
                                    cases e167
                                    replace p167 := eq_true p167
                                    replace q167 := eq_true q167
                                    go_wp2_with (first | ((with_reducible refine gate_callee (f := 14) rfl ?_); refine goesL_ (some 111) rfl rfl Try.func14 (by kernel_rfl) rfl #[.agg #[.int .u64 ((rd_T35 t158 x17_2).f0), .int .u64 ((rd_T35 t158 x17_2).f1)], .int .u64 (IntKind.u64.wrap (x16_27 - (ji36)))] rfl (by (try simp only [List.map_toArray, List.map_cons, List.map_nil]); first | done | (simp only [hji36]; rfl) | rfl | (simp only [List.length_drop, List.length_take]; rfl)) ?_; (with_reducible refine (window_Window_Has.calls ((rd_T35 t158 x17_2).f0) ((rd_T35 t158 x17_2).f1) (IntKind.u64.wrap (x16_27 - (ji36))) t168 _ A38.out).mono ?_); rintro e w44 ⟨rfl, hb⟩; refine ⟨_, rfl, ?_⟩; have n0_ := Aside0.mk (Kd.R_below (by (with_reducible repeat (first | apply Kd.R_alloc | apply Kd.R_drewN | apply Kd.R_drew)); exact HO_14.out) hb); have n1_ := Aside0.mk (below_step (by repeat (first | (with_reducible first | exact HB.out | apply below_alloc | apply pw_below_drewN | apply below_drew1) | exact HB.out)) hb); clear HO_14; clear HB; have HO_14 := n0_; have HB := n1_; clear n0_ n1_; (try clear hb); (try clear hb2); (try clear hk); (try clear hi)))
                                    go_ret
                                    exact ⟨by first | rfl | (simp [errW_none, errW_some] <;> rfl) | (simp only [← hji8, ← hji36]; first | rfl | (simp [errW_none, errW_some] <;> rfl)) | (simp [*, errW_none, errW_some] <;> rfl), by repeat (first | (with_reducible first | exact HB.out | apply below_alloc | apply pw_below_drewN | apply below_drew1) | exact HB.out)⟩
                                · rw [if_neg c37] at H
                                  exact absurd H (by simp)
                              · rw [if_neg c35] at H
                                have c35b0 : decide ((rd l5 x17_2) < 0) = false := decide_eq_false c35
                                clear c35
                                by_cases c45 : x17_2 < (t158.length : Int)
                                · rw [if_pos c45] at H
                                  have c45b0 : decide (x17_2 < (t158.length : Int)) = true := decide_eq_true c45
                                  clear c45
                                  replace H := Option.bind_eq_some_iff.mp H
                                  obtain ⟨t171, A460, H⟩ := H
                                  replace H : (if t171 = 0 then (if x17_2 < (ds.length : Int) then (hourglasslaw08_WindowComes.l0 kj27 (Go.bits .and .u64 a0 1099511627775) ds (Go.bits .and .u64 a2 1099511627775) (Go.bits .and .u64 a3 1099511627775) l4 l5 t156 t158 (IntKind.u64.wrap (x16_27 + (IntKind.u64.wrap (rd ds x17_2)))) (wrap64 (x17_2 + 1))) else (none)) else (some false)) = some r := H
                                  have A46 := Aside0.mk A460
                                  clear A460
                                  by_cases c47 : t171 = 0
                                  · rw [if_pos c47] at H
                                    have c47b0 : (t171 == 0) = true := beq_iff_eq.mpr c47
                                    have c47b1 : (t171 != 0) = false := bne_eq_false_iff_eq.mpr c47
                                    clear c47
                                    by_cases c48 : x17_2 < (ds.length : Int)
                                    · rw [if_pos c48] at H
                                      have c48b0 : decide (x17_2 < (ds.length : Int)) = true := decide_eq_true c48
                                      clear c48
                                      have H' := Aside0.mk H
                                      clear H
                                      have p165 : 0 ≤ (x17_2 : Int) := of_decide_eq_true (by first | (with_reducible assumption) | assumption)
                                      have q165 : x17_2 < (l5.length : Int) := of_decide_eq_true (by first | (with_reducible assumption) | assumption)
                                      obtain ⟨ad165, e165, hx165_0⟩ := Kd.at_int HR5.out x17_2 p165 q165
                                      cases e165
                                      replace hx165_0 := (HB.out.cell (World.block_lt_of_cell? w _ hx165_0)).trans hx165_0
                                      replace p165 := eq_true p165
                                      replace q165 := eq_true q165
                                      have p166 : 0 ≤ (x17_2 : Int) := of_decide_eq_true (by first | (with_reducible assumption) | assumption)
                                      have q166 : x17_2 < (l5.length : Int) := of_decide_eq_true (by first | (with_reducible assumption) | assumption)
                                      obtain ⟨ad166, e166, hx166_0⟩ := Kd.at_int HR5.out x17_2 p166 q166
                                      obtain rfl : ad165 = ad166 := (by injection e166)
                                      replace hx166_0 := (HB.out.cell (World.block_lt_of_cell? w _ hx166_0)).trans hx166_0
                                      replace p166 := eq_true p166
                                      replace q166 := eq_true q166
                                      obtain ⟨Ao49, co49, eo49⟩ := Kd.R_slice HO_14.out
                                      subst eo49
                                      have p170 : 0 ≤ (x17_2 : Int) := of_decide_eq_true (by first | (with_reducible assumption) | assumption)
                                      have q170 : x17_2 < (t158.length : Int) := of_decide_eq_true (by first | (with_reducible assumption) | assumption)
                                      obtain ⟨ad170, e170, hx170_0, hx170_1⟩ := at_T35 (Kd.R_reads' HO_14.out).2.2 x17_2 p170 q170
                                      cases e170
                                      replace p170 := eq_true p170
                                      replace q170 := eq_true q170
                                      go_wp2_with (first | ((with_reducible refine gate_callee (f := 14) rfl ?_); refine goesL_ (some 111) rfl rfl Try.func14 (by kernel_rfl) rfl #[.agg #[.int .u64 ((rd_T35 t158 x17_2).f0), .int .u64 ((rd_T35 t158 x17_2).f1)], .int .u64 (IntKind.u64.wrap (x16_27 + (Int.tmod (IntKind.u64.wrap (Go.bits .and .i64 (rd l5 x17_2) 4611686018427387903)) (IntKind.u64.wrap ((Go.bits .and .u64 a3 1099511627775) + 1)))))] rfl (by (try simp only [List.map_toArray, List.map_cons, List.map_nil]); first | done | rfl | (simp only [List.length_drop, List.length_take]; rfl)) ?_; (with_reducible refine (window_Window_Has.calls ((rd_T35 t158 x17_2).f0) ((rd_T35 t158 x17_2).f1) (IntKind.u64.wrap (x16_27 + (Int.tmod (IntKind.u64.wrap (Go.bits .and .i64 (rd l5 x17_2) 4611686018427387903)) (IntKind.u64.wrap ((Go.bits .and .u64 a3 1099511627775) + 1))))) t171 _ A46.out).mono ?_); rintro e w50 ⟨rfl, hb⟩; refine ⟨_, rfl, ?_⟩; have n0_ := Aside0.mk (Kd.R_below (by (with_reducible repeat (first | apply Kd.R_alloc | apply Kd.R_drewN | apply Kd.R_drew)); exact HO_14.out) hb); have n1_ := Aside0.mk (below_step (by repeat (first | (with_reducible first | exact HB.out | apply below_alloc | apply pw_below_drewN | apply below_drew1) | exact HB.out)) hb); clear HO_14; clear HB; have HO_14 := n0_; have HB := n1_; clear n0_ n1_; (try clear hb); (try clear hb2); (try clear hk); (try clear hi); have p172 : 0 ≤ (x17_2 : Int) := of_decide_eq_true (by first | (with_reducible assumption) | assumption); have q172 : x17_2 < (ds.length : Int) := of_decide_eq_true (by first | (with_reducible assumption) | assumption); obtain ⟨ad172, e172, hx172_0⟩ := Kd.at_int HR157.out x17_2 p172 q172; cases e172; replace hx172_0 := (HB.out.cell (World.block_lt_of_cell? w _ hx172_0)).trans hx172_0; replace p172 := eq_true p172; replace q172 := eq_true q172))
                                      go_roundg kj27
                                      case measure => have := HJ19.out; have := HK2.out; have := HJ27.out; omega
                                      case rel => exact ⟨(IntKind.u64.wrap (x16_27 + (IntKind.u64.wrap (rd ds x17_2)))), (wrap64 (x17_2 + 1)), (by first | rfl | (simp; done) | (simp only [← hji8] <;> (first | rfl | simp)) | (simp [*]; done)), (by first | rfl | (simp; done) | (simp [*]; done)), H', ⟨by have := HJ19.out; have := HK2.out; have := HJ27.out; omega⟩, ⟨by (with_reducible repeat (first | apply Kd.R_alloc | apply Kd.R_drewN | apply Kd.R_drew)); exact HO_14.out⟩, ⟨by repeat (first | (with_reducible first | exact HB.out | apply below_alloc | apply pw_below_drewN | apply below_drew1) | exact HB.out)⟩⟩
                                    · rw [if_neg c48] at H
                                      exact absurd H (by simp)
                                  · rw [if_neg c47] at H
                                    have c47b0 : (t171 == 0) = false := beq_eq_false_iff_ne.mpr c47
                                    have c47b1 : (t171 != 0) = true := bne_iff_ne.mpr c47
                                    obtain rfl := Option.some.inj H
                                    have p165 : 0 ≤ (x17_2 : Int) := of_decide_eq_true (by first | (with_reducible assumption) | assumption)
                                    have q165 : x17_2 < (l5.length : Int) := of_decide_eq_true (by first | (with_reducible assumption) | assumption)
                                    obtain ⟨ad165, e165, hx165_0⟩ := Kd.at_int HR5.out x17_2 p165 q165
                                    cases e165
                                    replace hx165_0 := (HB.out.cell (World.block_lt_of_cell? w _ hx165_0)).trans hx165_0
                                    replace p165 := eq_true p165
                                    replace q165 := eq_true q165
                                    have p166 : 0 ≤ (x17_2 : Int) := of_decide_eq_true (by first | (with_reducible assumption) | assumption)
                                    have q166 : x17_2 < (l5.length : Int) := of_decide_eq_true (by first | (with_reducible assumption) | assumption)
                                    obtain ⟨ad166, e166, hx166_0⟩ := Kd.at_int HR5.out x17_2 p166 q166
                                    obtain rfl : ad165 = ad166 := (by injection e166)
                                    replace hx166_0 := (HB.out.cell (World.block_lt_of_cell? w _ hx166_0)).trans hx166_0
                                    replace p166 := eq_true p166
                                    replace q166 := eq_true q166
                                    obtain ⟨Ao51, co51, eo51⟩ := Kd.R_slice HO_14.out
                                    subst eo51
                                    have p170 : 0 ≤ (x17_2 : Int) := of_decide_eq_true (by first | (with_reducible assumption) | assumption)
                                    have q170 : x17_2 < (t158.length : Int) := of_decide_eq_true (by first | (with_reducible assumption) | assumption)
                                    obtain ⟨ad170, e170, hx170_0, hx170_1⟩ := at_T35 (Kd.R_reads' HO_14.out).2.2 x17_2 p170 q170
                                    cases e170
                                    replace p170 := eq_true p170
                                    replace q170 := eq_true q170
                                    go_wp2_with (first | ((with_reducible refine gate_callee (f := 14) rfl ?_); refine goesL_ (some 111) rfl rfl Try.func14 (by kernel_rfl) rfl #[.agg #[.int .u64 ((rd_T35 t158 x17_2).f0), .int .u64 ((rd_T35 t158 x17_2).f1)], .int .u64 (IntKind.u64.wrap (x16_27 + (Int.tmod (IntKind.u64.wrap (Go.bits .and .i64 (rd l5 x17_2) 4611686018427387903)) (IntKind.u64.wrap ((Go.bits .and .u64 a3 1099511627775) + 1)))))] rfl (by (try simp only [List.map_toArray, List.map_cons, List.map_nil]); first | done | rfl | (simp only [List.length_drop, List.length_take]; rfl)) ?_; (with_reducible refine (window_Window_Has.calls ((rd_T35 t158 x17_2).f0) ((rd_T35 t158 x17_2).f1) (IntKind.u64.wrap (x16_27 + (Int.tmod (IntKind.u64.wrap (Go.bits .and .i64 (rd l5 x17_2) 4611686018427387903)) (IntKind.u64.wrap ((Go.bits .and .u64 a3 1099511627775) + 1))))) t171 _ A46.out).mono ?_); rintro e w52 ⟨rfl, hb⟩; refine ⟨_, rfl, ?_⟩; have n0_ := Aside0.mk (Kd.R_below (by (with_reducible repeat (first | apply Kd.R_alloc | apply Kd.R_drewN | apply Kd.R_drew)); exact HO_14.out) hb); have n1_ := Aside0.mk (below_step (by repeat (first | (with_reducible first | exact HB.out | apply below_alloc | apply pw_below_drewN | apply below_drew1) | exact HB.out)) hb); clear HO_14; clear HB; have HO_14 := n0_; have HB := n1_; clear n0_ n1_; (try clear hb); (try clear hb2); (try clear hk); (try clear hi)))
                                    go_ret
                                    exact ⟨by first | rfl | (simp [errW_none, errW_some] <;> rfl) | (simp only [← hji8]; first | rfl | (simp [errW_none, errW_some] <;> rfl)) | (simp [*, errW_none, errW_some] <;> rfl), by repeat (first | (with_reducible first | exact HB.out | apply below_alloc | apply pw_below_drewN | apply below_drew1) | exact HB.out)⟩
                                · rw [if_neg c45] at H
                                  exact absurd H (by simp)
                          · rw [if_neg c33] at H
                            exact absurd H (by simp)
                        · rw [if_neg c32] at H
                          have c32b0 : decide (x17_2 < (l5.length : Int)) = false := decide_eq_false c32
                          clear c32
                          by_cases c53 : 0 ≤ x17_2
                          · rw [if_pos c53] at H
                            have c53b0 : decide (0 ≤ x17_2) = true := decide_eq_true c53
                            clear c53
                            by_cases c54 : x17_2 < (t158.length : Int)
                            · rw [if_pos c54] at H
                              have c54b0 : decide (x17_2 < (t158.length : Int)) = true := decide_eq_true c54
                              clear c54
                              replace H := Option.bind_eq_some_iff.mp H
                              obtain ⟨t174, A550, H⟩ := H
                              replace H : (if t174 = 0 then (if x17_2 < (ds.length : Int) then (hourglasslaw08_WindowComes.l0 kj27 (Go.bits .and .u64 a0 1099511627775) ds (Go.bits .and .u64 a2 1099511627775) (Go.bits .and .u64 a3 1099511627775) l4 l5 t156 t158 (IntKind.u64.wrap (x16_27 + (IntKind.u64.wrap (rd ds x17_2)))) (wrap64 (x17_2 + 1))) else (none)) else (some false)) = some r := H
                              have A55 := Aside0.mk A550
                              clear A550
                              by_cases c56 : t174 = 0
                              · rw [if_pos c56] at H
                                have c56b0 : (t174 == 0) = true := beq_iff_eq.mpr c56
                                have c56b1 : (t174 != 0) = false := bne_eq_false_iff_eq.mpr c56
                                clear c56
                                by_cases c57 : x17_2 < (ds.length : Int)
                                · rw [if_pos c57] at H
                                  have c57b0 : decide (x17_2 < (ds.length : Int)) = true := decide_eq_true c57
                                  clear c57
                                  have H' := Aside0.mk H
                                  clear H
                                  obtain ⟨Ao58, co58, eo58⟩ := Kd.R_slice HO_14.out
                                  subst eo58
                                  have p173 : 0 ≤ (x17_2 : Int) := of_decide_eq_true (by first | (with_reducible assumption) | assumption)
                                  have q173 : x17_2 < (t158.length : Int) := of_decide_eq_true (by first | (with_reducible assumption) | assumption)
                                  obtain ⟨ad173, e173, hx173_0, hx173_1⟩ := at_T35 (Kd.R_reads' HO_14.out).2.2 x17_2 p173 q173
                                  cases e173
                                  replace p173 := eq_true p173
                                  replace q173 := eq_true q173
                                  go_wp2_with (first | ((with_reducible refine gate_callee (f := 14) rfl ?_); refine goesL_ (some 111) rfl rfl Try.func14 (by kernel_rfl) rfl #[.agg #[.int .u64 ((rd_T35 t158 x17_2).f0), .int .u64 ((rd_T35 t158 x17_2).f1)], .int .u64 x16_27] rfl (by (try simp only [List.map_toArray, List.map_cons, List.map_nil]); first | done | rfl | (simp only [List.length_drop, List.length_take]; rfl)) ?_; (with_reducible refine (window_Window_Has.calls ((rd_T35 t158 x17_2).f0) ((rd_T35 t158 x17_2).f1) x16_27 t174 _ A55.out).mono ?_); rintro e w59 ⟨rfl, hb⟩; refine ⟨_, rfl, ?_⟩; have n0_ := Aside0.mk (Kd.R_below (by (with_reducible repeat (first | apply Kd.R_alloc | apply Kd.R_drewN | apply Kd.R_drew)); exact HO_14.out) hb); have n1_ := Aside0.mk (below_step (by repeat (first | (with_reducible first | exact HB.out | apply below_alloc | apply pw_below_drewN | apply below_drew1) | exact HB.out)) hb); clear HO_14; clear HB; have HO_14 := n0_; have HB := n1_; clear n0_ n1_; (try clear hb); (try clear hb2); (try clear hk); (try clear hi); have p175 : 0 ≤ (x17_2 : Int) := of_decide_eq_true (by first | (with_reducible assumption) | assumption); have q175 : x17_2 < (ds.length : Int) := of_decide_eq_true (by first | (with_reducible assumption) | assumption); obtain ⟨ad175, e175, hx175_0⟩ := Kd.at_int HR157.out x17_2 p175 q175; cases e175; replace hx175_0 := (HB.out.cell (World.block_lt_of_cell? w _ hx175_0)).trans hx175_0; replace p175 := eq_true p175; replace q175 := eq_true q175))
                                  go_roundg kj27
                                  case measure => have := HJ19.out; have := HK2.out; have := HJ27.out; omega
                                  case rel => exact ⟨(IntKind.u64.wrap (x16_27 + (IntKind.u64.wrap (rd ds x17_2)))), (wrap64 (x17_2 + 1)), (by first | rfl | (simp; done) | (simp only [← hji8] <;> (first | rfl | simp)) | (simp [*]; done)), (by first | rfl | (simp; done) | (simp [*]; done)), H', ⟨by have := HJ19.out; have := HK2.out; have := HJ27.out; omega⟩, ⟨by (with_reducible repeat (first | apply Kd.R_alloc | apply Kd.R_drewN | apply Kd.R_drew)); exact HO_14.out⟩, ⟨by repeat (first | (with_reducible first | exact HB.out | apply below_alloc | apply pw_below_drewN | apply below_drew1) | exact HB.out)⟩⟩
                                · rw [if_neg c57] at H
                                  exact absurd H (by simp)
                              · rw [if_neg c56] at H
                                have c56b0 : (t174 == 0) = false := beq_eq_false_iff_ne.mpr c56
                                have c56b1 : (t174 != 0) = true := bne_iff_ne.mpr c56
                                obtain rfl := Option.some.inj H
                                obtain ⟨Ao60, co60, eo60⟩ := Kd.R_slice HO_14.out
                                subst eo60
                                have p173 : 0 ≤ (x17_2 : Int) := of_decide_eq_true (by first | (with_reducible assumption) | assumption)
                                have q173 : x17_2 < (t158.length : Int) := of_decide_eq_true (by first | (with_reducible assumption) | assumption)
                                obtain ⟨ad173, e173, hx173_0, hx173_1⟩ := at_T35 (Kd.R_reads' HO_14.out).2.2 x17_2 p173 q173
                                cases e173
                                replace p173 := eq_true p173
                                replace q173 := eq_true q173
                                go_wp2_with (first | ((with_reducible refine gate_callee (f := 14) rfl ?_); refine goesL_ (some 111) rfl rfl Try.func14 (by kernel_rfl) rfl #[.agg #[.int .u64 ((rd_T35 t158 x17_2).f0), .int .u64 ((rd_T35 t158 x17_2).f1)], .int .u64 x16_27] rfl (by (try simp only [List.map_toArray, List.map_cons, List.map_nil]); first | done | rfl | (simp only [List.length_drop, List.length_take]; rfl)) ?_; (with_reducible refine (window_Window_Has.calls ((rd_T35 t158 x17_2).f0) ((rd_T35 t158 x17_2).f1) x16_27 t174 _ A55.out).mono ?_); rintro e w61 ⟨rfl, hb⟩; refine ⟨_, rfl, ?_⟩; have n0_ := Aside0.mk (Kd.R_below (by (with_reducible repeat (first | apply Kd.R_alloc | apply Kd.R_drewN | apply Kd.R_drew)); exact HO_14.out) hb); have n1_ := Aside0.mk (below_step (by repeat (first | (with_reducible first | exact HB.out | apply below_alloc | apply pw_below_drewN | apply below_drew1) | exact HB.out)) hb); clear HO_14; clear HB; have HO_14 := n0_; have HB := n1_; clear n0_ n1_; (try clear hb); (try clear hb2); (try clear hk); (try clear hi)))
                                go_ret
                                exact ⟨by first | rfl | (simp [errW_none, errW_some] <;> rfl) | (simp only [← hji8]; first | rfl | (simp [errW_none, errW_some] <;> rfl)) | (simp [*, errW_none, errW_some] <;> rfl), by repeat (first | (with_reducible first | exact HB.out | apply below_alloc | apply pw_below_drewN | apply below_drew1) | exact HB.out)⟩
                            · rw [if_neg c54] at H
                              exact absurd H (by simp)
                          · rw [if_neg c53] at H
                            exact absurd H (by simp)
                  · rw [if_neg c27] at H
                    have c27b0 : decide (x17_2 < (ds.length : Int)) = false := decide_eq_false c27
                    clear c27
                    replace H := Option.bind_eq_some_iff.mp H
                    obtain ⟨⟨t162, t163⟩, A620, H⟩ := H
                    replace H : (if t156 = true then (if t163 = true then (some (decide (x16_2 ≤ t162))) else (some false)) else (some false)) = some r := H
                    have A62 := Aside0.mk A620
                    clear A620
                    by_cases c63 : t156 = true
                    · subst c63
                      have H1 : (if t163 = true then (some (decide (x16_2 ≤ t162))) else (some false)) = some r := by rw [if_pos rfl] at H; exact H
                      clear H
                      have H := H1
                      clear H1
                      by_cases c64 : t163 = true
                      · subst c64
                        have H1 : (some (decide (x16_2 ≤ t162))) = some r := by rw [if_pos rfl] at H; exact H
                        clear H
                        have H := H1
                        clear H1
                        obtain rfl := Option.some.inj H
                        go_wp2_with (first | ((with_reducible refine gate_callee (f := 12) rfl ?_); refine goesL_ (some 125) rfl rfl Try.func12 (by kernel_rfl) rfl #[.int .u64 (Go.bits .and .u64 a0 1099511627775), .slice A1 ds.length c1, .int .u64 (Go.bits .and .u64 a2 1099511627775), .int .u64 (Go.bits .and .u64 a3 1099511627775)] rfl (by (try simp only [List.map_toArray, List.map_cons, List.map_nil]); first | done | (rw [show ds.length = ((ds.length : Int)).toNat from (by rw [List.length_take]; have h_ : (((ds.length : Int)) : Int) ≤ (l1.length : Int) := of_decide_eq_true (by first | (with_reducible assumption) | assumption); omega)] <;> rfl) | (simp only [hji8]; rfl) | rfl | (simp only [List.length_drop, List.length_take]; rfl)) ?_; (with_reducible refine (window_Latest.calls k2 (Go.bits .and .u64 a0 1099511627775) _ _ ds (Go.bits .and .u64 a2 1099511627775) (Go.bits .and .u64 a3 1099511627775) t162 true _ ?side1 ?side2 A62.out).mono ?_); (case side1 => repeat (first | exact (Kd.C_below HR157.out HB.out) | (with_reducible refine Kd.C_alloc ?_ _) | (with_reducible refine Kd.C_drewN ?_ _) | (with_reducible refine Kd.C_drew ?_))); (case side2 => exact HC157.out); rintro e w65 ⟨rfl, hb⟩; refine ⟨_, rfl, ?_⟩; have n0_ := Aside0.mk (Kd.R_below (by (with_reducible repeat (first | apply Kd.R_alloc | apply Kd.R_drewN | apply Kd.R_drew)); exact HO_14.out) hb); have n1_ := Aside0.mk (below_step (by repeat (first | (with_reducible first | exact HB.out | apply below_alloc | apply pw_below_drewN | apply below_drew1) | exact HB.out)) hb); clear HO_14; clear HB; have HO_14 := n0_; have HB := n1_; clear n0_ n1_; (try clear hb); (try clear hb2); (try clear hk); (try clear hi)))
                        go_ret
                        exact ⟨by first | rfl | (simp [errW_none, errW_some] <;> rfl) | (simp only [← hji8]; first | rfl | (simp [errW_none, errW_some] <;> rfl)) | (simp [*, errW_none, errW_some] <;> rfl), by repeat (first | (with_reducible first | exact HB.out | apply below_alloc | apply pw_below_drewN | apply below_drew1) | exact HB.out)⟩
                      · replace c64 := Bool.eq_false_iff.mpr c64
                        subst c64
                        have H1 : (some false) = some r := by rw [if_neg (show ¬ (false = true) by decide)] at H; exact H
                        clear H
                        have H := H1
                        clear H1
                        obtain rfl := Option.some.inj H
                        go_wp2_with (first | ((with_reducible refine gate_callee (f := 12) rfl ?_); refine goesL_ (some 125) rfl rfl Try.func12 (by kernel_rfl) rfl #[.int .u64 (Go.bits .and .u64 a0 1099511627775), .slice A1 ds.length c1, .int .u64 (Go.bits .and .u64 a2 1099511627775), .int .u64 (Go.bits .and .u64 a3 1099511627775)] rfl (by (try simp only [List.map_toArray, List.map_cons, List.map_nil]); first | done | (rw [show ds.length = ((ds.length : Int)).toNat from (by rw [List.length_take]; have h_ : (((ds.length : Int)) : Int) ≤ (l1.length : Int) := of_decide_eq_true (by first | (with_reducible assumption) | assumption); omega)] <;> rfl) | (simp only [hji8]; rfl) | rfl | (simp only [List.length_drop, List.length_take]; rfl)) ?_; (with_reducible refine (window_Latest.calls k2 (Go.bits .and .u64 a0 1099511627775) _ _ ds (Go.bits .and .u64 a2 1099511627775) (Go.bits .and .u64 a3 1099511627775) t162 false _ ?side1 ?side2 A62.out).mono ?_); (case side1 => repeat (first | exact (Kd.C_below HR157.out HB.out) | (with_reducible refine Kd.C_alloc ?_ _) | (with_reducible refine Kd.C_drewN ?_ _) | (with_reducible refine Kd.C_drew ?_))); (case side2 => exact HC157.out); rintro e w66 ⟨rfl, hb⟩; refine ⟨_, rfl, ?_⟩; have n0_ := Aside0.mk (Kd.R_below (by (with_reducible repeat (first | apply Kd.R_alloc | apply Kd.R_drewN | apply Kd.R_drew)); exact HO_14.out) hb); have n1_ := Aside0.mk (below_step (by repeat (first | (with_reducible first | exact HB.out | apply below_alloc | apply pw_below_drewN | apply below_drew1) | exact HB.out)) hb); clear HO_14; clear HB; have HO_14 := n0_; have HB := n1_; clear n0_ n1_; (try clear hb); (try clear hb2); (try clear hk); (try clear hi)))
                        go_ret
                        exact ⟨by first | rfl | (simp [errW_none, errW_some] <;> rfl) | (simp only [← hji8]; first | rfl | (simp [errW_none, errW_some] <;> rfl)) | (simp [*, errW_none, errW_some] <;> rfl), by repeat (first | (with_reducible first | exact HB.out | apply below_alloc | apply pw_below_drewN | apply below_drew1) | exact HB.out)⟩
                    · replace c63 := Bool.eq_false_iff.mpr c63
                      subst c63
                      have H1 : (some false) = some r := by rw [if_neg (show ¬ (false = true) by decide)] at H; exact H
                      clear H
                      have H := H1
                      clear H1
                      obtain rfl := Option.some.inj H
                      go_wp2_with (first | ((with_reducible refine gate_callee (f := 12) rfl ?_); refine goesL_ (some 125) rfl rfl Try.func12 (by kernel_rfl) rfl #[.int .u64 (Go.bits .and .u64 a0 1099511627775), .slice A1 ds.length c1, .int .u64 (Go.bits .and .u64 a2 1099511627775), .int .u64 (Go.bits .and .u64 a3 1099511627775)] rfl (by (try simp only [List.map_toArray, List.map_cons, List.map_nil]); first | done | (rw [show ds.length = ((ds.length : Int)).toNat from (by rw [List.length_take]; have h_ : (((ds.length : Int)) : Int) ≤ (l1.length : Int) := of_decide_eq_true (by first | (with_reducible assumption) | assumption); omega)] <;> rfl) | (simp only [hji8]; rfl) | rfl | (simp only [List.length_drop, List.length_take]; rfl)) ?_; (with_reducible refine (window_Latest.calls k2 (Go.bits .and .u64 a0 1099511627775) _ _ ds (Go.bits .and .u64 a2 1099511627775) (Go.bits .and .u64 a3 1099511627775) t162 t163 _ ?side1 ?side2 A62.out).mono ?_); (case side1 => repeat (first | exact (Kd.C_below HR157.out HB.out) | (with_reducible refine Kd.C_alloc ?_ _) | (with_reducible refine Kd.C_drewN ?_ _) | (with_reducible refine Kd.C_drew ?_))); (case side2 => exact HC157.out); rintro e w67 ⟨rfl, hb⟩; refine ⟨_, rfl, ?_⟩; have n0_ := Aside0.mk (Kd.R_below (by (with_reducible repeat (first | apply Kd.R_alloc | apply Kd.R_drewN | apply Kd.R_drew)); exact HO_14.out) hb); have n1_ := Aside0.mk (below_step (by repeat (first | (with_reducible first | exact HB.out | apply below_alloc | apply pw_below_drewN | apply below_drew1) | exact HB.out)) hb); clear HO_14; clear HB; have HO_14 := n0_; have HB := n1_; clear n0_ n1_; (try clear hb); (try clear hb2); (try clear hk); (try clear hi)))
                      go_ret
                      exact ⟨by first | rfl | (simp [errW_none, errW_some] <;> rfl) | (simp only [← hji8]; first | rfl | (simp [errW_none, errW_some] <;> rfl)) | (simp [*, errW_none, errW_some] <;> rfl), by repeat (first | (with_reducible first | exact HB.out | apply below_alloc | apply pw_below_drewN | apply below_drew1) | exact HB.out)⟩
    · rw [if_neg c10] at H
      exact absurd H (by simp)
  · rw [if_neg c9] at H
    exact absurd H (by simp)

/-- THE ONE PURE STATEMENT of hourglasslaw08_WindowComes: yours. -/
def hourglasslaw08_WindowComes.Pure : Prop := ∀ (a0 : Int) (l1 : List Int) (a2 : Int) (a3 : Int) (l4 : List Int) (l5 : List Int), (Lit.int .u64 a0).wf = true → l1.length ≤ maxLen → l1.length * 4 ≤ 140737488351232 → (∀ x ∈ l1, (Lit.int .u32 x).wf = true) → (Lit.int .u64 a2).wf = true → (Lit.int .u64 a3).wf = true → l4.length ≤ maxLen → l4.length * 8 ≤ 140737488351232 → (∀ x ∈ l4, (Lit.int .u64 x).wf = true) → l5.length ≤ maxLen → l5.length * 8 ≤ 140737488351232 → (∀ x ∈ l5, (Lit.int .i64 x).wf = true) → ∃ k, hourglasslaw08_WindowComes.f k a0 l1 a2 a3 l4 l5 = some true
theorem hourglasslaw08_WindowComes.walk (P : hourglasslaw08_WindowComes.Pure) (a0 : Int) (a1 : Option Addr) (len1 cap1 : Nat) (z1 : List Int) (a2 : Int) (a3 : Int) (a4 : Option Addr) (len4 cap4 : Nat) (z4 : List Int) (a5 : Option Addr) (len5 cap5 : Nat) (z5 : List Int) (w : World) (w0 : (Lit.int .u64 a0).wf = true) (w1 : (a1 = none ∧ len1 = 0 ∧ cap1 = 0 ∧ z1 = []) ∨ ∃ x, a1 = some x ∧ len1 ≤ cap1 ∧ cap1 ≤ maxLen ∧ z1.length = cap1 ∧ (∀ i, i < z1.length → w.cell? (x.add i) = some (.int .u32 (z1.getD i 0))) ∧ ∀ n ∈ z1, (Lit.int .u32 n).wf = true) (y1 : len1 * 4 ≤ 140737488351232) (w2 : (Lit.int .u64 a2).wf = true) (w3 : (Lit.int .u64 a3).wf = true) (w4 : (a4 = none ∧ len4 = 0 ∧ cap4 = 0 ∧ z4 = []) ∨ ∃ x, a4 = some x ∧ len4 ≤ cap4 ∧ cap4 ≤ maxLen ∧ z4.length = cap4 ∧ (∀ i, i < z4.length → w.cell? (x.add i) = some (.int .u64 (z4.getD i 0))) ∧ ∀ n ∈ z4, (Lit.int .u64 n).wf = true) (y4 : len4 * 8 ≤ 140737488351232) (w5 : (a5 = none ∧ len5 = 0 ∧ cap5 = 0 ∧ z5 = []) ∨ ∃ x, a5 = some x ∧ len5 ≤ cap5 ∧ cap5 ≤ maxLen ∧ z5.length = cap5 ∧ (∀ i, i < z5.length → w.cell? (x.add i) = some (.int .i64 (z5.getD i 0))) ∧ ∀ n ∈ z5, (Lit.int .i64 n).wf = true) (y5 : len5 * 8 ≤ 140737488351232) :
    Calls Try.prog 4 #[.int .u64 a0, .slice a1 len1 cap1, .int .u64 a2, .int .u64 a3, .slice a4 len4 cap4, .slice a5 len5 cap5] w fun e w' => e = .returned (.bool true) ∧ Below w.heap.size w w' := by
  obtain ⟨l1, rfl, hr1, hm1, hw1, hc1⟩ := ReadsInt.ofRowC w1
  obtain ⟨l4, rfl, hr4, hm4, hw4, hc4⟩ := ReadsInt.ofRowC w4
  obtain ⟨l5, rfl, hr5, hm5, hw5, hc5⟩ := ReadsInt.ofRowC w5
  obtain ⟨k, h⟩ := P a0 l1 a2 a3 l4 l5 w0 hm1 y1 hw1 w2 w3 hm4 y4 hw4 hm5 y5 hw5
  refine (hourglasslaw08_WindowComes.calls k a0 _ _ l1 a2 a3 _ _ l4 _ _ l5 true w (Kd.C_of_reads (d := (0 : Int)) (h1 := fun _ => rfl) hr1) hc1 (Kd.C_of_reads (d := (0 : Int)) (h1 := fun _ => rfl) hr4) hc4 (Kd.C_of_reads (d := (0 : Int)) (h1 := fun _ => rfl) hr5) hc5 h).mono ?_
  rintro e w' ⟨rfl, hd⟩
  exact ⟨rfl, hd⟩



end Go.Proofs.Ytehghblhjclpdaa.WB
