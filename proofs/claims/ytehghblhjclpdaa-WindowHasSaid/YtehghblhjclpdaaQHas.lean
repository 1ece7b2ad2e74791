/- The plain law: For any window and any time, Has answers OK just if the time lies in the window. No condition. -/
import Derived.Test.YtehghblhjclpdaaC2
import Derived.Test.YtehghblhjclpdaaLHas
namespace Go.Proofs.Ytehghblhjclpdaa.WB
open Go.RowKit Go.Proofs.YtehghblhjclpdaaW.PrintWords Go.Proofs.YtehghblhjclpdaaW.PrintLast Go.Proofs.YtehghblhjclpdaaW.PrintMore PWindowTells
attribute [local go_sem] max2_int min2_int max_two min_two max_three min_three max_four min_four   -- for this text's walks alone
set_option linter.unusedVariables false
set_option linter.unusedSimpArgs false

theorem WindowHas : hourglasslaw08_WindowHas.Pure := by
  intro lo hi t hlo hhi ht
  refine ⟨20, ?_⟩
  unfold hourglasslaw08_WindowHas.f
  rw [shown_is 20 (by omega)]
  simp only [Option.bind_some]
  have ea : ¬ lo > hi → window_Window_Has.f lo hi lo = some 0 := fun h => by unfold window_Window_Has.f; rw [if_neg (by omega), if_neg (by omega)]
  have eb : ¬ lo > hi → window_Window_Has.f lo hi hi = some 0 := fun h => by unfold window_Window_Has.f; rw [if_neg (by omega), if_neg (by omega)]
  by_cases h3 : lo > hi
  · by_cases h1 : t < lo
    · have e : window_Window_Has.f lo hi t = some 5 := by unfold window_Window_Has.f; rw [if_pos h1]
      have g : ¬ t ≥ lo := by omega
      rw [e]; simp [g, h1, h3]
    · have e : window_Window_Has.f lo hi t = some 6 := by unfold window_Window_Has.f; rw [if_neg h1, if_pos (by omega)]
      have g : t ≥ lo := by omega
      have g2 : ¬ t ≤ hi := by omega
      have g3 : t > hi := by omega
      rw [e]; simp [g, g2, g3, h3]
  · rw [ea h3, eb h3]
    by_cases h1 : t < lo
    · have e : window_Window_Has.f lo hi t = some 5 := by unfold window_Window_Has.f; rw [if_pos h1]
      have g : ¬ t ≥ lo := by omega
      rw [e]; simp [g, h1]
    · by_cases h2 : t > hi
      · have e : window_Window_Has.f lo hi t = some 6 := by unfold window_Window_Has.f; rw [if_neg h1, if_pos h2]
        have g : t ≥ lo := by omega
        have g2 : ¬ t ≤ hi := by omega
        rw [e]; simp [g, g2, h2]
      · have e : window_Window_Has.f lo hi t = some 0 := by unfold window_Window_Has.f; rw [if_neg h1, if_neg h2]
        have g : t ≥ lo := by omega
        have g2 : t ≤ hi := by omega
        rw [e]; simp [g, g2]

end Go.Proofs.Ytehghblhjclpdaa.WB
