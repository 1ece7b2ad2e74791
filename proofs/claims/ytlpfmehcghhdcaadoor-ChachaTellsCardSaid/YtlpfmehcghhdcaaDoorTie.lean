/-
  DERIVED. GIVEN WITH THE SEED: THE PROGRAM's TIES (one call each: nine closed facts by the kernel) AND EACH ROW's TIE, after the 31st guide's Derived/Test/Toyas{Tie, Card}.lean. No idea stands in it: it is a product of the set-up. Laid BY PROGRAM, IN A SANDBOX (cutbox-door.mjs). By AI agents, Wed Nov 11 2026. No macro, syntax, notation, axiom, sorry.
-/
import Derived.Test.YtlpfmehcghhdcaaDoorRows
import Derived.LaidByTextLater
import Derived.SevenTiedAt
import Derived.LaidSub
import Derived.LaidOnce
namespace Go.Proofs.YtlpfmehcghhdcaaDoor
open Go
set_option maxRecDepth 100000
theorem seatTie1 : Tryd.prog.laidByTextLater [("hourglass/chacha.begins", Rows.laid_hourglass_chacha_begins), ("hourglass/chacha.quarters", Rows.laid_hourglass_chacha_quarters), ("hourglass/chacha.turns", Rows.laid_hourglass_chacha_turns)] [.widerDeep, .data, .data] true :=
  Program.laidByTextLater_by_one 34 8 33 (by kernel_rfl) (by kernel_rfl) (by kernel_rfl) (by kernel_rfl) (by kernel_rfl) (by kernel_rfl) (fun _ _ => by kernel_rfl)
theorem noOwnUnsafe : Tryd.pinned.checked.prog.headLifts.contains "ownunsafe" = false := by kernel_rfl
theorem tie : Tryd.prog.laidByTextLater [("hourglass/chacha.begins", Rows.laid_hourglass_chacha_begins), ("hourglass/chacha.quarters", Rows.laid_hourglass_chacha_quarters), ("hourglass/chacha.turns", Rows.laid_hourglass_chacha_turns)] [.widerDeep, .data, .data] true :=
  Program.laidByTextLater.sub seatTie1 ["hourglass/chacha.begins", "hourglass/chacha.quarters", "hourglass/chacha.turns"] (by kernel_rfl) (by kernel_rfl)
theorem chachaOwn_row_tie : Rows.chachaOwnRow.laidByTextAt .later Tryd.pinned [.widerDeep, .data, .data] true :=
  OpenClaim.laidByTextAt_later rfl rfl tie noOwnUnsafe
theorem chachaVectors_row_tie : Rows.chachaVectorsRow.laidByTextAt .later Tryd.pinned [.widerDeep, .data, .data] true :=
  OpenClaim.laidByTextAt_later rfl rfl tie noOwnUnsafe
theorem chachaXors_row_tie : Rows.chachaXorsRow.laidByTextAt .later Tryd.pinned [.widerDeep, .data, .data] true :=
  OpenClaim.laidByTextAt_later rfl rfl tie noOwnUnsafe
theorem chachaTells_row_tie : Rows.chachaTellsRow.laidByTextAt .later Tryd.pinned [.widerDeep, .data, .data] true :=
  OpenClaim.laidByTextAt_later rfl rfl tie noOwnUnsafe
theorem chachaStreams_row_tie : Rows.chachaStreamsRow.laidByTextAt .later Tryd.pinned [.widerDeep, .data, .data] true :=
  OpenClaim.laidByTextAt_later rfl rfl tie noOwnUnsafe
theorem chachaHides_row_tie : Rows.chachaHidesRow.laidByTextAt .later Tryd.pinned [.widerDeep, .data, .data] true :=
  OpenClaim.laidByTextAt_later rfl rfl tie noOwnUnsafe
theorem chachaCuts_row_tie : Rows.chachaCutsRow.laidByTextAt .later Tryd.pinned [.widerDeep, .data, .data] true :=
  OpenClaim.laidByTextAt_later rfl rfl tie noOwnUnsafe
theorem chachaOwnUpto_row_tie : Rows.chachaOwnUptoRow.laidByTextAt .later Tryd.pinned [.widerDeep, .data, .data] true :=
  OpenClaim.laidByTextAt_later rfl rfl tie noOwnUnsafe
theorem chachaVectorsUpto_row_tie : Rows.chachaVectorsUptoRow.laidByTextAt .later Tryd.pinned [.widerDeep, .data, .data] true :=
  OpenClaim.laidByTextAt_later rfl rfl tie noOwnUnsafe
theorem chachaXorsUpto_row_tie : Rows.chachaXorsUptoRow.laidByTextAt .later Tryd.pinned [.widerDeep, .data, .data] true :=
  OpenClaim.laidByTextAt_later rfl rfl tie noOwnUnsafe
theorem chachaTellsUpto_row_tie : Rows.chachaTellsUptoRow.laidByTextAt .later Tryd.pinned [.widerDeep, .data, .data] true :=
  OpenClaim.laidByTextAt_later rfl rfl tie noOwnUnsafe
theorem chachaStreamsUpto_row_tie : Rows.chachaStreamsUptoRow.laidByTextAt .later Tryd.pinned [.widerDeep, .data, .data] true :=
  OpenClaim.laidByTextAt_later rfl rfl tie noOwnUnsafe
theorem chachaHidesUpto_row_tie : Rows.chachaHidesUptoRow.laidByTextAt .later Tryd.pinned [.widerDeep, .data, .data] true :=
  OpenClaim.laidByTextAt_later rfl rfl tie noOwnUnsafe
theorem chachaCutsUpto_row_tie : Rows.chachaCutsUptoRow.laidByTextAt .later Tryd.pinned [.widerDeep, .data, .data] true :=
  OpenClaim.laidByTextAt_later rfl rfl tie noOwnUnsafe
end Go.Proofs.YtlpfmehcghhdcaaDoor
