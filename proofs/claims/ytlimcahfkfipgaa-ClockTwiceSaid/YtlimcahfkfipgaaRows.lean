/-
  No cell of these rows narrows 'for every input' (looked for: loops, veiled, ifaces, maps, wideKeys, modest, calm, conditions, laid).
  DERIVED. THE GIVEN ROWS OF THIS SEAT. 9 by the template 'for every input the law returns true; each argument reads behind the call as it read before'; 0 by the template 'total and deterministic' (their statements: YtlimcahfkfipgaaTotals.lean).
  GIVEN WITH THE SEED: the statements are not yours to turn. If you find one false, say at which input.
  Laid BY PROGRAM, IN A SANDBOX (cutbox-rows.mjs): the forced cells as the released guide's own fill.sh prints them over the translation 9df57e6161cb19cb… (all of the seat's roots in one cut). By AI agents, Wed Nov 11 2026. No macro, syntax, notation, axiom, sorry.
-/
import Derived.Test.YtlimcahfkfipgaaChecked
import GoSem.Claim
import GoSem.ClaimJoined
import GoSem.ClaimMapViews
import Derived.JoinedTies
import Derived.KernelRfl
namespace Go.Proofs.Ytlimcahfkfipgaa
/- THE CELL 'sum', in the pinned program and in every row, IS THE sha256 OF THE DUMP (.gsa) THAT YtlimcahfkfipgaaProg.lean LOADS. Nothing in Lean hashes anything: it is a label: what it is worth is what the hold of that sum in a sandbox is worth. -/
noncomputable def Try.pinned : Pinned := { name := "ytlimcahfkfipgaa", sum := "9df57e6161cb19cbd5b144861cd7504bca9be6ad2d510d7db143c15aa5747cce", checked := Try.checked }
namespace Rows
def none {H : Type} : Left H := { results := [], args := [] }

/-- 'hourglasslaw02.ClockAdds': WHATEVER THE INPUT: true; the input reads as it did. -/
def clockAddsSpec : ChangeSpec := { name := "clockAdds", fn := fun _ => fun
  | [d1, d2] => { results := [.lit (.bool true)], args := [d1, d2] }
  | _ => none }
def clockAddsRow : OpenClaim := { program := "ytlimcahfkfipgaa", sum := "9df57e6161cb19cbd5b144861cd7504bca9be6ad2d510d7db143c15aa5747cce", func := "hourglass/hourglasslaw02.ClockAdds", spec := "clockAdds", apart := false }
def ClockAddsSaid : Prop := clockAddsRow.holds Try.pinned (OpenSpec.ofChange clockAddsSpec)

/-- ITS FALSE NEIGHBOUR: 'it returns false'. Refute it at one input. -/
def clockAddsWrong : ChangeSpec := { name := "clockAdds", fn := fun _ => fun
  | [d1, d2] => { results := [.lit (.bool false)], args := [d1, d2] }
  | _ => none }
def ClockAddsWrongFalsely : Prop := clockAddsRow.holds Try.pinned (OpenSpec.ofChange clockAddsWrong)

/-- 'hourglasslaw02.ClockShifts': WHATEVER THE INPUT: true; the input reads as it did. -/
def clockShiftsSpec : ChangeSpec := { name := "clockShifts", fn := fun _ => fun
  | [d1, d2] => { results := [.lit (.bool true)], args := [d1, d2] }
  | _ => none }
def clockShiftsRow : OpenClaim := { program := "ytlimcahfkfipgaa", sum := "9df57e6161cb19cbd5b144861cd7504bca9be6ad2d510d7db143c15aa5747cce", func := "hourglass/hourglasslaw02.ClockShifts", spec := "clockShifts", apart := false }
def ClockShiftsSaid : Prop := clockShiftsRow.holds Try.pinned (OpenSpec.ofChange clockShiftsSpec)

/-- ITS FALSE NEIGHBOUR: 'it returns false'. Refute it at one input. -/
def clockShiftsWrong : ChangeSpec := { name := "clockShifts", fn := fun _ => fun
  | [d1, d2] => { results := [.lit (.bool false)], args := [d1, d2] }
  | _ => none }
def ClockShiftsWrongFalsely : Prop := clockShiftsRow.holds Try.pinned (OpenSpec.ofChange clockShiftsWrong)

/-- 'hourglasslaw02.ClockEpochs': WHATEVER THE INPUT: true; the input reads as it did. -/
def clockEpochsSpec : ChangeSpec := { name := "clockEpochs", fn := fun _ => fun
  | [d1, d2] => { results := [.lit (.bool true)], args := [d1, d2] }
  | _ => none }
def clockEpochsRow : OpenClaim := { program := "ytlimcahfkfipgaa", sum := "9df57e6161cb19cbd5b144861cd7504bca9be6ad2d510d7db143c15aa5747cce", func := "hourglass/hourglasslaw02.ClockEpochs", spec := "clockEpochs", apart := false }
def ClockEpochsSaid : Prop := clockEpochsRow.holds Try.pinned (OpenSpec.ofChange clockEpochsSpec)

/-- ITS FALSE NEIGHBOUR: 'it returns false'. Refute it at one input. -/
def clockEpochsWrong : ChangeSpec := { name := "clockEpochs", fn := fun _ => fun
  | [d1, d2] => { results := [.lit (.bool false)], args := [d1, d2] }
  | _ => none }
def ClockEpochsWrongFalsely : Prop := clockEpochsRow.holds Try.pinned (OpenSpec.ofChange clockEpochsWrong)

/-- 'hourglasslaw02.ClockBack': WHATEVER THE INPUT: true; the input reads as it did. -/
def clockBackSpec : ChangeSpec := { name := "clockBack", fn := fun _ => fun
  | [d1, d2, d3] => { results := [.lit (.bool true)], args := [d1, d2, d3] }
  | _ => none }
def clockBackRow : OpenClaim := { program := "ytlimcahfkfipgaa", sum := "9df57e6161cb19cbd5b144861cd7504bca9be6ad2d510d7db143c15aa5747cce", func := "hourglass/hourglasslaw02.ClockBack", spec := "clockBack", apart := false }
def ClockBackSaid : Prop := clockBackRow.holds Try.pinned (OpenSpec.ofChange clockBackSpec)

/-- ITS FALSE NEIGHBOUR: 'it returns false'. Refute it at one input. -/
def clockBackWrong : ChangeSpec := { name := "clockBack", fn := fun _ => fun
  | [d1, d2, d3] => { results := [.lit (.bool false)], args := [d1, d2, d3] }
  | _ => none }
def ClockBackWrongFalsely : Prop := clockBackRow.holds Try.pinned (OpenSpec.ofChange clockBackWrong)

/-- 'hourglasslaw02.ClockOrder': WHATEVER THE INPUT: true; the input reads as it did. -/
def clockOrderSpec : ChangeSpec := { name := "clockOrder", fn := fun _ => fun
  | [d1, d2, d3] => { results := [.lit (.bool true)], args := [d1, d2, d3] }
  | _ => none }
def clockOrderRow : OpenClaim := { program := "ytlimcahfkfipgaa", sum := "9df57e6161cb19cbd5b144861cd7504bca9be6ad2d510d7db143c15aa5747cce", func := "hourglass/hourglasslaw02.ClockOrder", spec := "clockOrder", apart := false }
def ClockOrderSaid : Prop := clockOrderRow.holds Try.pinned (OpenSpec.ofChange clockOrderSpec)

/-- ITS FALSE NEIGHBOUR: 'it returns false'. Refute it at one input. -/
def clockOrderWrong : ChangeSpec := { name := "clockOrder", fn := fun _ => fun
  | [d1, d2, d3] => { results := [.lit (.bool false)], args := [d1, d2, d3] }
  | _ => none }
def ClockOrderWrongFalsely : Prop := clockOrderRow.holds Try.pinned (OpenSpec.ofChange clockOrderWrong)

/-- 'hourglasslaw02.ClockTwice': WHATEVER THE INPUT: true; the input reads as it did. -/
def clockTwiceSpec : ChangeSpec := { name := "clockTwice", fn := fun _ => fun
  | [d1, d2, d3] => { results := [.lit (.bool true)], args := [d1, d2, d3] }
  | _ => none }
def clockTwiceRow : OpenClaim := { program := "ytlimcahfkfipgaa", sum := "9df57e6161cb19cbd5b144861cd7504bca9be6ad2d510d7db143c15aa5747cce", func := "hourglass/hourglasslaw02.ClockTwice", spec := "clockTwice", apart := false }
def ClockTwiceSaid : Prop := clockTwiceRow.holds Try.pinned (OpenSpec.ofChange clockTwiceSpec)

/-- ITS FALSE NEIGHBOUR: 'it returns false'. Refute it at one input. -/
def clockTwiceWrong : ChangeSpec := { name := "clockTwice", fn := fun _ => fun
  | [d1, d2, d3] => { results := [.lit (.bool false)], args := [d1, d2, d3] }
  | _ => none }
def ClockTwiceWrongFalsely : Prop := clockTwiceRow.holds Try.pinned (OpenSpec.ofChange clockTwiceWrong)

/-- 'hourglasslaw02.ClockWindow': WHATEVER THE INPUT: true; the input reads as it did. -/
def clockWindowSpec : ChangeSpec := { name := "clockWindow", fn := fun _ => fun
  | [d1, d2, d3] => { results := [.lit (.bool true)], args := [d1, d2, d3] }
  | _ => none }
def clockWindowRow : OpenClaim := { program := "ytlimcahfkfipgaa", sum := "9df57e6161cb19cbd5b144861cd7504bca9be6ad2d510d7db143c15aa5747cce", func := "hourglass/hourglasslaw02.ClockWindow", spec := "clockWindow", apart := false }
def ClockWindowSaid : Prop := clockWindowRow.holds Try.pinned (OpenSpec.ofChange clockWindowSpec)

/-- ITS FALSE NEIGHBOUR: 'it returns false'. Refute it at one input. -/
def clockWindowWrong : ChangeSpec := { name := "clockWindow", fn := fun _ => fun
  | [d1, d2, d3] => { results := [.lit (.bool false)], args := [d1, d2, d3] }
  | _ => none }
def ClockWindowWrongFalsely : Prop := clockWindowRow.holds Try.pinned (OpenSpec.ofChange clockWindowWrong)

/-- 'hourglasslaw02.ClockTurns': WHATEVER THE INPUT: true; the input reads as it did. -/
def clockTurnsSpec : ChangeSpec := { name := "clockTurns", fn := fun _ => fun
  | [d1, d2, d3] => { results := [.lit (.bool true)], args := [d1, d2, d3] }
  | _ => none }
def clockTurnsRow : OpenClaim := { program := "ytlimcahfkfipgaa", sum := "9df57e6161cb19cbd5b144861cd7504bca9be6ad2d510d7db143c15aa5747cce", func := "hourglass/hourglasslaw02.ClockTurns", spec := "clockTurns", apart := false }
def ClockTurnsSaid : Prop := clockTurnsRow.holds Try.pinned (OpenSpec.ofChange clockTurnsSpec)

/-- ITS FALSE NEIGHBOUR: 'it returns false'. Refute it at one input. -/
def clockTurnsWrong : ChangeSpec := { name := "clockTurns", fn := fun _ => fun
  | [d1, d2, d3] => { results := [.lit (.bool false)], args := [d1, d2, d3] }
  | _ => none }
def ClockTurnsWrongFalsely : Prop := clockTurnsRow.holds Try.pinned (OpenSpec.ofChange clockTurnsWrong)

/-- 'hourglasslaw02.ClockConverts': WHATEVER THE INPUT: true; the input reads as it did. -/
def clockConvertsSpec : ChangeSpec := { name := "clockConverts", fn := fun _ => fun
  | [d1, d2] => { results := [.lit (.bool true)], args := [d1, d2] }
  | _ => none }
def clockConvertsRow : OpenClaim := { program := "ytlimcahfkfipgaa", sum := "9df57e6161cb19cbd5b144861cd7504bca9be6ad2d510d7db143c15aa5747cce", func := "hourglass/hourglasslaw02.ClockConverts", spec := "clockConverts", apart := false }
def ClockConvertsSaid : Prop := clockConvertsRow.holds Try.pinned (OpenSpec.ofChange clockConvertsSpec)

/-- ITS FALSE NEIGHBOUR: 'it returns false'. Refute it at one input. -/
def clockConvertsWrong : ChangeSpec := { name := "clockConverts", fn := fun _ => fun
  | [d1, d2] => { results := [.lit (.bool false)], args := [d1, d2] }
  | _ => none }
def ClockConvertsWrongFalsely : Prop := clockConvertsRow.holds Try.pinned (OpenSpec.ofChange clockConvertsWrong)

/- THE SECOND FORM. 'bulk': how many values and letters a reading holds, each counted each time it is reached (what is shared counts as often as it is met; a slice's spare places count too). A statement '..UptoSaid' is the law's where the arguments, and the package variables that the reading takes, are together of bulk at most 1048576: NARROWER than '..Said'. Prove '..Said' where nothing that the law and all that it calls make is longer than what came in: it says more and counts as full. Else prove '..UptoSaid'. A law counts once. -/
mutual
def uptoBulk {H : Type} : DataW H → Nat
  | .lit (.string bytes) => bytes.length + 1
  | .lit _ => 1
  | .nil => 1
  | .ptr d => uptoBulk d + 1
  | .slice elems spare => uptoBulkAll elems + uptoBulkAll spare + 1
  | .agg parts => uptoBulkAll parts + 1
  | .iface _ d => uptoBulk d + 1
  | .map entries => uptoBulkEntries entries + 1
  | .held _ => 1
def uptoBulkAll {H : Type} : List (DataW H) → Nat
  | [] => 0
  | d :: r => uptoBulk d + uptoBulkAll r
def uptoBulkEntries {H : Type} : List (Lit × DataW H) → Nat
  | [] => 0
  | x :: r => uptoBulkEntry x + uptoBulkEntries r
def uptoBulkEntry {H : Type} : Lit × DataW H → Nat
  | (.string bytes, d) => bytes.length + uptoBulk d + 1
  | (_, d) => uptoBulk d + 1
 end
def uptoSmall : (H : Type) → List (DataW H) → Bool := fun _ ds => decide (uptoBulkAll ds ≤ 1048576)
def OpenSpec.upto (s : _root_.Go.ChangeSpec) : _root_.Go.OpenSpec := { _root_.Go.OpenSpec.ofChange s with cond := some uptoSmall }

/-- 'hourglasslaw02.ClockAdds', WHERE WHAT IT READS IS OF BULK AT MOST 1048576: true; the input reads as it did. -/
def clockAddsUptoRow : OpenClaim := { program := "ytlimcahfkfipgaa", sum := "9df57e6161cb19cbd5b144861cd7504bca9be6ad2d510d7db143c15aa5747cce", func := "hourglass/hourglasslaw02.ClockAdds", spec := "clockAdds", apart := false, narrowed := true }
def ClockAddsUptoSaid : Prop := clockAddsUptoRow.holds Try.pinned (OpenSpec.upto clockAddsSpec)

/-- 'hourglasslaw02.ClockShifts', WHERE WHAT IT READS IS OF BULK AT MOST 1048576: true; the input reads as it did. -/
def clockShiftsUptoRow : OpenClaim := { program := "ytlimcahfkfipgaa", sum := "9df57e6161cb19cbd5b144861cd7504bca9be6ad2d510d7db143c15aa5747cce", func := "hourglass/hourglasslaw02.ClockShifts", spec := "clockShifts", apart := false, narrowed := true }
def ClockShiftsUptoSaid : Prop := clockShiftsUptoRow.holds Try.pinned (OpenSpec.upto clockShiftsSpec)

/-- 'hourglasslaw02.ClockEpochs', WHERE WHAT IT READS IS OF BULK AT MOST 1048576: true; the input reads as it did. -/
def clockEpochsUptoRow : OpenClaim := { program := "ytlimcahfkfipgaa", sum := "9df57e6161cb19cbd5b144861cd7504bca9be6ad2d510d7db143c15aa5747cce", func := "hourglass/hourglasslaw02.ClockEpochs", spec := "clockEpochs", apart := false, narrowed := true }
def ClockEpochsUptoSaid : Prop := clockEpochsUptoRow.holds Try.pinned (OpenSpec.upto clockEpochsSpec)

/-- 'hourglasslaw02.ClockBack', WHERE WHAT IT READS IS OF BULK AT MOST 1048576: true; the input reads as it did. -/
def clockBackUptoRow : OpenClaim := { program := "ytlimcahfkfipgaa", sum := "9df57e6161cb19cbd5b144861cd7504bca9be6ad2d510d7db143c15aa5747cce", func := "hourglass/hourglasslaw02.ClockBack", spec := "clockBack", apart := false, narrowed := true }
def ClockBackUptoSaid : Prop := clockBackUptoRow.holds Try.pinned (OpenSpec.upto clockBackSpec)

/-- 'hourglasslaw02.ClockOrder', WHERE WHAT IT READS IS OF BULK AT MOST 1048576: true; the input reads as it did. -/
def clockOrderUptoRow : OpenClaim := { program := "ytlimcahfkfipgaa", sum := "9df57e6161cb19cbd5b144861cd7504bca9be6ad2d510d7db143c15aa5747cce", func := "hourglass/hourglasslaw02.ClockOrder", spec := "clockOrder", apart := false, narrowed := true }
def ClockOrderUptoSaid : Prop := clockOrderUptoRow.holds Try.pinned (OpenSpec.upto clockOrderSpec)

/-- 'hourglasslaw02.ClockTwice', WHERE WHAT IT READS IS OF BULK AT MOST 1048576: true; the input reads as it did. -/
def clockTwiceUptoRow : OpenClaim := { program := "ytlimcahfkfipgaa", sum := "9df57e6161cb19cbd5b144861cd7504bca9be6ad2d510d7db143c15aa5747cce", func := "hourglass/hourglasslaw02.ClockTwice", spec := "clockTwice", apart := false, narrowed := true }
def ClockTwiceUptoSaid : Prop := clockTwiceUptoRow.holds Try.pinned (OpenSpec.upto clockTwiceSpec)

/-- 'hourglasslaw02.ClockWindow', WHERE WHAT IT READS IS OF BULK AT MOST 1048576: true; the input reads as it did. -/
def clockWindowUptoRow : OpenClaim := { program := "ytlimcahfkfipgaa", sum := "9df57e6161cb19cbd5b144861cd7504bca9be6ad2d510d7db143c15aa5747cce", func := "hourglass/hourglasslaw02.ClockWindow", spec := "clockWindow", apart := false, narrowed := true }
def ClockWindowUptoSaid : Prop := clockWindowUptoRow.holds Try.pinned (OpenSpec.upto clockWindowSpec)

/-- 'hourglasslaw02.ClockTurns', WHERE WHAT IT READS IS OF BULK AT MOST 1048576: true; the input reads as it did. -/
def clockTurnsUptoRow : OpenClaim := { program := "ytlimcahfkfipgaa", sum := "9df57e6161cb19cbd5b144861cd7504bca9be6ad2d510d7db143c15aa5747cce", func := "hourglass/hourglasslaw02.ClockTurns", spec := "clockTurns", apart := false, narrowed := true }
def ClockTurnsUptoSaid : Prop := clockTurnsUptoRow.holds Try.pinned (OpenSpec.upto clockTurnsSpec)

/-- 'hourglasslaw02.ClockConverts', WHERE WHAT IT READS IS OF BULK AT MOST 1048576: true; the input reads as it did. -/
def clockConvertsUptoRow : OpenClaim := { program := "ytlimcahfkfipgaa", sum := "9df57e6161cb19cbd5b144861cd7504bca9be6ad2d510d7db143c15aa5747cce", func := "hourglass/hourglasslaw02.ClockConverts", spec := "clockConverts", apart := false, narrowed := true }
def ClockConvertsUptoSaid : Prop := clockConvertsUptoRow.holds Try.pinned (OpenSpec.upto clockConvertsSpec)

end Rows
end Go.Proofs.Ytlimcahfkfipgaa
