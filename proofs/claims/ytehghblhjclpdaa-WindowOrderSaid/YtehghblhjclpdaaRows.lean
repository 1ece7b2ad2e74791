/-
  No cell of these rows narrows 'for every input' (looked for: loops, veiled, ifaces, maps, wideKeys, modest, calm, conditions, laid).
  DERIVED. THE GIVEN ROWS OF THIS SEAT. 6 by the template 'for every input the law returns true; each argument reads behind the call as it read before'; 0 by the template 'total and deterministic' (their statements: YtehghblhjclpdaaTotals.lean).
  GIVEN WITH THE SEED: the statements are not yours to turn. If you find one false, say at which input.
  Laid BY PROGRAM, IN A SANDBOX (cutbox-rows.mjs): the forced cells as the released guide's own fill.sh prints them over the translation de62fe7710b15d44… (all of the seat's roots in one cut). By AI agents, Wed Nov 11 2026. No macro, syntax, notation, axiom, sorry.
-/
import Derived.Test.YtehghblhjclpdaaChecked
import GoSem.Claim
import GoSem.ClaimJoined
import GoSem.ClaimMapViews
import Derived.JoinedTies
import Derived.KernelRfl
namespace Go.Proofs.Ytehghblhjclpdaa
/- THE CELL 'sum', in the pinned program and in every row, IS THE sha256 OF THE DUMP (.gsa) THAT YtehghblhjclpdaaProg.lean LOADS. Nothing in Lean hashes anything: it is a label: what it is worth is what the hold of that sum in a sandbox is worth. -/
noncomputable def Try.pinned : Pinned := { name := "ytehghblhjclpdaa", sum := "de62fe7710b15d449e40f0e9d6d1a6e3be1506eb808598cc03b59177ebd45723", checked := Try.checked }
namespace Rows
def none {H : Type} : Left H := { results := [], args := [] }

/-- 'hourglasslaw08.WindowTells': WHATEVER THE INPUT: true; the input reads as it did. -/
def windowTellsSpec : ChangeSpec := { name := "windowTells", fn := fun _ => fun
  | [d1, d2, d3, d4, d5] => { results := [.lit (.bool true)], args := [d1, d2, d3, d4, d5] }
  | _ => none }
def windowTellsRow : OpenClaim := { program := "ytehghblhjclpdaa", sum := "de62fe7710b15d449e40f0e9d6d1a6e3be1506eb808598cc03b59177ebd45723", func := "hourglass/hourglasslaw08.WindowTells", spec := "windowTells", apart := false }
def WindowTellsSaid : Prop := windowTellsRow.holds Try.pinned (OpenSpec.ofChange windowTellsSpec)

/-- ITS FALSE NEIGHBOUR: 'it returns false'. Refute it at one input. -/
def windowTellsWrong : ChangeSpec := { name := "windowTells", fn := fun _ => fun
  | [d1, d2, d3, d4, d5] => { results := [.lit (.bool false)], args := [d1, d2, d3, d4, d5] }
  | _ => none }
def WindowTellsWrongFalsely : Prop := windowTellsRow.holds Try.pinned (OpenSpec.ofChange windowTellsWrong)

/-- 'hourglasslaw08.WindowComes': WHATEVER THE INPUT: true; the input reads as it did. -/
def windowComesSpec : ChangeSpec := { name := "windowComes", fn := fun _ => fun
  | [d1, d2, d3, d4, d5, d6] => { results := [.lit (.bool true)], args := [d1, d2, d3, d4, d5, d6] }
  | _ => none }
def windowComesRow : OpenClaim := { program := "ytehghblhjclpdaa", sum := "de62fe7710b15d449e40f0e9d6d1a6e3be1506eb808598cc03b59177ebd45723", func := "hourglass/hourglasslaw08.WindowComes", spec := "windowComes", apart := false }
def WindowComesSaid : Prop := windowComesRow.holds Try.pinned (OpenSpec.ofChange windowComesSpec)

/-- ITS FALSE NEIGHBOUR: 'it returns false'. Refute it at one input. -/
def windowComesWrong : ChangeSpec := { name := "windowComes", fn := fun _ => fun
  | [d1, d2, d3, d4, d5, d6] => { results := [.lit (.bool false)], args := [d1, d2, d3, d4, d5, d6] }
  | _ => none }
def WindowComesWrongFalsely : Prop := windowComesRow.holds Try.pinned (OpenSpec.ofChange windowComesWrong)

/-- 'hourglasslaw08.WindowOrder': WHATEVER THE INPUT: true; the input reads as it did. -/
def windowOrderSpec : ChangeSpec := { name := "windowOrder", fn := fun _ => fun
  | [d1, d2, d3, d4, d5, d6, d7] => { results := [.lit (.bool true)], args := [d1, d2, d3, d4, d5, d6, d7] }
  | _ => none }
def windowOrderRow : OpenClaim := { program := "ytehghblhjclpdaa", sum := "de62fe7710b15d449e40f0e9d6d1a6e3be1506eb808598cc03b59177ebd45723", func := "hourglass/hourglasslaw08.WindowOrder", spec := "windowOrder", apart := false }
def WindowOrderSaid : Prop := windowOrderRow.holds Try.pinned (OpenSpec.ofChange windowOrderSpec)

/-- ITS FALSE NEIGHBOUR: 'it returns false'. Refute it at one input. -/
def windowOrderWrong : ChangeSpec := { name := "windowOrder", fn := fun _ => fun
  | [d1, d2, d3, d4, d5, d6, d7] => { results := [.lit (.bool false)], args := [d1, d2, d3, d4, d5, d6, d7] }
  | _ => none }
def WindowOrderWrongFalsely : Prop := windowOrderRow.holds Try.pinned (OpenSpec.ofChange windowOrderWrong)

/-- 'hourglasslaw08.WindowHas': WHATEVER THE INPUT: true; the input reads as it did. -/
def windowHasSpec : ChangeSpec := { name := "windowHas", fn := fun _ => fun
  | [d1, d2, d3] => { results := [.lit (.bool true)], args := [d1, d2, d3] }
  | _ => none }
def windowHasRow : OpenClaim := { program := "ytehghblhjclpdaa", sum := "de62fe7710b15d449e40f0e9d6d1a6e3be1506eb808598cc03b59177ebd45723", func := "hourglass/hourglasslaw08.WindowHas", spec := "windowHas", apart := false }
def WindowHasSaid : Prop := windowHasRow.holds Try.pinned (OpenSpec.ofChange windowHasSpec)

/-- ITS FALSE NEIGHBOUR: 'it returns false'. Refute it at one input. -/
def windowHasWrong : ChangeSpec := { name := "windowHas", fn := fun _ => fun
  | [d1, d2, d3] => { results := [.lit (.bool false)], args := [d1, d2, d3] }
  | _ => none }
def WindowHasWrongFalsely : Prop := windowHasRow.holds Try.pinned (OpenSpec.ofChange windowHasWrong)

/-- 'hourglasslaw08.WindowMoves': WHATEVER THE INPUT: true; the input reads as it did. -/
def windowMovesSpec : ChangeSpec := { name := "windowMoves", fn := fun _ => fun
  | [d1, d2, d3, d4, d5] => { results := [.lit (.bool true)], args := [d1, d2, d3, d4, d5] }
  | _ => none }
def windowMovesRow : OpenClaim := { program := "ytehghblhjclpdaa", sum := "de62fe7710b15d449e40f0e9d6d1a6e3be1506eb808598cc03b59177ebd45723", func := "hourglass/hourglasslaw08.WindowMoves", spec := "windowMoves", apart := false }
def WindowMovesSaid : Prop := windowMovesRow.holds Try.pinned (OpenSpec.ofChange windowMovesSpec)

/-- ITS FALSE NEIGHBOUR: 'it returns false'. Refute it at one input. -/
def windowMovesWrong : ChangeSpec := { name := "windowMoves", fn := fun _ => fun
  | [d1, d2, d3, d4, d5] => { results := [.lit (.bool false)], args := [d1, d2, d3, d4, d5] }
  | _ => none }
def WindowMovesWrongFalsely : Prop := windowMovesRow.holds Try.pinned (OpenSpec.ofChange windowMovesWrong)

/-- 'hourglasslaw08.WindowParts': WHATEVER THE INPUT: true; the input reads as it did. -/
def windowPartsSpec : ChangeSpec := { name := "windowParts", fn := fun _ => fun
  | [d1, d2, d3, d4, d5] => { results := [.lit (.bool true)], args := [d1, d2, d3, d4, d5] }
  | _ => none }
def windowPartsRow : OpenClaim := { program := "ytehghblhjclpdaa", sum := "de62fe7710b15d449e40f0e9d6d1a6e3be1506eb808598cc03b59177ebd45723", func := "hourglass/hourglasslaw08.WindowParts", spec := "windowParts", apart := false }
def WindowPartsSaid : Prop := windowPartsRow.holds Try.pinned (OpenSpec.ofChange windowPartsSpec)

/-- ITS FALSE NEIGHBOUR: 'it returns false'. Refute it at one input. -/
def windowPartsWrong : ChangeSpec := { name := "windowParts", fn := fun _ => fun
  | [d1, d2, d3, d4, d5] => { results := [.lit (.bool false)], args := [d1, d2, d3, d4, d5] }
  | _ => none }
def WindowPartsWrongFalsely : Prop := windowPartsRow.holds Try.pinned (OpenSpec.ofChange windowPartsWrong)

/- THE SECOND FORM. 'bulk': how many values and letters a reading holds, each counted each time it is reached (what is shared counts as often as it is met; a slice's spare places count too). A statement '..UptoSaid' is the law's where the arguments, and the package variables that the reading takes, are together of bulk at most 1048576: NARROWER than '..Said'. Prove '..Said' where nothing that the law and all that it calls make is longer than what came in: it says more and counts as full. Else prove '..UptoSaid'. A law counts once. -/
mutual
def uptoBulk {H : Type} : DataW H → Nat
  | .lit (.string bytes) => bytes.length + 1
  | .lit _ => 1
  | .nil => 1
  | .ptr d => uptoBulk d + 1
  | .slice elems spare => uptoBulkAll elems + uptoBulkAll spare + 1
  | .agg parts => uptoBulkAll parts + 1
  | .iface _ d => uptoBulk d + 1
  | .map entries => uptoBulkEntries entries + 1
  | .held _ => 1
def uptoBulkAll {H : Type} : List (DataW H) → Nat
  | [] => 0
  | d :: r => uptoBulk d + uptoBulkAll r
def uptoBulkEntries {H : Type} : List (Lit × DataW H) → Nat
  | [] => 0
  | x :: r => uptoBulkEntry x + uptoBulkEntries r
def uptoBulkEntry {H : Type} : Lit × DataW H → Nat
  | (.string bytes, d) => bytes.length + uptoBulk d + 1
  | (_, d) => uptoBulk d + 1
 end
def uptoSmall : (H : Type) → List (DataW H) → Bool := fun _ ds => decide (uptoBulkAll ds ≤ 1048576)
def OpenSpec.upto (s : _root_.Go.ChangeSpec) : _root_.Go.OpenSpec := { _root_.Go.OpenSpec.ofChange s with cond := some uptoSmall }

/-- 'hourglasslaw08.WindowTells', WHERE WHAT IT READS IS OF BULK AT MOST 1048576: true; the input reads as it did. -/
def windowTellsUptoRow : OpenClaim := { program := "ytehghblhjclpdaa", sum := "de62fe7710b15d449e40f0e9d6d1a6e3be1506eb808598cc03b59177ebd45723", func := "hourglass/hourglasslaw08.WindowTells", spec := "windowTells", apart := false, narrowed := true }
def WindowTellsUptoSaid : Prop := windowTellsUptoRow.holds Try.pinned (OpenSpec.upto windowTellsSpec)

/-- 'hourglasslaw08.WindowComes', WHERE WHAT IT READS IS OF BULK AT MOST 1048576: true; the input reads as it did. -/
def windowComesUptoRow : OpenClaim := { program := "ytehghblhjclpdaa", sum := "de62fe7710b15d449e40f0e9d6d1a6e3be1506eb808598cc03b59177ebd45723", func := "hourglass/hourglasslaw08.WindowComes", spec := "windowComes", apart := false, narrowed := true }
def WindowComesUptoSaid : Prop := windowComesUptoRow.holds Try.pinned (OpenSpec.upto windowComesSpec)

/-- 'hourglasslaw08.WindowOrder', WHERE WHAT IT READS IS OF BULK AT MOST 1048576: true; the input reads as it did. -/
def windowOrderUptoRow : OpenClaim := { program := "ytehghblhjclpdaa", sum := "de62fe7710b15d449e40f0e9d6d1a6e3be1506eb808598cc03b59177ebd45723", func := "hourglass/hourglasslaw08.WindowOrder", spec := "windowOrder", apart := false, narrowed := true }
def WindowOrderUptoSaid : Prop := windowOrderUptoRow.holds Try.pinned (OpenSpec.upto windowOrderSpec)

/-- 'hourglasslaw08.WindowHas', WHERE WHAT IT READS IS OF BULK AT MOST 1048576: true; the input reads as it did. -/
def windowHasUptoRow : OpenClaim := { program := "ytehghblhjclpdaa", sum := "de62fe7710b15d449e40f0e9d6d1a6e3be1506eb808598cc03b59177ebd45723", func := "hourglass/hourglasslaw08.WindowHas", spec := "windowHas", apart := false, narrowed := true }
def WindowHasUptoSaid : Prop := windowHasUptoRow.holds Try.pinned (OpenSpec.upto windowHasSpec)

/-- 'hourglasslaw08.WindowMoves', WHERE WHAT IT READS IS OF BULK AT MOST 1048576: true; the input reads as it did. -/
def windowMovesUptoRow : OpenClaim := { program := "ytehghblhjclpdaa", sum := "de62fe7710b15d449e40f0e9d6d1a6e3be1506eb808598cc03b59177ebd45723", func := "hourglass/hourglasslaw08.WindowMoves", spec := "windowMoves", apart := false, narrowed := true }
def WindowMovesUptoSaid : Prop := windowMovesUptoRow.holds Try.pinned (OpenSpec.upto windowMovesSpec)

/-- 'hourglasslaw08.WindowParts', WHERE WHAT IT READS IS OF BULK AT MOST 1048576: true; the input reads as it did. -/
def windowPartsUptoRow : OpenClaim := { program := "ytehghblhjclpdaa", sum := "de62fe7710b15d449e40f0e9d6d1a6e3be1506eb808598cc03b59177ebd45723", func := "hourglass/hourglasslaw08.WindowParts", spec := "windowParts", apart := false, narrowed := true }
def WindowPartsUptoSaid : Prop := windowPartsUptoRow.holds Try.pinned (OpenSpec.upto windowPartsSpec)

end Rows
end Go.Proofs.Ytehghblhjclpdaa
