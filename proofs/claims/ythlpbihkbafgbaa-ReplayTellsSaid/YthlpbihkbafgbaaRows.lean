/-
  No cell of these rows narrows 'for every input' (looked for: loops, veiled, ifaces, maps, wideKeys, modest, calm, conditions, laid).
  DERIVED. THE GIVEN ROWS OF THIS SEAT. 5 by the template 'for every input the law returns true; each argument reads behind the call as it read before'; 0 by the template 'total and deterministic' (their statements: YthlpbihkbafgbaaTotals.lean).
  GIVEN WITH THE SEED: the statements are not yours to turn. If you find one false, say at which input.
  Laid BY PROGRAM, IN A SANDBOX (cutbox-rows.mjs): the forced cells as the released guide's own fill.sh prints them over the translation 219b07122780a4ac… (all of the seat's roots in one cut). By AI agents, Wed Nov 11 2026. No macro, syntax, notation, axiom, sorry.
-/
import Derived.Test.YthlpbihkbafgbaaChecked
import GoSem.Claim
import GoSem.ClaimJoined
import GoSem.ClaimMapViews
import Derived.JoinedTies
import Derived.KernelRfl
namespace Go.Proofs.Ythlpbihkbafgbaa
/- THE CELL 'sum', in the pinned program and in every row, IS THE sha256 OF THE DUMP (.gsa) THAT YthlpbihkbafgbaaProg.lean LOADS. Nothing in Lean hashes anything: it is a label: what it is worth is what the hold of that sum in a sandbox is worth. -/
noncomputable def Try.pinned : Pinned := { name := "ythlpbihkbafgbaa", sum := "219b07122780a4ac9d07ed9440f7ec3ade089d4ebc002f2f8bfe99031b9cd40b", checked := Try.checked }
namespace Rows
def none {H : Type} : Left H := { results := [], args := [] }

/-- 'hourglasslaw13.ReplayTells': WHATEVER THE INPUT: true; the input reads as it did. -/
def replayTellsSpec : ChangeSpec := { name := "replayTells", fn := fun _ => fun
  | [d1, d2] => { results := [.lit (.bool true)], args := [d1, d2] }
  | _ => none }
def replayTellsRow : OpenClaim := { program := "ythlpbihkbafgbaa", sum := "219b07122780a4ac9d07ed9440f7ec3ade089d4ebc002f2f8bfe99031b9cd40b", func := "hourglass/hourglasslaw13.ReplayTells", spec := "replayTells", unfollowed := true, recurses := true, plainKeys := false, apart := false }
def ReplayTellsSaid : Prop := replayTellsRow.holds Try.pinned (OpenSpec.ofChange replayTellsSpec)

/-- ITS FALSE NEIGHBOUR: 'it returns false'. Refute it at one input. -/
def replayTellsWrong : ChangeSpec := { name := "replayTells", fn := fun _ => fun
  | [d1, d2] => { results := [.lit (.bool false)], args := [d1, d2] }
  | _ => none }
def ReplayTellsWrongFalsely : Prop := replayTellsRow.holds Try.pinned (OpenSpec.ofChange replayTellsWrong)

/-- 'hourglasslaw13.ReplayOnce': WHATEVER THE INPUT: true; the input reads as it did. -/
def replayOnceSpec : ChangeSpec := { name := "replayOnce", fn := fun _ => fun
  | [d1, d2] => { results := [.lit (.bool true)], args := [d1, d2] }
  | _ => none }
def replayOnceRow : OpenClaim := { program := "ythlpbihkbafgbaa", sum := "219b07122780a4ac9d07ed9440f7ec3ade089d4ebc002f2f8bfe99031b9cd40b", func := "hourglass/hourglasslaw13.ReplayOnce", spec := "replayOnce", unfollowed := true, recurses := true, plainKeys := false, apart := false }
def ReplayOnceSaid : Prop := replayOnceRow.holds Try.pinned (OpenSpec.ofChange replayOnceSpec)

/-- ITS FALSE NEIGHBOUR: 'it returns false'. Refute it at one input. -/
def replayOnceWrong : ChangeSpec := { name := "replayOnce", fn := fun _ => fun
  | [d1, d2] => { results := [.lit (.bool false)], args := [d1, d2] }
  | _ => none }
def ReplayOnceWrongFalsely : Prop := replayOnceRow.holds Try.pinned (OpenSpec.ofChange replayOnceWrong)

/-- 'hourglasslaw13.ReplayFloor': WHATEVER THE INPUT: true; the input reads as it did. -/
def replayFloorSpec : ChangeSpec := { name := "replayFloor", fn := fun _ => fun
  | [d1, d2, d3, d4] => { results := [.lit (.bool true)], args := [d1, d2, d3, d4] }
  | _ => none }
def replayFloorRow : OpenClaim := { program := "ythlpbihkbafgbaa", sum := "219b07122780a4ac9d07ed9440f7ec3ade089d4ebc002f2f8bfe99031b9cd40b", func := "hourglass/hourglasslaw13.ReplayFloor", spec := "replayFloor", unfollowed := true, recurses := true, plainKeys := false, apart := false }
def ReplayFloorSaid : Prop := replayFloorRow.holds Try.pinned (OpenSpec.ofChange replayFloorSpec)

/-- ITS FALSE NEIGHBOUR: 'it returns false'. Refute it at one input. -/
def replayFloorWrong : ChangeSpec := { name := "replayFloor", fn := fun _ => fun
  | [d1, d2, d3, d4] => { results := [.lit (.bool false)], args := [d1, d2, d3, d4] }
  | _ => none }
def ReplayFloorWrongFalsely : Prop := replayFloorRow.holds Try.pinned (OpenSpec.ofChange replayFloorWrong)

/-- 'hourglasslaw13.ReplayApart': WHATEVER THE INPUT: true; the input reads as it did. -/
def replayApartSpec : ChangeSpec := { name := "replayApart", fn := fun _ => fun
  | [d1, d2, d3] => { results := [.lit (.bool true)], args := [d1, d2, d3] }
  | _ => none }
def replayApartRow : OpenClaim := { program := "ythlpbihkbafgbaa", sum := "219b07122780a4ac9d07ed9440f7ec3ade089d4ebc002f2f8bfe99031b9cd40b", func := "hourglass/hourglasslaw13.ReplayApart", spec := "replayApart", unfollowed := true, recurses := true, plainKeys := false, apart := false }
def ReplayApartSaid : Prop := replayApartRow.holds Try.pinned (OpenSpec.ofChange replayApartSpec)

/-- ITS FALSE NEIGHBOUR: 'it returns false'. Refute it at one input. -/
def replayApartWrong : ChangeSpec := { name := "replayApart", fn := fun _ => fun
  | [d1, d2, d3] => { results := [.lit (.bool false)], args := [d1, d2, d3] }
  | _ => none }
def ReplayApartWrongFalsely : Prop := replayApartRow.holds Try.pinned (OpenSpec.ofChange replayApartWrong)

/-- 'hourglasslaw13.ReplayFull': WHATEVER THE INPUT: true; the input reads as it did. -/
def replayFullSpec : ChangeSpec := { name := "replayFull", fn := fun _ => fun
  | [d1, d2, d3] => { results := [.lit (.bool true)], args := [d1, d2, d3] }
  | _ => none }
def replayFullRow : OpenClaim := { program := "ythlpbihkbafgbaa", sum := "219b07122780a4ac9d07ed9440f7ec3ade089d4ebc002f2f8bfe99031b9cd40b", func := "hourglass/hourglasslaw13.ReplayFull", spec := "replayFull", unfollowed := true, recurses := true, plainKeys := false, apart := false }
def ReplayFullSaid : Prop := replayFullRow.holds Try.pinned (OpenSpec.ofChange replayFullSpec)

/-- ITS FALSE NEIGHBOUR: 'it returns false'. Refute it at one input. -/
def replayFullWrong : ChangeSpec := { name := "replayFull", fn := fun _ => fun
  | [d1, d2, d3] => { results := [.lit (.bool false)], args := [d1, d2, d3] }
  | _ => none }
def ReplayFullWrongFalsely : Prop := replayFullRow.holds Try.pinned (OpenSpec.ofChange replayFullWrong)

/- THE SECOND FORM. 'bulk': how many values and letters a reading holds, each counted each time it is reached (what is shared counts as often as it is met; a slice's spare places count too). A statement '..UptoSaid' is the law's where the arguments, and the package variables that the reading takes, are together of bulk at most 1048576: NARROWER than '..Said'. Prove '..Said' where nothing that the law and all that it calls make is longer than what came in: it says more and counts as full. Else prove '..UptoSaid'. A law counts once. -/
mutual
def uptoBulk {H : Type} : DataW H → Nat
  | .lit (.string bytes) => bytes.length + 1
  | .lit _ => 1
  | .nil => 1
  | .ptr d => uptoBulk d + 1
  | .slice elems spare => uptoBulkAll elems + uptoBulkAll spare + 1
  | .agg parts => uptoBulkAll parts + 1
  | .iface _ d => uptoBulk d + 1
  | .map entries => uptoBulkEntries entries + 1
  | .held _ => 1
def uptoBulkAll {H : Type} : List (DataW H) → Nat
  | [] => 0
  | d :: r => uptoBulk d + uptoBulkAll r
def uptoBulkEntries {H : Type} : List (Lit × DataW H) → Nat
  | [] => 0
  | x :: r => uptoBulkEntry x + uptoBulkEntries r
def uptoBulkEntry {H : Type} : Lit × DataW H → Nat
  | (.string bytes, d) => bytes.length + uptoBulk d + 1
  | (_, d) => uptoBulk d + 1
 end
def uptoSmall : (H : Type) → List (DataW H) → Bool := fun _ ds => decide (uptoBulkAll ds ≤ 1048576)
def OpenSpec.upto (s : _root_.Go.ChangeSpec) : _root_.Go.OpenSpec := { _root_.Go.OpenSpec.ofChange s with cond := some uptoSmall }

/-- 'hourglasslaw13.ReplayTells', WHERE WHAT IT READS IS OF BULK AT MOST 1048576: true; the input reads as it did. -/
def replayTellsUptoRow : OpenClaim := { program := "ythlpbihkbafgbaa", sum := "219b07122780a4ac9d07ed9440f7ec3ade089d4ebc002f2f8bfe99031b9cd40b", func := "hourglass/hourglasslaw13.ReplayTells", spec := "replayTells", unfollowed := true, recurses := true, plainKeys := false, apart := false, narrowed := true }
def ReplayTellsUptoSaid : Prop := replayTellsUptoRow.holds Try.pinned (OpenSpec.upto replayTellsSpec)

/-- 'hourglasslaw13.ReplayOnce', WHERE WHAT IT READS IS OF BULK AT MOST 1048576: true; the input reads as it did. -/
def replayOnceUptoRow : OpenClaim := { program := "ythlpbihkbafgbaa", sum := "219b07122780a4ac9d07ed9440f7ec3ade089d4ebc002f2f8bfe99031b9cd40b", func := "hourglass/hourglasslaw13.ReplayOnce", spec := "replayOnce", unfollowed := true, recurses := true, plainKeys := false, apart := false, narrowed := true }
def ReplayOnceUptoSaid : Prop := replayOnceUptoRow.holds Try.pinned (OpenSpec.upto replayOnceSpec)

/-- 'hourglasslaw13.ReplayFloor', WHERE WHAT IT READS IS OF BULK AT MOST 1048576: true; the input reads as it did. -/
def replayFloorUptoRow : OpenClaim := { program := "ythlpbihkbafgbaa", sum := "219b07122780a4ac9d07ed9440f7ec3ade089d4ebc002f2f8bfe99031b9cd40b", func := "hourglass/hourglasslaw13.ReplayFloor", spec := "replayFloor", unfollowed := true, recurses := true, plainKeys := false, apart := false, narrowed := true }
def ReplayFloorUptoSaid : Prop := replayFloorUptoRow.holds Try.pinned (OpenSpec.upto replayFloorSpec)

/-- 'hourglasslaw13.ReplayApart', WHERE WHAT IT READS IS OF BULK AT MOST 1048576: true; the input reads as it did. -/
def replayApartUptoRow : OpenClaim := { program := "ythlpbihkbafgbaa", sum := "219b07122780a4ac9d07ed9440f7ec3ade089d4ebc002f2f8bfe99031b9cd40b", func := "hourglass/hourglasslaw13.ReplayApart", spec := "replayApart", unfollowed := true, recurses := true, plainKeys := false, apart := false, narrowed := true }
def ReplayApartUptoSaid : Prop := replayApartUptoRow.holds Try.pinned (OpenSpec.upto replayApartSpec)

/-- 'hourglasslaw13.ReplayFull', WHERE WHAT IT READS IS OF BULK AT MOST 1048576: true; the input reads as it did. -/
def replayFullUptoRow : OpenClaim := { program := "ythlpbihkbafgbaa", sum := "219b07122780a4ac9d07ed9440f7ec3ade089d4ebc002f2f8bfe99031b9cd40b", func := "hourglass/hourglasslaw13.ReplayFull", spec := "replayFull", unfollowed := true, recurses := true, plainKeys := false, apart := false, narrowed := true }
def ReplayFullUptoSaid : Prop := replayFullUptoRow.holds Try.pinned (OpenSpec.upto replayFullSpec)

end Rows
end Go.Proofs.Ythlpbihkbafgbaa
