/-
  NARROWER THAN 'FOR EVERY INPUT', by the rows' own cells (each row's printed sentence says how): ChachaOwn: laid · ChachaVectors: laid · ChachaXors: laid · ChachaTells: laid · ChachaStreams: laid · ChachaHides: laid · ChachaCuts: laid.
  DERIVED. THE GIVEN ROWS OF THIS SEAT. 7 by the template 'for every input the law returns true; each argument reads behind the call as it read before'; 0 by the template 'total and deterministic' (their statements: YtlpfmehcghhdcaaDoorTotals.lean).
  GIVEN WITH THE SEED: the statements are not yours to turn. If you find one false, say at which input.
  Laid BY PROGRAM, IN A SANDBOX (cutbox-rows.mjs): the forced cells as the released guide's own fill.sh prints them over the translation 8424970a4685e652… (all of the seat's roots in one cut). By AI agents, Wed Nov 11 2026. No macro, syntax, notation, axiom, sorry.
-/
import Derived.Test.YtlpfmehcghhdcaaDoorChecked
import GoSem.Claim
import GoSem.ClaimJoined
import GoSem.ClaimMapViews
import Derived.JoinedTies
import Derived.KernelRfl
namespace Go.Proofs.YtlpfmehcghhdcaaDoor
/- THE CELL 'sum', in the pinned program and in every row, IS THE sha256 OF THE DUMP (.gsa) THAT YtlpfmehcghhdcaaDoorProg.lean LOADS. Nothing in Lean hashes anything: it is a label: what it is worth is what the hold of that sum in a sandbox is worth. -/
noncomputable def Tryd.pinned : Pinned := { name := "ytlpfmehcghhdcaadoor", sum := "8424970a4685e652e0bcdc4defd236d3a06f3b30a98667a774e182d1ac3a567c", checked := Tryd.checked }
namespace Rows
def none {H : Type} : Left H := { results := [], args := [] }

/- WHAT THE LISTED PACKAGE-LEVEL VARIABLES READ AS WHEN THE CALL BEGINS. Each datum BY PROGRAM (the guide's laid-datum.mjs) off the statement by which the dump's own 'gosem.cut.vars' lays the variable. In a bare row this is a premise. The card (YtlpfmehcghhdcaaDoorCards.lean) ties it to the program's text. -/
def laid_hourglass_chacha_begins {H : Type} : DataW H := .agg [.lit (.int .u32 1634760805), .lit (.int .u32 857760878), .lit (.int .u32 2036477234), .lit (.int .u32 1797285236)]
def laid_hourglass_chacha_quarters {H : Type} : DataW H := .agg [.agg [.lit (.int .i64 0), .lit (.int .i64 4), .lit (.int .i64 8), .lit (.int .i64 12)], .agg [.lit (.int .i64 1), .lit (.int .i64 5), .lit (.int .i64 9), .lit (.int .i64 13)], .agg [.lit (.int .i64 2), .lit (.int .i64 6), .lit (.int .i64 10), .lit (.int .i64 14)], .agg [.lit (.int .i64 3), .lit (.int .i64 7), .lit (.int .i64 11), .lit (.int .i64 15)], .agg [.lit (.int .i64 0), .lit (.int .i64 5), .lit (.int .i64 10), .lit (.int .i64 15)], .agg [.lit (.int .i64 1), .lit (.int .i64 6), .lit (.int .i64 11), .lit (.int .i64 12)], .agg [.lit (.int .i64 2), .lit (.int .i64 7), .lit (.int .i64 8), .lit (.int .i64 13)], .agg [.lit (.int .i64 3), .lit (.int .i64 4), .lit (.int .i64 9), .lit (.int .i64 14)]]
def laid_hourglass_chacha_turns {H : Type} : DataW H := .agg [.agg [.lit (.int .i64 16), .lit (.int .i64 12)], .agg [.lit (.int .i64 8), .lit (.int .i64 7)]]

/-- 'hourglasslaw05.ChachaOwn': WHATEVER THE INPUT: true; the input reads as it did. -/
def chachaOwnSpec : ChangeSpec := { name := "chachaOwn", fn := fun _ => fun
  | [d1, d2, d3] => { results := [.lit (.bool true)], args := [d1, d2, d3] }
  | _ => none }
def chachaOwnRow : OpenClaim := { program := "ytlpfmehcghhdcaadoor", sum := "8424970a4685e652e0bcdc4defd236d3a06f3b30a98667a774e182d1ac3a567c", func := "hourglass/hourglasslaw05.ChachaOwn", spec := "chachaOwn", named := ["hourglass/chacha.begins", "hourglass/chacha.quarters", "hourglass/chacha.turns"], apart := false, laid := [("hourglass/chacha.begins", laid_hourglass_chacha_begins), ("hourglass/chacha.quarters", laid_hourglass_chacha_quarters), ("hourglass/chacha.turns", laid_hourglass_chacha_turns)] }
def ChachaOwnSaid : Prop := chachaOwnRow.holds Tryd.pinned (OpenSpec.ofChange chachaOwnSpec)

/-- ITS FALSE NEIGHBOUR: 'it returns false'. Refute it at one input. -/
def chachaOwnWrong : ChangeSpec := { name := "chachaOwn", fn := fun _ => fun
  | [d1, d2, d3] => { results := [.lit (.bool false)], args := [d1, d2, d3] }
  | _ => none }
def ChachaOwnWrongFalsely : Prop := chachaOwnRow.holds Tryd.pinned (OpenSpec.ofChange chachaOwnWrong)

/-- 'hourglasslaw05.ChachaVectors': WHATEVER THE INPUT: true; the input reads as it did. -/
def chachaVectorsSpec : ChangeSpec := { name := "chachaVectors", fn := fun _ => fun
  | [d] => { results := [.lit (.bool true)], args := [d] }
  | _ => none }
def chachaVectorsRow : OpenClaim := { program := "ytlpfmehcghhdcaadoor", sum := "8424970a4685e652e0bcdc4defd236d3a06f3b30a98667a774e182d1ac3a567c", func := "hourglass/hourglasslaw05.ChachaVectors", spec := "chachaVectors", named := ["hourglass/chacha.begins", "hourglass/chacha.quarters", "hourglass/chacha.turns"], apart := false, laid := [("hourglass/chacha.begins", laid_hourglass_chacha_begins), ("hourglass/chacha.quarters", laid_hourglass_chacha_quarters), ("hourglass/chacha.turns", laid_hourglass_chacha_turns)] }
def ChachaVectorsSaid : Prop := chachaVectorsRow.holds Tryd.pinned (OpenSpec.ofChange chachaVectorsSpec)

/-- ITS FALSE NEIGHBOUR: 'it returns false'. Refute it at one input. -/
def chachaVectorsWrong : ChangeSpec := { name := "chachaVectors", fn := fun _ => fun
  | [d] => { results := [.lit (.bool false)], args := [d] }
  | _ => none }
def ChachaVectorsWrongFalsely : Prop := chachaVectorsRow.holds Tryd.pinned (OpenSpec.ofChange chachaVectorsWrong)

/-- 'hourglasslaw05.ChachaXors': WHATEVER THE INPUT: true; the input reads as it did. -/
def chachaXorsSpec : ChangeSpec := { name := "chachaXors", fn := fun _ => fun
  | [d1, d2, d3] => { results := [.lit (.bool true)], args := [d1, d2, d3] }
  | _ => none }
def chachaXorsRow : OpenClaim := { program := "ytlpfmehcghhdcaadoor", sum := "8424970a4685e652e0bcdc4defd236d3a06f3b30a98667a774e182d1ac3a567c", func := "hourglass/hourglasslaw05.ChachaXors", spec := "chachaXors", named := ["hourglass/chacha.begins", "hourglass/chacha.quarters", "hourglass/chacha.turns"], apart := false, laid := [("hourglass/chacha.begins", laid_hourglass_chacha_begins), ("hourglass/chacha.quarters", laid_hourglass_chacha_quarters), ("hourglass/chacha.turns", laid_hourglass_chacha_turns)] }
def ChachaXorsSaid : Prop := chachaXorsRow.holds Tryd.pinned (OpenSpec.ofChange chachaXorsSpec)

/-- ITS FALSE NEIGHBOUR: 'it returns false'. Refute it at one input. -/
def chachaXorsWrong : ChangeSpec := { name := "chachaXors", fn := fun _ => fun
  | [d1, d2, d3] => { results := [.lit (.bool false)], args := [d1, d2, d3] }
  | _ => none }
def ChachaXorsWrongFalsely : Prop := chachaXorsRow.holds Tryd.pinned (OpenSpec.ofChange chachaXorsWrong)

/-- 'hourglasslaw05.ChachaTells': WHATEVER THE INPUT: true; the input reads as it did. -/
def chachaTellsSpec : ChangeSpec := { name := "chachaTells", fn := fun _ => fun
  | [d1, d2, d3, d4] => { results := [.lit (.bool true)], args := [d1, d2, d3, d4] }
  | _ => none }
def chachaTellsRow : OpenClaim := { program := "ytlpfmehcghhdcaadoor", sum := "8424970a4685e652e0bcdc4defd236d3a06f3b30a98667a774e182d1ac3a567c", func := "hourglass/hourglasslaw05.ChachaTells", spec := "chachaTells", named := ["hourglass/chacha.begins", "hourglass/chacha.quarters", "hourglass/chacha.turns"], apart := false, laid := [("hourglass/chacha.begins", laid_hourglass_chacha_begins), ("hourglass/chacha.quarters", laid_hourglass_chacha_quarters), ("hourglass/chacha.turns", laid_hourglass_chacha_turns)] }
def ChachaTellsSaid : Prop := chachaTellsRow.holds Tryd.pinned (OpenSpec.ofChange chachaTellsSpec)

/-- ITS FALSE NEIGHBOUR: 'it returns false'. Refute it at one input. -/
def chachaTellsWrong : ChangeSpec := { name := "chachaTells", fn := fun _ => fun
  | [d1, d2, d3, d4] => { results := [.lit (.bool false)], args := [d1, d2, d3, d4] }
  | _ => none }
def ChachaTellsWrongFalsely : Prop := chachaTellsRow.holds Tryd.pinned (OpenSpec.ofChange chachaTellsWrong)

/-- 'hourglasslaw05.ChachaStreams': WHATEVER THE INPUT: true; the input reads as it did. -/
def chachaStreamsSpec : ChangeSpec := { name := "chachaStreams", fn := fun _ => fun
  | [d1, d2, d3, d4] => { results := [.lit (.bool true)], args := [d1, d2, d3, d4] }
  | _ => none }
def chachaStreamsRow : OpenClaim := { program := "ytlpfmehcghhdcaadoor", sum := "8424970a4685e652e0bcdc4defd236d3a06f3b30a98667a774e182d1ac3a567c", func := "hourglass/hourglasslaw05.ChachaStreams", spec := "chachaStreams", named := ["hourglass/chacha.begins", "hourglass/chacha.quarters", "hourglass/chacha.turns"], apart := false, laid := [("hourglass/chacha.begins", laid_hourglass_chacha_begins), ("hourglass/chacha.quarters", laid_hourglass_chacha_quarters), ("hourglass/chacha.turns", laid_hourglass_chacha_turns)] }
def ChachaStreamsSaid : Prop := chachaStreamsRow.holds Tryd.pinned (OpenSpec.ofChange chachaStreamsSpec)

/-- ITS FALSE NEIGHBOUR: 'it returns false'. Refute it at one input. -/
def chachaStreamsWrong : ChangeSpec := { name := "chachaStreams", fn := fun _ => fun
  | [d1, d2, d3, d4] => { results := [.lit (.bool false)], args := [d1, d2, d3, d4] }
  | _ => none }
def ChachaStreamsWrongFalsely : Prop := chachaStreamsRow.holds Tryd.pinned (OpenSpec.ofChange chachaStreamsWrong)

/-- 'hourglasslaw05.ChachaHides': WHATEVER THE INPUT: true; the input reads as it did. -/
def chachaHidesSpec : ChangeSpec := { name := "chachaHides", fn := fun _ => fun
  | [d1, d2, d3] => { results := [.lit (.bool true)], args := [d1, d2, d3] }
  | _ => none }
def chachaHidesRow : OpenClaim := { program := "ytlpfmehcghhdcaadoor", sum := "8424970a4685e652e0bcdc4defd236d3a06f3b30a98667a774e182d1ac3a567c", func := "hourglass/hourglasslaw05.ChachaHides", spec := "chachaHides", named := ["hourglass/chacha.begins", "hourglass/chacha.quarters", "hourglass/chacha.turns"], apart := false, laid := [("hourglass/chacha.begins", laid_hourglass_chacha_begins), ("hourglass/chacha.quarters", laid_hourglass_chacha_quarters), ("hourglass/chacha.turns", laid_hourglass_chacha_turns)] }
def ChachaHidesSaid : Prop := chachaHidesRow.holds Tryd.pinned (OpenSpec.ofChange chachaHidesSpec)

/-- ITS FALSE NEIGHBOUR: 'it returns false'. Refute it at one input. -/
def chachaHidesWrong : ChangeSpec := { name := "chachaHides", fn := fun _ => fun
  | [d1, d2, d3] => { results := [.lit (.bool false)], args := [d1, d2, d3] }
  | _ => none }
def ChachaHidesWrongFalsely : Prop := chachaHidesRow.holds Tryd.pinned (OpenSpec.ofChange chachaHidesWrong)

/-- 'hourglasslaw05.ChachaCuts': WHATEVER THE INPUT: true; the input reads as it did. -/
def chachaCutsSpec : ChangeSpec := { name := "chachaCuts", fn := fun _ => fun
  | [d1, d2, d3, d4] => { results := [.lit (.bool true)], args := [d1, d2, d3, d4] }
  | _ => none }
def chachaCutsRow : OpenClaim := { program := "ytlpfmehcghhdcaadoor", sum := "8424970a4685e652e0bcdc4defd236d3a06f3b30a98667a774e182d1ac3a567c", func := "hourglass/hourglasslaw05.ChachaCuts", spec := "chachaCuts", named := ["hourglass/chacha.begins", "hourglass/chacha.quarters", "hourglass/chacha.turns"], apart := false, laid := [("hourglass/chacha.begins", laid_hourglass_chacha_begins), ("hourglass/chacha.quarters", laid_hourglass_chacha_quarters), ("hourglass/chacha.turns", laid_hourglass_chacha_turns)] }
def ChachaCutsSaid : Prop := chachaCutsRow.holds Tryd.pinned (OpenSpec.ofChange chachaCutsSpec)

/-- ITS FALSE NEIGHBOUR: 'it returns false'. Refute it at one input. -/
def chachaCutsWrong : ChangeSpec := { name := "chachaCuts", fn := fun _ => fun
  | [d1, d2, d3, d4] => { results := [.lit (.bool false)], args := [d1, d2, d3, d4] }
  | _ => none }
def ChachaCutsWrongFalsely : Prop := chachaCutsRow.holds Tryd.pinned (OpenSpec.ofChange chachaCutsWrong)

/- THE SECOND FORM. 'bulk': how many values and letters a reading holds, each counted each time it is reached (what is shared counts as often as it is met; a slice's spare places count too). A statement '..UptoSaid' is the law's where the arguments, and the package variables that the reading takes, are together of bulk at most 1048576: NARROWER than '..Said'. Prove '..Said' where nothing that the law and all that it calls make is longer than what came in: it says more and counts as full. Else prove '..UptoSaid'. A law counts once. -/
mutual
def uptoBulk {H : Type} : DataW H → Nat
  | .lit (.string bytes) => bytes.length + 1
  | .lit _ => 1
  | .nil => 1
  | .ptr d => uptoBulk d + 1
  | .slice elems spare => uptoBulkAll elems + uptoBulkAll spare + 1
  | .agg parts => uptoBulkAll parts + 1
  | .iface _ d => uptoBulk d + 1
  | .map entries => uptoBulkEntries entries + 1
  | .held _ => 1
def uptoBulkAll {H : Type} : List (DataW H) → Nat
  | [] => 0
  | d :: r => uptoBulk d + uptoBulkAll r
def uptoBulkEntries {H : Type} : List (Lit × DataW H) → Nat
  | [] => 0
  | x :: r => uptoBulkEntry x + uptoBulkEntries r
def uptoBulkEntry {H : Type} : Lit × DataW H → Nat
  | (.string bytes, d) => bytes.length + uptoBulk d + 1
  | (_, d) => uptoBulk d + 1
 end
def uptoSmall : (H : Type) → List (DataW H) → Bool := fun _ ds => decide (uptoBulkAll ds ≤ 1048576)
def OpenSpec.upto (s : _root_.Go.ChangeSpec) : _root_.Go.OpenSpec := { _root_.Go.OpenSpec.ofChange s with cond := some uptoSmall }

/-- 'hourglasslaw05.ChachaOwn', WHERE WHAT IT READS IS OF BULK AT MOST 1048576: true; the input reads as it did. -/
def chachaOwnUptoRow : OpenClaim := { program := "ytlpfmehcghhdcaadoor", sum := "8424970a4685e652e0bcdc4defd236d3a06f3b30a98667a774e182d1ac3a567c", func := "hourglass/hourglasslaw05.ChachaOwn", spec := "chachaOwn", named := ["hourglass/chacha.begins", "hourglass/chacha.quarters", "hourglass/chacha.turns"], apart := false, laid := [("hourglass/chacha.begins", laid_hourglass_chacha_begins), ("hourglass/chacha.quarters", laid_hourglass_chacha_quarters), ("hourglass/chacha.turns", laid_hourglass_chacha_turns)], narrowed := true }
def ChachaOwnUptoSaid : Prop := chachaOwnUptoRow.holds Tryd.pinned (OpenSpec.upto chachaOwnSpec)

/-- 'hourglasslaw05.ChachaVectors', WHERE WHAT IT READS IS OF BULK AT MOST 1048576: true; the input reads as it did. -/
def chachaVectorsUptoRow : OpenClaim := { program := "ytlpfmehcghhdcaadoor", sum := "8424970a4685e652e0bcdc4defd236d3a06f3b30a98667a774e182d1ac3a567c", func := "hourglass/hourglasslaw05.ChachaVectors", spec := "chachaVectors", named := ["hourglass/chacha.begins", "hourglass/chacha.quarters", "hourglass/chacha.turns"], apart := false, laid := [("hourglass/chacha.begins", laid_hourglass_chacha_begins), ("hourglass/chacha.quarters", laid_hourglass_chacha_quarters), ("hourglass/chacha.turns", laid_hourglass_chacha_turns)], narrowed := true }
def ChachaVectorsUptoSaid : Prop := chachaVectorsUptoRow.holds Tryd.pinned (OpenSpec.upto chachaVectorsSpec)

/-- 'hourglasslaw05.ChachaXors', WHERE WHAT IT READS IS OF BULK AT MOST 1048576: true; the input reads as it did. -/
def chachaXorsUptoRow : OpenClaim := { program := "ytlpfmehcghhdcaadoor", sum := "8424970a4685e652e0bcdc4defd236d3a06f3b30a98667a774e182d1ac3a567c", func := "hourglass/hourglasslaw05.ChachaXors", spec := "chachaXors", named := ["hourglass/chacha.begins", "hourglass/chacha.quarters", "hourglass/chacha.turns"], apart := false, laid := [("hourglass/chacha.begins", laid_hourglass_chacha_begins), ("hourglass/chacha.quarters", laid_hourglass_chacha_quarters), ("hourglass/chacha.turns", laid_hourglass_chacha_turns)], narrowed := true }
def ChachaXorsUptoSaid : Prop := chachaXorsUptoRow.holds Tryd.pinned (OpenSpec.upto chachaXorsSpec)

/-- 'hourglasslaw05.ChachaTells', WHERE WHAT IT READS IS OF BULK AT MOST 1048576: true; the input reads as it did. -/
def chachaTellsUptoRow : OpenClaim := { program := "ytlpfmehcghhdcaadoor", sum := "8424970a4685e652e0bcdc4defd236d3a06f3b30a98667a774e182d1ac3a567c", func := "hourglass/hourglasslaw05.ChachaTells", spec := "chachaTells", named := ["hourglass/chacha.begins", "hourglass/chacha.quarters", "hourglass/chacha.turns"], apart := false, laid := [("hourglass/chacha.begins", laid_hourglass_chacha_begins), ("hourglass/chacha.quarters", laid_hourglass_chacha_quarters), ("hourglass/chacha.turns", laid_hourglass_chacha_turns)], narrowed := true }
def ChachaTellsUptoSaid : Prop := chachaTellsUptoRow.holds Tryd.pinned (OpenSpec.upto chachaTellsSpec)

/-- 'hourglasslaw05.ChachaStreams', WHERE WHAT IT READS IS OF BULK AT MOST 1048576: true; the input reads as it did. -/
def chachaStreamsUptoRow : OpenClaim := { program := "ytlpfmehcghhdcaadoor", sum := "8424970a4685e652e0bcdc4defd236d3a06f3b30a98667a774e182d1ac3a567c", func := "hourglass/hourglasslaw05.ChachaStreams", spec := "chachaStreams", named := ["hourglass/chacha.begins", "hourglass/chacha.quarters", "hourglass/chacha.turns"], apart := false, laid := [("hourglass/chacha.begins", laid_hourglass_chacha_begins), ("hourglass/chacha.quarters", laid_hourglass_chacha_quarters), ("hourglass/chacha.turns", laid_hourglass_chacha_turns)], narrowed := true }
def ChachaStreamsUptoSaid : Prop := chachaStreamsUptoRow.holds Tryd.pinned (OpenSpec.upto chachaStreamsSpec)

/-- 'hourglasslaw05.ChachaHides', WHERE WHAT IT READS IS OF BULK AT MOST 1048576: true; the input reads as it did. -/
def chachaHidesUptoRow : OpenClaim := { program := "ytlpfmehcghhdcaadoor", sum := "8424970a4685e652e0bcdc4defd236d3a06f3b30a98667a774e182d1ac3a567c", func := "hourglass/hourglasslaw05.ChachaHides", spec := "chachaHides", named := ["hourglass/chacha.begins", "hourglass/chacha.quarters", "hourglass/chacha.turns"], apart := false, laid := [("hourglass/chacha.begins", laid_hourglass_chacha_begins), ("hourglass/chacha.quarters", laid_hourglass_chacha_quarters), ("hourglass/chacha.turns", laid_hourglass_chacha_turns)], narrowed := true }
def ChachaHidesUptoSaid : Prop := chachaHidesUptoRow.holds Tryd.pinned (OpenSpec.upto chachaHidesSpec)

/-- 'hourglasslaw05.ChachaCuts', WHERE WHAT IT READS IS OF BULK AT MOST 1048576: true; the input reads as it did. -/
def chachaCutsUptoRow : OpenClaim := { program := "ytlpfmehcghhdcaadoor", sum := "8424970a4685e652e0bcdc4defd236d3a06f3b30a98667a774e182d1ac3a567c", func := "hourglass/hourglasslaw05.ChachaCuts", spec := "chachaCuts", named := ["hourglass/chacha.begins", "hourglass/chacha.quarters", "hourglass/chacha.turns"], apart := false, laid := [("hourglass/chacha.begins", laid_hourglass_chacha_begins), ("hourglass/chacha.quarters", laid_hourglass_chacha_quarters), ("hourglass/chacha.turns", laid_hourglass_chacha_turns)], narrowed := true }
def ChachaCutsUptoSaid : Prop := chachaCutsUptoRow.holds Tryd.pinned (OpenSpec.upto chachaCutsSpec)

end Rows
end Go.Proofs.YtlpfmehcghhdcaaDoor
