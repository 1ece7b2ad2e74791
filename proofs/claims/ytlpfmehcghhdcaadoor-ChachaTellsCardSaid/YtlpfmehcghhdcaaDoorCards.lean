/-
  DERIVED. GIVEN WITH THE SEED: THE CARDS: each row of YtlpfmehcghhdcaaDoorRows.lean that lists a variable, with what it lists TIED to the program's text (the seventh form; the later family's looks); each row that meets fmt, with fmt's text TOLD by the authors' own Lean function (tested against real Go, not proved from fmt's source: count such statements apart). THE CARD IS WHAT COUNTS. Prove the row's statement (the work); the ties are given (YtlpfmehcghhdcaaDoorTie.lean); close each card by the builder's one call (the guide's Derived/Test/ToyasCard.lean, 'card_holds'). Laid BY PROGRAM, IN A SANDBOX (cutbox-door.mjs). By AI agents, Wed Nov 11 2026. No macro, syntax, notation, axiom, sorry.
-/
import Derived.Test.YtlpfmehcghhdcaaDoorRows
import GoSem.ClaimSeven
namespace Go.Proofs.YtlpfmehcghhdcaaDoor
namespace Rows

/-- THE TIED CARD OF 'hourglasslaw05.ChachaOwn'. -/
def chachaOwnCard : Claim7 := { stood := { row := chachaOwnRow, standIns := [], harness := (true, "778eb199f9adda9fbe61193d8252d6913a64fa7b1c7f518a59f459f5209b37a6"), looks := false }, kinds := [], alts := [], laidByText := true, laidKinds := [.widerDeep, .data, .data], laidTests := true, laidLooks := .later }
def ChachaOwnCardSaid : Prop := Claim7.holds Tryd.pinned (.plain (OpenSpec.ofChange chachaOwnSpec)) chachaOwnCard

/-- THE TIED CARD OF 'hourglasslaw05.ChachaVectors'. -/
def chachaVectorsCard : Claim7 := { stood := { row := chachaVectorsRow, standIns := [], harness := (true, "778eb199f9adda9fbe61193d8252d6913a64fa7b1c7f518a59f459f5209b37a6"), looks := false }, kinds := [], alts := [], laidByText := true, laidKinds := [.widerDeep, .data, .data], laidTests := true, laidLooks := .later }
def ChachaVectorsCardSaid : Prop := Claim7.holds Tryd.pinned (.plain (OpenSpec.ofChange chachaVectorsSpec)) chachaVectorsCard

/-- THE TIED CARD OF 'hourglasslaw05.ChachaXors'. -/
def chachaXorsCard : Claim7 := { stood := { row := chachaXorsRow, standIns := [], harness := (true, "778eb199f9adda9fbe61193d8252d6913a64fa7b1c7f518a59f459f5209b37a6"), looks := false }, kinds := [], alts := [], laidByText := true, laidKinds := [.widerDeep, .data, .data], laidTests := true, laidLooks := .later }
def ChachaXorsCardSaid : Prop := Claim7.holds Tryd.pinned (.plain (OpenSpec.ofChange chachaXorsSpec)) chachaXorsCard

/-- THE TIED CARD OF 'hourglasslaw05.ChachaTells'. -/
def chachaTellsCard : Claim7 := { stood := { row := chachaTellsRow, standIns := [], harness := (true, "778eb199f9adda9fbe61193d8252d6913a64fa7b1c7f518a59f459f5209b37a6"), looks := false }, kinds := [], alts := [], laidByText := true, laidKinds := [.widerDeep, .data, .data], laidTests := true, laidLooks := .later }
def ChachaTellsCardSaid : Prop := Claim7.holds Tryd.pinned (.plain (OpenSpec.ofChange chachaTellsSpec)) chachaTellsCard

/-- THE TIED CARD OF 'hourglasslaw05.ChachaStreams'. -/
def chachaStreamsCard : Claim7 := { stood := { row := chachaStreamsRow, standIns := [], harness := (true, "778eb199f9adda9fbe61193d8252d6913a64fa7b1c7f518a59f459f5209b37a6"), looks := false }, kinds := [], alts := [], laidByText := true, laidKinds := [.widerDeep, .data, .data], laidTests := true, laidLooks := .later }
def ChachaStreamsCardSaid : Prop := Claim7.holds Tryd.pinned (.plain (OpenSpec.ofChange chachaStreamsSpec)) chachaStreamsCard

/-- THE TIED CARD OF 'hourglasslaw05.ChachaHides'. -/
def chachaHidesCard : Claim7 := { stood := { row := chachaHidesRow, standIns := [], harness := (true, "778eb199f9adda9fbe61193d8252d6913a64fa7b1c7f518a59f459f5209b37a6"), looks := false }, kinds := [], alts := [], laidByText := true, laidKinds := [.widerDeep, .data, .data], laidTests := true, laidLooks := .later }
def ChachaHidesCardSaid : Prop := Claim7.holds Tryd.pinned (.plain (OpenSpec.ofChange chachaHidesSpec)) chachaHidesCard

/-- THE TIED CARD OF 'hourglasslaw05.ChachaCuts'. -/
def chachaCutsCard : Claim7 := { stood := { row := chachaCutsRow, standIns := [], harness := (true, "778eb199f9adda9fbe61193d8252d6913a64fa7b1c7f518a59f459f5209b37a6"), looks := false }, kinds := [], alts := [], laidByText := true, laidKinds := [.widerDeep, .data, .data], laidTests := true, laidLooks := .later }
def ChachaCutsCardSaid : Prop := Claim7.holds Tryd.pinned (.plain (OpenSpec.ofChange chachaCutsSpec)) chachaCutsCard

/-- THE SECOND FORM's CARD OF 'hourglasslaw05.ChachaOwn'. -/
def chachaOwnUptoCard : Claim7 := { stood := { row := chachaOwnUptoRow, standIns := [], harness := (true, "778eb199f9adda9fbe61193d8252d6913a64fa7b1c7f518a59f459f5209b37a6"), looks := false }, kinds := [], alts := [], laidByText := true, laidKinds := [.widerDeep, .data, .data], laidTests := true, laidLooks := .later }
def ChachaOwnUptoCardSaid : Prop := Claim7.holds Tryd.pinned (.plain (OpenSpec.upto chachaOwnSpec)) chachaOwnUptoCard

/-- THE SECOND FORM's CARD OF 'hourglasslaw05.ChachaVectors'. -/
def chachaVectorsUptoCard : Claim7 := { stood := { row := chachaVectorsUptoRow, standIns := [], harness := (true, "778eb199f9adda9fbe61193d8252d6913a64fa7b1c7f518a59f459f5209b37a6"), looks := false }, kinds := [], alts := [], laidByText := true, laidKinds := [.widerDeep, .data, .data], laidTests := true, laidLooks := .later }
def ChachaVectorsUptoCardSaid : Prop := Claim7.holds Tryd.pinned (.plain (OpenSpec.upto chachaVectorsSpec)) chachaVectorsUptoCard

/-- THE SECOND FORM's CARD OF 'hourglasslaw05.ChachaXors'. -/
def chachaXorsUptoCard : Claim7 := { stood := { row := chachaXorsUptoRow, standIns := [], harness := (true, "778eb199f9adda9fbe61193d8252d6913a64fa7b1c7f518a59f459f5209b37a6"), looks := false }, kinds := [], alts := [], laidByText := true, laidKinds := [.widerDeep, .data, .data], laidTests := true, laidLooks := .later }
def ChachaXorsUptoCardSaid : Prop := Claim7.holds Tryd.pinned (.plain (OpenSpec.upto chachaXorsSpec)) chachaXorsUptoCard

/-- THE SECOND FORM's CARD OF 'hourglasslaw05.ChachaTells'. -/
def chachaTellsUptoCard : Claim7 := { stood := { row := chachaTellsUptoRow, standIns := [], harness := (true, "778eb199f9adda9fbe61193d8252d6913a64fa7b1c7f518a59f459f5209b37a6"), looks := false }, kinds := [], alts := [], laidByText := true, laidKinds := [.widerDeep, .data, .data], laidTests := true, laidLooks := .later }
def ChachaTellsUptoCardSaid : Prop := Claim7.holds Tryd.pinned (.plain (OpenSpec.upto chachaTellsSpec)) chachaTellsUptoCard

/-- THE SECOND FORM's CARD OF 'hourglasslaw05.ChachaStreams'. -/
def chachaStreamsUptoCard : Claim7 := { stood := { row := chachaStreamsUptoRow, standIns := [], harness := (true, "778eb199f9adda9fbe61193d8252d6913a64fa7b1c7f518a59f459f5209b37a6"), looks := false }, kinds := [], alts := [], laidByText := true, laidKinds := [.widerDeep, .data, .data], laidTests := true, laidLooks := .later }
def ChachaStreamsUptoCardSaid : Prop := Claim7.holds Tryd.pinned (.plain (OpenSpec.upto chachaStreamsSpec)) chachaStreamsUptoCard

/-- THE SECOND FORM's CARD OF 'hourglasslaw05.ChachaHides'. -/
def chachaHidesUptoCard : Claim7 := { stood := { row := chachaHidesUptoRow, standIns := [], harness := (true, "778eb199f9adda9fbe61193d8252d6913a64fa7b1c7f518a59f459f5209b37a6"), looks := false }, kinds := [], alts := [], laidByText := true, laidKinds := [.widerDeep, .data, .data], laidTests := true, laidLooks := .later }
def ChachaHidesUptoCardSaid : Prop := Claim7.holds Tryd.pinned (.plain (OpenSpec.upto chachaHidesSpec)) chachaHidesUptoCard

/-- THE SECOND FORM's CARD OF 'hourglasslaw05.ChachaCuts'. -/
def chachaCutsUptoCard : Claim7 := { stood := { row := chachaCutsUptoRow, standIns := [], harness := (true, "778eb199f9adda9fbe61193d8252d6913a64fa7b1c7f518a59f459f5209b37a6"), looks := false }, kinds := [], alts := [], laidByText := true, laidKinds := [.widerDeep, .data, .data], laidTests := true, laidLooks := .later }
def ChachaCutsUptoCardSaid : Prop := Claim7.holds Tryd.pinned (.plain (OpenSpec.upto chachaCutsSpec)) chachaCutsUptoCard
end Rows
end Go.Proofs.YtlpfmehcghhdcaaDoor
