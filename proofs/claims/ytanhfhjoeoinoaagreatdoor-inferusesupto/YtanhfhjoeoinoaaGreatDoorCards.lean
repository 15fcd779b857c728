/-
  DERIVED. GIVEN WITH THE SEED: THE CARDS: each row of YtanhfhjoeoinoaaGreatDoorRows.lean that lists a variable, with what it lists TIED to the program's text (the seventh form; the later family's looks); each row that meets fmt, with fmt's text TOLD by the authors' own Lean function (tested against real Go, not proved from fmt's source: count such statements apart). THE CARD IS WHAT COUNTS. Prove the row's statement (the work); the ties are given (YtanhfhjoeoinoaaGreatDoorTie.lean); close each card by the builder's one call (the guide's Derived/Test/ToyasCard.lean, 'card_holds'). Laid BY PROGRAM, IN A SANDBOX (cutbox-door.mjs). By AI agents, Wed Nov 11 2026. No macro, syntax, notation, axiom, sorry.
-/
import Derived.Test.YtanhfhjoeoinoaaGreatDoorRows
import GoSem.ClaimSeven
namespace Go.Proofs.YtanhfhjoeoinoaaGreatDoor
namespace Rows

/-- THE TIED CARD OF 'parlancelaw16.InferNodes'. -/
def inferNodesCard : Claim7 := { stood := { row := inferNodesRow, standIns := [], harness := (true, "ddc33249b397c9067a08d14edc35e2d6ed924fa0cedca9434b07959c43671be4"), looks := true }, kinds := [], alts := [], laidByText := true, laidKinds := [.data, .data, .data], laidTests := true, laidLooks := .later }
def InferNodesCardSaid : Prop := Claim7.holds Tryz.pinned (.plain (OpenSpec.ofChange inferNodesSpec)) inferNodesCard

/-- THE TIED CARD OF 'parlancelaw16.InferTexts'. -/
def inferTextsCard : Claim7 := { stood := { row := inferTextsRow, standIns := [], harness := (true, "ddc33249b397c9067a08d14edc35e2d6ed924fa0cedca9434b07959c43671be4"), looks := true }, kinds := [], alts := [], laidByText := true, laidKinds := [.data, .data, .data], laidTests := true, laidLooks := .later }
def InferTextsCardSaid : Prop := Claim7.holds Tryz.pinned (.plain (OpenSpec.ofChange inferTextsSpec)) inferTextsCard

/-- THE TIED CARD OF 'parlancelaw16.InferUses'. -/
def inferUsesCard : Claim7 := { stood := { row := inferUsesRow, standIns := [], harness := (true, "ddc33249b397c9067a08d14edc35e2d6ed924fa0cedca9434b07959c43671be4"), looks := true }, kinds := [], alts := [], laidByText := true, laidKinds := [.data, .data, .data], laidTests := true, laidLooks := .later }
def InferUsesCardSaid : Prop := Claim7.holds Tryz.pinned (.plain (OpenSpec.ofChange inferUsesSpec)) inferUsesCard

/-- THE TIED CARD OF 'parlancelaw16.InferNames'. -/
def inferNamesCard : Claim7 := { stood := { row := inferNamesRow, standIns := [], harness := (true, "ddc33249b397c9067a08d14edc35e2d6ed924fa0cedca9434b07959c43671be4"), looks := true }, kinds := [], alts := [], laidByText := true, laidKinds := [.data, .data, .data], laidTests := true, laidLooks := .later }
def InferNamesCardSaid : Prop := Claim7.holds Tryz.pinned (.plain (OpenSpec.ofChange inferNamesSpec)) inferNamesCard

/-- THE TIED CARD OF 'parlancelaw16.InferAgain'. -/
def inferAgainCard : Claim7 := { stood := { row := inferAgainRow, standIns := [], harness := (true, "ddc33249b397c9067a08d14edc35e2d6ed924fa0cedca9434b07959c43671be4"), looks := true }, kinds := [], alts := [], laidByText := true, laidKinds := [.data, .data, .data], laidTests := true, laidLooks := .later }
def InferAgainCardSaid : Prop := Claim7.holds Tryz.pinned (.plain (OpenSpec.ofChange inferAgainSpec)) inferAgainCard

/-- THE TIED CARD OF 'parlancelaw16.InferPairs'. -/
def inferPairsCard : Claim7 := { stood := { row := inferPairsRow, standIns := [], harness := (true, "ddc33249b397c9067a08d14edc35e2d6ed924fa0cedca9434b07959c43671be4"), looks := true }, kinds := [], alts := [], laidByText := true, laidKinds := [.data, .data, .data], laidTests := true, laidLooks := .later }
def InferPairsCardSaid : Prop := Claim7.holds Tryz.pinned (.plain (OpenSpec.ofChange inferPairsSpec)) inferPairsCard

/-- THE SECOND FORM's CARD OF 'parlancelaw16.InferNodes'. -/
def inferNodesUptoCard : Claim7 := { stood := { row := inferNodesUptoRow, standIns := [], harness := (true, "ddc33249b397c9067a08d14edc35e2d6ed924fa0cedca9434b07959c43671be4"), looks := true }, kinds := [], alts := [], laidByText := true, laidKinds := [.data, .data, .data], laidTests := true, laidLooks := .later }
def InferNodesUptoCardSaid : Prop := Claim7.holds Tryz.pinned (.plain (OpenSpec.upto inferNodesSpec)) inferNodesUptoCard

/-- THE SECOND FORM's CARD OF 'parlancelaw16.InferTexts'. -/
def inferTextsUptoCard : Claim7 := { stood := { row := inferTextsUptoRow, standIns := [], harness := (true, "ddc33249b397c9067a08d14edc35e2d6ed924fa0cedca9434b07959c43671be4"), looks := true }, kinds := [], alts := [], laidByText := true, laidKinds := [.data, .data, .data], laidTests := true, laidLooks := .later }
def InferTextsUptoCardSaid : Prop := Claim7.holds Tryz.pinned (.plain (OpenSpec.upto inferTextsSpec)) inferTextsUptoCard

/-- THE SECOND FORM's CARD OF 'parlancelaw16.InferUses'. -/
def inferUsesUptoCard : Claim7 := { stood := { row := inferUsesUptoRow, standIns := [], harness := (true, "ddc33249b397c9067a08d14edc35e2d6ed924fa0cedca9434b07959c43671be4"), looks := true }, kinds := [], alts := [], laidByText := true, laidKinds := [.data, .data, .data], laidTests := true, laidLooks := .later }
def InferUsesUptoCardSaid : Prop := Claim7.holds Tryz.pinned (.plain (OpenSpec.upto inferUsesSpec)) inferUsesUptoCard

/-- THE SECOND FORM's CARD OF 'parlancelaw16.InferNames'. -/
def inferNamesUptoCard : Claim7 := { stood := { row := inferNamesUptoRow, standIns := [], harness := (true, "ddc33249b397c9067a08d14edc35e2d6ed924fa0cedca9434b07959c43671be4"), looks := true }, kinds := [], alts := [], laidByText := true, laidKinds := [.data, .data, .data], laidTests := true, laidLooks := .later }
def InferNamesUptoCardSaid : Prop := Claim7.holds Tryz.pinned (.plain (OpenSpec.upto inferNamesSpec)) inferNamesUptoCard

/-- THE SECOND FORM's CARD OF 'parlancelaw16.InferAgain'. -/
def inferAgainUptoCard : Claim7 := { stood := { row := inferAgainUptoRow, standIns := [], harness := (true, "ddc33249b397c9067a08d14edc35e2d6ed924fa0cedca9434b07959c43671be4"), looks := true }, kinds := [], alts := [], laidByText := true, laidKinds := [.data, .data, .data], laidTests := true, laidLooks := .later }
def InferAgainUptoCardSaid : Prop := Claim7.holds Tryz.pinned (.plain (OpenSpec.upto inferAgainSpec)) inferAgainUptoCard

/-- THE SECOND FORM's CARD OF 'parlancelaw16.InferPairs'. -/
def inferPairsUptoCard : Claim7 := { stood := { row := inferPairsUptoRow, standIns := [], harness := (true, "ddc33249b397c9067a08d14edc35e2d6ed924fa0cedca9434b07959c43671be4"), looks := true }, kinds := [], alts := [], laidByText := true, laidKinds := [.data, .data, .data], laidTests := true, laidLooks := .later }
def InferPairsUptoCardSaid : Prop := Claim7.holds Tryz.pinned (.plain (OpenSpec.upto inferPairsSpec)) inferPairsUptoCard
end Rows
end Go.Proofs.YtanhfhjoeoinoaaGreatDoor
