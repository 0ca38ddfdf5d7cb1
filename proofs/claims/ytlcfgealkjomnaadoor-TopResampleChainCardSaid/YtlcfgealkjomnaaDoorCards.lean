/-
  DERIVED. GIVEN WITH THE SEED: THE CARDS: each row of YtlcfgealkjomnaaDoorRows.lean that lists a variable, with what it lists TIED to the program's text (the seventh form; the later family's looks); each row that meets fmt, with fmt's text TOLD by the authors' own Lean function (tested against real Go, not proved from fmt's source: count such statements apart). THE CARD IS WHAT COUNTS. Prove the row's statement (the work); the ties are given (YtlcfgealkjomnaaDoorTie.lean); close each card by the builder's one call (the guide's Derived/Test/ToyasCard.lean, 'card_holds'). Laid BY PROGRAM, IN A SANDBOX (cutbox-door.mjs). By AI agents, Wed Nov 11 2026. No macro, syntax, notation, axiom, sorry.
-/
import Derived.Test.YtlcfgealkjomnaaDoorRows
import GoSem.ClaimSeven
namespace Go.Proofs.YtlcfgealkjomnaaDoor
namespace Rows

/-- THE TIED CARD OF 'lacquerlaw04.ResampleOutputs'. -/
def resampleOutputsCard : Claim7 := { stood := { row := resampleOutputsRow, standIns := [], harness := (true, "9403e86e1dc287bd0cb4ee71274230f6f4c5733d4f08721e5e779bfd75daaf91"), looks := false }, kinds := [], alts := [], laidByText := true, laidKinds := [.funcs], laidTests := true, laidLooks := .later }
def ResampleOutputsCardSaid : Prop := Claim7.holds Tryd.pinned (.plain (OpenSpec.ofChange resampleOutputsSpec)) resampleOutputsCard

/-- THE TIED CARD OF 'lacquerlaw04.ResampleBack'. -/
def resampleBackCard : Claim7 := { stood := { row := resampleBackRow, standIns := [], harness := (true, "9403e86e1dc287bd0cb4ee71274230f6f4c5733d4f08721e5e779bfd75daaf91"), looks := false }, kinds := [], alts := [], laidByText := true, laidKinds := [.funcs], laidTests := true, laidLooks := .later }
def ResampleBackCardSaid : Prop := Claim7.holds Tryd.pinned (.plain (OpenSpec.ofChange resampleBackSpec)) resampleBackCard

/-- THE TIED CARD OF 'lacquerlaw04.ResampleChecks'. -/
def resampleChecksCard : Claim7 := { stood := { row := resampleChecksRow, standIns := [], harness := (true, "9403e86e1dc287bd0cb4ee71274230f6f4c5733d4f08721e5e779bfd75daaf91"), looks := false }, kinds := [], alts := [], laidByText := true, laidKinds := [.funcs], laidTests := true, laidLooks := .later }
def ResampleChecksCardSaid : Prop := Claim7.holds Tryd.pinned (.plain (OpenSpec.ofChange resampleChecksSpec)) resampleChecksCard

/-- THE TIED CARD OF 'lacquerlaw04.ResampleBetween'. -/
def resampleBetweenCard : Claim7 := { stood := { row := resampleBetweenRow, standIns := [], harness := (true, "9403e86e1dc287bd0cb4ee71274230f6f4c5733d4f08721e5e779bfd75daaf91"), looks := false }, kinds := [], alts := [], laidByText := true, laidKinds := [.funcs], laidTests := true, laidLooks := .later }
def ResampleBetweenCardSaid : Prop := Claim7.holds Tryd.pinned (.plain (OpenSpec.ofChange resampleBetweenSpec)) resampleBetweenCard

/-- THE TIED CARD OF 'lacquerlaw04.ResampleWeights'. -/
def resampleWeightsCard : Claim7 := { stood := { row := resampleWeightsRow, standIns := [], harness := (true, "9403e86e1dc287bd0cb4ee71274230f6f4c5733d4f08721e5e779bfd75daaf91"), looks := false }, kinds := [], alts := [], laidByText := true, laidKinds := [.funcs], laidTests := true, laidLooks := .later }
def ResampleWeightsCardSaid : Prop := Claim7.holds Tryd.pinned (.plain (OpenSpec.ofChange resampleWeightsSpec)) resampleWeightsCard

/-- THE TIED CARD OF 'lacquerlaw04.ResampleBounds'. -/
def resampleBoundsCard : Claim7 := { stood := { row := resampleBoundsRow, standIns := [], harness := (true, "9403e86e1dc287bd0cb4ee71274230f6f4c5733d4f08721e5e779bfd75daaf91"), looks := false }, kinds := [], alts := [], laidByText := true, laidKinds := [.funcs], laidTests := true, laidLooks := .later }
def ResampleBoundsCardSaid : Prop := Claim7.holds Tryd.pinned (.plain (OpenSpec.ofChange resampleBoundsSpec)) resampleBoundsCard

/-- THE TIED CARD OF 'lacquertop.TopResampleBack'. -/
def topResampleBackCard : Claim7 := { stood := { row := topResampleBackRow, standIns := [], harness := (true, "9403e86e1dc287bd0cb4ee71274230f6f4c5733d4f08721e5e779bfd75daaf91"), looks := false }, kinds := [], alts := [], laidByText := true, laidKinds := [.funcs], laidTests := true, laidLooks := .later }
def TopResampleBackCardSaid : Prop := Claim7.holds Tryd.pinned (.plain (OpenSpec.ofChange topResampleBackSpec)) topResampleBackCard

/-- THE TIED CARD OF 'lacquerlaw04.ResampleFilters'. -/
def resampleFiltersCard : Claim7 := { stood := { row := resampleFiltersRow, standIns := [], harness := (true, "9403e86e1dc287bd0cb4ee71274230f6f4c5733d4f08721e5e779bfd75daaf91"), looks := false }, kinds := [], alts := [], laidByText := true, laidKinds := [.funcs], laidTests := true, laidLooks := .later }
def ResampleFiltersCardSaid : Prop := Claim7.holds Tryd.pinned (.plain (OpenSpec.ofChange resampleFiltersSpec)) resampleFiltersCard

/-- THE TIED CARD OF 'lacquerlaw04.ResampleBounded'. -/
def resampleBoundedCard : Claim7 := { stood := { row := resampleBoundedRow, standIns := [], harness := (true, "9403e86e1dc287bd0cb4ee71274230f6f4c5733d4f08721e5e779bfd75daaf91"), looks := false }, kinds := [], alts := [], laidByText := true, laidKinds := [.funcs], laidTests := true, laidLooks := .later }
def ResampleBoundedCardSaid : Prop := Claim7.holds Tryd.pinned (.plain (OpenSpec.ofChange resampleBoundedSpec)) resampleBoundedCard

/-- THE TIED CARD OF 'lacquerlaw04.ResamplePolynomials'. -/
def resamplePolynomialsCard : Claim7 := { stood := { row := resamplePolynomialsRow, standIns := [], harness := (true, "9403e86e1dc287bd0cb4ee71274230f6f4c5733d4f08721e5e779bfd75daaf91"), looks := false }, kinds := [], alts := [], laidByText := true, laidKinds := [.funcs], laidTests := true, laidLooks := .later }
def ResamplePolynomialsCardSaid : Prop := Claim7.holds Tryd.pinned (.plain (OpenSpec.ofChange resamplePolynomialsSpec)) resamplePolynomialsCard

/-- THE TIED CARD OF 'lacquerlaw04.ResampleRemainders'. -/
def resampleRemaindersCard : Claim7 := { stood := { row := resampleRemaindersRow, standIns := [], harness := (true, "9403e86e1dc287bd0cb4ee71274230f6f4c5733d4f08721e5e779bfd75daaf91"), looks := false }, kinds := [], alts := [], laidByText := true, laidKinds := [.funcs], laidTests := true, laidLooks := .later }
def ResampleRemaindersCardSaid : Prop := Claim7.holds Tryd.pinned (.plain (OpenSpec.ofChange resampleRemaindersSpec)) resampleRemaindersCard

/-- THE TIED CARD OF 'lacquerlaw04.ResampleEqualizes'. -/
def resampleEqualizesCard : Claim7 := { stood := { row := resampleEqualizesRow, standIns := [], harness := (true, "9403e86e1dc287bd0cb4ee71274230f6f4c5733d4f08721e5e779bfd75daaf91"), looks := false }, kinds := [], alts := [], laidByText := true, laidKinds := [.funcs], laidTests := true, laidLooks := .later }
def ResampleEqualizesCardSaid : Prop := Claim7.holds Tryd.pinned (.plain (OpenSpec.ofChange resampleEqualizesSpec)) resampleEqualizesCard

/-- THE TIED CARD OF 'lacquerlaw04.ResampleTakenBack'. -/
def resampleTakenBackCard : Claim7 := { stood := { row := resampleTakenBackRow, standIns := [], harness := (true, "9403e86e1dc287bd0cb4ee71274230f6f4c5733d4f08721e5e779bfd75daaf91"), looks := false }, kinds := [], alts := [], laidByText := true, laidKinds := [.funcs], laidTests := true, laidLooks := .later }
def ResampleTakenBackCardSaid : Prop := Claim7.holds Tryd.pinned (.plain (OpenSpec.ofChange resampleTakenBackSpec)) resampleTakenBackCard

/-- THE TIED CARD OF 'lacquerlaw04.ResampleMaxima'. -/
def resampleMaximaCard : Claim7 := { stood := { row := resampleMaximaRow, standIns := [], harness := (true, "9403e86e1dc287bd0cb4ee71274230f6f4c5733d4f08721e5e779bfd75daaf91"), looks := false }, kinds := [], alts := [], laidByText := true, laidKinds := [.funcs], laidTests := true, laidLooks := .later }
def ResampleMaximaCardSaid : Prop := Claim7.holds Tryd.pinned (.plain (OpenSpec.ofChange resampleMaximaSpec)) resampleMaximaCard

/-- THE TIED CARD OF 'lacquerlaw04.ResampleComposed'. -/
def resampleComposedCard : Claim7 := { stood := { row := resampleComposedRow, standIns := [], harness := (true, "9403e86e1dc287bd0cb4ee71274230f6f4c5733d4f08721e5e779bfd75daaf91"), looks := false }, kinds := [], alts := [], laidByText := true, laidKinds := [.funcs], laidTests := true, laidLooks := .later }
def ResampleComposedCardSaid : Prop := Claim7.holds Tryd.pinned (.plain (OpenSpec.ofChange resampleComposedSpec)) resampleComposedCard

/-- THE TIED CARD OF 'lacquerlaw04.ResampleAttained'. -/
def resampleAttainedCard : Claim7 := { stood := { row := resampleAttainedRow, standIns := [], harness := (true, "9403e86e1dc287bd0cb4ee71274230f6f4c5733d4f08721e5e779bfd75daaf91"), looks := false }, kinds := [], alts := [], laidByText := true, laidKinds := [.funcs], laidTests := true, laidLooks := .later }
def ResampleAttainedCardSaid : Prop := Claim7.holds Tryd.pinned (.plain (OpenSpec.ofChange resampleAttainedSpec)) resampleAttainedCard

/-- THE TIED CARD OF 'lacquertop.TopResampleChain'. -/
def topResampleChainCard : Claim7 := { stood := { row := topResampleChainRow, standIns := [], harness := (true, "9403e86e1dc287bd0cb4ee71274230f6f4c5733d4f08721e5e779bfd75daaf91"), looks := false }, kinds := [], alts := [], laidByText := true, laidKinds := [.funcs], laidTests := true, laidLooks := .later }
def TopResampleChainCardSaid : Prop := Claim7.holds Tryd.pinned (.plain (OpenSpec.ofChange topResampleChainSpec)) topResampleChainCard

/-- THE SECOND FORM's CARD OF 'lacquerlaw04.ResampleOutputs'. -/
def resampleOutputsUptoCard : Claim7 := { stood := { row := resampleOutputsUptoRow, standIns := [], harness := (true, "9403e86e1dc287bd0cb4ee71274230f6f4c5733d4f08721e5e779bfd75daaf91"), looks := false }, kinds := [], alts := [], laidByText := true, laidKinds := [.funcs], laidTests := true, laidLooks := .later }
def ResampleOutputsUptoCardSaid : Prop := Claim7.holds Tryd.pinned (.plain (OpenSpec.upto resampleOutputsSpec)) resampleOutputsUptoCard

/-- THE SECOND FORM's CARD OF 'lacquerlaw04.ResampleBack'. -/
def resampleBackUptoCard : Claim7 := { stood := { row := resampleBackUptoRow, standIns := [], harness := (true, "9403e86e1dc287bd0cb4ee71274230f6f4c5733d4f08721e5e779bfd75daaf91"), looks := false }, kinds := [], alts := [], laidByText := true, laidKinds := [.funcs], laidTests := true, laidLooks := .later }
def ResampleBackUptoCardSaid : Prop := Claim7.holds Tryd.pinned (.plain (OpenSpec.upto resampleBackSpec)) resampleBackUptoCard

/-- THE SECOND FORM's CARD OF 'lacquerlaw04.ResampleChecks'. -/
def resampleChecksUptoCard : Claim7 := { stood := { row := resampleChecksUptoRow, standIns := [], harness := (true, "9403e86e1dc287bd0cb4ee71274230f6f4c5733d4f08721e5e779bfd75daaf91"), looks := false }, kinds := [], alts := [], laidByText := true, laidKinds := [.funcs], laidTests := true, laidLooks := .later }
def ResampleChecksUptoCardSaid : Prop := Claim7.holds Tryd.pinned (.plain (OpenSpec.upto resampleChecksSpec)) resampleChecksUptoCard

/-- THE SECOND FORM's CARD OF 'lacquerlaw04.ResampleBetween'. -/
def resampleBetweenUptoCard : Claim7 := { stood := { row := resampleBetweenUptoRow, standIns := [], harness := (true, "9403e86e1dc287bd0cb4ee71274230f6f4c5733d4f08721e5e779bfd75daaf91"), looks := false }, kinds := [], alts := [], laidByText := true, laidKinds := [.funcs], laidTests := true, laidLooks := .later }
def ResampleBetweenUptoCardSaid : Prop := Claim7.holds Tryd.pinned (.plain (OpenSpec.upto resampleBetweenSpec)) resampleBetweenUptoCard

/-- THE SECOND FORM's CARD OF 'lacquerlaw04.ResampleWeights'. -/
def resampleWeightsUptoCard : Claim7 := { stood := { row := resampleWeightsUptoRow, standIns := [], harness := (true, "9403e86e1dc287bd0cb4ee71274230f6f4c5733d4f08721e5e779bfd75daaf91"), looks := false }, kinds := [], alts := [], laidByText := true, laidKinds := [.funcs], laidTests := true, laidLooks := .later }
def ResampleWeightsUptoCardSaid : Prop := Claim7.holds Tryd.pinned (.plain (OpenSpec.upto resampleWeightsSpec)) resampleWeightsUptoCard

/-- THE SECOND FORM's CARD OF 'lacquerlaw04.ResampleBounds'. -/
def resampleBoundsUptoCard : Claim7 := { stood := { row := resampleBoundsUptoRow, standIns := [], harness := (true, "9403e86e1dc287bd0cb4ee71274230f6f4c5733d4f08721e5e779bfd75daaf91"), looks := false }, kinds := [], alts := [], laidByText := true, laidKinds := [.funcs], laidTests := true, laidLooks := .later }
def ResampleBoundsUptoCardSaid : Prop := Claim7.holds Tryd.pinned (.plain (OpenSpec.upto resampleBoundsSpec)) resampleBoundsUptoCard

/-- THE SECOND FORM's CARD OF 'lacquertop.TopResampleBack'. -/
def topResampleBackUptoCard : Claim7 := { stood := { row := topResampleBackUptoRow, standIns := [], harness := (true, "9403e86e1dc287bd0cb4ee71274230f6f4c5733d4f08721e5e779bfd75daaf91"), looks := false }, kinds := [], alts := [], laidByText := true, laidKinds := [.funcs], laidTests := true, laidLooks := .later }
def TopResampleBackUptoCardSaid : Prop := Claim7.holds Tryd.pinned (.plain (OpenSpec.upto topResampleBackSpec)) topResampleBackUptoCard

/-- THE SECOND FORM's CARD OF 'lacquerlaw04.ResampleFilters'. -/
def resampleFiltersUptoCard : Claim7 := { stood := { row := resampleFiltersUptoRow, standIns := [], harness := (true, "9403e86e1dc287bd0cb4ee71274230f6f4c5733d4f08721e5e779bfd75daaf91"), looks := false }, kinds := [], alts := [], laidByText := true, laidKinds := [.funcs], laidTests := true, laidLooks := .later }
def ResampleFiltersUptoCardSaid : Prop := Claim7.holds Tryd.pinned (.plain (OpenSpec.upto resampleFiltersSpec)) resampleFiltersUptoCard

/-- THE SECOND FORM's CARD OF 'lacquerlaw04.ResampleBounded'. -/
def resampleBoundedUptoCard : Claim7 := { stood := { row := resampleBoundedUptoRow, standIns := [], harness := (true, "9403e86e1dc287bd0cb4ee71274230f6f4c5733d4f08721e5e779bfd75daaf91"), looks := false }, kinds := [], alts := [], laidByText := true, laidKinds := [.funcs], laidTests := true, laidLooks := .later }
def ResampleBoundedUptoCardSaid : Prop := Claim7.holds Tryd.pinned (.plain (OpenSpec.upto resampleBoundedSpec)) resampleBoundedUptoCard

/-- THE SECOND FORM's CARD OF 'lacquerlaw04.ResamplePolynomials'. -/
def resamplePolynomialsUptoCard : Claim7 := { stood := { row := resamplePolynomialsUptoRow, standIns := [], harness := (true, "9403e86e1dc287bd0cb4ee71274230f6f4c5733d4f08721e5e779bfd75daaf91"), looks := false }, kinds := [], alts := [], laidByText := true, laidKinds := [.funcs], laidTests := true, laidLooks := .later }
def ResamplePolynomialsUptoCardSaid : Prop := Claim7.holds Tryd.pinned (.plain (OpenSpec.upto resamplePolynomialsSpec)) resamplePolynomialsUptoCard

/-- THE SECOND FORM's CARD OF 'lacquerlaw04.ResampleRemainders'. -/
def resampleRemaindersUptoCard : Claim7 := { stood := { row := resampleRemaindersUptoRow, standIns := [], harness := (true, "9403e86e1dc287bd0cb4ee71274230f6f4c5733d4f08721e5e779bfd75daaf91"), looks := false }, kinds := [], alts := [], laidByText := true, laidKinds := [.funcs], laidTests := true, laidLooks := .later }
def ResampleRemaindersUptoCardSaid : Prop := Claim7.holds Tryd.pinned (.plain (OpenSpec.upto resampleRemaindersSpec)) resampleRemaindersUptoCard

/-- THE SECOND FORM's CARD OF 'lacquerlaw04.ResampleEqualizes'. -/
def resampleEqualizesUptoCard : Claim7 := { stood := { row := resampleEqualizesUptoRow, standIns := [], harness := (true, "9403e86e1dc287bd0cb4ee71274230f6f4c5733d4f08721e5e779bfd75daaf91"), looks := false }, kinds := [], alts := [], laidByText := true, laidKinds := [.funcs], laidTests := true, laidLooks := .later }
def ResampleEqualizesUptoCardSaid : Prop := Claim7.holds Tryd.pinned (.plain (OpenSpec.upto resampleEqualizesSpec)) resampleEqualizesUptoCard

/-- THE SECOND FORM's CARD OF 'lacquerlaw04.ResampleTakenBack'. -/
def resampleTakenBackUptoCard : Claim7 := { stood := { row := resampleTakenBackUptoRow, standIns := [], harness := (true, "9403e86e1dc287bd0cb4ee71274230f6f4c5733d4f08721e5e779bfd75daaf91"), looks := false }, kinds := [], alts := [], laidByText := true, laidKinds := [.funcs], laidTests := true, laidLooks := .later }
def ResampleTakenBackUptoCardSaid : Prop := Claim7.holds Tryd.pinned (.plain (OpenSpec.upto resampleTakenBackSpec)) resampleTakenBackUptoCard

/-- THE SECOND FORM's CARD OF 'lacquerlaw04.ResampleMaxima'. -/
def resampleMaximaUptoCard : Claim7 := { stood := { row := resampleMaximaUptoRow, standIns := [], harness := (true, "9403e86e1dc287bd0cb4ee71274230f6f4c5733d4f08721e5e779bfd75daaf91"), looks := false }, kinds := [], alts := [], laidByText := true, laidKinds := [.funcs], laidTests := true, laidLooks := .later }
def ResampleMaximaUptoCardSaid : Prop := Claim7.holds Tryd.pinned (.plain (OpenSpec.upto resampleMaximaSpec)) resampleMaximaUptoCard

/-- THE SECOND FORM's CARD OF 'lacquerlaw04.ResampleComposed'. -/
def resampleComposedUptoCard : Claim7 := { stood := { row := resampleComposedUptoRow, standIns := [], harness := (true, "9403e86e1dc287bd0cb4ee71274230f6f4c5733d4f08721e5e779bfd75daaf91"), looks := false }, kinds := [], alts := [], laidByText := true, laidKinds := [.funcs], laidTests := true, laidLooks := .later }
def ResampleComposedUptoCardSaid : Prop := Claim7.holds Tryd.pinned (.plain (OpenSpec.upto resampleComposedSpec)) resampleComposedUptoCard

/-- THE SECOND FORM's CARD OF 'lacquerlaw04.ResampleAttained'. -/
def resampleAttainedUptoCard : Claim7 := { stood := { row := resampleAttainedUptoRow, standIns := [], harness := (true, "9403e86e1dc287bd0cb4ee71274230f6f4c5733d4f08721e5e779bfd75daaf91"), looks := false }, kinds := [], alts := [], laidByText := true, laidKinds := [.funcs], laidTests := true, laidLooks := .later }
def ResampleAttainedUptoCardSaid : Prop := Claim7.holds Tryd.pinned (.plain (OpenSpec.upto resampleAttainedSpec)) resampleAttainedUptoCard

/-- THE SECOND FORM's CARD OF 'lacquertop.TopResampleChain'. -/
def topResampleChainUptoCard : Claim7 := { stood := { row := topResampleChainUptoRow, standIns := [], harness := (true, "9403e86e1dc287bd0cb4ee71274230f6f4c5733d4f08721e5e779bfd75daaf91"), looks := false }, kinds := [], alts := [], laidByText := true, laidKinds := [.funcs], laidTests := true, laidLooks := .later }
def TopResampleChainUptoCardSaid : Prop := Claim7.holds Tryd.pinned (.plain (OpenSpec.upto topResampleChainSpec)) topResampleChainUptoCard
end Rows
end Go.Proofs.YtlcfgealkjomnaaDoor
