/-
  DERIVED. GIVEN WITH THE SEED: THE CARDS: each row of YtnciaodebdmfhaaDoorRows.lean that lists a variable, with what it lists TIED to the program's text (the seventh form; the later family's looks); each row that meets fmt, with fmt's text TOLD by the authors' own Lean function (tested against real Go, not proved from fmt's source: count such statements apart). THE CARD IS WHAT COUNTS. Prove the row's statement (the work); the ties are given (YtnciaodebdmfhaaDoorTie.lean); close each card by the builder's one call (the guide's Derived/Test/ToyasCard.lean, 'card_holds'). Laid BY PROGRAM, IN A SANDBOX (cutbox-door.mjs). By AI agents, Wed Nov 11 2026. No macro, syntax, notation, axiom, sorry.
-/
import Derived.Test.YtnciaodebdmfhaaDoorRows
import GoSem.ClaimSeven
namespace Go.Proofs.YtnciaodebdmfhaaDoor
namespace Rows

/-- THE TIED CARD OF 'lacquerlaw02.GrooveTurned'. -/
def grooveTurnedCard : Claim7 := { stood := { row := grooveTurnedRow, standIns := [], harness := (true, "5f68fd69e0af613bfa7fdf941acadd7d0a75623a0094cac3c296381243e153e3"), looks := false }, kinds := [], alts := [], laidByText := true, laidKinds := [.data], laidTests := true, laidLooks := .later }
def GrooveTurnedCardSaid : Prop := Claim7.holds Tryd.pinned (.plain (OpenSpec.ofChange grooveTurnedSpec)) grooveTurnedCard

/-- THE TIED CARD OF 'lacquerlaw02.GroovePaths'. -/
def groovePathsCard : Claim7 := { stood := { row := groovePathsRow, standIns := [], harness := (true, "5f68fd69e0af613bfa7fdf941acadd7d0a75623a0094cac3c296381243e153e3"), looks := false }, kinds := [], alts := [], laidByText := true, laidKinds := [.data], laidTests := true, laidLooks := .later }
def GroovePathsCardSaid : Prop := Claim7.holds Tryd.pinned (.plain (OpenSpec.ofChange groovePathsSpec)) groovePathsCard

/-- THE TIED CARD OF 'lacquerlaw02.GrooveBridges'. -/
def grooveBridgesCard : Claim7 := { stood := { row := grooveBridgesRow, standIns := [], harness := (true, "5f68fd69e0af613bfa7fdf941acadd7d0a75623a0094cac3c296381243e153e3"), looks := false }, kinds := [], alts := [], laidByText := true, laidKinds := [.data], laidTests := true, laidLooks := .later }
def GrooveBridgesCardSaid : Prop := Claim7.holds Tryd.pinned (.plain (OpenSpec.ofChange grooveBridgesSpec)) grooveBridgesCard

/-- THE TIED CARD OF 'lacquerlaw02.GrooveWalls'. -/
def grooveWallsCard : Claim7 := { stood := { row := grooveWallsRow, standIns := [], harness := (true, "5f68fd69e0af613bfa7fdf941acadd7d0a75623a0094cac3c296381243e153e3"), looks := false }, kinds := [], alts := [], laidByText := true, laidKinds := [.data], laidTests := true, laidLooks := .later }
def GrooveWallsCardSaid : Prop := Claim7.holds Tryd.pinned (.plain (OpenSpec.ofChange grooveWallsSpec)) grooveWallsCard

/-- THE TIED CARD OF 'lacquerlaw02.GrooveTurns'. -/
def grooveTurnsCard : Claim7 := { stood := { row := grooveTurnsRow, standIns := [], harness := (true, "5f68fd69e0af613bfa7fdf941acadd7d0a75623a0094cac3c296381243e153e3"), looks := false }, kinds := [], alts := [], laidByText := true, laidKinds := [.data], laidTests := true, laidLooks := .later }
def GrooveTurnsCardSaid : Prop := Claim7.holds Tryd.pinned (.plain (OpenSpec.ofChange grooveTurnsSpec)) grooveTurnsCard

/-- THE TIED CARD OF 'lacquerlaw02.GrooveStraight'. -/
def grooveStraightCard : Claim7 := { stood := { row := grooveStraightRow, standIns := [], harness := (true, "5f68fd69e0af613bfa7fdf941acadd7d0a75623a0094cac3c296381243e153e3"), looks := false }, kinds := [], alts := [], laidByText := true, laidKinds := [.data], laidTests := true, laidLooks := .later }
def GrooveStraightCardSaid : Prop := Claim7.holds Tryd.pinned (.plain (OpenSpec.ofChange grooveStraightSpec)) grooveStraightCard

/-- THE TIED CARD OF 'lacquerlaw02.GrooveRings'. -/
def grooveRingsCard : Claim7 := { stood := { row := grooveRingsRow, standIns := [], harness := (true, "5f68fd69e0af613bfa7fdf941acadd7d0a75623a0094cac3c296381243e153e3"), looks := false }, kinds := [], alts := [], laidByText := true, laidKinds := [.data], laidTests := true, laidLooks := .later }
def GrooveRingsCardSaid : Prop := Claim7.holds Tryd.pinned (.plain (OpenSpec.ofChange grooveRingsSpec)) grooveRingsCard

/-- THE TIED CARD OF 'lacquerlaw02.GroovePrices'. -/
def groovePricesCard : Claim7 := { stood := { row := groovePricesRow, standIns := [], harness := (true, "5f68fd69e0af613bfa7fdf941acadd7d0a75623a0094cac3c296381243e153e3"), looks := false }, kinds := [], alts := [], laidByText := true, laidKinds := [.data], laidTests := true, laidLooks := .later }
def GroovePricesCardSaid : Prop := Claim7.holds Tryd.pinned (.plain (OpenSpec.ofChange groovePricesSpec)) groovePricesCard

/-- THE TIED CARD OF 'lacquerlaw02.GrooveVelocities'. -/
def grooveVelocitiesCard : Claim7 := { stood := { row := grooveVelocitiesRow, standIns := [], harness := (true, "5f68fd69e0af613bfa7fdf941acadd7d0a75623a0094cac3c296381243e153e3"), looks := false }, kinds := [], alts := [], laidByText := true, laidKinds := [.data], laidTests := true, laidLooks := .later }
def GrooveVelocitiesCardSaid : Prop := Claim7.holds Tryd.pinned (.plain (OpenSpec.ofChange grooveVelocitiesSpec)) grooveVelocitiesCard

/-- THE TIED CARD OF 'lacquerlaw02.GrooveCosts'. -/
def grooveCostsCard : Claim7 := { stood := { row := grooveCostsRow, standIns := [], harness := (true, "5f68fd69e0af613bfa7fdf941acadd7d0a75623a0094cac3c296381243e153e3"), looks := false }, kinds := [], alts := [], laidByText := true, laidKinds := [.data], laidTests := true, laidLooks := .later }
def GrooveCostsCardSaid : Prop := Claim7.holds Tryd.pinned (.plain (OpenSpec.ofChange grooveCostsSpec)) grooveCostsCard

/-- THE TIED CARD OF 'lacquerlaw02.GrooveCenters'. -/
def grooveCentersCard : Claim7 := { stood := { row := grooveCentersRow, standIns := [], harness := (true, "5f68fd69e0af613bfa7fdf941acadd7d0a75623a0094cac3c296381243e153e3"), looks := false }, kinds := [], alts := [], laidByText := true, laidKinds := [.data], laidTests := true, laidLooks := .later }
def GrooveCentersCardSaid : Prop := Claim7.holds Tryd.pinned (.plain (OpenSpec.ofChange grooveCentersSpec)) grooveCentersCard

/-- THE TIED CARD OF 'lacquerlaw02.GrooveEnclosed'. -/
def grooveEnclosedCard : Claim7 := { stood := { row := grooveEnclosedRow, standIns := [], harness := (true, "5f68fd69e0af613bfa7fdf941acadd7d0a75623a0094cac3c296381243e153e3"), looks := false }, kinds := [], alts := [], laidByText := true, laidKinds := [.data], laidTests := true, laidLooks := .later }
def GrooveEnclosedCardSaid : Prop := Claim7.holds Tryd.pinned (.plain (OpenSpec.ofChange grooveEnclosedSpec)) grooveEnclosedCard

/-- THE TIED CARD OF 'lacquerlaw02.GrooveProved'. -/
def grooveProvedCard : Claim7 := { stood := { row := grooveProvedRow, standIns := [], harness := (true, "5f68fd69e0af613bfa7fdf941acadd7d0a75623a0094cac3c296381243e153e3"), looks := false }, kinds := [], alts := [], laidByText := true, laidKinds := [.data], laidTests := true, laidLooks := .later }
def GrooveProvedCardSaid : Prop := Claim7.holds Tryd.pinned (.plain (OpenSpec.ofChange grooveProvedSpec)) grooveProvedCard

/-- THE SECOND FORM's CARD OF 'lacquerlaw02.GrooveTurned'. -/
def grooveTurnedUptoCard : Claim7 := { stood := { row := grooveTurnedUptoRow, standIns := [], harness := (true, "5f68fd69e0af613bfa7fdf941acadd7d0a75623a0094cac3c296381243e153e3"), looks := false }, kinds := [], alts := [], laidByText := true, laidKinds := [.data], laidTests := true, laidLooks := .later }
def GrooveTurnedUptoCardSaid : Prop := Claim7.holds Tryd.pinned (.plain (OpenSpec.upto grooveTurnedSpec)) grooveTurnedUptoCard

/-- THE SECOND FORM's CARD OF 'lacquerlaw02.GroovePaths'. -/
def groovePathsUptoCard : Claim7 := { stood := { row := groovePathsUptoRow, standIns := [], harness := (true, "5f68fd69e0af613bfa7fdf941acadd7d0a75623a0094cac3c296381243e153e3"), looks := false }, kinds := [], alts := [], laidByText := true, laidKinds := [.data], laidTests := true, laidLooks := .later }
def GroovePathsUptoCardSaid : Prop := Claim7.holds Tryd.pinned (.plain (OpenSpec.upto groovePathsSpec)) groovePathsUptoCard

/-- THE SECOND FORM's CARD OF 'lacquerlaw02.GrooveBridges'. -/
def grooveBridgesUptoCard : Claim7 := { stood := { row := grooveBridgesUptoRow, standIns := [], harness := (true, "5f68fd69e0af613bfa7fdf941acadd7d0a75623a0094cac3c296381243e153e3"), looks := false }, kinds := [], alts := [], laidByText := true, laidKinds := [.data], laidTests := true, laidLooks := .later }
def GrooveBridgesUptoCardSaid : Prop := Claim7.holds Tryd.pinned (.plain (OpenSpec.upto grooveBridgesSpec)) grooveBridgesUptoCard

/-- THE SECOND FORM's CARD OF 'lacquerlaw02.GrooveWalls'. -/
def grooveWallsUptoCard : Claim7 := { stood := { row := grooveWallsUptoRow, standIns := [], harness := (true, "5f68fd69e0af613bfa7fdf941acadd7d0a75623a0094cac3c296381243e153e3"), looks := false }, kinds := [], alts := [], laidByText := true, laidKinds := [.data], laidTests := true, laidLooks := .later }
def GrooveWallsUptoCardSaid : Prop := Claim7.holds Tryd.pinned (.plain (OpenSpec.upto grooveWallsSpec)) grooveWallsUptoCard

/-- THE SECOND FORM's CARD OF 'lacquerlaw02.GrooveTurns'. -/
def grooveTurnsUptoCard : Claim7 := { stood := { row := grooveTurnsUptoRow, standIns := [], harness := (true, "5f68fd69e0af613bfa7fdf941acadd7d0a75623a0094cac3c296381243e153e3"), looks := false }, kinds := [], alts := [], laidByText := true, laidKinds := [.data], laidTests := true, laidLooks := .later }
def GrooveTurnsUptoCardSaid : Prop := Claim7.holds Tryd.pinned (.plain (OpenSpec.upto grooveTurnsSpec)) grooveTurnsUptoCard

/-- THE SECOND FORM's CARD OF 'lacquerlaw02.GrooveStraight'. -/
def grooveStraightUptoCard : Claim7 := { stood := { row := grooveStraightUptoRow, standIns := [], harness := (true, "5f68fd69e0af613bfa7fdf941acadd7d0a75623a0094cac3c296381243e153e3"), looks := false }, kinds := [], alts := [], laidByText := true, laidKinds := [.data], laidTests := true, laidLooks := .later }
def GrooveStraightUptoCardSaid : Prop := Claim7.holds Tryd.pinned (.plain (OpenSpec.upto grooveStraightSpec)) grooveStraightUptoCard

/-- THE SECOND FORM's CARD OF 'lacquerlaw02.GrooveRings'. -/
def grooveRingsUptoCard : Claim7 := { stood := { row := grooveRingsUptoRow, standIns := [], harness := (true, "5f68fd69e0af613bfa7fdf941acadd7d0a75623a0094cac3c296381243e153e3"), looks := false }, kinds := [], alts := [], laidByText := true, laidKinds := [.data], laidTests := true, laidLooks := .later }
def GrooveRingsUptoCardSaid : Prop := Claim7.holds Tryd.pinned (.plain (OpenSpec.upto grooveRingsSpec)) grooveRingsUptoCard

/-- THE SECOND FORM's CARD OF 'lacquerlaw02.GroovePrices'. -/
def groovePricesUptoCard : Claim7 := { stood := { row := groovePricesUptoRow, standIns := [], harness := (true, "5f68fd69e0af613bfa7fdf941acadd7d0a75623a0094cac3c296381243e153e3"), looks := false }, kinds := [], alts := [], laidByText := true, laidKinds := [.data], laidTests := true, laidLooks := .later }
def GroovePricesUptoCardSaid : Prop := Claim7.holds Tryd.pinned (.plain (OpenSpec.upto groovePricesSpec)) groovePricesUptoCard

/-- THE SECOND FORM's CARD OF 'lacquerlaw02.GrooveVelocities'. -/
def grooveVelocitiesUptoCard : Claim7 := { stood := { row := grooveVelocitiesUptoRow, standIns := [], harness := (true, "5f68fd69e0af613bfa7fdf941acadd7d0a75623a0094cac3c296381243e153e3"), looks := false }, kinds := [], alts := [], laidByText := true, laidKinds := [.data], laidTests := true, laidLooks := .later }
def GrooveVelocitiesUptoCardSaid : Prop := Claim7.holds Tryd.pinned (.plain (OpenSpec.upto grooveVelocitiesSpec)) grooveVelocitiesUptoCard

/-- THE SECOND FORM's CARD OF 'lacquerlaw02.GrooveCosts'. -/
def grooveCostsUptoCard : Claim7 := { stood := { row := grooveCostsUptoRow, standIns := [], harness := (true, "5f68fd69e0af613bfa7fdf941acadd7d0a75623a0094cac3c296381243e153e3"), looks := false }, kinds := [], alts := [], laidByText := true, laidKinds := [.data], laidTests := true, laidLooks := .later }
def GrooveCostsUptoCardSaid : Prop := Claim7.holds Tryd.pinned (.plain (OpenSpec.upto grooveCostsSpec)) grooveCostsUptoCard

/-- THE SECOND FORM's CARD OF 'lacquerlaw02.GrooveCenters'. -/
def grooveCentersUptoCard : Claim7 := { stood := { row := grooveCentersUptoRow, standIns := [], harness := (true, "5f68fd69e0af613bfa7fdf941acadd7d0a75623a0094cac3c296381243e153e3"), looks := false }, kinds := [], alts := [], laidByText := true, laidKinds := [.data], laidTests := true, laidLooks := .later }
def GrooveCentersUptoCardSaid : Prop := Claim7.holds Tryd.pinned (.plain (OpenSpec.upto grooveCentersSpec)) grooveCentersUptoCard

/-- THE SECOND FORM's CARD OF 'lacquerlaw02.GrooveEnclosed'. -/
def grooveEnclosedUptoCard : Claim7 := { stood := { row := grooveEnclosedUptoRow, standIns := [], harness := (true, "5f68fd69e0af613bfa7fdf941acadd7d0a75623a0094cac3c296381243e153e3"), looks := false }, kinds := [], alts := [], laidByText := true, laidKinds := [.data], laidTests := true, laidLooks := .later }
def GrooveEnclosedUptoCardSaid : Prop := Claim7.holds Tryd.pinned (.plain (OpenSpec.upto grooveEnclosedSpec)) grooveEnclosedUptoCard

/-- THE SECOND FORM's CARD OF 'lacquerlaw02.GrooveProved'. -/
def grooveProvedUptoCard : Claim7 := { stood := { row := grooveProvedUptoRow, standIns := [], harness := (true, "5f68fd69e0af613bfa7fdf941acadd7d0a75623a0094cac3c296381243e153e3"), looks := false }, kinds := [], alts := [], laidByText := true, laidKinds := [.data], laidTests := true, laidLooks := .later }
def GrooveProvedUptoCardSaid : Prop := Claim7.holds Tryd.pinned (.plain (OpenSpec.upto grooveProvedSpec)) grooveProvedUptoCard
end Rows
end Go.Proofs.YtnciaodebdmfhaaDoor
