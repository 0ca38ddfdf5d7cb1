/-
  NARROWER THAN 'FOR EVERY INPUT', by the rows' own cells (each row's printed sentence says how): GrooveTurned: laid · GroovePaths: laid · GrooveBridges: laid · GrooveWalls: laid · GrooveTurns: laid · GrooveStraight: laid · GrooveRings: laid · GroovePrices: laid · GrooveVelocities: laid · GrooveCosts: laid · GrooveCenters: laid · GrooveEnclosed: laid · GrooveProved: laid.
  DERIVED. THE GIVEN ROWS OF THIS SEAT. 13 by the template 'for every input the law returns true; each argument reads behind the call as it read before'; 0 by the template 'total and deterministic' (their statements: YtnciaodebdmfhaaDoorTotals.lean).
  GIVEN WITH THE SEED: the statements are not yours to turn. If you find one false, say at which input.
  Laid BY PROGRAM, IN A SANDBOX (cutbox-rows.mjs): the forced cells as the released guide's own fill.sh prints them over the translation 39349f22ef55cb7a… (all of the seat's roots in one cut). By AI agents, Wed Nov 11 2026. No macro, syntax, notation, axiom, sorry.
-/
import Derived.Test.YtnciaodebdmfhaaDoorChecked
import GoSem.Claim
import GoSem.ClaimJoined
import GoSem.ClaimMapViews
import Derived.JoinedTies
import Derived.KernelRfl
namespace Go.Proofs.YtnciaodebdmfhaaDoor
/- THE CELL 'sum', in the pinned program and in every row, IS THE sha256 OF THE DUMP (.gsa) THAT YtnciaodebdmfhaaDoorProg.lean LOADS. Nothing in Lean hashes anything: it is a label: what it is worth is what the hold of that sum in a sandbox is worth. -/
noncomputable def Tryd.pinned : Pinned := { name := "ytnciaodebdmfhaadoor", sum := "39349f22ef55cb7abb306daf30dd00607b4c9b0e3ebe874323146155dd867d6b", checked := Tryd.checked }
namespace Rows
def none {H : Type} : Left H := { results := [], args := [] }

/- WHAT THE LISTED PACKAGE-LEVEL VARIABLES READ AS WHEN THE CALL BEGINS. Each datum BY PROGRAM (the guide's laid-datum.mjs) off the statement by which the dump's own 'gosem.cut.vars' lays the variable. In a bare row this is a premise. The card (YtnciaodebdmfhaaDoorCards.lean) ties it to the program's text. -/
def laid_lacquer_groove_sides {H : Type} : DataW H := .agg [.agg [.lit (.int .i64 0), .lit (.int .i64 1), .lit (.int .i64 1)], .agg [.lit (.int .i64 (-1)), .lit (.int .i64 0), .lit (.int .i64 2)], .agg [.lit (.int .i64 0), .lit (.int .i64 (-1)), .lit (.int .i64 2)], .agg [.lit (.int .i64 1), .lit (.int .i64 0), .lit (.int .i64 2)], .agg [.lit (.int .i64 0), .lit (.int .i64 1), .lit (.int .i64 1)]]

/-- 'lacquerlaw02.GrooveTurned': WHATEVER THE INPUT: true; the input reads as it did. -/
def grooveTurnedSpec : ChangeSpec := { name := "grooveTurned", fn := fun _ => fun
  | [d] => { results := [.lit (.bool true)], args := [d] }
  | _ => none }
def grooveTurnedRow : OpenClaim := { program := "ytnciaodebdmfhaadoor", sum := "39349f22ef55cb7abb306daf30dd00607b4c9b0e3ebe874323146155dd867d6b", func := "lacquer/lacquerlaw02.GrooveTurned", spec := "grooveTurned", unfollowed := true, recurses := true, named := ["lacquer/groove.sides"], apart := false, laid := [("lacquer/groove.sides", laid_lacquer_groove_sides)] }
def GrooveTurnedSaid : Prop := grooveTurnedRow.holds Tryd.pinned (OpenSpec.ofChange grooveTurnedSpec)

/-- ITS FALSE NEIGHBOUR: 'it returns false'. Refute it at one input. -/
def grooveTurnedWrong : ChangeSpec := { name := "grooveTurned", fn := fun _ => fun
  | [d] => { results := [.lit (.bool false)], args := [d] }
  | _ => none }
def GrooveTurnedWrongFalsely : Prop := grooveTurnedRow.holds Tryd.pinned (OpenSpec.ofChange grooveTurnedWrong)

/-- 'lacquerlaw02.GroovePaths': WHATEVER THE INPUT: true; the input reads as it did. -/
def groovePathsSpec : ChangeSpec := { name := "groovePaths", fn := fun _ => fun
  | [d1, d2] => { results := [.lit (.bool true)], args := [d1, d2] }
  | _ => none }
def groovePathsRow : OpenClaim := { program := "ytnciaodebdmfhaadoor", sum := "39349f22ef55cb7abb306daf30dd00607b4c9b0e3ebe874323146155dd867d6b", func := "lacquer/lacquerlaw02.GroovePaths", spec := "groovePaths", unfollowed := true, recurses := true, named := ["lacquer/groove.sides"], apart := false, laid := [("lacquer/groove.sides", laid_lacquer_groove_sides)] }
def GroovePathsSaid : Prop := groovePathsRow.holds Tryd.pinned (OpenSpec.ofChange groovePathsSpec)

/-- ITS FALSE NEIGHBOUR: 'it returns false'. Refute it at one input. -/
def groovePathsWrong : ChangeSpec := { name := "groovePaths", fn := fun _ => fun
  | [d1, d2] => { results := [.lit (.bool false)], args := [d1, d2] }
  | _ => none }
def GroovePathsWrongFalsely : Prop := groovePathsRow.holds Tryd.pinned (OpenSpec.ofChange groovePathsWrong)

/-- 'lacquerlaw02.GrooveBridges': WHATEVER THE INPUT: true; the input reads as it did. -/
def grooveBridgesSpec : ChangeSpec := { name := "grooveBridges", fn := fun _ => fun
  | [d1, d2] => { results := [.lit (.bool true)], args := [d1, d2] }
  | _ => none }
def grooveBridgesRow : OpenClaim := { program := "ytnciaodebdmfhaadoor", sum := "39349f22ef55cb7abb306daf30dd00607b4c9b0e3ebe874323146155dd867d6b", func := "lacquer/lacquerlaw02.GrooveBridges", spec := "grooveBridges", unfollowed := true, recurses := true, named := ["lacquer/groove.sides"], apart := false, laid := [("lacquer/groove.sides", laid_lacquer_groove_sides)] }
def GrooveBridgesSaid : Prop := grooveBridgesRow.holds Tryd.pinned (OpenSpec.ofChange grooveBridgesSpec)

/-- ITS FALSE NEIGHBOUR: 'it returns false'. Refute it at one input. -/
def grooveBridgesWrong : ChangeSpec := { name := "grooveBridges", fn := fun _ => fun
  | [d1, d2] => { results := [.lit (.bool false)], args := [d1, d2] }
  | _ => none }
def GrooveBridgesWrongFalsely : Prop := grooveBridgesRow.holds Tryd.pinned (OpenSpec.ofChange grooveBridgesWrong)

/-- 'lacquerlaw02.GrooveWalls': WHATEVER THE INPUT: true; the input reads as it did. -/
def grooveWallsSpec : ChangeSpec := { name := "grooveWalls", fn := fun _ => fun
  | [d1, d2] => { results := [.lit (.bool true)], args := [d1, d2] }
  | _ => none }
def grooveWallsRow : OpenClaim := { program := "ytnciaodebdmfhaadoor", sum := "39349f22ef55cb7abb306daf30dd00607b4c9b0e3ebe874323146155dd867d6b", func := "lacquer/lacquerlaw02.GrooveWalls", spec := "grooveWalls", unfollowed := true, recurses := true, named := ["lacquer/groove.sides"], apart := false, laid := [("lacquer/groove.sides", laid_lacquer_groove_sides)] }
def GrooveWallsSaid : Prop := grooveWallsRow.holds Tryd.pinned (OpenSpec.ofChange grooveWallsSpec)

/-- ITS FALSE NEIGHBOUR: 'it returns false'. Refute it at one input. -/
def grooveWallsWrong : ChangeSpec := { name := "grooveWalls", fn := fun _ => fun
  | [d1, d2] => { results := [.lit (.bool false)], args := [d1, d2] }
  | _ => none }
def GrooveWallsWrongFalsely : Prop := grooveWallsRow.holds Tryd.pinned (OpenSpec.ofChange grooveWallsWrong)

/-- 'lacquerlaw02.GrooveTurns': WHATEVER THE INPUT: true; the input reads as it did. -/
def grooveTurnsSpec : ChangeSpec := { name := "grooveTurns", fn := fun _ => fun
  | [d1, d2] => { results := [.lit (.bool true)], args := [d1, d2] }
  | _ => none }
def grooveTurnsRow : OpenClaim := { program := "ytnciaodebdmfhaadoor", sum := "39349f22ef55cb7abb306daf30dd00607b4c9b0e3ebe874323146155dd867d6b", func := "lacquer/lacquerlaw02.GrooveTurns", spec := "grooveTurns", unfollowed := true, recurses := true, named := ["lacquer/groove.sides"], apart := false, laid := [("lacquer/groove.sides", laid_lacquer_groove_sides)] }
def GrooveTurnsSaid : Prop := grooveTurnsRow.holds Tryd.pinned (OpenSpec.ofChange grooveTurnsSpec)

/-- ITS FALSE NEIGHBOUR: 'it returns false'. Refute it at one input. -/
def grooveTurnsWrong : ChangeSpec := { name := "grooveTurns", fn := fun _ => fun
  | [d1, d2] => { results := [.lit (.bool false)], args := [d1, d2] }
  | _ => none }
def GrooveTurnsWrongFalsely : Prop := grooveTurnsRow.holds Tryd.pinned (OpenSpec.ofChange grooveTurnsWrong)

/-- 'lacquerlaw02.GrooveStraight': WHATEVER THE INPUT: true; the input reads as it did. -/
def grooveStraightSpec : ChangeSpec := { name := "grooveStraight", fn := fun _ => fun
  | [d1, d2, d3] => { results := [.lit (.bool true)], args := [d1, d2, d3] }
  | _ => none }
def grooveStraightRow : OpenClaim := { program := "ytnciaodebdmfhaadoor", sum := "39349f22ef55cb7abb306daf30dd00607b4c9b0e3ebe874323146155dd867d6b", func := "lacquer/lacquerlaw02.GrooveStraight", spec := "grooveStraight", unfollowed := true, recurses := true, named := ["lacquer/groove.sides"], apart := false, laid := [("lacquer/groove.sides", laid_lacquer_groove_sides)] }
def GrooveStraightSaid : Prop := grooveStraightRow.holds Tryd.pinned (OpenSpec.ofChange grooveStraightSpec)

/-- ITS FALSE NEIGHBOUR: 'it returns false'. Refute it at one input. -/
def grooveStraightWrong : ChangeSpec := { name := "grooveStraight", fn := fun _ => fun
  | [d1, d2, d3] => { results := [.lit (.bool false)], args := [d1, d2, d3] }
  | _ => none }
def GrooveStraightWrongFalsely : Prop := grooveStraightRow.holds Tryd.pinned (OpenSpec.ofChange grooveStraightWrong)

/-- 'lacquerlaw02.GrooveRings': WHATEVER THE INPUT: true; the input reads as it did. -/
def grooveRingsSpec : ChangeSpec := { name := "grooveRings", fn := fun _ => fun
  | [d1, d2] => { results := [.lit (.bool true)], args := [d1, d2] }
  | _ => none }
def grooveRingsRow : OpenClaim := { program := "ytnciaodebdmfhaadoor", sum := "39349f22ef55cb7abb306daf30dd00607b4c9b0e3ebe874323146155dd867d6b", func := "lacquer/lacquerlaw02.GrooveRings", spec := "grooveRings", unfollowed := true, recurses := true, named := ["lacquer/groove.sides"], apart := false, laid := [("lacquer/groove.sides", laid_lacquer_groove_sides)] }
def GrooveRingsSaid : Prop := grooveRingsRow.holds Tryd.pinned (OpenSpec.ofChange grooveRingsSpec)

/-- ITS FALSE NEIGHBOUR: 'it returns false'. Refute it at one input. -/
def grooveRingsWrong : ChangeSpec := { name := "grooveRings", fn := fun _ => fun
  | [d1, d2] => { results := [.lit (.bool false)], args := [d1, d2] }
  | _ => none }
def GrooveRingsWrongFalsely : Prop := grooveRingsRow.holds Tryd.pinned (OpenSpec.ofChange grooveRingsWrong)

/-- 'lacquerlaw02.GroovePrices': WHATEVER THE INPUT: true; the input reads as it did. -/
def groovePricesSpec : ChangeSpec := { name := "groovePrices", fn := fun _ => fun
  | [d1, d2, d3] => { results := [.lit (.bool true)], args := [d1, d2, d3] }
  | _ => none }
def groovePricesRow : OpenClaim := { program := "ytnciaodebdmfhaadoor", sum := "39349f22ef55cb7abb306daf30dd00607b4c9b0e3ebe874323146155dd867d6b", func := "lacquer/lacquerlaw02.GroovePrices", spec := "groovePrices", unfollowed := true, recurses := true, named := ["lacquer/groove.sides"], apart := false, laid := [("lacquer/groove.sides", laid_lacquer_groove_sides)] }
def GroovePricesSaid : Prop := groovePricesRow.holds Tryd.pinned (OpenSpec.ofChange groovePricesSpec)

/-- ITS FALSE NEIGHBOUR: 'it returns false'. Refute it at one input. -/
def groovePricesWrong : ChangeSpec := { name := "groovePrices", fn := fun _ => fun
  | [d1, d2, d3] => { results := [.lit (.bool false)], args := [d1, d2, d3] }
  | _ => none }
def GroovePricesWrongFalsely : Prop := groovePricesRow.holds Tryd.pinned (OpenSpec.ofChange groovePricesWrong)

/-- 'lacquerlaw02.GrooveVelocities': WHATEVER THE INPUT: true; the input reads as it did. -/
def grooveVelocitiesSpec : ChangeSpec := { name := "grooveVelocities", fn := fun _ => fun
  | [d1, d2, d3] => { results := [.lit (.bool true)], args := [d1, d2, d3] }
  | _ => none }
def grooveVelocitiesRow : OpenClaim := { program := "ytnciaodebdmfhaadoor", sum := "39349f22ef55cb7abb306daf30dd00607b4c9b0e3ebe874323146155dd867d6b", func := "lacquer/lacquerlaw02.GrooveVelocities", spec := "grooveVelocities", unfollowed := true, recurses := true, named := ["lacquer/groove.sides"], apart := false, laid := [("lacquer/groove.sides", laid_lacquer_groove_sides)] }
def GrooveVelocitiesSaid : Prop := grooveVelocitiesRow.holds Tryd.pinned (OpenSpec.ofChange grooveVelocitiesSpec)

/-- ITS FALSE NEIGHBOUR: 'it returns false'. Refute it at one input. -/
def grooveVelocitiesWrong : ChangeSpec := { name := "grooveVelocities", fn := fun _ => fun
  | [d1, d2, d3] => { results := [.lit (.bool false)], args := [d1, d2, d3] }
  | _ => none }
def GrooveVelocitiesWrongFalsely : Prop := grooveVelocitiesRow.holds Tryd.pinned (OpenSpec.ofChange grooveVelocitiesWrong)

/-- 'lacquerlaw02.GrooveCosts': WHATEVER THE INPUT: true; the input reads as it did. -/
def grooveCostsSpec : ChangeSpec := { name := "grooveCosts", fn := fun _ => fun
  | [d1, d2, d3] => { results := [.lit (.bool true)], args := [d1, d2, d3] }
  | _ => none }
def grooveCostsRow : OpenClaim := { program := "ytnciaodebdmfhaadoor", sum := "39349f22ef55cb7abb306daf30dd00607b4c9b0e3ebe874323146155dd867d6b", func := "lacquer/lacquerlaw02.GrooveCosts", spec := "grooveCosts", unfollowed := true, recurses := true, named := ["lacquer/groove.sides"], apart := false, laid := [("lacquer/groove.sides", laid_lacquer_groove_sides)] }
def GrooveCostsSaid : Prop := grooveCostsRow.holds Tryd.pinned (OpenSpec.ofChange grooveCostsSpec)

/-- ITS FALSE NEIGHBOUR: 'it returns false'. Refute it at one input. -/
def grooveCostsWrong : ChangeSpec := { name := "grooveCosts", fn := fun _ => fun
  | [d1, d2, d3] => { results := [.lit (.bool false)], args := [d1, d2, d3] }
  | _ => none }
def GrooveCostsWrongFalsely : Prop := grooveCostsRow.holds Tryd.pinned (OpenSpec.ofChange grooveCostsWrong)

/-- 'lacquerlaw02.GrooveCenters': WHATEVER THE INPUT: true; the input reads as it did. -/
def grooveCentersSpec : ChangeSpec := { name := "grooveCenters", fn := fun _ => fun
  | [d1, d2] => { results := [.lit (.bool true)], args := [d1, d2] }
  | _ => none }
def grooveCentersRow : OpenClaim := { program := "ytnciaodebdmfhaadoor", sum := "39349f22ef55cb7abb306daf30dd00607b4c9b0e3ebe874323146155dd867d6b", func := "lacquer/lacquerlaw02.GrooveCenters", spec := "grooveCenters", unfollowed := true, recurses := true, named := ["lacquer/groove.sides"], apart := false, laid := [("lacquer/groove.sides", laid_lacquer_groove_sides)] }
def GrooveCentersSaid : Prop := grooveCentersRow.holds Tryd.pinned (OpenSpec.ofChange grooveCentersSpec)

/-- ITS FALSE NEIGHBOUR: 'it returns false'. Refute it at one input. -/
def grooveCentersWrong : ChangeSpec := { name := "grooveCenters", fn := fun _ => fun
  | [d1, d2] => { results := [.lit (.bool false)], args := [d1, d2] }
  | _ => none }
def GrooveCentersWrongFalsely : Prop := grooveCentersRow.holds Tryd.pinned (OpenSpec.ofChange grooveCentersWrong)

/-- 'lacquerlaw02.GrooveEnclosed': WHATEVER THE INPUT: true; the input reads as it did. -/
def grooveEnclosedSpec : ChangeSpec := { name := "grooveEnclosed", fn := fun _ => fun
  | [d1, d2] => { results := [.lit (.bool true)], args := [d1, d2] }
  | _ => none }
def grooveEnclosedRow : OpenClaim := { program := "ytnciaodebdmfhaadoor", sum := "39349f22ef55cb7abb306daf30dd00607b4c9b0e3ebe874323146155dd867d6b", func := "lacquer/lacquerlaw02.GrooveEnclosed", spec := "grooveEnclosed", unfollowed := true, recurses := true, named := ["lacquer/groove.sides"], apart := false, laid := [("lacquer/groove.sides", laid_lacquer_groove_sides)] }
def GrooveEnclosedSaid : Prop := grooveEnclosedRow.holds Tryd.pinned (OpenSpec.ofChange grooveEnclosedSpec)

/-- ITS FALSE NEIGHBOUR: 'it returns false'. Refute it at one input. -/
def grooveEnclosedWrong : ChangeSpec := { name := "grooveEnclosed", fn := fun _ => fun
  | [d1, d2] => { results := [.lit (.bool false)], args := [d1, d2] }
  | _ => none }
def GrooveEnclosedWrongFalsely : Prop := grooveEnclosedRow.holds Tryd.pinned (OpenSpec.ofChange grooveEnclosedWrong)

/-- 'lacquerlaw02.GrooveProved': WHATEVER THE INPUT: true; the input reads as it did. -/
def grooveProvedSpec : ChangeSpec := { name := "grooveProved", fn := fun _ => fun
  | [d1, d2, d3] => { results := [.lit (.bool true)], args := [d1, d2, d3] }
  | _ => none }
def grooveProvedRow : OpenClaim := { program := "ytnciaodebdmfhaadoor", sum := "39349f22ef55cb7abb306daf30dd00607b4c9b0e3ebe874323146155dd867d6b", func := "lacquer/lacquerlaw02.GrooveProved", spec := "grooveProved", unfollowed := true, recurses := true, named := ["lacquer/groove.sides"], apart := false, laid := [("lacquer/groove.sides", laid_lacquer_groove_sides)] }
def GrooveProvedSaid : Prop := grooveProvedRow.holds Tryd.pinned (OpenSpec.ofChange grooveProvedSpec)

/-- ITS FALSE NEIGHBOUR: 'it returns false'. Refute it at one input. -/
def grooveProvedWrong : ChangeSpec := { name := "grooveProved", fn := fun _ => fun
  | [d1, d2, d3] => { results := [.lit (.bool false)], args := [d1, d2, d3] }
  | _ => none }
def GrooveProvedWrongFalsely : Prop := grooveProvedRow.holds Tryd.pinned (OpenSpec.ofChange grooveProvedWrong)

/- THE SECOND FORM. 'bulk': how many values and letters a reading holds, each counted each time it is reached (what is shared counts as often as it is met; a slice's spare places count too). A statement '..UptoSaid' is the law's where the arguments, and the package variables that the reading takes, are together of bulk at most 1048576: NARROWER than '..Said'. Prove '..Said' where nothing that the law and all that it calls make is longer than what came in: it says more and counts as full. Else prove '..UptoSaid'. A law counts once. -/
mutual
def uptoBulk {H : Type} : DataW H → Nat
  | .lit (.string bytes) => bytes.length + 1
  | .lit _ => 1
  | .nil => 1
  | .ptr d => uptoBulk d + 1
  | .slice elems spare => uptoBulkAll elems + uptoBulkAll spare + 1
  | .agg parts => uptoBulkAll parts + 1
  | .iface _ d => uptoBulk d + 1
  | .map entries => uptoBulkEntries entries + 1
  | .held _ => 1
def uptoBulkAll {H : Type} : List (DataW H) → Nat
  | [] => 0
  | d :: r => uptoBulk d + uptoBulkAll r
def uptoBulkEntries {H : Type} : List (Lit × DataW H) → Nat
  | [] => 0
  | x :: r => uptoBulkEntry x + uptoBulkEntries r
def uptoBulkEntry {H : Type} : Lit × DataW H → Nat
  | (.string bytes, d) => bytes.length + uptoBulk d + 1
  | (_, d) => uptoBulk d + 1
 end
def uptoSmall : (H : Type) → List (DataW H) → Bool := fun _ ds => decide (uptoBulkAll ds ≤ 1048576)
def OpenSpec.upto (s : _root_.Go.ChangeSpec) : _root_.Go.OpenSpec := { _root_.Go.OpenSpec.ofChange s with cond := some uptoSmall }

/-- 'lacquerlaw02.GrooveTurned', WHERE WHAT IT READS IS OF BULK AT MOST 1048576: true; the input reads as it did. -/
def grooveTurnedUptoRow : OpenClaim := { program := "ytnciaodebdmfhaadoor", sum := "39349f22ef55cb7abb306daf30dd00607b4c9b0e3ebe874323146155dd867d6b", func := "lacquer/lacquerlaw02.GrooveTurned", spec := "grooveTurned", unfollowed := true, recurses := true, named := ["lacquer/groove.sides"], apart := false, laid := [("lacquer/groove.sides", laid_lacquer_groove_sides)], narrowed := true }
def GrooveTurnedUptoSaid : Prop := grooveTurnedUptoRow.holds Tryd.pinned (OpenSpec.upto grooveTurnedSpec)

/-- 'lacquerlaw02.GroovePaths', WHERE WHAT IT READS IS OF BULK AT MOST 1048576: true; the input reads as it did. -/
def groovePathsUptoRow : OpenClaim := { program := "ytnciaodebdmfhaadoor", sum := "39349f22ef55cb7abb306daf30dd00607b4c9b0e3ebe874323146155dd867d6b", func := "lacquer/lacquerlaw02.GroovePaths", spec := "groovePaths", unfollowed := true, recurses := true, named := ["lacquer/groove.sides"], apart := false, laid := [("lacquer/groove.sides", laid_lacquer_groove_sides)], narrowed := true }
def GroovePathsUptoSaid : Prop := groovePathsUptoRow.holds Tryd.pinned (OpenSpec.upto groovePathsSpec)

/-- 'lacquerlaw02.GrooveBridges', WHERE WHAT IT READS IS OF BULK AT MOST 1048576: true; the input reads as it did. -/
def grooveBridgesUptoRow : OpenClaim := { program := "ytnciaodebdmfhaadoor", sum := "39349f22ef55cb7abb306daf30dd00607b4c9b0e3ebe874323146155dd867d6b", func := "lacquer/lacquerlaw02.GrooveBridges", spec := "grooveBridges", unfollowed := true, recurses := true, named := ["lacquer/groove.sides"], apart := false, laid := [("lacquer/groove.sides", laid_lacquer_groove_sides)], narrowed := true }
def GrooveBridgesUptoSaid : Prop := grooveBridgesUptoRow.holds Tryd.pinned (OpenSpec.upto grooveBridgesSpec)

/-- 'lacquerlaw02.GrooveWalls', WHERE WHAT IT READS IS OF BULK AT MOST 1048576: true; the input reads as it did. -/
def grooveWallsUptoRow : OpenClaim := { program := "ytnciaodebdmfhaadoor", sum := "39349f22ef55cb7abb306daf30dd00607b4c9b0e3ebe874323146155dd867d6b", func := "lacquer/lacquerlaw02.GrooveWalls", spec := "grooveWalls", unfollowed := true, recurses := true, named := ["lacquer/groove.sides"], apart := false, laid := [("lacquer/groove.sides", laid_lacquer_groove_sides)], narrowed := true }
def GrooveWallsUptoSaid : Prop := grooveWallsUptoRow.holds Tryd.pinned (OpenSpec.upto grooveWallsSpec)

/-- 'lacquerlaw02.GrooveTurns', WHERE WHAT IT READS IS OF BULK AT MOST 1048576: true; the input reads as it did. -/
def grooveTurnsUptoRow : OpenClaim := { program := "ytnciaodebdmfhaadoor", sum := "39349f22ef55cb7abb306daf30dd00607b4c9b0e3ebe874323146155dd867d6b", func := "lacquer/lacquerlaw02.GrooveTurns", spec := "grooveTurns", unfollowed := true, recurses := true, named := ["lacquer/groove.sides"], apart := false, laid := [("lacquer/groove.sides", laid_lacquer_groove_sides)], narrowed := true }
def GrooveTurnsUptoSaid : Prop := grooveTurnsUptoRow.holds Tryd.pinned (OpenSpec.upto grooveTurnsSpec)

/-- 'lacquerlaw02.GrooveStraight', WHERE WHAT IT READS IS OF BULK AT MOST 1048576: true; the input reads as it did. -/
def grooveStraightUptoRow : OpenClaim := { program := "ytnciaodebdmfhaadoor", sum := "39349f22ef55cb7abb306daf30dd00607b4c9b0e3ebe874323146155dd867d6b", func := "lacquer/lacquerlaw02.GrooveStraight", spec := "grooveStraight", unfollowed := true, recurses := true, named := ["lacquer/groove.sides"], apart := false, laid := [("lacquer/groove.sides", laid_lacquer_groove_sides)], narrowed := true }
def GrooveStraightUptoSaid : Prop := grooveStraightUptoRow.holds Tryd.pinned (OpenSpec.upto grooveStraightSpec)

/-- 'lacquerlaw02.GrooveRings', WHERE WHAT IT READS IS OF BULK AT MOST 1048576: true; the input reads as it did. -/
def grooveRingsUptoRow : OpenClaim := { program := "ytnciaodebdmfhaadoor", sum := "39349f22ef55cb7abb306daf30dd00607b4c9b0e3ebe874323146155dd867d6b", func := "lacquer/lacquerlaw02.GrooveRings", spec := "grooveRings", unfollowed := true, recurses := true, named := ["lacquer/groove.sides"], apart := false, laid := [("lacquer/groove.sides", laid_lacquer_groove_sides)], narrowed := true }
def GrooveRingsUptoSaid : Prop := grooveRingsUptoRow.holds Tryd.pinned (OpenSpec.upto grooveRingsSpec)

/-- 'lacquerlaw02.GroovePrices', WHERE WHAT IT READS IS OF BULK AT MOST 1048576: true; the input reads as it did. -/
def groovePricesUptoRow : OpenClaim := { program := "ytnciaodebdmfhaadoor", sum := "39349f22ef55cb7abb306daf30dd00607b4c9b0e3ebe874323146155dd867d6b", func := "lacquer/lacquerlaw02.GroovePrices", spec := "groovePrices", unfollowed := true, recurses := true, named := ["lacquer/groove.sides"], apart := false, laid := [("lacquer/groove.sides", laid_lacquer_groove_sides)], narrowed := true }
def GroovePricesUptoSaid : Prop := groovePricesUptoRow.holds Tryd.pinned (OpenSpec.upto groovePricesSpec)

/-- 'lacquerlaw02.GrooveVelocities', WHERE WHAT IT READS IS OF BULK AT MOST 1048576: true; the input reads as it did. -/
def grooveVelocitiesUptoRow : OpenClaim := { program := "ytnciaodebdmfhaadoor", sum := "39349f22ef55cb7abb306daf30dd00607b4c9b0e3ebe874323146155dd867d6b", func := "lacquer/lacquerlaw02.GrooveVelocities", spec := "grooveVelocities", unfollowed := true, recurses := true, named := ["lacquer/groove.sides"], apart := false, laid := [("lacquer/groove.sides", laid_lacquer_groove_sides)], narrowed := true }
def GrooveVelocitiesUptoSaid : Prop := grooveVelocitiesUptoRow.holds Tryd.pinned (OpenSpec.upto grooveVelocitiesSpec)

/-- 'lacquerlaw02.GrooveCosts', WHERE WHAT IT READS IS OF BULK AT MOST 1048576: true; the input reads as it did. -/
def grooveCostsUptoRow : OpenClaim := { program := "ytnciaodebdmfhaadoor", sum := "39349f22ef55cb7abb306daf30dd00607b4c9b0e3ebe874323146155dd867d6b", func := "lacquer/lacquerlaw02.GrooveCosts", spec := "grooveCosts", unfollowed := true, recurses := true, named := ["lacquer/groove.sides"], apart := false, laid := [("lacquer/groove.sides", laid_lacquer_groove_sides)], narrowed := true }
def GrooveCostsUptoSaid : Prop := grooveCostsUptoRow.holds Tryd.pinned (OpenSpec.upto grooveCostsSpec)

/-- 'lacquerlaw02.GrooveCenters', WHERE WHAT IT READS IS OF BULK AT MOST 1048576: true; the input reads as it did. -/
def grooveCentersUptoRow : OpenClaim := { program := "ytnciaodebdmfhaadoor", sum := "39349f22ef55cb7abb306daf30dd00607b4c9b0e3ebe874323146155dd867d6b", func := "lacquer/lacquerlaw02.GrooveCenters", spec := "grooveCenters", unfollowed := true, recurses := true, named := ["lacquer/groove.sides"], apart := false, laid := [("lacquer/groove.sides", laid_lacquer_groove_sides)], narrowed := true }
def GrooveCentersUptoSaid : Prop := grooveCentersUptoRow.holds Tryd.pinned (OpenSpec.upto grooveCentersSpec)

/-- 'lacquerlaw02.GrooveEnclosed', WHERE WHAT IT READS IS OF BULK AT MOST 1048576: true; the input reads as it did. -/
def grooveEnclosedUptoRow : OpenClaim := { program := "ytnciaodebdmfhaadoor", sum := "39349f22ef55cb7abb306daf30dd00607b4c9b0e3ebe874323146155dd867d6b", func := "lacquer/lacquerlaw02.GrooveEnclosed", spec := "grooveEnclosed", unfollowed := true, recurses := true, named := ["lacquer/groove.sides"], apart := false, laid := [("lacquer/groove.sides", laid_lacquer_groove_sides)], narrowed := true }
def GrooveEnclosedUptoSaid : Prop := grooveEnclosedUptoRow.holds Tryd.pinned (OpenSpec.upto grooveEnclosedSpec)

/-- 'lacquerlaw02.GrooveProved', WHERE WHAT IT READS IS OF BULK AT MOST 1048576: true; the input reads as it did. -/
def grooveProvedUptoRow : OpenClaim := { program := "ytnciaodebdmfhaadoor", sum := "39349f22ef55cb7abb306daf30dd00607b4c9b0e3ebe874323146155dd867d6b", func := "lacquer/lacquerlaw02.GrooveProved", spec := "grooveProved", unfollowed := true, recurses := true, named := ["lacquer/groove.sides"], apart := false, laid := [("lacquer/groove.sides", laid_lacquer_groove_sides)], narrowed := true }
def GrooveProvedUptoSaid : Prop := grooveProvedUptoRow.holds Tryd.pinned (OpenSpec.upto grooveProvedSpec)

end Rows
end Go.Proofs.YtnciaodebdmfhaaDoor
