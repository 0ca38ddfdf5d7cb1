/-
  NARROWER THAN 'FOR EVERY INPUT', by the rows' own cells (each row's printed sentence says how): ResampleOutputs: laid · ResampleBack: laid · ResampleChecks: laid · ResampleBetween: laid · ResampleWeights: laid · ResampleBounds: laid · TopResampleBack: laid · ResampleFilters: laid · ResampleBounded: laid · ResamplePolynomials: laid · ResampleRemainders: laid · ResampleEqualizes: laid · ResampleTakenBack: laid · ResampleMaxima: laid · ResampleComposed: laid · ResampleAttained: laid · TopResampleChain: laid.
  DERIVED. THE GIVEN ROWS OF THIS SEAT. 17 by the template 'for every input the law returns true; each argument reads behind the call as it read before'; 0 by the template 'total and deterministic' (their statements: YtlcfgealkjomnaaDoorTotals.lean).
  GIVEN WITH THE SEED: the statements are not yours to turn. If you find one false, say at which input.
  Laid BY PROGRAM, IN A SANDBOX (cutbox-rows.mjs): the forced cells as the released guide's own fill.sh prints them over the translation 4ffcf8469f12bc97… (all of the seat's roots in one cut). By AI agents, Wed Nov 11 2026. No macro, syntax, notation, axiom, sorry.
-/
import Derived.Test.YtlcfgealkjomnaaDoorChecked
import GoSem.Claim
import GoSem.ClaimJoined
import GoSem.ClaimMapViews
import Derived.JoinedTies
import Derived.KernelRfl
namespace Go.Proofs.YtlcfgealkjomnaaDoor
/- THE CELL 'sum', in the pinned program and in every row, IS THE sha256 OF THE DUMP (.gsa) THAT YtlcfgealkjomnaaDoorProg.lean LOADS. Nothing in Lean hashes anything: it is a label: what it is worth is what the hold of that sum in a sandbox is worth. -/
noncomputable def Tryd.pinned : Pinned := { name := "ytlcfgealkjomnaadoor", sum := "4ffcf8469f12bc9701f2f95311a91470330d22ad71110d502c18c73d8078cd35", checked := Tryd.checked }
namespace Rows
def none {H : Type} : Left H := { results := [], args := [] }

/- WHAT THE LISTED PACKAGE-LEVEL VARIABLES READ AS WHEN THE CALL BEGINS. Each datum BY PROGRAM (the guide's laid-datum.mjs) off the statement by which the dump's own 'gosem.cut.vars' lays the variable. In a bare row this is a premise. The card (YtlcfgealkjomnaaDoorCards.lean) ties it to the program's text. -/
def laid_lacquer_resample_kernels {H : Type} : DataW H := .iface "func table" (.agg [.agg [.lit (.int .i64 0), .lit (.int .i64 0), .nil, .nil, .lit (.int .i64 0)], .agg [.lit (.int .i64 0), .lit (.int .i64 64), .iface "func" (.lit (.string [108, 97, 99, 113, 117, 101, 114, 47, 114, 101, 115, 97, 109, 112, 108, 101, 46, 108, 105, 110, 101, 97, 114])), .iface "func" (.lit (.string [108, 97, 99, 113, 117, 101, 114, 47, 114, 101, 115, 97, 109, 112, 108, 101, 46, 107, 101, 114, 110, 101, 108, 115, 36, 49])), .lit (.int .i64 8192)], .agg [.lit (.int .i64 0), .lit (.int .i64 0), .nil, .nil, .lit (.int .i64 0)], .agg [.lit (.int .i64 (-1)), .lit (.int .i64 1572864), .iface "func" (.lit (.string [108, 97, 99, 113, 117, 101, 114, 47, 114, 101, 115, 97, 109, 112, 108, 101, 46, 99, 117, 98, 105, 99])), .iface "func" (.lit (.string [108, 97, 99, 113, 117, 101, 114, 47, 114, 101, 115, 97, 109, 112, 108, 101, 46, 107, 101, 114, 110, 101, 108, 115, 36, 50])), .lit (.int .i64 402653184)]])

/-- 'lacquerlaw04.ResampleOutputs': WHATEVER THE INPUT: true; the input reads as it did. -/
def resampleOutputsSpec : ChangeSpec := { name := "resampleOutputs", fn := fun _ => fun
  | [d1, d2] => { results := [.lit (.bool true)], args := [d1, d2] }
  | _ => none }
def resampleOutputsRow : OpenClaim := { program := "ytlcfgealkjomnaadoor", sum := "4ffcf8469f12bc9701f2f95311a91470330d22ad71110d502c18c73d8078cd35", func := "lacquer/lacquerlaw04.ResampleOutputs", spec := "resampleOutputs", unfollowed := true, recurses := true, named := ["lacquer/resample.kernels", "math/bits.divideError", "math/bits.overflowError"], apart := false, laid := [("lacquer/resample.kernels", laid_lacquer_resample_kernels)] }
def ResampleOutputsSaid : Prop := resampleOutputsRow.holds Tryd.pinned (OpenSpec.ofChange resampleOutputsSpec)

/-- ITS FALSE NEIGHBOUR: 'it returns false'. Refute it at one input. -/
def resampleOutputsWrong : ChangeSpec := { name := "resampleOutputs", fn := fun _ => fun
  | [d1, d2] => { results := [.lit (.bool false)], args := [d1, d2] }
  | _ => none }
def ResampleOutputsWrongFalsely : Prop := resampleOutputsRow.holds Tryd.pinned (OpenSpec.ofChange resampleOutputsWrong)

/-- 'lacquerlaw04.ResampleBack': WHATEVER THE INPUT: true; the input reads as it did. -/
def resampleBackSpec : ChangeSpec := { name := "resampleBack", fn := fun _ => fun
  | [d1, d2, d3] => { results := [.lit (.bool true)], args := [d1, d2, d3] }
  | _ => none }
def resampleBackRow : OpenClaim := { program := "ytlcfgealkjomnaadoor", sum := "4ffcf8469f12bc9701f2f95311a91470330d22ad71110d502c18c73d8078cd35", func := "lacquer/lacquerlaw04.ResampleBack", spec := "resampleBack", unfollowed := true, recurses := true, named := ["lacquer/resample.kernels", "math/bits.divideError", "math/bits.overflowError"], apart := false, laid := [("lacquer/resample.kernels", laid_lacquer_resample_kernels)] }
def ResampleBackSaid : Prop := resampleBackRow.holds Tryd.pinned (OpenSpec.ofChange resampleBackSpec)

/-- ITS FALSE NEIGHBOUR: 'it returns false'. Refute it at one input. -/
def resampleBackWrong : ChangeSpec := { name := "resampleBack", fn := fun _ => fun
  | [d1, d2, d3] => { results := [.lit (.bool false)], args := [d1, d2, d3] }
  | _ => none }
def ResampleBackWrongFalsely : Prop := resampleBackRow.holds Tryd.pinned (OpenSpec.ofChange resampleBackWrong)

/-- 'lacquerlaw04.ResampleChecks': WHATEVER THE INPUT: true; the input reads as it did. -/
def resampleChecksSpec : ChangeSpec := { name := "resampleChecks", fn := fun _ => fun
  | [d1, d2] => { results := [.lit (.bool true)], args := [d1, d2] }
  | _ => none }
def resampleChecksRow : OpenClaim := { program := "ytlcfgealkjomnaadoor", sum := "4ffcf8469f12bc9701f2f95311a91470330d22ad71110d502c18c73d8078cd35", func := "lacquer/lacquerlaw04.ResampleChecks", spec := "resampleChecks", unfollowed := true, recurses := true, named := ["lacquer/resample.kernels", "math/bits.divideError", "math/bits.overflowError"], apart := false, laid := [("lacquer/resample.kernels", laid_lacquer_resample_kernels)] }
def ResampleChecksSaid : Prop := resampleChecksRow.holds Tryd.pinned (OpenSpec.ofChange resampleChecksSpec)

/-- ITS FALSE NEIGHBOUR: 'it returns false'. Refute it at one input. -/
def resampleChecksWrong : ChangeSpec := { name := "resampleChecks", fn := fun _ => fun
  | [d1, d2] => { results := [.lit (.bool false)], args := [d1, d2] }
  | _ => none }
def ResampleChecksWrongFalsely : Prop := resampleChecksRow.holds Tryd.pinned (OpenSpec.ofChange resampleChecksWrong)

/-- 'lacquerlaw04.ResampleBetween': WHATEVER THE INPUT: true; the input reads as it did. -/
def resampleBetweenSpec : ChangeSpec := { name := "resampleBetween", fn := fun _ => fun
  | [d1, d2] => { results := [.lit (.bool true)], args := [d1, d2] }
  | _ => none }
def resampleBetweenRow : OpenClaim := { program := "ytlcfgealkjomnaadoor", sum := "4ffcf8469f12bc9701f2f95311a91470330d22ad71110d502c18c73d8078cd35", func := "lacquer/lacquerlaw04.ResampleBetween", spec := "resampleBetween", unfollowed := true, recurses := true, named := ["lacquer/resample.kernels", "math/bits.divideError", "math/bits.overflowError"], apart := false, laid := [("lacquer/resample.kernels", laid_lacquer_resample_kernels)] }
def ResampleBetweenSaid : Prop := resampleBetweenRow.holds Tryd.pinned (OpenSpec.ofChange resampleBetweenSpec)

/-- ITS FALSE NEIGHBOUR: 'it returns false'. Refute it at one input. -/
def resampleBetweenWrong : ChangeSpec := { name := "resampleBetween", fn := fun _ => fun
  | [d1, d2] => { results := [.lit (.bool false)], args := [d1, d2] }
  | _ => none }
def ResampleBetweenWrongFalsely : Prop := resampleBetweenRow.holds Tryd.pinned (OpenSpec.ofChange resampleBetweenWrong)

/-- 'lacquerlaw04.ResampleWeights': WHATEVER THE INPUT: true; the input reads as it did. -/
def resampleWeightsSpec : ChangeSpec := { name := "resampleWeights", fn := fun _ => fun
  | [d1, d2] => { results := [.lit (.bool true)], args := [d1, d2] }
  | _ => none }
def resampleWeightsRow : OpenClaim := { program := "ytlcfgealkjomnaadoor", sum := "4ffcf8469f12bc9701f2f95311a91470330d22ad71110d502c18c73d8078cd35", func := "lacquer/lacquerlaw04.ResampleWeights", spec := "resampleWeights", unfollowed := true, recurses := true, named := ["lacquer/resample.kernels", "math/bits.divideError", "math/bits.overflowError"], apart := false, laid := [("lacquer/resample.kernels", laid_lacquer_resample_kernels)] }
def ResampleWeightsSaid : Prop := resampleWeightsRow.holds Tryd.pinned (OpenSpec.ofChange resampleWeightsSpec)

/-- ITS FALSE NEIGHBOUR: 'it returns false'. Refute it at one input. -/
def resampleWeightsWrong : ChangeSpec := { name := "resampleWeights", fn := fun _ => fun
  | [d1, d2] => { results := [.lit (.bool false)], args := [d1, d2] }
  | _ => none }
def ResampleWeightsWrongFalsely : Prop := resampleWeightsRow.holds Tryd.pinned (OpenSpec.ofChange resampleWeightsWrong)

/-- 'lacquerlaw04.ResampleBounds': WHATEVER THE INPUT: true; the input reads as it did. -/
def resampleBoundsSpec : ChangeSpec := { name := "resampleBounds", fn := fun _ => fun
  | [d1, d2, d3] => { results := [.lit (.bool true)], args := [d1, d2, d3] }
  | _ => none }
def resampleBoundsRow : OpenClaim := { program := "ytlcfgealkjomnaadoor", sum := "4ffcf8469f12bc9701f2f95311a91470330d22ad71110d502c18c73d8078cd35", func := "lacquer/lacquerlaw04.ResampleBounds", spec := "resampleBounds", unfollowed := true, recurses := true, named := ["lacquer/resample.kernels", "math/bits.divideError", "math/bits.overflowError"], apart := false, laid := [("lacquer/resample.kernels", laid_lacquer_resample_kernels)] }
def ResampleBoundsSaid : Prop := resampleBoundsRow.holds Tryd.pinned (OpenSpec.ofChange resampleBoundsSpec)

/-- ITS FALSE NEIGHBOUR: 'it returns false'. Refute it at one input. -/
def resampleBoundsWrong : ChangeSpec := { name := "resampleBounds", fn := fun _ => fun
  | [d1, d2, d3] => { results := [.lit (.bool false)], args := [d1, d2, d3] }
  | _ => none }
def ResampleBoundsWrongFalsely : Prop := resampleBoundsRow.holds Tryd.pinned (OpenSpec.ofChange resampleBoundsWrong)

/-- 'lacquertop.TopResampleBack': WHATEVER THE INPUT: true; the input reads as it did. -/
def topResampleBackSpec : ChangeSpec := { name := "topResampleBack", fn := fun _ => fun
  | [d] => { results := [.lit (.bool true)], args := [d] }
  | _ => none }
def topResampleBackRow : OpenClaim := { program := "ytlcfgealkjomnaadoor", sum := "4ffcf8469f12bc9701f2f95311a91470330d22ad71110d502c18c73d8078cd35", func := "lacquer/lacquertop.TopResampleBack", spec := "topResampleBack", unfollowed := true, recurses := true, named := ["lacquer/resample.kernels", "math/bits.divideError", "math/bits.overflowError"], apart := false, laid := [("lacquer/resample.kernels", laid_lacquer_resample_kernels)] }
def TopResampleBackSaid : Prop := topResampleBackRow.holds Tryd.pinned (OpenSpec.ofChange topResampleBackSpec)

/-- ITS FALSE NEIGHBOUR: 'it returns false'. Refute it at one input. -/
def topResampleBackWrong : ChangeSpec := { name := "topResampleBack", fn := fun _ => fun
  | [d] => { results := [.lit (.bool false)], args := [d] }
  | _ => none }
def TopResampleBackWrongFalsely : Prop := topResampleBackRow.holds Tryd.pinned (OpenSpec.ofChange topResampleBackWrong)

/-- 'lacquerlaw04.ResampleFilters': WHATEVER THE INPUT: true; the input reads as it did. -/
def resampleFiltersSpec : ChangeSpec := { name := "resampleFilters", fn := fun _ => fun
  | [d1, d2] => { results := [.lit (.bool true)], args := [d1, d2] }
  | _ => none }
def resampleFiltersRow : OpenClaim := { program := "ytlcfgealkjomnaadoor", sum := "4ffcf8469f12bc9701f2f95311a91470330d22ad71110d502c18c73d8078cd35", func := "lacquer/lacquerlaw04.ResampleFilters", spec := "resampleFilters", unfollowed := true, recurses := true, named := ["lacquer/resample.kernels", "math/bits.divideError", "math/bits.overflowError"], apart := false, laid := [("lacquer/resample.kernels", laid_lacquer_resample_kernels)] }
def ResampleFiltersSaid : Prop := resampleFiltersRow.holds Tryd.pinned (OpenSpec.ofChange resampleFiltersSpec)

/-- ITS FALSE NEIGHBOUR: 'it returns false'. Refute it at one input. -/
def resampleFiltersWrong : ChangeSpec := { name := "resampleFilters", fn := fun _ => fun
  | [d1, d2] => { results := [.lit (.bool false)], args := [d1, d2] }
  | _ => none }
def ResampleFiltersWrongFalsely : Prop := resampleFiltersRow.holds Tryd.pinned (OpenSpec.ofChange resampleFiltersWrong)

/-- 'lacquerlaw04.ResampleBounded': WHATEVER THE INPUT: true; the input reads as it did. -/
def resampleBoundedSpec : ChangeSpec := { name := "resampleBounded", fn := fun _ => fun
  | [d1, d2] => { results := [.lit (.bool true)], args := [d1, d2] }
  | _ => none }
def resampleBoundedRow : OpenClaim := { program := "ytlcfgealkjomnaadoor", sum := "4ffcf8469f12bc9701f2f95311a91470330d22ad71110d502c18c73d8078cd35", func := "lacquer/lacquerlaw04.ResampleBounded", spec := "resampleBounded", unfollowed := true, recurses := true, named := ["lacquer/resample.kernels", "math/bits.divideError", "math/bits.overflowError"], apart := false, laid := [("lacquer/resample.kernels", laid_lacquer_resample_kernels)] }
def ResampleBoundedSaid : Prop := resampleBoundedRow.holds Tryd.pinned (OpenSpec.ofChange resampleBoundedSpec)

/-- ITS FALSE NEIGHBOUR: 'it returns false'. Refute it at one input. -/
def resampleBoundedWrong : ChangeSpec := { name := "resampleBounded", fn := fun _ => fun
  | [d1, d2] => { results := [.lit (.bool false)], args := [d1, d2] }
  | _ => none }
def ResampleBoundedWrongFalsely : Prop := resampleBoundedRow.holds Tryd.pinned (OpenSpec.ofChange resampleBoundedWrong)

/-- 'lacquerlaw04.ResamplePolynomials': WHATEVER THE INPUT: true; the input reads as it did. -/
def resamplePolynomialsSpec : ChangeSpec := { name := "resamplePolynomials", fn := fun _ => fun
  | [d] => { results := [.lit (.bool true)], args := [d] }
  | _ => none }
def resamplePolynomialsRow : OpenClaim := { program := "ytlcfgealkjomnaadoor", sum := "4ffcf8469f12bc9701f2f95311a91470330d22ad71110d502c18c73d8078cd35", func := "lacquer/lacquerlaw04.ResamplePolynomials", spec := "resamplePolynomials", unfollowed := true, recurses := true, named := ["lacquer/resample.kernels", "math/bits.divideError", "math/bits.overflowError"], apart := false, laid := [("lacquer/resample.kernels", laid_lacquer_resample_kernels)] }
def ResamplePolynomialsSaid : Prop := resamplePolynomialsRow.holds Tryd.pinned (OpenSpec.ofChange resamplePolynomialsSpec)

/-- ITS FALSE NEIGHBOUR: 'it returns false'. Refute it at one input. -/
def resamplePolynomialsWrong : ChangeSpec := { name := "resamplePolynomials", fn := fun _ => fun
  | [d] => { results := [.lit (.bool false)], args := [d] }
  | _ => none }
def ResamplePolynomialsWrongFalsely : Prop := resamplePolynomialsRow.holds Tryd.pinned (OpenSpec.ofChange resamplePolynomialsWrong)

/-- 'lacquerlaw04.ResampleRemainders': WHATEVER THE INPUT: true; the input reads as it did. -/
def resampleRemaindersSpec : ChangeSpec := { name := "resampleRemainders", fn := fun _ => fun
  | [d1, d2, d3] => { results := [.lit (.bool true)], args := [d1, d2, d3] }
  | _ => none }
def resampleRemaindersRow : OpenClaim := { program := "ytlcfgealkjomnaadoor", sum := "4ffcf8469f12bc9701f2f95311a91470330d22ad71110d502c18c73d8078cd35", func := "lacquer/lacquerlaw04.ResampleRemainders", spec := "resampleRemainders", unfollowed := true, recurses := true, named := ["lacquer/resample.kernels", "math/bits.divideError", "math/bits.overflowError"], apart := false, laid := [("lacquer/resample.kernels", laid_lacquer_resample_kernels)] }
def ResampleRemaindersSaid : Prop := resampleRemaindersRow.holds Tryd.pinned (OpenSpec.ofChange resampleRemaindersSpec)

/-- ITS FALSE NEIGHBOUR: 'it returns false'. Refute it at one input. -/
def resampleRemaindersWrong : ChangeSpec := { name := "resampleRemainders", fn := fun _ => fun
  | [d1, d2, d3] => { results := [.lit (.bool false)], args := [d1, d2, d3] }
  | _ => none }
def ResampleRemaindersWrongFalsely : Prop := resampleRemaindersRow.holds Tryd.pinned (OpenSpec.ofChange resampleRemaindersWrong)

/-- 'lacquerlaw04.ResampleEqualizes': WHATEVER THE INPUT: true; the input reads as it did. -/
def resampleEqualizesSpec : ChangeSpec := { name := "resampleEqualizes", fn := fun _ => fun
  | [d1, d2, d3] => { results := [.lit (.bool true)], args := [d1, d2, d3] }
  | _ => none }
def resampleEqualizesRow : OpenClaim := { program := "ytlcfgealkjomnaadoor", sum := "4ffcf8469f12bc9701f2f95311a91470330d22ad71110d502c18c73d8078cd35", func := "lacquer/lacquerlaw04.ResampleEqualizes", spec := "resampleEqualizes", unfollowed := true, recurses := true, named := ["lacquer/resample.kernels", "math/bits.divideError", "math/bits.overflowError"], apart := false, laid := [("lacquer/resample.kernels", laid_lacquer_resample_kernels)] }
def ResampleEqualizesSaid : Prop := resampleEqualizesRow.holds Tryd.pinned (OpenSpec.ofChange resampleEqualizesSpec)

/-- ITS FALSE NEIGHBOUR: 'it returns false'. Refute it at one input. -/
def resampleEqualizesWrong : ChangeSpec := { name := "resampleEqualizes", fn := fun _ => fun
  | [d1, d2, d3] => { results := [.lit (.bool false)], args := [d1, d2, d3] }
  | _ => none }
def ResampleEqualizesWrongFalsely : Prop := resampleEqualizesRow.holds Tryd.pinned (OpenSpec.ofChange resampleEqualizesWrong)

/-- 'lacquerlaw04.ResampleTakenBack': WHATEVER THE INPUT: true; the input reads as it did. -/
def resampleTakenBackSpec : ChangeSpec := { name := "resampleTakenBack", fn := fun _ => fun
  | [d1, d2, d3] => { results := [.lit (.bool true)], args := [d1, d2, d3] }
  | _ => none }
def resampleTakenBackRow : OpenClaim := { program := "ytlcfgealkjomnaadoor", sum := "4ffcf8469f12bc9701f2f95311a91470330d22ad71110d502c18c73d8078cd35", func := "lacquer/lacquerlaw04.ResampleTakenBack", spec := "resampleTakenBack", unfollowed := true, recurses := true, named := ["lacquer/resample.kernels", "math/bits.divideError", "math/bits.overflowError"], apart := false, laid := [("lacquer/resample.kernels", laid_lacquer_resample_kernels)] }
def ResampleTakenBackSaid : Prop := resampleTakenBackRow.holds Tryd.pinned (OpenSpec.ofChange resampleTakenBackSpec)

/-- ITS FALSE NEIGHBOUR: 'it returns false'. Refute it at one input. -/
def resampleTakenBackWrong : ChangeSpec := { name := "resampleTakenBack", fn := fun _ => fun
  | [d1, d2, d3] => { results := [.lit (.bool false)], args := [d1, d2, d3] }
  | _ => none }
def ResampleTakenBackWrongFalsely : Prop := resampleTakenBackRow.holds Tryd.pinned (OpenSpec.ofChange resampleTakenBackWrong)

/-- 'lacquerlaw04.ResampleMaxima': WHATEVER THE INPUT: true; the input reads as it did. -/
def resampleMaximaSpec : ChangeSpec := { name := "resampleMaxima", fn := fun _ => fun
  | [d1, d2] => { results := [.lit (.bool true)], args := [d1, d2] }
  | _ => none }
def resampleMaximaRow : OpenClaim := { program := "ytlcfgealkjomnaadoor", sum := "4ffcf8469f12bc9701f2f95311a91470330d22ad71110d502c18c73d8078cd35", func := "lacquer/lacquerlaw04.ResampleMaxima", spec := "resampleMaxima", unfollowed := true, recurses := true, named := ["lacquer/resample.kernels", "math/bits.divideError", "math/bits.overflowError"], apart := false, laid := [("lacquer/resample.kernels", laid_lacquer_resample_kernels)] }
def ResampleMaximaSaid : Prop := resampleMaximaRow.holds Tryd.pinned (OpenSpec.ofChange resampleMaximaSpec)

/-- ITS FALSE NEIGHBOUR: 'it returns false'. Refute it at one input. -/
def resampleMaximaWrong : ChangeSpec := { name := "resampleMaxima", fn := fun _ => fun
  | [d1, d2] => { results := [.lit (.bool false)], args := [d1, d2] }
  | _ => none }
def ResampleMaximaWrongFalsely : Prop := resampleMaximaRow.holds Tryd.pinned (OpenSpec.ofChange resampleMaximaWrong)

/-- 'lacquerlaw04.ResampleComposed': WHATEVER THE INPUT: true; the input reads as it did. -/
def resampleComposedSpec : ChangeSpec := { name := "resampleComposed", fn := fun _ => fun
  | [d1, d2, d3] => { results := [.lit (.bool true)], args := [d1, d2, d3] }
  | _ => none }
def resampleComposedRow : OpenClaim := { program := "ytlcfgealkjomnaadoor", sum := "4ffcf8469f12bc9701f2f95311a91470330d22ad71110d502c18c73d8078cd35", func := "lacquer/lacquerlaw04.ResampleComposed", spec := "resampleComposed", unfollowed := true, recurses := true, named := ["lacquer/resample.kernels", "math/bits.divideError", "math/bits.overflowError"], apart := false, laid := [("lacquer/resample.kernels", laid_lacquer_resample_kernels)] }
def ResampleComposedSaid : Prop := resampleComposedRow.holds Tryd.pinned (OpenSpec.ofChange resampleComposedSpec)

/-- ITS FALSE NEIGHBOUR: 'it returns false'. Refute it at one input. -/
def resampleComposedWrong : ChangeSpec := { name := "resampleComposed", fn := fun _ => fun
  | [d1, d2, d3] => { results := [.lit (.bool false)], args := [d1, d2, d3] }
  | _ => none }
def ResampleComposedWrongFalsely : Prop := resampleComposedRow.holds Tryd.pinned (OpenSpec.ofChange resampleComposedWrong)

/-- 'lacquerlaw04.ResampleAttained': WHATEVER THE INPUT: true; the input reads as it did. -/
def resampleAttainedSpec : ChangeSpec := { name := "resampleAttained", fn := fun _ => fun
  | [d1, d2] => { results := [.lit (.bool true)], args := [d1, d2] }
  | _ => none }
def resampleAttainedRow : OpenClaim := { program := "ytlcfgealkjomnaadoor", sum := "4ffcf8469f12bc9701f2f95311a91470330d22ad71110d502c18c73d8078cd35", func := "lacquer/lacquerlaw04.ResampleAttained", spec := "resampleAttained", unfollowed := true, recurses := true, named := ["lacquer/resample.kernels", "math/bits.divideError", "math/bits.overflowError"], apart := false, laid := [("lacquer/resample.kernels", laid_lacquer_resample_kernels)] }
def ResampleAttainedSaid : Prop := resampleAttainedRow.holds Tryd.pinned (OpenSpec.ofChange resampleAttainedSpec)

/-- ITS FALSE NEIGHBOUR: 'it returns false'. Refute it at one input. -/
def resampleAttainedWrong : ChangeSpec := { name := "resampleAttained", fn := fun _ => fun
  | [d1, d2] => { results := [.lit (.bool false)], args := [d1, d2] }
  | _ => none }
def ResampleAttainedWrongFalsely : Prop := resampleAttainedRow.holds Tryd.pinned (OpenSpec.ofChange resampleAttainedWrong)

/-- 'lacquertop.TopResampleChain': WHATEVER THE INPUT: true; the input reads as it did. -/
def topResampleChainSpec : ChangeSpec := { name := "topResampleChain", fn := fun _ => fun
  | [d1, d2, d3] => { results := [.lit (.bool true)], args := [d1, d2, d3] }
  | _ => none }
def topResampleChainRow : OpenClaim := { program := "ytlcfgealkjomnaadoor", sum := "4ffcf8469f12bc9701f2f95311a91470330d22ad71110d502c18c73d8078cd35", func := "lacquer/lacquertop.TopResampleChain", spec := "topResampleChain", unfollowed := true, recurses := true, named := ["lacquer/resample.kernels", "math/bits.divideError", "math/bits.overflowError"], apart := false, laid := [("lacquer/resample.kernels", laid_lacquer_resample_kernels)] }
def TopResampleChainSaid : Prop := topResampleChainRow.holds Tryd.pinned (OpenSpec.ofChange topResampleChainSpec)

/-- ITS FALSE NEIGHBOUR: 'it returns false'. Refute it at one input. -/
def topResampleChainWrong : ChangeSpec := { name := "topResampleChain", fn := fun _ => fun
  | [d1, d2, d3] => { results := [.lit (.bool false)], args := [d1, d2, d3] }
  | _ => none }
def TopResampleChainWrongFalsely : Prop := topResampleChainRow.holds Tryd.pinned (OpenSpec.ofChange topResampleChainWrong)

/- THE SECOND FORM. 'bulk': how many values and letters a reading holds, each counted each time it is reached (what is shared counts as often as it is met; a slice's spare places count too). A statement '..UptoSaid' is the law's where the arguments, and the package variables that the reading takes, are together of bulk at most 1048576: NARROWER than '..Said'. Prove '..Said' where nothing that the law and all that it calls make is longer than what came in: it says more and counts as full. Else prove '..UptoSaid'. A law counts once. -/
mutual
def uptoBulk {H : Type} : DataW H → Nat
  | .lit (.string bytes) => bytes.length + 1
  | .lit _ => 1
  | .nil => 1
  | .ptr d => uptoBulk d + 1
  | .slice elems spare => uptoBulkAll elems + uptoBulkAll spare + 1
  | .agg parts => uptoBulkAll parts + 1
  | .iface _ d => uptoBulk d + 1
  | .map entries => uptoBulkEntries entries + 1
  | .held _ => 1
def uptoBulkAll {H : Type} : List (DataW H) → Nat
  | [] => 0
  | d :: r => uptoBulk d + uptoBulkAll r
def uptoBulkEntries {H : Type} : List (Lit × DataW H) → Nat
  | [] => 0
  | x :: r => uptoBulkEntry x + uptoBulkEntries r
def uptoBulkEntry {H : Type} : Lit × DataW H → Nat
  | (.string bytes, d) => bytes.length + uptoBulk d + 1
  | (_, d) => uptoBulk d + 1
 end
def uptoSmall : (H : Type) → List (DataW H) → Bool := fun _ ds => decide (uptoBulkAll ds ≤ 1048576)
def OpenSpec.upto (s : _root_.Go.ChangeSpec) : _root_.Go.OpenSpec := { _root_.Go.OpenSpec.ofChange s with cond := some uptoSmall }

/-- 'lacquerlaw04.ResampleOutputs', WHERE WHAT IT READS IS OF BULK AT MOST 1048576: true; the input reads as it did. -/
def resampleOutputsUptoRow : OpenClaim := { program := "ytlcfgealkjomnaadoor", sum := "4ffcf8469f12bc9701f2f95311a91470330d22ad71110d502c18c73d8078cd35", func := "lacquer/lacquerlaw04.ResampleOutputs", spec := "resampleOutputs", unfollowed := true, recurses := true, named := ["lacquer/resample.kernels", "math/bits.divideError", "math/bits.overflowError"], apart := false, laid := [("lacquer/resample.kernels", laid_lacquer_resample_kernels)], narrowed := true }
def ResampleOutputsUptoSaid : Prop := resampleOutputsUptoRow.holds Tryd.pinned (OpenSpec.upto resampleOutputsSpec)

/-- 'lacquerlaw04.ResampleBack', WHERE WHAT IT READS IS OF BULK AT MOST 1048576: true; the input reads as it did. -/
def resampleBackUptoRow : OpenClaim := { program := "ytlcfgealkjomnaadoor", sum := "4ffcf8469f12bc9701f2f95311a91470330d22ad71110d502c18c73d8078cd35", func := "lacquer/lacquerlaw04.ResampleBack", spec := "resampleBack", unfollowed := true, recurses := true, named := ["lacquer/resample.kernels", "math/bits.divideError", "math/bits.overflowError"], apart := false, laid := [("lacquer/resample.kernels", laid_lacquer_resample_kernels)], narrowed := true }
def ResampleBackUptoSaid : Prop := resampleBackUptoRow.holds Tryd.pinned (OpenSpec.upto resampleBackSpec)

/-- 'lacquerlaw04.ResampleChecks', WHERE WHAT IT READS IS OF BULK AT MOST 1048576: true; the input reads as it did. -/
def resampleChecksUptoRow : OpenClaim := { program := "ytlcfgealkjomnaadoor", sum := "4ffcf8469f12bc9701f2f95311a91470330d22ad71110d502c18c73d8078cd35", func := "lacquer/lacquerlaw04.ResampleChecks", spec := "resampleChecks", unfollowed := true, recurses := true, named := ["lacquer/resample.kernels", "math/bits.divideError", "math/bits.overflowError"], apart := false, laid := [("lacquer/resample.kernels", laid_lacquer_resample_kernels)], narrowed := true }
def ResampleChecksUptoSaid : Prop := resampleChecksUptoRow.holds Tryd.pinned (OpenSpec.upto resampleChecksSpec)

/-- 'lacquerlaw04.ResampleBetween', WHERE WHAT IT READS IS OF BULK AT MOST 1048576: true; the input reads as it did. -/
def resampleBetweenUptoRow : OpenClaim := { program := "ytlcfgealkjomnaadoor", sum := "4ffcf8469f12bc9701f2f95311a91470330d22ad71110d502c18c73d8078cd35", func := "lacquer/lacquerlaw04.ResampleBetween", spec := "resampleBetween", unfollowed := true, recurses := true, named := ["lacquer/resample.kernels", "math/bits.divideError", "math/bits.overflowError"], apart := false, laid := [("lacquer/resample.kernels", laid_lacquer_resample_kernels)], narrowed := true }
def ResampleBetweenUptoSaid : Prop := resampleBetweenUptoRow.holds Tryd.pinned (OpenSpec.upto resampleBetweenSpec)

/-- 'lacquerlaw04.ResampleWeights', WHERE WHAT IT READS IS OF BULK AT MOST 1048576: true; the input reads as it did. -/
def resampleWeightsUptoRow : OpenClaim := { program := "ytlcfgealkjomnaadoor", sum := "4ffcf8469f12bc9701f2f95311a91470330d22ad71110d502c18c73d8078cd35", func := "lacquer/lacquerlaw04.ResampleWeights", spec := "resampleWeights", unfollowed := true, recurses := true, named := ["lacquer/resample.kernels", "math/bits.divideError", "math/bits.overflowError"], apart := false, laid := [("lacquer/resample.kernels", laid_lacquer_resample_kernels)], narrowed := true }
def ResampleWeightsUptoSaid : Prop := resampleWeightsUptoRow.holds Tryd.pinned (OpenSpec.upto resampleWeightsSpec)

/-- 'lacquerlaw04.ResampleBounds', WHERE WHAT IT READS IS OF BULK AT MOST 1048576: true; the input reads as it did. -/
def resampleBoundsUptoRow : OpenClaim := { program := "ytlcfgealkjomnaadoor", sum := "4ffcf8469f12bc9701f2f95311a91470330d22ad71110d502c18c73d8078cd35", func := "lacquer/lacquerlaw04.ResampleBounds", spec := "resampleBounds", unfollowed := true, recurses := true, named := ["lacquer/resample.kernels", "math/bits.divideError", "math/bits.overflowError"], apart := false, laid := [("lacquer/resample.kernels", laid_lacquer_resample_kernels)], narrowed := true }
def ResampleBoundsUptoSaid : Prop := resampleBoundsUptoRow.holds Tryd.pinned (OpenSpec.upto resampleBoundsSpec)

/-- 'lacquertop.TopResampleBack', WHERE WHAT IT READS IS OF BULK AT MOST 1048576: true; the input reads as it did. -/
def topResampleBackUptoRow : OpenClaim := { program := "ytlcfgealkjomnaadoor", sum := "4ffcf8469f12bc9701f2f95311a91470330d22ad71110d502c18c73d8078cd35", func := "lacquer/lacquertop.TopResampleBack", spec := "topResampleBack", unfollowed := true, recurses := true, named := ["lacquer/resample.kernels", "math/bits.divideError", "math/bits.overflowError"], apart := false, laid := [("lacquer/resample.kernels", laid_lacquer_resample_kernels)], narrowed := true }
def TopResampleBackUptoSaid : Prop := topResampleBackUptoRow.holds Tryd.pinned (OpenSpec.upto topResampleBackSpec)

/-- 'lacquerlaw04.ResampleFilters', WHERE WHAT IT READS IS OF BULK AT MOST 1048576: true; the input reads as it did. -/
def resampleFiltersUptoRow : OpenClaim := { program := "ytlcfgealkjomnaadoor", sum := "4ffcf8469f12bc9701f2f95311a91470330d22ad71110d502c18c73d8078cd35", func := "lacquer/lacquerlaw04.ResampleFilters", spec := "resampleFilters", unfollowed := true, recurses := true, named := ["lacquer/resample.kernels", "math/bits.divideError", "math/bits.overflowError"], apart := false, laid := [("lacquer/resample.kernels", laid_lacquer_resample_kernels)], narrowed := true }
def ResampleFiltersUptoSaid : Prop := resampleFiltersUptoRow.holds Tryd.pinned (OpenSpec.upto resampleFiltersSpec)

/-- 'lacquerlaw04.ResampleBounded', WHERE WHAT IT READS IS OF BULK AT MOST 1048576: true; the input reads as it did. -/
def resampleBoundedUptoRow : OpenClaim := { program := "ytlcfgealkjomnaadoor", sum := "4ffcf8469f12bc9701f2f95311a91470330d22ad71110d502c18c73d8078cd35", func := "lacquer/lacquerlaw04.ResampleBounded", spec := "resampleBounded", unfollowed := true, recurses := true, named := ["lacquer/resample.kernels", "math/bits.divideError", "math/bits.overflowError"], apart := false, laid := [("lacquer/resample.kernels", laid_lacquer_resample_kernels)], narrowed := true }
def ResampleBoundedUptoSaid : Prop := resampleBoundedUptoRow.holds Tryd.pinned (OpenSpec.upto resampleBoundedSpec)

/-- 'lacquerlaw04.ResamplePolynomials', WHERE WHAT IT READS IS OF BULK AT MOST 1048576: true; the input reads as it did. -/
def resamplePolynomialsUptoRow : OpenClaim := { program := "ytlcfgealkjomnaadoor", sum := "4ffcf8469f12bc9701f2f95311a91470330d22ad71110d502c18c73d8078cd35", func := "lacquer/lacquerlaw04.ResamplePolynomials", spec := "resamplePolynomials", unfollowed := true, recurses := true, named := ["lacquer/resample.kernels", "math/bits.divideError", "math/bits.overflowError"], apart := false, laid := [("lacquer/resample.kernels", laid_lacquer_resample_kernels)], narrowed := true }
def ResamplePolynomialsUptoSaid : Prop := resamplePolynomialsUptoRow.holds Tryd.pinned (OpenSpec.upto resamplePolynomialsSpec)

/-- 'lacquerlaw04.ResampleRemainders', WHERE WHAT IT READS IS OF BULK AT MOST 1048576: true; the input reads as it did. -/
def resampleRemaindersUptoRow : OpenClaim := { program := "ytlcfgealkjomnaadoor", sum := "4ffcf8469f12bc9701f2f95311a91470330d22ad71110d502c18c73d8078cd35", func := "lacquer/lacquerlaw04.ResampleRemainders", spec := "resampleRemainders", unfollowed := true, recurses := true, named := ["lacquer/resample.kernels", "math/bits.divideError", "math/bits.overflowError"], apart := false, laid := [("lacquer/resample.kernels", laid_lacquer_resample_kernels)], narrowed := true }
def ResampleRemaindersUptoSaid : Prop := resampleRemaindersUptoRow.holds Tryd.pinned (OpenSpec.upto resampleRemaindersSpec)

/-- 'lacquerlaw04.ResampleEqualizes', WHERE WHAT IT READS IS OF BULK AT MOST 1048576: true; the input reads as it did. -/
def resampleEqualizesUptoRow : OpenClaim := { program := "ytlcfgealkjomnaadoor", sum := "4ffcf8469f12bc9701f2f95311a91470330d22ad71110d502c18c73d8078cd35", func := "lacquer/lacquerlaw04.ResampleEqualizes", spec := "resampleEqualizes", unfollowed := true, recurses := true, named := ["lacquer/resample.kernels", "math/bits.divideError", "math/bits.overflowError"], apart := false, laid := [("lacquer/resample.kernels", laid_lacquer_resample_kernels)], narrowed := true }
def ResampleEqualizesUptoSaid : Prop := resampleEqualizesUptoRow.holds Tryd.pinned (OpenSpec.upto resampleEqualizesSpec)

/-- 'lacquerlaw04.ResampleTakenBack', WHERE WHAT IT READS IS OF BULK AT MOST 1048576: true; the input reads as it did. -/
def resampleTakenBackUptoRow : OpenClaim := { program := "ytlcfgealkjomnaadoor", sum := "4ffcf8469f12bc9701f2f95311a91470330d22ad71110d502c18c73d8078cd35", func := "lacquer/lacquerlaw04.ResampleTakenBack", spec := "resampleTakenBack", unfollowed := true, recurses := true, named := ["lacquer/resample.kernels", "math/bits.divideError", "math/bits.overflowError"], apart := false, laid := [("lacquer/resample.kernels", laid_lacquer_resample_kernels)], narrowed := true }
def ResampleTakenBackUptoSaid : Prop := resampleTakenBackUptoRow.holds Tryd.pinned (OpenSpec.upto resampleTakenBackSpec)

/-- 'lacquerlaw04.ResampleMaxima', WHERE WHAT IT READS IS OF BULK AT MOST 1048576: true; the input reads as it did. -/
def resampleMaximaUptoRow : OpenClaim := { program := "ytlcfgealkjomnaadoor", sum := "4ffcf8469f12bc9701f2f95311a91470330d22ad71110d502c18c73d8078cd35", func := "lacquer/lacquerlaw04.ResampleMaxima", spec := "resampleMaxima", unfollowed := true, recurses := true, named := ["lacquer/resample.kernels", "math/bits.divideError", "math/bits.overflowError"], apart := false, laid := [("lacquer/resample.kernels", laid_lacquer_resample_kernels)], narrowed := true }
def ResampleMaximaUptoSaid : Prop := resampleMaximaUptoRow.holds Tryd.pinned (OpenSpec.upto resampleMaximaSpec)

/-- 'lacquerlaw04.ResampleComposed', WHERE WHAT IT READS IS OF BULK AT MOST 1048576: true; the input reads as it did. -/
def resampleComposedUptoRow : OpenClaim := { program := "ytlcfgealkjomnaadoor", sum := "4ffcf8469f12bc9701f2f95311a91470330d22ad71110d502c18c73d8078cd35", func := "lacquer/lacquerlaw04.ResampleComposed", spec := "resampleComposed", unfollowed := true, recurses := true, named := ["lacquer/resample.kernels", "math/bits.divideError", "math/bits.overflowError"], apart := false, laid := [("lacquer/resample.kernels", laid_lacquer_resample_kernels)], narrowed := true }
def ResampleComposedUptoSaid : Prop := resampleComposedUptoRow.holds Tryd.pinned (OpenSpec.upto resampleComposedSpec)

/-- 'lacquerlaw04.ResampleAttained', WHERE WHAT IT READS IS OF BULK AT MOST 1048576: true; the input reads as it did. -/
def resampleAttainedUptoRow : OpenClaim := { program := "ytlcfgealkjomnaadoor", sum := "4ffcf8469f12bc9701f2f95311a91470330d22ad71110d502c18c73d8078cd35", func := "lacquer/lacquerlaw04.ResampleAttained", spec := "resampleAttained", unfollowed := true, recurses := true, named := ["lacquer/resample.kernels", "math/bits.divideError", "math/bits.overflowError"], apart := false, laid := [("lacquer/resample.kernels", laid_lacquer_resample_kernels)], narrowed := true }
def ResampleAttainedUptoSaid : Prop := resampleAttainedUptoRow.holds Tryd.pinned (OpenSpec.upto resampleAttainedSpec)

/-- 'lacquertop.TopResampleChain', WHERE WHAT IT READS IS OF BULK AT MOST 1048576: true; the input reads as it did. -/
def topResampleChainUptoRow : OpenClaim := { program := "ytlcfgealkjomnaadoor", sum := "4ffcf8469f12bc9701f2f95311a91470330d22ad71110d502c18c73d8078cd35", func := "lacquer/lacquertop.TopResampleChain", spec := "topResampleChain", unfollowed := true, recurses := true, named := ["lacquer/resample.kernels", "math/bits.divideError", "math/bits.overflowError"], apart := false, laid := [("lacquer/resample.kernels", laid_lacquer_resample_kernels)], narrowed := true }
def TopResampleChainUptoSaid : Prop := topResampleChainUptoRow.holds Tryd.pinned (OpenSpec.upto topResampleChainSpec)

end Rows
end Go.Proofs.YtlcfgealkjomnaaDoor
