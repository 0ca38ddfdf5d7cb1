/-
  No cell of these rows narrows 'for every input' (looked for: loops, veiled, ifaces, maps, wideKeys, modest, calm, conditions, laid).
  DERIVED. THE GIVEN ROWS OF THIS SEAT. 14 by the template 'for every input the law returns true; each argument reads behind the call as it read before'; 0 by the template 'total and deterministic' (their statements: YteimgikhanhgiaaTotals.lean).
  GIVEN WITH THE SEED: the statements are not yours to turn. If you find one false, say at which input.
  Laid BY PROGRAM, IN A SANDBOX (cutbox-rows.mjs): the forced cells as the released guide's own fill.sh prints them over the translation ff2f4a16c8777af9… (all of the seat's roots in one cut). By AI agents, Wed Nov 11 2026. No macro, syntax, notation, axiom, sorry.
-/
import Derived.Test.YteimgikhanhgiaaChecked
import GoSem.Claim
import GoSem.ClaimJoined
import GoSem.ClaimMapViews
import Derived.JoinedTies
import Derived.KernelRfl
namespace Go.Proofs.Yteimgikhanhgiaa
/- THE CELL 'sum', in the pinned program and in every row, IS THE sha256 OF THE DUMP (.gsa) THAT YteimgikhanhgiaaProg.lean LOADS. Nothing in Lean hashes anything: it is a label: what it is worth is what the hold of that sum in a sandbox is worth. -/
noncomputable def Try.pinned : Pinned := { name := "yteimgikhanhgiaa", sum := "ff2f4a16c8777af9bb0775ed844ae45b05c4049cd4dbb94f3bd63d790879c82a", checked := Try.checked }
namespace Rows
def none {H : Type} : Left H := { results := [], args := [] }

/-- 'lacquerlaw03.SpeedEvidences': WHATEVER THE INPUT: true; the input reads as it did. -/
def speedEvidencesSpec : ChangeSpec := { name := "speedEvidences", fn := fun _ => fun
  | [d1, d2] => { results := [.lit (.bool true)], args := [d1, d2] }
  | _ => none }
def speedEvidencesRow : OpenClaim := { program := "yteimgikhanhgiaa", sum := "ff2f4a16c8777af9bb0775ed844ae45b05c4049cd4dbb94f3bd63d790879c82a", func := "lacquer/lacquerlaw03.SpeedEvidences", spec := "speedEvidences", unfollowed := true, recurses := true, named := ["math/bits.divideError", "math/bits.overflowError"], plainKeys := false, apart := false }
def SpeedEvidencesSaid : Prop := speedEvidencesRow.holds Try.pinned (OpenSpec.ofChange speedEvidencesSpec)

/-- ITS FALSE NEIGHBOUR: 'it returns false'. Refute it at one input. -/
def speedEvidencesWrong : ChangeSpec := { name := "speedEvidences", fn := fun _ => fun
  | [d1, d2] => { results := [.lit (.bool false)], args := [d1, d2] }
  | _ => none }
def SpeedEvidencesWrongFalsely : Prop := speedEvidencesRow.holds Try.pinned (OpenSpec.ofChange speedEvidencesWrong)

/-- 'lacquerlaw03.SpeedRates': WHATEVER THE INPUT: true; the input reads as it did. -/
def speedRatesSpec : ChangeSpec := { name := "speedRates", fn := fun _ => fun
  | [d1, d2] => { results := [.lit (.bool true)], args := [d1, d2] }
  | _ => none }
def speedRatesRow : OpenClaim := { program := "yteimgikhanhgiaa", sum := "ff2f4a16c8777af9bb0775ed844ae45b05c4049cd4dbb94f3bd63d790879c82a", func := "lacquer/lacquerlaw03.SpeedRates", spec := "speedRates", unfollowed := true, recurses := true, named := ["math/bits.divideError", "math/bits.overflowError"], plainKeys := false, apart := false }
def SpeedRatesSaid : Prop := speedRatesRow.holds Try.pinned (OpenSpec.ofChange speedRatesSpec)

/-- ITS FALSE NEIGHBOUR: 'it returns false'. Refute it at one input. -/
def speedRatesWrong : ChangeSpec := { name := "speedRates", fn := fun _ => fun
  | [d1, d2] => { results := [.lit (.bool false)], args := [d1, d2] }
  | _ => none }
def SpeedRatesWrongFalsely : Prop := speedRatesRow.holds Try.pinned (OpenSpec.ofChange speedRatesWrong)

/-- 'lacquertop.TopSpeedEncloses': WHATEVER THE INPUT: true; the input reads as it did. -/
def topSpeedEnclosesSpec : ChangeSpec := { name := "topSpeedEncloses", fn := fun _ => fun
  | [d1, d2, d3] => { results := [.lit (.bool true)], args := [d1, d2, d3] }
  | _ => none }
def topSpeedEnclosesRow : OpenClaim := { program := "yteimgikhanhgiaa", sum := "ff2f4a16c8777af9bb0775ed844ae45b05c4049cd4dbb94f3bd63d790879c82a", func := "lacquer/lacquertop.TopSpeedEncloses", spec := "topSpeedEncloses", unfollowed := true, recurses := true, named := ["math/bits.divideError", "math/bits.overflowError"], plainKeys := false, apart := false }
def TopSpeedEnclosesSaid : Prop := topSpeedEnclosesRow.holds Try.pinned (OpenSpec.ofChange topSpeedEnclosesSpec)

/-- ITS FALSE NEIGHBOUR: 'it returns false'. Refute it at one input. -/
def topSpeedEnclosesWrong : ChangeSpec := { name := "topSpeedEncloses", fn := fun _ => fun
  | [d1, d2, d3] => { results := [.lit (.bool false)], args := [d1, d2, d3] }
  | _ => none }
def TopSpeedEnclosesWrongFalsely : Prop := topSpeedEnclosesRow.holds Try.pinned (OpenSpec.ofChange topSpeedEnclosesWrong)

/-- 'lacquerlaw03.SpeedMaps': WHATEVER THE INPUT: true; the input reads as it did. -/
def speedMapsSpec : ChangeSpec := { name := "speedMaps", fn := fun _ => fun
  | [d1, d2, d3] => { results := [.lit (.bool true)], args := [d1, d2, d3] }
  | _ => none }
def speedMapsRow : OpenClaim := { program := "yteimgikhanhgiaa", sum := "ff2f4a16c8777af9bb0775ed844ae45b05c4049cd4dbb94f3bd63d790879c82a", func := "lacquer/lacquerlaw03.SpeedMaps", spec := "speedMaps", unfollowed := true, recurses := true, named := ["math/bits.divideError", "math/bits.overflowError"], plainKeys := false, apart := false }
def SpeedMapsSaid : Prop := speedMapsRow.holds Try.pinned (OpenSpec.ofChange speedMapsSpec)

/-- ITS FALSE NEIGHBOUR: 'it returns false'. Refute it at one input. -/
def speedMapsWrong : ChangeSpec := { name := "speedMaps", fn := fun _ => fun
  | [d1, d2, d3] => { results := [.lit (.bool false)], args := [d1, d2, d3] }
  | _ => none }
def SpeedMapsWrongFalsely : Prop := speedMapsRow.holds Try.pinned (OpenSpec.ofChange speedMapsWrong)

/-- 'lacquerlaw03.SpeedThereAndBack': WHATEVER THE INPUT: true; the input reads as it did. -/
def speedThereAndBackSpec : ChangeSpec := { name := "speedThereAndBack", fn := fun _ => fun
  | [d1, d2] => { results := [.lit (.bool true)], args := [d1, d2] }
  | _ => none }
def speedThereAndBackRow : OpenClaim := { program := "yteimgikhanhgiaa", sum := "ff2f4a16c8777af9bb0775ed844ae45b05c4049cd4dbb94f3bd63d790879c82a", func := "lacquer/lacquerlaw03.SpeedThereAndBack", spec := "speedThereAndBack", unfollowed := true, recurses := true, named := ["math/bits.divideError", "math/bits.overflowError"], plainKeys := false, apart := false }
def SpeedThereAndBackSaid : Prop := speedThereAndBackRow.holds Try.pinned (OpenSpec.ofChange speedThereAndBackSpec)

/-- ITS FALSE NEIGHBOUR: 'it returns false'. Refute it at one input. -/
def speedThereAndBackWrong : ChangeSpec := { name := "speedThereAndBack", fn := fun _ => fun
  | [d1, d2] => { results := [.lit (.bool false)], args := [d1, d2] }
  | _ => none }
def SpeedThereAndBackWrongFalsely : Prop := speedThereAndBackRow.holds Try.pinned (OpenSpec.ofChange speedThereAndBackWrong)

/-- 'lacquerlaw03.SpeedTones': WHATEVER THE INPUT: true; the input reads as it did. -/
def speedTonesSpec : ChangeSpec := { name := "speedTones", fn := fun _ => fun
  | [d] => { results := [.lit (.bool true)], args := [d] }
  | _ => none }
def speedTonesRow : OpenClaim := { program := "yteimgikhanhgiaa", sum := "ff2f4a16c8777af9bb0775ed844ae45b05c4049cd4dbb94f3bd63d790879c82a", func := "lacquer/lacquerlaw03.SpeedTones", spec := "speedTones", unfollowed := true, recurses := true, named := ["math/bits.divideError", "math/bits.overflowError"], plainKeys := false, apart := false }
def SpeedTonesSaid : Prop := speedTonesRow.holds Try.pinned (OpenSpec.ofChange speedTonesSpec)

/-- ITS FALSE NEIGHBOUR: 'it returns false'. Refute it at one input. -/
def speedTonesWrong : ChangeSpec := { name := "speedTones", fn := fun _ => fun
  | [d] => { results := [.lit (.bool false)], args := [d] }
  | _ => none }
def SpeedTonesWrongFalsely : Prop := speedTonesRow.holds Try.pinned (OpenSpec.ofChange speedTonesWrong)

/-- 'lacquerlaw03.SpeedAccepts': WHATEVER THE INPUT: true; the input reads as it did. -/
def speedAcceptsSpec : ChangeSpec := { name := "speedAccepts", fn := fun _ => fun
  | [d1, d2] => { results := [.lit (.bool true)], args := [d1, d2] }
  | _ => none }
def speedAcceptsRow : OpenClaim := { program := "yteimgikhanhgiaa", sum := "ff2f4a16c8777af9bb0775ed844ae45b05c4049cd4dbb94f3bd63d790879c82a", func := "lacquer/lacquerlaw03.SpeedAccepts", spec := "speedAccepts", unfollowed := true, recurses := true, named := ["math/bits.divideError", "math/bits.overflowError"], plainKeys := false, apart := false }
def SpeedAcceptsSaid : Prop := speedAcceptsRow.holds Try.pinned (OpenSpec.ofChange speedAcceptsSpec)

/-- ITS FALSE NEIGHBOUR: 'it returns false'. Refute it at one input. -/
def speedAcceptsWrong : ChangeSpec := { name := "speedAccepts", fn := fun _ => fun
  | [d1, d2] => { results := [.lit (.bool false)], args := [d1, d2] }
  | _ => none }
def SpeedAcceptsWrongFalsely : Prop := speedAcceptsRow.holds Try.pinned (OpenSpec.ofChange speedAcceptsWrong)

/-- 'lacquerlaw03.SpeedFewest': WHATEVER THE INPUT: true; the input reads as it did. -/
def speedFewestSpec : ChangeSpec := { name := "speedFewest", fn := fun _ => fun
  | [d] => { results := [.lit (.bool true)], args := [d] }
  | _ => none }
def speedFewestRow : OpenClaim := { program := "yteimgikhanhgiaa", sum := "ff2f4a16c8777af9bb0775ed844ae45b05c4049cd4dbb94f3bd63d790879c82a", func := "lacquer/lacquerlaw03.SpeedFewest", spec := "speedFewest", unfollowed := true, recurses := true, named := ["math/bits.divideError", "math/bits.overflowError"], plainKeys := false, apart := false }
def SpeedFewestSaid : Prop := speedFewestRow.holds Try.pinned (OpenSpec.ofChange speedFewestSpec)

/-- ITS FALSE NEIGHBOUR: 'it returns false'. Refute it at one input. -/
def speedFewestWrong : ChangeSpec := { name := "speedFewest", fn := fun _ => fun
  | [d] => { results := [.lit (.bool false)], args := [d] }
  | _ => none }
def SpeedFewestWrongFalsely : Prop := speedFewestRow.holds Try.pinned (OpenSpec.ofChange speedFewestWrong)

/-- 'lacquerlaw03.SpeedAny': WHATEVER THE INPUT: true; the input reads as it did. -/
def speedAnySpec : ChangeSpec := { name := "speedAny", fn := fun _ => fun
  | [d] => { results := [.lit (.bool true)], args := [d] }
  | _ => none }
def speedAnyRow : OpenClaim := { program := "yteimgikhanhgiaa", sum := "ff2f4a16c8777af9bb0775ed844ae45b05c4049cd4dbb94f3bd63d790879c82a", func := "lacquer/lacquerlaw03.SpeedAny", spec := "speedAny", unfollowed := true, recurses := true, named := ["math/bits.divideError", "math/bits.overflowError"], plainKeys := false, apart := false }
def SpeedAnySaid : Prop := speedAnyRow.holds Try.pinned (OpenSpec.ofChange speedAnySpec)

/-- ITS FALSE NEIGHBOUR: 'it returns false'. Refute it at one input. -/
def speedAnyWrong : ChangeSpec := { name := "speedAny", fn := fun _ => fun
  | [d] => { results := [.lit (.bool false)], args := [d] }
  | _ => none }
def SpeedAnyWrongFalsely : Prop := speedAnyRow.holds Try.pinned (OpenSpec.ofChange speedAnyWrong)

/-- 'lacquerlaw03.SpeedEnclosed': WHATEVER THE INPUT: true; the input reads as it did. -/
def speedEnclosedSpec : ChangeSpec := { name := "speedEnclosed", fn := fun _ => fun
  | [d1, d2, d3] => { results := [.lit (.bool true)], args := [d1, d2, d3] }
  | _ => none }
def speedEnclosedRow : OpenClaim := { program := "yteimgikhanhgiaa", sum := "ff2f4a16c8777af9bb0775ed844ae45b05c4049cd4dbb94f3bd63d790879c82a", func := "lacquer/lacquerlaw03.SpeedEnclosed", spec := "speedEnclosed", unfollowed := true, recurses := true, named := ["math/bits.divideError", "math/bits.overflowError"], plainKeys := false, apart := false }
def SpeedEnclosedSaid : Prop := speedEnclosedRow.holds Try.pinned (OpenSpec.ofChange speedEnclosedSpec)

/-- ITS FALSE NEIGHBOUR: 'it returns false'. Refute it at one input. -/
def speedEnclosedWrong : ChangeSpec := { name := "speedEnclosed", fn := fun _ => fun
  | [d1, d2, d3] => { results := [.lit (.bool false)], args := [d1, d2, d3] }
  | _ => none }
def SpeedEnclosedWrongFalsely : Prop := speedEnclosedRow.holds Try.pinned (OpenSpec.ofChange speedEnclosedWrong)

/-- 'lacquerlaw03.SpeedParts': WHATEVER THE INPUT: true; the input reads as it did. -/
def speedPartsSpec : ChangeSpec := { name := "speedParts", fn := fun _ => fun
  | [d1, d2, d3] => { results := [.lit (.bool true)], args := [d1, d2, d3] }
  | _ => none }
def speedPartsRow : OpenClaim := { program := "yteimgikhanhgiaa", sum := "ff2f4a16c8777af9bb0775ed844ae45b05c4049cd4dbb94f3bd63d790879c82a", func := "lacquer/lacquerlaw03.SpeedParts", spec := "speedParts", unfollowed := true, recurses := true, named := ["math/bits.divideError", "math/bits.overflowError"], plainKeys := false, apart := false }
def SpeedPartsSaid : Prop := speedPartsRow.holds Try.pinned (OpenSpec.ofChange speedPartsSpec)

/-- ITS FALSE NEIGHBOUR: 'it returns false'. Refute it at one input. -/
def speedPartsWrong : ChangeSpec := { name := "speedParts", fn := fun _ => fun
  | [d1, d2, d3] => { results := [.lit (.bool false)], args := [d1, d2, d3] }
  | _ => none }
def SpeedPartsWrongFalsely : Prop := speedPartsRow.holds Try.pinned (OpenSpec.ofChange speedPartsWrong)

/-- 'lacquerlaw03.SpeedClashes': WHATEVER THE INPUT: true; the input reads as it did. -/
def speedClashesSpec : ChangeSpec := { name := "speedClashes", fn := fun _ => fun
  | [d] => { results := [.lit (.bool true)], args := [d] }
  | _ => none }
def speedClashesRow : OpenClaim := { program := "yteimgikhanhgiaa", sum := "ff2f4a16c8777af9bb0775ed844ae45b05c4049cd4dbb94f3bd63d790879c82a", func := "lacquer/lacquerlaw03.SpeedClashes", spec := "speedClashes", unfollowed := true, recurses := true, named := ["math/bits.divideError", "math/bits.overflowError"], plainKeys := false, apart := false }
def SpeedClashesSaid : Prop := speedClashesRow.holds Try.pinned (OpenSpec.ofChange speedClashesSpec)

/-- ITS FALSE NEIGHBOUR: 'it returns false'. Refute it at one input. -/
def speedClashesWrong : ChangeSpec := { name := "speedClashes", fn := fun _ => fun
  | [d] => { results := [.lit (.bool false)], args := [d] }
  | _ => none }
def SpeedClashesWrongFalsely : Prop := speedClashesRow.holds Try.pinned (OpenSpec.ofChange speedClashesWrong)

/-- 'lacquerlaw03.SpeedTwo': WHATEVER THE INPUT: true; the input reads as it did. -/
def speedTwoSpec : ChangeSpec := { name := "speedTwo", fn := fun _ => fun
  | [d] => { results := [.lit (.bool true)], args := [d] }
  | _ => none }
def speedTwoRow : OpenClaim := { program := "yteimgikhanhgiaa", sum := "ff2f4a16c8777af9bb0775ed844ae45b05c4049cd4dbb94f3bd63d790879c82a", func := "lacquer/lacquerlaw03.SpeedTwo", spec := "speedTwo", unfollowed := true, recurses := true, named := ["math/bits.divideError", "math/bits.overflowError"], plainKeys := false, apart := false }
def SpeedTwoSaid : Prop := speedTwoRow.holds Try.pinned (OpenSpec.ofChange speedTwoSpec)

/-- ITS FALSE NEIGHBOUR: 'it returns false'. Refute it at one input. -/
def speedTwoWrong : ChangeSpec := { name := "speedTwo", fn := fun _ => fun
  | [d] => { results := [.lit (.bool false)], args := [d] }
  | _ => none }
def SpeedTwoWrongFalsely : Prop := speedTwoRow.holds Try.pinned (OpenSpec.ofChange speedTwoWrong)

/-- 'lacquerlaw03.SpeedSteady': WHATEVER THE INPUT: true; the input reads as it did. -/
def speedSteadySpec : ChangeSpec := { name := "speedSteady", fn := fun _ => fun
  | [d1, d2] => { results := [.lit (.bool true)], args := [d1, d2] }
  | _ => none }
def speedSteadyRow : OpenClaim := { program := "yteimgikhanhgiaa", sum := "ff2f4a16c8777af9bb0775ed844ae45b05c4049cd4dbb94f3bd63d790879c82a", func := "lacquer/lacquerlaw03.SpeedSteady", spec := "speedSteady", unfollowed := true, recurses := true, named := ["math/bits.divideError", "math/bits.overflowError"], plainKeys := false, apart := false }
def SpeedSteadySaid : Prop := speedSteadyRow.holds Try.pinned (OpenSpec.ofChange speedSteadySpec)

/-- ITS FALSE NEIGHBOUR: 'it returns false'. Refute it at one input. -/
def speedSteadyWrong : ChangeSpec := { name := "speedSteady", fn := fun _ => fun
  | [d1, d2] => { results := [.lit (.bool false)], args := [d1, d2] }
  | _ => none }
def SpeedSteadyWrongFalsely : Prop := speedSteadyRow.holds Try.pinned (OpenSpec.ofChange speedSteadyWrong)

/- THE SECOND FORM. 'bulk': how many values and letters a reading holds, each counted each time it is reached (what is shared counts as often as it is met; a slice's spare places count too). A statement '..UptoSaid' is the law's where the arguments, and the package variables that the reading takes, are together of bulk at most 1048576: NARROWER than '..Said'. Prove '..Said' where nothing that the law and all that it calls make is longer than what came in: it says more and counts as full. Else prove '..UptoSaid'. A law counts once. -/
mutual
def uptoBulk {H : Type} : DataW H → Nat
  | .lit (.string bytes) => bytes.length + 1
  | .lit _ => 1
  | .nil => 1
  | .ptr d => uptoBulk d + 1
  | .slice elems spare => uptoBulkAll elems + uptoBulkAll spare + 1
  | .agg parts => uptoBulkAll parts + 1
  | .iface _ d => uptoBulk d + 1
  | .map entries => uptoBulkEntries entries + 1
  | .held _ => 1
def uptoBulkAll {H : Type} : List (DataW H) → Nat
  | [] => 0
  | d :: r => uptoBulk d + uptoBulkAll r
def uptoBulkEntries {H : Type} : List (Lit × DataW H) → Nat
  | [] => 0
  | x :: r => uptoBulkEntry x + uptoBulkEntries r
def uptoBulkEntry {H : Type} : Lit × DataW H → Nat
  | (.string bytes, d) => bytes.length + uptoBulk d + 1
  | (_, d) => uptoBulk d + 1
 end
def uptoSmall : (H : Type) → List (DataW H) → Bool := fun _ ds => decide (uptoBulkAll ds ≤ 1048576)
def OpenSpec.upto (s : _root_.Go.ChangeSpec) : _root_.Go.OpenSpec := { _root_.Go.OpenSpec.ofChange s with cond := some uptoSmall }

/-- 'lacquerlaw03.SpeedEvidences', WHERE WHAT IT READS IS OF BULK AT MOST 1048576: true; the input reads as it did. -/
def speedEvidencesUptoRow : OpenClaim := { program := "yteimgikhanhgiaa", sum := "ff2f4a16c8777af9bb0775ed844ae45b05c4049cd4dbb94f3bd63d790879c82a", func := "lacquer/lacquerlaw03.SpeedEvidences", spec := "speedEvidences", unfollowed := true, recurses := true, named := ["math/bits.divideError", "math/bits.overflowError"], plainKeys := false, apart := false, narrowed := true }
def SpeedEvidencesUptoSaid : Prop := speedEvidencesUptoRow.holds Try.pinned (OpenSpec.upto speedEvidencesSpec)

/-- 'lacquerlaw03.SpeedRates', WHERE WHAT IT READS IS OF BULK AT MOST 1048576: true; the input reads as it did. -/
def speedRatesUptoRow : OpenClaim := { program := "yteimgikhanhgiaa", sum := "ff2f4a16c8777af9bb0775ed844ae45b05c4049cd4dbb94f3bd63d790879c82a", func := "lacquer/lacquerlaw03.SpeedRates", spec := "speedRates", unfollowed := true, recurses := true, named := ["math/bits.divideError", "math/bits.overflowError"], plainKeys := false, apart := false, narrowed := true }
def SpeedRatesUptoSaid : Prop := speedRatesUptoRow.holds Try.pinned (OpenSpec.upto speedRatesSpec)

/-- 'lacquertop.TopSpeedEncloses', WHERE WHAT IT READS IS OF BULK AT MOST 1048576: true; the input reads as it did. -/
def topSpeedEnclosesUptoRow : OpenClaim := { program := "yteimgikhanhgiaa", sum := "ff2f4a16c8777af9bb0775ed844ae45b05c4049cd4dbb94f3bd63d790879c82a", func := "lacquer/lacquertop.TopSpeedEncloses", spec := "topSpeedEncloses", unfollowed := true, recurses := true, named := ["math/bits.divideError", "math/bits.overflowError"], plainKeys := false, apart := false, narrowed := true }
def TopSpeedEnclosesUptoSaid : Prop := topSpeedEnclosesUptoRow.holds Try.pinned (OpenSpec.upto topSpeedEnclosesSpec)

/-- 'lacquerlaw03.SpeedMaps', WHERE WHAT IT READS IS OF BULK AT MOST 1048576: true; the input reads as it did. -/
def speedMapsUptoRow : OpenClaim := { program := "yteimgikhanhgiaa", sum := "ff2f4a16c8777af9bb0775ed844ae45b05c4049cd4dbb94f3bd63d790879c82a", func := "lacquer/lacquerlaw03.SpeedMaps", spec := "speedMaps", unfollowed := true, recurses := true, named := ["math/bits.divideError", "math/bits.overflowError"], plainKeys := false, apart := false, narrowed := true }
def SpeedMapsUptoSaid : Prop := speedMapsUptoRow.holds Try.pinned (OpenSpec.upto speedMapsSpec)

/-- 'lacquerlaw03.SpeedThereAndBack', WHERE WHAT IT READS IS OF BULK AT MOST 1048576: true; the input reads as it did. -/
def speedThereAndBackUptoRow : OpenClaim := { program := "yteimgikhanhgiaa", sum := "ff2f4a16c8777af9bb0775ed844ae45b05c4049cd4dbb94f3bd63d790879c82a", func := "lacquer/lacquerlaw03.SpeedThereAndBack", spec := "speedThereAndBack", unfollowed := true, recurses := true, named := ["math/bits.divideError", "math/bits.overflowError"], plainKeys := false, apart := false, narrowed := true }
def SpeedThereAndBackUptoSaid : Prop := speedThereAndBackUptoRow.holds Try.pinned (OpenSpec.upto speedThereAndBackSpec)

/-- 'lacquerlaw03.SpeedTones', WHERE WHAT IT READS IS OF BULK AT MOST 1048576: true; the input reads as it did. -/
def speedTonesUptoRow : OpenClaim := { program := "yteimgikhanhgiaa", sum := "ff2f4a16c8777af9bb0775ed844ae45b05c4049cd4dbb94f3bd63d790879c82a", func := "lacquer/lacquerlaw03.SpeedTones", spec := "speedTones", unfollowed := true, recurses := true, named := ["math/bits.divideError", "math/bits.overflowError"], plainKeys := false, apart := false, narrowed := true }
def SpeedTonesUptoSaid : Prop := speedTonesUptoRow.holds Try.pinned (OpenSpec.upto speedTonesSpec)

/-- 'lacquerlaw03.SpeedAccepts', WHERE WHAT IT READS IS OF BULK AT MOST 1048576: true; the input reads as it did. -/
def speedAcceptsUptoRow : OpenClaim := { program := "yteimgikhanhgiaa", sum := "ff2f4a16c8777af9bb0775ed844ae45b05c4049cd4dbb94f3bd63d790879c82a", func := "lacquer/lacquerlaw03.SpeedAccepts", spec := "speedAccepts", unfollowed := true, recurses := true, named := ["math/bits.divideError", "math/bits.overflowError"], plainKeys := false, apart := false, narrowed := true }
def SpeedAcceptsUptoSaid : Prop := speedAcceptsUptoRow.holds Try.pinned (OpenSpec.upto speedAcceptsSpec)

/-- 'lacquerlaw03.SpeedFewest', WHERE WHAT IT READS IS OF BULK AT MOST 1048576: true; the input reads as it did. -/
def speedFewestUptoRow : OpenClaim := { program := "yteimgikhanhgiaa", sum := "ff2f4a16c8777af9bb0775ed844ae45b05c4049cd4dbb94f3bd63d790879c82a", func := "lacquer/lacquerlaw03.SpeedFewest", spec := "speedFewest", unfollowed := true, recurses := true, named := ["math/bits.divideError", "math/bits.overflowError"], plainKeys := false, apart := false, narrowed := true }
def SpeedFewestUptoSaid : Prop := speedFewestUptoRow.holds Try.pinned (OpenSpec.upto speedFewestSpec)

/-- 'lacquerlaw03.SpeedAny', WHERE WHAT IT READS IS OF BULK AT MOST 1048576: true; the input reads as it did. -/
def speedAnyUptoRow : OpenClaim := { program := "yteimgikhanhgiaa", sum := "ff2f4a16c8777af9bb0775ed844ae45b05c4049cd4dbb94f3bd63d790879c82a", func := "lacquer/lacquerlaw03.SpeedAny", spec := "speedAny", unfollowed := true, recurses := true, named := ["math/bits.divideError", "math/bits.overflowError"], plainKeys := false, apart := false, narrowed := true }
def SpeedAnyUptoSaid : Prop := speedAnyUptoRow.holds Try.pinned (OpenSpec.upto speedAnySpec)

/-- 'lacquerlaw03.SpeedEnclosed', WHERE WHAT IT READS IS OF BULK AT MOST 1048576: true; the input reads as it did. -/
def speedEnclosedUptoRow : OpenClaim := { program := "yteimgikhanhgiaa", sum := "ff2f4a16c8777af9bb0775ed844ae45b05c4049cd4dbb94f3bd63d790879c82a", func := "lacquer/lacquerlaw03.SpeedEnclosed", spec := "speedEnclosed", unfollowed := true, recurses := true, named := ["math/bits.divideError", "math/bits.overflowError"], plainKeys := false, apart := false, narrowed := true }
def SpeedEnclosedUptoSaid : Prop := speedEnclosedUptoRow.holds Try.pinned (OpenSpec.upto speedEnclosedSpec)

/-- 'lacquerlaw03.SpeedParts', WHERE WHAT IT READS IS OF BULK AT MOST 1048576: true; the input reads as it did. -/
def speedPartsUptoRow : OpenClaim := { program := "yteimgikhanhgiaa", sum := "ff2f4a16c8777af9bb0775ed844ae45b05c4049cd4dbb94f3bd63d790879c82a", func := "lacquer/lacquerlaw03.SpeedParts", spec := "speedParts", unfollowed := true, recurses := true, named := ["math/bits.divideError", "math/bits.overflowError"], plainKeys := false, apart := false, narrowed := true }
def SpeedPartsUptoSaid : Prop := speedPartsUptoRow.holds Try.pinned (OpenSpec.upto speedPartsSpec)

/-- 'lacquerlaw03.SpeedClashes', WHERE WHAT IT READS IS OF BULK AT MOST 1048576: true; the input reads as it did. -/
def speedClashesUptoRow : OpenClaim := { program := "yteimgikhanhgiaa", sum := "ff2f4a16c8777af9bb0775ed844ae45b05c4049cd4dbb94f3bd63d790879c82a", func := "lacquer/lacquerlaw03.SpeedClashes", spec := "speedClashes", unfollowed := true, recurses := true, named := ["math/bits.divideError", "math/bits.overflowError"], plainKeys := false, apart := false, narrowed := true }
def SpeedClashesUptoSaid : Prop := speedClashesUptoRow.holds Try.pinned (OpenSpec.upto speedClashesSpec)

/-- 'lacquerlaw03.SpeedTwo', WHERE WHAT IT READS IS OF BULK AT MOST 1048576: true; the input reads as it did. -/
def speedTwoUptoRow : OpenClaim := { program := "yteimgikhanhgiaa", sum := "ff2f4a16c8777af9bb0775ed844ae45b05c4049cd4dbb94f3bd63d790879c82a", func := "lacquer/lacquerlaw03.SpeedTwo", spec := "speedTwo", unfollowed := true, recurses := true, named := ["math/bits.divideError", "math/bits.overflowError"], plainKeys := false, apart := false, narrowed := true }
def SpeedTwoUptoSaid : Prop := speedTwoUptoRow.holds Try.pinned (OpenSpec.upto speedTwoSpec)

/-- 'lacquerlaw03.SpeedSteady', WHERE WHAT IT READS IS OF BULK AT MOST 1048576: true; the input reads as it did. -/
def speedSteadyUptoRow : OpenClaim := { program := "yteimgikhanhgiaa", sum := "ff2f4a16c8777af9bb0775ed844ae45b05c4049cd4dbb94f3bd63d790879c82a", func := "lacquer/lacquerlaw03.SpeedSteady", spec := "speedSteady", unfollowed := true, recurses := true, named := ["math/bits.divideError", "math/bits.overflowError"], plainKeys := false, apart := false, narrowed := true }
def SpeedSteadyUptoSaid : Prop := speedSteadyUptoRow.holds Try.pinned (OpenSpec.upto speedSteadySpec)

end Rows
end Go.Proofs.Yteimgikhanhgiaa
