/-
  DERIVED. GIVEN WITH THE SEED: THE CARDS: each row of YtejkpmemicpheaaGreatDoorRows.lean that lists a variable, with what it lists TIED to the program's text (the seventh form; the later family's looks); each row that meets fmt, with fmt's text TOLD by the authors' own Lean function (tested against real Go, not proved from fmt's source: count such statements apart). THE CARD IS WHAT COUNTS. Prove the row's statement (the work); the ties are given (YtejkpmemicpheaaGreatDoorTie.lean); close each card by the builder's one call (the guide's Derived/Test/ToyasCard.lean, 'card_holds'). Laid BY PROGRAM, IN A SANDBOX (cutbox-door.mjs). By AI agents, Wed Nov 11 2026. No macro, syntax, notation, axiom, sorry.
-/
import Derived.Test.YtejkpmemicpheaaGreatDoorRows
import GoSem.ClaimSeven
namespace Go.Proofs.YtejkpmemicpheaaGreatDoor
namespace Rows

/-- THE TIED CARD OF 'lacquerlaw03.SpeedStrings'. -/
def speedStringsCard : Claim7 := { stood := { row := speedStringsRow, standIns := [], harness := (true, "0f45edf933d94b2041ee32defa7f59a21703d276aed9c21567102dc55ab8e729"), looks := true }, kinds := [], alts := [], laidByText := true, laidKinds := [.data, .data, .data, .data, .sentinel, .sentinel, .pinned], laidTests := true, laidLooks := .later }
def SpeedStringsCardSaid : Prop := Claim7.holds Tryz.pinned (.plain (OpenSpec.ofChange speedStringsSpec)) speedStringsCard

/-- THE TIED CARD OF 'lacquerlaw03.SpeedMarkStrings'. -/
def speedMarkStringsCard : Claim7 := { stood := { row := speedMarkStringsRow, standIns := [], harness := (true, "0f45edf933d94b2041ee32defa7f59a21703d276aed9c21567102dc55ab8e729"), looks := true }, kinds := [], alts := [], laidByText := true, laidKinds := [.data, .data, .data, .data, .sentinel, .sentinel, .pinned], laidTests := true, laidLooks := .later }
def SpeedMarkStringsCardSaid : Prop := Claim7.holds Tryz.pinned (.plain (OpenSpec.ofChange speedMarkStringsSpec)) speedMarkStringsCard

/-- THE SECOND FORM's CARD OF 'lacquerlaw03.SpeedStrings'. -/
def speedStringsUptoCard : Claim7 := { stood := { row := speedStringsUptoRow, standIns := [], harness := (true, "0f45edf933d94b2041ee32defa7f59a21703d276aed9c21567102dc55ab8e729"), looks := true }, kinds := [], alts := [], laidByText := true, laidKinds := [.data, .data, .data, .data, .sentinel, .sentinel, .pinned], laidTests := true, laidLooks := .later }
def SpeedStringsUptoCardSaid : Prop := Claim7.holds Tryz.pinned (.plain (OpenSpec.upto speedStringsSpec)) speedStringsUptoCard

/-- THE SECOND FORM's CARD OF 'lacquerlaw03.SpeedMarkStrings'. -/
def speedMarkStringsUptoCard : Claim7 := { stood := { row := speedMarkStringsUptoRow, standIns := [], harness := (true, "0f45edf933d94b2041ee32defa7f59a21703d276aed9c21567102dc55ab8e729"), looks := true }, kinds := [], alts := [], laidByText := true, laidKinds := [.data, .data, .data, .data, .sentinel, .sentinel, .pinned], laidTests := true, laidLooks := .later }
def SpeedMarkStringsUptoCardSaid : Prop := Claim7.holds Tryz.pinned (.plain (OpenSpec.upto speedMarkStringsSpec)) speedMarkStringsUptoCard
end Rows
end Go.Proofs.YtejkpmemicpheaaGreatDoor
