/-
  DERIVED. GIVEN WITH THE SEED: THE PROGRAM's TIES (one call each: nine closed facts by the kernel) AND EACH ROW's TIE, after the 31st guide's Derived/Test/Toyas{Tie, Card}.lean. No idea stands in it: it is a product of the set-up. Laid BY PROGRAM, IN A SANDBOX (cutbox-door.mjs). By AI agents, Wed Nov 11 2026. No macro, syntax, notation, axiom, sorry.
-/
import Derived.Test.YtlcfgealkjomnaaDoorRows
import Derived.LaidByTextLater
import Derived.SevenTiedAt
import Derived.LaidSub
import Derived.LaidOnce
namespace Go.Proofs.YtlcfgealkjomnaaDoor
open Go
set_option maxRecDepth 100000
theorem seatTie1 : Tryd.prog.laidByTextLater [("lacquer/resample.kernels", Rows.laid_lacquer_resample_kernels)] [.funcs] true :=
  Program.laidByTextLater_by_one 16 8 2 (by kernel_rfl) (by kernel_rfl) (by kernel_rfl) (by kernel_rfl) (by kernel_rfl) (by kernel_rfl) (fun _ _ => by kernel_rfl)
theorem noOwnUnsafe : Tryd.pinned.checked.prog.headLifts.contains "ownunsafe" = false := by kernel_rfl
theorem tie : Tryd.prog.laidByTextLater [("lacquer/resample.kernels", Rows.laid_lacquer_resample_kernels)] [.funcs] true :=
  Program.laidByTextLater.sub seatTie1 ["lacquer/resample.kernels"] (by kernel_rfl) (by kernel_rfl)
theorem resampleOutputs_row_tie : Rows.resampleOutputsRow.laidByTextAt .later Tryd.pinned [.funcs] true :=
  OpenClaim.laidByTextAt_later rfl rfl tie noOwnUnsafe
theorem resampleBack_row_tie : Rows.resampleBackRow.laidByTextAt .later Tryd.pinned [.funcs] true :=
  OpenClaim.laidByTextAt_later rfl rfl tie noOwnUnsafe
theorem resampleChecks_row_tie : Rows.resampleChecksRow.laidByTextAt .later Tryd.pinned [.funcs] true :=
  OpenClaim.laidByTextAt_later rfl rfl tie noOwnUnsafe
theorem resampleBetween_row_tie : Rows.resampleBetweenRow.laidByTextAt .later Tryd.pinned [.funcs] true :=
  OpenClaim.laidByTextAt_later rfl rfl tie noOwnUnsafe
theorem resampleWeights_row_tie : Rows.resampleWeightsRow.laidByTextAt .later Tryd.pinned [.funcs] true :=
  OpenClaim.laidByTextAt_later rfl rfl tie noOwnUnsafe
theorem resampleBounds_row_tie : Rows.resampleBoundsRow.laidByTextAt .later Tryd.pinned [.funcs] true :=
  OpenClaim.laidByTextAt_later rfl rfl tie noOwnUnsafe
theorem topResampleBack_row_tie : Rows.topResampleBackRow.laidByTextAt .later Tryd.pinned [.funcs] true :=
  OpenClaim.laidByTextAt_later rfl rfl tie noOwnUnsafe
theorem resampleFilters_row_tie : Rows.resampleFiltersRow.laidByTextAt .later Tryd.pinned [.funcs] true :=
  OpenClaim.laidByTextAt_later rfl rfl tie noOwnUnsafe
theorem resampleBounded_row_tie : Rows.resampleBoundedRow.laidByTextAt .later Tryd.pinned [.funcs] true :=
  OpenClaim.laidByTextAt_later rfl rfl tie noOwnUnsafe
theorem resamplePolynomials_row_tie : Rows.resamplePolynomialsRow.laidByTextAt .later Tryd.pinned [.funcs] true :=
  OpenClaim.laidByTextAt_later rfl rfl tie noOwnUnsafe
theorem resampleRemainders_row_tie : Rows.resampleRemaindersRow.laidByTextAt .later Tryd.pinned [.funcs] true :=
  OpenClaim.laidByTextAt_later rfl rfl tie noOwnUnsafe
theorem resampleEqualizes_row_tie : Rows.resampleEqualizesRow.laidByTextAt .later Tryd.pinned [.funcs] true :=
  OpenClaim.laidByTextAt_later rfl rfl tie noOwnUnsafe
theorem resampleTakenBack_row_tie : Rows.resampleTakenBackRow.laidByTextAt .later Tryd.pinned [.funcs] true :=
  OpenClaim.laidByTextAt_later rfl rfl tie noOwnUnsafe
theorem resampleMaxima_row_tie : Rows.resampleMaximaRow.laidByTextAt .later Tryd.pinned [.funcs] true :=
  OpenClaim.laidByTextAt_later rfl rfl tie noOwnUnsafe
theorem resampleComposed_row_tie : Rows.resampleComposedRow.laidByTextAt .later Tryd.pinned [.funcs] true :=
  OpenClaim.laidByTextAt_later rfl rfl tie noOwnUnsafe
theorem resampleAttained_row_tie : Rows.resampleAttainedRow.laidByTextAt .later Tryd.pinned [.funcs] true :=
  OpenClaim.laidByTextAt_later rfl rfl tie noOwnUnsafe
theorem topResampleChain_row_tie : Rows.topResampleChainRow.laidByTextAt .later Tryd.pinned [.funcs] true :=
  OpenClaim.laidByTextAt_later rfl rfl tie noOwnUnsafe
theorem resampleOutputsUpto_row_tie : Rows.resampleOutputsUptoRow.laidByTextAt .later Tryd.pinned [.funcs] true :=
  OpenClaim.laidByTextAt_later rfl rfl tie noOwnUnsafe
theorem resampleBackUpto_row_tie : Rows.resampleBackUptoRow.laidByTextAt .later Tryd.pinned [.funcs] true :=
  OpenClaim.laidByTextAt_later rfl rfl tie noOwnUnsafe
theorem resampleChecksUpto_row_tie : Rows.resampleChecksUptoRow.laidByTextAt .later Tryd.pinned [.funcs] true :=
  OpenClaim.laidByTextAt_later rfl rfl tie noOwnUnsafe
theorem resampleBetweenUpto_row_tie : Rows.resampleBetweenUptoRow.laidByTextAt .later Tryd.pinned [.funcs] true :=
  OpenClaim.laidByTextAt_later rfl rfl tie noOwnUnsafe
theorem resampleWeightsUpto_row_tie : Rows.resampleWeightsUptoRow.laidByTextAt .later Tryd.pinned [.funcs] true :=
  OpenClaim.laidByTextAt_later rfl rfl tie noOwnUnsafe
theorem resampleBoundsUpto_row_tie : Rows.resampleBoundsUptoRow.laidByTextAt .later Tryd.pinned [.funcs] true :=
  OpenClaim.laidByTextAt_later rfl rfl tie noOwnUnsafe
theorem topResampleBackUpto_row_tie : Rows.topResampleBackUptoRow.laidByTextAt .later Tryd.pinned [.funcs] true :=
  OpenClaim.laidByTextAt_later rfl rfl tie noOwnUnsafe
theorem resampleFiltersUpto_row_tie : Rows.resampleFiltersUptoRow.laidByTextAt .later Tryd.pinned [.funcs] true :=
  OpenClaim.laidByTextAt_later rfl rfl tie noOwnUnsafe
theorem resampleBoundedUpto_row_tie : Rows.resampleBoundedUptoRow.laidByTextAt .later Tryd.pinned [.funcs] true :=
  OpenClaim.laidByTextAt_later rfl rfl tie noOwnUnsafe
theorem resamplePolynomialsUpto_row_tie : Rows.resamplePolynomialsUptoRow.laidByTextAt .later Tryd.pinned [.funcs] true :=
  OpenClaim.laidByTextAt_later rfl rfl tie noOwnUnsafe
theorem resampleRemaindersUpto_row_tie : Rows.resampleRemaindersUptoRow.laidByTextAt .later Tryd.pinned [.funcs] true :=
  OpenClaim.laidByTextAt_later rfl rfl tie noOwnUnsafe
theorem resampleEqualizesUpto_row_tie : Rows.resampleEqualizesUptoRow.laidByTextAt .later Tryd.pinned [.funcs] true :=
  OpenClaim.laidByTextAt_later rfl rfl tie noOwnUnsafe
theorem resampleTakenBackUpto_row_tie : Rows.resampleTakenBackUptoRow.laidByTextAt .later Tryd.pinned [.funcs] true :=
  OpenClaim.laidByTextAt_later rfl rfl tie noOwnUnsafe
theorem resampleMaximaUpto_row_tie : Rows.resampleMaximaUptoRow.laidByTextAt .later Tryd.pinned [.funcs] true :=
  OpenClaim.laidByTextAt_later rfl rfl tie noOwnUnsafe
theorem resampleComposedUpto_row_tie : Rows.resampleComposedUptoRow.laidByTextAt .later Tryd.pinned [.funcs] true :=
  OpenClaim.laidByTextAt_later rfl rfl tie noOwnUnsafe
theorem resampleAttainedUpto_row_tie : Rows.resampleAttainedUptoRow.laidByTextAt .later Tryd.pinned [.funcs] true :=
  OpenClaim.laidByTextAt_later rfl rfl tie noOwnUnsafe
theorem topResampleChainUpto_row_tie : Rows.topResampleChainUptoRow.laidByTextAt .later Tryd.pinned [.funcs] true :=
  OpenClaim.laidByTextAt_later rfl rfl tie noOwnUnsafe
end Go.Proofs.YtlcfgealkjomnaaDoor
