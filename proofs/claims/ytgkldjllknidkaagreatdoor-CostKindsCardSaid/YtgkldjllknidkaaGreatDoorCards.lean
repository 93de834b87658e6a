/-
  DERIVED. GIVEN WITH THE SEED: THE CARDS: each row of YtgkldjllknidkaaGreatDoorRows.lean that lists a variable, with what it lists TIED to the program's text (the seventh form; the later family's looks); each row that meets fmt, with fmt's text TOLD by the authors' own Lean function (tested against real Go, not proved from fmt's source: count such statements apart). THE CARD IS WHAT COUNTS. Prove the row's statement (the work); the ties are given (YtgkldjllknidkaaGreatDoorTie.lean); close each card by the builder's one call (the guide's Derived/Test/ToyasCard.lean, 'card_holds'). Laid BY PROGRAM, IN A SANDBOX (cutbox-door.mjs). By AI agents, Wed Nov 11 2026. No macro, syntax, notation, axiom, sorry.
-/
import Derived.Test.YtgkldjllknidkaaGreatDoorRows
import GoSem.ClaimSeven
namespace Go.Proofs.YtgkldjllknidkaaGreatDoor
namespace Rows

/-- THE TIED CARD OF 'guipurelaw25.CostLimits'. -/
def costLimitsCard : Claim7 := { stood := { row := costLimitsRow, standIns := [], harness := (true, "69eba3fb0515604ec6f6a4c93fb3d856a38cf009430ed09a12dc83b1d85b0154"), looks := false }, kinds := [], alts := [], laidByText := true, laidKinds := [.data, .data, .data, .data, .listed, .data, .pinned], laidTests := true, laidLooks := .later }
def CostLimitsCardSaid : Prop := Claim7.holds Tryz.pinned (.plain (OpenSpec.ofChange costLimitsSpec)) costLimitsCard

/-- THE TIED CARD OF 'guipurelaw25.CostKinds'. -/
def costKindsCard : Claim7 := { stood := { row := costKindsRow, standIns := [], harness := (true, "69eba3fb0515604ec6f6a4c93fb3d856a38cf009430ed09a12dc83b1d85b0154"), looks := false }, kinds := [], alts := [], laidByText := true, laidKinds := [.data, .data, .data, .data, .listed, .data, .pinned], laidTests := true, laidLooks := .later }
def CostKindsCardSaid : Prop := Claim7.holds Tryz.pinned (.plain (OpenSpec.ofChange costKindsSpec)) costKindsCard

/-- THE SECOND FORM's CARD OF 'guipurelaw25.CostLimits'. -/
def costLimitsUptoCard : Claim7 := { stood := { row := costLimitsUptoRow, standIns := [], harness := (true, "69eba3fb0515604ec6f6a4c93fb3d856a38cf009430ed09a12dc83b1d85b0154"), looks := false }, kinds := [], alts := [], laidByText := true, laidKinds := [.data, .data, .data, .data, .listed, .data, .pinned], laidTests := true, laidLooks := .later }
def CostLimitsUptoCardSaid : Prop := Claim7.holds Tryz.pinned (.plain (OpenSpec.upto costLimitsSpec)) costLimitsUptoCard

/-- THE SECOND FORM's CARD OF 'guipurelaw25.CostKinds'. -/
def costKindsUptoCard : Claim7 := { stood := { row := costKindsUptoRow, standIns := [], harness := (true, "69eba3fb0515604ec6f6a4c93fb3d856a38cf009430ed09a12dc83b1d85b0154"), looks := false }, kinds := [], alts := [], laidByText := true, laidKinds := [.data, .data, .data, .data, .listed, .data, .pinned], laidTests := true, laidLooks := .later }
def CostKindsUptoCardSaid : Prop := Claim7.holds Tryz.pinned (.plain (OpenSpec.upto costKindsSpec)) costKindsUptoCard
end Rows
end Go.Proofs.YtgkldjllknidkaaGreatDoor
