/-
  DERIVED. GIVEN WITH THE SEED: THE CARDS: each row of YtdkioifmieamoaaGreatDoorRows.lean that lists a variable, with what it lists TIED to the program's text (the seventh form; the later family's looks); each row that meets fmt, with fmt's text TOLD by the authors' own Lean function (tested against real Go, not proved from fmt's source: count such statements apart). THE CARD IS WHAT COUNTS. Prove the row's statement (the work); the ties are given (YtdkioifmieamoaaGreatDoorTie.lean); close each card by the builder's one call (the guide's Derived/Test/ToyasCard.lean, 'card_holds'). Laid BY PROGRAM, IN A SANDBOX (cutbox-door.mjs). By AI agents, Wed Nov 11 2026. No macro, syntax, notation, axiom, sorry.
-/
import Derived.Test.YtdkioifmieamoaaGreatDoorRows
import GoSem.ClaimSeven
namespace Go.Proofs.YtdkioifmieamoaaGreatDoor
namespace Rows

/-- THE TIED CARD OF 'guipurelaw26.ShelfNames'. -/
def shelfNamesCard : Claim7 := { stood := { row := shelfNamesRow, standIns := [], harness := (true, "d6c337aab3e0cb2d073c93c57a43e98e867dc0cbb8dafdf70d65b4ebf06a7d9d"), looks := false }, kinds := [], alts := [], laidByText := true, laidKinds := [.data, .data, .data, .listed, .data], laidTests := true, laidLooks := .later }
def ShelfNamesCardSaid : Prop := Claim7.holds Tryz.pinned (.plain (OpenSpec.ofChange shelfNamesSpec)) shelfNamesCard

/-- THE SECOND FORM's CARD OF 'guipurelaw26.ShelfNames'. -/
def shelfNamesUptoCard : Claim7 := { stood := { row := shelfNamesUptoRow, standIns := [], harness := (true, "d6c337aab3e0cb2d073c93c57a43e98e867dc0cbb8dafdf70d65b4ebf06a7d9d"), looks := false }, kinds := [], alts := [], laidByText := true, laidKinds := [.data, .data, .data, .listed, .data], laidTests := true, laidLooks := .later }
def ShelfNamesUptoCardSaid : Prop := Claim7.holds Tryz.pinned (.plain (OpenSpec.upto shelfNamesSpec)) shelfNamesUptoCard
end Rows
end Go.Proofs.YtdkioifmieamoaaGreatDoor
