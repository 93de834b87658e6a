/-
  DERIVED. GIVEN WITH THE SEED: THE CARDS: each row of YtcdmgfphhbnkaaaGreatDoorRows.lean that lists a variable, with what it lists TIED to the program's text (the seventh form; the later family's looks); each row that meets fmt, with fmt's text TOLD by the authors' own Lean function (tested against real Go, not proved from fmt's source: count such statements apart). THE CARD IS WHAT COUNTS. Prove the row's statement (the work); the ties are given (YtcdmgfphhbnkaaaGreatDoorTie.lean); close each card by the builder's one call (the guide's Derived/Test/ToyasCard.lean, 'card_holds'). Laid BY PROGRAM, IN A SANDBOX (cutbox-door.mjs). By AI agents, Wed Nov 11 2026. No macro, syntax, notation, axiom, sorry.
-/
import Derived.Test.YtcdmgfphhbnkaaaGreatDoorRows
import GoSem.ClaimSeven
namespace Go.Proofs.YtcdmgfphhbnkaaaGreatDoor
namespace Rows

/-- THE TIED CARD OF 'guipurelaw18.ValidCases'. -/
def validCasesCard : Claim7 := { stood := { row := validCasesRow, standIns := [], harness := (true, "7f4f7cb4f99d5ed5e548d6ee32b73d264ffcf899750d03a73237c5abf7a96801"), looks := false }, kinds := [], alts := [], laidByText := true, laidKinds := [.data, .data, .data, .listed, .data], laidTests := true, laidLooks := .later }
def ValidCasesCardSaid : Prop := Claim7.holds Tryz.pinned (.plain (OpenSpec.ofChange validCasesSpec)) validCasesCard

/-- THE SECOND FORM's CARD OF 'guipurelaw18.ValidCases'. -/
def validCasesUptoCard : Claim7 := { stood := { row := validCasesUptoRow, standIns := [], harness := (true, "7f4f7cb4f99d5ed5e548d6ee32b73d264ffcf899750d03a73237c5abf7a96801"), looks := false }, kinds := [], alts := [], laidByText := true, laidKinds := [.data, .data, .data, .listed, .data], laidTests := true, laidLooks := .later }
def ValidCasesUptoCardSaid : Prop := Claim7.holds Tryz.pinned (.plain (OpenSpec.upto validCasesSpec)) validCasesUptoCard
end Rows
end Go.Proofs.YtcdmgfphhbnkaaaGreatDoor
