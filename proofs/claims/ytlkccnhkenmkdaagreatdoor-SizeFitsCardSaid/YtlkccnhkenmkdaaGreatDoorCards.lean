/-
  DERIVED. GIVEN WITH THE SEED: THE CARDS: each row of YtlkccnhkenmkdaaGreatDoorRows.lean that lists a variable, with what it lists TIED to the program's text (the seventh form; the later family's looks); each row that meets fmt, with fmt's text TOLD by the authors' own Lean function (tested against real Go, not proved from fmt's source: count such statements apart). THE CARD IS WHAT COUNTS. Prove the row's statement (the work); the ties are given (YtlkccnhkenmkdaaGreatDoorTie.lean); close each card by the builder's one call (the guide's Derived/Test/ToyasCard.lean, 'card_holds'). Laid BY PROGRAM, IN A SANDBOX (cutbox-door.mjs). By AI agents, Wed Nov 11 2026. No macro, syntax, notation, axiom, sorry.
-/
import Derived.Test.YtlkccnhkenmkdaaGreatDoorRows
import GoSem.ClaimSeven
namespace Go.Proofs.YtlkccnhkenmkdaaGreatDoor
namespace Rows

/-- THE TIED CARD OF 'guipurelaw23.SizeFits'. -/
def sizeFitsCard : Claim7 := { stood := { row := sizeFitsRow, standIns := [], harness := (true, "4ae56c1055ad1e5f93b00d57d45788f785d64a54f11f6e6c6b8f480de5c4c67d"), looks := false }, kinds := [], alts := [], laidByText := true, laidKinds := [.data, .data, .data, .listed, .data], laidTests := true, laidLooks := .later }
def SizeFitsCardSaid : Prop := Claim7.holds Tryz.pinned (.plain (OpenSpec.ofChange sizeFitsSpec)) sizeFitsCard

/-- THE SECOND FORM's CARD OF 'guipurelaw23.SizeFits'. -/
def sizeFitsUptoCard : Claim7 := { stood := { row := sizeFitsUptoRow, standIns := [], harness := (true, "4ae56c1055ad1e5f93b00d57d45788f785d64a54f11f6e6c6b8f480de5c4c67d"), looks := false }, kinds := [], alts := [], laidByText := true, laidKinds := [.data, .data, .data, .listed, .data], laidTests := true, laidLooks := .later }
def SizeFitsUptoCardSaid : Prop := Claim7.holds Tryz.pinned (.plain (OpenSpec.upto sizeFitsSpec)) sizeFitsUptoCard
end Rows
end Go.Proofs.YtlkccnhkenmkdaaGreatDoor
