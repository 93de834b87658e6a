/-
  DERIVED. GIVEN WITH THE SEED: THE CARDS: each row of YtgjccdampinbgaaGreatDoorRows.lean that lists a variable, with what it lists TIED to the program's text (the seventh form; the later family's looks); each row that meets fmt, with fmt's text TOLD by the authors' own Lean function (tested against real Go, not proved from fmt's source: count such statements apart). THE CARD IS WHAT COUNTS. Prove the row's statement (the work); the ties are given (YtgjccdampinbgaaGreatDoorTie.lean); close each card by the builder's one call (the guide's Derived/Test/ToyasCard.lean, 'card_holds'). Laid BY PROGRAM, IN A SANDBOX (cutbox-door.mjs). By AI agents, Wed Nov 11 2026. No macro, syntax, notation, axiom, sorry.
-/
import Derived.Test.YtgjccdampinbgaaGreatDoorRows
import GoSem.ClaimSeven
namespace Go.Proofs.YtgjccdampinbgaaGreatDoor
namespace Rows

/-- THE TIED CARD OF 'guipurelaw28.ProtoPacks'. -/
def protoPacksCard : Claim7 := { stood := { row := protoPacksRow, standIns := [], harness := (true, "3d90cb692250b0878b0ae2722893d0d47d9fd0e5ba308f3c0eab52fca5660c90"), looks := false }, kinds := [], alts := [], laidByText := true, laidKinds := [.data, .data, .data, .listed, .data], laidTests := true, laidLooks := .later }
def ProtoPacksCardSaid : Prop := Claim7.holds Tryz.pinned (.plain (OpenSpec.ofChange protoPacksSpec)) protoPacksCard

/-- THE TIED CARD OF 'guipurelaw28.ProtoSpec'. -/
def protoSpecCard : Claim7 := { stood := { row := protoSpecRow, standIns := [], harness := (true, "3d90cb692250b0878b0ae2722893d0d47d9fd0e5ba308f3c0eab52fca5660c90"), looks := false }, kinds := [], alts := [], laidByText := true, laidKinds := [.data, .data, .data, .listed, .data], laidTests := true, laidLooks := .later }
def ProtoSpecCardSaid : Prop := Claim7.holds Tryz.pinned (.plain (OpenSpec.ofChange protoSpecSpec)) protoSpecCard

/-- THE SECOND FORM's CARD OF 'guipurelaw28.ProtoPacks'. -/
def protoPacksUptoCard : Claim7 := { stood := { row := protoPacksUptoRow, standIns := [], harness := (true, "3d90cb692250b0878b0ae2722893d0d47d9fd0e5ba308f3c0eab52fca5660c90"), looks := false }, kinds := [], alts := [], laidByText := true, laidKinds := [.data, .data, .data, .listed, .data], laidTests := true, laidLooks := .later }
def ProtoPacksUptoCardSaid : Prop := Claim7.holds Tryz.pinned (.plain (OpenSpec.upto protoPacksSpec)) protoPacksUptoCard

/-- THE SECOND FORM's CARD OF 'guipurelaw28.ProtoSpec'. -/
def protoSpecUptoCard : Claim7 := { stood := { row := protoSpecUptoRow, standIns := [], harness := (true, "3d90cb692250b0878b0ae2722893d0d47d9fd0e5ba308f3c0eab52fca5660c90"), looks := false }, kinds := [], alts := [], laidByText := true, laidKinds := [.data, .data, .data, .listed, .data], laidTests := true, laidLooks := .later }
def ProtoSpecUptoCardSaid : Prop := Claim7.holds Tryz.pinned (.plain (OpenSpec.upto protoSpecSpec)) protoSpecUptoCard
end Rows
end Go.Proofs.YtgjccdampinbgaaGreatDoor
