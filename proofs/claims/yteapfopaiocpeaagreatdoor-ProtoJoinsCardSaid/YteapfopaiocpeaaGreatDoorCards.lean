/-
  DERIVED. GIVEN WITH THE SEED: THE CARDS: each row of YteapfopaiocpeaaGreatDoorRows.lean that lists a variable, with what it lists TIED to the program's text (the seventh form; the later family's looks); each row that meets fmt, with fmt's text TOLD by the authors' own Lean function (tested against real Go, not proved from fmt's source: count such statements apart). THE CARD IS WHAT COUNTS. Prove the row's statement (the work); the ties are given (YteapfopaiocpeaaGreatDoorTie.lean); close each card by the builder's one call (the guide's Derived/Test/ToyasCard.lean, 'card_holds'). Laid BY PROGRAM, IN A SANDBOX (cutbox-door.mjs). By AI agents, Wed Nov 11 2026. No macro, syntax, notation, axiom, sorry.
-/
import Derived.Test.YteapfopaiocpeaaGreatDoorRows
import GoSem.ClaimSeven
namespace Go.Proofs.YteapfopaiocpeaaGreatDoor
namespace Rows

/-- THE TIED CARD OF 'guipurelaw28.ProtoReads'. -/
def protoReadsCard : Claim7 := { stood := { row := protoReadsRow, standIns := [], harness := (true, "0c55b955a643d3ce3d02321fe227efcd26375a00797b6d52880b9024eaad727f"), looks := false }, kinds := [], alts := [], laidByText := true, laidKinds := [.data, .data, .data, .listed, .data], laidTests := true, laidLooks := .later }
def ProtoReadsCardSaid : Prop := Claim7.holds Tryz.pinned (.plain (OpenSpec.ofChange protoReadsSpec)) protoReadsCard

/-- THE TIED CARD OF 'guipurelaw28.ProtoJoins'. -/
def protoJoinsCard : Claim7 := { stood := { row := protoJoinsRow, standIns := [], harness := (true, "0c55b955a643d3ce3d02321fe227efcd26375a00797b6d52880b9024eaad727f"), looks := false }, kinds := [], alts := [], laidByText := true, laidKinds := [.data, .data, .data, .listed, .data], laidTests := true, laidLooks := .later }
def ProtoJoinsCardSaid : Prop := Claim7.holds Tryz.pinned (.plain (OpenSpec.ofChange protoJoinsSpec)) protoJoinsCard

/-- THE SECOND FORM's CARD OF 'guipurelaw28.ProtoReads'. -/
def protoReadsUptoCard : Claim7 := { stood := { row := protoReadsUptoRow, standIns := [], harness := (true, "0c55b955a643d3ce3d02321fe227efcd26375a00797b6d52880b9024eaad727f"), looks := false }, kinds := [], alts := [], laidByText := true, laidKinds := [.data, .data, .data, .listed, .data], laidTests := true, laidLooks := .later }
def ProtoReadsUptoCardSaid : Prop := Claim7.holds Tryz.pinned (.plain (OpenSpec.upto protoReadsSpec)) protoReadsUptoCard

/-- THE SECOND FORM's CARD OF 'guipurelaw28.ProtoJoins'. -/
def protoJoinsUptoCard : Claim7 := { stood := { row := protoJoinsUptoRow, standIns := [], harness := (true, "0c55b955a643d3ce3d02321fe227efcd26375a00797b6d52880b9024eaad727f"), looks := false }, kinds := [], alts := [], laidByText := true, laidKinds := [.data, .data, .data, .listed, .data], laidTests := true, laidLooks := .later }
def ProtoJoinsUptoCardSaid : Prop := Claim7.holds Tryz.pinned (.plain (OpenSpec.upto protoJoinsSpec)) protoJoinsUptoCard
end Rows
end Go.Proofs.YteapfopaiocpeaaGreatDoor
