/-
  DERIVED. GIVEN WITH THE SEED: THE CARDS: each row of YtemmgalfdmnkoaaGreatDoorRows.lean that lists a variable, with what it lists TIED to the program's text (the seventh form; the later family's looks); each row that meets fmt, with fmt's text TOLD by the authors' own Lean function (tested against real Go, not proved from fmt's source: count such statements apart). THE CARD IS WHAT COUNTS. Prove the row's statement (the work); the ties are given (YtemmgalfdmnkoaaGreatDoorTie.lean); close each card by the builder's one call (the guide's Derived/Test/ToyasCard.lean, 'card_holds'). Laid BY PROGRAM, IN A SANDBOX (cutbox-door.mjs). By AI agents, Wed Nov 11 2026. No macro, syntax, notation, axiom, sorry.
-/
import Derived.Test.YtemmgalfdmnkoaaGreatDoorRows
import GoSem.ClaimSeven
namespace Go.Proofs.YtemmgalfdmnkoaaGreatDoor
namespace Rows

/-- THE TIED CARD OF 'guipurelaw29.DnsReads'. -/
def dnsReadsCard : Claim7 := { stood := { row := dnsReadsRow, standIns := [], harness := (true, "d33b341dfe256838bfcd23d2138ad830af2f1825b5606db600069709baa8e7d4"), looks := false }, kinds := [], alts := [], laidByText := true, laidKinds := [.data, .data, .data, .listed, .data], laidTests := true, laidLooks := .later }
def DnsReadsCardSaid : Prop := Claim7.holds Tryz.pinned (.plain (OpenSpec.ofChange dnsReadsSpec)) dnsReadsCard

/-- THE TIED CARD OF 'guipurelaw29.DnsWrites'. -/
def dnsWritesCard : Claim7 := { stood := { row := dnsWritesRow, standIns := [], harness := (true, "d33b341dfe256838bfcd23d2138ad830af2f1825b5606db600069709baa8e7d4"), looks := false }, kinds := [], alts := [], laidByText := true, laidKinds := [.data, .data, .data, .listed, .data], laidTests := true, laidLooks := .later }
def DnsWritesCardSaid : Prop := Claim7.holds Tryz.pinned (.plain (OpenSpec.ofChange dnsWritesSpec)) dnsWritesCard

/-- THE SECOND FORM's CARD OF 'guipurelaw29.DnsReads'. -/
def dnsReadsUptoCard : Claim7 := { stood := { row := dnsReadsUptoRow, standIns := [], harness := (true, "d33b341dfe256838bfcd23d2138ad830af2f1825b5606db600069709baa8e7d4"), looks := false }, kinds := [], alts := [], laidByText := true, laidKinds := [.data, .data, .data, .listed, .data], laidTests := true, laidLooks := .later }
def DnsReadsUptoCardSaid : Prop := Claim7.holds Tryz.pinned (.plain (OpenSpec.upto dnsReadsSpec)) dnsReadsUptoCard

/-- THE SECOND FORM's CARD OF 'guipurelaw29.DnsWrites'. -/
def dnsWritesUptoCard : Claim7 := { stood := { row := dnsWritesUptoRow, standIns := [], harness := (true, "d33b341dfe256838bfcd23d2138ad830af2f1825b5606db600069709baa8e7d4"), looks := false }, kinds := [], alts := [], laidByText := true, laidKinds := [.data, .data, .data, .listed, .data], laidTests := true, laidLooks := .later }
def DnsWritesUptoCardSaid : Prop := Claim7.holds Tryz.pinned (.plain (OpenSpec.upto dnsWritesSpec)) dnsWritesUptoCard
end Rows
end Go.Proofs.YtemmgalfdmnkoaaGreatDoor
