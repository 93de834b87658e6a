/-
  DERIVED. GIVEN WITH THE SEED: THE CARDS: each row of YtgjoogfoeomcdaaGreatDoorRows.lean that lists a variable, with what it lists TIED to the program's text (the seventh form; the later family's looks); each row that meets fmt, with fmt's text TOLD by the authors' own Lean function (tested against real Go, not proved from fmt's source: count such statements apart). THE CARD IS WHAT COUNTS. Prove the row's statement (the work); the ties are given (YtgjoogfoeomcdaaGreatDoorTie.lean); close each card by the builder's one call (the guide's Derived/Test/ToyasCard.lean, 'card_holds'). Laid BY PROGRAM, IN A SANDBOX (cutbox-door.mjs). By AI agents, Wed Nov 11 2026. No macro, syntax, notation, axiom, sorry.
-/
import Derived.Test.YtgjoogfoeomcdaaGreatDoorRows
import GoSem.ClaimSeven
namespace Go.Proofs.YtgjoogfoeomcdaaGreatDoor
namespace Rows

/-- THE TIED CARD OF 'guipurelaw29.DnsResolves'. -/
def dnsResolvesCard : Claim7 := { stood := { row := dnsResolvesRow, standIns := [], harness := (true, "9c73bf7afe040377b31b3b734cd62802e82dc28bac926f3242a2e3eafc31b888"), looks := false }, kinds := [], alts := [], laidByText := true, laidKinds := [.data, .data, .data, .listed, .data], laidTests := true, laidLooks := .later }
def DnsResolvesCardSaid : Prop := Claim7.holds Tryz.pinned (.plain (OpenSpec.ofChange dnsResolvesSpec)) dnsResolvesCard

/-- THE TIED CARD OF 'guipurelaw29.DnsJoins'. -/
def dnsJoinsCard : Claim7 := { stood := { row := dnsJoinsRow, standIns := [], harness := (true, "9c73bf7afe040377b31b3b734cd62802e82dc28bac926f3242a2e3eafc31b888"), looks := false }, kinds := [], alts := [], laidByText := true, laidKinds := [.data, .data, .data, .listed, .data], laidTests := true, laidLooks := .later }
def DnsJoinsCardSaid : Prop := Claim7.holds Tryz.pinned (.plain (OpenSpec.ofChange dnsJoinsSpec)) dnsJoinsCard

/-- THE TIED CARD OF 'guipurelaw29.DnsSpec'. -/
def dnsSpecCard : Claim7 := { stood := { row := dnsSpecRow, standIns := [], harness := (true, "9c73bf7afe040377b31b3b734cd62802e82dc28bac926f3242a2e3eafc31b888"), looks := false }, kinds := [], alts := [], laidByText := true, laidKinds := [.data, .data, .data, .listed, .data], laidTests := true, laidLooks := .later }
def DnsSpecCardSaid : Prop := Claim7.holds Tryz.pinned (.plain (OpenSpec.ofChange dnsSpecSpec)) dnsSpecCard

/-- THE SECOND FORM's CARD OF 'guipurelaw29.DnsResolves'. -/
def dnsResolvesUptoCard : Claim7 := { stood := { row := dnsResolvesUptoRow, standIns := [], harness := (true, "9c73bf7afe040377b31b3b734cd62802e82dc28bac926f3242a2e3eafc31b888"), looks := false }, kinds := [], alts := [], laidByText := true, laidKinds := [.data, .data, .data, .listed, .data], laidTests := true, laidLooks := .later }
def DnsResolvesUptoCardSaid : Prop := Claim7.holds Tryz.pinned (.plain (OpenSpec.upto dnsResolvesSpec)) dnsResolvesUptoCard

/-- THE SECOND FORM's CARD OF 'guipurelaw29.DnsJoins'. -/
def dnsJoinsUptoCard : Claim7 := { stood := { row := dnsJoinsUptoRow, standIns := [], harness := (true, "9c73bf7afe040377b31b3b734cd62802e82dc28bac926f3242a2e3eafc31b888"), looks := false }, kinds := [], alts := [], laidByText := true, laidKinds := [.data, .data, .data, .listed, .data], laidTests := true, laidLooks := .later }
def DnsJoinsUptoCardSaid : Prop := Claim7.holds Tryz.pinned (.plain (OpenSpec.upto dnsJoinsSpec)) dnsJoinsUptoCard

/-- THE SECOND FORM's CARD OF 'guipurelaw29.DnsSpec'. -/
def dnsSpecUptoCard : Claim7 := { stood := { row := dnsSpecUptoRow, standIns := [], harness := (true, "9c73bf7afe040377b31b3b734cd62802e82dc28bac926f3242a2e3eafc31b888"), looks := false }, kinds := [], alts := [], laidByText := true, laidKinds := [.data, .data, .data, .listed, .data], laidTests := true, laidLooks := .later }
def DnsSpecUptoCardSaid : Prop := Claim7.holds Tryz.pinned (.plain (OpenSpec.upto dnsSpecSpec)) dnsSpecUptoCard
end Rows
end Go.Proofs.YtgjoogfoeomcdaaGreatDoor
