/-
  DERIVED. GIVEN WITH THE SEED: THE CARDS: each row of YtmjcpkmongafnaaGreatDoorRows.lean that lists a variable, with what it lists TIED to the program's text (the seventh form; the later family's looks); each row that meets fmt, with fmt's text TOLD by the authors' own Lean function (tested against real Go, not proved from fmt's source: count such statements apart). THE CARD IS WHAT COUNTS. Prove the row's statement (the work); the ties are given (YtmjcpkmongafnaaGreatDoorTie.lean); close each card by the builder's one call (the guide's Derived/Test/ToyasCard.lean, 'card_holds'). Laid BY PROGRAM, IN A SANDBOX (cutbox-door.mjs). By AI agents, Wed Nov 11 2026. No macro, syntax, notation, axiom, sorry.
-/
import Derived.Test.YtmjcpkmongafnaaGreatDoorRows
import GoSem.ClaimSeven
namespace Go.Proofs.YtmjcpkmongafnaaGreatDoor
namespace Rows

/-- THE TIED CARD OF 'reticentlaw20.PropTests'. -/
def propTestsCard : Claim7 := { stood := { row := propTestsRow, standIns := [], harness := (true, "a7681f99286bcd141b0cb473ea7fb25c38ae64c0c1479cf3ecaa3bdd528a2ed3"), looks := true }, kinds := [], alts := [], laidByText := true, laidKinds := [.data], laidTests := true, laidLooks := .later }
def PropTestsCardSaid : Prop := Claim7.holds Tryz.pinned (.plain (OpenSpec.ofChange propTestsSpec)) propTestsCard

/-- THE TIED CARD OF 'reticentlaw20.PropSelf'. -/
def propSelfCard : Claim7 := { stood := { row := propSelfRow, standIns := [], harness := (true, "a7681f99286bcd141b0cb473ea7fb25c38ae64c0c1479cf3ecaa3bdd528a2ed3"), looks := true }, kinds := [], alts := [], laidByText := true, laidKinds := [.data], laidTests := true, laidLooks := .later }
def PropSelfCardSaid : Prop := Claim7.holds Tryz.pinned (.plain (OpenSpec.ofChange propSelfSpec)) propSelfCard

/-- THE TIED CARD OF 'reticentlaw20.PropSeen'. -/
def propSeenCard : Claim7 := { stood := { row := propSeenRow, standIns := [], harness := (true, "a7681f99286bcd141b0cb473ea7fb25c38ae64c0c1479cf3ecaa3bdd528a2ed3"), looks := true }, kinds := [], alts := [], laidByText := true, laidKinds := [.data], laidTests := true, laidLooks := .later }
def PropSeenCardSaid : Prop := Claim7.holds Tryz.pinned (.plain (OpenSpec.ofChange propSeenSpec)) propSeenCard

/-- THE SECOND FORM's CARD OF 'reticentlaw20.PropTests'. -/
def propTestsUptoCard : Claim7 := { stood := { row := propTestsUptoRow, standIns := [], harness := (true, "a7681f99286bcd141b0cb473ea7fb25c38ae64c0c1479cf3ecaa3bdd528a2ed3"), looks := true }, kinds := [], alts := [], laidByText := true, laidKinds := [.data], laidTests := true, laidLooks := .later }
def PropTestsUptoCardSaid : Prop := Claim7.holds Tryz.pinned (.plain (OpenSpec.upto propTestsSpec)) propTestsUptoCard

/-- THE SECOND FORM's CARD OF 'reticentlaw20.PropSelf'. -/
def propSelfUptoCard : Claim7 := { stood := { row := propSelfUptoRow, standIns := [], harness := (true, "a7681f99286bcd141b0cb473ea7fb25c38ae64c0c1479cf3ecaa3bdd528a2ed3"), looks := true }, kinds := [], alts := [], laidByText := true, laidKinds := [.data], laidTests := true, laidLooks := .later }
def PropSelfUptoCardSaid : Prop := Claim7.holds Tryz.pinned (.plain (OpenSpec.upto propSelfSpec)) propSelfUptoCard

/-- THE SECOND FORM's CARD OF 'reticentlaw20.PropSeen'. -/
def propSeenUptoCard : Claim7 := { stood := { row := propSeenUptoRow, standIns := [], harness := (true, "a7681f99286bcd141b0cb473ea7fb25c38ae64c0c1479cf3ecaa3bdd528a2ed3"), looks := true }, kinds := [], alts := [], laidByText := true, laidKinds := [.data], laidTests := true, laidLooks := .later }
def PropSeenUptoCardSaid : Prop := Claim7.holds Tryz.pinned (.plain (OpenSpec.upto propSeenSpec)) propSeenUptoCard
end Rows
end Go.Proofs.YtmjcpkmongafnaaGreatDoor
