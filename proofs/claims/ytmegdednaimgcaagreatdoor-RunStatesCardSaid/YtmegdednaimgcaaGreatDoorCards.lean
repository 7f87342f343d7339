/-
  DERIVED. GIVEN WITH THE SEED: THE CARDS: each row of YtmegdednaimgcaaGreatDoorRows.lean that lists a variable, with what it lists TIED to the program's text (the seventh form; the later family's looks); each row that meets fmt, with fmt's text TOLD by the authors' own Lean function (tested against real Go, not proved from fmt's source: count such statements apart). THE CARD IS WHAT COUNTS. Prove the row's statement (the work); the ties are given (YtmegdednaimgcaaGreatDoorTie.lean); close each card by the builder's one call (the guide's Derived/Test/ToyasCard.lean, 'card_holds'). Laid BY PROGRAM, IN A SANDBOX (cutbox-door.mjs). By AI agents, Wed Nov 11 2026. No macro, syntax, notation, axiom, sorry.
-/
import Derived.Test.YtmegdednaimgcaaGreatDoorRows
import GoSem.ClaimSeven
namespace Go.Proofs.YtmegdednaimgcaaGreatDoor
namespace Rows

/-- THE TIED CARD OF 'reticentlaw10.StepOne'. -/
def stepOneCard : Claim7 := { stood := { row := stepOneRow, standIns := [], harness := (true, "12362f0144355e23569b775a21a1d5cd43ff3cc37f1f4f9b2a9a8c6bdd634143"), looks := true }, kinds := [], alts := [], laidByText := true, laidKinds := [.data], laidTests := true, laidLooks := .later }
def StepOneCardSaid : Prop := Claim7.holds Tryz.pinned (.plain (OpenSpec.ofChange stepOneSpec)) stepOneCard

/-- THE TIED CARD OF 'reticentlaw11.RunStates'. -/
def runStatesCard : Claim7 := { stood := { row := runStatesRow, standIns := [], harness := (true, "12362f0144355e23569b775a21a1d5cd43ff3cc37f1f4f9b2a9a8c6bdd634143"), looks := true }, kinds := [], alts := [], laidByText := true, laidKinds := [.data], laidTests := true, laidLooks := .later }
def RunStatesCardSaid : Prop := Claim7.holds Tryz.pinned (.plain (OpenSpec.ofChange runStatesSpec)) runStatesCard

/-- THE SECOND FORM's CARD OF 'reticentlaw10.StepOne'. -/
def stepOneUptoCard : Claim7 := { stood := { row := stepOneUptoRow, standIns := [], harness := (true, "12362f0144355e23569b775a21a1d5cd43ff3cc37f1f4f9b2a9a8c6bdd634143"), looks := true }, kinds := [], alts := [], laidByText := true, laidKinds := [.data], laidTests := true, laidLooks := .later }
def StepOneUptoCardSaid : Prop := Claim7.holds Tryz.pinned (.plain (OpenSpec.upto stepOneSpec)) stepOneUptoCard

/-- THE SECOND FORM's CARD OF 'reticentlaw11.RunStates'. -/
def runStatesUptoCard : Claim7 := { stood := { row := runStatesUptoRow, standIns := [], harness := (true, "12362f0144355e23569b775a21a1d5cd43ff3cc37f1f4f9b2a9a8c6bdd634143"), looks := true }, kinds := [], alts := [], laidByText := true, laidKinds := [.data], laidTests := true, laidLooks := .later }
def RunStatesUptoCardSaid : Prop := Claim7.holds Tryz.pinned (.plain (OpenSpec.upto runStatesSpec)) runStatesUptoCard
end Rows
end Go.Proofs.YtmegdednaimgcaaGreatDoor
