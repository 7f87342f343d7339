/-
  DERIVED. GIVEN WITH THE SEED: THE CARDS: each row of YtkcpghpglhamfaaGreatDoorRows.lean that lists a variable, with what it lists TIED to the program's text (the seventh form; the later family's looks); each row that meets fmt, with fmt's text TOLD by the authors' own Lean function (tested against real Go, not proved from fmt's source: count such statements apart). THE CARD IS WHAT COUNTS. Prove the row's statement (the work); the ties are given (YtkcpghpglhamfaaGreatDoorTie.lean); close each card by the builder's one call (the guide's Derived/Test/ToyasCard.lean, 'card_holds'). Laid BY PROGRAM, IN A SANDBOX (cutbox-door.mjs). By AI agents, Wed Nov 11 2026. No macro, syntax, notation, axiom, sorry.
-/
import Derived.Test.YtkcpghpglhamfaaGreatDoorRows
import GoSem.ClaimSeven
namespace Go.Proofs.YtkcpghpglhamfaaGreatDoor
namespace Rows

/-- THE TIED CARD OF 'reticentlaw09.StateBack'. -/
def stateBackCard : Claim7 := { stood := { row := stateBackRow, standIns := [], harness := (true, "632e6b2ff8440b5906891f0256d1e4cbacbd63d61c4ddbcdf2be1cb0d023ae25"), looks := false }, kinds := [], alts := [], laidByText := true, laidKinds := [.data, .data, .data, .widerDeep], laidTests := true, laidLooks := .later }
def StateBackCardSaid : Prop := Claim7.holds Tryz.pinned (.plain (OpenSpec.ofChange stateBackSpec)) stateBackCard

/-- THE TIED CARD OF 'reticentlaw09.StateRight'. -/
def stateRightCard : Claim7 := { stood := { row := stateRightRow, standIns := [], harness := (true, "632e6b2ff8440b5906891f0256d1e4cbacbd63d61c4ddbcdf2be1cb0d023ae25"), looks := false }, kinds := [], alts := [], laidByText := true, laidKinds := [.data, .data, .data, .widerDeep], laidTests := true, laidLooks := .later }
def StateRightCardSaid : Prop := Claim7.holds Tryz.pinned (.plain (OpenSpec.ofChange stateRightSpec)) stateRightCard

/-- THE SECOND FORM's CARD OF 'reticentlaw09.StateBack'. -/
def stateBackUptoCard : Claim7 := { stood := { row := stateBackUptoRow, standIns := [], harness := (true, "632e6b2ff8440b5906891f0256d1e4cbacbd63d61c4ddbcdf2be1cb0d023ae25"), looks := false }, kinds := [], alts := [], laidByText := true, laidKinds := [.data, .data, .data, .widerDeep], laidTests := true, laidLooks := .later }
def StateBackUptoCardSaid : Prop := Claim7.holds Tryz.pinned (.plain (OpenSpec.upto stateBackSpec)) stateBackUptoCard

/-- THE SECOND FORM's CARD OF 'reticentlaw09.StateRight'. -/
def stateRightUptoCard : Claim7 := { stood := { row := stateRightUptoRow, standIns := [], harness := (true, "632e6b2ff8440b5906891f0256d1e4cbacbd63d61c4ddbcdf2be1cb0d023ae25"), looks := false }, kinds := [], alts := [], laidByText := true, laidKinds := [.data, .data, .data, .widerDeep], laidTests := true, laidLooks := .later }
def StateRightUptoCardSaid : Prop := Claim7.holds Tryz.pinned (.plain (OpenSpec.upto stateRightSpec)) stateRightUptoCard
end Rows
end Go.Proofs.YtkcpghpglhamfaaGreatDoor
