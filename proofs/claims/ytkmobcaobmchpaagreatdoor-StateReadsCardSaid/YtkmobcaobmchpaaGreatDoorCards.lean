/-
  DERIVED. GIVEN WITH THE SEED: THE CARDS: each row of YtkmobcaobmchpaaGreatDoorRows.lean that lists a variable, with what it lists TIED to the program's text (the seventh form; the later family's looks); each row that meets fmt, with fmt's text TOLD by the authors' own Lean function (tested against real Go, not proved from fmt's source: count such statements apart). THE CARD IS WHAT COUNTS. Prove the row's statement (the work); the ties are given (YtkmobcaobmchpaaGreatDoorTie.lean); close each card by the builder's one call (the guide's Derived/Test/ToyasCard.lean, 'card_holds'). Laid BY PROGRAM, IN A SANDBOX (cutbox-door.mjs). By AI agents, Wed Nov 11 2026. No macro, syntax, notation, axiom, sorry.
-/
import Derived.Test.YtkmobcaobmchpaaGreatDoorRows
import GoSem.ClaimSeven
namespace Go.Proofs.YtkmobcaobmchpaaGreatDoor
namespace Rows

/-- THE TIED CARD OF 'reticentlaw09.StateReads'. -/
def stateReadsCard : Claim7 := { stood := { row := stateReadsRow, standIns := [], harness := (true, "cc72413a9d0ada62aef9d732bb6d0eaacb5bb202a2cc284f9409c94f800db38c"), looks := true }, kinds := [], alts := [], laidByText := true, laidKinds := [.widerDeep], laidTests := true, laidLooks := .later }
def StateReadsCardSaid : Prop := Claim7.holds Tryz.pinned (.plain (OpenSpec.ofChange stateReadsSpec)) stateReadsCard

/-- THE TIED CARD OF 'reticentlaw09.StateRight'. -/
def stateRightCard : Claim7 := { stood := { row := stateRightRow, standIns := [], harness := (true, "cc72413a9d0ada62aef9d732bb6d0eaacb5bb202a2cc284f9409c94f800db38c"), looks := true }, kinds := [], alts := [], laidByText := true, laidKinds := [.data, .data, .data, .widerDeep], laidTests := true, laidLooks := .later }
def StateRightCardSaid : Prop := Claim7.holds Tryz.pinned (.plain (OpenSpec.ofChange stateRightSpec)) stateRightCard

/-- THE TIED CARD OF 'reticentlaw09.StateBack'. -/
def stateBackCard : Claim7 := { stood := { row := stateBackRow, standIns := [], harness := (true, "cc72413a9d0ada62aef9d732bb6d0eaacb5bb202a2cc284f9409c94f800db38c"), looks := true }, kinds := [], alts := [], laidByText := true, laidKinds := [.data, .data, .data, .widerDeep], laidTests := true, laidLooks := .later }
def StateBackCardSaid : Prop := Claim7.holds Tryz.pinned (.plain (OpenSpec.ofChange stateBackSpec)) stateBackCard

/-- THE TIED CARD OF 'reticentlaw20.PropTests'. -/
def propTestsCard : Claim7 := { stood := { row := propTestsRow, standIns := [], harness := (true, "cc72413a9d0ada62aef9d732bb6d0eaacb5bb202a2cc284f9409c94f800db38c"), looks := true }, kinds := [], alts := [], laidByText := true, laidKinds := [.data], laidTests := true, laidLooks := .later }
def PropTestsCardSaid : Prop := Claim7.holds Tryz.pinned (.plain (OpenSpec.ofChange propTestsSpec)) propTestsCard

/-- THE TIED CARD OF 'reticentlaw20.PropSelf'. -/
def propSelfCard : Claim7 := { stood := { row := propSelfRow, standIns := [], harness := (true, "cc72413a9d0ada62aef9d732bb6d0eaacb5bb202a2cc284f9409c94f800db38c"), looks := true }, kinds := [], alts := [], laidByText := true, laidKinds := [.data], laidTests := true, laidLooks := .later }
def PropSelfCardSaid : Prop := Claim7.holds Tryz.pinned (.plain (OpenSpec.ofChange propSelfSpec)) propSelfCard

/-- THE TIED CARD OF 'reticentlaw20.PropSeen'. -/
def propSeenCard : Claim7 := { stood := { row := propSeenRow, standIns := [], harness := (true, "cc72413a9d0ada62aef9d732bb6d0eaacb5bb202a2cc284f9409c94f800db38c"), looks := true }, kinds := [], alts := [], laidByText := true, laidKinds := [.data], laidTests := true, laidLooks := .later }
def PropSeenCardSaid : Prop := Claim7.holds Tryz.pinned (.plain (OpenSpec.ofChange propSeenSpec)) propSeenCard

/-- THE TIED CARD OF 'reticentlaw19.ExecRuns'. -/
def execRunsCard : Claim7 := { stood := { row := execRunsRow, standIns := [], harness := (true, "cc72413a9d0ada62aef9d732bb6d0eaacb5bb202a2cc284f9409c94f800db38c"), looks := true }, kinds := [], alts := [], laidByText := true, laidKinds := [.data], laidTests := true, laidLooks := .later }
def ExecRunsCardSaid : Prop := Claim7.holds Tryz.pinned (.plain (OpenSpec.ofChange execRunsSpec)) execRunsCard

/-- THE TIED CARD OF 'reticentlaw22.ShrinkFails'. -/
def shrinkFailsCard : Claim7 := { stood := { row := shrinkFailsRow, standIns := [], harness := (true, "cc72413a9d0ada62aef9d732bb6d0eaacb5bb202a2cc284f9409c94f800db38c"), looks := true }, kinds := [], alts := [], laidByText := true, laidKinds := [.data], laidTests := true, laidLooks := .later }
def ShrinkFailsCardSaid : Prop := Claim7.holds Tryz.pinned (.plain (OpenSpec.ofChange shrinkFailsSpec)) shrinkFailsCard

/-- THE SECOND FORM's CARD OF 'reticentlaw09.StateReads'. -/
def stateReadsUptoCard : Claim7 := { stood := { row := stateReadsUptoRow, standIns := [], harness := (true, "cc72413a9d0ada62aef9d732bb6d0eaacb5bb202a2cc284f9409c94f800db38c"), looks := true }, kinds := [], alts := [], laidByText := true, laidKinds := [.widerDeep], laidTests := true, laidLooks := .later }
def StateReadsUptoCardSaid : Prop := Claim7.holds Tryz.pinned (.plain (OpenSpec.upto stateReadsSpec)) stateReadsUptoCard

/-- THE SECOND FORM's CARD OF 'reticentlaw09.StateRight'. -/
def stateRightUptoCard : Claim7 := { stood := { row := stateRightUptoRow, standIns := [], harness := (true, "cc72413a9d0ada62aef9d732bb6d0eaacb5bb202a2cc284f9409c94f800db38c"), looks := true }, kinds := [], alts := [], laidByText := true, laidKinds := [.data, .data, .data, .widerDeep], laidTests := true, laidLooks := .later }
def StateRightUptoCardSaid : Prop := Claim7.holds Tryz.pinned (.plain (OpenSpec.upto stateRightSpec)) stateRightUptoCard

/-- THE SECOND FORM's CARD OF 'reticentlaw09.StateBack'. -/
def stateBackUptoCard : Claim7 := { stood := { row := stateBackUptoRow, standIns := [], harness := (true, "cc72413a9d0ada62aef9d732bb6d0eaacb5bb202a2cc284f9409c94f800db38c"), looks := true }, kinds := [], alts := [], laidByText := true, laidKinds := [.data, .data, .data, .widerDeep], laidTests := true, laidLooks := .later }
def StateBackUptoCardSaid : Prop := Claim7.holds Tryz.pinned (.plain (OpenSpec.upto stateBackSpec)) stateBackUptoCard

/-- THE SECOND FORM's CARD OF 'reticentlaw20.PropTests'. -/
def propTestsUptoCard : Claim7 := { stood := { row := propTestsUptoRow, standIns := [], harness := (true, "cc72413a9d0ada62aef9d732bb6d0eaacb5bb202a2cc284f9409c94f800db38c"), looks := true }, kinds := [], alts := [], laidByText := true, laidKinds := [.data], laidTests := true, laidLooks := .later }
def PropTestsUptoCardSaid : Prop := Claim7.holds Tryz.pinned (.plain (OpenSpec.upto propTestsSpec)) propTestsUptoCard

/-- THE SECOND FORM's CARD OF 'reticentlaw20.PropSelf'. -/
def propSelfUptoCard : Claim7 := { stood := { row := propSelfUptoRow, standIns := [], harness := (true, "cc72413a9d0ada62aef9d732bb6d0eaacb5bb202a2cc284f9409c94f800db38c"), looks := true }, kinds := [], alts := [], laidByText := true, laidKinds := [.data], laidTests := true, laidLooks := .later }
def PropSelfUptoCardSaid : Prop := Claim7.holds Tryz.pinned (.plain (OpenSpec.upto propSelfSpec)) propSelfUptoCard

/-- THE SECOND FORM's CARD OF 'reticentlaw20.PropSeen'. -/
def propSeenUptoCard : Claim7 := { stood := { row := propSeenUptoRow, standIns := [], harness := (true, "cc72413a9d0ada62aef9d732bb6d0eaacb5bb202a2cc284f9409c94f800db38c"), looks := true }, kinds := [], alts := [], laidByText := true, laidKinds := [.data], laidTests := true, laidLooks := .later }
def PropSeenUptoCardSaid : Prop := Claim7.holds Tryz.pinned (.plain (OpenSpec.upto propSeenSpec)) propSeenUptoCard

/-- THE SECOND FORM's CARD OF 'reticentlaw19.ExecRuns'. -/
def execRunsUptoCard : Claim7 := { stood := { row := execRunsUptoRow, standIns := [], harness := (true, "cc72413a9d0ada62aef9d732bb6d0eaacb5bb202a2cc284f9409c94f800db38c"), looks := true }, kinds := [], alts := [], laidByText := true, laidKinds := [.data], laidTests := true, laidLooks := .later }
def ExecRunsUptoCardSaid : Prop := Claim7.holds Tryz.pinned (.plain (OpenSpec.upto execRunsSpec)) execRunsUptoCard

/-- THE SECOND FORM's CARD OF 'reticentlaw22.ShrinkFails'. -/
def shrinkFailsUptoCard : Claim7 := { stood := { row := shrinkFailsUptoRow, standIns := [], harness := (true, "cc72413a9d0ada62aef9d732bb6d0eaacb5bb202a2cc284f9409c94f800db38c"), looks := true }, kinds := [], alts := [], laidByText := true, laidKinds := [.data], laidTests := true, laidLooks := .later }
def ShrinkFailsUptoCardSaid : Prop := Claim7.holds Tryz.pinned (.plain (OpenSpec.upto shrinkFailsSpec)) shrinkFailsUptoCard
end Rows
end Go.Proofs.YtkmobcaobmchpaaGreatDoor
