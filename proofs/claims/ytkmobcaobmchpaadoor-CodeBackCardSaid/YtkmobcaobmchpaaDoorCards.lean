/-
  DERIVED. GIVEN WITH THE SEED: THE CARDS: each row of YtkmobcaobmchpaaDoorRows.lean that lists a variable, with what it lists TIED to the program's text (the seventh form; the later family's looks); each row that meets fmt, with fmt's text TOLD by the authors' own Lean function (tested against real Go, not proved from fmt's source: count such statements apart). THE CARD IS WHAT COUNTS. Prove the row's statement (the work); the ties are given (YtkmobcaobmchpaaDoorTie.lean); close each card by the builder's one call (the guide's Derived/Test/ToyasCard.lean, 'card_holds'). Laid BY PROGRAM, IN A SANDBOX (cutbox-door.mjs). By AI agents, Wed Nov 11 2026. No macro, syntax, notation, axiom, sorry.
-/
import Derived.Test.YtkmobcaobmchpaaDoorRows
import GoSem.ClaimSeven
namespace Go.Proofs.YtkmobcaobmchpaaDoor
namespace Rows

/-- THE TIED CARD OF 'reticentlaw24.MutantDiffers'. -/
def mutantDiffersCard : Claim7 := { stood := { row := mutantDiffersRow, standIns := [], harness := (true, "626bdcc9cb2bcf6791704a13748dbc934e249cdf6f4753f901868fbc19fd38f0"), looks := false }, kinds := [], alts := [], laidByText := true, laidKinds := [.data], laidTests := true, laidLooks := .later }
def MutantDiffersCardSaid : Prop := Claim7.holds Tryd.pinned (.plain (OpenSpec.ofChange mutantDiffersSpec)) mutantDiffersCard

/-- THE TIED CARD OF 'reticentlaw08.CodeRight'. -/
def codeRightCard : Claim7 := { stood := { row := codeRightRow, standIns := [], harness := (true, "626bdcc9cb2bcf6791704a13748dbc934e249cdf6f4753f901868fbc19fd38f0"), looks := false }, kinds := [], alts := [], laidByText := true, laidKinds := [.data, .data, .data, .widerDeep], laidTests := true, laidLooks := .later }
def CodeRightCardSaid : Prop := Claim7.holds Tryd.pinned (.plain (OpenSpec.ofChange codeRightSpec)) codeRightCard

/-- THE TIED CARD OF 'reticentlaw08.CodeBack'. -/
def codeBackCard : Claim7 := { stood := { row := codeBackRow, standIns := [], harness := (true, "626bdcc9cb2bcf6791704a13748dbc934e249cdf6f4753f901868fbc19fd38f0"), looks := false }, kinds := [], alts := [], laidByText := true, laidKinds := [.data, .data, .data, .widerDeep], laidTests := true, laidLooks := .later }
def CodeBackCardSaid : Prop := Claim7.holds Tryd.pinned (.plain (OpenSpec.ofChange codeBackSpec)) codeBackCard

/-- THE TIED CARD OF 'reticentlaw06.TableTurns'. -/
def tableTurnsCard : Claim7 := { stood := { row := tableTurnsRow, standIns := [], harness := (true, "626bdcc9cb2bcf6791704a13748dbc934e249cdf6f4753f901868fbc19fd38f0"), looks := false }, kinds := [], alts := [], laidByText := true, laidKinds := [.data, .widerDeep, .data, .pinned], laidTests := true, laidLooks := .later }
def TableTurnsCardSaid : Prop := Claim7.holds Tryd.pinned (.plain (OpenSpec.ofChange tableTurnsSpec)) tableTurnsCard

/-- THE SECOND FORM's CARD OF 'reticentlaw24.MutantDiffers'. -/
def mutantDiffersUptoCard : Claim7 := { stood := { row := mutantDiffersUptoRow, standIns := [], harness := (true, "626bdcc9cb2bcf6791704a13748dbc934e249cdf6f4753f901868fbc19fd38f0"), looks := false }, kinds := [], alts := [], laidByText := true, laidKinds := [.data], laidTests := true, laidLooks := .later }
def MutantDiffersUptoCardSaid : Prop := Claim7.holds Tryd.pinned (.plain (OpenSpec.upto mutantDiffersSpec)) mutantDiffersUptoCard

/-- THE SECOND FORM's CARD OF 'reticentlaw08.CodeRight'. -/
def codeRightUptoCard : Claim7 := { stood := { row := codeRightUptoRow, standIns := [], harness := (true, "626bdcc9cb2bcf6791704a13748dbc934e249cdf6f4753f901868fbc19fd38f0"), looks := false }, kinds := [], alts := [], laidByText := true, laidKinds := [.data, .data, .data, .widerDeep], laidTests := true, laidLooks := .later }
def CodeRightUptoCardSaid : Prop := Claim7.holds Tryd.pinned (.plain (OpenSpec.upto codeRightSpec)) codeRightUptoCard

/-- THE SECOND FORM's CARD OF 'reticentlaw08.CodeBack'. -/
def codeBackUptoCard : Claim7 := { stood := { row := codeBackUptoRow, standIns := [], harness := (true, "626bdcc9cb2bcf6791704a13748dbc934e249cdf6f4753f901868fbc19fd38f0"), looks := false }, kinds := [], alts := [], laidByText := true, laidKinds := [.data, .data, .data, .widerDeep], laidTests := true, laidLooks := .later }
def CodeBackUptoCardSaid : Prop := Claim7.holds Tryd.pinned (.plain (OpenSpec.upto codeBackSpec)) codeBackUptoCard

/-- THE SECOND FORM's CARD OF 'reticentlaw06.TableTurns'. -/
def tableTurnsUptoCard : Claim7 := { stood := { row := tableTurnsUptoRow, standIns := [], harness := (true, "626bdcc9cb2bcf6791704a13748dbc934e249cdf6f4753f901868fbc19fd38f0"), looks := false }, kinds := [], alts := [], laidByText := true, laidKinds := [.data, .widerDeep, .data, .pinned], laidTests := true, laidLooks := .later }
def TableTurnsUptoCardSaid : Prop := Claim7.holds Tryd.pinned (.plain (OpenSpec.upto tableTurnsSpec)) tableTurnsUptoCard
end Rows
end Go.Proofs.YtkmobcaobmchpaaDoor
