/-
  DERIVED. GIVEN WITH THE SEED: THE CARDS: each row of YtmegdednaimgcaaDoorRows.lean that lists a variable, with what it lists TIED to the program's text (the seventh form; the later family's looks); each row that meets fmt, with fmt's text TOLD by the authors' own Lean function (tested against real Go, not proved from fmt's source: count such statements apart). THE CARD IS WHAT COUNTS. Prove the row's statement (the work); the ties are given (YtmegdednaimgcaaDoorTie.lean); close each card by the builder's one call (the guide's Derived/Test/ToyasCard.lean, 'card_holds'). Laid BY PROGRAM, IN A SANDBOX (cutbox-door.mjs). By AI agents, Wed Nov 11 2026. No macro, syntax, notation, axiom, sorry.
-/
import Derived.Test.YtmegdednaimgcaaDoorRows
import GoSem.ClaimSeven
namespace Go.Proofs.YtmegdednaimgcaaDoor
namespace Rows

/-- THE TIED CARD OF 'reticentlaw10.StepRules'. -/
def stepRulesCard : Claim7 := { stood := { row := stepRulesRow, standIns := [], harness := (true, "642abd71eb8740bb75fa13d64e96c976a0136aa4a12b303b6b6aeb1287aa5a40"), looks := true }, kinds := [], alts := [], laidByText := true, laidKinds := [.data], laidTests := true, laidLooks := .later }
def StepRulesCardSaid : Prop := Claim7.holds Tryd.pinned (.plain (OpenSpec.ofChange stepRulesSpec)) stepRulesCard

/-- THE TIED CARD OF 'reticentlaw10.StepStays'. -/
def stepStaysCard : Claim7 := { stood := { row := stepStaysRow, standIns := [], harness := (true, "642abd71eb8740bb75fa13d64e96c976a0136aa4a12b303b6b6aeb1287aa5a40"), looks := true }, kinds := [], alts := [], laidByText := true, laidKinds := [.data], laidTests := true, laidLooks := .later }
def StepStaysCardSaid : Prop := Claim7.holds Tryd.pinned (.plain (OpenSpec.ofChange stepStaysSpec)) stepStaysCard

/-- THE TIED CARD OF 'reticentlaw11.RunParts'. -/
def runPartsCard : Claim7 := { stood := { row := runPartsRow, standIns := [], harness := (true, "642abd71eb8740bb75fa13d64e96c976a0136aa4a12b303b6b6aeb1287aa5a40"), looks := true }, kinds := [], alts := [], laidByText := true, laidKinds := [.data], laidTests := true, laidLooks := .later }
def RunPartsCardSaid : Prop := Claim7.holds Tryd.pinned (.plain (OpenSpec.ofChange runPartsSpec)) runPartsCard

/-- THE SECOND FORM's CARD OF 'reticentlaw10.StepRules'. -/
def stepRulesUptoCard : Claim7 := { stood := { row := stepRulesUptoRow, standIns := [], harness := (true, "642abd71eb8740bb75fa13d64e96c976a0136aa4a12b303b6b6aeb1287aa5a40"), looks := true }, kinds := [], alts := [], laidByText := true, laidKinds := [.data], laidTests := true, laidLooks := .later }
def StepRulesUptoCardSaid : Prop := Claim7.holds Tryd.pinned (.plain (OpenSpec.upto stepRulesSpec)) stepRulesUptoCard

/-- THE SECOND FORM's CARD OF 'reticentlaw10.StepStays'. -/
def stepStaysUptoCard : Claim7 := { stood := { row := stepStaysUptoRow, standIns := [], harness := (true, "642abd71eb8740bb75fa13d64e96c976a0136aa4a12b303b6b6aeb1287aa5a40"), looks := true }, kinds := [], alts := [], laidByText := true, laidKinds := [.data], laidTests := true, laidLooks := .later }
def StepStaysUptoCardSaid : Prop := Claim7.holds Tryd.pinned (.plain (OpenSpec.upto stepStaysSpec)) stepStaysUptoCard

/-- THE SECOND FORM's CARD OF 'reticentlaw11.RunParts'. -/
def runPartsUptoCard : Claim7 := { stood := { row := runPartsUptoRow, standIns := [], harness := (true, "642abd71eb8740bb75fa13d64e96c976a0136aa4a12b303b6b6aeb1287aa5a40"), looks := true }, kinds := [], alts := [], laidByText := true, laidKinds := [.data], laidTests := true, laidLooks := .later }
def RunPartsUptoCardSaid : Prop := Claim7.holds Tryd.pinned (.plain (OpenSpec.upto runPartsSpec)) runPartsUptoCard
end Rows
end Go.Proofs.YtmegdednaimgcaaDoor
