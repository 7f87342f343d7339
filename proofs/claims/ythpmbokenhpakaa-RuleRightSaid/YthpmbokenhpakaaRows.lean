/-
  No cell of these rows narrows 'for every input' (looked for: loops, veiled, ifaces, maps, wideKeys, modest, calm, conditions, laid).
  DERIVED. THE GIVEN ROWS OF THIS SEAT. 11 by the template 'for every input the law returns true; each argument reads behind the call as it read before'; 0 by the template 'total and deterministic' (their statements: YthpmbokenhpakaaTotals.lean).
  GIVEN WITH THE SEED: the statements are not yours to turn. If you find one false, say at which input.
  Laid BY PROGRAM, IN A SANDBOX (cutbox-rows.mjs): the forced cells as the released guide's own fill.sh prints them over the translation d812dd9209d9bfbc… (all of the seat's roots in one cut). By AI agents, Wed Nov 11 2026. No macro, syntax, notation, axiom, sorry.
-/
import Derived.Test.YthpmbokenhpakaaChecked
import GoSem.Claim
import GoSem.ClaimJoined
import GoSem.ClaimMapViews
import Derived.JoinedTies
import Derived.KernelRfl
namespace Go.Proofs.Ythpmbokenhpakaa
/- THE CELL 'sum', in the pinned program and in every row, IS THE sha256 OF THE DUMP (.gsa) THAT YthpmbokenhpakaaProg.lean LOADS. Nothing in Lean hashes anything: it is a label: what it is worth is what the hold of that sum in a sandbox is worth. -/
noncomputable def Try.pinned : Pinned := { name := "ythpmbokenhpakaa", sum := "d812dd9209d9bfbcecb50171553c6bf8102717aef1e70c68cc39abbe52645559", checked := Try.checked }
namespace Rows
def none {H : Type} : Left H := { results := [], args := [] }

/-- 'reticentlaw05.ShowTexts': WHATEVER THE INPUT: true; the input reads as it did. -/
def showTextsSpec : ChangeSpec := { name := "showTexts", fn := fun _ => fun
  | [d] => { results := [.lit (.bool true)], args := [d] }
  | _ => none }
def showTextsRow : OpenClaim := { program := "ythpmbokenhpakaa", sum := "d812dd9209d9bfbcecb50171553c6bf8102717aef1e70c68cc39abbe52645559", func := "reticent/reticentlaw05.ShowTexts", spec := "showTexts", unfollowed := true, recurses := true, apart := false }
def ShowTextsSaid : Prop := showTextsRow.holds Try.pinned (OpenSpec.ofChange showTextsSpec)

/-- ITS FALSE NEIGHBOUR: 'it returns false'. Refute it at one input. -/
def showTextsWrong : ChangeSpec := { name := "showTexts", fn := fun _ => fun
  | [d] => { results := [.lit (.bool false)], args := [d] }
  | _ => none }
def ShowTextsWrongFalsely : Prop := showTextsRow.holds Try.pinned (OpenSpec.ofChange showTextsWrong)

/-- 'reticentlaw24.MutantWeaker': WHATEVER THE INPUT: true; the input reads as it did. -/
def mutantWeakerSpec : ChangeSpec := { name := "mutantWeaker", fn := fun _ => fun
  | [d] => { results := [.lit (.bool true)], args := [d] }
  | _ => none }
def mutantWeakerRow : OpenClaim := { program := "ythpmbokenhpakaa", sum := "d812dd9209d9bfbcecb50171553c6bf8102717aef1e70c68cc39abbe52645559", func := "reticent/reticentlaw24.MutantWeaker", spec := "mutantWeaker", unfollowed := true, recurses := true, apart := false }
def MutantWeakerSaid : Prop := mutantWeakerRow.holds Try.pinned (OpenSpec.ofChange mutantWeakerSpec)

/-- ITS FALSE NEIGHBOUR: 'it returns false'. Refute it at one input. -/
def mutantWeakerWrong : ChangeSpec := { name := "mutantWeaker", fn := fun _ => fun
  | [d] => { results := [.lit (.bool false)], args := [d] }
  | _ => none }
def MutantWeakerWrongFalsely : Prop := mutantWeakerRow.holds Try.pinned (OpenSpec.ofChange mutantWeakerWrong)

/-- 'reticentlaw03.LexJoins': WHATEVER THE INPUT: true; the input reads as it did. -/
def lexJoinsSpec : ChangeSpec := { name := "lexJoins", fn := fun _ => fun
  | [d] => { results := [.lit (.bool true)], args := [d] }
  | _ => none }
def lexJoinsRow : OpenClaim := { program := "ythpmbokenhpakaa", sum := "d812dd9209d9bfbcecb50171553c6bf8102717aef1e70c68cc39abbe52645559", func := "reticent/reticentlaw03.LexJoins", spec := "lexJoins", inPlace := ["internal/bytealg.IndexByteString", "internal/abi.NoEscape", "internal/bytealg.MakeNoZero"], unfollowed := true, recurses := true, apart := false }
def LexJoinsSaid : Prop := lexJoinsRow.holds Try.pinned (OpenSpec.ofChange lexJoinsSpec)

/-- ITS FALSE NEIGHBOUR: 'it returns false'. Refute it at one input. -/
def lexJoinsWrong : ChangeSpec := { name := "lexJoins", fn := fun _ => fun
  | [d] => { results := [.lit (.bool false)], args := [d] }
  | _ => none }
def LexJoinsWrongFalsely : Prop := lexJoinsRow.holds Try.pinned (OpenSpec.ofChange lexJoinsWrong)

/-- 'reticentlaw01.LatticeTells': WHATEVER THE INPUT: true; the input reads as it did. -/
def latticeTellsSpec : ChangeSpec := { name := "latticeTells", fn := fun _ => fun
  | [d1, d2, d3] => { results := [.lit (.bool true)], args := [d1, d2, d3] }
  | _ => none }
def latticeTellsRow : OpenClaim := { program := "ythpmbokenhpakaa", sum := "d812dd9209d9bfbcecb50171553c6bf8102717aef1e70c68cc39abbe52645559", func := "reticent/reticentlaw01.LatticeTells", spec := "latticeTells", unfollowed := true, recurses := true, apart := false }
def LatticeTellsSaid : Prop := latticeTellsRow.holds Try.pinned (OpenSpec.ofChange latticeTellsSpec)

/-- ITS FALSE NEIGHBOUR: 'it returns false'. Refute it at one input. -/
def latticeTellsWrong : ChangeSpec := { name := "latticeTells", fn := fun _ => fun
  | [d1, d2, d3] => { results := [.lit (.bool false)], args := [d1, d2, d3] }
  | _ => none }
def LatticeTellsWrongFalsely : Prop := latticeTellsRow.holds Try.pinned (OpenSpec.ofChange latticeTellsWrong)

/-- 'reticentlaw01.LatticeChecks': WHATEVER THE INPUT: true; the input reads as it did. -/
def latticeChecksSpec : ChangeSpec := { name := "latticeChecks", fn := fun _ => fun
  | [d] => { results := [.lit (.bool true)], args := [d] }
  | _ => none }
def latticeChecksRow : OpenClaim := { program := "ythpmbokenhpakaa", sum := "d812dd9209d9bfbcecb50171553c6bf8102717aef1e70c68cc39abbe52645559", func := "reticent/reticentlaw01.LatticeChecks", spec := "latticeChecks", unfollowed := true, recurses := true, apart := false }
def LatticeChecksSaid : Prop := latticeChecksRow.holds Try.pinned (OpenSpec.ofChange latticeChecksSpec)

/-- ITS FALSE NEIGHBOUR: 'it returns false'. Refute it at one input. -/
def latticeChecksWrong : ChangeSpec := { name := "latticeChecks", fn := fun _ => fun
  | [d] => { results := [.lit (.bool false)], args := [d] }
  | _ => none }
def LatticeChecksWrongFalsely : Prop := latticeChecksRow.holds Try.pinned (OpenSpec.ofChange latticeChecksWrong)

/-- 'reticentlaw01.LatticeLaws': WHATEVER THE INPUT: true; the input reads as it did. -/
def latticeLawsSpec : ChangeSpec := { name := "latticeLaws", fn := fun _ => fun
  | [d1, d2, d3, d4] => { results := [.lit (.bool true)], args := [d1, d2, d3, d4] }
  | _ => none }
def latticeLawsRow : OpenClaim := { program := "ythpmbokenhpakaa", sum := "d812dd9209d9bfbcecb50171553c6bf8102717aef1e70c68cc39abbe52645559", func := "reticent/reticentlaw01.LatticeLaws", spec := "latticeLaws", unfollowed := true, recurses := true, apart := false }
def LatticeLawsSaid : Prop := latticeLawsRow.holds Try.pinned (OpenSpec.ofChange latticeLawsSpec)

/-- ITS FALSE NEIGHBOUR: 'it returns false'. Refute it at one input. -/
def latticeLawsWrong : ChangeSpec := { name := "latticeLaws", fn := fun _ => fun
  | [d1, d2, d3, d4] => { results := [.lit (.bool false)], args := [d1, d2, d3, d4] }
  | _ => none }
def LatticeLawsWrongFalsely : Prop := latticeLawsRow.holds Try.pinned (OpenSpec.ofChange latticeLawsWrong)

/-- 'reticentlaw04.RuleTold': WHATEVER THE INPUT: true; the input reads as it did. -/
def ruleToldSpec : ChangeSpec := { name := "ruleTold", fn := fun _ => fun
  | [d1, d2, d3] => { results := [.lit (.bool true)], args := [d1, d2, d3] }
  | _ => none }
def ruleToldRow : OpenClaim := { program := "ythpmbokenhpakaa", sum := "d812dd9209d9bfbcecb50171553c6bf8102717aef1e70c68cc39abbe52645559", func := "reticent/reticentlaw04.RuleTold", spec := "ruleTold", inPlace := ["internal/bytealg.IndexByteString"], unfollowed := true, recurses := true, apart := false }
def RuleToldSaid : Prop := ruleToldRow.holds Try.pinned (OpenSpec.ofChange ruleToldSpec)

/-- ITS FALSE NEIGHBOUR: 'it returns false'. Refute it at one input. -/
def ruleToldWrong : ChangeSpec := { name := "ruleTold", fn := fun _ => fun
  | [d1, d2, d3] => { results := [.lit (.bool false)], args := [d1, d2, d3] }
  | _ => none }
def RuleToldWrongFalsely : Prop := ruleToldRow.holds Try.pinned (OpenSpec.ofChange ruleToldWrong)

/-- 'reticentlaw04.RuleRight': WHATEVER THE INPUT: true; the input reads as it did. -/
def ruleRightSpec : ChangeSpec := { name := "ruleRight", fn := fun _ => fun
  | [d1, d2] => { results := [.lit (.bool true)], args := [d1, d2] }
  | _ => none }
def ruleRightRow : OpenClaim := { program := "ythpmbokenhpakaa", sum := "d812dd9209d9bfbcecb50171553c6bf8102717aef1e70c68cc39abbe52645559", func := "reticent/reticentlaw04.RuleRight", spec := "ruleRight", inPlace := ["internal/bytealg.IndexByteString"], unfollowed := true, recurses := true, apart := false }
def RuleRightSaid : Prop := ruleRightRow.holds Try.pinned (OpenSpec.ofChange ruleRightSpec)

/-- ITS FALSE NEIGHBOUR: 'it returns false'. Refute it at one input. -/
def ruleRightWrong : ChangeSpec := { name := "ruleRight", fn := fun _ => fun
  | [d1, d2] => { results := [.lit (.bool false)], args := [d1, d2] }
  | _ => none }
def RuleRightWrongFalsely : Prop := ruleRightRow.holds Try.pinned (OpenSpec.ofChange ruleRightWrong)

/-- 'reticentlaw07.JudgeComes': WHATEVER THE INPUT: true; the input reads as it did. -/
def judgeComesSpec : ChangeSpec := { name := "judgeComes", fn := fun _ => fun
  | [d1, d2, d3] => { results := [.lit (.bool true)], args := [d1, d2, d3] }
  | _ => none }
def judgeComesRow : OpenClaim := { program := "ythpmbokenhpakaa", sum := "d812dd9209d9bfbcecb50171553c6bf8102717aef1e70c68cc39abbe52645559", func := "reticent/reticentlaw07.JudgeComes", spec := "judgeComes", unfollowed := true, recurses := true, apart := false }
def JudgeComesSaid : Prop := judgeComesRow.holds Try.pinned (OpenSpec.ofChange judgeComesSpec)

/-- ITS FALSE NEIGHBOUR: 'it returns false'. Refute it at one input. -/
def judgeComesWrong : ChangeSpec := { name := "judgeComes", fn := fun _ => fun
  | [d1, d2, d3] => { results := [.lit (.bool false)], args := [d1, d2, d3] }
  | _ => none }
def JudgeComesWrongFalsely : Prop := judgeComesRow.holds Try.pinned (OpenSpec.ofChange judgeComesWrong)

/-- 'reticentlaw05.ShowBack': WHATEVER THE INPUT: true; the input reads as it did. -/
def showBackSpec : ChangeSpec := { name := "showBack", fn := fun _ => fun
  | [d] => { results := [.lit (.bool true)], args := [d] }
  | _ => none }
def showBackRow : OpenClaim := { program := "ythpmbokenhpakaa", sum := "d812dd9209d9bfbcecb50171553c6bf8102717aef1e70c68cc39abbe52645559", func := "reticent/reticentlaw05.ShowBack", spec := "showBack", inPlace := ["internal/bytealg.IndexByteString"], unfollowed := true, recurses := true, apart := false }
def ShowBackSaid : Prop := showBackRow.holds Try.pinned (OpenSpec.ofChange showBackSpec)

/-- ITS FALSE NEIGHBOUR: 'it returns false'. Refute it at one input. -/
def showBackWrong : ChangeSpec := { name := "showBack", fn := fun _ => fun
  | [d] => { results := [.lit (.bool false)], args := [d] }
  | _ => none }
def ShowBackWrongFalsely : Prop := showBackRow.holds Try.pinned (OpenSpec.ofChange showBackWrong)

/-- 'reticentlaw07.JudgeRises': WHATEVER THE INPUT: true; the input reads as it did. -/
def judgeRisesSpec : ChangeSpec := { name := "judgeRises", fn := fun _ => fun
  | [d1, d2, d3, d4, d5] => { results := [.lit (.bool true)], args := [d1, d2, d3, d4, d5] }
  | _ => none }
def judgeRisesRow : OpenClaim := { program := "ythpmbokenhpakaa", sum := "d812dd9209d9bfbcecb50171553c6bf8102717aef1e70c68cc39abbe52645559", func := "reticent/reticentlaw07.JudgeRises", spec := "judgeRises", unfollowed := true, recurses := true, apart := false }
def JudgeRisesSaid : Prop := judgeRisesRow.holds Try.pinned (OpenSpec.ofChange judgeRisesSpec)

/-- ITS FALSE NEIGHBOUR: 'it returns false'. Refute it at one input. -/
def judgeRisesWrong : ChangeSpec := { name := "judgeRises", fn := fun _ => fun
  | [d1, d2, d3, d4, d5] => { results := [.lit (.bool false)], args := [d1, d2, d3, d4, d5] }
  | _ => none }
def JudgeRisesWrongFalsely : Prop := judgeRisesRow.holds Try.pinned (OpenSpec.ofChange judgeRisesWrong)

/- THE SECOND FORM. 'bulk': how many values and letters a reading holds, each counted each time it is reached (what is shared counts as often as it is met; a slice's spare places count too). A statement '..UptoSaid' is the law's where the arguments, and the package variables that the reading takes, are together of bulk at most 1048576: NARROWER than '..Said'. Prove '..Said' where nothing that the law and all that it calls make is longer than what came in: it says more and counts as full. Else prove '..UptoSaid'. A law counts once. -/
mutual
def uptoBulk {H : Type} : DataW H → Nat
  | .lit (.string bytes) => bytes.length + 1
  | .lit _ => 1
  | .nil => 1
  | .ptr d => uptoBulk d + 1
  | .slice elems spare => uptoBulkAll elems + uptoBulkAll spare + 1
  | .agg parts => uptoBulkAll parts + 1
  | .iface _ d => uptoBulk d + 1
  | .map entries => uptoBulkEntries entries + 1
  | .held _ => 1
def uptoBulkAll {H : Type} : List (DataW H) → Nat
  | [] => 0
  | d :: r => uptoBulk d + uptoBulkAll r
def uptoBulkEntries {H : Type} : List (Lit × DataW H) → Nat
  | [] => 0
  | x :: r => uptoBulkEntry x + uptoBulkEntries r
def uptoBulkEntry {H : Type} : Lit × DataW H → Nat
  | (.string bytes, d) => bytes.length + uptoBulk d + 1
  | (_, d) => uptoBulk d + 1
 end
def uptoSmall : (H : Type) → List (DataW H) → Bool := fun _ ds => decide (uptoBulkAll ds ≤ 1048576)
def OpenSpec.upto (s : _root_.Go.ChangeSpec) : _root_.Go.OpenSpec := { _root_.Go.OpenSpec.ofChange s with cond := some uptoSmall }

/-- 'reticentlaw05.ShowTexts', WHERE WHAT IT READS IS OF BULK AT MOST 1048576: true; the input reads as it did. -/
def showTextsUptoRow : OpenClaim := { program := "ythpmbokenhpakaa", sum := "d812dd9209d9bfbcecb50171553c6bf8102717aef1e70c68cc39abbe52645559", func := "reticent/reticentlaw05.ShowTexts", spec := "showTexts", unfollowed := true, recurses := true, apart := false, narrowed := true }
def ShowTextsUptoSaid : Prop := showTextsUptoRow.holds Try.pinned (OpenSpec.upto showTextsSpec)

/-- 'reticentlaw24.MutantWeaker', WHERE WHAT IT READS IS OF BULK AT MOST 1048576: true; the input reads as it did. -/
def mutantWeakerUptoRow : OpenClaim := { program := "ythpmbokenhpakaa", sum := "d812dd9209d9bfbcecb50171553c6bf8102717aef1e70c68cc39abbe52645559", func := "reticent/reticentlaw24.MutantWeaker", spec := "mutantWeaker", unfollowed := true, recurses := true, apart := false, narrowed := true }
def MutantWeakerUptoSaid : Prop := mutantWeakerUptoRow.holds Try.pinned (OpenSpec.upto mutantWeakerSpec)

/-- 'reticentlaw03.LexJoins', WHERE WHAT IT READS IS OF BULK AT MOST 1048576: true; the input reads as it did. -/
def lexJoinsUptoRow : OpenClaim := { program := "ythpmbokenhpakaa", sum := "d812dd9209d9bfbcecb50171553c6bf8102717aef1e70c68cc39abbe52645559", func := "reticent/reticentlaw03.LexJoins", spec := "lexJoins", inPlace := ["internal/bytealg.IndexByteString", "internal/abi.NoEscape", "internal/bytealg.MakeNoZero"], unfollowed := true, recurses := true, apart := false, narrowed := true }
def LexJoinsUptoSaid : Prop := lexJoinsUptoRow.holds Try.pinned (OpenSpec.upto lexJoinsSpec)

/-- 'reticentlaw01.LatticeTells', WHERE WHAT IT READS IS OF BULK AT MOST 1048576: true; the input reads as it did. -/
def latticeTellsUptoRow : OpenClaim := { program := "ythpmbokenhpakaa", sum := "d812dd9209d9bfbcecb50171553c6bf8102717aef1e70c68cc39abbe52645559", func := "reticent/reticentlaw01.LatticeTells", spec := "latticeTells", unfollowed := true, recurses := true, apart := false, narrowed := true }
def LatticeTellsUptoSaid : Prop := latticeTellsUptoRow.holds Try.pinned (OpenSpec.upto latticeTellsSpec)

/-- 'reticentlaw01.LatticeChecks', WHERE WHAT IT READS IS OF BULK AT MOST 1048576: true; the input reads as it did. -/
def latticeChecksUptoRow : OpenClaim := { program := "ythpmbokenhpakaa", sum := "d812dd9209d9bfbcecb50171553c6bf8102717aef1e70c68cc39abbe52645559", func := "reticent/reticentlaw01.LatticeChecks", spec := "latticeChecks", unfollowed := true, recurses := true, apart := false, narrowed := true }
def LatticeChecksUptoSaid : Prop := latticeChecksUptoRow.holds Try.pinned (OpenSpec.upto latticeChecksSpec)

/-- 'reticentlaw01.LatticeLaws', WHERE WHAT IT READS IS OF BULK AT MOST 1048576: true; the input reads as it did. -/
def latticeLawsUptoRow : OpenClaim := { program := "ythpmbokenhpakaa", sum := "d812dd9209d9bfbcecb50171553c6bf8102717aef1e70c68cc39abbe52645559", func := "reticent/reticentlaw01.LatticeLaws", spec := "latticeLaws", unfollowed := true, recurses := true, apart := false, narrowed := true }
def LatticeLawsUptoSaid : Prop := latticeLawsUptoRow.holds Try.pinned (OpenSpec.upto latticeLawsSpec)

/-- 'reticentlaw04.RuleTold', WHERE WHAT IT READS IS OF BULK AT MOST 1048576: true; the input reads as it did. -/
def ruleToldUptoRow : OpenClaim := { program := "ythpmbokenhpakaa", sum := "d812dd9209d9bfbcecb50171553c6bf8102717aef1e70c68cc39abbe52645559", func := "reticent/reticentlaw04.RuleTold", spec := "ruleTold", inPlace := ["internal/bytealg.IndexByteString"], unfollowed := true, recurses := true, apart := false, narrowed := true }
def RuleToldUptoSaid : Prop := ruleToldUptoRow.holds Try.pinned (OpenSpec.upto ruleToldSpec)

/-- 'reticentlaw04.RuleRight', WHERE WHAT IT READS IS OF BULK AT MOST 1048576: true; the input reads as it did. -/
def ruleRightUptoRow : OpenClaim := { program := "ythpmbokenhpakaa", sum := "d812dd9209d9bfbcecb50171553c6bf8102717aef1e70c68cc39abbe52645559", func := "reticent/reticentlaw04.RuleRight", spec := "ruleRight", inPlace := ["internal/bytealg.IndexByteString"], unfollowed := true, recurses := true, apart := false, narrowed := true }
def RuleRightUptoSaid : Prop := ruleRightUptoRow.holds Try.pinned (OpenSpec.upto ruleRightSpec)

/-- 'reticentlaw07.JudgeComes', WHERE WHAT IT READS IS OF BULK AT MOST 1048576: true; the input reads as it did. -/
def judgeComesUptoRow : OpenClaim := { program := "ythpmbokenhpakaa", sum := "d812dd9209d9bfbcecb50171553c6bf8102717aef1e70c68cc39abbe52645559", func := "reticent/reticentlaw07.JudgeComes", spec := "judgeComes", unfollowed := true, recurses := true, apart := false, narrowed := true }
def JudgeComesUptoSaid : Prop := judgeComesUptoRow.holds Try.pinned (OpenSpec.upto judgeComesSpec)

/-- 'reticentlaw05.ShowBack', WHERE WHAT IT READS IS OF BULK AT MOST 1048576: true; the input reads as it did. -/
def showBackUptoRow : OpenClaim := { program := "ythpmbokenhpakaa", sum := "d812dd9209d9bfbcecb50171553c6bf8102717aef1e70c68cc39abbe52645559", func := "reticent/reticentlaw05.ShowBack", spec := "showBack", inPlace := ["internal/bytealg.IndexByteString"], unfollowed := true, recurses := true, apart := false, narrowed := true }
def ShowBackUptoSaid : Prop := showBackUptoRow.holds Try.pinned (OpenSpec.upto showBackSpec)

/-- 'reticentlaw07.JudgeRises', WHERE WHAT IT READS IS OF BULK AT MOST 1048576: true; the input reads as it did. -/
def judgeRisesUptoRow : OpenClaim := { program := "ythpmbokenhpakaa", sum := "d812dd9209d9bfbcecb50171553c6bf8102717aef1e70c68cc39abbe52645559", func := "reticent/reticentlaw07.JudgeRises", spec := "judgeRises", unfollowed := true, recurses := true, apart := false, narrowed := true }
def JudgeRisesUptoSaid : Prop := judgeRisesUptoRow.holds Try.pinned (OpenSpec.upto judgeRisesSpec)

end Rows
end Go.Proofs.Ythpmbokenhpakaa
