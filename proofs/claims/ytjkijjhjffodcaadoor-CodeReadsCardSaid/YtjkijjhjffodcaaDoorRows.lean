/-
  NARROWER THAN 'FOR EVERY INPUT', by the rows' own cells (each row's printed sentence says how): TableChecks: laid · TableNames: laid · MutantAll: laid · CodeReads: laid · TableBack: laid · StepRules: laid · StepStays: laid · RunParts: laid.
  DERIVED. THE GIVEN ROWS OF THIS SEAT. 8 by the template 'for every input the law returns true; each argument reads behind the call as it read before'; 0 by the template 'total and deterministic' (their statements: YtjkijjhjffodcaaDoorTotals.lean).
  GIVEN WITH THE SEED: the statements are not yours to turn. If you find one false, say at which input.
  Laid BY PROGRAM, IN A SANDBOX (cutbox-rows.mjs): the forced cells as the released guide's own fill.sh prints them over the translation f8b911f8326d2862… (all of the seat's roots in one cut). By AI agents, Wed Nov 11 2026. No macro, syntax, notation, axiom, sorry.
-/
import Derived.Test.YtjkijjhjffodcaaDoorChecked
import GoSem.Claim
import GoSem.ClaimJoined
import GoSem.ClaimMapViews
import Derived.JoinedTies
import Derived.KernelRfl
namespace Go.Proofs.YtjkijjhjffodcaaDoor
/- THE CELL 'sum', in the pinned program and in every row, IS THE sha256 OF THE DUMP (.gsa) THAT YtjkijjhjffodcaaDoorProg.lean LOADS. Nothing in Lean hashes anything: it is a label: what it is worth is what the hold of that sum in a sandbox is worth. -/
noncomputable def Tryd.pinned : Pinned := { name := "ytjkijjhjffodcaadoor", sum := "f8b911f8326d2862ee537b2d401917145adbbce7c0396ec0dbfef87261457d1e", checked := Tryd.checked }
namespace Rows
def none {H : Type} : Left H := { results := [], args := [] }

/- WHAT THE LISTED PACKAGE-LEVEL VARIABLES READ AS WHEN THE CALL BEGINS. Each datum BY PROGRAM (the guide's laid-datum.mjs) off the statement by which the dump's own 'gosem.cut.vars' lays the variable. In a bare row this is a premise. The card (YtjkijjhjffodcaaDoorCards.lean) ties it to the program's text. -/
def laid_reticent_table_words {H : Type} : DataW H := .agg [.lit (.string [110, 111, 111, 112]), .lit (.string [112, 117, 115, 104]), .lit (.string [112, 111, 112]), .lit (.string [97, 100, 100]), .lit (.string [115, 117, 98]), .lit (.string [108, 111, 97, 100]), .lit (.string [115, 116, 111, 114, 101]), .lit (.string [106, 117, 109, 112]), .lit (.string [98, 110, 122]), .lit (.string [99, 97, 108, 108]), .lit (.string [114, 101, 116, 117, 114, 110]), .lit (.string [111, 117, 116, 112, 117, 116]), .lit (.string [104, 97, 108, 116])]
def laid_reticent_table_arities {H : Type} : DataW H := .agg [.lit (.int .i64 0), .lit (.int .i64 1), .lit (.int .i64 1), .lit (.int .i64 2), .lit (.int .i64 2), .lit (.int .i64 2), .lit (.int .i64 3), .lit (.int .i64 1), .lit (.int .i64 1), .lit (.int .i64 1), .lit (.int .i64 2), .lit (.int .i64 1), .lit (.int .i64 0)]
def laid_math_bits_deBruijn32tab {H : Type} : DataW H := .agg [.lit (.int .u8 0), .lit (.int .u8 1), .lit (.int .u8 28), .lit (.int .u8 2), .lit (.int .u8 29), .lit (.int .u8 14), .lit (.int .u8 24), .lit (.int .u8 3), .lit (.int .u8 30), .lit (.int .u8 22), .lit (.int .u8 20), .lit (.int .u8 15), .lit (.int .u8 25), .lit (.int .u8 17), .lit (.int .u8 4), .lit (.int .u8 8), .lit (.int .u8 31), .lit (.int .u8 27), .lit (.int .u8 13), .lit (.int .u8 23), .lit (.int .u8 21), .lit (.int .u8 19), .lit (.int .u8 16), .lit (.int .u8 7), .lit (.int .u8 26), .lit (.int .u8 12), .lit (.int .u8 18), .lit (.int .u8 6), .lit (.int .u8 11), .lit (.int .u8 5), .lit (.int .u8 10), .lit (.int .u8 9)]
def laid_math_bits_deBruijn64tab {H : Type} : DataW H := .agg [.lit (.int .u8 0), .lit (.int .u8 1), .lit (.int .u8 56), .lit (.int .u8 2), .lit (.int .u8 57), .lit (.int .u8 49), .lit (.int .u8 28), .lit (.int .u8 3), .lit (.int .u8 61), .lit (.int .u8 58), .lit (.int .u8 42), .lit (.int .u8 50), .lit (.int .u8 38), .lit (.int .u8 29), .lit (.int .u8 17), .lit (.int .u8 4), .lit (.int .u8 62), .lit (.int .u8 47), .lit (.int .u8 59), .lit (.int .u8 36), .lit (.int .u8 45), .lit (.int .u8 43), .lit (.int .u8 51), .lit (.int .u8 22), .lit (.int .u8 53), .lit (.int .u8 39), .lit (.int .u8 33), .lit (.int .u8 30), .lit (.int .u8 24), .lit (.int .u8 18), .lit (.int .u8 12), .lit (.int .u8 5), .lit (.int .u8 63), .lit (.int .u8 55), .lit (.int .u8 48), .lit (.int .u8 27), .lit (.int .u8 60), .lit (.int .u8 41), .lit (.int .u8 37), .lit (.int .u8 16), .lit (.int .u8 46), .lit (.int .u8 35), .lit (.int .u8 44), .lit (.int .u8 21), .lit (.int .u8 52), .lit (.int .u8 32), .lit (.int .u8 23), .lit (.int .u8 11), .lit (.int .u8 54), .lit (.int .u8 26), .lit (.int .u8 40), .lit (.int .u8 15), .lit (.int .u8 34), .lit (.int .u8 20), .lit (.int .u8 31), .lit (.int .u8 10), .lit (.int .u8 25), .lit (.int .u8 14), .lit (.int .u8 19), .lit (.int .u8 9), .lit (.int .u8 13), .lit (.int .u8 8), .lit (.int .u8 7), .lit (.int .u8 6)]
def laid_internal_strconv_uint64pow10 {H : Type} : DataW H := .agg [.lit (.int .u64 1), .lit (.int .u64 10), .lit (.int .u64 100), .lit (.int .u64 1000), .lit (.int .u64 10000), .lit (.int .u64 100000), .lit (.int .u64 1000000), .lit (.int .u64 10000000), .lit (.int .u64 100000000), .lit (.int .u64 1000000000), .lit (.int .u64 10000000000), .lit (.int .u64 100000000000), .lit (.int .u64 1000000000000), .lit (.int .u64 10000000000000), .lit (.int .u64 100000000000000), .lit (.int .u64 1000000000000000), .lit (.int .u64 10000000000000000), .lit (.int .u64 100000000000000000), .lit (.int .u64 1000000000000000000), .lit (.int .u64 10000000000000000000)]

/-- 'reticentlaw06.TableChecks': WHATEVER THE INPUT: true; the input reads as it did. -/
def tableChecksSpec : ChangeSpec := { name := "tableChecks", fn := fun _ => fun
  | [d] => { results := [.lit (.bool true)], args := [d] }
  | _ => none }
def tableChecksRow : OpenClaim := { program := "ytjkijjhjffodcaadoor", sum := "f8b911f8326d2862ee537b2d401917145adbbce7c0396ec0dbfef87261457d1e", func := "reticent/reticentlaw06.TableChecks", spec := "tableChecks", inPlace := ["internal/abi.NoEscape", "internal/bytealg.IndexByteString", "internal/bytealg.IndexString"], unfollowed := true, recurses := true, named := ["reticent/table.arities", "reticent/table.words", "internal/bytealg.MaxLen"], apart := false, laid := [("reticent/table.words", laid_reticent_table_words), ("reticent/table.arities", laid_reticent_table_arities)] }
def TableChecksSaid : Prop := tableChecksRow.holds Tryd.pinned (OpenSpec.ofChange tableChecksSpec)

/-- ITS FALSE NEIGHBOUR: 'it returns false'. Refute it at one input. -/
def tableChecksWrong : ChangeSpec := { name := "tableChecks", fn := fun _ => fun
  | [d] => { results := [.lit (.bool false)], args := [d] }
  | _ => none }
def TableChecksWrongFalsely : Prop := tableChecksRow.holds Tryd.pinned (OpenSpec.ofChange tableChecksWrong)

/-- 'reticentlaw06.TableNames': WHATEVER THE INPUT: true; the input reads as it did. -/
def tableNamesSpec : ChangeSpec := { name := "tableNames", fn := fun _ => fun
  | [d1, d2, d3] => { results := [.lit (.bool true)], args := [d1, d2, d3] }
  | _ => none }
def tableNamesRow : OpenClaim := { program := "ytjkijjhjffodcaadoor", sum := "f8b911f8326d2862ee537b2d401917145adbbce7c0396ec0dbfef87261457d1e", func := "reticent/reticentlaw06.TableNames", spec := "tableNames", inPlace := ["internal/abi.NoEscape", "internal/bytealg.IndexByteString", "internal/bytealg.IndexString"], unfollowed := true, recurses := true, named := ["reticent/table.words", "reticent/table.arities", "internal/bytealg.MaxLen"], apart := false, laid := [("reticent/table.words", laid_reticent_table_words), ("reticent/table.arities", laid_reticent_table_arities)] }
def TableNamesSaid : Prop := tableNamesRow.holds Tryd.pinned (OpenSpec.ofChange tableNamesSpec)

/-- ITS FALSE NEIGHBOUR: 'it returns false'. Refute it at one input. -/
def tableNamesWrong : ChangeSpec := { name := "tableNames", fn := fun _ => fun
  | [d1, d2, d3] => { results := [.lit (.bool false)], args := [d1, d2, d3] }
  | _ => none }
def TableNamesWrongFalsely : Prop := tableNamesRow.holds Tryd.pinned (OpenSpec.ofChange tableNamesWrong)

/-- 'reticentlaw24.MutantAll': WHATEVER THE INPUT: true; the input reads as it did. -/
def mutantAllSpec : ChangeSpec := { name := "mutantAll", fn := fun _ => fun
  | [d1, d2] => { results := [.lit (.bool true)], args := [d1, d2] }
  | _ => none }
def mutantAllRow : OpenClaim := { program := "ytjkijjhjffodcaadoor", sum := "f8b911f8326d2862ee537b2d401917145adbbce7c0396ec0dbfef87261457d1e", func := "reticent/reticentlaw24.MutantAll", spec := "mutantAll", unfollowed := true, recurses := true, named := ["reticent/table.arities", "reticent/table.words", "internal/strconv.uint64pow10", "math/bits.deBruijn32tab", "math/bits.deBruijn64tab"], apart := false, laid := [("math/bits.deBruijn32tab", laid_math_bits_deBruijn32tab), ("math/bits.deBruijn64tab", laid_math_bits_deBruijn64tab), ("internal/strconv.uint64pow10", laid_internal_strconv_uint64pow10), ("reticent/table.words", laid_reticent_table_words), ("reticent/table.arities", laid_reticent_table_arities)] }
def MutantAllSaid : Prop := mutantAllRow.holds Tryd.pinned (OpenSpec.ofChange mutantAllSpec)

/-- ITS FALSE NEIGHBOUR: 'it returns false'. Refute it at one input. -/
def mutantAllWrong : ChangeSpec := { name := "mutantAll", fn := fun _ => fun
  | [d1, d2] => { results := [.lit (.bool false)], args := [d1, d2] }
  | _ => none }
def MutantAllWrongFalsely : Prop := mutantAllRow.holds Tryd.pinned (OpenSpec.ofChange mutantAllWrong)

/-- 'reticentlaw08.CodeReads': WHATEVER THE INPUT: true; the input reads as it did. -/
def codeReadsSpec : ChangeSpec := { name := "codeReads", fn := fun _ => fun
  | [d1, d2] => { results := [.lit (.bool true)], args := [d1, d2] }
  | _ => none }
def codeReadsRow : OpenClaim := { program := "ytjkijjhjffodcaadoor", sum := "f8b911f8326d2862ee537b2d401917145adbbce7c0396ec0dbfef87261457d1e", func := "reticent/reticentlaw08.CodeReads", spec := "codeReads", inPlace := ["internal/bytealg.IndexByteString"], unfollowed := true, recurses := true, named := ["reticent/table.words"], apart := false, laid := [("reticent/table.words", laid_reticent_table_words)] }
def CodeReadsSaid : Prop := codeReadsRow.holds Tryd.pinned (OpenSpec.ofChange codeReadsSpec)

/-- ITS FALSE NEIGHBOUR: 'it returns false'. Refute it at one input. -/
def codeReadsWrong : ChangeSpec := { name := "codeReads", fn := fun _ => fun
  | [d1, d2] => { results := [.lit (.bool false)], args := [d1, d2] }
  | _ => none }
def CodeReadsWrongFalsely : Prop := codeReadsRow.holds Tryd.pinned (OpenSpec.ofChange codeReadsWrong)

/-- 'reticentlaw06.TableBack': WHATEVER THE INPUT: true; the input reads as it did. -/
def tableBackSpec : ChangeSpec := { name := "tableBack", fn := fun _ => fun
  | [d1, d2] => { results := [.lit (.bool true)], args := [d1, d2] }
  | _ => none }
def tableBackRow : OpenClaim := { program := "ytjkijjhjffodcaadoor", sum := "f8b911f8326d2862ee537b2d401917145adbbce7c0396ec0dbfef87261457d1e", func := "reticent/reticentlaw06.TableBack", spec := "tableBack", inPlace := ["internal/abi.NoEscape", "internal/bytealg.IndexByteString", "internal/bytealg.IndexString"], unfollowed := true, recurses := true, named := ["reticent/table.words", "reticent/table.arities", "internal/bytealg.MaxLen"], apart := false, laid := [("reticent/table.words", laid_reticent_table_words), ("reticent/table.arities", laid_reticent_table_arities)] }
def TableBackSaid : Prop := tableBackRow.holds Tryd.pinned (OpenSpec.ofChange tableBackSpec)

/-- ITS FALSE NEIGHBOUR: 'it returns false'. Refute it at one input. -/
def tableBackWrong : ChangeSpec := { name := "tableBack", fn := fun _ => fun
  | [d1, d2] => { results := [.lit (.bool false)], args := [d1, d2] }
  | _ => none }
def TableBackWrongFalsely : Prop := tableBackRow.holds Tryd.pinned (OpenSpec.ofChange tableBackWrong)

/-- 'reticentlaw10.StepRules': WHATEVER THE INPUT: true; the input reads as it did. -/
def stepRulesSpec : ChangeSpec := { name := "stepRules", fn := fun _ => fun
  | [d1, d2, d3, d4] => { results := [.lit (.bool true)], args := [d1, d2, d3, d4] }
  | _ => none }
def stepRulesRow : OpenClaim := { program := "ytjkijjhjffodcaadoor", sum := "f8b911f8326d2862ee537b2d401917145adbbce7c0396ec0dbfef87261457d1e", func := "reticent/reticentlaw10.StepRules", spec := "stepRules", unfollowed := true, recurses := true, named := ["reticent/table.arities"], apart := false, laid := [("reticent/table.arities", laid_reticent_table_arities)] }
def StepRulesSaid : Prop := stepRulesRow.holds Tryd.pinned (OpenSpec.ofChange stepRulesSpec)

/-- ITS FALSE NEIGHBOUR: 'it returns false'. Refute it at one input. -/
def stepRulesWrong : ChangeSpec := { name := "stepRules", fn := fun _ => fun
  | [d1, d2, d3, d4] => { results := [.lit (.bool false)], args := [d1, d2, d3, d4] }
  | _ => none }
def StepRulesWrongFalsely : Prop := stepRulesRow.holds Tryd.pinned (OpenSpec.ofChange stepRulesWrong)

/-- 'reticentlaw10.StepStays': WHATEVER THE INPUT: true; the input reads as it did. -/
def stepStaysSpec : ChangeSpec := { name := "stepStays", fn := fun _ => fun
  | [d1, d2, d3] => { results := [.lit (.bool true)], args := [d1, d2, d3] }
  | _ => none }
def stepStaysRow : OpenClaim := { program := "ytjkijjhjffodcaadoor", sum := "f8b911f8326d2862ee537b2d401917145adbbce7c0396ec0dbfef87261457d1e", func := "reticent/reticentlaw10.StepStays", spec := "stepStays", unfollowed := true, recurses := true, named := ["reticent/table.arities"], apart := false, laid := [("reticent/table.arities", laid_reticent_table_arities)] }
def StepStaysSaid : Prop := stepStaysRow.holds Tryd.pinned (OpenSpec.ofChange stepStaysSpec)

/-- ITS FALSE NEIGHBOUR: 'it returns false'. Refute it at one input. -/
def stepStaysWrong : ChangeSpec := { name := "stepStays", fn := fun _ => fun
  | [d1, d2, d3] => { results := [.lit (.bool false)], args := [d1, d2, d3] }
  | _ => none }
def StepStaysWrongFalsely : Prop := stepStaysRow.holds Tryd.pinned (OpenSpec.ofChange stepStaysWrong)

/-- 'reticentlaw11.RunParts': WHATEVER THE INPUT: true; the input reads as it did. -/
def runPartsSpec : ChangeSpec := { name := "runParts", fn := fun _ => fun
  | [d1, d2, d3, d4, d5] => { results := [.lit (.bool true)], args := [d1, d2, d3, d4, d5] }
  | _ => none }
def runPartsRow : OpenClaim := { program := "ytjkijjhjffodcaadoor", sum := "f8b911f8326d2862ee537b2d401917145adbbce7c0396ec0dbfef87261457d1e", func := "reticent/reticentlaw11.RunParts", spec := "runParts", unfollowed := true, recurses := true, named := ["reticent/table.arities"], apart := false, laid := [("reticent/table.arities", laid_reticent_table_arities)] }
def RunPartsSaid : Prop := runPartsRow.holds Tryd.pinned (OpenSpec.ofChange runPartsSpec)

/-- ITS FALSE NEIGHBOUR: 'it returns false'. Refute it at one input. -/
def runPartsWrong : ChangeSpec := { name := "runParts", fn := fun _ => fun
  | [d1, d2, d3, d4, d5] => { results := [.lit (.bool false)], args := [d1, d2, d3, d4, d5] }
  | _ => none }
def RunPartsWrongFalsely : Prop := runPartsRow.holds Tryd.pinned (OpenSpec.ofChange runPartsWrong)

/- THE SECOND FORM. 'bulk': how many values and letters a reading holds, each counted each time it is reached (what is shared counts as often as it is met; a slice's spare places count too). A statement '..UptoSaid' is the law's where the arguments, and the package variables that the reading takes, are together of bulk at most 1048576: NARROWER than '..Said'. Prove '..Said' where nothing that the law and all that it calls make is longer than what came in: it says more and counts as full. Else prove '..UptoSaid'. A law counts once. -/
mutual
def uptoBulk {H : Type} : DataW H → Nat
  | .lit (.string bytes) => bytes.length + 1
  | .lit _ => 1
  | .nil => 1
  | .ptr d => uptoBulk d + 1
  | .slice elems spare => uptoBulkAll elems + uptoBulkAll spare + 1
  | .agg parts => uptoBulkAll parts + 1
  | .iface _ d => uptoBulk d + 1
  | .map entries => uptoBulkEntries entries + 1
  | .held _ => 1
def uptoBulkAll {H : Type} : List (DataW H) → Nat
  | [] => 0
  | d :: r => uptoBulk d + uptoBulkAll r
def uptoBulkEntries {H : Type} : List (Lit × DataW H) → Nat
  | [] => 0
  | x :: r => uptoBulkEntry x + uptoBulkEntries r
def uptoBulkEntry {H : Type} : Lit × DataW H → Nat
  | (.string bytes, d) => bytes.length + uptoBulk d + 1
  | (_, d) => uptoBulk d + 1
 end
def uptoSmall : (H : Type) → List (DataW H) → Bool := fun _ ds => decide (uptoBulkAll ds ≤ 1048576)
def OpenSpec.upto (s : _root_.Go.ChangeSpec) : _root_.Go.OpenSpec := { _root_.Go.OpenSpec.ofChange s with cond := some uptoSmall }

/-- 'reticentlaw06.TableChecks', WHERE WHAT IT READS IS OF BULK AT MOST 1048576: true; the input reads as it did. -/
def tableChecksUptoRow : OpenClaim := { program := "ytjkijjhjffodcaadoor", sum := "f8b911f8326d2862ee537b2d401917145adbbce7c0396ec0dbfef87261457d1e", func := "reticent/reticentlaw06.TableChecks", spec := "tableChecks", inPlace := ["internal/abi.NoEscape", "internal/bytealg.IndexByteString", "internal/bytealg.IndexString"], unfollowed := true, recurses := true, named := ["reticent/table.arities", "reticent/table.words", "internal/bytealg.MaxLen"], apart := false, laid := [("reticent/table.words", laid_reticent_table_words), ("reticent/table.arities", laid_reticent_table_arities)], narrowed := true }
def TableChecksUptoSaid : Prop := tableChecksUptoRow.holds Tryd.pinned (OpenSpec.upto tableChecksSpec)

/-- 'reticentlaw06.TableNames', WHERE WHAT IT READS IS OF BULK AT MOST 1048576: true; the input reads as it did. -/
def tableNamesUptoRow : OpenClaim := { program := "ytjkijjhjffodcaadoor", sum := "f8b911f8326d2862ee537b2d401917145adbbce7c0396ec0dbfef87261457d1e", func := "reticent/reticentlaw06.TableNames", spec := "tableNames", inPlace := ["internal/abi.NoEscape", "internal/bytealg.IndexByteString", "internal/bytealg.IndexString"], unfollowed := true, recurses := true, named := ["reticent/table.words", "reticent/table.arities", "internal/bytealg.MaxLen"], apart := false, laid := [("reticent/table.words", laid_reticent_table_words), ("reticent/table.arities", laid_reticent_table_arities)], narrowed := true }
def TableNamesUptoSaid : Prop := tableNamesUptoRow.holds Tryd.pinned (OpenSpec.upto tableNamesSpec)

/-- 'reticentlaw24.MutantAll', WHERE WHAT IT READS IS OF BULK AT MOST 1048576: true; the input reads as it did. -/
def mutantAllUptoRow : OpenClaim := { program := "ytjkijjhjffodcaadoor", sum := "f8b911f8326d2862ee537b2d401917145adbbce7c0396ec0dbfef87261457d1e", func := "reticent/reticentlaw24.MutantAll", spec := "mutantAll", unfollowed := true, recurses := true, named := ["reticent/table.arities", "reticent/table.words", "internal/strconv.uint64pow10", "math/bits.deBruijn32tab", "math/bits.deBruijn64tab"], apart := false, laid := [("math/bits.deBruijn32tab", laid_math_bits_deBruijn32tab), ("math/bits.deBruijn64tab", laid_math_bits_deBruijn64tab), ("internal/strconv.uint64pow10", laid_internal_strconv_uint64pow10), ("reticent/table.words", laid_reticent_table_words), ("reticent/table.arities", laid_reticent_table_arities)], narrowed := true }
def MutantAllUptoSaid : Prop := mutantAllUptoRow.holds Tryd.pinned (OpenSpec.upto mutantAllSpec)

/-- 'reticentlaw08.CodeReads', WHERE WHAT IT READS IS OF BULK AT MOST 1048576: true; the input reads as it did. -/
def codeReadsUptoRow : OpenClaim := { program := "ytjkijjhjffodcaadoor", sum := "f8b911f8326d2862ee537b2d401917145adbbce7c0396ec0dbfef87261457d1e", func := "reticent/reticentlaw08.CodeReads", spec := "codeReads", inPlace := ["internal/bytealg.IndexByteString"], unfollowed := true, recurses := true, named := ["reticent/table.words"], apart := false, laid := [("reticent/table.words", laid_reticent_table_words)], narrowed := true }
def CodeReadsUptoSaid : Prop := codeReadsUptoRow.holds Tryd.pinned (OpenSpec.upto codeReadsSpec)

/-- 'reticentlaw06.TableBack', WHERE WHAT IT READS IS OF BULK AT MOST 1048576: true; the input reads as it did. -/
def tableBackUptoRow : OpenClaim := { program := "ytjkijjhjffodcaadoor", sum := "f8b911f8326d2862ee537b2d401917145adbbce7c0396ec0dbfef87261457d1e", func := "reticent/reticentlaw06.TableBack", spec := "tableBack", inPlace := ["internal/abi.NoEscape", "internal/bytealg.IndexByteString", "internal/bytealg.IndexString"], unfollowed := true, recurses := true, named := ["reticent/table.words", "reticent/table.arities", "internal/bytealg.MaxLen"], apart := false, laid := [("reticent/table.words", laid_reticent_table_words), ("reticent/table.arities", laid_reticent_table_arities)], narrowed := true }
def TableBackUptoSaid : Prop := tableBackUptoRow.holds Tryd.pinned (OpenSpec.upto tableBackSpec)

/-- 'reticentlaw10.StepRules', WHERE WHAT IT READS IS OF BULK AT MOST 1048576: true; the input reads as it did. -/
def stepRulesUptoRow : OpenClaim := { program := "ytjkijjhjffodcaadoor", sum := "f8b911f8326d2862ee537b2d401917145adbbce7c0396ec0dbfef87261457d1e", func := "reticent/reticentlaw10.StepRules", spec := "stepRules", unfollowed := true, recurses := true, named := ["reticent/table.arities"], apart := false, laid := [("reticent/table.arities", laid_reticent_table_arities)], narrowed := true }
def StepRulesUptoSaid : Prop := stepRulesUptoRow.holds Tryd.pinned (OpenSpec.upto stepRulesSpec)

/-- 'reticentlaw10.StepStays', WHERE WHAT IT READS IS OF BULK AT MOST 1048576: true; the input reads as it did. -/
def stepStaysUptoRow : OpenClaim := { program := "ytjkijjhjffodcaadoor", sum := "f8b911f8326d2862ee537b2d401917145adbbce7c0396ec0dbfef87261457d1e", func := "reticent/reticentlaw10.StepStays", spec := "stepStays", unfollowed := true, recurses := true, named := ["reticent/table.arities"], apart := false, laid := [("reticent/table.arities", laid_reticent_table_arities)], narrowed := true }
def StepStaysUptoSaid : Prop := stepStaysUptoRow.holds Tryd.pinned (OpenSpec.upto stepStaysSpec)

/-- 'reticentlaw11.RunParts', WHERE WHAT IT READS IS OF BULK AT MOST 1048576: true; the input reads as it did. -/
def runPartsUptoRow : OpenClaim := { program := "ytjkijjhjffodcaadoor", sum := "f8b911f8326d2862ee537b2d401917145adbbce7c0396ec0dbfef87261457d1e", func := "reticent/reticentlaw11.RunParts", spec := "runParts", unfollowed := true, recurses := true, named := ["reticent/table.arities"], apart := false, laid := [("reticent/table.arities", laid_reticent_table_arities)], narrowed := true }
def RunPartsUptoSaid : Prop := runPartsUptoRow.holds Tryd.pinned (OpenSpec.upto runPartsSpec)

end Rows
end Go.Proofs.YtjkijjhjffodcaaDoor
