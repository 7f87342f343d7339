/-
  NARROWER THAN 'FOR EVERY INPUT', by the rows' own cells (each row's printed sentence says how): PropTests: laid · PropSelf: laid · PropSeen: laid.
  DERIVED. THE GIVEN ROWS OF THIS SEAT. 3 by the template 'for every input the law returns true; each argument reads behind the call as it read before'; 0 by the template 'total and deterministic' (their statements: YtmjcpkmongafnaaGreatDoorTotals.lean).
  GIVEN WITH THE SEED: the statements are not yours to turn. If you find one false, say at which input.
  Laid BY PROGRAM, IN A SANDBOX (cutbox-rows.mjs): the forced cells as the released guide's own fill.sh prints them over the translation 118d5ac96c086fd5… (all of the seat's roots in one cut). By AI agents, Wed Nov 11 2026. No macro, syntax, notation, axiom, sorry.
-/
import Derived.Test.YtmjcpkmongafnaaGreatDoorChecked
import GoSem.Claim
import GoSem.ClaimJoined
import GoSem.ClaimMapViews
import Derived.JoinedTies
import Derived.KernelRfl
namespace Go.Proofs.YtmjcpkmongafnaaGreatDoor
/- THE CELL 'sum', in the pinned program and in every row, IS THE sha256 OF THE DUMP (.gsa) THAT YtmjcpkmongafnaaGreatDoorProg.lean LOADS. Nothing in Lean hashes anything: it is a label: what it is worth is what the hold of that sum in a sandbox is worth. -/
noncomputable def Tryz.pinned : Pinned := { name := "ytmjcpkmongafnaagreatdoor", sum := "118d5ac96c086fd5bff8180e829bf4938a7504a5638400b3a550174b875ce859", checked := Tryz.checked }
namespace Rows
def none {H : Type} : Left H := { results := [], args := [] }

/- WHAT THE LISTED PACKAGE-LEVEL VARIABLES READ AS WHEN THE CALL BEGINS. Each datum BY PROGRAM (the guide's laid-datum.mjs) off the statement by which the dump's own 'gosem.cut.vars' lays the variable. In a bare row this is a premise. The card (YtmjcpkmongafnaaGreatDoorCards.lean) ties it to the program's text. -/
def laid_reticent_table_arities {H : Type} : DataW H := .agg [.lit (.int .i64 0), .lit (.int .i64 1), .lit (.int .i64 1), .lit (.int .i64 2), .lit (.int .i64 2), .lit (.int .i64 2), .lit (.int .i64 3), .lit (.int .i64 1), .lit (.int .i64 1), .lit (.int .i64 1), .lit (.int .i64 2), .lit (.int .i64 1), .lit (.int .i64 0)]

/-- 'reticentlaw20.PropTests': WHATEVER THE INPUT: true; the input reads as it did. -/
def propTestsSpec : ChangeSpec := { name := "propTests", fn := fun _ => fun
  | [d1, d2, d3, d4, d5, d6, d7] => { results := [.lit (.bool true)], args := [d1, d2, d3, d4, d5, d6, d7] }
  | _ => none }
def propTestsRow : OpenClaim := { program := "ytmjcpkmongafnaagreatdoor", sum := "118d5ac96c086fd5bff8180e829bf4938a7504a5638400b3a550174b875ce859", func := "reticent/reticentlaw20.PropTests", spec := "propTests", unfollowed := true, recurses := true, named := ["reticent/table.arities"], apart := false, laid := [("reticent/table.arities", laid_reticent_table_arities)] }
def PropTestsSaid : Prop := propTestsRow.holds Tryz.pinned (OpenSpec.ofChange propTestsSpec)

/-- ITS FALSE NEIGHBOUR: 'it returns false'. Refute it at one input. -/
def propTestsWrong : ChangeSpec := { name := "propTests", fn := fun _ => fun
  | [d1, d2, d3, d4, d5, d6, d7] => { results := [.lit (.bool false)], args := [d1, d2, d3, d4, d5, d6, d7] }
  | _ => none }
def PropTestsWrongFalsely : Prop := propTestsRow.holds Tryz.pinned (OpenSpec.ofChange propTestsWrong)

/-- 'reticentlaw20.PropSelf': WHATEVER THE INPUT: true; the input reads as it did. -/
def propSelfSpec : ChangeSpec := { name := "propSelf", fn := fun _ => fun
  | [d1, d2, d3, d4, d5, d6, d7] => { results := [.lit (.bool true)], args := [d1, d2, d3, d4, d5, d6, d7] }
  | _ => none }
def propSelfRow : OpenClaim := { program := "ytmjcpkmongafnaagreatdoor", sum := "118d5ac96c086fd5bff8180e829bf4938a7504a5638400b3a550174b875ce859", func := "reticent/reticentlaw20.PropSelf", spec := "propSelf", unfollowed := true, recurses := true, named := ["reticent/table.arities"], apart := false, laid := [("reticent/table.arities", laid_reticent_table_arities)] }
def PropSelfSaid : Prop := propSelfRow.holds Tryz.pinned (OpenSpec.ofChange propSelfSpec)

/-- ITS FALSE NEIGHBOUR: 'it returns false'. Refute it at one input. -/
def propSelfWrong : ChangeSpec := { name := "propSelf", fn := fun _ => fun
  | [d1, d2, d3, d4, d5, d6, d7] => { results := [.lit (.bool false)], args := [d1, d2, d3, d4, d5, d6, d7] }
  | _ => none }
def PropSelfWrongFalsely : Prop := propSelfRow.holds Tryz.pinned (OpenSpec.ofChange propSelfWrong)

/-- 'reticentlaw20.PropSeen': WHATEVER THE INPUT: true; the input reads as it did. -/
def propSeenSpec : ChangeSpec := { name := "propSeen", fn := fun _ => fun
  | [d1, d2, d3, d4, d5] => { results := [.lit (.bool true)], args := [d1, d2, d3, d4, d5] }
  | _ => none }
def propSeenRow : OpenClaim := { program := "ytmjcpkmongafnaagreatdoor", sum := "118d5ac96c086fd5bff8180e829bf4938a7504a5638400b3a550174b875ce859", func := "reticent/reticentlaw20.PropSeen", spec := "propSeen", unfollowed := true, recurses := true, named := ["reticent/table.arities"], apart := false, laid := [("reticent/table.arities", laid_reticent_table_arities)] }
def PropSeenSaid : Prop := propSeenRow.holds Tryz.pinned (OpenSpec.ofChange propSeenSpec)

/-- ITS FALSE NEIGHBOUR: 'it returns false'. Refute it at one input. -/
def propSeenWrong : ChangeSpec := { name := "propSeen", fn := fun _ => fun
  | [d1, d2, d3, d4, d5] => { results := [.lit (.bool false)], args := [d1, d2, d3, d4, d5] }
  | _ => none }
def PropSeenWrongFalsely : Prop := propSeenRow.holds Tryz.pinned (OpenSpec.ofChange propSeenWrong)

/- THE SECOND FORM. 'bulk': how many values and letters a reading holds, each counted each time it is reached (what is shared counts as often as it is met; a slice's spare places count too). A statement '..UptoSaid' is the law's where the arguments, and the package variables that the reading takes, are together of bulk at most 1048576: NARROWER than '..Said'. Prove '..Said' where nothing that the law and all that it calls make is longer than what came in: it says more and counts as full. Else prove '..UptoSaid'. A law counts once. -/
mutual
def uptoBulk {H : Type} : DataW H → Nat
  | .lit (.string bytes) => bytes.length + 1
  | .lit _ => 1
  | .nil => 1
  | .ptr d => uptoBulk d + 1
  | .slice elems spare => uptoBulkAll elems + uptoBulkAll spare + 1
  | .agg parts => uptoBulkAll parts + 1
  | .iface _ d => uptoBulk d + 1
  | .map entries => uptoBulkEntries entries + 1
  | .held _ => 1
def uptoBulkAll {H : Type} : List (DataW H) → Nat
  | [] => 0
  | d :: r => uptoBulk d + uptoBulkAll r
def uptoBulkEntries {H : Type} : List (Lit × DataW H) → Nat
  | [] => 0
  | x :: r => uptoBulkEntry x + uptoBulkEntries r
def uptoBulkEntry {H : Type} : Lit × DataW H → Nat
  | (.string bytes, d) => bytes.length + uptoBulk d + 1
  | (_, d) => uptoBulk d + 1
 end
def uptoSmall : (H : Type) → List (DataW H) → Bool := fun _ ds => decide (uptoBulkAll ds ≤ 1048576)
def OpenSpec.upto (s : _root_.Go.ChangeSpec) : _root_.Go.OpenSpec := { _root_.Go.OpenSpec.ofChange s with cond := some uptoSmall }

/-- 'reticentlaw20.PropTests', WHERE WHAT IT READS IS OF BULK AT MOST 1048576: true; the input reads as it did. -/
def propTestsUptoRow : OpenClaim := { program := "ytmjcpkmongafnaagreatdoor", sum := "118d5ac96c086fd5bff8180e829bf4938a7504a5638400b3a550174b875ce859", func := "reticent/reticentlaw20.PropTests", spec := "propTests", unfollowed := true, recurses := true, named := ["reticent/table.arities"], apart := false, laid := [("reticent/table.arities", laid_reticent_table_arities)], narrowed := true }
def PropTestsUptoSaid : Prop := propTestsUptoRow.holds Tryz.pinned (OpenSpec.upto propTestsSpec)

/-- 'reticentlaw20.PropSelf', WHERE WHAT IT READS IS OF BULK AT MOST 1048576: true; the input reads as it did. -/
def propSelfUptoRow : OpenClaim := { program := "ytmjcpkmongafnaagreatdoor", sum := "118d5ac96c086fd5bff8180e829bf4938a7504a5638400b3a550174b875ce859", func := "reticent/reticentlaw20.PropSelf", spec := "propSelf", unfollowed := true, recurses := true, named := ["reticent/table.arities"], apart := false, laid := [("reticent/table.arities", laid_reticent_table_arities)], narrowed := true }
def PropSelfUptoSaid : Prop := propSelfUptoRow.holds Tryz.pinned (OpenSpec.upto propSelfSpec)

/-- 'reticentlaw20.PropSeen', WHERE WHAT IT READS IS OF BULK AT MOST 1048576: true; the input reads as it did. -/
def propSeenUptoRow : OpenClaim := { program := "ytmjcpkmongafnaagreatdoor", sum := "118d5ac96c086fd5bff8180e829bf4938a7504a5638400b3a550174b875ce859", func := "reticent/reticentlaw20.PropSeen", spec := "propSeen", unfollowed := true, recurses := true, named := ["reticent/table.arities"], apart := false, laid := [("reticent/table.arities", laid_reticent_table_arities)], narrowed := true }
def PropSeenUptoSaid : Prop := propSeenUptoRow.holds Tryz.pinned (OpenSpec.upto propSeenSpec)

end Rows
end Go.Proofs.YtmjcpkmongafnaaGreatDoor
