import Derived.Orders
import Derived.OrdersIn
import Derived.RangeFuncRecord
import Derived.Calls
import Derived.WalkKit
import Derived.Maps.AppendAt
import Derived.Laws.Rows
import Derived.Laws.Tables
import Derived.KernelRfl
set_option linter.unusedVariables false
namespace Go.Proofs.YtkmobcaobmchpaaGreatDoor.Ab
open Go Go.RowKit
abbrev Str := List UInt8
abbrev FH := Nat → Option Obj
def FH.le (H H' : FH) : Prop := ∀ b o, H b = some o → H' b = some o
def gl0 : List Str := [[110, 111, 111, 112], [112, 117, 115, 104], [112, 111, 112], [97, 100, 100], [115, 117, 98], [108, 111, 97, 100], [115, 116, 111, 114, 101], [106, 117, 109, 112], [98, 110, 122], [99, 97, 108, 108], [114, 101, 116, 117, 114, 110], [111, 117, 116, 112, 117, 116], [104, 97, 108, 116]]
def globs : List (Nat × List Value) := [(0, gl0.map fun s => Value.string ⟨⟨s⟩⟩)]
def ints : List Nat := [2]
structure Base (H : FH) : Prop where
  tab : ∀ q ∈ globs, ∃ t fr, H q.1 = some (.cells q.2.toArray t fr)
  int_ : ∀ b ∈ ints, ∃ (m : Int) (t : TypeId) (fr : Nat × Nat), H b = some (.cells #[.int .i64 m] t fr)
theorem Base.mono {H H' : FH} (h : Base H) (hl : FH.le H H') : Base H' := ⟨fun q hq => let ⟨t, fr, e⟩ := h.tab q hq; ⟨t, fr, hl _ _ e⟩, fun q hq => let ⟨m, t, fr, e⟩ := h.int_ q hq; ⟨m, t, fr, hl _ _ e⟩⟩
end Go.Proofs.YtkmobcaobmchpaaGreatDoor.Ab
