/- The package's own variables, of which this claim's row speaks. -/
import Derived.Orders
import Derived.OrdersIn
import Derived.RangeFuncRecord
import Derived.Calls
import Derived.WalkKit
import Derived.Maps.AppendAt
import Derived.Laws.Rows
import Derived.Laws.Tables
import Derived.KernelRfl
set_option linter.unusedVariables false
namespace Go.Proofs.Ytjkijjhjffodcaa.Ab
open Go Go.RowKit

abbrev Str := List UInt8
/-! ### Frozen memory -/
abbrev FH := Nat → Option Obj
def FH.le (H H' : FH) : Prop := ∀ b o, H b = some o → H' b = some o

def globs : List (Nat × List Value) := []
def Base (H : FH) : Prop := ∀ q ∈ globs, ∃ t fr, H q.1 = some (.cells q.2.toArray t fr)
theorem Base.mono {H H' : FH} (h : Base H) (hl : FH.le H H') : Base H' := fun q hq => let ⟨t, fr, e⟩ := h q hq; ⟨t, fr, hl _ _ e⟩
end Go.Proofs.Ytjkijjhjffodcaa.Ab
